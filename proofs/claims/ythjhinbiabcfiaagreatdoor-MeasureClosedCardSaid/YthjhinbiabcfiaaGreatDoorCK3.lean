/- Area vectors of a solid's faces: the proof of MeasureClosedCardSaid (the law's function answers true at every record it can be given; theorem measureClosed_card, last part), part 3 of 7; no condition. -/
import Derived.Test.YthjhinbiabcfiaaGreatDoorCK2
namespace Go.Proofs.YthjhinbiabcfiaaGreatDoor
open Go Go.RowKit Tryz
variable{i m a q b j size e d off cc N r len k1 n2 k2 A n1 U a1 m1:Nat}{w w':h_}{ι aA bZ:Map}{o:Oper}{c:g_}{f:FuncId}{B Bs:aa}{t:Bool}{fr:aT}{M Os cz Vs:aM}{ty:TypeId}{xs args ca cells' args' eW pre:ak}{α:Type}{fn:Func}{u v' res:i_}{fs:f_}{P:j_}{z:Int}{Q:Ending->World->Prop}{ks:List (Value×ak)}
theorem aLi{x:m_}{k:Nat}(r:RV)(ho:dF o.op=some x):cI prog B o (.func (.func 121) #[] #[]::[r.v]) [(k,none)] (.func (.func 164) #[] #[.pointer (some ⟨k,0,some 7⟩)]) [(k,.aK r.cs 38)]:=
 aBU mixed func121 ho k_ 50 (λ_=>[]) (λ_=>k_) k_ k_
def ux(r:RV):aM:=[(0,.aK r.cs 38),(1,.aK [.bool false] 4),(2,.aK r.cs 38)]
def F8:aT:=[(1,bN 0),(2,bN 1),(6,.func (.func 164) #[] #[bN 2])]
theorem aLj(r:RV):ah prog B 12 (Ae f67 0) (jh 0 [r.v]) [] 0 ⟨.normal,[(1,bN 0),(2,bN 1)],[(0,.aK r.cs 38),(1,.aK [.bool false] 4)],2⟩:=
 fF mixed 10 [] k_
theorem aLk(r:RV):ah prog B 12 (Ae f67 1) [(1,bN 0),(2,bN 1)] [(0,.aK r.cs 38),(1,.aK [.bool false] 4)] 2 ⟨.normal,F8,ux r,3⟩:=
 fF mixed 10 [.step 6 (au f67 6) _ _ _ _ (aLi (k:=2) (x:=.func 121) r k_)] k_
theorem aLl(r:RV)(x:RN)(i:Int)(b:Bool)(hx:aG prog 54 [x.v] (.bool b)):
  IE prog 3 12 #[7,8] (DY (rR f67)) (DZ (rR f67)) F8 (ux r) [] (ux r) [.int .i64 i,x.v] (if b then none else some .ret):=by
 cases b
 ·exact Ld (rA:=⟨.normal,(4,bN 4)::F8,(4,.aK x.cs 33)::ux r,5⟩) (rB:=⟨.ret,[],ux r,5⟩) k_ k_ k_ k_ k_ k_ k_ k_ rfl (λB=>fF mixed 10 [] k_) rfl k_ rfl
   (λB=>fF mixed 10 [hx.at 10] k_) (λk x h=>h) rfl
 ·exact Ld (rA:=⟨.normal,(4,bN 4)::F8,(4,.aK x.cs 33)::ux r,5⟩) (rB:=⟨.normal,[],ux r,5⟩) k_ k_ k_ k_ k_ k_ k_ k_ rfl (λB=>fF mixed 10 [] k_) rfl k_ rfl
   (λB=>fF mixed 10 [hx.at 10] k_) (λk x h=>h) rfl
theorem aLm(r:RV):ah prog B 12 (.seq (Ae f67 5) .ret) F8 (ux r) 3 ⟨.ret,[(2,bN 1)],[(1,.aK [.bool true] 4)],3⟩:=fF mixed 10 [] k_
theorem aLn{r:RV}{bx Ce bz:Bool}(hx:aG prog 54 [r.x.v] (.bool bx))(hy:aG prog 54 [r.y.v] (.bool Ce))(hz:aG prog 54 [r.z.v] (.bool bz)){T:p_}{m:Map}{S:Nat->Prop}(fT:Ab prog 3 12 F8 (ux r) m S T)
  {cT:FuncId} {l D:Nat} {W1 W:h_} {κ:Map} {c:g_} {eg:ak} (hm:aO (kW W1 l S m) κ c W) (ha:cY c ((3,.fact (fJ l (j7 cT T #[7,8] (DY (rR f67)) (DZ (rR f67)) D)))::(ux r++[]))) (hu:eK c (3+1)) (fB:bY (aL κ) [bN 2] eg) :
  Calls prog 164 (.func (.yield l) #[] #[]::eg).toArray W λe W'=>∃ v qM c',e=.returned v/\Map.le κ qM/\aO (kW W1 l S m) qM c' W'/\
   cY c' ((3,.fact (fJ l (DU (j7 cT T #[7,8] (DY (rR f67)) (DZ (rR f67)) D) (if bx&&Ce&&bz then none else some .ret))))::(ux r++[]))/\∀ k,k<3->c k=none->c' k=none:=by
 have st:=λ(x:RN) (i:Int) (b:Bool) (h:aG prog 54 [x.v] (.bool b))=>K7 (W1:=W1) (l:=l) (D:=D) (cT:=cT) (x:=.tmp 16) (o:=au f164 19) (aLl r x i b h) k_ fT.size fT.jh fT.low fT.set fT.born
 cases bx
 ·exact D0 mixed func164 rfl 100 (v:=.tuple #[]) (rs:=[.step 19 _ _ _ _ _ (st r.x 0 _ hx)]) hm ha hu fB k_
 ·cases Ce
  ·exact D0 mixed func164 rfl 100 (v:=.tuple #[]) (rs:=[.step 19 _ _ _ _ _ (st r.x 0 _ hx),.step 19 _ _ _ _ _ (st r.y 1 _ hy)]) hm ha hu fB k_
  ·cases bz
   ·exact D0 mixed func164 rfl 100 (v:=.tuple #[]) (rs:=[.step 19 _ _ _ _ _ (st r.x 0 _ hx),.step 19 _ _ _ _ _ (st r.y 1 _ hy),.step 19 _ _ _ _ _ (st r.z 2 _ hz)]) hm ha hu fB k_
   ·exact D0 mixed func164 rfl 100 (v:=.tuple #[]) (rs:=[.step 19 _ _ _ _ _ (st r.x 0 _ hx),.step 19 _ _ _ _ _ (st r.y 1 _ hy),.step 19 _ _ _ _ _ (st r.z 2 _ hz)]) hm ha hu fB k_
theorem Po{r:RV}{bx Ce bz:Bool}(hx:aG prog 54 [r.x.v] (.bool bx))(hy:aG prog 54 [r.y.v] (.bool Ce))(hz:aG prog 54 [r.z.v] (.bool bz)):
  aG prog 67 [r.v] (.bool (bx&&Ce&&bz)):=by
 refine aBT (N:=12) func67 rfl rfl k_ λw a hf hm=>?_;refine mG (aLj r none _ _ a w _ hf hm n_ (λ_ _=>rfl) λui cc0 a0 w0 aBV Br kD nT zO x7 _=>?_);refine mG (mG (aLk r none _ _ a0 w0 _ Br kD nT zO λbZ gF a1 w1 jv iG c7 eL dS iq _=>J7 ?_))
 refine U3 (next:=3) (Os:=ux r) (Vs:=[]) (cz:=ux r) (gf:=164) (ca:=[bN 2]) (j:=if bx&&Ce&&bz then none else some .ret) iG c7 eL dS (λk x h=>lN (p:=λp=>p.2.owns) k_ h) n_ k_ k_ k_ (λk=>Iff.rfl) (λk x h=>lN (p:=λp=>p.2.owns) k_ h) (λk x h=>Af (lN (p:=mO 3) k_ h))
  (λcT l D W1 S fT κ c W eg hm ha hu fB=>aLn hx hy hz fT hm ha hu fB) λD ct w' DW hDw je dI gR e8=>?_
 by_cases hb:(bx&&Ce&&bz)=true
 ·rw[aB hb,hb];exact aBQ (B:=aa.at w) (v:=.bool true) (λB=>aLm r) rfl k_ je dI gR e8 rfl (λF h=>h) DW λaA v' w' hc hG=>⟨by rw[hc.fD rfl],hG⟩
 ·rw[az hb];refine wpIn_ret (aBS (B:=aa.at w) (fr:=F8) (M:=ux r++[]) (v:=.bool false) k_ je dI gR rfl (λF h=>h) DW λaA v' w' hc hG=>⟨?_,hG⟩);rw[hc.fD rfl];cases hc:bx&&Ce&&bz
  ·rfl
  ·exact absurd hc hb
inductive aP where
 |p (v:i_)
 |r (n:Nat) (xs:ak)
 |q (xs:ak)
 |f (g:FuncId) (xs:ak)
 |b (n:Nat) (xs:ak)
 |o (F:Fact)
 |s (n1:Nat) (iS:ak) (n2:Nat) (jA:ak) (F:Fact)
 |a (n1:Nat) (iS:ak) (n2:Nat) (jA:ak) (n3:Nat) (F9:ak)
 |c (u:i_) (F:Fact)
variable{l:List aP}
def Pp(w:h_)(v:i_)(xs:ak):Prop:=∃ b o,v=.pointer (some ⟨b,o,none⟩)/\b<w.heap.size/\∀(j:Nat) u,xs[j]?=some u->w.cell? ⟨b,o+j,none⟩=some u
def Cf(w:h_)(v:i_)(F:Fact):Prop:=F.G v w/\v.cells=#[v]/\v.oneCell'=true
def aP.In(w:h_):aP->Value->Prop
 |.p u,v=>v=u
 |.r n xs,v=>dp w v n xs
 |.q xs,v=>Pp w v xs
 |.f g xs,v=>∃ u,v=.func (.func g) #[] #[u]/\Pp w u xs
 |.b n xs,v=>∃ b o u,v=.pointer (some ⟨b,o,none⟩)/\b<w.heap.size/\w.cell? ⟨b,o,none⟩=some u/\dp w u n xs
 |.o F,v=>Cf w v F
 |.s n1 iS n2 jA F,v=>∃ u1 u2 u3,v=.agg #[u1,u2,u3]/\dp w u1 n1 iS/\dp w u2 n2 jA/\Cf w u3 F
 |.a n1 iS n2 jA n3 F9,v=>∃ u1 u2 u3,v=.agg #[u1,u2,u3]/\dp w u1 n1 iS/\dp w u2 n2 jA/\dp w u3 n3 F9
 |.c u F,v=>∃ t,v=.agg #[u,t]/\Cf w t F
def aP.ok:aP->Bool
 |.p v=>flat v
 |.r _ xs=>xs.all flat
 |.q xs=>xs.all flat
 |.f _ xs=>xs.all flat
 |.b _ xs=>xs.all flat
 |.o F=>!F.rc
 |.s _ iS _ jA F=>iS.all flat&&(jA.all flat&&!F.rc)
 |.a _ iS _ jA _ F9=>iS.all flat&&(jA.all flat&&F9.all flat)
 |.c u F=>flat u&&!F.rc
inductive wD(w:h_):List aP->ak->Prop
 |nil:wD w [] []
 |cons {a:aP} {v:i_} {l:List aP} {vs:ak}:a.In w v->wD w l vs->wD w (a::l) (v::vs)
def e6:Nat->List aP->ak
 |_,[]=>[]
 |k,.p v::l=>v::e6 k l
 |k,.r n _::l=>.slice (some ⟨k,0,some 7⟩) n 0::e6 (k+1) l
 |k,.q _::l=>.pointer (some ⟨k,0,some 7⟩)::e6 (k+1) l
 |k,.f g _::l=>.func (.func g) #[] #[.pointer (some ⟨k,0,some 7⟩)]::e6 (k+1) l
 |k,.b _ _::l=>.pointer (some ⟨k+1,0,some 7⟩)::e6 (k+2) l
 |k,.o _::l=>.pointer (some ⟨k,0,some 9⟩)::e6 (k+1) l
 |k,.s n1 _ n2 _ _::l=>.agg #[.slice (some ⟨k,0,some 7⟩) n1 0,.slice (some ⟨k+1,0,some 7⟩) n2 0,.pointer (some ⟨k+2,0,some 9⟩)]::e6 (k+3) l
 |k,.a n1 _ n2 _ n3 _::l=>.agg #[.slice (some ⟨k,0,some 7⟩) n1 0,.slice (some ⟨k+1,0,some 7⟩) n2 0,.slice (some ⟨k+2,0,some 7⟩) n3 0]::e6 (k+3) l
 |k,.c u _::l=>.agg #[u,.pointer (some ⟨k,0,some 9⟩)]::e6 (k+1) l
def jB:Nat->List aP->aM
 |_,[]=>[]
 |k,.p _::l=>jB k l
 |k,.r _ xs::l=>(k,.view xs)::jB (k+1) l
 |k,.q xs::l=>(k,.view xs)::jB (k+1) l
 |k,.f _ xs::l=>(k,.view xs)::jB (k+1) l
 |k,.b n xs::l=>(k,.view xs)::(k+1,.view [.slice (some ⟨k,0,some 7⟩) n 0])::jB (k+2) l
 |k,.o F::l=>(k,.fact F)::jB (k+1) l
 |k,.s _ iS _ jA F::l=>(k,.view iS)::(k+1,.view jA)::(k+2,.fact F)::jB (k+3) l
 |k,.a _ iS _ jA _ F9::l=>(k,.view iS)::(k+1,.view jA)::(k+2,.view F9)::jB (k+3) l
 |k,.c _ F::l=>(k,.fact F)::jB (k+1) l
def jQ:Nat->List aP->Nat
 |k,[]=>k
 |k,.p _::l=>jQ k l
 |k,.r _ _::l=>jQ (k+1) l
 |k,.q _::l=>jQ (k+1) l
 |k,.f _ _::l=>jQ (k+1) l
 |k,.b _ _::l=>jQ (k+2) l
 |k,.o _::l=>jQ (k+1) l
 |k,.s _ _ _ _ _::l=>jQ (k+3) l
 |k,.a _ _ _ _ _ _::l=>jQ (k+3) l
 |k,.c _ _::l=>jQ (k+1) l
theorem aBW(hm:aO B ι c w){k:Nat}{v:i_}(hk:c k=none)(h:Pp w v xs)(cR:∀ u∈xs,flat u=true)(fU:∀ j x,c j=some x->x.owns=false):
  ∃ aA,Map.le ι aA/\aO B aA (bt c k (.view xs)) w/\aL aA (.pointer (some ⟨k,0,some 7⟩)) v:=by
 obtain⟨b,o,rfl,h2,h3⟩:=h;refine⟨dR ι k (.at b o 0),gZ (hm.dE k hk),hm.add hk (.inr ⟨b,o,0,xs,rfl,k6 cR,h3⟩) n_ n_ (λb1 o1 lY _ e=>?_),?_⟩
 ·injection e with e1 e2 e3;subst e1;exact⟨h2,λj y o' aQ hj hy=>by rw[fU j y hj]at hy;cases hy⟩
 ·have:=aL.ptr (off:=0) (fX ι k (.at b o 0));rwa[jg]at this
def Ag(B:aa)(w:h_)(k:Nat)(ι:Map)(c:g_)(L:aM)(n:Nat)(aA:Map)(c':g_):Prop:=
 Map.le ι aA/\aO B aA c' w/\(∀ j x,c' j=some x->x.owns=false)/\eK c' n/\cY c' L/\(∀ j,j<k->c' j=c j)/\k<=n/\(∀ j x,ai L j=some x->k<=j/\j<n)
theorem aLo{k:Nat}(hm:aO B ι c w)(ho:∀ j x,c j=some x->x.owns=false)(hu:eK c k):Ag B w k ι c [] k ι c:=
 ⟨Map.le.refl _,hm,ho,hu,λj x h=>(by cases h),λ_ _=>rfl,bF _,λj x h=>(by cases h)⟩
theorem Lf{k:Nat}{x:Obj}(ho:∀ j x,c j=some x->x.owns=false)(hu:eK c k)(hle:Map.le ι bZ)(hm:aO B bZ (bt c k x) w)(hx:x.owns=false):Ag B w k ι c [(k,x)] (k+1) bZ (bt c k x):=by
 refine⟨hle,hm,λj y hj=>?_,λj hj=>?_,λj y hj=>?_,λj hj=>?_,zk _,λj y hj=>?_⟩
 ·unfold bt at hj;by_cases cg:j=k
  ·rw[aB cg]at hj;injection hj with hj;subst hj;exact hx
  ·rw[az cg]at hj;exact ho j y hj
 ·unfold bt;rw[az o_];exact hu j o_
 ·unfold ai at hj;split at hj
  ·rename_i hb;injection hj with hj;subst hj;unfold bt;rw[aB (k9 hb).symm]
  ·cases hj
 ·unfold bt;rw[az o_]
 ·unfold ai at hj;split at hj
  ·rename_i hb;have:=k9 hb;omega
  ·cases hj
theorem Ag.trans{k n:Nat}{c1 c2:g_}{L L2:aM}(h:Ag B w k ι c L n bZ c1)(h2:Ag B w n bZ c1 L2 m aA c2):Ag B w k ι c (L++L2) m aA c2:=by
 obtain⟨a1,a2,a3,a4,a5,a6,a7,a8⟩:=h;obtain⟨b1,b2,b3,b4,b5,b6,b7,b8⟩:=h2;refine⟨a1.trans b1,b2,b3,b4,λj x hj=>?_,λj hj=>by rw[b6 j o_,a6 j hj],by omega,λj x hj=>?_⟩
 ·rw[iE]at hj;cases e:ai L j with
  |some y=>
   rw[e]at hj;injection hj with hj;subst hj;rw[b6 j (a8 j _ e).2];exact a5 j _ e
  |none=>rw[e]at hj;exact b5 j x hj
 ·rw[iE]at hj;cases e:ai L j with
  |some y=>rw[e]at hj;injection hj with hj;subst hj;have:=a8 j _ e;omega
  |none=>rw[e]at hj;have:=b8 j x hj;omega
theorem Ga{k n:Nat}(hm:aO B ι c w)(ho:∀ j x,c j=some x->x.owns=false)(hu:eK c k)(h:dp w u n xs)(cR:xs.all flat=true):
  ∃ aA c',Ag B w k ι c [(k,.view xs)] (k+1) aA c'/\aL aA (.slice (some ⟨k,0,some 7⟩) n 0) u:=by
 obtain⟨bZ,q1,q2,q3⟩:=zu hm (hu k (bF _)) h (bB.1 cR) λb o c' _ j y o' aQ hj hy=>by rw[ho j y hj]at hy;cases hy
 exact⟨bZ,_,Lf ho hu q1 q2 rfl,q3⟩
theorem U8{k:Nat}{F:Fact}(hm:aO B ι c w)(ho:∀ j x,c j=some x->x.owns=false)(hu:eK c k)(h:Cf w u F)(xc:F.rc=false):
  ∃ aA c',Ag B w k ι c [(k,.fact F)] (k+1) aA c'/\aL aA (.pointer (some ⟨k,0,some 9⟩)) u:=by
 refine⟨dR ι k (.val u),bt c k (.fact F),Lf ho hu (gZ (hm.dE k (hu k (bF _)))) (hm.add (hu k (bF _)) ⟨u,rfl,h.1⟩ n_ (λF' v b e1 e2 hF j y o' aQ hj hy=>by rw[ho j y hj]at hy;cases hy) n_ λF' e hr=>?_) rfl,.opq (fX _ _ _) h.2.1 h.2.2⟩;injection e with e;subst e;rw[xc]at hr;cases hr
theorem x8{B:aa}{w:h_}:∀{l:List aP} {vs:ak},wD w l vs->(∀ a∈l,aP.ok a=true)->∀(k:Nat) (ι:Map) (c:g_),aO B ι c w->(∀ j x,c j=some x->x.owns=false)->eK c k->
  ∃ aA c',Map.le ι aA/\aO B aA c' w/\eK c' (jQ k l)/\cY c' (jB k l)/\(∀ j,j<k->c' j=c j)/\bY (aL aA) (e6 k l) vs/\k<=jQ k l
 |_,_,.nil,_,k,ι,c,hm,ho,hu=>⟨ι,c,Map.le.refl _,hm,hu,λk x h=>(by cases h),λ_ _=>rfl,.nil,bF _⟩
 |_,_,.cons (a:=a) (v:=v) (l:=l) (vs:=vs) h hs,aC,k,ι,c,hm,ho,hu=>by
  have Cg:∀ a∈l,aP.ok a=true:=λa ha=>aC a (bI _ ha);have qN:=aC a (aR ..);have go:∀(L:aM) (n:Nat) (u:i_) (bZ:Map) (c1:g_),Ag B w k ι c L n bZ c1->aL bZ u v->
    ∃ aA c',Map.le ι aA/\aO B aA c' w/\eK c' (jQ n l)/\cY c' (L++jB n l)/\(∀ j,j<k->c' j=c j)/\bY (aL aA) (u::e6 n l) (v::vs)/\k<=jQ n l:=by
   intro L n u bZ c1 ⟨q1,q2,q3,q4,q5,q6,q7,q8⟩ q9;obtain⟨aA,c',h1,h2,h3,h4,h5,h6,h7⟩:=x8 hs Cg n bZ c1 q2 q3 q4;refine⟨aA,c',q1.trans h1,h2,h3,λj x hj=>?_,λj hj=>by rw[h5 j o_,q6 j hj],.cons (q9.mono h1) h6,by omega⟩;rw[iE]at hj;cases e:ai L j with
   |some y=>
    rw[e]at hj;injection hj with hj;subst hj;rw[h5 j (q8 j _ e).2];exact q5 j _ e
   |none=>rw[e]at hj;exact h4 j x hj
  cases a with
  |p u=>
   cases h;exact go [] k _ ι c (aLo hm ho hu) (.same qN)
  |r n xs=>
   obtain⟨bZ,c1,q1,q2⟩:=Ga hm ho hu h qN;exact go _ _ _ bZ c1 q1 q2
  |q xs=>
   obtain⟨bZ,q1,q2,q3⟩:=aBW hm (hu k (bF _)) h (bB.1 qN) ho;exact go _ _ _ bZ _ (Lf ho hu q1 q2 rfl) q3
  |f g xs=>
   obtain⟨u,rfl,pJ⟩:=h;obtain⟨bZ,q1,q2,q3⟩:=aBW hm (hu k (bF _)) pJ (bB.1 qN) ho;exact go _ _ _ bZ _ (Lf ho hu q1 q2 rfl) (.fn .nil (.cons q3 .nil))
  |b n xs=>
   obtain⟨b,o,u,rfl,hb,lD,jL⟩:=h;obtain⟨bZ,c1,q1,q2⟩:=Ga hm ho hu jL qN;obtain⟨a1,a2,a3,a4,a5,a6,a7,a8⟩:=q1;have dI:aO B (dR bZ (k+1) (.at b o 0)) (bt c1 (k+1) (.view [.slice (some ⟨k,0,some 7⟩) n 0])) w:=by
    refine a2.add (a4 _ (bF _)) (.inr ⟨b,o,0,[u],rfl,.cons (q2.mono (gZ (a2.dE _ (a4 _ (bF _))))) .nil,λj x hj=>?_⟩) n_ n_ (λb1 o1 lY _ e1=>?_)
    ·cases j with
     |zero=>simp at hj;subst hj;exact lD
     |succ j=>simp at hj
    ·injection e1 with e1 e2 e3;subst e1;exact⟨hb,λj y o' aQ hj hy=>by rw[a3 j y hj]at hy;cases hy⟩
   have h2:=Lf a3 a4 (gZ (a2.dE _ (a4 _ (bF _)))) dI rfl;have:=aL.ptr (off:=0) (fX bZ (k+1) (.at b o 0));rw[jg]at this;exact go _ _ _ _ _ (Ag.trans ⟨a1,a2,a3,a4,a5,a6,a7,a8⟩ h2) this
  |o F=>
   obtain⟨bZ,c1,q1,q2⟩:=U8 hm ho hu h (by simpa[aP.ok]using qN);exact go _ _ _ bZ c1 q1 q2
  |s n1 iS n2 jA F=>
   simp only[aP.ok,de,zn]at qN;obtain⟨u1,u2,u3,rfl,r1,r2,r3⟩:=h;obtain⟨bZ,c1,q1,p1⟩:=Ga hm ho hu r1 qN.1;obtain⟨dO,c2,q2,p2⟩:=Ga q1.2.1 q1.2.2.1 q1.2.2.2.1 r2 qN.2.1;obtain⟨Pq,c3,q3,p3⟩:=U8 q2.2.1 q2.2.2.1 q2.2.2.2.1 r3 qN.2.2;exact go _ _ _ Pq c3 (q1.trans (q2.trans q3)) (.agg (.cons (p1.mono (q2.1.trans q3.1)) (.cons (p2.mono q3.1) (.cons p3 .nil))))
  |a n1 iS n2 jA n3 F9=>
   simp only[aP.ok,de]at qN;obtain⟨u1,u2,u3,rfl,r1,r2,r3⟩:=h;obtain⟨bZ,c1,q1,p1⟩:=Ga hm ho hu r1 qN.1;obtain⟨dO,c2,q2,p2⟩:=Ga q1.2.1 q1.2.2.1 q1.2.2.2.1 r2 qN.2.1;obtain⟨Pq,c3,q3,p3⟩:=Ga q2.2.1 q2.2.2.1 q2.2.2.2.1 r3 qN.2.2;exact go _ _ _ Pq c3 (q1.trans (q2.trans q3)) (.agg (.cons (p1.mono (q2.1.trans q3.1)) (.cons (p2.mono q3.1) (.cons p3 .nil))))
  |c u F=>
   simp only[aP.ok,de,zn]at qN;obtain⟨t,rfl,h⟩:=h;obtain⟨bZ,c1,q1,q2⟩:=U8 hm ho hu h qN.2;exact go _ _ _ bZ c1 q1 (.agg (.cons (.same qN.1) (.cons q2 .nil)))
def cy(P:j_)(f:FuncId)(l:List aP)(res:i_):Prop:=
 ∀ w vs,wD w l vs->Calls P f vs.toArray w λe w'=>e=.returned res/\Below w.heap.size w w'
def lO(P:j_)(f:FuncId)(l:List aP)(ty:TypeId)(size n:Nat)(xs:ak):Prop:=
 ∀ w vs,wD w l vs->Calls P f vs.toArray w λe w'=>∃ v,e=.returned v/\w'.ownsRow w.heap.size ty size v n xs/\Below w.heap.size w w'
section
variable{P:j_}{B:aa}{N:Nat}
theorem jC{v:i_}(iO:P.follows .mixedOrders=true)(hf:P.funcs[f]?=some fn)(hl:(l.all aP.ok)=true)(n:Nat){N:Nat}(hN:N=(e6 0 l).length+(fn.ntmps-(e6 0 l).length))
  (rs:∀ w,bM P (aa.at w) N) (h:∀ w,oX (hJ (P:=P) fn n (e6 0 l) (jB 0 l) (jQ 0 l) (rs w)) []=oY (hJ fn n (e6 0 l) (jB 0 l) (jQ 0 l) (rs w)) v []) (hv:flat v=true):cy P f l v:=by
 intro w vs cC;obtain⟨ι,c,h1,h2,h3,h4,h5,h6,h7⟩:=x8 cC (bB.1 hl) 0 _ _ (ub w) n_ (λ_ _=>rfl);exact u9 iO hf hN n (h w) h6 h2 h4 h3 λaA ct v' w' hle hc hm _=>⟨by rw[hc.fD hv],hm.base⟩
theorem x9{k:Nat}(iO:P.follows .mixedOrders=true)(hf:P.funcs[f]?=some fn)(hl:(l.all aP.ok)=true)(n:Nat){N:Nat}(hN:N=(e6 0 l).length+(fn.ntmps-(e6 0 l).length))
  (rs:∀ w,bM P (aa.at w) N) (h:∀ w,oX (hJ (P:=P) fn n (e6 0 l) (jB 0 l) (jQ 0 l) (rs w)) [(k,.row xs ty size)]=oY (hJ fn n (e6 0 l) (jB 0 l) (jQ 0 l) (rs w)) (.slice (some ⟨k,0,some 7⟩) m 0) [(k,.row xs ty size)])
  (hx:(xs.all flat)=true) (hlen:xs.length=m*size):lO P f l ty size m xs:=by
 intro w vs cC;obtain⟨ι,c,h1,h2,h3,h4,h5,h6,h7⟩:=x8 cC (bB.1 hl) 0 _ _ (ub w) n_ (λ_ _=>rfl);refine u9 iO hf hN n (h w) h6 h2 h4 h3 λaA ct v' w' hle hc hm dP=>⟨v',rfl,?_,hm.base⟩;have:=xm hm (dP (k,_) (aR ..)) hc o_ (bB.1 hx);rwa[<-hlen,n9]at this
inductive gA(B:aa):List aP->ak->List (Nat×Option Obj)->Prop
 |nil:gA B [] [] []
 |p {v:i_} {l:List aP} {vs:ak} {nd:q_}:flat v=true->gA B l vs nd->gA B (.p v::l) (v::vs) nd
 |w {k n cc:Nat} {x:Obj} {l:List aP} {vs:ak} {nd:q_}:x.reads=true->(x.cells.all flat)=true->(n=0->x.cells=[])->gA B l vs nd->gA B (.r n x.cells::l) (.slice (some ⟨k,0,some 7⟩) n cc::vs) ((k,some x)::nd)
 |r {k off n cc len:Nat} {x:Obj} {l:List aP} {vs:ak} {nd:q_}:x.reads=true->(x.cells.all flat)=true->(n=0->len=0)->gA B l vs nd->gA B (.r n ((x.cells.drop off).take len)::l) (.slice (some ⟨k,off,some 7⟩) n cc::vs) ((k,some x)::nd)
 |q {k:Nat} {x:Obj} {l:List aP} {vs:ak} {nd:q_}:x.reads=true->(x.cells.all flat)=true->gA B l vs nd->gA B (.q x.cells::l) (.pointer (some ⟨k,0,some 7⟩)::vs) ((k,some x)::nd)
 |f {g:FuncId} {k:Nat} {x:Obj} {l:List aP} {vs:ak} {nd:q_}:x.reads=true->(x.cells.all flat)=true->gA B l vs nd->gA B (.f g x.cells::l) (.func (.func g) #[] #[.pointer (some ⟨k,0,some 7⟩)]::vs) ((k,some x)::nd)
 |b {k m n cc:Nat} {x y:Obj} {l:List aP} {vs:ak} {nd:q_}:y.reads=true->y.cells=[.slice (some ⟨k,0,some 7⟩) n cc]->x.reads=true->(x.cells.all flat)=true->(n=0->x.cells=[])->gA B l vs nd->gA B (.b n x.cells::l) (.pointer (some ⟨m,0,some 7⟩)::vs) ((m,some y)::(k,some x)::nd)
 |o {k:Nat} {F:Fact} {l:List aP} {vs:ak} {nd:q_}:gA B l vs nd->gA B (.o F::l) (.pointer (some ⟨k,0,some 9⟩)::vs) ((k,some (.fact F))::nd)
 |e {v:i_} {n:Nat} {xs:ak} {l:List aP} {vs:ak} {nd:q_}:flat v=true->(∀ w,B.G w->dp w v n xs)->gA B l vs nd->gA B (.r n xs::l) (v::vs) nd
 |s {k1 n1 c1 k2 n2 c2 k3:Nat} {x1 x2:Obj} {F:Fact} {l:List aP} {vs:ak} {nd:q_}:x1.reads=true->(x1.cells.all flat)=true->(n1=0->x1.cells=[])->x2.reads=true->(x2.cells.all flat)=true->(n2=0->x2.cells=[])->gA B l vs nd->
   gA B (.s n1 x1.cells n2 x2.cells F::l) (.agg #[.slice (some ⟨k1,0,some 7⟩) n1 c1,.slice (some ⟨k2,0,some 7⟩) n2 c2,.pointer (some ⟨k3,0,some 9⟩)]::vs) ((k1,some x1)::(k2,some x2)::(k3,some (.fact F))::nd)
 |oi {k:Nat} {F F':Fact} {l:List aP} {vs:ak} {nd:q_}:(∀ v w,F'.G v w->F.G v w)->gA B l vs nd->gA B (.o F::l) (.pointer (some ⟨k,0,some 9⟩)::vs) ((k,some (.fact F'))::nd)
 |si {k1 n1 c1 k2 n2 c2 k3:Nat} {x1 x2:Obj} {F F':Fact} {l:List aP} {vs:ak} {nd:q_}:(∀ v w,F'.G v w->F.G v w)->x1.reads=true->(x1.cells.all flat)=true->(n1=0->x1.cells=[])->x2.reads=true->(x2.cells.all flat)=true->(n2=0->x2.cells=[])->gA B l vs nd->
   gA B (.s n1 x1.cells n2 x2.cells F::l) (.agg #[.slice (some ⟨k1,0,some 7⟩) n1 c1,.slice (some ⟨k2,0,some 7⟩) n2 c2,.pointer (some ⟨k3,0,some 9⟩)]::vs) ((k1,some x1)::(k2,some x2)::(k3,some (.fact F'))::nd)
 |c {u:i_} {k:Nat} {F F':Fact} {l:List aP} {vs:ak} {nd:q_}:flat u=true->(∀ v w,F'.G v w->F.G v w)->gA B l vs nd->gA B (.c u F::l) (.agg #[u,.pointer (some ⟨k,0,some 9⟩)]::vs) ((k,some (.fact F'))::nd)
theorem Ah(hm:aO B ι c w){k:Nat}{F:Fact}{v:i_}(hk:c k=some (.fact F))(hc:aL ι (.pointer (some ⟨k,0,some 9⟩)) v):Cf w v F:=by
 obtain⟨l,h1,u,h2,h3⟩:=hm.born k _ hk;subst h2;generalize hp:Value.pointer (some ⟨k,0,some 9⟩)=p at hc;cases hc with
 |same h=>subst hp;cases h
 |ptr h=>injection hp with hp;injection hp with hp;injection hp with _ _ hp;cases hp
 |slc h=>cases hp
 |slcN h=>cases hp
 |opq h4 h5 h6=>
  injection hp with hp;injection hp with hp;injection hp with iY;subst iY;rw[h1]at h4;injection h4 with h4;injection h4 with h4;subst h4;exact⟨h3,h5,h6⟩
 |fn=>cases hp
 |agg=>cases hp
 |tup=>cases hp
theorem aBX(hm:aO B ι c w){k:Nat}{x:Obj}{v:i_}(hk:c k=some x)(hx:x.reads=true)(cR:∀ u∈x.cells,flat u=true)(hc:aL ι (.pointer (some ⟨k,0,some 7⟩)) v):Pp w v x.cells:=by
 obtain⟨b,o,cap,hb,rfl⟩:=hc.xa rfl;obtain⟨l,h1,h2⟩:=hm.born k x hk;dsimp only at hb;rw[hb]at h1;injection h1 with h1;subst h1;obtain⟨cr,fZ,lD⟩:=h2.at hx;have fZ:=nQ fZ cR;subst fZ;refine⟨b,o,by simp,?_,λj u hj=>lD j u hj⟩;by_cases ho:x.owns=true
 ·exact(hm.own k x b o cap hk ho hb).1
 ·have hv:x.kh=true:=by unfold Obj.reads at hx;rw[u5]at hx;exact hx.resolve_left ho
  exact(hm.seen k x b o cap hk hv hb).1
theorem Ch{vs:ak}{nd:q_}(h:gA B l vs nd)(hm:aO B ι c w):∀{args:ak},(∀ p∈nd,c p.1=p.2)->bY (aL ι) vs args->wD w l args:=by
 induction h with
 |nil=>intro args _ h;cases h;exact .nil
 |p hv _ ih=>
  intro args hn h;cases h with
  |cons h1 h2=>exact .cons (h1.fD hv) (ih hn h2)
 |@w k n cc x l vs nd hx cR hlen _ ih=>
  intro args hn h;cases h with
  |cons h1 h2=>
   refine .cons ?_ (ih (λp hp=>hn p (bI _ hp)) h2);have:=o7 (len:=x.cells.length) hm (hn (k,some x) (aR ..)) hx (bB.1 cR) (λh=>by rw[hlen h];rfl) h1;rw[mI,n9]at this;exact this
 |@r k off n cc len x l vs nd hx cR hlen _ ih=>
  intro args hn h;cases h with
  |cons h1 h2=>
   refine .cons ?_ (ih (λp hp=>hn p (bI _ hp)) h2);exact o7 (len:=len) hm (hn (k,some x) (aR ..)) hx (bB.1 cR) hlen h1
 |@q k x l vs nd hx cR _ ih=>
  intro args hn h;cases h with
  |cons h1 h2=>exact .cons (aBX hm (hn (k,some x) (aR ..)) hx (bB.1 cR) h1) (ih (λp hp=>hn p (bI _ hp)) h2)
 |@f g k x l vs nd hx cR _ ih=>
  intro args hn h;cases h with
  |cons h1 h2=>
   refine .cons ?_ (ih (λp hp=>hn p (bI _ hp)) h2);obtain⟨kg,eg,rfl,q1,q2⟩:=h1.Bb;have ef:kg=#[]:=by
    cases kX:kg.toList with
    |nil=>exact IF.1 kX
    |cons _ _=>rw[kX]at q1;cases q1
   subst ef;have q2:bY (aL ι) [.pointer (some ⟨k,0,some 7⟩)] eg.toList:=q2;cases fB:eg.toList with
   |nil=>rw[fB]at q2;cases q2
   |cons u t=>
    rw[fB]at q2;cases q2 with
    |cons q3 q4=>
     cases q4;refine⟨u,?_,aBX hm (hn (k,some x) (aR ..)) hx (bB.1 cR) q3⟩
     congr 1
     apply EW;rw[fB]
 |@b k m n cc x y l vs nd hy hyc hx cR hlen _ ih=>
  intro args hn h;cases h with
  |@cons _ u _ _ h1 h2=>
   refine .cons ?_ (ih (λp hp=>hn p (bI _ (bI _ hp))) h2);obtain⟨b,o,cap,hb,rfl⟩:=h1.xa rfl;have hk:=hn (m,some y) (aR ..);obtain⟨lc,g1,g2⟩:=hm.born m y hk;dsimp only at hb;rw[hb]at g1;injection g1 with g1;subst g1;obtain⟨cr,fZ,lD⟩:=g2.at hy;rw[hyc]at fZ;obtain⟨u,rfl,hu⟩:=nP fZ;have jL:=o7 (len:=x.cells.length) hm (hn (k,some x) (bI _ (aR ..))) hx (bB.1 cR) (λh=>by rw[hlen h];rfl) hu;rw[mI,n9]at jL;refine⟨b,o,u,by simp,?_,?_,jL⟩
   ·by_cases ho:y.owns=true
    ·exact(hm.own m y b o cap hk ho hb).1
    ·have hv:y.kh=true:=by unfold Obj.reads at hy;rw[u5]at hy;exact hy.resolve_left ho
     exact(hm.seen m y b o cap hk hv hb).1
   ·have:=lD 0 u rfl;simpa using this
 |@o k F l vs nd _ ih=>
  intro args hn h;cases h with
  |cons h1 h2=>exact .cons (Ah hm (hn (k,_) (aR ..)) h1) (ih (λp hp=>hn p (bI _ hp)) h2)
 |@c u k F F' l vs nd hu hi _ ih=>
  intro args hn h;cases h with
  |cons h1 h2=>
   refine .cons ?_ (ih (λp hp=>hn p (bI _ hp)) h2);obtain⟨cs,rfl,fZ⟩:=h1.Hj;obtain⟨a,b,b9,q1,q2⟩:=js fZ;have ck:=Ah hm (hn (k,_) (aR ..)) q2;refine⟨b,?_,hi _ _ ck.1,ck.2⟩;rw[q1.fD hu]at b9
   congr 1
   apply EW;rw[b9]
 |@e v n xs l vs nd hv hB _ ih=>
  intro args hn h;cases h with
  |cons h1 h2=>
   refine .cons ?_ (ih hn h2);rw[h1.fD hv];exact hB w hm.base
 |@s k1 n1 c1 k2 n2 c2 k3 x1 x2 F l vs nd r1 f1 l1 r2 f2 l2 _ ih=>
  intro args hn h;cases h with
  |cons h1 h2=>
   refine .cons ?_ (ih (λp hp=>hn p (bI _ (bI _ (bI _ hp)))) h2);obtain⟨us,rfl,Lg⟩:=h1.Hj;obtain⟨u1,u2,u3,hu,q1,q2,q3⟩:=JT Lg;have p1:=o7 (len:=x1.cells.length) hm (hn (k1,some x1) (aR ..)) r1 (bB.1 f1) (λh=>by rw[l1 h];rfl) q1;have p2:=o7 (len:=x2.cells.length) hm (hn (k2,some x2) (bI _ (aR ..))) r2 (bB.1 f2) (λh=>by rw[l2 h];rfl) q2;rw[mI,n9]at p1 p2;refine⟨u1,u2,u3,?_,p1,p2,Ah hm (hn (k3,_) (bI _ (bI _ (aR ..)))) q3⟩
   congr 1
   rw[<-Ai (xs:=us),hu]
 |@oi k F F' l vs nd himp _ ih=>
  intro args hn h;cases h with
  |cons h1 h2=>
   have h3:=Ah hm (hn (k,_) (aR ..)) h1;exact .cons ⟨himp _ _ h3.1,h3.2⟩ (ih (λp hp=>hn p (bI _ hp)) h2)
 |@si k1 n1 c1 k2 n2 c2 k3 x1 x2 F F' l vs nd himp r1 f1 l1 r2 f2 l2 _ ih=>
  intro args hn h;cases h with
  |cons h1 h2=>
   refine .cons ?_ (ih (λp hp=>hn p (bI _ (bI _ (bI _ hp)))) h2);obtain⟨us,rfl,Lg⟩:=h1.Hj;obtain⟨u1,u2,u3,hu,q1,q2,q3⟩:=JT Lg;have p1:=o7 (len:=x1.cells.length) hm (hn (k1,some x1) (aR ..)) r1 (bB.1 f1) (λh=>by rw[l1 h];rfl) q1;have p2:=o7 (len:=x2.cells.length) hm (hn (k2,some x2) (bI _ (aR ..))) r2 (bB.1 f2) (λh=>by rw[l2 h];rfl) q2;rw[mI,n9]at p1 p2;have h3:=Ah hm (hn (k3,_) (bI _ (bI _ (aR ..)))) q3;refine⟨u1,u2,u3,?_,p1,p2,⟨himp _ _ h3.1,h3.2⟩⟩
   congr 1
   rw[<-Ai (xs:=us),hu]
theorem dD{vs:ak}{nd:q_}{x:m_}(h:cy P f l res)(hs:gA B l vs nd)(ho:dF o.op=some x)(fe:gg P f=true)(Bl:flat res=true):
  cI P B o (.func (.func f) #[] #[]::vs) nd res []:=by
 have:=jY (P:=P) (B:=B) (o:=o) (x:=x) (f:=f) (fi:=[]) (args:=vs) (ca:=[]) (need:=nd) (val:=res) (cZ:=[]) ho fe ?_
 ·simpa using this
 ·intro ι c w hm hn args' ha;rw[ju,jO]at ha;refine(h w args' (Ch hs hm hn ha)).mono ?_
  rintro e w' ⟨rfl,hb⟩
  exact⟨ι,res,rfl,Map.le.refl _,.same Bl,hm.call hb⟩
theorem aLp{vs:ak}{nd:q_}{x:m_}(h:cy P f l res)(hs:gA B l (vs++ca) nd)(ho:dF o.op=some x)(fe:gg P f=true)(Bl:flat res=true):
  cI P B o (.func (.func f) #[] ca.toArray::vs) nd res []:=by
 have:=jY (P:=P) (B:=B) (o:=o) (x:=x) (f:=f) (fi:=[]) (args:=vs) (ca:=ca) (need:=nd) (val:=res) (cZ:=[]) ho fe ?_
 ·simpa using this
 ·intro ι c w hm hn args' ha;rw[ju]at ha;refine(h w args' (Ch hs hm hn ha)).mono ?_
  rintro e w' ⟨rfl,hb⟩
  exact⟨ι,res,rfl,Map.le.refl _,.same Bl,hm.call hb⟩
theorem rS{n:Nat}{vs:ak}{nd:q_}{x:m_}(h:lO P f l ty size n xs)(hs:gA B l vs nd)(ho:dF o.op=some x)(fe:gg P f=true)(hx:(xs.all flat)=true)(k:Nat):
  cI P B o (.func (.func f) #[] #[]::vs) ((k,none)::nd) (.slice (some ⟨k,0,some 7⟩) n 0) [(k,.row xs ty size)]:=by
 have:=jY (P:=P) (B:=B) (o:=o) (x:=x) (f:=f) (fi:=[]) (args:=vs) (ca:=[]) (need:=(k,none)::nd) (val:=.slice (some ⟨k,0,some 7⟩) n 0) (cZ:=[(k,.row xs ty size)]) ho fe ?_
 ·simpa using this
 ·intro ι c w hm hn args' ha;rw[ju,jO]at ha;refine(h w args' (Ch hs hm (λp hp=>hn p (bI _ hp)) ha)).mono ?_
  rintro e w' ⟨v,rfl,h1,h2⟩
  obtain⟨aA,q1,q2,q3⟩:=Fi hm h2 (k:=k) (hn (k,none) (aR ..)) h1 (bB.1 hx);exact⟨aA,v,rfl,q1,q3,q2⟩
end
section
open CR OF
@[ext] structure V3 (α:Type) where
 x:α
 y:α
 z:α
namespace V3
section
variable{α:Type}
instance[Add α]:Add (V3 α):=⟨λu v=>⟨u.x+v.x,u.y+v.y,u.z+v.z⟩⟩
instance[Sub α]:Sub (V3 α):=⟨λu v=>⟨u.x-v.x,u.y-v.y,u.z-v.z⟩⟩
instance[Neg α]:Neg (V3 α):=⟨λu=>⟨-u.x,-u.y,-u.z⟩⟩
instance[Zero α]:Zero (V3 α):=⟨⟨0,0,0⟩⟩
def smul[Mul α](v:V3 α)(k:α):V3 α:=⟨v.x*k,v.y*k,v.z*k⟩
def dot[Add α][Mul α](u v:V3 α):α:=u.x*v.x+u.y*v.y+u.z*v.z
def af[Sub α][Mul α](u v:V3 α):V3 α:=⟨u.y*v.z-u.z*v.y,u.z*v.x-u.x*v.z,u.x*v.y-u.y*v.x⟩
def bA[Add α][Sub α][Mul α](u v w:V3 α):α:=dot u (af v w)
end
def V(i:Nat):V3 E:=⟨E.var (3*i),E.var (3*i+1),E.var (3*i+2)⟩
def S(j:Nat):E:=E.var (90+j)
def flat{F:Type}:List (V3 F)->List F
 |[]=>[]
 |v::vs=>v.x::v.y::v.z::flat vs
def Pr{F:Type}[CR F](vs:List (V3 F))(ss:List F)(i:Nat):F:=cond (Nat.blt i 90) ((flat vs).getD i 0) (ss.getD (i-90) 0)
def aBY{F:Type}[CR F](ρ:Nat->F)(v:V3 E):V3 F:=⟨v.x.den ρ,v.y.den ρ,v.z.den ρ⟩
section
variable{F:Type}[CR F]
theorem ring(vs:List (V3 F))(ss:List F)(l r:(Nat->V3 E)->(Nat->E)->E)
  (h:E.peq (l V S).norm (r V S).norm=true) :
  (l V S).den (Pr vs ss)=(r V S).den (Pr vs ss):=E.prove _ _ _ h
theorem gV(vs:List (V3 F))(ss:List F)(l r:(Nat->V3 E)->(Nat->E)->V3 E)
  (h:(E.peq (l V S).x.norm (r V S).x.norm&&
   E.peq (l V S).y.norm (r V S).y.norm&&
   E.peq (l V S).z.norm (r V S).z.norm)=true) :
  aBY (Pr vs ss) (l V S)=aBY (Pr vs ss) (r V S):=by
 simp only[de]at h;exact V3.ext (E.prove _ _ _ h.1.1) (E.prove _ _ _ h.1.2) (E.prove _ _ _ h.2)
theorem wE(u v:V3 F):dot u v=dot v u:=ring [u,v] [] (λV _=>dot (V 0) (V 1)) (λV _=>dot (V 1) (V 0)) d_
theorem jm(u v w:V3 F):dot u (v+w)=dot u v+dot u w:=ring [u,v,w] [] (λV _=>dot (V 0) (V 1+V 2)) (λV _=>dot (V 0) (V 1)+dot (V 0) (V 2)) d_
theorem hZ(u v w:V3 F):dot u (v-w)=dot u v-dot u w:=ring [u,v,w] [] (λV _=>dot (V 0) (V 1-V 2)) (λV _=>dot (V 0) (V 1)-dot (V 0) (V 2)) d_
theorem vx(u v:V3 F):dot u (-v)=-dot u v:=ring [u,v] [] (λV _=>dot (V 0) (-V 1)) (λV _=>-dot (V 0) (V 1)) d_
theorem ya(u v:V3 F):dot (-u) v=-dot u v:=ring [u,v] [] (λV _=>dot (-V 0) (V 1)) (λV _=>-dot (V 0) (V 1)) d_
theorem gk(u v:V3 F)(k:F):dot u (smul v k)=dot u v*k:=ring [u,v] [k] (λV S=>dot (V 0) (smul (V 1) (S 0))) (λV S=>dot (V 0) (V 1)*S 0) d_
theorem Ps(u v w:V3 F):dot (u+v) w=dot u w+dot v w:=ring [u,v,w] [] (λV _=>dot (V 0+V 1) (V 2)) (λV _=>dot (V 0) (V 2)+dot (V 1) (V 2)) d_
theorem Lh(u v:V3 F)(k:F):dot (smul u k) v=dot u v*k:=ring [u,v] [k] (λV S=>dot (smul (V 0) (S 0)) (V 1)) (λV S=>dot (V 0) (V 1)*S 0) d_
theorem vy(u:V3 F):dot u 0=0:=by show u.x*0+u.y*0+u.z*0=0;rw[CR.mul_zero,CR.mul_zero,CR.mul_zero,CR.add_zero,CR.add_zero]
theorem aBZ(u:V3 F):dot 0 u=0:=by rw[wE,vy]
theorem Gb(u v:V3 F):dot u (af u v)=0:=ring [u,v] [] (λV _=>dot (V 0) (af (V 0) (V 1))) (λ_ _=>0) d_
theorem Ci(u v:V3 F):dot v (af u v)=0:=ring [u,v] [] (λV _=>dot (V 1) (af (V 0) (V 1))) (λ_ _=>0) d_
theorem Li(u:V3 F):af u u=0:=gV [u] [] (λV _=>af (V 0) (V 0)) (λ_ _=>0) d_
theorem Gc(u v:V3 F):af v u=-af u v:=gV [u,v] [] (λV _=>af (V 1) (V 0)) (λV _=>-af (V 0) (V 1)) d_
theorem Gd(u v w:V3 F):bA u v w=bA v w u:=ring [u,v,w] [] (λV _=>bA (V 0) (V 1) (V 2)) (λV _=>bA (V 1) (V 2) (V 0)) d_
theorem aB0(u v w:V3 F):bA u w v=-bA u v w:=ring [u,v,w] [] (λV _=>bA (V 0) (V 2) (V 1)) (λV _=>-bA (V 0) (V 1) (V 2)) d_
theorem neg_neg(u:V3 F):- -u=u:=gV [u] [] (λV _=>- -V 0) (λV _=>V 0) d_
theorem sub_self(u:V3 F):u-u=0:=gV [u] [] (λV _=>V 0-V 0) (λ_ _=>0) d_
theorem add_zero(u:V3 F):u+0=u:=V3.ext (CR.add_zero _) (CR.add_zero _) (CR.add_zero _)
theorem add_sub_cancel(u v:V3 F):u+(v-u)=v:=gV [u,v] [] (λV _=>V 0+(V 1-V 0)) (λV _=>V 1) d_
theorem smul_zero(u:V3 F):smul u 0=0:=V3.ext (CR.mul_zero _) (CR.mul_zero _) (CR.mul_zero _)
theorem U9(u:V3 F):smul u 1=u:=V3.ext (CR.mul_one _) (CR.mul_one _) (CR.mul_one _)
theorem Pt(u:V3 F)(a b:F):smul (smul u a) b=smul u (a*b):=V3.ext (CR.mul_assoc _ _ _) (CR.mul_assoc _ _ _) (CR.mul_assoc _ _ _)
theorem neg_zero:-(0:V3 F)=0:=V3.ext CR.neg_zero CR.neg_zero CR.neg_zero
end
section
variable{F:Type}[OF F]
theorem sub_eq_zero{u v:V3 F}:u-v=0↔u=v:=by
 constructor
 ·intro h;exact V3.ext (OF.sub_eq_zero.1 (cS V3.x h)) (OF.sub_eq_zero.1 (cS V3.y h)) (OF.sub_eq_zero.1 (cS V3.z h))
 ·rintro rfl;exact sub_self u
theorem D1{u:V3 F}(h:u≠0):0<dot u u:=by
 by_cases hx:u.x=0
 ·by_cases hy:u.y=0
  ·have hz:u.z≠0:=λhz=>h (V3.ext hx hy hz);exact aA6 (add_nonneg (nC _) (nC _)) (Uf hz)
  ·exact Il (aA6 (nC _) (Uf hy)) (nC _)
 ·exact Il (Il (Uf hx) (nC _)) (nC _)
theorem yb{u:V3 F}(h:u≠0):dot u u≠0:=OF.ne_of_gt (D1 h)
theorem aLq{u:V3 F}{k:F}(h:smul u k=0):u=0\/k=0:=by
 by_cases hk:k=0
 ·exact .inr hk
 ·left;have hx:=(mul_eq_zero.1 (cS V3.x h:u.x*k=0)).resolve_right hk;have hy:=(mul_eq_zero.1 (cS V3.y h:u.y*k=0)).resolve_right hk;have hz:=(mul_eq_zero.1 (cS V3.z h:u.z*k=0)).resolve_right hk;exact V3.ext hx hy hz
theorem neg_eq_zero{u:V3 F}:-u=0↔u=0:=by
 constructor
 ·intro h;rw[<-neg_neg u,h,neg_zero]
 ·rintro rfl;exact neg_zero
theorem Ge{a b c v:V3 F}(hd:bA a b c≠0)(ha:dot a v=0)(hb:dot b v=0)(hc:dot c v=0):v=0:=by
 have e:smul v (bA a b c)=smul (af b c) (dot a v)+smul (af c a) (dot b v)+smul (af a b) (dot c v):=
  gV [a,b,c,v] [] (λV _=>smul (V 3) (bA (V 0) (V 1) (V 2)))
   (λV _=>smul (af (V 1) (V 2)) (dot (V 0) (V 3))+smul (af (V 2) (V 0)) (dot (V 1) (V 3))+smul (af (V 0) (V 1)) (dot (V 2) (V 3))) d_
 rw[ha,hb,hc,smul_zero,smul_zero,smul_zero,add_zero,add_zero]at e;exact(aLq e).resolve_right hd
theorem Lj{a b v:V3 F}(hd:af a b≠0)(ha:dot a v=0)(hb:dot b v=0):v=smul (af a b) (dot (af a b) v*(dot (af a b) (af a b))⁻¹):=by
 have bw:=yb hd;have e:smul v (dot (af a b) (af a b))=smul (af a b) (dot (af a b) v)+smul (af b (af a b)) (dot a v)+smul (af (af a b) a) (dot b v):=
  gV [a,b,v] [] (λV _=>smul (V 2) (dot (af (V 0) (V 1)) (af (V 0) (V 1))))
   (λV _=>smul (af (V 0) (V 1)) (dot (af (V 0) (V 1)) (V 2))+smul (af (V 1) (af (V 0) (V 1))) (dot (V 0) (V 2))+smul (af (af (V 0) (V 1)) (V 0)) (dot (V 1) (V 2))) d_
 rw[ha,hb,smul_zero,smul_zero,add_zero,add_zero]at e;rw[<-Pt,<-e,Pt,jz _ bw,U9]
end
end V3
end
variable{vs acc:List (V3 K)}
section
open CR OF V3
@[ext] structure HS (F:Type) where
 n:V3 F
 d:F
section
variable{F:Type}[OF F]
def ev(ps:List (HS F))(v:V3 F):Prop:=∀ p∈ps,dot p.n v<=p.d
def cB(p:HS F)(v:V3 F):Prop:=dot p.n v=p.d
def Cl(ps:List (HS F)):Prop:=
 (∃ p∈ps,∃ q∈ps,af p.n q.n≠0)/\∀ p∈ps,∀ q∈ps,af p.n q.n≠0->∃ r∈ps,0<dot r.n (af p.n q.n)
def gB(ps:List (HS F)):Prop:=∀ p∈ps,p.n≠0
theorem Pu{d:V3 F}(h:d≠0):∃ u:V3 F,u≠0/\dot d u=0:=by
 by_cases hz:d.z=0
 ·by_cases hy:d.y=0
  ·have hx:d.x≠0:=λhx=>h (V3.ext hx hy hz);refine⟨⟨d.z,0,-d.x⟩,λe=>hx ?_,ring [d] [] (λV _=>dot (V 0) ⟨(V 0).z,0,-(V 0).x⟩) (λ_ _=>0) d_⟩;have:-d.x=0:=cS V3.z e;rw[<-CR.neg_neg d.x,this,CR.neg_zero]
  ·refine⟨⟨-d.y,d.x,0⟩,λe=>hy ?_,ring [d] [] (λV _=>dot (V 0) ⟨-(V 0).y,(V 0).x,0⟩) (λ_ _=>0) d_⟩;have:-d.y=0:=cS V3.x e;rw[<-CR.neg_neg d.y,this,CR.neg_zero]
 ·refine⟨⟨0,-d.z,d.y⟩,λe=>hz ?_,ring [d] [] (λV _=>dot (V 0) ⟨0,-(V 0).z,(V 0).y⟩) (λ_ _=>0) d_⟩;have:-d.z=0:=cS V3.y e;rw[<-CR.neg_neg d.z,this,CR.neg_zero]
theorem aLr(l:List (F×F))(h0:∀ x∈l,0<=x.2)(hp:∃ x∈l,0<x.1):
  ∃ t:F,0<=t/\(∃ x∈l,0<x.1/\x.1*t=x.2)/\∀ x∈l,x.1*t<=x.2:=by
 induction l with
 |nil=>obtain⟨x,hx,_⟩:=hp;cases hx
 |cons y l ih=>
  obtain⟨a,b⟩:=y;have hb:0<=b:=h0 _ (aR ..);have h0':∀ x∈l,0<=x.2:=λx hx=>h0 x (bI _ hx)
  -- t=b/a aV3,if it is at most t' aV4 t' is aV5
  have new:0<a->(∀ x∈l,0<x.1->x.1*(b*a⁻¹)<=x.2)->
    ∃ t:F,0<=t/\(∃ x∈(a,b)::l,0<x.1/\x.1*t=x.2)/\∀ x∈(a,b)::l,x.1*t<=x.2:=by
   intro ha hl;have e:a*(b*a⁻¹)=b:=by rw[CR.mul_left_comm,jz _ (OF.ne_of_gt ha),CR.mul_one]
   have ht:0<=b*a⁻¹:=mul_nonneg hb (le_of_lt (inv_pos ha));refine⟨b*a⁻¹,ht,⟨_,aR ..,ha,e⟩,?_⟩;intro x hx;rcases cD.1 hx with rfl|hx
   ·exact OF.le_of_eq e
   ·by_cases h:0<x.1
    ·exact hl x hx h
    ·refine OF.le_trans ?_ (h0' x hx);rw[<-neg_nonneg,<-CR.neg_mul];exact mul_nonneg (neg_nonneg.2 (OF.not_lt.1 h)) ht
  by_cases hl:∃ x∈l,0<x.1
  ·obtain⟨t,ht,⟨x,hx,lv,Aj⟩,bh⟩:=ih h0' hl;by_cases l4:a*t<=b
   ·exact⟨t,ht,⟨x,bI _ hx,lv,Aj⟩,λz hz=>by
     rcases cD.1 hz with rfl|hz
     ·exact l4
     ·exact bh z hz⟩
   ·have Pv:=OF.not_le.1 l4;have ha:0<a:=by
     rcases OF.lt_trichotomy 0 a with h|h|h
     ·exact h
     ·rw[<-h,CR.zero_mul]at Pv;exact absurd (OF.lt_of_le_of_lt hb Pv) (OF.lt_irrefl _)
     ·have:=mul_nonneg (neg_nonneg.2 (le_of_lt h)) ht;rw[CR.neg_mul,neg_nonneg]at this;exact absurd (OF.lt_of_le_of_lt hb (OF.lt_of_lt_of_le Pv this)) (OF.lt_irrefl _)
    refine new ha λz hz uX=>?_;refine OF.le_trans ?_ (bh z hz);refine le_of_lt ((mul_lt_mul_left uX).2 ?_);rw[<-mul_lt_mul_left ha,CR.mul_left_comm,jz _ (OF.ne_of_gt ha),CR.mul_one];exact Pv
  ·obtain⟨x,hx,lv⟩:=hp;rcases cD.1 hx with rfl|hx
   ·exact new lv λz hz uX=>(hl ⟨z,hz,uX⟩).elim
   ·exact(hl ⟨x,hx,lv⟩).elim
theorem zr{ps:List (HS F)}{v u:V3 F}(hv:ev ps v)(hu:∃ p∈ps,0<dot p.n u):
  ∃ t:F,0<=t/\(∃ q∈ps,0<dot q.n u/\cB q (v+smul u t))/\ev ps (v+smul u t):=by
 obtain⟨t,ht,⟨x,hx,lv,Aj⟩,bh⟩:=aLr (ps.map λp=>(dot p.n u,p.d-dot p.n v))
  (λx hx=>by obtain⟨p,hp,rfl⟩:=db.1 hx;exact OF.sub_nonneg.2 (hv p hp))
  (by obtain⟨p,hp,h⟩:=hu;exact⟨_,db.2 ⟨p,hp,rfl⟩,h⟩)
 obtain⟨q,hq,rfl⟩:=db.1 hx;have e:∀ p:HS F,dot p.n (v+smul u t)=dot p.n v+dot p.n u*t:=λp=>by rw[jm,gk]
 refine⟨t,ht,⟨q,hq,lv,?_⟩,?_⟩
 ·unfold cB;rw[e,Aj];exact jP (dot q.n v) q.d (λa d=>a+(d-a)) (λ_ d=>d) d_
 ·intro p hp;have:=bh _ (db.2 ⟨p,hp,rfl⟩);rw[e];have h2:=(add_le_add_left (dot p.n v)).2 this;rwa[show dot p.n v+(p.d-dot p.n v)=p.d from jP (dot p.n v) p.d (λa d=>a+(d-a)) (λ_ d=>d) d_]at h2
theorem Pw{p q u:V3 F}(hp:p≠0)(h:af p q=0)(hu:dot p u=0):dot q u=0:=by
 have e:dot q u*dot p p=dot p u*dot p q-dot (af p (af p q)) u:=
  ring [p,q,u] [] (λV _=>dot (V 1) (V 2)*dot (V 0) (V 0)) (λV _=>dot (V 0) (V 2)*dot (V 0) (V 1)-dot (af (V 0) (af (V 0) (V 1))) (V 2)) d_
 have z:af p (0:V3 F)=0:=gV [p] [] (λV _=>af (V 0) 0) (λ_ _=>0) d_;rw[h,hu,z,aBZ,CR.zero_mul,OF.sub_zero]at e;exact(mul_eq_zero.1 e).resolve_right (yb hp)
theorem Gf{p d:V3 F}(hp:p≠0)(hd:d≠0)(h:dot p d=0):af p d≠0:=by
 intro e;have e2:dot (af p d) (af p d)=dot p p*dot d d-dot p d*dot p d:=
  ring [p,d] [] (λV _=>dot (af (V 0) (V 1)) (af (V 0) (V 1))) (λV _=>dot (V 0) (V 0)*dot (V 1) (V 1)-dot (V 0) (V 1)*dot (V 0) (V 1)) d_
 rw[e,h,vy,CR.mul_zero,OF.sub_zero]at e2;exact mul_ne_zero (yb hp) (yb hd) e2.symm
theorem Va{d u:V3 F}{t:F}(hd:d≠0)(h:dot d u=0):d+smul u t≠0:=by intro e;have:=cS (dot d) e;rw[jm,gk,h,CR.zero_mul,CR.add_zero,vy]at this;exact yb hd this
theorem aB1{ns:List (V3 F)}(hs:∃ a∈ns,∃ b∈ns,∃ c∈ns,bA a b c≠0){u:V3 F}(hu:u≠0):
  (∃ n∈ns,0<dot n u)\/(∃ n∈ns,0<dot n (-u)):=by
 obtain⟨a,ha,b,hb,c,hc,hd⟩:=hs;have key:∀ n∈ns,dot n u≠0->(∃ n∈ns,0<dot n u)\/(∃ n∈ns,0<dot n (-u)):=by
  intro n hn h;rcases OF.lt_trichotomy 0 (dot n u)with k|k|k
  ·exact .inl ⟨n,hn,k⟩
  ·exact absurd k.symm h
  ·exact .inr ⟨n,hn,by rw[vx];exact neg_pos.2 k⟩
 by_cases h1:dot a u=0
 ·by_cases h2:dot b u=0
  ·by_cases h3:dot c u=0
   ·exact absurd (Ge hd h1 h2 h3) hu
   ·exact key c hc h3
  ·exact key b hb h2
 ·exact key a ha h1
theorem ray{ns:List (V3 F)}(h0:∀ n∈ns,n≠0)(hs:∃ a∈ns,∃ b∈ns,∃ c∈ns,bA a b c≠0){d:V3 F}(hd:d≠0)(cC:∀ n∈ns,dot n d<=0):
  ∃ p∈ns,∃ q∈ns,af p q≠0/\∀ n∈ns,dot n (af p q)<=0:=by
 -- one Px
 have Vb:∀{v u:V3 F},(∀ n∈ns,dot n v<=0)->(∃ n∈ns,0<dot n u)->∃ t:F,(∃ q∈ns,0<dot q u/\dot q (v+smul u t)=0)/\∀ n∈ns,dot n (v+smul u t)<=0:=by
  intro v u hv hu
  obtain⟨t,_,⟨q,hq,pQ,wF⟩,bh⟩:=zr (ps:=ns.map λn=>⟨n,0⟩) (v:=v) (u:=u)
   (λp hp=>by obtain⟨n,hn,rfl⟩:=db.1 hp;exact hv n hn)
   (by obtain⟨n,hn,h⟩:=hu;exact⟨⟨n,0⟩,db.2 ⟨n,hn,rfl⟩,h⟩)
  obtain⟨n,hn,rfl⟩:=db.1 hq;exact⟨t,⟨n,hn,pQ,wF⟩,λm hm=>bh ⟨m,0⟩ (db.2 ⟨m,hm,rfl⟩)⟩
 have one:∃ d1:V3 F,d1≠0/\(∃ p∈ns,dot p d1=0)/\∀ n∈ns,dot n d1<=0:=by
  obtain⟨u,hu,Py⟩:=Pu hd;rcases aB1 hs hu with h|h
  ·obtain⟨t,⟨q,hq,_,wF⟩,bh⟩:=Vb cC h;exact⟨_,Va hd Py,⟨q,hq,wF⟩,bh⟩
  ·obtain⟨t,⟨q,hq,_,wF⟩,bh⟩:=Vb cC h;exact⟨_,Va hd (by rw[vx,Py,CR.neg_zero]),⟨q,hq,wF⟩,bh⟩
 obtain⟨d1,Gg,⟨p,hp,Hs⟩,Vc⟩:=one;have Pz:=h0 p hp;have fin:∀ u:V3 F,dot p u=0->dot d1 u=0->(∃ n∈ns,0<dot n u)->∃ p∈ns,∃ q∈ns,af p q≠0/\∀ n∈ns,dot n (af p q)<=0:=by
  intro u Cj Py h;obtain⟨t,⟨q,hq,Lk,wF⟩,bh⟩:=Vb Vc h;have bw:af p q≠0:=λe=>by rw[Pw Pz e Cj]at Lk;exact OF.lt_irrefl _ Lk
  have KZ:d1+smul u t≠0:=Va Gg Py;have Ak:dot p (d1+smul u t)=0:=by rw[jm,gk,Cj,Hs,CR.zero_mul,CR.add_zero]
  have e:=Lj bw Ak wF;generalize dot (af p q) (d1+smul u t)*(dot (af p q) (af p q))⁻¹=k at e;rcases OF.lt_trichotomy 0 k with hk|hk|hk
  ·refine⟨p,hp,q,hq,bw,λn hn=>?_⟩;have:=bh n hn;rw[e,gk,CR.mul_comm]at this;rw[<-CR.mul_zero k,mul_le_mul_left hk]at this;exact this
  ·rw[<-hk,smul_zero]at e;exact absurd e KZ
  ·refine⟨q,hq,p,hp,λe'=>bw (by rw[Gc,e',V3.neg_zero]),λn hn=>?_⟩;have:=bh n hn;rw[e,gk,Gc q p,vx,CR.neg_mul,<-CR.mul_neg,CR.mul_comm]at this;rw[<-CR.mul_zero (-k),mul_le_mul_left (neg_pos.2 hk)]at this;exact this
 have hc:=Gf Pz Gg Hs;rcases aB1 hs hc with h|h
 ·exact fin _ (Gb p d1) (Ci p d1) h
 ·exact fin _ (by rw[vx,Gb,CR.neg_zero]) (by rw[vx,Ci,CR.neg_zero]) h
theorem Cl.span{ps:List (HS F)}(h:Cl ps):∃ a∈ps.map HS.n,∃ b∈ps.map HS.n,∃ c∈ps.map HS.n,bA a b c≠0:=by obtain⟨⟨p,hp,q,hq,F1⟩,iD⟩:=h;obtain⟨r,hr,h⟩:=iD p hp q hq F1;exact⟨r.n,db.2 ⟨r,hr,rfl⟩,p.n,db.2 ⟨p,hp,rfl⟩,q.n,db.2 ⟨q,hq,rfl⟩,OF.ne_of_gt h⟩
theorem Cl.bounds{ps:List (HS F)}(h:Cl ps)(hp:gB ps){u:V3 F}(hu:u≠0):∃ r∈ps,0<dot r.n u:=by
 apply iP;intro fU;have cC:∀ n∈ps.map HS.n,dot n u<=0:=by intro n hn;obtain⟨p,hp,rfl⟩:=db.1 hn;exact OF.not_lt.1 λk=>fU ⟨p,hp,k⟩
 obtain⟨a,ha,b,hb,bw,bh⟩:=ray (λn hn=>by obtain⟨p,fG,rfl⟩:=db.1 hn;exact hp p fG) h.span hu cC;obtain⟨p,fG,rfl⟩:=db.1 ha;obtain⟨q,pw,rfl⟩:=db.1 hb;obtain⟨r,hr,nA⟩:=h.2 p fG q pw bw;exact OF.lt_irrefl _ (OF.lt_of_lt_of_le nA (bh r.n (db.2 ⟨r,hr,rfl⟩)))
def j8(ps:List (HS F))(v:V3 F):Prop:=
 ev ps v/\∃ p∈ps,∃ q∈ps,∃ r∈ps,bA p.n q.n r.n≠0/\cB p v/\cB q v/\cB r v
theorem top{ps:List (HS F)}(hc:Cl ps)(hp:gB ps){x m:V3 F}(hx:ev ps x):∃ v,j8 ps v/\dot m x<=dot m v:=by
 -- a step along a line
 have go:∀{x u:V3 F},ev ps x->u≠0->∃ u':V3 F,(u'=u\/u'=-u)/\∃ t:F,(∃ q∈ps,0<dot q.n u'/\cB q (x+smul u' t))/\ev ps (x+smul u' t)/\dot m x<=dot m (x+smul u' t):=by
  have half:∀{x u:V3 F},ev ps x->u≠0->0<=dot m u->∃ t:F,(∃ q∈ps,0<dot q.n u/\cB q (x+smul u t))/\ev ps (x+smul u t)/\dot m x<=dot m (x+smul u t):=by intro x u hx hu hm;obtain⟨t,ht,hq,cC⟩:=zr hx (hc.bounds hp hu);refine⟨t,hq,cC,?_⟩;rw[jm,gk];have:=(add_le_add_left (dot m x)).2 (mul_nonneg hm ht);rwa[CR.add_zero]at this
  intro x u hx hu;rcases OF.le_total 0 (dot m u)with h|h
  ·exact⟨u,.inl rfl,half hx hu h⟩
  ·exact⟨-u,.inr rfl,half hx (λe=>hu (neg_eq_zero.1 e)) (by rw[vx];exact neg_nonneg.2 h)⟩
 obtain⟨⟨p0,Pz,_⟩,_⟩:=hc;obtain⟨u1,_,t1,⟨p,jD,_,Ak⟩,Vc,c7⟩:=go hx (hp p0 Pz);generalize x+smul u1 t1=x1 at *;obtain⟨u,hu,Cj⟩:=Pu (hp p jD);obtain⟨u2,h2,t2,⟨q,lP,pQ,wF⟩,aLs,dI⟩:=go Vc hu;have aB2:dot p.n u2=0:=by
  rcases h2 with rfl|rfl
  ·exact Cj
  ·rw[vx,Cj,CR.neg_zero]
 have aLt:cB p (x1+smul u2 t2):=by unfold cB at *;rw[jm,gk,aB2,CR.zero_mul,CR.add_zero,Ak]
 generalize x1+smul u2 t2=x2 at *;have bw:af p.n q.n≠0:=λe=>by rw[Pw (hp p jD) e aB2]at pQ;exact OF.lt_irrefl _ pQ
 obtain⟨u3,h3,t3,⟨r,hrm,nA,Gh⟩,aLu,vR⟩:=go aLs bw;have aB3:dot p.n u3=0/\dot q.n u3=0:=by
  rcases h3 with rfl|rfl
  ·exact⟨Gb _ _,Ci _ _⟩
  ·rw[vx,vx,Gb,Ci,CR.neg_zero];exact⟨rfl,rfl⟩
 refine⟨_,⟨aLu,p,jD,q,lP,r,hrm,?_,?_,?_,Gh⟩,OF.le_trans c7 (OF.le_trans dI vR)⟩
 ·intro e;have e2:dot r.n (af p.n q.n)=0:=by rw[show dot r.n (af p.n q.n)=bA r.n p.n q.n from rfl,Gd];exact e
  rcases h3 with rfl|rfl
  ·rw[e2]at nA;exact OF.lt_irrefl _ nA
  ·rw[vx,e2,CR.neg_zero]at nA;exact OF.lt_irrefl _ nA
 ·unfold cB at *;rw[jm,gk,aB3.1,CR.zero_mul,CR.add_zero,aLt]
 ·unfold cB at *;rw[jm,gk,aB3.2,CR.zero_mul,CR.add_zero,wF]
theorem aLv{ps:List (HS F)}(hp:gB ps){v x:V3 F}(hv:j8 ps v)(hx:ev ps x)(bw:x≠v):
  ∃ p∈ps,∃ q∈ps,cB p v/\cB q v/\af p.n q.n≠0/\∀ r∈ps,cB r v->dot r.n (af p.n q.n)<=0:=by
 classical
 obtain⟨_,a,ha,b,hb,c,hc,hd,ta,tb,tc⟩:=hv
 let ts:=ps.filter λp=>decide (cB p v)
 have mem:∀ p,p∈ts↔p∈ps/\cB p v:=λp=>by simp[ts]
 obtain⟨n,hn,m,hm,kF,bh⟩:=ray (ns:=ts.map HS.n) (d:=x-v)
  (λn hn=>by obtain⟨p,fG,rfl⟩:=db.1 hn;exact hp p ((mem p).1 fG).1)
  ⟨a.n,db.2 ⟨a,(mem a).2 ⟨ha,ta⟩,rfl⟩,b.n,db.2 ⟨b,(mem b).2 ⟨hb,tb⟩,rfl⟩,c.n,db.2 ⟨c,(mem c).2 ⟨hc,tc⟩,rfl⟩,hd⟩
  (λe=>bw (V3.sub_eq_zero.1 e))
  (λn hn=>by obtain⟨p,fG,rfl⟩:=db.1 hn;obtain⟨iY,ht⟩:=(mem p).1 fG;rw[hZ,show dot p.n v=p.d from ht,<-neg_nonneg,OF.neg_sub];exact OF.sub_nonneg.2 (hx p iY))
 obtain⟨p,fG,rfl⟩:=db.1 hn;obtain⟨q,pw,rfl⟩:=db.1 hm;exact⟨p,((mem p).1 fG).1,q,((mem q).1 pw).1,((mem p).1 fG).2,((mem q).1 pw).2,kF,λr hr ht=>bh r.n (db.2 ⟨r,(mem r).2 ⟨hr,ht⟩,rfl⟩)⟩
end
structure jc(F:Type)[OF F] where
 fw:V3 F->Prop
 add:∀{x y},fw x->fw y->fw (x+y)
 mul:∀{x k},fw x->0<k->fw (smul x k)
 asymm:∀{x},fw x->fw (-x)->False
namespace jc
variable{F:Type}[OF F](H:jc F)
theorem zero{H:jc F}:¬H.fw 0:=λh=>H.asymm h (by rw[V3.neg_zero];exact h)
def opp:jc F where
 fw v:=H.fw (-v)
 add {x y} hx hy:=by rw[show -(x+y)=-x+-y from gV [x,y] [] (λV _=>-(V 0+V 1)) (λV _=>-V 0+-V 1) d_];exact H.add hx hy
 mul {x k} hx hk:=by rw[show -(smul x k)=smul (-x) k from gV [x] [k] (λV S=>-(smul (V 0) (S 0))) (λV S=>smul (-V 0) (S 0)) d_];exact H.mul hx hk
 asymm {x} h k:=H.asymm h k
theorem ne{H:jc F}{a b:V3 F}(h:H.fw (b-a)):a≠b:=by rintro rfl;rw[V3.sub_self]at h;exact zero h
theorem aB4{H:jc F}{a b c:V3 F}(h:H.fw (b-a))(k:H.fw (c-b)):H.fw (c-a):=by rw[show c-a=(b-a)+(c-b)from gV [a,b,c] [] (λV _=>V 2-V 0) (λV _=>(V 1-V 0)+(V 2-V 1)) d_];exact H.add h k
theorem IG{H:jc F}{a b:V3 F}(h:H.fw (b-a))(k:H.fw (a-b)):False:=by apply H.asymm h;rw[show -(b-a)=a-b from gV [a,b] [] (λV _=>-(V 1-V 0)) (λV _=>V 0-V 1) d_];exact k
end jc
section
variable{F:Type}[OF F](n:V3 F)
def tr(x y:V3 F):F:=dot n (af x y)
def turn(a b c:V3 F):F:=dot n (af (b-a) (c-a))
theorem Gi(a b c:V3 F):turn n a b c=turn n b c a:=
 ring [n,a,b,c] [] (λV _=>dot (V 0) (af (V 2-V 1) (V 3-V 1))) (λV _=>dot (V 0) (af (V 3-V 2) (V 1-V 2))) d_
theorem Vd(a b c:V3 F):turn n a c b=-turn n a b c:=
 ring [n,a,b,c] [] (λV _=>dot (V 0) (af (V 3-V 1) (V 2-V 1))) (λV _=>-dot (V 0) (af (V 2-V 1) (V 3-V 1))) d_
theorem Ve(a b c:V3 F):turn n a b c=tr n (b-a) (c-b):=
 ring [n,a,b,c] [] (λV _=>dot (V 0) (af (V 2-V 1) (V 3-V 1))) (λV _=>dot (V 0) (af (V 2-V 1) (V 3-V 2))) d_
theorem aLw(a b c:V3 F):turn n a b c=tr n (b-a) (c-a):=rfl
theorem PA(x y:V3 F):tr n y x=-tr n x y:=
 ring [n,x,y] [] (λV _=>dot (V 0) (af (V 2) (V 1))) (λV _=>-dot (V 0) (af (V 1) (V 2))) d_
theorem Vf(x y:V3 F):tr n x (-y)=-tr n x y:=
 ring [n,x,y] [] (λV _=>dot (V 0) (af (V 1) (-V 2))) (λV _=>-dot (V 0) (af (V 1) (V 2))) d_
theorem aLx(x:V3 F):tr n x x=0:=ring [n,x] [] (λV _=>dot (V 0) (af (V 1) (V 1))) (λ_ _=>0) d_
theorem Ck(a b:V3 F):b-a=-(a-b):=gV [a,b] [] (λV _=>V 1-V 0) (λV _=>-(V 0-V 1)) d_
theorem aB5{x y z:V3 F}(hn:n≠0)(hx:dot n x=0)(hy:dot n y=0)(hz:dot n z=0):
  smul y (tr n x z)=smul z (tr n x y)+smul x (tr n y z):=by
 have hd:bA x y z=0:=by apply iP;intro h;exact hn (Ge h (by rw[wE];exact hx) (by rw[wE];exact hy) (by rw[wE];exact hz))
 have e:smul y (tr n x z)=smul z (tr n x y)+smul x (tr n y z)-smul n (bA x y z):=
  gV [n,x,y,z] [] (λV _=>smul (V 2) (dot (V 0) (af (V 1) (V 3))))
   (λV _=>smul (V 3) (dot (V 0) (af (V 1) (V 2)))+smul (V 1) (dot (V 0) (af (V 2) (V 3)))-smul (V 0) (bA (V 1) (V 2) (V 3))) d_
 rw[e,hd,smul_zero];exact gV [smul z (tr n x y),smul x (tr n y z)] [] (λV _=>V 0+V 1-0) (λV _=>V 0+V 1) d_
theorem Vg(H:jc F){x y z:V3 F}(hn:n≠0)(hx:dot n x=0)(hy:dot n y=0)(hz:dot n z=0)(fx:H.fw x)(fy:H.fw y)(fz:H.fw z)
  (h:0<tr n x y) (k:0<tr n y z):0<tr n x z:=by
 have e:=aB5 n hn hx hy hz;have f:H.fw (smul y (tr n x z)):=by rw[e];exact H.add (H.mul fz h) (H.mul fx k)
 rcases OF.lt_trichotomy 0 (tr n x z)with g|g|g
 ·exact g
 ·rw[<-g,smul_zero]at f;exact absurd f jc.zero
 ·exact(H.asymm f (by rw[show -(smul y (tr n x z))=smul y (-(tr n x z))from gV [y] [tr n x z] (λV S=>-(smul (V 0) (S 0))) (λV S=>smul (V 0) (-S 0)) d_];exact H.mul fy (neg_pos.2 g))).elim
theorem aLy{m x y z:V3 F}(hn:n≠0)(hx:dot n x=0)(hy:dot n y=0)(hz:dot n z=0)(fx:0<dot m x)(fy:0<dot m y)(fz:0<dot m z)
  (h:0<tr n x y) (k:0<tr n y z):0<tr n x z:=by
 have e:=cS (dot m) (aB5 n hn hx hy hz);rw[jm,gk,gk,gk]at e;have p:0<dot m y*tr n x z:=by rw[e];exact add_pos (mul_pos fz h) (mul_pos fx k)
 rwa[<-CR.mul_zero (dot m y),mul_lt_mul_left fy]at p
variable{ι:Type}(pt:ι->V3 F)
structure Conv(S:List ι):Prop where
 pX:∀ a∈S,∀ b∈S,dot n (pt b-pt a)=0
 yc:∀ c∈S,∃ m:V3 F,∀ w∈S,w≠c->dot m (pt w)<dot m (pt c)
variable{n pt}
theorem Conv.sub{S T:List ι}(h:Conv n pt S)(hT:∀ x∈T,x∈S):Conv n pt T:=
 ⟨λa ha b hb=>h.pX a (hT a ha) b (hT b hb),λc hc=>(h.yc c (hT c hc)).imp λ_ hm w hw=>hm w (hT w hw)⟩
theorem Conv.PB{S:List ι}(h:Conv n pt S)(hn:n≠0){a b c:ι}(ha:a∈S)(hb:b∈S)(hc:c∈S)(b9:a≠b)(PC:a≠c)(Al:b≠c):
  turn n (pt a) (pt b) (pt c)≠0:=by
 intro e;generalize hx:pt b-pt a=x at *;generalize hy:pt c-pt a=y at *;have px:dot n x=0:=hx▸h.pX a ha b hb;have py:dot n y=0:=hy▸h.pX a ha c hc;have e':dot n (af x y)=0:=by rw[<-hx,<-hy];exact e
 have hz:af x y=0:=by
  apply iP;intro bw;apply Gf hn bw e';have e2:af n (af x y)=smul x (dot n y)-smul y (dot n x):=
   gV [n,x,y] [] (λV _=>af (V 0) (af (V 1) (V 2))) (λV _=>smul (V 1) (dot (V 0) (V 2))-smul (V 2) (dot (V 0) (V 1))) d_
  rw[e2,px,py,smul_zero,smul_zero,V3.sub_self]
 obtain⟨ma,fa⟩:=h.yc a ha;obtain⟨mb,fb⟩:=h.yc b hb;obtain⟨mc,fc⟩:=h.yc c hc;have hax:dot ma x<0:=by rw[<-hx,hZ,<-neg_pos,OF.neg_sub];exact OF.sub_pos.2 (fa b hb (kO b9))
 have hay:dot ma y<0:=by rw[<-hy,hZ,<-neg_pos,OF.neg_sub];exact OF.sub_pos.2 (fa c hc (kO PC))
 have Vh:0<dot mb x:=by rw[<-hx,hZ];exact OF.sub_pos.2 (fb a ha b9)
 have aLz:dot mb y<dot mb x:=by have:=fb c hc (kO Al);rw[<-hx,<-hy,hZ,hZ,OF.lt_def];rw[show dot mb (pt b)-dot mb (pt a)-(dot mb (pt c)-dot mb (pt a))=dot mb (pt b)-dot mb (pt c)from kJ (dot mb (pt a)) (dot mb (pt b)) (dot mb (pt c)) (λa b c=>b-a-(c-a)) (λ_ b c=>b-c) d_];exact this
 have Vi:0<dot mc y:=by rw[<-hy,hZ];exact OF.sub_pos.2 (fc a ha PC)
 have aLA:dot mc x<dot mc y:=by have:=fc b hb Al;rw[<-hx,<-hy,hZ,hZ,OF.lt_def];rw[show dot mc (pt c)-dot mc (pt a)-(dot mc (pt b)-dot mc (pt a))=dot mc (pt c)-dot mc (pt b)from kJ (dot mc (pt a)) (dot mc (pt b)) (dot mc (pt c)) (λa b c=>c-a-(b-a)) (λ_ b c=>c-b) d_];exact this
 -- y is a aV6 t of x
 have lv:x≠0:=by rintro rfl;rw[vy]at Vh;exact OF.lt_irrefl _ Vh
 have key:∀ m:V3 F,dot m y*dot x x=dot m x*dot x y:=by
  intro m;have e2:dot m y*dot x x=dot m x*dot x y-dot m (af x (af x y)):=
   ring [m,x,y] [] (λV _=>dot (V 0) (V 2)*dot (V 1) (V 1)) (λV _=>dot (V 0) (V 1)*dot (V 1) (V 2)-dot (V 0) (af (V 1) (af (V 1) (V 2)))) d_
  rw[hz,show af x (0:V3 F)=0 from gV [x] [] (λV _=>af (V 0) 0) (λ_ _=>0) d_,vy,OF.sub_zero]at e2;exact e2
 have HX:=D1 lv;have kb:=key mb;have kc:=key mc;have ka:=key ma
 -- from b: t<1;from c: t>1 as t>0
 have t1:dot x y<dot x x:=by rw[<-mul_lt_mul_left Vh,<-kb,CR.mul_comm,CR.mul_comm (dot mb x),mul_lt_mul_left HX];exact aLz
 have aLB:0<dot x y:=by have h1:0 < -dot ma x:=neg_pos.2 hax;rw[<-mul_lt_mul_left h1,CR.mul_zero,CR.neg_mul,<-ka,<-CR.neg_mul];exact mul_pos (neg_pos.2 hay) HX
 have Ll:0<dot mc x:=by
  have:0<dot x y*dot mc x:=by rw[CR.mul_comm,<-kc];exact mul_pos Vi HX
  rwa[<-CR.mul_zero (dot x y),mul_lt_mul_left aLB]at this
 have t2:dot x x<dot x y:=by rw[<-mul_lt_mul_left Ll,<-kc,CR.mul_comm,CR.mul_comm (dot mc y),mul_lt_mul_left HX];exact aLA
 exact OF.lt_irrefl _ (OF.lt_trans t1 t2)
def mP(n:V3 F)(pt:ι->V3 F)(T:List ι)(a b:ι):Prop:=∀ c∈T,c≠a->c≠b->0<turn n (pt a) (pt b) (pt c)
variable(H:jc F)
def fk(n:V3 F)(pt:ι->V3 F)(H:jc F)(T:List ι):List ι->Prop
 |[]=>False
 |[a]=>a∈T/\∀ c∈T,c≠a->H.fw (pt c-pt a)
 |b::a::st=>b∈T/\H.fw (pt b-pt a)/\mP n pt T a b/\fk n pt H T (a::st)
def pop(n:V3 F)(pt:ι->V3 F)(p:ι):List ι->List ι
 |b::a::st=>if 0<turn n (pt a) (pt b) (pt p)then b::a::st else pop n pt p (a::st)
 |st=>st
def half(n:V3 F)(pt:ι->V3 F)(l:List ι):List ι:=l.foldl (λst p=>p::pop n pt p st) []
variable{H}
theorem fk.mem{T:List ι}:∀{st:List ι},fk n pt H T st->∀ x∈st,x∈T
 |[a],h,x,hx=>by rcases cD.1 hx with rfl|hx;exact h.1;cases hx
 |b::a::st,h,x,hx=>by
  rcases cD.1 hx with rfl|hx
  ·exact h.1
  ·exact fk.mem h.2.2.2 x hx
theorem fk.below{T:List ι}:∀{b:ι} {st:List ι},fk n pt H T (b::st)->∀ x∈st,H.fw (pt b-pt x)
 |b,a::st,h,x,hx=>by
  rcases cD.1 hx with rfl|hx
  ·exact h.2.1
  ·exact jc.aB4 (fk.below h.2.2.2 x hx) h.2.1
 |b,[],_,x,hx=>by cases hx
theorem fk.least{T:List ι}:∀{st:List ι},fk n pt H T st->∃ a,st.getLast?=some a/\a∈T/\∀ c∈T,c≠a->H.fw (pt c-pt a)
 |[a],h=>⟨a,rfl,h.1,h.2⟩
 |b::a::st,h=>by obtain⟨x,hx,hm,bh⟩:=fk.least h.2.2.2;exact⟨x,by rw[PD];exact hx,hm,bh⟩
theorem fk.grow{T:List ι}{p w:ι}(hn:n≠0)(hc:Conv n pt (p::T))(hp:∀ c∈T,H.fw (pt p-pt c))(hw:w∈T)
  (hpw:∀ c∈T,c≠w->0<turn n (pt w) (pt p) (pt c)):∀{st:List ι},fk n pt H T st->(∀ x∈st,H.fw (pt w-pt x))->fk n pt H (p::T) st
 |[a],h,_=>⟨bI _ h.1,λc hc ha=>by
   rcases cD.1 hc with rfl|hc
   ·exact hp a h.1
   ·exact h.2 c hc ha⟩
 |v::u::st,h,bT=>by
  refine⟨bI _ h.1,h.2.1,?_,fk.grow hn hc hp hw hpw h.2.2.2 λx hx=>bT x (bI _ hx)⟩;intro c dN R8 kA;rcases cD.1 dN with rfl|dN
  ·have hv:v∈T:=h.1;have hu:u∈T:=fk.mem h.2.2.2 u (aR ..);have fwv:H.fw (pt w-pt v):=bT v (aR ..);have wv:w≠v:=by rintro rfl;exact jc.ne fwv rfl
   have wu:w≠u:=by rintro rfl;exact jc.ne (bT w (bI _ (aR ..))) rfl
   have h1:=h.2.2.1 w hw wu wv;have h2:=hpw v hv (kO wv);rw[<-Gi]at h2;rw[Ve]at h1 ⊢;have rC:=bI c hv;exact Vg n H hn (hc.pX u (bI _ hu) v rC) (hc.pX v rC w (bI _ hw)) (hc.pX v rC c (aR ..)) h.2.1 fwv (hp v hv) h1 h2
  ·exact h.2.2.1 c dN R8 kA
theorem fk.pop{T:List ι}{p:ι}(hn:n≠0)(hc:Conv n pt (p::T))(hp:∀ c∈T,H.fw (pt p-pt c))
  (aLC:∀ a∈T,∀ c∈T,c≠a->H.fw (pt c-pt a)\/H.fw (pt a-pt c)) :
  ∀{b:ι} {st:List ι},fk n pt H T (b::st)->
   ((∀ c∈T,c≠b->H.fw (pt b-pt c))\/∃ e∈T,e≠b/\H.fw (pt e-pt b)/\mP n pt T b e/\turn n (pt b) (pt e) (pt p)<=0)->
   fk n pt H (p::T) (p::Go.Proofs.YthjhinbiabcfiaaGreatDoor.pop n pt p (b::st)):=by
 have pp:p∈p::T:=aR ..;have mm:∀{x},x∈T->x∈p::T:=λh=>bI _ h;have pne:∀ c∈T,p≠c:=λc hc e=>jc.ne (hp c hc) (by rw[e])
 -- points in front of b
 have front:∀{b c:ι},b∈T->c∈T->c≠b->H.fw (pt c-pt b)->
   ((∀ c∈T,c≠b->H.fw (pt b-pt c))\/∃ e∈T,e≠b/\H.fw (pt e-pt b)/\mP n pt T b e/\turn n (pt b) (pt e) (pt p)<=0)->0<turn n (pt b) (pt p) (pt c):=by
  intro b c hb dN ku hf lI;rcases lI with vz|⟨e,he,Lm,PE,hl,ht⟩
  ·exact(jc.IG hf (vz c dN ku)).elim
  ·have Fb:0<turn n (pt b) (pt p) (pt e):=by
    rw[Vd,neg_pos];rcases OF.nX ht with h|h
    ·exact h
    ·exact absurd h (hc.PB hn (mm hb) (mm he) pp (kO Lm) (kO (pne b hb)) (kO (pne e he)))
   by_cases hce:c=e
   ·rw[hce];exact Fb
   ·have h3:=hl c dN ku hce;exact Vg n H hn (hc.pX b (mm hb) p pp) (hc.pX b (mm hb) e (mm he)) (hc.pX b (mm hb) c (mm dN)) (hp b hb) PE hf Fb h3
 intro b st;induction st generalizing b with
 |nil=>
  intro h lI;refine⟨pp,hp b h.1,?_,mm h.1,λc dN ku=>?_⟩
  ·intro c dN ku Gj;have vA:c∈T:=(cD.1 dN).resolve_left Gj;exact front h.1 vA ku (h.2 c vA ku) lI
  ·rcases cD.1 dN with rfl|vA
   ·exact hp b h.1
   ·exact h.2 c vA ku
 |cons a st ih=>
  intro h lI;have ha:a∈T:=fk.mem h.2.2.2 a (aR ..);have hb:b∈T:=h.1;unfold Go.Proofs.YthjhinbiabcfiaaGreatDoor.pop;split
  ·rename_i PF;have bh:∀ c∈T,c≠b->0<turn n (pt b) (pt p) (pt c):=by
    intro c vA ku;rcases aLC b hb c vA ku with hf|hf
    ·exact front hb vA ku hf lI
    ·-- c aLD behind b
     have h1:0<tr n (pt b-pt a) (pt p-pt b):=by rw[<-Ve];exact PF
     rw[aLw];by_cases fB:c=a
     ·rw[fB,Ck (pt b) (pt a),Vf,neg_pos,PA,FP];exact h1
     ·have h2:=h.2.2.1 c vA fB ku;rw[Ve]at h2;rw[Ck (pt b) (pt c),Vf,neg_pos,PA,FP];refine Vg n H hn (hc.pX c (mm vA) b (mm hb)) (hc.pX a (mm ha) b (mm hb)) (hc.pX b (mm hb) p pp) hf h.2.1 (hp b hb) ?_ h1;rw[Ck (pt b) (pt c),Vf,neg_pos,PA,FP]at h2;exact h2
   refine⟨pp,hp b hb,?_,mm hb,h.2.1,?_,?_⟩
   ·intro c dN ku Gj;exact bh c ((cD.1 dN).resolve_left Gj) ku
   ·intro c dN fB ku;rcases cD.1 dN with rfl|vA
    ·exact PF
    ·exact h.2.2.1 c vA fB ku
   ·exact fk.grow hn hc hp hb bh h.2.2.2 (fk.below h)
  ·rename_i PF;exact ih h.2.2.2 (.inr ⟨b,hb,λe=>jc.ne h.2.1 (by rw[e]),h.2.1,h.2.2.1,OF.not_lt.1 PF⟩)
end
section
variable{F:Type}[OF F]{n:V3 F}{ι:Type}{pt:ι->V3 F}{H:jc F}
def yd(pt:ι->V3 F)(H:jc F)(l:List ι):Prop:=l.Pairwise λa b=>H.fw (pt b-pt a)
theorem aB6(p:ι):∀(b:ι) (st:List ι),∃ x fK,pop n pt p (b::st)=x::fK
 |b,[]=>⟨b,[],rfl⟩
 |b,a::st=>by
  unfold pop;split
  ·exact⟨_,_,rfl⟩
  ·exact aB6 p a st
theorem yd.total{l:List ι}(h:yd pt H l):∀ a∈l,∀ c∈l,c≠a->H.fw (pt c-pt a)\/H.fw (pt a-pt c):=by
 induction l with
 |nil=>intro a ha;cases ha
 |cons x l ih=>
  have h1:=tn.1 h;intro a ha c hc fB;rcases cD.1 ha with e|gR
  ·rcases cD.1 hc with e2|dq
   ·exact absurd (e2.trans e.symm) fB
   ·exact .inl (e▸h1.1 c dq)
  ·rcases cD.1 hc with e2|dq
   ·exact .inr (e2▸h1.1 a gR)
   ·exact ih h1.2 a gR c dq fB
theorem fk.congr{T T':List ι}(h:∀ x,x∈T↔x∈T'):∀{st:List ι},fk n pt H T st->fk n pt H T' st
 |[a],hc=>⟨(h a).1 hc.1,λc hm=>hc.2 c ((h c).2 hm)⟩
 |b::a::st,hc=>⟨(h b).1 hc.1,hc.2.1,λc hm=>hc.2.2.1 c ((h c).2 hm),fk.congr h hc.2.2.2⟩
theorem aB7(hn:n≠0):∀(l T:List ι) (b:ι) (st:List ι),Conv n pt (T++l)->yd pt H (T++l)->b∈T->(∀ c∈T,c≠b->H.fw (pt b-pt c))->
  fk n pt H T (b::st)->∃ x fK,l.foldl (λst p=>p::pop n pt p st) (b::st)=x::fK/\fk n pt H (T++l) (x::fK)/\(∀ c∈T++l,c≠x->H.fw (pt x-pt c))/\(l.getLast?).getD b=x
 |[],T,b,st,_,_,hb,vz,h=>⟨b,st,rfl,by rw[jO];exact h,by rw[jO];exact vz,rfl⟩
 |p::l,T,b,st,hc,hs,hb,vz,h=>by
  have pL:=List.pairwise_append.1 hs;have hp:∀ c∈T,H.fw (pt p-pt c):=λc vA=>pL.2.2 c vA p (aR ..);have mem:∀ x,x∈p::T↔x∈T++[p]:=λx=>by simp[or_comm]
  have h1:=fk.pop hn (hc.sub (T:=p::T) λx hx=>by
   rcases cD.1 hx with rfl|hx
   ·exact eX.2 (.inr (aR ..))
   ·exact eX.2 (.inl hx)) hp (yd.total pL.1) h (.inl vz)
  obtain⟨x,fK,hx⟩:=aB6 (n:=n) (pt:=pt) p b st;rw[hx]at h1;have e:T++[p]++l=T++p::l:=by simp
  obtain⟨y,st2,hf,ye,Vj,hl⟩:=aB7 hn l (T++[p]) p (x::fK) (by rw[e];exact hc) (by rw[e];exact hs) s_
   (λc dN Gj=>by
    rcases eX.1 dN with dN|dN
    ·exact hp c dN
    ·exact absurd (Cm.1 dN) Gj) (fk.congr mem h1)
  refine⟨y,st2,?_,by rw[<-e];exact ye,by rw[<-e];exact Vj,?_⟩
  ·rw[v8,hx];exact hf
  ·rw[<-hl];cases l with
   |nil=>rfl
   |cons z l=>rw[PD,List.getLast?_eq_some_getLast (l:=z::l) s_];rfl
theorem aB8(hn:n≠0){l:List ι}{a:ι}(hc:Conv n pt (a::l))(hs:yd pt H (a::l)):
  ∃ x st,half n pt (a::l)=x::st/\fk n pt H (a::l) (x::st)/\(∀ c∈a::l,c≠x->H.fw (pt x-pt c))/\(l.getLast?).getD a=x:=by
 have pL:=tn.1 hs
 exact aB7 hn l [a] a [] (by exact hc) (by exact hs) (aR ..)
  (λc dN fB=>absurd (Cm.1 dN) fB) ⟨aR ..,λc dN fB=>absurd (Cm.1 dN) fB⟩
def mA(R:ι->ι->Prop):List ι->Prop
 |[]=>True
 |[_]=>True
 |a::b::l=>R a b/\mA R (b::l)
theorem Vk{R:ι->ι->Prop}:∀{l:List ι} {a:ι} {m:List ι},mA R (l++[a])->mA R (a::m)->mA R (l++a::m)
 |[],a,m,_,h=>h
 |[x],a,m,h1,h=>⟨h1.1,h⟩
 |x::y::l,a,m,h1,h=>⟨h1.1,Vk (l:=y::l) h1.2 h⟩
theorem aB9{R:ι->ι->Prop}:∀{l:List ι} {a b:ι},mA R (l++[a])->R a b->mA R (l++[a,b])
 |[],a,b,_,h=>⟨h,trivial⟩
 |[x],a,b,h1,h=>⟨h1.1,h,trivial⟩
 |x::y::l,a,b,h1,h=>⟨h1.1,aB9 (l:=y::l) h1.2 h⟩
theorem fk.steps{T:List ι}:∀{st:List ι},fk n pt H T st->mA (λa b=>mP n pt T a b/\H.fw (pt b-pt a)) st.reverse
 |[a],_=>trivial
 |b::a::st,h=>by have ih:=fk.steps h.2.2.2;rw[wG]at ih ⊢;rw[wG,E9];exact aB9 ih ⟨h.2.2.1,h.2.1⟩
theorem mA.imp{R R':ι->ι->Prop}(h:∀ a b,R a b->R' a b):∀{l:List ι},mA R l->mA R' l
 |[],_=>trivial
 |[_],_=>trivial
 |_::b::l,hs=>⟨h _ _ hs.1,mA.imp h (l:=b::l) hs.2⟩
def order(n:V3 F)(pt:ι->V3 F)(l:List ι):List ι:=(half n pt l).tail.reverse++(half n pt l.reverse).tail.reverse
theorem aLE(hn:n≠0){S:List ι}(hc:Conv n pt S){c:ι}(Ln:c∈S):∀{l:List ι} {a b:ι},(∀ x∈a::l,x∈S)->c∉a::l->
  mA (λa b=>mP n pt S a b) (a::l)->(a::l).getLast?=some b->a=b\/0<tr n (pt a-pt c) (pt b-pt c):=by
 obtain⟨m,hm⟩:=hc.yc c Ln;intro l;induction l with
 |nil=>intro a b _ _ _ h;left;simpa using h
 |cons x l ih=>
  intro a b hS Ac bT pO;right;have Ll:c∉x::l:=λh=>Ac (bI _ h);have fB:c≠a:=λh=>Ac (h▸aR ..);have aCa:c≠x:=λh=>Ll (h▸aR ..);have h1:0<tr n (pt a-pt c) (pt x-pt c):=by have:=bT.1 c Ln fB aCa;rw[<-Gi]at this;exact this
  have aCb:(x::l).getLast?=some b:=by rw[PD]at pO;exact pO
  have hb:b∈x::l:=List.mem_of_getLast? aCb;have aS:=hS a (aR ..);have xS:=hS x (bI _ (aR ..));have bS:=hS b (bI _ hb);have neg:∀ y∈S,c≠y->0<dot (-m) (pt y-pt c):=by intro y hy Vi;rw[ya,hZ,OF.neg_sub];exact OF.sub_pos.2 (hm y hy (kO Vi))
  rcases ih (λy hy=>hS y (bI _ hy)) Ll bT.2 aCb with rfl|h2
  ·exact h1
  ·exact aLy n hn (hc.pX c Ln a aS) (hc.pX c Ln x xS) (hc.pX c Ln b bS) (neg a aS fB) (neg x xS aCa) (neg b bS (λh=>Ll (h▸hb))) h1 h2
theorem aLF(l:List ι)(a:ι):(l++[a]).getLast?=some a:=by simp
theorem Vl{S:List ι}(hS:∀ a∈S,∀ b∈S,pt a=pt b->a=b){a b c:ι}(hb:b∈S)(hc:c∈S)(b9:b≠a)(PC:c≠a)(h1:mP n pt S a b)(h2:mP n pt S a c):b=c:=by apply iP;intro Al;have k1:=h1 c hc PC (kO Al);have k2:=h2 b hb b9 Al;rw[Vd]at k2;exact OF.lt_irrefl _ (OF.lt_trans k1 (neg_pos.1 k2))
theorem Vm{T:List ι}:∀{st:List ι},fk n pt H T st->st.Pairwise λa b=>H.fw (pt a-pt b)
 |[_],_=>Vn ..
 |b::a::st,h=>tn.2 ⟨fk.below h,Vm h.2.2.2⟩
theorem aCc(hn:n≠0){l:List ι}{a b:ι}(hc:Conv n pt (a::b::l))(hs:yd pt H (a::b::l)):
  ∃ m,order n pt (a::b::l)=a::m/\(a::m).Nodup/\(∀ x,x∈a::m↔x∈a::b::l)/\mA (λx y=>mP n pt (a::b::l) x y) (a::m++[a]):=by
 generalize hS:a::b::l=S at *
 -- the way there
 obtain⟨z,st,hh,ye,vz,hz⟩:=aB8 (H:=H) hn (l:=b::l) (a:=a) (hS▸hc) (hS▸hs);rw[hS]at hh ye vz
 -- the list from Vo end on,and the opposite half
 have aLG:∃ w t,S.reverse=w::t:=by
  cases h:S.reverse with
  |nil=>rw[aCd]at h;rw[<-hS]at h;cases h
  |cons w t=>exact⟨w,t,rfl⟩
 obtain⟨w,t,PG⟩:=aLG;have Am:∀ x,x∈w::t↔x∈S:=λx=>by rw[<-PG];exact Lo
 have JZ:yd pt H.opp (w::t):=by rw[<-PG];unfold yd at *;rw[aCe];refine hs.imp ?_;intro x y h;show H.fw (-(pt x-pt y));rw[<-Ck];exact h
 have hcr:Conv n pt (w::t):=hc.sub λx hx=>(Am x).1 hx;obtain⟨z',fK,Cn,D2,aLH,ox⟩:=aB8 (H:=H.opp) hn hcr JZ;have aS:a∈S:=by rw[<-hS];exact aR ..
 have bS:b∈S:=by rw[<-hS];exact bI _ (aR ..)
 have Vp:∀ c∈S,c≠a->H.fw (pt c-pt a):=by intro c dN fB;rw[<-hS]at dN hs;exact(tn.1 hs).1 c ((cD.1 dN).resolve_left fB)
 -- the ends of both aLI
 have hza:z'=a:=by
  apply iP;intro bw;have h1:=aLH a ((Am a).2 aS) (kO bw);have h2:=Vp z' ((Am z').1 (fk.mem D2 z' (aR ..))) bw;have oU:H.fw (pt a-pt z'):=by rw[Ck (pt z') (pt a)];exact h1
  exact jc.IG h2 oU
 subst hza;obtain⟨a1,eL,aLJ,aLK⟩:=fk.least ye;have hra:a1=z':=by apply iP;intro bw;exact jc.IG (Vp a1 aLJ bw) (aLK z' aS (kO bw))
 rw[hra]at eL;obtain⟨w1,Gk,aLL,aLM⟩:=fk.least D2;have zS:z∈S:=fk.mem ye z (aR ..);have hwz:w1=z:=by
  apply iP;intro bw;have h1:=vz w1 ((Am w1).1 aLL) bw;have h2:=aLM z ((Am z).2 zS) (kO bw);have wo:H.fw (pt w1-pt z):=by rw[Ck (pt z) (pt w1)];exact h2
  exact jc.IG h1 wo
 rw[hwz]at Gk;have haz:z'≠z:=by
  rintro rfl
  rcases Classical.em (b=z')with rfl|qO
  ·rw[<-hS]at hs;exact jc.ne ((tn.1 hs).1 b (aR ..)) rfl
  ·exact jc.IG (Vp b bS qO) (vz b bS qO)
 -- the pieces
 have aLN:∃ u,st.reverse=z'::u:=by
  cases st with
  |nil=>simp at eL;exact absurd eL.symm haz
  |cons x st=>
   rw[PD]at eL;cases h:(x::st).reverse with
   |nil=>rw[aCd]at h;cases h
   |cons q u=>
    have:(x::st)=(q::u).reverse:=by rw[<-h,List.reverse_reverse]
    rw[this,wG,List.getLast?_append,List.getLast?_singleton]at eL;simp at eL;exact⟨u,by rw[eL]⟩
 have aLO:∃ u,fK.reverse=z::u:=by
  cases fK with
  |nil=>simp at Gk;exact absurd Gk haz
  |cons x fK=>
   rw[PD]at Gk;cases h:(x::fK).reverse with
   |nil=>rw[aCd]at h;cases h
   |cons q u=>
    have:(x::fK)=(q::u).reverse:=by rw[<-h,List.reverse_reverse]
    rw[this,wG,List.getLast?_append,List.getLast?_singleton]at Gk;simp at Gk;exact⟨u,by rw[Gk]⟩
 obtain⟨u,hu⟩:=aLN;obtain⟨u',pJ⟩:=aLO;have aLP:order n pt S=z'::(u++z::u'):=by unfold order;rw[hh,PG,Cn];simp only[List.tail_cons];rw[hu,pJ];rfl
 refine⟨u++z::u',aLP,?_,?_,?_⟩
 case refine_3=>
  have s1:=(fk.steps ye).imp (R':=λx y=>mP n pt S x y) λx y h=>h.1;have s2:=(fk.steps D2).imp (R':=λx y=>mP n pt S x y) λx y h c dN=>h.1 c ((Am c).2 dN);rw[wG,hu]at s1;rw[wG,pJ]at s2;have:=Vk (l:=z'::u) (a:=z) (m:=u'++[z']) s1 s2;simpa using this
 case refine_2=>
  have sub:∀ x,x∈z'::(u++z::u')->x∈S:=by
   intro x hx;have:x∈z'::u\/x∈z::u':=by
    rcases cD.1 hx with h|h
    ·exact .inl (h▸aR ..)
    ·rcases eX.1 h with h|h
     ·exact .inl (bI _ h)
     ·exact .inr h
   rcases this with h|h
   ·rw[<-hu,Lo]at h;exact fk.mem ye x (bI _ h)
   ·rw[<-pJ,Lo]at h;exact(Am x).1 (fk.mem D2 x (bI _ h))
  intro x;refine⟨sub x,λhx=>?_⟩;apply iP;intro fU;have s1:=(fk.steps ye).imp (R':=λx y=>mP n pt S x y) λx y h=>h.1;have s2:=(fk.steps D2).imp (R':=λx y=>mP n pt S x y) λx y h c dN=>h.1 c ((Am c).2 dN);rw[wG,hu]at s1;rw[wG,pJ]at s2;have s3:=Vk (l:=z'::u) (a:=z) (m:=u'++[z']) s1 s2;have lv:z'≠x:=λh=>fU (h▸aR ..)
  -- the first step,then the rest back to Vo start
  have aLQ:∃ y v,u++z::(u'++[z'])=y::v:=by
   cases u with
   |nil=>exact⟨z,_,rfl⟩
   |cons y u=>exact⟨y,_,rfl⟩
  obtain⟨y,v,JR⟩:=aLQ;have s3':mA (λx y=>mP n pt S x y) (z'::y::v):=by rw[<-JR];exact s3
  have bh:∀ q∈y::v,q=z'\/q∈z'::(u++z::u'):=by
   intro q hq;rw[<-JR]at hq;have:q∈u++z::u'\/q=z':=by simpa[or_assoc]using hq
   rcases this with h|h
   ·exact .inr (bI _ h)
   ·exact .inl h
  have Kx:x∉y::v:=λh=>by
   rcases bh x h with h|h
   ·exact lv h.symm
   ·exact fU h
  have hyS:∀ q∈y::v,q∈S:=λq hq=>by
   rcases bh q hq with h|h
   ·rw[h];exact aS
   ·exact sub q h
  have pO:(y::v).getLast?=some z':=by rw[<-JR,show u++z::(u'++[z'])=(u++z::u')++[z']by simp];exact aLF _ _
  have hyx:x≠y:=λh=>Kx (h▸aR ..);have h1:0<tr n (pt z'-pt x) (pt y-pt x):=by have:=s3'.1 x hx (kO lv) hyx;rw[<-Gi]at this;exact this
  rcases aLE hn hc hx hyS Kx s3'.2 pO with h2|h2
  ·rw[h2,aLx]at h1;exact OF.lt_irrefl _ h1
  ·rw[PA]at h2;exact OF.lt_irrefl _ (OF.lt_trans h1 (neg_pos.1 h2))
 case refine_1=>
  have d1:=Vm ye;have d2:=Vm D2;have e1:(z'::u).Pairwise λa b=>H.fw (pt b-pt a):=by rw[<-hu,aCe];exact(tn.1 d1).2
  have e2:(z::u').Pairwise λa b=>H.fw (pt a-pt b):=by rw[<-pJ,aCe];refine(tn.1 d2).2.imp ?_;intro x y h;rw[Ck (pt x) (pt y)];exact h
  have inj:∀ x∈S,∀ y∈S,pt x=pt y->x=y:=by
   intro x hx y hy kR;apply iP;intro bw;rcases yd.total hs y hy x hx bw with h|h
   ·exact jc.ne h kR.symm
   ·exact jc.ne h kR
  have n1:(z'::u).Nodup:=e1.imp λh=>λe=>jc.ne h (by rw[e]);have n2:(z::u').Nodup:=e2.imp λh=>λe=>jc.ne h (by rw[e]);rw[show z'::(u++z::u')=(z'::u)++(z::u')from rfl,List.nodup_append];refine⟨n1,n2,?_⟩;intro x hx y hy kR;subst kR
  -- x aLD on both aLI: Vo aV7 differ
  have aLR:∀{l:List ι} {e x:ι},mA (λa b=>mP n pt S a b/\H.fw (pt b-pt a)) (l++[e])->x∈l->∃ y∈l++[e],mP n pt S x y/\H.fw (pt y-pt x):=by
   intro l;induction l with
   |nil=>intro e x _ h;cases h
   |cons p l ih=>
    intro e x bT hx;cases l with
    |nil=>
     rcases cD.1 hx with rfl|h
     ·exact⟨e,by simp,bT.1⟩
     ·cases h
    |cons q l=>
     rcases cD.1 hx with rfl|h
     ·exact⟨q,by simp,bT.1⟩
     ·obtain⟨y,hy,h2⟩:=ih (e:=e) bT.2 h;exact⟨y,bI _ hy,h2⟩
  have s1:=fk.steps ye;rw[wG,hu]at s1;obtain⟨y1,hy1,vS,iG⟩:=aLR s1 hx;have y1S:y1∈S:=by rw[<-hu,<-wG,Lo]at hy1;exact fk.mem ye y1 hy1
  have s2:=(fk.steps D2).imp (R':=λx y=>mP n pt S x y/\H.fw (pt x-pt y)) λx y h=>⟨λc dN=>h.1 c ((Am c).2 dN),by have:H.fw (-(pt y-pt x)):=h.2;rwa[<-Ck]at this⟩
  rw[wG,pJ]at s2;have aLS:∀{l:List ι} {e x:ι},mA (λa b=>mP n pt S a b/\H.fw (pt a-pt b)) (l++[e])->x∈l->∃ y∈l++[e],mP n pt S x y/\H.fw (pt x-pt y):=by
   intro l;induction l with
   |nil=>intro e x _ h;cases h
   |cons p l ih=>
    intro e x bT hx;cases l with
    |nil=>
     rcases cD.1 hx with rfl|h
     ·exact⟨e,by simp,bT.1⟩
     ·cases h
    |cons q l=>
     rcases cD.1 hx with rfl|h
     ·exact⟨q,by simp,bT.1⟩
     ·obtain⟨y,hy,h2⟩:=ih (e:=e) bT.2 h;exact⟨y,bI _ hy,h2⟩
  obtain⟨y2,vB,jr,je⟩:=aLS s2 hy;have y2S:y2∈S:=by rw[<-pJ,<-wG,Lo]at vB;exact(Am y2).1 (fk.mem D2 y2 vB)
  have:=Vl inj y1S y2S (λe=>jc.ne iG (by rw[e])) (λe=>jc.ne je (by rw[e])) vS jr;subst this;exact jc.IG iG je
end
section
variable{F:Type}[OF F]
def An(v:V3 F):Prop:=0<v.x\/(v.x=0/\(0<v.y\/(v.y=0/\0<v.z)))
theorem aLT(v:V3 F)(k:F):(smul v k).x=v.x*k:=rfl
theorem aLU(v:V3 F)(k:F):(smul v k).y=v.y*k:=rfl
theorem aLV(v:V3 F)(k:F):(smul v k).z=v.z*k:=rfl
theorem aLW(u v:V3 F):(u+v).x=u.x+v.x:=rfl
theorem aLX(u v:V3 F):(u+v).y=u.y+v.y:=rfl
theorem aLY(u v:V3 F):(u+v).z=u.z+v.z:=rfl
theorem aLZ(u:V3 F):(-u).x=-u.x:=rfl
theorem aL0(u:V3 F):(-u).y=-u.y:=rfl
theorem aL1(u:V3 F):(-u).z=-u.z:=rfl
def aCf:jc F where
 fw:=An
 add {x y} hx hy:=by
  unfold An at *;rw[aLW,aLX,aLY];rcases hx with hx|⟨hx,ij|⟨ij,Lp⟩⟩<;>rcases hy with hy|⟨hy,vB|⟨vB,Vq⟩⟩
  ·exact .inl (add_pos hx hy)
  ·exact .inl (by rw[hy,CR.add_zero];exact hx)
  ·exact .inl (by rw[hy,CR.add_zero];exact hx)
  ·exact .inl (by rw[hx,CR.zero_add];exact hy)
  ·exact .inr ⟨by rw[hx,hy,CR.add_zero],.inl (add_pos ij vB)⟩
  ·exact .inr ⟨by rw[hx,hy,CR.add_zero],.inl (by rw[vB,CR.add_zero];exact ij)⟩
  ·exact .inl (by rw[hx,CR.zero_add];exact hy)
  ·exact .inr ⟨by rw[hx,hy,CR.add_zero],.inl (by rw[ij,CR.zero_add];exact vB)⟩
  ·exact .inr ⟨by rw[hx,hy,CR.add_zero],.inr ⟨by rw[ij,vB,CR.add_zero],add_pos Lp Vq⟩⟩
 mul {x k} hx hk:=by
  unfold An at *;rw[aLT,aLU,aLV];rcases hx with hx|⟨hx,ij|⟨ij,Lp⟩⟩
  ·exact .inl (mul_pos hx hk)
  ·exact .inr ⟨by rw[hx,CR.zero_mul],.inl (mul_pos ij hk)⟩
  ·exact .inr ⟨by rw[hx,CR.zero_mul],.inr ⟨by rw[ij,CR.zero_mul],mul_pos Lp hk⟩⟩
 asymm {x} hx hy:=by
  unfold An at *;rw[aLZ,aL0,aL1]at hy;have no:∀ a:F,0<a->0 < -a->False:=λa h k=>OF.lt_irrefl _ (OF.lt_trans h (neg_pos.1 k));have nz:∀ a:F,0<a->-a=0->False:=λa h k=>by rw[<-CR.neg_neg a,k,CR.neg_zero]at h;exact OF.lt_irrefl _ h
  have Vr:∀ a:F,a=0->0 < -a->False:=λa h k=>by rw[h,CR.neg_zero]at k;exact OF.lt_irrefl _ k
  rcases hx with hx|⟨hx,ij|⟨ij,Lp⟩⟩<;>rcases hy with hy|⟨hy,vB|⟨vB,Vq⟩⟩
  ·exact no _ hx hy
  ·exact nz _ hx hy
  ·exact nz _ hx hy
  ·exact Vr _ hx hy
  ·exact no _ ij vB
  ·exact nz _ ij vB
  ·exact Vr _ hx hy
  ·exact Vr _ ij vB
  ·exact no _ Lp Vq
theorem aL2{a b:V3 F}(h:a≠b):An (b-a)\/An (a-b):=by
 unfold An;show(0<b.x-a.x\/(b.x-a.x=0/\(0<b.y-a.y\/(b.y-a.y=0/\0<b.z-a.z))))\/(0<a.x-b.x\/(a.x-b.x=0/\(0<a.y-b.y\/(a.y-b.y=0/\0<a.z-b.z))));simp only[OF.sub_pos,OF.sub_eq_zero];rcases OF.lt_trichotomy a.x b.x with hx|hx|hx
 ·exact .inl (.inl hx)
 ·rcases OF.lt_trichotomy a.y b.y with hy|hy|hy
  ·exact .inl (.inr ⟨hx.symm,.inl hy⟩)
  ·rcases OF.lt_trichotomy a.z b.z with hz|hz|hz
   ·exact .inl (.inr ⟨hx.symm,.inr ⟨hy.symm,hz⟩⟩)
   ·exact absurd (V3.ext hx hy hz) h
   ·exact .inr (.inr ⟨hx,.inr ⟨hy,hz⟩⟩)
  ·exact .inr (.inr ⟨hx,.inl hy⟩)
 ·exact .inr (.inl hx)
theorem j8.yc{ps:List (HS F)}{c:V3 F}(h:j8 ps c):∃ m:V3 F,∀ w,ev ps w->w≠c->dot m w<dot m c:=by
 obtain⟨_,p,hp,q,hq,r,hr,hd,tp,tq,tr⟩:=h;refine⟨p.n+q.n+r.n,λw hw bw=>?_⟩;rw[Ps,Ps,Ps,Ps,show dot p.n c=p.d from tp,show dot q.n c=q.d from tq,show dot r.n c=r.d from tr];rcases OF.nX (hw p hp)with h1|h1
 ·exact add_lt_add_of_lt_of_le (add_lt_add_of_lt_of_le h1 (hw q hq)) (hw r hr)
 ·rcases OF.nX (hw q hq)with h2|h2
  ·exact add_lt_add_of_lt_of_le (add_lt_add_of_le_of_lt (hw p hp) h2) (hw r hr)
  ·rcases OF.nX (hw r hr)with h3|h3
   ·exact add_lt_add_of_le_of_lt (OF.add_le_add (hw p hp) (hw q hq)) h3
   ·refine absurd (V3.sub_eq_zero.1 (Ge hd ?_ ?_ ?_)) bw
    ·rw[hZ,h1,show dot p.n c=p.d from tp,OF.sub_self]
    ·rw[hZ,h2,show dot q.n c=q.d from tq,OF.sub_self]
    ·rw[hZ,h3,show dot r.n c=r.d from tr,OF.sub_self]
theorem aL3{ps:List (HS F)}{p:HS F}{ι:Type}{pt:ι->V3 F}{S:List ι}(hS:∀ i∈S,j8 ps (pt i)/\cB p (pt i))
  (Vt:∀ i∈S,∀ j∈S,pt i=pt j->i=j):Conv p.n pt S where
 pX a ha b hb:=by rw[hZ,show dot p.n (pt a)=p.d from(hS a ha).2,show dot p.n (pt b)=p.d from(hS b hb).2,OF.sub_self]
 yc c hc:=by obtain⟨m,hm⟩:=(hS c hc).1.yc;exact⟨m,λw hw bw=>hm _ (hS w hw).1.1 λe=>bw (Vt w hw c hc e)⟩
structure fm(F:Type) where
 lo:Option F
 hi:Option F
def Co(s:fm F)(a b:F):Option (fm F):=
 if aH a=0 then(if 0<=b then some s else none)
 else
  let t:=b*a⁻¹
  let s':fm F:=
   if 0<a then(match s.hi with|some h=>if t<h then⟨s.lo,some t⟩else s|none=>⟨s.lo,some t⟩)
   else(match s.lo with|some l=>if l<t then⟨some t,s.hi⟩else s|none=>⟨some t,s.hi⟩)
  match s'.lo,s'.hi with
  |some l,some h=>if l<h then some s' else none
  |_,_=>some s'
def fm.Sat(s:fm F)(t:F):Prop:=(∀ l,s.lo=some l->l<=t)/\(∀ h,s.hi=some h->t<=h)
def fm.Open(s:fm F):Prop:=∀ l h,s.lo=some l->s.hi=some h->l<h
theorem aL4(s:fm F)(a b:F):
  (∀ s',Co s a b=some s'->(s.Open->s'.Open)/\(∀ t,s'.Sat t↔s.Sat t/\a*t<=b)/\(∀ l,s'.lo=some l->s.lo=some l\/(a<0/\a*l=b))/\(∀ h,s'.hi=some h->s.hi=some h\/(0<a/\a*h=b)))/\
  (Co s a b=none->∀ t1 t2,s.Sat t1->a*t1<=b->s.Sat t2->a*t2<=b->t1<t2->False):=by
 unfold Co;by_cases ha:aH a=0
 ·rw[aB ha];have jk:=(fH a).1 ha;by_cases hb:0<=b
  ·rw[aB hb];refine⟨λs' h=>?_,λh=>by cases h⟩;injection h with h;subst h;exact⟨id,λt=>⟨λh=>⟨h,by rw[jk,CR.zero_mul];exact hb⟩,λh=>h.1⟩,λl h=>.inl h,λl h=>.inl h⟩
  ·rw[az hb];refine⟨λs' h=>(by cases h),λ_ t1 t2 _ h1 _ _ _=>hb ?_⟩;rw[jk,CR.zero_mul]at h1;exact h1
 ·rw[az ha];have jk:a≠0:=λe=>ha ((fH a).2 e);have e:a*(b*a⁻¹)=b:=by rw[CR.mul_left_comm,jz _ jk,CR.mul_one]
  generalize b*a⁻¹=t0 at e;dsimp only
  -- the new part,and what it says
  have key:∃ s':fm F,(if 0<a then(match s.hi with|some h=>if t0<h then⟨s.lo,some t0⟩else s|none=>⟨s.lo,some t0⟩)
    else(match s.lo with|some l=>if l<t0 then⟨some t0,s.hi⟩else s|none=>⟨some t0,s.hi⟩):fm F)=s'/\(∀ t,s'.Sat t↔s.Sat t/\a*t<=b)/\(∀ l,s'.lo=some l->s.lo=some l\/(a<0/\a*l=b))/\(∀ h,s'.hi=some h->s.hi=some h\/(0<a/\a*h=b)):=by
   by_cases hp:0<a
   ·rw[aB hp];have le:∀ t,a*t<=b↔t<=t0:=λt=>by rw[<-e,mul_le_mul_left hp]
    cases hh:s.hi with
    |none=>
     refine⟨_,rfl,λt=>?_,λl h=>.inl h,λh k=>.inr ⟨hp,by injection k with k;rw[<-k];exact e⟩⟩;rw[le];exact⟨λh=>⟨⟨h.1,λx hx=>by rw[hh]at hx;cases hx⟩,h.2 t0 rfl⟩,λh=>⟨h.1.1,λx hx=>by injection hx with hx;rw[<-hx];exact h.2⟩⟩
    |some h0=>
     dsimp only;by_cases al:t0<h0
     ·rw[aB al];refine⟨_,rfl,λt=>?_,λl h=>.inl h,λh k=>.inr ⟨hp,by injection k with k;rw[<-k];exact e⟩⟩;rw[le];exact⟨λh=>⟨⟨h.1,λx hx=>by rw[hh]at hx;injection hx with hx;rw[<-hx];exact OF.le_trans (h.2 t0 rfl) (OF.le_of_lt al)⟩,h.2 t0 rfl⟩,λh=>⟨h.1.1,λx hx=>by injection hx with hx;rw[<-hx];exact h.2⟩⟩
     ·rw[az al];refine⟨_,rfl,λt=>?_,λl h=>.inl h,λh k=>.inl (hh.symm.trans k)⟩;rw[le];exact⟨λh=>⟨h,OF.le_trans (h.2 h0 hh) (OF.not_lt.1 al)⟩,λh=>h.1⟩
   ·rw[az hp];have hn:a<0:=by
     rcases OF.nX (OF.not_lt.1 hp)with h|h
     ·exact h
     ·exact absurd h jk
    have le:∀ t,a*t<=b↔t0<=t:=λt=>by rw[<-e,<-mul_le_mul_left (a:=t0) (b:=t) (neg_pos.2 hn),OF.le_def,OF.le_def,show -a*t - -a*t0=a*t0-a*t from kJ a t t0 (λa t u=>-a*t - -a*u) (λa t u=>a*u-a*t) d_]
    cases hh:s.lo with
    |none=>
     refine⟨_,rfl,λt=>?_,λl k=>.inr ⟨hn,by injection k with k;rw[<-k];exact e⟩,λh k=>.inl k⟩;rw[le];exact⟨λh=>⟨⟨λx hx=>(by rw[hh]at hx;cases hx),h.2⟩,h.1 t0 rfl⟩,λh=>⟨λx hx=>by injection hx with hx;rw[<-hx];exact h.2,h.1.2⟩⟩
    |some h0=>
     dsimp only;by_cases al:h0<t0
     ·rw[aB al];refine⟨_,rfl,λt=>?_,λl k=>.inr ⟨hn,by injection k with k;rw[<-k];exact e⟩,λh k=>.inl k⟩;rw[le];exact⟨λh=>⟨⟨λx hx=>by rw[hh]at hx;injection hx with hx;rw[<-hx];exact OF.le_trans (OF.le_of_lt al) (h.1 t0 rfl),h.2⟩,h.1 t0 rfl⟩,λh=>⟨λx hx=>by injection hx with hx;rw[<-hx];exact h.2,h.1.2⟩⟩
     ·rw[az al];refine⟨_,rfl,λt=>?_,λl h=>.inl (hh.symm.trans h),λh k=>.inl k⟩;rw[le];exact⟨λh=>⟨h,OF.le_trans (OF.not_lt.1 al) (h.1 h0 hh)⟩,λh=>h.1⟩
  obtain⟨s1,tX,vC,eQ,iN⟩:=key;rw[tX];cases hl:s1.lo with
  |none=>
   refine⟨λs' h=>?_,λh=>by cases h⟩;injection h with h;subst h;exact⟨λ_ l h cA=>(by rw[hl]at cA;cases cA),vC,eQ,iN⟩
  |some l=>
   cases hh:s1.hi with
   |none=>
    refine⟨λs' h=>?_,λh=>by cases h⟩;injection h with h;subst h;exact⟨λ_ l h _ Cn=>(by rw[hh]at Cn;cases Cn),vC,eQ,iN⟩
   |some h=>
    dsimp only;by_cases al:l<h
    ·rw[aB al];refine⟨λs' h=>?_,λh=>by cases h⟩;injection h with h;subst h;refine⟨λ_ l' h' cA Cn=>?_,vC,eQ,iN⟩;rw[hl]at cA;rw[hh]at Cn;injection cA with cA;injection Cn with Cn;rw[<-cA,<-Cn];exact al
    ·rw[az al];refine⟨λs' h=>(by cases h),λ_ t1 t2 h1 k1 h2 k2 PH=>al ?_⟩;have q1:=((vC t1).2 ⟨h1,k1⟩).1 l hl;have q2:=((vC t2).2 ⟨h2,k2⟩).2 h hh;exact OF.lt_of_le_of_lt q1 (OF.lt_of_lt_of_le PH q2)
def Gl:fm F->List (F×F)->Option (fm F)
 |s,[]=>some s
 |s,x::l=>(Co s x.1 x.2).bind λs'=>Gl s' l
theorem Vu:∀(l:List (F×F)) (s:fm F),s.Open->
  (∀ s',Gl s l=some s'->s'.Open/\(∀ t,s'.Sat t↔s.Sat t/\∀ x∈l,x.1*t<=x.2)/\(∀ t,s'.lo=some t->s.lo=some t\/∃ x∈l,x.1<0/\x.1*t=x.2)/\(∀ t,s'.hi=some t->s.hi=some t\/∃ x∈l,0<x.1/\x.1*t=x.2))/\
  (Gl s l=none->∀ t1 t2,s.Sat t1->(∀ x∈l,x.1*t1<=x.2)->s.Sat t2->(∀ x∈l,x.1*t2<=x.2)->t1<t2->False)
 |[],s,ho=>⟨λs' h=>by injection h with h;subst h;exact⟨ho,λt=>⟨λh=>⟨h,λx hx=>by cases hx⟩,λh=>h.1⟩,λt h=>.inl h,λt h=>.inl h⟩,λh=>by cases h⟩
 |x::l,s,ho=>by
  obtain⟨h1,h2⟩:=aL4 s x.1 x.2;unfold Gl;cases hn:Co s x.1 x.2 with
  |none=>
   refine⟨λs' h=>(by cases h),λ_ t1 t2 a b c d e=>?_⟩;exact h2 hn t1 t2 a (b x (aR ..)) c (d x (aR ..)) e
  |some s1=>
   obtain⟨o1,Vv,Ao,hi1⟩:=h1 s1 hn;obtain⟨k1,k2⟩:=Vu l s1 (o1 ho);refine⟨λs' h=>?_,λh t1 t2 a b c d e=>?_⟩
   ·obtain⟨o2,aL5,wH,SY⟩:=k1 s' h;refine⟨o2,λt=>?_,λt ht=>?_,λt ht=>?_⟩
    ·rw[aL5,Vv];constructor
     ·rintro⟨⟨p,q⟩,r⟩
      exact⟨p,λy hy=>by
       rcases cD.1 hy with rfl|hy
       ·exact q
       ·exact r y hy⟩
     ·rintro⟨p,q⟩
      exact⟨⟨p,q x (aR ..)⟩,λy hy=>q y (bI _ hy)⟩
    ·rcases wH t ht with h|⟨y,hy,h⟩
     ·rcases Ao t h with h|h
      ·exact .inl h
      ·exact .inr ⟨x,aR ..,h⟩
     ·exact .inr ⟨y,bI _ hy,h⟩
    ·rcases SY t ht with h|⟨y,hy,h⟩
     ·rcases hi1 t h with h|h
      ·exact .inl h
      ·exact .inr ⟨x,aR ..,h⟩
     ·exact .inr ⟨y,bI _ hy,h⟩
   ·exact k2 h t1 t2 ((Vv t1).2 ⟨a,b x (aR ..)⟩) (λy hy=>b y (bI _ hy)) ((Vv t2).2 ⟨c,d x (aR ..)⟩) (λy hy=>d y (bI _ hy)) e
end
section
variable{F:Type}[OF F]
def mQ(p q:HS F):V3 F:=
 let d:=af p.n q.n
 smul (smul (af q.n d) p.d+smul (af d p.n) q.d) (dot d d)⁻¹
theorem aCg{p q:HS F}(h:af p.n q.n≠0):cB p (mQ p q):=by
 unfold cB mQ;dsimp only;have e:dot p.n (smul (af q.n (af p.n q.n)) p.d+smul (af (af p.n q.n) p.n) q.d)=p.d*dot (af p.n q.n) (af p.n q.n):=
  ring [p.n,q.n] [p.d,q.d] (λV S=>dot (V 0) (smul (af (V 1) (af (V 0) (V 1))) (S 0)+smul (af (af (V 0) (V 1)) (V 0)) (S 1))) (λV S=>S 0*dot (af (V 0) (V 1)) (af (V 0) (V 1))) d_
 rw[gk,e,CR.mul_assoc,jz _ (yb h),CR.mul_one]
theorem aCh{p q:HS F}(h:af p.n q.n≠0):cB q (mQ p q):=by
 unfold cB mQ;dsimp only;have e:dot q.n (smul (af q.n (af p.n q.n)) p.d+smul (af (af p.n q.n) p.n) q.d)=q.d*dot (af p.n q.n) (af p.n q.n):=
  ring [p.n,q.n] [p.d,q.d] (λV S=>dot (V 1) (smul (af (V 1) (af (V 0) (V 1))) (S 0)+smul (af (af (V 0) (V 1)) (V 0)) (S 1))) (λV S=>S 1*dot (af (V 0) (V 1)) (af (V 0) (V 1))) d_
 rw[gk,e,CR.mul_assoc,jz _ (yb h),CR.mul_one]
def Ap(ps:List (HS F))(p q:HS F):Option (V3 F×V3 F):=
 let d:=af p.n q.n
 if aH d.x=0/\aH d.y=0/\aH d.z=0 then none
 else match Gl ⟨none,none⟩ (ps.map λr=>(dot r.n d,r.d-dot r.n (mQ p q)))with
  |some ⟨some lo,some hi⟩=>some (mQ p q+smul d lo,mQ p q+smul d hi)
  |_=>none
theorem PI(d:V3 F):(aH d.x=0/\aH d.y=0/\aH d.z=0)↔d=0:=by rw[fH,fH,fH];exact⟨λh=>V3.ext h.1 h.2.1 h.2.2,λh=>by subst h;exact⟨rfl,rfl,rfl⟩⟩
theorem PJ{ps:List (HS F)}{b d:V3 F}{t:F}:ev ps (b+smul d t)↔∀ x∈ps.map λr=>(dot r.n d,r.d-dot r.n b),x.1*t<=x.2:=by
 constructor
 ·intro h x hx;obtain⟨r,hr,rfl⟩:=db.1 hx;have:=h r hr;rw[jm,gk]at this;dsimp only;rw[<-add_le_add_left (dot r.n b),show dot r.n b+(r.d-dot r.n b)=r.d from jP (dot r.n b) r.d (λa d=>a+(d-a)) (λ_ d=>d) d_];exact this
 ·intro h r hr;have:=h _ (db.2 ⟨r,hr,rfl⟩);dsimp only at this;rw[<-add_le_add_left (dot r.n b),show dot r.n b+(r.d-dot r.n b)=r.d from jP (dot r.n b) r.d (λa d=>a+(d-a)) (λ_ d=>d) d_]at this;rw[jm,gk];exact this
theorem aCi:(⟨none,none⟩:fm F).Open:=λl h hl _=>by cases hl
theorem Lq(t:F):(⟨none,none⟩:fm F).Sat t:=⟨λl h=>(by cases h),λl h=>(by cases h)⟩
theorem aL6{ps:List (HS F)}{p q:HS F}(hp:p∈ps)(hq:q∈ps){u v:V3 F}(h:Ap ps p q=some (u,v)):j8 ps u/\j8 ps v:=by
 unfold Ap at h;dsimp only at h;split at h
 ·cases h
 ·rename_i hd;rw[PI]at hd;have tp:=aCg hd;have tq:=aCh hd;generalize mQ p q=b at *;split at h
  ·rename_i lo hi hn;injection h with h;injection h with h1 h2;obtain⟨ho,vC,eQ,iN⟩:=(Vu _ _ aCi).1 _ hn;have al:=ho lo hi rfl rfl
   -- a Lr of the line on a Px aL7 it
   have fin:∀ t:F,lo<=t->t<=hi->(∃ x∈ps.map λr=>(dot r.n (af p.n q.n),r.d-dot r.n b),x.1≠0/\x.1*t=x.2)->j8 ps (b+smul (af p.n q.n) t):=by
    rintro t h1 h2 ⟨x,hx,lv,Aj⟩
    obtain⟨r,hr,rfl⟩:=db.1 hx;refine⟨?_,p,hp,q,hq,r,hr,?_,?_,?_,?_⟩
    ·rw[PJ];exact((vC t).1 ⟨λl hl=>by injection hl with hl;rw[<-hl];exact h1,λl hl=>by injection hl with hl;rw[<-hl];exact h2⟩).2
    ·intro e;rw[<-Gd]at e;exact lv e
    ·unfold cB at *;rw[jm,gk,Gb,CR.zero_mul,CR.add_zero,tp]
    ·unfold cB at *;rw[jm,gk,Ci,CR.zero_mul,CR.add_zero,tq]
    ·unfold cB;rw[jm,gk];dsimp only at Aj;rw[Aj];exact jP (dot r.n b) r.d (λa d=>a+(d-a)) (λ_ d=>d) d_
   rw[<-h1,<-h2];constructor
   ·rcases eQ lo rfl with k|⟨x,hx,lv,Aj⟩
    ·cases k
    ·exact fin lo (OF.le_refl _) (OF.le_of_lt al) ⟨x,hx,OF.ne_of_lt lv,Aj⟩
   ·rcases iN hi rfl with k|⟨x,hx,lv,Aj⟩
    ·cases k
    ·exact fin hi (OF.le_of_lt al) (OF.le_refl _) ⟨x,hx,OF.ne_of_gt lv,Aj⟩
  ·cases h
theorem aL8{ps:List (HS F)}(hc:Cl ps)(hp:gB ps){v x:V3 F}(hv:j8 ps v)(hx:ev ps x)(bw:x≠v):
  ∃ p∈ps,∃ q∈ps,af p.n q.n≠0/\(∃ u w,Ap ps p q=some (u,w)/\(v=u\/v=w))/\(∃ u w,Ap ps q p=some (u,w)/\(v=u\/v=w)):=by
 obtain⟨p,iY,q,BV,tp,tq,hd,bh⟩:=aLv hp hv hx bw
 -- one order;c=d or c=-d is the direction aV8 the aCj
 have one:∀ p q:HS F,p∈ps->q∈ps->cB p v->cB q v->af p.n q.n≠0->∀ c:V3 F,(c=af p.n q.n\/c=-af p.n q.n)->(∀ r∈ps,cB r v->dot r.n c<=0)->
   ∃ u w,Ap ps p q=some (u,w)/\(v=u\/v=w):=by
  intro p q iY BV tp tq hd c Vw bh;have qt:c≠0:=by
   rcases Vw with rfl|rfl
   ·exact hd
   ·exact λe=>hd (neg_eq_zero.1 e)
  have bp:=aCg hd;have bq:=aCh hd
  -- v on the line
  have PK:dot p.n (v-mQ p q)=0/\dot q.n (v-mQ p q)=0:=by unfold cB at *;rw[hZ,hZ,tp,tq,bp,bq,OF.sub_self,OF.sub_self];exact⟨rfl,rfl⟩
  obtain⟨t0,Aq⟩:∃ t0,v=mQ p q+smul (af p.n q.n) t0:=
   ⟨_,by rw[<-Lj hd PK.1 PK.2,V3.add_sub_cancel]⟩
  -- a aV9 Lr of the line
  obtain⟨e,he,⟨r,hr,nA,Gh⟩,cC⟩:=zr hv.1 (hc.bounds hp qt);have aCk:0<e:=by
   rcases OF.nX he with h|h
   ·exact h
   ·rw[<-h,smul_zero,V3.add_zero]at Gh;exact absurd (OF.lt_of_lt_of_le nA (bh r hr Gh)) (OF.lt_irrefl _)
  -- a Px at v aL7 the line
  have aCl:=hv.1;obtain⟨_,a1,eL,a2,gR,a3,Cd,Vx,t1,t2,t3⟩:=hv;obtain⟨s,hs,ts,Vy⟩:∃ s∈ps,cB s v/\dot s.n c<0:=by
   apply iP;intro fU;have z:∀ a∈ps,cB a v->dot a.n c=0:=λa ha ta=>by
    rcases OF.nX (bh a ha ta)with h|h
    ·exact(fU ⟨a,ha,ta,h⟩).elim
    ·exact h
   exact qt (Ge Vx (z a1 eL t1) (z a2 gR t2) (z a3 Cd t3))
  have Ak:∀ t:F,v+smul (af p.n q.n) t=mQ p q+smul (af p.n q.n) (t0+t):=λt=>by rw[Aq];exact gV [mQ p q,af p.n q.n] [t0,t] (λV S=>V 0+smul (V 1) (S 0)+smul (V 1) (S 1)) (λV S=>V 0+smul (V 1) (S 0+S 1)) d_
  have aCm:∀ t:F,ev ps (v+smul (af p.n q.n) t)->∀ x∈ps.map λr=>(dot r.n (af p.n q.n),r.d-dot r.n (mQ p q)),x.1*(t0+t)<=x.2:=λt h=>by rw[Ak]at h;exact PJ.1 h
  have f0:=aCm 0 (by rw[smul_zero,V3.add_zero];exact aCl);rw[CR.add_zero]at f0
  -- the other Lr
  have f1:∃ t1:F,t1≠0/\ev ps (v+smul (af p.n q.n) t1):=by
   rcases Vw with rfl|rfl
   ·exact⟨e,OF.ne_of_gt aCk,cC⟩
   ·refine⟨-e,OF.ne_of_lt (FP.2 aCk),?_⟩;rw[show smul (af p.n q.n) (-e)=smul (-af p.n q.n) e from gV [af p.n q.n] [e] (λV S=>smul (V 0) (-S 0)) (λV S=>smul (-V 0) (S 0)) d_];exact cC
  obtain⟨t1,iZ,f1⟩:=f1;have f1:=aCm t1 f1;unfold Ap;dsimp only;rw[az (by rw[PI];exact hd)];obtain⟨n1,n2⟩:=Vu (ps.map λr=>(dot r.n (af p.n q.n),r.d-dot r.n (mQ p q))) ⟨none,none⟩ aCi;cases hN:Gl ⟨none,none⟩ (ps.map λr=>(dot r.n (af p.n q.n),r.d-dot r.n (mQ p q)))with
  |none=>
   exfalso;rcases OF.lt_trichotomy 0 t1 with h|h|h
   ·exact n2 hN t0 (t0+t1) (Lq _) f0 (Lq _) f1 (by have:=(add_lt_add_left t0).2 h;rwa[CR.add_zero]at this)
   ·exact iZ h.symm
   ·exact n2 hN (t0+t1) t0 (Lq _) f1 (Lq _) f0 (by have:=(add_lt_add_left t0).2 h;rwa[CR.add_zero]at this)
  |some sg=>
   obtain⟨ho,vC,_,_⟩:=n1 sg hN;have s0:=(vC t0).2 ⟨Lq _,f0⟩
   -- beyond a Px
   have beyond:∀ c:V3 F,c≠0->∃ t:F,0<=t/\¬ev ps (v+smul c t):=by intro c qt;obtain⟨t,ht,⟨r,hr,nA,Gh⟩,_⟩:=zr aCl (hc.bounds hp qt);refine⟨t+1,add_nonneg ht (OF.le_of_lt OF.zero_lt_one),λh=>?_⟩;have h1:=h r hr;rw[show v+smul c (t+1)=v+smul c t+c from gV [v,c] [t] (λV S=>V 0+smul (V 1) (S 0+1)) (λV S=>V 0+smul (V 1) (S 0)+V 1) d_,jm,show dot r.n (v+smul c t)=r.d from Gh]at h1;have:=(add_lt_add_left r.d).2 nA;rw[CR.add_zero]at this;exact OF.lt_irrefl _ (OF.lt_of_lt_of_le this h1)
   obtain⟨lo,hi⟩:=sg;have iN:∃ h,hi=some h:=by
    cases hi with
    |some h=>exact⟨h,rfl⟩
    |none=>
     exfalso;obtain⟨t,ht,fU⟩:=beyond _ hd;apply fU;rw[Ak,PJ];refine((vC (t0+t)).1 ⟨λl hl=>?_,λh hh=>(by cases hh)⟩).2;refine OF.le_trans (s0.1 l hl) ?_;have:=(add_le_add_left t0).2 ht;rwa[CR.add_zero]at this
   have eQ:∃ l,lo=some l:=by
    cases lo with
    |some h=>exact⟨h,rfl⟩
    |none=>
     exfalso;obtain⟨t,ht,fU⟩:=beyond (-af p.n q.n) (λe=>hd (neg_eq_zero.1 e));apply fU;rw[show smul (-af p.n q.n) t=smul (af p.n q.n) (-t)from gV [af p.n q.n] [t] (λV S=>smul (-V 0) (S 0)) (λV S=>smul (V 0) (-S 0)) d_,Ak,PJ];refine((vC (t0+-t)).1 ⟨λh hh=>(by cases hh),λl hl=>?_⟩).2;refine OF.le_trans ?_ (s0.2 l hl);have:=(add_le_add_left t0).2 (Im.2 ht);rwa[CR.add_zero]at this
   obtain⟨hi,rfl⟩:=iN;obtain⟨lo,rfl⟩:=eQ;have al:=ho lo hi rfl rfl;have l0:=s0.1 lo rfl;have h0:=s0.2 hi rfl;refine⟨_,_,rfl,?_⟩
   -- the value of s on the line
   have aCn:∀ t:F,(∀ x∈ps.map λr=>(dot r.n (af p.n q.n),r.d-dot r.n (mQ p q)),x.1*t<=x.2)->dot s.n (af p.n q.n)*t<=dot s.n (af p.n q.n)*t0:=by
    intro t h;have h1:=h _ (db.2 ⟨s,hs,rfl⟩);dsimp only at h1;have h2:dot s.n (af p.n q.n)*t0=s.d-dot s.n (mQ p q):=by have:dot s.n v=s.d:=ts;rw[Aq,jm,gk]at this;rw[<-this];exact jP (dot s.n (mQ p q)) (dot s.n (af p.n q.n)*t0) (λ_ b=>b) (λa b=>a+b-a) d_
    rw[h2];exact h1
   rcases Vw with rfl|rfl
   ·left;have k:=aCn lo ((vC lo).1 ⟨λl hl=>(by injection hl with hl;rw[hl];exact OF.le_refl _),λh hh=>(by injection hh with hh;rw[<-hh];exact OF.le_of_lt al)⟩).2;have k2:t0<=lo:=by
     rw[<-mul_le_mul_left (neg_pos.2 Vy),CR.neg_mul,CR.neg_mul,OF.le_def,show -(dot s.n (af p.n q.n)*lo) - -(dot s.n (af p.n q.n)*t0)=dot s.n (af p.n q.n)*t0-dot s.n (af p.n q.n)*lo from
       jP (dot s.n (af p.n q.n)*lo) (dot s.n (af p.n q.n)*t0) (λa b=>-a - -b) (λa b=>b-a) d_]
     exact k
    rw[OF.le_antisymm l0 k2];exact Aq
   ·right;rw[vx,FP]at Vy;have k:=aCn hi ((vC hi).1 ⟨λl hl=>(by injection hl with hl;rw[<-hl];exact OF.le_of_lt al),λh hh=>(by injection hh with hh;rw[hh];exact OF.le_refl _)⟩).2;rw[mul_le_mul_left Vy]at k;rw[OF.le_antisymm k h0];exact Aq
 refine⟨p,iY,q,BV,hd,one p q iY BV tp tq hd _ (.inl rfl) bh,one q p BV iY tq tp (λe=>hd (by rw[Gc,e,V3.neg_zero])) _ (.inr ?_) bh⟩;rw[<-Gc]
def yf(ps:List (HS F))(x:V3 F):Prop:=∀ p∈ps,dot p.n x<p.d
def nG(ps:List (HS F)):Prop:=∃ x,yf ps x
theorem yf.inside{ps:List (HS F)}{x:V3 F}(h:yf ps x):ev ps x:=λp hp=>OF.le_of_lt (h p hp)
def aCo(l:List (V3 F)):V3 F:=l.foldl (λs v=>s+v) 0
theorem aCp(m:V3 F):∀(l:List (V3 F)) (s:V3 F),dot m (l.foldl (λs v=>s+v) s)=l.foldl (λ(a:F) v=>a+dot m v) (dot m s)
 |[],_=>rfl
 |v::l,s=>by rw[v8,aCp,v8,jm]
theorem PL(f:V3 F->F):∀(l:List (V3 F)) (a:F),l.foldl (λ(a:F) v=>a+f v) a=a+l.foldl (λ(a:F) v=>a+f v) 0
 |[],a=>by rw[aCq,aCq,CR.add_zero]
 |v::l,a=>by rw[v8,v8,PL f l (a+f v),PL f l (0+f v),CR.zero_add,CR.add_assoc]
theorem aCr{f:V3 F->F}{d:F}:∀{l:List (V3 F)},(∀ v∈l,f v<=d)->l.foldl (λ(a:F) v=>a+f v) 0<=CR.ofNat l.length*d
 |[],_=>by rw[aCq,List.length_nil,CR.ofNat,CR.zero_mul];exact OF.le_refl _
 |v::l,h=>by rw[v8,PL,CR.zero_add,qm,CR.ofNat,CR.add_mul,CR.one_mul,CR.add_comm];exact OF.add_le_add (aCr λv hv=>h v (bI _ hv)) (h v (aR ..))
theorem aCs{f:V3 F->F}{d:F}:∀{l:List (V3 F)},(∀ v∈l,f v<=d)->(∃ v∈l,f v<d)->l.foldl (λ(a:F) v=>a+f v) 0<CR.ofNat l.length*d
 |[],_,h=>by obtain⟨v,hv,_⟩:=h;cases hv
 |v::l,h,k=>by
  rw[v8,PL,CR.zero_add,qm,CR.ofNat,CR.add_mul,CR.one_mul,CR.add_comm];have hl:∀ v∈l,f v<=d:=λv hv=>h v (bI _ hv);obtain⟨x,hx,xQ⟩:=k;rcases cD.1 hx with rfl|hx
  ·exact add_lt_add_of_le_of_lt (aCr hl) xQ
  ·exact add_lt_add_of_lt_of_le (aCs hl ⟨x,hx,xQ⟩) (h v (aR ..))
theorem Vz:∀{n:Nat},0<n->(0:F)<CR.ofNat n
 |n+1,_=>by
  rw[CR.ofNat];rcases nU n with rfl|h
  ·rw[CR.ofNat,CR.zero_add];exact OF.zero_lt_one
  ·exact add_pos (Vz h) OF.zero_lt_one
def Cp(l:List (V3 F)):V3 F:=smul (aCo l) (CR.ofNat l.length)⁻¹
theorem aL9(m:V3 F)(l:List (V3 F)):dot m (Cp l)=l.foldl (λ(a:F) v=>a+dot m v) 0*(CR.ofNat l.length)⁻¹:=by unfold Cp aCo;rw[gk,aCp,vy]
theorem aCt{m:V3 F}{d:F}{l:List (V3 F)}(h:∀ v∈l,dot m v<=d)(k:∃ v∈l,dot m v<d):dot m (Cp l)<d:=by
 have hl:0<l.length:=by
  obtain⟨v,hv,_⟩:=k;cases l with
  |nil=>cases hv
  |cons a l=>exact TR _
 have hp:=Vz (F:=F) hl;rw[aL9,<-mul_lt_mul_left hp,CR.mul_left_comm,jz _ (OF.ne_of_gt hp),CR.mul_one];exact aCs h k
theorem aCu{ps:List (HS F)}(hc:Cl ps)(hp:gB ps){l:List (V3 F)}(hl:∀ v,v∈l↔j8 ps v)(hf:nG ps):l≠[]/\yf ps (Cp l):=by
 obtain⟨x,hx⟩:=hf;have yc:∀ p∈ps,∃ v∈l,dot p.n v<p.d:=by intro p jD;obtain⟨v,hv,hm⟩:=top hc hp (m:=-p.n) hx.inside;refine⟨v,(hl v).2 hv,?_⟩;rw[ya,ya,OF.le_def,show -dot p.n v - -dot p.n x=dot p.n x-dot p.n v from jP (dot p.n v) (dot p.n x) (λa b=>-a - -b) (λa b=>b-a) d_]at hm;exact OF.lt_of_le_of_lt hm (hx p jD)
 obtain⟨⟨p,jD,_⟩,_⟩:=hc;refine⟨λe=>?_,λp jD=>aCt (λv hv=>((hl v).1 hv).1 p jD) (yc p jD)⟩;obtain⟨v,hv,_⟩:=yc p jD;rw[e]at hv;cases hv
theorem aMa{ps:List (HS F)}(hc:Cl ps)(hp:gB ps)(hf:nG ps)(v:V3 F):∃ x,ev ps x/\x≠v:=by
 obtain⟨x,hx⟩:=hf;by_cases h:x=v
 ·obtain⟨p,jD,_⟩:=hc.1;have kv:=hp p jD;obtain⟨w,hw,hm⟩:=top hc hp (m:=p.n) hx.inside;by_cases hwx:w=x
  ·-- then every aWa is x,which is on a Px
   obtain⟨_,q,hq,_,_,_,_,_,tq,_⟩:=hw;have:=hx q hq;rw[hwx]at tq;rw[show dot q.n x=q.d from tq]at this;exact absurd this (OF.lt_irrefl _)
  ·exact⟨w,hw.1,λe=>hwx (e.trans h.symm)⟩
 ·exact⟨x,hx.inside,h⟩
end
section
variable{F:Type}[OF F]
def VA(l:List (V3 F)):Prop:=∃ o rest,l=o::rest/\∃ a∈rest,∃ b∈rest,∃ c∈rest,bA (a-o) (b-o) (c-o)≠0
theorem aMb{ps:List (HS F)}(hp:gB ps){l:List (V3 F)}(hl:∀ v∈l,ev ps v)(h:VA l):nG ps:=by
 obtain⟨o,rest,rfl,a,ha,b,hb,c,hc,hd⟩:=h;have io:=hl o (aR ..);have ia:=hl a (bI _ ha);have ib:=hl b (bI _ hb);have ic:=hl c (bI _ hc);refine⟨Cp [o,a,b,c],λp jD=>aCt (λv hv=>?_) ?_⟩
 ·simp only[cD,jE,jF]at hv;rcases hv with rfl|rfl|rfl|rfl
  ·exact io p jD
  ·exact ia p jD
  ·exact ib p jD
  ·exact ic p jD
 ·apply iP;intro fU;have tight:∀ v∈[o,a,b,c],dot p.n v=p.d:=by
   intro v hv;have cC:dot p.n v<=p.d:=by
    simp only[cD,jE,jF]at hv;rcases hv with rfl|rfl|rfl|rfl
    ·exact io p jD
    ·exact ia p jD
    ·exact ib p jD
    ·exact ic p jD
   rcases OF.nX cC with h|h
   ·exact(fU ⟨v,hv,h⟩).elim
   ·exact h
  have to:=tight o s_;have z:∀ v∈[o,a,b,c],dot (v-o) p.n=0:=λv hv=>by rw[wE,hZ,tight v hv,to,OF.sub_self]
  exact hp p jD (Ge hd (z a s_) (z b s_) (z c s_))
theorem aMc{ps:List (HS F)}(hc:Cl ps)(hp:gB ps){l:List (V3 F)}(hl:∀ v,v∈l↔j8 ps v)(hf:nG ps):VA l:=by
 have bw:=(aCu hc hp hl hf).1;cases l with
 |nil=>exact absurd rfl bw
 |cons o rest=>
  apply iP;intro fU;have hz:∀ a∈rest,∀ b∈rest,∀ c∈rest,bA (a-o) (b-o) (c-o)=0:=by intro a ha b hb c hc;apply iP;intro h;exact fU ⟨o,rest,rfl,a,ha,b,hb,c,hc,h⟩
  -- a direction that all points have in Nr
  obtain⟨m,hm,PK⟩:∃ m:V3 F,m≠0/\∀ v∈rest,dot m (v-o)=0:=by
   by_cases h2:∃ a∈rest,∃ b∈rest,af (a-o) (b-o)≠0
   ·obtain⟨a,ha,b,hb,h⟩:=h2;refine⟨_,h,λv hv=>?_⟩;rw[wE];exact hz v hv a ha b hb
   ·have wo:∀ a∈rest,∀ b∈rest,af (a-o) (b-o)=0:=λa ha b hb=>iP λh=>h2 ⟨a,ha,b,hb,h⟩;by_cases h1:∃ a∈rest,a-o≠0
    ·obtain⟨a,ha,h⟩:=h1;obtain⟨u,hu,hau⟩:=Pu h;exact⟨u,hu,λv hv=>by rw[wE];exact Pw h (wo a ha v hv) hau⟩
    ·obtain⟨p,jD,_⟩:=hc.1;exact⟨p.n,hp p jD,λv hv=>by rw[iP (λh=>h1 ⟨v,hv,h⟩:¬¬(v-o=0)),vy]⟩
  have heq:∀ v,j8 ps v->dot m v=dot m o:=by
   intro v hv;rcases cD.1 ((hl v).2 hv)with rfl|h
   ·rfl
   ·have:=PK v h;rw[hZ]at this;exact OF.sub_eq_zero.1 this
  -- so every Lr inside has the same product
  have all:∀ y,ev ps y->dot m y=dot m o:=by intro y hy;obtain⟨v,hv,h1⟩:=top hc hp (m:=m) hy;obtain⟨w,hw,h2⟩:=top hc hp (m:=-m) hy;rw[heq v hv]at h1;rw[ya,ya,heq w hw,OF.le_def,show -dot m o - -dot m y=dot m y-dot m o from jP (dot m o) (dot m y) (λa b=>-a - -b) (λa b=>b-a) d_]at h2;exact OF.le_antisymm h1 h2
  obtain⟨x,hx⟩:=hf;obtain⟨t,ht,⟨q,hq,_,wF⟩,cC⟩:=zr hx.inside (hc.bounds hp hm);have Aq:t≠0:=by
   rintro rfl
   rw[smul_zero,V3.add_zero]at wF;have:=hx q hq;rw[show dot q.n x=q.d from wF]at this;exact OF.lt_irrefl _ this
  have h1:=all _ cC;rw[jm,gk,all x hx.inside]at h1;have:dot m m*t=0:=CR.add_left_cancel (a:=dot m o) (by rw[h1,CR.add_zero]);exact mul_ne_zero (yb hm) Aq this
theorem Cl.more{ps qs:List (HS F)}(hc:Cl ps)(hp:gB ps)(h:∀ p∈ps,p∈qs):Cl qs:=by obtain⟨p,jD,q,lP,hd⟩:=hc.1;refine⟨⟨p,h p jD,q,h q lP,hd⟩,λa _ b _ b9=>?_⟩;obtain⟨r,hr,nA⟩:=hc.bounds hp b9;exact⟨r,h r hr,nA⟩
end
end
variable{k:Nat}{p:HS K}{x:K}{ps:List (HS K)}
section
open CR OF
section
variable{F:Type}[OF F]
def eG(u v:V3 F):Int:=
 if aH (u.x-v.x)≠0 then aH (u.x-v.x)else if aH (u.y-v.y)≠0 then aH (u.y-v.y)else aH (u.z-v.z)
theorem aMd(u v:V3 F):(u-v).x=u.x-v.x:=rfl
theorem aMe(u v:V3 F):(u-v).y=u.y-v.y:=rfl
theorem aMf(u v:V3 F):(u-v).z=u.z-v.z:=rfl
theorem aCv{u v:V3 F}:eG u v=1↔An (u-v):=by
 unfold eG An;rw[aMd,aMe,aMf,gj,gj,gj];have e:∀ a:F,a=0↔aH a=0:=λa=>(fH a).symm;rw[e (u.x-v.x),e (u.y-v.y)];rcases ja (u.x-v.x)with h|h|h<;>rw[h]<;>simp
 rcases ja (u.y-v.y)with h|h|h<;>rw[h]<;>simp
theorem aCw(u v:V3 F):eG v u=- eG u v:=by
 unfold eG;rw[FO v.x u.x,FO v.y u.y,FO v.z u.z];rcases ja (u.x-v.x)with h|h|h<;>rw[h]<;>simp
 rcases ja (u.y-v.y)with h|h|h<;>rw[h]<;>simp
theorem Lt{u v:V3 F}:eG u v=-1↔An (v-u):=by rw[<-aCv,aCw u v];omega
theorem Lu{u v:V3 F}:eG u v=0↔u=v:=by
 constructor
 ·intro h;apply iP;intro bw;rcases aL2 bw with k|k
  ·rw[Lt.2 k]at h;cases h
  ·rw[aCv.2 k]at h;cases h
 ·rintro rfl
  unfold eG;rw[OF.sub_self,OF.sub_self,OF.sub_self,(fH (0:F)).2 rfl];simp
theorem IH(u v:V3 F):eG u v=-1\/eG u v=0\/eG u v=1:=by
 unfold eG;split
 ·exact ja _
 ·split
  ·exact ja _
  ·exact ja _
def j9(u v:V3 F):Prop:=eG u v=-1
theorem Lv{u v w:V3 F}(h:j9 u v)(k:j9 v w):j9 u w:=by have h:=Lt.1 h;have k:=Lt.1 k;exact Lt.2 (jc.aB4 (H:=aCf) h k)
theorem D3(u:V3 F):¬j9 u u:=λh=>by have:eG u u=0:=Lu.2 rfl;rw[show eG u u=-1 from h]at this;cases this
theorem PM{u v:V3 F}(h:j9 u v)(k:j9 v u):False:=D3 u (Lv h k)
theorem Lw{u v:V3 F}(h:eG u v=1):j9 v u:=by unfold j9;rw[aCw u v,h]
def mR(v:V3 F):List (V3 F)->List (V3 F)
 |[]=>[v]
 |a::l=>if eG a v=0 then a::l else if eG a v=1 then v::a::l else a::mR v l
theorem PN{v x:V3 F}:∀{l:List (V3 F)},x∈mR v l↔x=v\/x∈l
 |[]=>by simp[mR]
 |a::l=>by
  unfold mR;split
  ·rename_i h;have e:=Lu.1 h;subst e;simp
  ·split
   ·simp
   ·rw[cD,PN,cD];constructor
    ·rintro(h|h|h)
     ·exact .inr (.inl h)
     ·exact .inl h
     ·exact .inr (.inr h)
    ·rintro(h|h|h)
     ·exact .inr (.inl h)
     ·exact .inl h
     ·exact .inr (.inr h)
theorem VB{v:V3 F}:∀{l:List (V3 F)},l.Pairwise j9->(mR v l).Pairwise j9
 |[],_=>Vn ..
 |a::l,h=>by
  unfold mR;have h':=tn.1 h;split
  ·exact h
  ·rename_i h0;split
   ·rename_i h1;refine tn.2 ⟨λb hb=>?_,h⟩;rcases cD.1 hb with rfl|hb
    ·exact Lw h1
    ·exact Lv (Lw h1) (h'.1 b hb)
   ·rename_i h1;refine tn.2 ⟨λb hb=>?_,VB h'.2⟩;rcases PN.1 hb with rfl|hb
    ·rcases IH a b with k|k|k
     ·exact k
     ·exact absurd k h0
     ·exact absurd k h1
    ·exact h'.1 b hb
theorem VC:∀{l m:List (V3 F)},l.Pairwise j9->m.Pairwise j9->(∀ x,x∈l↔x∈m)->l=m
 |[],[],_,_,_=>rfl
 |[],b::m,_,_,h=>by have:=(h b).2 (aR ..);cases this
 |a::l,[],_,_,h=>by have:=(h a).1 (aR ..);cases this
 |a::l,b::m,hl,hm,h=>by
  have cA:=tn.1 hl;have bJ:=tn.1 hm;have e:a=b:=by
   rcases cD.1 ((h a).1 (aR ..))with e|ha
   ·exact e
   ·rcases cD.1 ((h b).2 (aR ..))with e|hb
    ·exact e.symm
    ·exact(PM (cA.1 b hb) (bJ.1 a ha)).elim
  subst e
  congr 1
  refine VC cA.2 bJ.2 λx=>⟨λhx=>?_,λhx=>?_⟩
  ·rcases cD.1 ((h x).1 (bI _ hx))with rfl|xD
   ·exact(D3 _ (cA.1 _ hx)).elim
   ·exact xD
  ·rcases cD.1 ((h x).2 (bI _ hx))with rfl|xD
   ·exact(D3 _ (bJ.1 _ hx)).elim
   ·exact xD
def Lx(l:List (V3 F)):List (V3 F):=l.foldl (λs v=>mR v s) []
theorem aCx{x:V3 F}:∀(l s:List (V3 F)),x∈l.foldl (λs v=>mR v s) s↔x∈l\/x∈s
 |[],s=>by simp
 |v::l,s=>by
  rw[v8,aCx l,PN,cD];constructor
  ·rintro(h|h|h)
   ·exact .inl (.inr h)
   ·exact .inl (.inl h)
   ·exact .inr h
  ·rintro((h|h)|h)
   ·exact .inr (.inl h)
   ·exact .inl h
   ·exact .inr (.inr h)
theorem aCy:∀(l s:List (V3 F)),s.Pairwise j9->(l.foldl (λs v=>mR v s) s).Pairwise j9
 |[],_,h=>h
 |v::l,s,h=>by rw[v8];exact aCy l _ (VB h)
theorem VD{x:V3 F}{l:List (V3 F)}:x∈Lx l↔x∈l:=by unfold Lx;rw[aCx];simp
theorem VE(l:List (V3 F)):(Lx l).Pairwise j9:=aCy l [] aCz
end
end
section
open V3 (dot af bA smul)
def cH(v:V3 K):RV:=⟨du v.x,du v.y,du v.z⟩
def bE(v:V3 K):Value:=(cH v).v
theorem PO{u v:V3 K}(h:cH u=cH v):u=v:=by cases u;cases v;have h1:=K1 (cS RV.x h);have h2:=K1 (cS RV.y h);have h3:=K1 (cS RV.z h);dsimp only[cH]at h1 h2 h3;rw[h1,h2,h3]
def aF(n:Nat)(v:V3 K):Prop:=Sz n v.x/\Sz n v.y/\Sz n v.z
theorem aF.mono{n:Nat}(h:m<=n){v:V3 K}(hv:aF m v):aF n v:=⟨hv.1.mono h,hv.2.1.mono h,hv.2.2.mono h⟩
theorem aF.sm{n:Nat}{v:V3 K}(h:aF n v)(hn:n<=aE):(cH v).Sm:=⟨xT h.1 hn,xT h.2.1 hn,xT h.2.2 hn⟩
theorem aF.add{n:Nat}{u v:V3 K}(hu:aF m u)(hv:aF n v):aF (m+n+1) (u+v):=⟨hu.1.add hv.1,hu.2.1.add hv.2.1,hu.2.2.add hv.2.2⟩
theorem aF.sub{n:Nat}{u v:V3 K}(hu:aF m u)(hv:aF n v):aF (m+n+1) (u-v):=⟨hu.1.sub hv.1,hu.2.1.sub hv.2.1,hu.2.2.sub hv.2.2⟩
theorem aF.neg{n:Nat}{v:V3 K}(hv:aF n v):aF n (-v):=⟨hv.1.neg,hv.2.1.neg,hv.2.2.neg⟩
theorem aF.smul{m n:Nat}{v:V3 K}{k:K}(hv:aF m v)(hk:Sz n k):aF (m+n+4) (smul v k):=⟨hv.1.mul hk,hv.2.1.mul hk,hv.2.2.mul hk⟩
theorem aF.dot{m n:Nat}{u v:V3 K}(hu:aF m u)(hv:aF n v):Sz (3*(m+n)+14) (dot u v):=((hu.1.mul hv.1).add (hu.2.1.mul hv.2.1)).add (hu.2.2.mul hv.2.2) |>.mono o_
theorem aF.af{m n:Nat}{u v:V3 K}(hu:aF m u)(hv:aF n v):aF (2*(m+n)+9) (af u v):=
 ⟨((hu.2.1.mul hv.2.2).sub (hu.2.2.mul hv.2.1)).mono o_,((hu.2.2.mul hv.1).sub (hu.1.mul hv.2.2)).mono o_,((hu.1.mul hv.2.1).sub (hu.2.1.mul hv.1)).mono o_⟩
theorem jR{v:V3 K}{n:Nat}(h:aF n v)(hn:n<=aE):aG prog 67 [bE v] b_:=Po (r:=cH v) (kV h.1 hn) (kV h.2.1 hn) (kV h.2.2 hn)
theorem vD{a b c:Int}(ha:a.natAbs<9223372036854775808)(hb:b.natAbs<9223372036854775808)(hc:c.natAbs<9223372036854775808):aG prog 39 [.int .i64 a,.int .i64 b,.int .i64 c] (bE ⟨kI a,kI b,kI c⟩):=
 bC func39 (λ_=>[(rO ha).at 8,(rO hb).at 10,(rO hc).at 12])
def VF(f:FuncId):Value:=.agg #[.func (.func f) #[] #[]]
theorem aMg{u v:RV}{z:RV}(hu:aG prog 67 [u.v] b_)(hv:aG prog 67 [v.v] b_)
  (hx:aG prog 90 [u.x.v,v.x.v] z.x.v) (hy:aG prog 90 [u.y.v,v.y.v] z.y.v) (hz:aG prog 90 [u.z.v,v.z.v] z.z.v):aG prog 94 [VF 90,u.v,v.v] z.v:=
 bC func94 (λ_=>[hu.at 8,hv.at 12,hx.at 22,hy.at 29,hz.at 36])
theorem aMh{u v:RV}{z:RV}(hu:aG prog 67 [u.v] b_)(hv:aG prog 67 [v.v] b_)
  (hx:aG prog 123 [u.x.v,v.x.v] z.x.v) (hy:aG prog 123 [u.y.v,v.y.v] z.y.v) (hz:aG prog 123 [u.z.v,v.z.v] z.z.v):aG prog 94 [VF 123,u.v,v.v] z.v:=
 bC func94 (λ_=>[hu.at 8,hv.at 12,hx.at 22,hy.at 29,hz.at 36])
theorem aCA{u v:RV}{z:RV}(hu:aG prog 67 [u.v] b_)(hv:aG prog 67 [v.v] b_)
  (hx:aG prog 52 [u.x.v,v.x.v] z.x.v) (hy:aG prog 52 [u.y.v,v.y.v] z.y.v) (hz:aG prog 52 [u.z.v,v.z.v] z.z.v):aG prog 94 [VF 52,u.v,v.v] z.v:=
 bC func94 (λ_=>[hu.at 8,hv.at 12,hx.at 22,hy.at 29,hz.at 36])
theorem Cq{u v:V3 K}{n:Nat}(hu:aF m u)(hv:aF n v)(cQ:m+n<aE):aG prog 41 [bE u,bE v] (bE (u+v)):=
 bC func41 (λ_=>[(aMg (u:=cH u) (v:=cH v) (z:=cH (u+v)) (jR hu o_) (jR hv o_) (uu hu.1 hv.1 cQ) (uu hu.2.1 hv.2.1 cQ) (uu hu.2.2 hv.2.2 cQ)).at 8])
theorem yg{u v:V3 K}{n:Nat}(hu:aF m u)(hv:aF n v)(cQ:m+n<aE):aG prog 114 [bE u,bE v] (bE (u-v)):=
 bC func114 (λ_=>[(aMh (u:=cH u) (v:=cH v) (z:=cH (u-v)) (jR hu o_) (jR hv o_) (Ca hu.1 hv.1 cQ) (Ca hu.2.1 hv.2.1 cQ) (Ca hu.2.2 hv.2.2 cQ)).at 8])
instance:DecidableEq (V3 K):=λu v=>decidable_of_iff (u.x=v.x/\u.y=v.y/\u.z=v.z) ⟨λh=>V3.ext h.1 h.2.1 h.2.2,λh=>by subst h;exact⟨rfl,rfl,rfl⟩⟩
theorem Cr:aF 1 (⟨kI 0,kI 0,kI 0⟩:V3 K):=⟨pr d_ d_,pr d_ d_,pr d_ d_⟩
theorem II{v:V3 K}{n:Nat}(hv:aF n v)(hn:n+1<aE):aG prog 181 [bE v] (bE (-v)):=by
 have e:(⟨kI 0,kI 0,kI 0⟩:V3 K)-v=-v:=by cases v;show(⟨kI 0-_,kI 0-_,kI 0-_⟩:V3 K)=⟨-_,-_,-_⟩;rw[aKZ];congr 1<;>(rw[CR.sub_def];exact CR.zero_add _)
 have h:=yg Cr hv o_;rw[e]at h;exact bC func181 (λ_=>[(vD (a:=0) (b:=0) (c:=0) d_ d_ d_).at 3,h.at 5])
theorem vE{v:V3 K}{k:K}{n:Nat}(hv:aF m v)(hk:Sz n k)(cQ:m+n+8<=aE):aG prog 42 [bE v,bX k] (bE (smul v k)):=
 bC func42 (λ_=>[(aCA (u:=cH v) (v:=⟨du k,du k,du k⟩) (z:=cH (smul v k)) (jR hv o_) (jR (v:=⟨k,k,k⟩) ⟨hk,hk,hk⟩ o_) (nE hv.1 hk cQ) (nE hv.2.1 hk cQ) (nE hv.2.2 hk cQ)).at 11])
theorem qP{u v:V3 K}{n:Nat}(hu:aF m u)(hv:aF n v)(cQ:3*(m+n)+16<aE):aG prog 58 [bE u,bE v] (bX (dot u v)):=
 bC func58 (λ_=>[(aCA (u:=cH u) (v:=cH v) (z:=⟨du (u.x*v.x),du (u.y*v.y),du (u.z*v.z)⟩) (jR hu o_) (jR hv o_) (nE hu.1 hv.1 o_) (nE hu.2.1 hv.2.1 o_) (nE hu.2.2 hv.2.2 o_)).at 9,(uu (hu.1.mul hv.1) (hu.2.1.mul hv.2.1) o_).at 14,(uu ((hu.1.mul hv.1).add (hu.2.1.mul hv.2.1)) (hu.2.2.mul hv.2.2) o_).at 17])
theorem Gm{a b c d:K}{n:Nat}(ha:Sz m a)(hb:Sz m b)(hc:Sz n c)(hd:Sz n d)(cQ:2*(m+n)+16<aE):aG prog 151 [bX a,bX b,bX c,bX d] (bX (a*d-b*c)):=
 bC func151 (λ_=>[(nE ha hd o_).at 11,(nE hb hc o_).at 14,(Ca (ha.mul hd) (hb.mul hc) o_).at 15])
theorem tu{u v:V3 K}{n:Nat}(hu:aF m u)(hv:aF n v)(cQ:2*(m+n)+16<aE):aG prog 95 [bE u,bE v] (bE (af u v)):=
 bC func95 (λ_=>[(jR hu o_).at 6,(jR hv o_).at 10,(Gm hu.2.1 hu.2.2 hv.2.1 hv.2.2 cQ).at 22,(Gm hu.2.2 hu.1 hv.2.2 hv.1 cQ).at 31,(Gm hu.1 hu.2.1 hv.1 hv.2.1 cQ).at 40])
theorem Ar{v:V3 K}{n:Nat}(hv:aF n v)(hn:n<=aE):aG prog 68 [bE v] (.bool (decide (v=0))):=by have hz:(⟨kI 0,kI 0,kI 0⟩:V3 K)=0:=rfl;exact bC func68 (λ_=>[(vD (a:=0) (b:=0) (c:=0) d_ d_ d_).at 4,.step 5 (au f68 5) _ _ _ _ (FY (neg:=true) k_ (cH v) (cH ⟨kI 0,kI 0,kI 0⟩) (hv.sm hn) (Cr.sm d_) (b:=decide (v=0)) (by rw[aB rfl,Cs];exact⟨λh=>by rw[h,hz],λh=>PO h⟩))])
def PQ:Int->Int->Int->Int:=λa b c=>if a≠0 then a else if b≠0 then b else c
theorem Gn{v:i_}(hf:prog.funcs[f]?=some fn)(N:Nat)(rs:∀ w,bM prog (aa.at w) N)(hN:N=(e6 0 l).length+(fn.ntmps-(e6 0 l).length):=by kernel_rfl)(hl:(l.all aP.ok)=true:=by kernel_rfl)(h:∀ w,oX (hJ (P:=prog) fn 100 (e6 0 l) (jB 0 l) (jQ 0 l) (rs w)) []=oY (hJ fn 100 (e6 0 l) (jB 0 l) (jQ 0 l) (rs w)) v []:=by intro _;kernel_rfl)(hv:flat v=true:=by kernel_rfl):cy prog f l v:=jC mixed hf hl 100 hN rs h hv
theorem aMi(a b c:Int):cy prog 213 [.r 3 [.int .i64 a,.int .i64 b,.int .i64 c]] (.int .i64 (PQ a b c)):=by
 have bl:∀ z:Int,z≠0->(Value.bool (!(z==0)))=.bool true:=λz h=>by congr 1;simpa using h
 unfold PQ;by_cases ha:a=0
 ·rw[az (λh=>h ha)];subst ha;by_cases hb:b=0
  ·rw[az (λh=>h hb)];subst hb;by_cases hc:c=0
   ·subst hc;exact Gn func213 18 (λ_=>[])
   ·exact Gn func213 18 (λ_=>[.rw 14 (.bool (!((0:Int)==0))) a_ rfl,.rw 14 (.bool (!((0:Int)==0))) a_ rfl,.rw 14 _ _ (bl c hc)])
  ·rw[aB hb];exact Gn func213 18 (λ_=>[.rw 14 (.bool (!((0:Int)==0))) a_ rfl,.rw 14 _ _ (bl b hb)])
 ·rw[aB ha];exact Gn func213 18 (λ_=>[.rw 14 _ _ (bl a ha)])
theorem aCB(u v:V3 K):PQ (OF.aH (u.x-v.x)) (OF.aH (u.y-v.y)) (OF.aH (u.z-v.z))=eG u v:=rfl
theorem VG{u v:V3 K}{n:Nat}(hu:aF m u)(hv:aF n v)(cQ:4*(m+n)+24<=aE):aG prog 184 [bE u,bE v] (.int .i64 (eG u v)):=by rw[<-aCB];refine bC func184 (λ_=>[(jR hu o_).at 6,(jR hv o_).at 10,(mN hu.1 hv.1 cQ).at 17,(mN hu.2.1 hv.2.1 cQ).at 22,(mN hu.2.2 hv.2.2 cQ).at 27,.bs f184 28 2 3 3 1 [0,1,2] (.int .i64 0) [.int .i64 (OF.aH (u.x-v.x)),.int .i64 (OF.aH (u.y-v.y)),.int .i64 (OF.aH (u.z-v.z))] #[.int .i64 (OF.aH (u.x-v.x)),.int .i64 (OF.aH (u.y-v.y)),.int .i64 (OF.aH (u.z-v.z))] (.row [.int .i64 (OF.aH (u.x-v.x)),.int .i64 (OF.aH (u.y-v.y)),.int .i64 (OF.aH (u.z-v.z))] 3 1) rfl (bB.1 k_) (bB.1 k_) k_ k_ d_ d_ k_,.step 29 (au f184 29) _ _ _ _ (dD (aMi _ _ _) (.w (k:=2) (cc:=0) (x:=.row [.int .i64 (OF.aH (u.x-v.x)),.int .i64 (OF.aH (u.y-v.y)),.int .i64 (OF.aH (u.z-v.z))] 3 1) k_ k_ n_ .nil) (x:=.func 213) k_ k_ k_)])
def c9(p:HS K):RP:=⟨cH p.n,du p.d⟩
def dJ(p:HS K):Value:=(c9 p).v
theorem PR{q:HS K}(h:c9 p=c9 q):p=q:=HS.ext (PO (cS RP.n h)) (K1 (cS RP.d h))
def bP(n:Nat)(p:HS K):Prop:=aF n p.n/\Sz n p.d
theorem bP.mono{n:Nat}(h:m<=n)(hp:bP m p):bP n p:=⟨hp.1.mono h,hp.2.mono h⟩
theorem bP.sm{n:Nat}(h:bP n p)(hn:n<=aE):(c9 p).Sm:=⟨h.1.sm hn,xT h.2 hn⟩
instance:DecidableEq (HS K):=λp q=>decidable_of_iff (p.n=q.n/\p.d=q.d) ⟨λh=>HS.ext h.1 h.2,λh=>by subst h;exact⟨rfl,rfl⟩⟩
theorem Ct{n:Nat}(hp:bP n p)(hn:n<=aE):aG prog 141 [dJ p] (.bool (decide (p.n≠0))):=by
 by_cases h:p.n=0
 ·rw[bd (λe=>e h)];have hz:=Ar hp.1 hn;rw[aJ h]at hz;exact bC func141 (λ_=>[(jR hp.1 hn).at 5,hz.at 9])
 ·rw[aJ h];have hz:=Ar hp.1 hn;rw[bd h]at hz;exact bC func141 (λ_=>[(jR hp.1 hn).at 5,hz.at 9,(kV hp.2 hn).at 15])
theorem Ly{v:V3 K}{n:Nat}(hp:bP m p)(hv:aF n v)(cQ:4*(3*(m+n)+14+m)+30<=aE)(h:p.n≠0):aG prog 187 [dJ p,bE v] (.int .i64 (OF.aH (dot p.n v-p.d))):=by have h1:=Ct hp o_;rw[aJ h]at h1;exact bC func187 (λ_=>[h1.at 6,(jR hv o_).at 10,(qP hp.1 hv o_).at 16,(mN (hp.1.dot hv) hp.2 o_).at 19])
theorem aMj{y:K}{n:Nat}(h:y≠0)(hx:Sz m x)(hy:Sz n y)(cQ:m+7*n+40<=aE):aG prog 238 [bX x,bX y] (bX (x*y⁻¹)):=
 bC func238 (λ_=>[(IB h hx hy cQ).at 10])
theorem Sz.jb{x:K}{n:Nat}(h:Sz n x):Sz n (jb x):=by
 unfold _root_.Go.Proofs.YthjhinbiabcfiaaGreatDoor.jb;split
 ·exact h.neg
 ·exact h
theorem PS(h:x≠0):jb x≠0:=by
 unfold jb;split
 ·intro e;apply h;have:=cS (λz:K=>-z) e;rwa[CR.neg_neg,CR.neg_zero]at this
 ·exact h
def mS(x:K):K:=kI 1*(jb x)⁻¹
def D4(p:HS K)(x:K):HS K:=⟨smul p.n (mS x),p.d*mS x⟩
def qQ(v:V3 K):K:=if v.x≠0 then v.x else if v.y≠0 then v.y else v.z
def canon(p:HS K):HS K:=D4 p (qQ p.n)
theorem PT{v:V3 K}(h:v≠0):qQ v≠0:=by
 unfold qQ;by_cases hx:v.x=0
 ·rw[az (λe=>e hx)];by_cases hy:v.y=0
  ·rw[az (λe=>e hy)];exact λhz=>h (V3.ext hx hy hz)
  ·rw[aB hy];exact hy
 ·rw[aB hx];exact hx
theorem Sz.mS{x:K}{n:Nat}(hx:x≠0)(h:Sz n x):Sz (7*n+29) (mS x):=(Sz.div (m:=1) (PS hx) (pr d_ d_) h.jb).mono o_
theorem bP.D4{p:HS K}{n:Nat}(hp:bP n p){x:K}(hx:x≠0)(h:Sz n x):bP (8*n+33) (D4 p x):=⟨(hp.1.smul (h.mS hx)).mono o_,(hp.2.mul (h.mS hx)).mono o_⟩
theorem aMk{v:V3 K}{n:Nat}(h:aF n v):Sz n (qQ v):=by
 unfold qQ;split
 ·exact h.1
 ·split
  ·exact h.2.1
  ·exact h.2.2
theorem bP.canon{p:HS K}{n:Nat}(hp:bP n p)(h:p.n≠0):bP (8*n+33) (canon p):=hp.D4 (PT h) (aMk hp.1)
theorem aMl{x:m_}(r:RV)(ho:dF o.op=some x):cI prog B o (.func (.func 237) #[] #[]::[r.v]) [(k,none)] (.func (.func 251) #[] #[.pointer (some ⟨k,0,some 7⟩)]) [(k,.aK r.cs 38)]:=
 aBU mixed func237 ho k_ 50 (λ_=>[]) (λ_=>k_) k_ k_
def zI:RI:=⟨false,[]⟩
def zN:RN:=⟨zI,zI,zI,zI,zI⟩
def zV:RV:=⟨zN,zN,zN⟩
def zP:RP:=⟨zV,zN⟩
def vF(r q:RP):aM:=[(0,.aK r.cs 50),(1,.aK q.cs 50),(2,.aK [.int .i64 0] 34),(3,.aK r.n.cs 38)]
def IJ:aT:=[(1,bN 0),(2,bN 1),(3,bN 2),(12,.func (.func 251) #[] #[bN 3])]
theorem aMm(r:RP):ah prog B 31 (Ae f214 0) (jh 0 [r.v]) [] 0 ⟨.normal,[(1,bN 0),(2,bN 1),(3,bN 2)],[(0,.aK r.cs 50),(1,.aK zP.cs 50),(2,.aK [.int .i64 0] 34)],3⟩:=
 fF mixed 10 [] k_
def aMn:Code->Code|.seq _ y=>(match y with|.seq x _=>x|c=>c)|c=>c
def aMo(fn:Func):Code:=match fn.body with|some c=>c|none=>.skip
theorem aMp(r:RP)(hv:aG prog 141 [r.v] b_):ah prog B 31 (aMn (aMo f214)) [(1,bN 0),(2,bN 1),(3,bN 2)] [(0,.aK r.cs 50),(1,.aK zP.cs 50),(2,.aK [.int .i64 0] 34)] 3
  ⟨.normal,[(1,bN 0),(2,bN 1),(3,bN 2)],[(0,.aK r.cs 50),(1,.aK zP.cs 50),(2,.aK [.int .i64 0] 34)],3⟩:=
 fF mixed 10 [hv.at 7] k_
theorem aMq(r:RP):ah prog B 31 (Ae f214 3) [(1,bN 0),(2,bN 1),(3,bN 2)] [(0,.aK r.cs 50),(1,.aK zP.cs 50),(2,.aK [.int .i64 0] 34)] 3 ⟨.normal,IJ,vF r zP,4⟩:=
 fF mixed 10 [.step 12 (au f214 12) _ _ _ _ (aMl (k:=3) (x:=.func 237) r.n k_)] k_
theorem VH{n:Nat}(hp:bP n p)(hx:Sz n x)(hn:16*n+80<=aE):
  IE prog 4 31 #[13] (DY (rR f214)) (DZ (rR f214)) IJ (vF (c9 p) zP) [] (vF (c9 p) (if x=0 then zP else c9 (D4 p x))) [bX x] (if x=0 then none else some .ret):=by
 have hs:=nF hx o_;by_cases h:x=0
 ·rw[aB h,aB h];have e:OF.aH x=0:=(OF.fH x).2 h;rw[e]at hs
  exact Ld (rA:=⟨.normal,(4,bN 5)::IJ,(5,.aK (du x).cs 33)::vF (c9 p) zP,6⟩) (rB:=⟨.normal,[],vF (c9 p) zP,6⟩) k_ k_ k_ k_ k_ k_ k_ k_ rfl (λB=>fF mixed 10 [] k_) rfl k_ rfl
   (λB=>fF mixed 10 [hs.at 15,.rw 16 (.bool (!((0:Int)==0))) a_ rfl] k_) (λk x h=>h) rfl
 ·rw[az h,az h];have e:OF.aH x≠0:=λe=>h ((OF.fH x).1 e)
  exact Ld (rA:=⟨.normal,(4,bN 5)::IJ,(5,.aK (du x).cs 33)::vF (c9 p) zP,6⟩) (rB:=⟨.ret,[],vF (c9 p) (c9 (D4 p x)),7⟩) k_ k_ k_ k_ k_ k_ k_ k_ rfl (λB=>fF mixed 10 [] k_) rfl k_ rfl
   (λB=>fF mixed 10 [hs.at 15,.rw 16 (.bool (!(OF.aH x==0))) b_ (by congr 1;simpa using e),(rO (z:=1) d_).at 17,(UR hx o_).at 19,(aMj (PS h) (pr (z:=1) (n:=1) d_ d_) hx.jb o_).at 20,(vE hp.1 (hx.mS h) o_).at 24,(nE hp.2 (hx.mS h) o_).at 28] k_) (λk x h=>h) rfl
theorem aMr{n:Nat}(hp:bP n p)(hn:16*n+80<=aE)(bw:p.n≠0){T:p_}{m:Map}{S:Nat->Prop}(fT:Ab prog 4 31 IJ (vF (c9 p) zP) m S T)
  {cT:FuncId} {l D:Nat} {W1 W:h_} {κ:Map} {c:g_} {eg:ak} (hm:aO (kW W1 l S m) κ c W) (ha:cY c ((4,.fact (fJ l (j7 cT T #[13] (DY (rR f214)) (DZ (rR f214)) D)))::(vF (c9 p) zP++[]))) (hu:eK c (4+1)) (fB:bY (aL κ) [bN 3] eg) :
  Calls prog 251 (.func (.yield l) #[] #[]::eg).toArray W λe W'=>∃ v qM c',e=.returned v/\Map.le κ qM/\aO (kW W1 l S m) qM c' W'/\
   cY c' ((4,.fact (fJ l (DU (j7 cT T #[13] (DY (rR f214)) (DZ (rR f214)) D) (some .ret))))::(vF (c9 p) (c9 (canon p))++[]))/\∀ k,k<4->c k=none->c' k=none:=by
 have st:=λ(o:Oper) (ho:dF o.op=some (.tmp 3)) (x:K) (hx:Sz n x)=>K7 (W1:=W1) (l:=l) (D:=D) (cT:=cT) (x:=.tmp 3) (o:=o) (VH hp hx hn) ho fT.size fT.jh fT.low fT.set fT.born
 have st2:=λ(o:Oper) (ho:dF o.op=some (.tmp 8)) (x:K) (hx:Sz n x)=>K7 (W1:=W1) (l:=l) (D:=D) (cT:=cT) (x:=.tmp 8) (o:=o) (VH hp hx hn) ho fT.size fT.jh fT.low fT.set fT.born
 have st3:=λ(o:Oper) (ho:dF o.op=some (.tmp 14)) (x:K) (hx:Sz n x)=>K7 (W1:=W1) (l:=l) (D:=D) (cT:=cT) (x:=.tmp 14) (o:=o) (VH hp hx hn) ho fT.size fT.jh fT.low fT.set fT.born
 have s1:=st (au f251 6) k_ p.n.x hp.1.1;have s2:=st2 (au f251 11) k_ p.n.y hp.1.2.1;have s3:=st3 (au f251 17) k_ p.n.z hp.1.2.2;have hc:canon p=D4 p (qQ p.n):=rfl;unfold qQ at hc;by_cases hx:p.n.x=0
 ·rw[az (λe=>e hx)]at hc;rw[aB hx,aB hx]at s1;by_cases hy:p.n.y=0
  ·rw[az (λe=>e hy)]at hc;rw[aB hy,aB hy]at s2;have hz:p.n.z≠0:=λhz=>bw (V3.ext hx hy hz);rw[az hz,az hz,<-hc]at s3;exact D0 mixed func251 rfl 100 (v:=.tuple #[]) (rs:=[.step 6 _ _ _ _ _ s1,.step 11 _ _ _ _ _ s2,.step 17 _ _ _ _ _ s3]) hm ha hu fB k_
  ·rw[aB hy]at hc;rw[az hy,az hy,<-hc]at s2;exact D0 mixed func251 rfl 100 (v:=.tuple #[]) (rs:=[.step 6 _ _ _ _ _ s1,.step 11 _ _ _ _ _ s2]) hm ha hu fB k_
 ·rw[aB hx]at hc;rw[az hx,az hx,<-hc]at s1;exact D0 mixed func251 rfl 100 (v:=.tuple #[]) (rs:=[.step 6 _ _ _ _ _ s1]) hm ha hu fB k_
theorem Lz{n:Nat}(hp:bP n p)(hn:16*n+80<=aE)(bw:p.n≠0):aG prog 214 [dJ p] (.tuple #[dJ (canon p),.int .i64 0]):=by
 have hv:=Ct hp o_;rw[aJ bw]at hv;refine aBT (N:=31) func214 rfl rfl k_ λw a hf hm=>?_;refine mG (aMm (c9 p) none _ _ a w _ hf hm n_ (λ_ _=>rfl) λui cc0 a0 w0 aBV Br kD nT zO x7 _=>?_);refine mG (aMp (c9 p) hv none _ _ a0 w0 _ Br kD nT zO λbZ gF a1 w1 jv iG c7 eL dS iq _=>?_);refine mG (mG (aMq (c9 p) none _ _ a1 w1 _ iG c7 eL dS λdO rG a2 w2 lf je dI gR e8 fO _=>J7 ?_))
 refine U3 (next:=4) (Os:=vF (c9 p) zP) (Vs:=[]) (cz:=vF (c9 p) (c9 (canon p))) (gf:=251) (ca:=[bN 3]) (j:=some .ret) je dI gR e8 (λk x h=>lN (p:=λp=>p.2.owns) k_ h) n_ k_ k_ k_ (wC rfl) (λk x h=>lN (p:=λp=>p.2.owns) k_ h) (λk x h=>Af (lN (p:=mO 4) k_ h))
  (λcT l D W1 S fT κ c W eg hm ha hu fB=>aMr hp hn bw fT hm ha hu fB) λD ct w' DW hDw VI vR Cd U0=>?_
 refine wpIn_ret (aBS (B:=aa.at w) (fr:=IJ) (M:=vF (c9 p) (c9 (canon p))++[]) (v:=.tuple #[dJ (canon p),.int .i64 0]) k_ VI vR Cd rfl (λF h=>h) DW λaA v' w' hc hG=>⟨?_,hG⟩);rw[hc.fD rfl]
theorem VJ{q:HS K}{n:Nat}(hp:bP m p)(hq:bP n q)(hm:16*m+80<=aE)(hn:16*n+80<=aE)(kv:p.n≠0)(Gp:q.n≠0):aG prog 189 [dJ p,dJ q] (.bool (decide (canon p=canon q))):=
 bC func189 (λ_=>[(Lz hp hm kv).at 11,(Lz hq hn Gp).at 16,.step 28 (au f189 28) _ _ _ _ (UE (neg:=true) k_ (c9 (canon p)) (c9 (canon q)) ((hp.canon kv).sm o_) ((hq.canon Gp).sm o_) (b:=decide (canon p=canon q)) (by rw[aB rfl,Cs];exact⟨λh=>by rw[h],λh=>PR h⟩))])
end
def aa.LA(w0:h_)(S:Nat->Prop):aa where
 G w:=tT w0 w/\w.tape=w0.tape/\w.output=w0.output/\w0.heap.size<=w.heap.size/\∀ k,k<w0.heap.size->¬S k->w.heap[k]?=w0.heap[k]?
 cW k:=k<w0.heap.size/\¬S k
 lt w k h hk:=cF hk.1 h.2.2.2.1
 dep w w' h h1 h2 h3 h4 h5:=⟨h1.trans h.1,h2.trans h.2.1,h3.trans h.2.2.1,dh h.2.2.2.1 h4,λk hk hS=>(h5 k ⟨hk,hS⟩).trans (h.2.2.2.2 k hk hS)⟩
section
variable{P:j_}{B:aa}{w w4:h_}{K:Nat}{S:Nat->Prop}{ι:Map}{c:g_}
theorem aMs(h:aO B ι c w)(hO:cY c Os)(dY:∀ k x,ai Os k=some x->x.owns=true)(th:∀ k x,ai cz k=some x->x.owns=true)
  (km:∀ k,ai cz k=none↔ai Os k=none) (hS:∀ b,S b->∃ k x o cap,ai Os k=some x/\ι k=some (.at b o cap)) (jX:∀ k x,ai cz k=some x->fE K x)
  {aA:Map} {c':g_} (hm:aO (aa.LA w S) aA c' w4) (ti:cY c' cz) (dG:∀ k,k<K->∀ lc,aA k=some lc->ι k=some lc)
  (oF:∀ k x,ai cz k=some x->k<K):aO B ι (lZ c cz) w4:=by
 have bH:w.heap.size<=w4.heap.size:=hm.base.2.2.2.1;have aK:∀ b,b<w.heap.size->¬S b->w4.heap[b]?=w.heap[b]?:=hm.base.2.2.2.2;have LB:∀ b,S b->¬B.cW b:=λb hb=>by obtain⟨k,x,o,cap,e1,e2⟩:=hS b hb;exact(h.own k x b o cap (hO k x e1) (dY k x e1) e2).2
 have kinds:∀ k x,lZ c cz k=some x->(ai cz k=some x/\c' k=some x/\x.owns=true)\/(ai Os k=none/\c k=some x):=λk x e=>by
  rw[vX]at e;cases ho:ai cz k with
  |some y=>rw[ho]at e;injection e with e;subst e;exact .inl ⟨rfl,ti k y ho,th k y ho⟩
  |none=>rw[ho]at e;exact .inr ⟨(km k).1 ho,e⟩
 have same:∀ k x,ai cz k=some x->aA k=ι k:=λk x e=>by obtain⟨lc,q,_⟩:=hm.born k x (ti k x e);rw[q,dG k (oF k x e) lc q]
 have DS:∀ k x b o cap,ai Os k=none->c k=some x->x.owns=true->ι k=some (.at b o cap)->¬S b:=λk x b o cap hn hc hx hl hs=>by obtain⟨k',x',o',aQ,e1,e2⟩:=hS b hs;have:=h.inj k k' x x' b o cap o' aQ hc hx (hO k' x' e1) (dY k' x' e1) hl e2;subst this;rw[hn]at e1;cases e1
 have DT:∀ k x b o cap,c k=some x->x.kh=true->ι k=some (.at b o cap)->¬S b:=λk x b o cap hc hx hl hs=>by obtain⟨k',x',o',aQ,e1,e2⟩:=hS b hs;exact(h.seen k x b o cap hc hx hl).2 k' x' o' aQ (hO k' x' e1) (dY k' x' e1) e2
 have xZ:∀ k F v b,c k=some (.fact F)->ι k=some (.val v)->F.cW v w b->¬S b:=λk F v b hc hl hF hs=>by obtain⟨k',x',o',aQ,e1,e2⟩:=hS b hs;exact h.apart k' k x' F b o' aQ v (hO k' x' e1) (dY k' x' e1) e2 hc hl hF
 have part:∀ k x b o cap j y o' aQ,ai cz k=some x->ι k=some (.at b o cap)->ai Os j=none->c j=some y->y.owns=true->ι j=some (.at b o' aQ)->False:=λk x b o cap j y o' aQ hk hl hj hc hy cA=>by
  rcases e9 b w.heap.size with al|ga
  ·have q:=(hm.own k x b o cap (ti k x hk) (th k x hk) (by rw[same k x hk];exact hl)).2;exact q ⟨al,DS j y b o' aQ hj hc hy cA⟩
  ·have:=(h.own j y b o' aQ hc hy cA).1;omega
 refine⟨B.dep w w4 h.base hm.base.1 hm.base.2.1 hm.base.2.2.1 bH λk hk=>aK k (B.lt w k h.base hk) λhs=>LB k hs hk,?_,?_,?_,?_,?_,?_,?_,?_,h.oT⟩
 ·intro k hk;rw[vX]at hk;cases ho:ai cz k with
  |some y=>rw[ho]at hk;cases hk
  |none=>rw[ho]at hk;exact h.dE k hk
 ·intro k x hk;rcases kinds k x hk with ⟨h1,h2,h3⟩|⟨h1,h2⟩
  ·obtain⟨lc,q1,q2⟩:=hm.born k x h2;exact⟨lc,by rw[<-same k x h1];exact q1,q2.below dG (jX k x h1)⟩
  ·obtain⟨lc,q1,q2⟩:=h.born k x h2;refine⟨lc,q1,q2.jJ bH (λb o cap hx e=>?_) λF v b e1 e2 hF=>?_⟩
   ·subst e;rcases hx with hx|hx
    ·exact aK b (h.own k x b o cap h2 hx q1).1 (DS k x b o cap h1 h2 hx q1)
    ·exact aK b (h.seen k x b o cap h2 hx q1).1 (DT k x b o cap h2 hx q1)
   ·subst e1;subst e2;exact aK b (q2.xb rfl hF) (xZ k F v b h2 q1 hF)
 ·intro k x b o cap hk hx hl;rcases kinds k x hk with ⟨h1,h2,h3⟩|⟨h1,h2⟩
  ·have cA:aA k=some (.at b o cap):=by rw[same k x h1];exact hl
   obtain⟨q1,q2⟩:=hm.own k x b o cap h2 hx cA;refine⟨q1,λhF=>?_⟩;have gn:=B.lt w b h.base hF;exact q2 ⟨gn,λhs=>LB b hs hF⟩
  ·obtain⟨q1,q2⟩:=h.own k x b o cap h2 hx hl;exact⟨cF q1 bH,q2⟩
 ·intro k j x y b o cap o' aQ hk hx hj hy hl cA;rcases kinds k x hk with ⟨h1,h2,h3⟩|⟨h1,h2⟩
  ·rcases kinds j y hj with ⟨p1,p2,p3⟩|⟨p1,p2⟩
   ·exact hm.inj k j x y b o cap o' aQ h2 hx p2 hy (by rw[same k x h1];exact hl) (by rw[same j y p1];exact cA)
   ·exact(part k x b o cap j y o' aQ h1 hl p1 p2 hy cA).elim
  ·rcases kinds j y hj with ⟨p1,p2,p3⟩|⟨p1,p2⟩
   ·exact(part j y b o' aQ k x o cap p1 cA h1 h2 hx hl).elim
   ·exact h.inj k j x y b o cap o' aQ h2 hx p2 hy hl cA
 ·intro k j x F b o cap v hk hx hl hj hv hF;rcases kinds j _ hj with ⟨_,_,p3⟩|⟨p1,p2⟩
  ·cases p3
  have hF:=h.CU p2 hv bH (λk2 fO je=>aK k2 fO (xZ j F v k2 p2 hv je)) hF;rcases kinds k x hk with ⟨h1,h2,h3⟩|⟨h1,h2⟩
  ·have cA:aA k=some (.at b o cap):=by rw[same k x h1];exact hl
   have hb:b<w.heap.size:=by obtain⟨lc,q1,q2⟩:=h.born j _ p2;rw[hv]at q1;injection q1 with q1;subst q1;exact q2.xb rfl hF
   exact(hm.own k x b o cap h2 hx cA).2 ⟨hb,xZ j F v b p2 hv hF⟩
  ·exact h.apart k j x F b o cap v h2 hx hl p2 hv hF
 ·intro k x b o cap hk hx hl;rcases kinds k x hk with ⟨h1,h2,h3⟩|⟨h1,h2⟩
  ·cases x<;>simp[Obj.owns,Obj.kh]at h3 hx
  ·obtain⟨q1,q2⟩:=h.seen k x b o cap h2 hx hl;refine⟨cF q1 bH,λj y o' aQ hj hy cA=>?_⟩;rcases kinds j y hj with ⟨p1,p2,p3⟩|⟨p1,p2⟩
   ·have jr:aA j=some (.at b o' aQ):=by rw[same j y p1];exact cA
    exact(hm.own j y b o' aQ p2 hy jr).2 ⟨q1,DT k x b o cap h2 hx hl⟩
   ·exact q2 j y o' aQ p2 hy cA
 ·intro j F hj;rcases kinds j _ hj with ⟨_,_,h3⟩|⟨h1,h2⟩
  ·cases h3
  ·exact h.fa j F h2
 ·intro j k F F' hj hk;rcases kinds j _ hj with ⟨_,_,h3⟩|⟨_,h2⟩
  ·cases h3
  rcases kinds k _ hk with ⟨_,_,h3⟩|⟨_,wo⟩
  ·cases h3
  exact h.one j k F F' h2 wo
def yi(P:j_)(f:FuncId)(K:Nat)(args:ak)(Os Vs:aM)(val:i_)(cz:aM):Prop:=
 ∀ B:aa,B.ds=[]->∀(ι:Map) (c:g_) (w:h_) (args':ak),aO B ι c w->cY c (Os++Vs)->eK c K->bY (aL ι) args args'->
  Calls P f args'.toArray w λe w'=>∃ v' aA c',e=.returned v'/\Map.le ι aA/\aL aA val v'/\aO B aA c' w'/\cY c' cz/\∀ k,k<K->ai (Os++Vs) k=none->c' k=c k
theorem oL{val:i_}(iO:P.follows .mixedOrders=true)(hf:P.funcs[f]?=some fn)(n:Nat)(hN:N=args.length+(fn.ntmps-args.length))(rs:∀ B,bM P B N)
  (h:∀ B,oX (hJ (P:=P) fn n args (Os++Vs) K (rs B)) cz=oY (hJ fn n args (Os++Vs) K (rs B)) val cz):yi P f K args Os Vs val cz:=by
 intro B nq ι c w args' hm ha hu dL;exact SS iO hf hN n (h B) dL hm ha hu (λaA ct v' w' hle hc bJ dP hk=>⟨v',aA,ct,rfl,hle,hc,bJ,λk x e=>dP (k,x) (kE e),hk⟩) nq
theorem aCC(hm:aO B ι c w)(hL:cY c (Os++Vs))(dG:∀ k x,ai (Os++Vs) k=some x->k<K/\fE K x)(dY:∀ k x,ai Os k=some x->x.owns=true)(qk:∀ k x,ai Vs k=some x->x.soft=true):
  ∃ S:Nat->Prop,(∀ b,S b->∃ k x o cap,ai Os k=some x/\ι k=some (.at b o cap))/\aO (aa.LA w S) (wz ι K) (pv c K (Os++Vs)) w/\cY (pv c K (Os++Vs)) (Os++Vs)/\eK (pv c K (Os++Vs)) K:=by
 refine⟨λb=>∃ k x o cap,ai Os k=some x/\ι k=some (.at b o cap),λb h=>h,?_,λk x e=>?_,λk hk=>by unfold pv;rw[az o_]⟩
 ·refine Pe (L:=Os++Vs) hm hL (λk x e=>xY (dG k x e).1) (λk x lc e _ ho=>ho.below (λk hk l e=>by rw[xY hk];exact e) (dG k x e).2) ⟨.refl _,rfl,rfl,bF _,λ_ _ _=>rfl⟩ (λk x b o cap e hx hl hF=>?_) (bF _) (λk e=>?_) (λk x e=>?_) (λk F e=>?_) (λ_ _ _ _ _ _ h=>h) n_
  ·refine hF.2 ⟨k,x,o,cap,?_,hl⟩;rw[iE]at e;cases e1:ai Os k with
   |some y=>rw[e1]at e;exact e
   |none=>
    rw[e1]at e;exact(Pa (qk k x e) hx).elim
  ·unfold pv at e;unfold wz;split at e
   ·rename_i hk;rw[aB hk];split at e
    ·cases e
    ·cases hc:c k with
     |none=>exact hm.dE k hc
     |some x=>rw[hc]at e;cases e
   ·rename_i hk;rw[az hk]
  ·unfold pv at e;split at e
   ·rename_i hk;split at e
    ·rename_i y hy;injection e with e;subst e;exact .inl hy
    ·cases hc:c k with
     |none=>rw[hc]at e;cases e
     |some y=>
      rw[hc]at e;injection e with e;obtain⟨lc,q,_⟩:=hm.born k y hc;exact .inr ⟨e.symm,lc,by rw[xY hk];exact q⟩
   ·cases e
  ·rw[iE]at e;cases e1:ai Os k with
   |some y=>rw[e1]at e;injection e with e;subst e;have:=dY k _ e1;cases this
   |none=>rw[e1]at e;exact λhr=>by rw[Pb (qk k _ e)]at hr;cases hr
 ·unfold pv;rw[aB (dG k x e).1,e]
theorem aCD(hm:aO B ι c w){L:aM}(hL:cY c L){B':aa}{c':g_}(bJ:aO B' aA c' w4)(hle:Map.le (wz ι K) aA)(gL:∀ k,k<K->ai L k=none->c' k=pv c K L k):
  ∀ k,k<K->∀ lc,aA k=some lc->ι k=some lc:=λk hk lc e=>by
 cases ry:ι k with
 |some Aa=>
  have:=hle k Aa (by rw[xY hk];exact ry);rw[e]at this;exact this.symm
 |none=>
  exfalso;have hc:c k=none:=by
   cases hc:c k with
   |none=>rfl
   |some y=>obtain⟨Aa,q,_⟩:=hm.born k y hc;rw[ry]at q;cases q
  have wb:ai L k=none:=by
   cases e1:ai L k with
   |none=>rfl
   |some y=>rw[hL k y e1]at hc;cases hc
  have q1:c' k=none:=by rw[gL k hk wb];unfold pv;rw[aB hk,wb,hc];rfl
  rw[bJ.dE k q1]at e;cases e
theorem LC{x:m_}{val:i_}(h:yi P f K (args++ca) Os Vs val cz)(ho:dF o.op=some x)(fe:gg P f=true)(lK:l5 K val=true)
  (dL:(args++ca).all (l5 K)=true) (dG:((Os++Vs).all λp=>Nat.blt p.1 K&&mO K p)=true) (Le:(cz.all (mO K))=true) (dY:(Os.all λp=>p.2.owns)=true) (th:(cz.all λp=>p.2.owns)=true) (qk:(Vs.all λp=>p.2.soft)=true) (km:cz.map (·.1)=Os.map (·.1)) :
  cI P B o (.func (.func f) #[] ca.toArray::args) ((Os++Vs).map λp=>(p.1,some p.2)) val cz:=by
 have:=jY (P:=P) (B:=B) (o:=o) (x:=x) (f:=f) (fi:=[]) (args:=args) (ca:=ca) (need:=(Os++Vs).map λp=>(p.1,some p.2)) (val:=val) (cZ:=cz) ho fe ?_
 ·simpa using this
 ·intro ι c w hm hn args' ha;rw[ju]at ha;have hL:cY c (Os++Vs):=Ph hn;have LD:∀ k x,ai (Os++Vs) k=some x->k<K/\fE K x:=λk x e=>by have:=lN dG e;simp only[de,Bm]at this;exact⟨this.1,Af this.2⟩
  obtain⟨S,hS,K8,K9,vp⟩:=aCC hm hL LD (λk x e=>lN dY e) (λk x e=>lN qk e);have b9:bY (aL (wz ι K)) (args++ca) args':=by
   have key:∀{l l':ak},bY (aL ι) l l'->(∀ v∈l,l5 K v=true)->bY (aL (wz ι K)) l l':=by
    intro l l' h hl;induction h with
    |nil=>exact .nil
    |cons h t ih=>exact .cons (h.low (λk hk l e=>by rw[xY hk];exact e) (hl _ (aR ..))) (ih λc hc=>hl c (bI _ hc))
   exact key ha (bB.1 dL)
  refine(h (aa.LA w S) rfl _ _ w args' K8 K9 vp b9).mono ?_
  rintro e w' ⟨v',aA,c',rfl,hle,hc,bJ,ti,gL⟩
  have F6:=aCD hm hL bJ hle gL;refine⟨ι,v',rfl,Map.le.refl _,?_,aMs hm (λk x e=>hL k x (by rw[iE,e])) (λk x e=>lN dY e) (λk x e=>lN th e) (wC km) hS (λk x e=>Af (lN Le e)) bJ ti F6 λk x e=>?_⟩
  ·exact hc.low F6 lK
  ·cases e1:ai Os k with
   |none=>rw[(wC km k).2 e1]at e;cases e
   |some y=>exact(LD k y (by rw[iE,e1])).1
theorem aMt{x:m_}{val:i_}(h:yi P f K (args++ca) Os Vs val Os)(ho:dF o.op=some x)(fe:gg P f=true)(lK:l5 K val=true)
  (dL:(args++ca).all (l5 K)=true) (dG:((Os++Vs).all λp=>Nat.blt p.1 K&&mO K p)=true) (Le:(Os.all (mO K))=true) (dY:(Os.all λp=>p.2.owns)=true) (qk:(Vs.all λp=>p.2.soft)=true) :
  cI P B o (.func (.func f) #[] ca.toArray::args) ((Os++Vs).map λp=>(p.1,some p.2)) val []:=by
 intro R ι c a w hv hm hn Kt Q hK;refine LC h ho fe lK dL dG Le dY dY qk rfl R ι c a w hv hm hn Kt Q λaA v' w' h1 h2 h3=>hK aA v' w' h1 h2 ?_;have hL:cY c (Os++Vs):=Ph hn;refine h3.ext λk=>?_;show c k=lZ c Os k;rw[vX];cases e:ai Os k with
 |none=>rfl
 |some y=>exact hL k y (by rw[iE,e])
end
section
variable{α:Type}(enc:α->ak)
def dB(l:List α):ak:=l.flatMap enc
structure rT(s:Nat):Prop where
 len:∀ x,(enc x).length=s
 flat:∀ x,∀ v∈enc x,flat v=true
 one:∀ x,∀ v∈enc x,v.oneCell'=true
variable{enc}{s:Nat}
theorem D5(x:α)(l:List α):dB enc (x::l)=enc x++dB enc l:=rfl
theorem LF(l m:List α):dB enc (l++m)=dB enc l++dB enc m:=by unfold dB;rw[VK]
theorem uy(h:rT enc s):∀ l:List α,(dB enc l).length=l.length*s
 |[]=>by simp[dB]
 |x::l=>by rw[D5,lF,h.len,uy h l,qm,rI,nr]
theorem LG(h:rT enc s)(l:List α):∀ v∈dB enc l,Go.Proofs.YthjhinbiabcfiaaGreatDoor.flat v=true:=λv hv=>by unfold dB at hv;rw[wI]at hv;obtain⟨x,_,hx⟩:=hv;exact h.flat x v hx
theorem iT(h:rT enc s)(l:List α):(dB enc l).all Go.Proofs.YthjhinbiabcfiaaGreatDoor.flat=true:=bB.2 (LG h l)
theorem VL(h:rT enc s):∀(l:List α) (m:Nat),(dB enc l).drop (m*s)=dB enc (l.drop m)
 |l,0=>by simp
 |[],m+1=>by simp[dB]
 |x::l,m+1=>by rw[D5,rI,nr,<-N2,Sb (h.len x),VL h l m,List.drop_succ_cons]
theorem VM(h:rT enc s):∀(l:List α) (m:Nat),(dB enc l).take (m*s)=dB enc (l.take m)
 |l,0=>by simp[dB]
 |[],m+1=>by simp[dB]
 |x::l,m+1=>by rw[D5,rI,nr,List.take_succ_cons,D5,aCE,h.len,Fy,VM h l m,kG (by rw[h.len];omega)]
theorem PU(h:rT enc s){l:List α}{x:α}(hx:l[i]?=some x):((dB enc l).drop (i*s)).take s=enc x:=by
 rw[VL h];have al:=(dZ.1 hx).1;have e:l.drop i=x::l.drop (i+1):=by
  rw[aMu al]
  congr 1
  exact(dZ.1 hx).2
 rw[e,D5,Sa (h.len x)]
theorem PV:∀(vs a b:ak) (o:Nat),jf (a++b) (a.length+o) vs=a++jf b o vs
 |[],a,b,o=>rfl
 |v::vs,a,b,o=>by unfold jf;rw[VN _ _ o_,Fy,uW,PV vs]
theorem VO:∀(vs a b:ak),a.length=vs.length->jf (a++b) 0 vs=vs++b
 |[],a,b,h=>by rw[k8 h];rfl
 |v::vs,[],b,h=>by cases h
 |v::vs,u::a,b,h=>by unfold jf;rw[Dt,List.set_cons_zero];have:=PV vs [v] (a++b) 0;rw[PW]at this;rw[kB];have e:jf (v::(a++b)) 1 vs=v::jf (a++b) 0 vs:=this;rw[e,VO vs a b (by simpa using h)];rfl
theorem aCF(h:rT enc s):∀{l:List α} {i:Nat} {y:α},i<l.length->jf (dB enc l) (i*s) (enc y)=dB enc (l.set i y)
 |x::l,0,y,_=>by rw[kQ,D5,VO _ _ _ (by rw[h.len,h.len])];rfl
 |x::l,i+1,y,hi=>by rw[rI,nr,D5];have:=PV (enc y) (enc x) (dB enc l) (i*s);rw[h.len]at this;rw[this,aCF h (by simpa using hi),List.set_cons_succ,D5]
variable{P:j_}
def IK(P:j_)(t:TypeId):Option Nat:=match P.underlying t,P.info? t with
 |some d,some i=>if d.isRow then some i.size else none
 |_,_=>none
theorem aCG(h:rT enc s){t:TypeId}(ht:IK P t=some s){l:List α}{x:α}(hx:l[i]?=some x):dM P t (dB enc l) (i*s)=some (.agg (enc x).toArray):=by
 unfold IK at ht;split at ht
 ·rename_i d inf h1 h2;split at ht
  ·rename_i hr;injection ht with ht;unfold dM;rw[h1,h2];dsimp only;have al:=(dZ.1 hx).1;have:(i+1)*s<=l.length*s:=eE s al;rw[rI]at this;rw[aB hr,ht,aB (by rw[Nat.ble_eq,uy h];exact this),PU h hx]
  ·cases ht
 ·cases ht
theorem aMv(h:rT enc s){t:TypeId}(ht:IK P t=some s){l:List α}{y:α}(hi:i<l.length):fp P t (dB enc l) (i*s) (.agg (enc y).toArray)=some (dB enc (l.set i y)):=by
 unfold IK at ht;split at ht
 ·rename_i d inf h1 h2;split at ht
  ·rename_i hr;injection ht with ht;unfold fp;rw[h2];dsimp only;have hc:(Value.agg (enc y).toArray).cells.toList=enc y:=rfl;have hs:(Value.agg (enc y).toArray).cells.size=s:=by show(enc y).toArray.size=s;rw[Ng,h.len]
   have:(i+1)*s<=l.length*s:=eE s hi;rw[rI]at this;rw[aB (by simp only[de,Nat.ble_eq];refine⟨⟨by rw[hs,ht];simp,by rw[hs,uy h];exact this⟩,bB.2 λv hv=>h.one y v (by rwa[hc]at hv)⟩),hc,aCF h hi]
  ·cases ht
 ·cases ht
end
section
open V3 (dot af bA smul)
theorem gm:rT RV.cs 30 where
 len r:=rfl
 flat r:=RV.nY r
 one r v hv:=by simp only[RV.cs,RN.cs,eX,cD,jE,jF]at hv;rcases hv with (h|h|h|h|h|h|h|h|h|h)|(h|h|h|h|h|h|h|h|h|h)|(h|h|h|h|h|h|h|h|h|h)<;>subst h<;>rfl
theorem jS:rT RP.cs 40 where
 len r:=rfl
 flat r v hv:=by
  simp only[RP.cs,eX]at hv;rcases hv with h|h
  ·exact RV.nY _ v h
  ·exact RN.nY _ v h
 one r v hv:=by
  simp only[RP.cs,eX]at hv;rcases hv with h|h
  ·exact gm.one _ v h
  ·simp only[RN.cs,cD,jE,jF]at h;rcases h with (h|h|h|h|h|h|h|h|h|h)<;>subst h<;>rfl
abbrev dw(l:List RP):ak:=dB RP.cs l
abbrev cU(l:List RV):ak:=dB RV.cs l
theorem wJ{l:List RP}{p:RP}(h:l[i]?=some p):dM prog 50 (dw l) (i*40)=some p.v:=aCG jS k_ h
theorem tx{l:List RV}{p:RV}(h:l[i]?=some p):dM prog 38 (cU l) (i*30)=some p.v:=aCG gm k_ h
def yj{α:Type}(b:α->Bool):List α->Nat->Int
 |[],_=>-1
 |x::l,i=>if b x then(i:Int)else yj b l (i+1)
theorem PX{α:Type}{b:α->Bool}:∀{l:List α} (i:Nat),(∀ x∈l,b x=false)->yj b l i=-1
 |[],_,_=>rfl
 |x::l,i,h=>by unfold yj;rw[h x (aR ..),PX (i+1) λy hy=>h y (bI _ hy)];rfl
theorem PY{α:Type}{b:α->Bool}:∀{l:List α} {e:Nat} {x:α} (i:Nat),l[e]?=some x->b x=true->(∀(j:Nat) (y:α),j<e->l[j]?=some y->b y=false)->yj b l i=((i+e:Nat):Int)
 |[],e,x,i,h,_,_=>by simp at h
 |y::l,0,x,i,h,hx,_=>by simp at h;subst h;unfold yj;rw[hx];rfl
 |y::l,e+1,x,i,h,hx,hb=>by unfold yj;rw[hb 0 y o_ rfl,PY (i+1) (by simpa using h) hx λj z hj hz=>hb (j+1) z o_ (by simpa using hz)];simp;omega
theorem Gq{α:Type}(b:α->Bool):∀(l:List α),(∀ x∈l,b x=false)\/∃(e:Nat) (x:α),l[e]?=some x/\b x=true/\∀(j:Nat) (y:α),j<e->l[j]?=some y->b y=false
 |[]=>.inl n_
 |x::l=>by
  cases hx:b x with
  |true=>exact .inr ⟨0,x,rfl,hx,λj y hj=>by omega⟩
  |false=>
   rcases Gq b l with h|⟨e,y,h1,h2,h3⟩
   ·refine .inl λy hy=>?_;rcases cD.1 hy with rfl|hy
    ·exact hx
    ·exact h y hy
   ·refine .inr ⟨e+1,y,by simpa using h1,h2,λj z hj hz=>?_⟩;cases j with
    |zero=>simp at hz;subst hz;exact hx
    |succ j=>exact h3 j z o_ (by simpa using hz)
theorem aCH{b:α->Bool}{l:List α}:decide (yj b l 0>=0)=l.any b:=by
 rcases Gq b l with h|⟨e,x,h1,h2,h3⟩
 ·rw[PX 0 h];have:l.any b=false:=by rw[J4];intro x hx;rw[h x hx];simp
  rw[this];rfl
 ·rw[PY 0 h1 h2 h3];have:l.any b=true:=sJ.2 ⟨x,cL h1,h2⟩;rw[this,Cs];omega
section
variable{Bs:aa}{g:FuncId}{ps:List RP}{caps:ak}{b:RP->Bool}
def VP(g:FuncId):Value:=.func (.func g) #[] #[bN 1]
def As(g:FuncId)(n i:Nat):aT:=[(8,vI i),(6,sl 0 n),(7,vI n),(0,sl 0 n),(1,VP g)]
def uz(ps:List RP)(caps:ak):aM:=[(0,.view (dw ps)),(1,.view caps)]
noncomputable def ifS{p:RP}{b:Bool}(hc:gg prog g=true)(jW:caps.all flat=true)(hi:i<ps.length)(hp:ps[i]?=some p)(h:cy prog g [.p p.v,.q caps] (.bool b))(more:bM prog Bs 19):bM prog Bs 19:=
 .lt 9 i ps.length true (aJ hi)::.c8 f179 14 0 ps.length i 40 hi k_::.ld f179 15 50 0 (i*40) (.view (dw ps)) p.v rfl (wJ hp) k_::
  .step 16 (au f179 16) [VP g,p.v] [(1,some (.view caps))] (.bool b) [] (aLp (vs:=[p.v]) (ca:=[bN 1]) (x:=.tmp 11) h (.p rfl (.q (x:=.view caps) rfl jW .nil)) k_ hc rfl)::more
theorem aMw{p:RP}(hc:gg prog g=true)(jW:caps.all flat=true)(hi:i<ps.length)(hp:ps[i]?=some p)(h:cy prog g [.p p.v,.q caps] a_)(h63:ps.length<9223372036854775807):
  ah prog Bs 19 (aI (ag f179 0)) (As g ps.length i) (uz ps caps) 2 ⟨.normal,As g ps.length (i+1),uz ps caps,2⟩:=
 aD (ifS hc jW hi hp h [.sum 18 i 1 (i+1) rfl o_])
theorem aMx{p:RP}(hc:gg prog g=true)(jW:caps.all flat=true)(hi:i<ps.length)(hp:ps[i]?=some p)(h:cy prog g [.p p.v,.q caps] b_):
  ah prog Bs 19 (aI (ag f179 0)) (As g ps.length i) (uz ps caps) 2 ⟨.ret,[(4,vI i)],uz ps caps,2⟩:=
 aD (ifS hc jW hi hp h [])
theorem aMy:ah prog Bs 19 (aI (ag f179 0)) (As g ps.length ps.length) (uz ps caps) 2 ⟨.exit 0,[],uz ps caps,2⟩:=
 aD [.lt 9 ps.length ps.length false s_]
theorem dj{v:i_}(hf:prog.funcs[f]?=some fn)(hl:(l.all aP.ok)=true)(N:Nat)(rs:∀ w,bM prog (aa.at w) N)(hN:N=(e6 0 l).length+(fn.ntmps-(e6 0 l).length):=by kernel_rfl)(h:∀ w,oX (hJ (P:=prog) fn 100 (e6 0 l) (jB 0 l) (jQ 0 l) (rs w)) []=oY (hJ fn 100 (e6 0 l) (jB 0 l) (jQ 0 l) (rs w)) v []:=by intro _;kernel_rfl)(hv:flat v=true:=by kernel_rfl):cy prog f l v:=jC mixed hf hl 100 hN rs h hv
theorem aMz(hc:gg prog g=true)(jW:caps.all flat=true)(h63:ps.length<9223372036854775807)(h:∀ p∈ps,cy prog g [.p p.v,.q caps] (.bool (b p))):cy prog 179 [.r ps.length (dw ps),.f g caps] (.int .i64 (yj b ps 0)):=by
 have aC:([aP.r ps.length (dw ps),.f g caps].all aP.ok)=true:=by simp only[eC,e7,aP.ok,iT jS,jW,Au]
 have qR:∀(B:aa) e,e<=ps.length->(∀ j y,j<e->ps[j]?=some y->b y=false)->∀ i,i<e->ah prog B 19 (aI (ag f179 0)) (As g ps.length i) (uz ps caps) 2 ⟨.normal,As g ps.length (i+1),uz ps caps,2⟩:=λB e he hb i hi=>by
  have al:i<ps.length:=by omega
  have hp:ps[i]?=some ps[i]:=aW al;have hh:=h ps[i] (df al);rw[hb i ps[i] hi hp]at hh;exact aMw hc jW al hp hh h63
 rcases Gq b ps with hn|⟨e,x,h1,h2,h3⟩
 ·rw[PX 0 hn];have lo:∀ B:aa,ah prog B 19 (.block 0 (ag f179 0)) (As g ps.length 0) (uz ps caps) 2 ⟨.normal,[],uz ps caps,2⟩:=λB=>
   cd (id:=0) (cx ps.length (λi=>As g ps.length i) (λ_=>uz ps caps) (λi k _=>Iff.rfl) (qR B ps.length (bF _) λj y _ hy=>hn y (cL hy)) aMy n_)
  exact dj func179 aC 19 (λw=>[.code 0 _ _ _ _ _ (lo _)])
 ·have al:=(dZ.1 h1).1;have hh:=h x (cL h1);rw[h2]at hh;rw[PY 0 h1 h2 h3,kB];have lo:∀ B:aa,ah prog B 19 (.block 0 (ag f179 0)) (As g ps.length 0) (uz ps caps) 2 ⟨.ret,[(4,vI e)],uz ps caps,2⟩:=λB=>
   cd (id:=0) (cx e (λi=>As g ps.length i) (λ_=>uz ps caps) (λi k _=>Iff.rfl) (qR B e o_ h3) (aMx hc jW al h1 hh) n_)
  exact dj func179 aC 19 (λw=>[.code 0 _ _ _ _ _ (lo _)])
theorem aMA(hc:gg prog g=true)(jW:caps.all flat=true)(h63:ps.length<9223372036854775807)(h:∀ p∈ps,cy prog g [.p p.v,.q caps] (.bool (b p))):cy prog 139 [.r ps.length (dw ps),.f g caps] (.bool (ps.any b)):=by
 have aC:([aP.r ps.length (dw ps),.f g caps].all aP.ok)=true:=by simp only[eC,e7,aP.ok,iT jS,jW,Au]
 rw[<-aCH];exact dj func139 aC 9 (λw=>[.step 7 (au f139 7) [.func (.func 179) #[] #[],sl 0 ps.length,VP g] [(0,some (.view (dw ps))),(1,some (.view caps))] (.int .i64 (yj b ps 0)) []
  (dD (aMz hc jW h63 h) (.w (x:=.view (dw ps)) rfl (iT jS ps) (λh=>by rw[k8 h];rfl) (.f (x:=.view caps) rfl jW .nil)) (x:=.func 179) k_ k_ rfl)])
end
def bf(ps:List (HS K)):ak:=dw (ps.map c9)
def fV(ps:List (HS K)):aP:=.r ps.length (bf ps)
theorem dx(ps:List (HS K)):(bf ps).all flat=true:=iT jS _
theorem Av(h:ps[i]?=some p):dM prog 50 (bf ps) (i*40)=some (dJ p):=wJ (by rw[sH,h];rfl)
theorem jG(h:ps.length=0):bf ps=[]:=by rw[k8 h];rfl
def aN(vs:List (V3 K)):ak:=cU (vs.map cH)
def oM(vs:List (V3 K)):aP:=.r vs.length (aN vs)
theorem dC(vs:List (V3 K)):(aN vs).all flat=true:=iT gm _
theorem ke{v:V3 K}(h:vs[i]?=some v):dM prog 38 (aN vs) (i*30)=some (bE v):=tx (by rw[sH,h];rfl)
theorem rU(h:vs.length=0):aN vs=[]:=by rw[k8 h];rfl
open Classical in
theorem VQ{g:FuncId}{caps:ak}{b:HS K->Bool}(hc:gg prog g=true)(jW:caps.all flat=true)(h63:ps.length<9223372036854775807)(h:∀ p∈ps,cy prog g [.p (dJ p),.q caps] (.bool (b p))):
  cy prog 139 [fV ps,.f g caps] (.bool (ps.any b)):=by
 have:=aMA (g:=g) (caps:=caps) (ps:=ps.map c9) (b:=λr=>if hr:∃ p∈ps,c9 p=r then b hr.choose else false) hc jW (by rw[dQ];exact h63) (λr hr=>by obtain⟨p,hp,rfl⟩:=db.1 hr;have hex:∃ q∈ps,c9 q=c9 p:=⟨p,hp,rfl⟩;rw[dif_pos hex];have e:hex.choose=p:=PR hex.choose_spec.2;rw[e];exact h p hp)
 rw[dQ]at this;have e:(ps.map c9).any (λr=>if hr:∃ p∈ps,c9 p=r then b hr.choose else false)=ps.any b:=by
  rw[List.any_map];have:∀ l:List (HS K),(∀ p∈l,p∈ps)->l.any ((λr=>if hr:∃ p∈ps,c9 p=r then b hr.choose else false)∘c9)=l.any b:=by
   intro l;induction l with
   |nil=>intro _;rfl
   |cons p l ih=>
    intro hl;rw[List.any_cons,List.any_cons,ih λq hq=>hl q (bI _ hq)];refine cS (·||l.any b) ?_;have hex:∃ q∈ps,c9 q=c9 p:=⟨p,hl p (aR ..),rfl⟩;show(if hr:∃ q∈ps,c9 q=c9 p then b hr.choose else false)=b p;rw[dif_pos hex,PR hex.choose_spec.2]
  exact this ps λp hp=>hp
 rw[e]at this;exact this
theorem aMB{v:V3 K}{n:Nat}(hp:bP m p)(hv:aF n v)(cQ:4*(3*(m+n)+14)+20<=aE):cy prog 208 [.p (dJ p),.q (cH v).cs] (.bool (decide (OF.aH (dot p.n v)>0))):=by have h1:=qP hp.1 hv (show 3*(m+n)+16<aE by omega);have h2:=nF (hp.1.dot hv) cQ;generalize OF.aH (dot p.n v)=z at *;exact Gn func208 10 (λ_=>[h1.at 7,h2.at 8])
theorem aMC{v:V3 K}{n:Nat}(hp:bP m p)(hv:aF n v)(cQ:4*(3*(m+n)+14+m)+30<=aE)(h:p.n≠0):cy prog 186 [.p (dJ p),.q (cH v).cs] (.bool (decide (OF.aH (dot p.n v-p.d)>=0))):=
 Gn func186 8 (λ_=>[(Ly hp hv cQ h).at 6])
theorem aMD{q:HS K}{n:Nat}(hp:bP m p)(hq:bP n q)(hm:16*m+80<=aE)(hn:16*n+80<=aE)(kv:p.n≠0)(Gp:q.n≠0):cy prog 188 [.p (dJ q),.q (c9 p).cs] (.bool (decide (canon p=canon q))):=
 Gn func188 7 (λ_=>[(VJ hp hq hm hn kv Gp).at 6])
def D6(ps:List (HS K))(v:V3 K):Bool:=!decide (v=0)&&!ps.any λp=>decide (OF.aH (dot p.n v)>0)
theorem aME{v:V3 K}{n:Nat}(cq:∀ p∈ps,bP m p)(hv:aF n v)(cQ:4*(3*(m+n)+14)+20<=aE)(h63:ps.length<9223372036854775807):cy prog 180 [fV ps,.p (bE v)] (.bool (D6 ps v)):=by
 have hz:=Ar hv o_;have aC:([fV ps,.p (bE v)].all aP.ok)=true:=by simp only[eC,e7,fV,aP.ok,dx,iA,kS];rfl
 unfold D6;by_cases h:v=0
 ·rw[aJ h]at hz ⊢;exact dj func180 aC 14 (λ_=>[hz.at 6])
 ·rw[bd h]at hz ⊢;have hc:=VQ (g:=208) (caps:=(cH v).cs) (ps:=ps) (b:=λp=>decide (OF.aH (dot p.n v)>0)) k_ (bB.2 (RV.nY _)) h63 λp hp=>aMB (cq p hp) hv cQ;generalize (ps.any λp=>decide (OF.aH (dot p.n v)>0))=t at *;exact dj func180 aC 14 (λ_=>[hz.at 6,.step 11 (au f180 11) [.func (.func 139) #[] #[],sl 0 ps.length,.func (.func 208) #[] #[bN 1]] [(0,some (.view (bf ps))),(1,some (.aK (cH v).cs 38))] (.bool t) []
   (dD hc (.w (x:=.view (bf ps)) rfl (dx ps) jG (.f (x:=.aK (cH v).cs 38) rfl (bB.2 (RV.nY _)) .nil)) (x:=.func 139) k_ k_ rfl)])
def qS(ps:List (HS K))(u:V3 K):Bool:=D6 ps u||D6 ps (-u)
def qT(p:HS K)(l:List (HS K)):Bool:=l.any λq=>!decide (af p.n q.n=0)
def uA:List (HS K)->Nat->Bool
 |_,0=>false
 |l,i+1=>match l[i]? with
  |some p=>uA l i||qT p (l.take i)
  |none=>uA l i
section
variable{Bs:aa}{ps:List (HS K)}
def Cu(n i:Nat)(s:Bool)(j:Nat):aT:=[(20,vI j),(18,sl 0 i),(19,vI i),(0,sl 0 n),(5,bN 1),(3,.bool s)]
def tz(ps:List (HS K))(p:HS K):aM:=[(0,.view (bf ps)),(1,.aK (c9 p).cs 50)]
theorem aCI(p:HS K)(m:Nat):∀ x∈tz ps p,fE m x.2:=λx hx=>by
 simp only[tz,cD,jE,jF]at hx;rcases hx with rfl|rfl
 ·exact λv hv=>iH (bB.1 (dx ps) v hv)
 ·exact λv hv=>iH (jS.flat _ v hv)
noncomputable def IL{q:HS K}(hj:j<i)(hq:ps[j]?=some q)(cq:∀ p∈ps,bP m p)(hp:bP m p)(hm:100*m+1000<=aE)(s:Bool)(more:bM prog Bs 47):bM prog Bs 47:=
 .lt 21 j i true (aJ hj)::.c8 f142 22 0 i j 40 hj k_::.ld f142 23 50 0 (j*40) (.view (bf ps)) (dJ q) rfl (Av hq) k_::
  (tu hp.1 (cq q (cL hq)).1 o_).at 28::
  (if s then more else(Ar (hp.1.af (cq q (cL hq)).1) o_).at 32::more)
theorem PZ{u:V3 K}{n:Nat}(cq:∀ p∈ps,bP m p)(hu:aF n u)(cQ:4*(3*(m+n)+14)+20<=aE)(h63:ps.length<9223372036854775807){x:m_}(ho:dF o.op=some x):
  cI prog Bs o [.func (.func 180) #[] #[],sl 0 ps.length,bE u] [(0,some (.view (bf ps)))] (.bool (D6 ps u)) []:=
 dD (aME cq hu cQ h63) (.w (x:=.view (bf ps)) rfl (dx ps) jG (.p k_ .nil)) ho k_ k_
theorem aMF{q:HS K}(hj:j<i)(hq:ps[j]?=some q)(cq:∀ p∈ps,bP m p)(hp:bP m p)(hm:100*m+1000<=aE)(h63:ps.length<9223372036854775807)(lQ:i<=ps.length)(s:Bool)(hb:qS ps (af p.n q.n)=false):
  ah prog Bs 47 (aI (ag f142 2)) (Cu ps.length i s j) (tz ps p) 2 ⟨.normal,Cu ps.length i (s||!decide (af p.n q.n=0)) (j+1),tz ps p,2⟩:=by
 have VR:=cq q (cL hq);have hc:=hp.1.af VR.1;unfold qS at hb;rw[Np]at hb;have o1:=λBs=>PZ (Bs:=Bs) (x:=.func 180) (o:=au f142 37) cq hc o_ h63 k_;have o2:=λBs=>PZ (Bs:=Bs) (x:=.func 180) (o:=au f142 42) cq hc.neg o_ h63 k_;rw[hb.1]at o1;rw[hb.2]at o2;have ng:=II hc o_;have hs:∀ d:Bool,(s||!d)=(if s then true else !d):=λd=>by cases s<;>rfl
 cases s
 ·exact ua mixed 100 (gN:=4) (IL hj hq cq hp hm false [.step 37 _ _ _ _ _ (o1 _),ng.at 41,.step 42 _ _ _ _ _ (o2 _),.sum 44 j 1 (j+1) rfl o_]) k_ rfl k_ (aCI _ 2) k_
 ·exact ua mixed 100 (gN:=4) (IL hj hq cq hp hm true [.step 37 _ _ _ _ _ (o1 _),ng.at 41,.step 42 _ _ _ _ _ (o2 _),.sum 44 j 1 (j+1) rfl o_]) k_ rfl k_ (aCI _ 2) k_
theorem aMG{q:HS K}(hj:j<i)(hq:ps[j]?=some q)(cq:∀ p∈ps,bP m p)(hp:bP m p)(hm:100*m+1000<=aE)(h63:ps.length<9223372036854775807)(s:Bool)(hb:qS ps (af p.n q.n)=true):
  ah prog Bs 47 (aI (ag f142 2)) (Cu ps.length i s j) (tz ps p) 2 ⟨.ret,[(2,.bool false)],tz ps p,4⟩:=by
 have VR:=cq q (cL hq);have hc:=hp.1.af VR.1;unfold qS at hb;have o1:=λBs=>PZ (Bs:=Bs) (x:=.func 180) (o:=au f142 37) cq hc o_ h63 k_;have o2:=λBs=>PZ (Bs:=Bs) (x:=.func 180) (o:=au f142 42) cq hc.neg o_ h63 k_;have ng:=II hc o_;cases h1:D6 ps (af p.n q.n)with
 |true=>
  rw[h1]at o1;cases s
  ·exact aD (IL hj hq cq hp hm false [.step 37 _ _ _ _ _ (o1 _)])
  ·exact aD (IL hj hq cq hp hm true [.step 37 _ _ _ _ _ (o1 _)])
 |false=>
  rw[h1,zH]at hb;rw[h1]at o1;rw[hb]at o2;cases s
  ·exact aD (IL hj hq cq hp hm false [.step 37 _ _ _ _ _ (o1 _),ng.at 41,.step 42 _ _ _ _ _ (o2 _)])
  ·exact aD (IL hj hq cq hp hm true [.step 37 _ _ _ _ _ (o1 _),ng.at 41,.step 42 _ _ _ _ _ (o2 _)])
theorem aMH(s:Bool):ah prog Bs 47 (aI (ag f142 2)) (Cu ps.length i s i) (tz ps p) 2 ⟨.exit 2,[(3,.bool s)],tz ps p,2⟩:=
 aD [.lt 21 i i false s_]
theorem aMI{q:HS K}(hq:ps[j]?=some q):qT p (ps.take (j+1))=(qT p (ps.take j)||!decide (af p.n q.n=0)):=by unfold qT;rw[tA,hq,List.any_append];simp
theorem aCJ(lQ:i<=ps.length)(cq:∀ p∈ps,bP m p)(hp:bP m p)(hm:100*m+1000<=aE)(h63:ps.length<9223372036854775807)(s:Bool):
  ah prog Bs 47 (.block 2 (ag f142 2)) (Cu ps.length i s 0) (tz ps p) 2 (if(ps.take i).any (λq=>qS ps (af p.n q.n))=true then⟨.ret,[(2,.bool false)],tz ps p,4⟩else⟨.normal,[(3,.bool (s||qT p (ps.take i)))],tz ps p,2⟩):=by
 have at':∀{j:Nat},j<i->(ps.take i)[j]?=ps[j]?:=λhj=>by rw[uU,aB hj]
 have qR:∀ e,e<=i->(∀(j:Nat) y,j<e->(ps.take i)[j]?=some y->qS ps (af p.n y.n)=false)->∀ j,j<e->
   ah prog Bs 47 (aI (ag f142 2)) (Cu ps.length i (s||qT p (ps.take j)) j) (tz ps p) 2 ⟨.normal,Cu ps.length i (s||qT p (ps.take (j+1))) (j+1),tz ps p,2⟩:=λe he hb j hj=>by
  have hq:ps[j]?=some ps[j]:=aW o_;have:=aMF (Bs:=Bs) (p:=p) (show j<i by omega) hq cq hp hm h63 lQ (s||qT p (ps.take j)) (hb j _ hj (by rw[at' o_];exact hq));rwa[Bool.or_assoc,<-aMI hq]at this
 have e0:(s||qT p (ps.take 0))=s:=by simp[qT]
 rcases Gq (λq:HS K=>qS ps (af p.n q.n)) (ps.take i)with hn|⟨e,q,h1,h2,h3⟩
 ·have:¬(ps.take i).any (λq=>qS ps (af p.n q.n))=true:=by rw[P0,J4];intro x hx;rw[hn x hx];simp
  rw[az this];have:=cx (P:=prog) (B:=Bs) (N:=47) i (λj=>Cu ps.length i (s||qT p (ps.take j)) j) (λ_=>tz ps p) (λi k _=>Iff.rfl) (qR i (bF _) λj y _ hy=>hn y (cL hy)) (aMH _) n_;rw[e0]at this;exact cd (id:=2) this
 ·have ha:(ps.take i).any (λq=>qS ps (af p.n q.n))=true:=sJ.2 ⟨q,cL h1,h2⟩;rw[aB ha];have hei:e<i:=by have:=(dZ.1 h1).1;rw[jK]at this;omega
  have:=cx (P:=prog) (B:=Bs) (N:=47) e (λj=>Cu ps.length i (s||qT p (ps.take j)) j) (λ_=>tz ps p) (λi k _=>Iff.rfl) (qR e o_ h3) (aMG hei (by rw[<-at' hei];exact h1) cq hp hm h63 _ h2) n_;rw[e0]at this;exact cd (id:=2) this
def Gr(ps:List (HS K))(i:Nat):Bool:=match ps[i]? with
 |some p=>(ps.take i).any λq=>qS ps (af p.n q.n)
 |none=>false
def P1(ps:List (HS K))(n:Nat):Bool:=(List.range n).any (Gr ps)
theorem P2(h:ps[i]?=some p):Gr ps i=(ps.take i).any λq=>qS ps (af p.n q.n):=by unfold Gr;rw[h]
theorem aCK(h:ps[i]?=some p):uA ps (i+1)=(uA ps i||qT p (ps.take i)):=by show(match ps[i]? with|some p=>uA ps i||qT p (ps.take i)|none=>uA ps i)=_;rw[h]
def uB(ps:List (HS K)):Bool:=!P1 ps ps.length&&uA ps ps.length
def Aw(n i:Nat)(s:Bool):aT:=[(11,vI i),(9,sl 0 n),(10,vI n),(0,sl 0 n),(3,.bool s)]
def rV(ps:List (HS K)):aM:=[(0,.view (bf ps))]
theorem aMJ(m:Nat):∀ x∈rV ps,fE m x.2:=λx hx=>by simp only[rV,cD,jE,jF]at hx;subst hx;exact λv hv=>iH (bB.1 (dx ps) v hv)
noncomputable def coS(hi:i<ps.length)(hp:ps[i]?=some p)(more:bM prog Bs 47):bM prog Bs 47:=
 .lt 12 i ps.length true (aJ hi)::.c8 f142 14 0 ps.length i 40 hi k_::.ld f142 15 50 0 (i*40) (.view (bf ps)) (dJ p) rfl (Av hp) k_::.upto f142 18 0 ps.length i 40 o_ k_::more
theorem aMK(hi:i<ps.length)(hp:ps[i]?=some p)(cq:∀ p∈ps,bP m p)(hm:100*m+1000<=aE)(h63:ps.length<9223372036854775807)(s:Bool)(hb:(ps.take i).any (λq=>qS ps (af p.n q.n))=false):
  ah prog Bs 47 (aI (ag f142 0)) (Aw ps.length i s) (rV ps) 1 ⟨.normal,Aw ps.length (i+1) (s||qT p (ps.take i)),rV ps,1⟩:=by
 have lo:=aCJ (Bs:=Bs) (show i<=ps.length by omega) cq (cq p (cL hp)) hm h63 s;rw[hb,az s_]at lo;generalize qT p (ps.take i)=t at *;exact ua mixed 100 (gN:=2) (coS hi hp [.code 2 _ _ _ _ _ lo,.sum 45 i 1 (i+1) rfl o_]) k_ rfl k_ (aMJ 1) k_
theorem aML(hi:i<ps.length)(hp:ps[i]?=some p)(cq:∀ p∈ps,bP m p)(hm:100*m+1000<=aE)(h63:ps.length<9223372036854775807)(s:Bool)(hb:(ps.take i).any (λq=>qS ps (af p.n q.n))=true):
  ah prog Bs 47 (aI (ag f142 0)) (Aw ps.length i s) (rV ps) 1 ⟨.ret,[(2,.bool false)],rV ps,4⟩:=by
 have lo:=aCJ (Bs:=Bs) (show i<=ps.length by omega) cq (cq p (cL hp)) hm h63 s;rw[aB hb]at lo;exact aD (coS hi hp [.code 2 _ _ _ _ _ lo])
theorem aMM(s:Bool):ah prog Bs 47 (aI (ag f142 0)) (Aw ps.length ps.length s) (rV ps) 1 ⟨.exit 0,[(3,.bool s)],rV ps,1⟩:=
 aD [.lt 12 ps.length ps.length false s_]
theorem aMN(cq:∀ p∈ps,bP m p)(hm:100*m+1000<=aE)(h63:ps.length<9223372036854775807):cy prog 142 [fV ps] (.bool (uB ps)):=by
 have aC:([fV ps].all aP.ok)=true:=by simp only[eC,e7,fV,aP.ok,dx,iA]
 have qR:∀(B:aa) e,e<=ps.length->(∀(j:Nat) y,j<e->(List.range ps.length)[j]?=some y->Gr ps y=false)->∀ i,i<e->
   ah prog B 47 (aI (ag f142 0)) (Aw ps.length i (uA ps i)) (rV ps) 1 ⟨.normal,Aw ps.length (i+1) (uA ps (i+1)),rV ps,1⟩:=λB e he hb i hi=>by
  have al:i<ps.length:=by omega
  have hp:ps[i]?=some ps[i]:=aW al;rw[aCK hp];exact aMK al hp cq hm h63 _ (by rw[<-P2 hp];exact hb i i hi (LH al))
 unfold uB P1;rcases Gq (Gr ps) (List.range ps.length)with hn|⟨e,y,h1,h2,h3⟩
 ·have ha:(List.range ps.length).any (Gr ps)=false:=by rw[J4];intro x hx;rw[hn x hx];simp
  rw[ha];have lo:∀ B:aa,ah prog B 47 (.block 0 (ag f142 0)) (Aw ps.length 0 false) (rV ps) 1 ⟨.normal,[(3,.bool (uA ps ps.length))],rV ps,1⟩:=λB=>
   cd (id:=0) (cx ps.length (λi=>Aw ps.length i (uA ps i)) (λ_=>rV ps) (λi k _=>Iff.rfl) (qR B ps.length (bF _) λj y _ hy=>hn y (cL hy)) (aMM _) n_)
  generalize uA ps ps.length=t at *;exact dj func142 aC 47 (λw=>[.code 0 _ _ _ _ _ (lo _)])
 ·have ha:(List.range ps.length).any (Gr ps)=true:=sJ.2 ⟨y,cL h1,h2⟩;rw[ha];have al:e<ps.length:=by have:=(dZ.1 h1).1;rwa[zx]at this
  have hy:y=e:=by rw[LH al]at h1;injection h1 with h1;exact h1.symm
  subst hy;have hp:ps[y]?=some ps[y]:=aW al;have lo:∀ B:aa,ah prog B 47 (.block 0 (ag f142 0)) (Aw ps.length 0 false) (rV ps) 1 ⟨.ret,[(2,.bool false)],rV ps,4⟩:=λB=>
   cd (id:=0) (cx y (λi=>Aw ps.length i (uA ps i)) (λ_=>rV ps) (λi k _=>Iff.rfl) (qR B y o_ h3) (aML al hp cq hm h63 _ (by rw[<-P2 hp];exact h2)) n_)
  exact dj func142 aC 47 (λw=>[.code 0 _ _ _ _ _ (lo _)])
end
end
section
variable{P:j_}{B:aa}{N:Nat}
def VT(o:Oper):Bool:=match o.op with|.nilCheck _=>true|_=>false
theorem aMO(ho:VT o=true)(k off:Nat):cI P B o [.pointer (some ⟨k,off,some 7⟩)] [] (.pointer (some ⟨k,off,some 7⟩)) []:=by
 unfold VT at ho;split at ho
 ·rename_i x ck;refine iM.step λι c ρ w aU hm hn=>?_;rw[ck]at aU;obtain⟨u,hu,hc⟩:=nP aU;have hu:ρ x=u:=by simpa[Op.operands]using hu
  obtain⟨b,oo,cap,hb,he⟩:=hc.xa rfl;refine⟨ι,.pointer (some ⟨b,oo+off,none⟩),w,Map.le.refl _,.ptr hb,hm,.inl ?_⟩;simp only[execOp,ck,hu,he];simp[go_sem]
 ·cases ho
def aY.cE(fn:Func)(key k off:Nat)(ho:VT (au fn key)=true):aY P B N:=.step key (au fn key) [.pointer (some ⟨k,off,some 7⟩)] [] (.pointer (some ⟨k,off,some 7⟩)) [] (aMO ho k off)
end
section
open V3 (dot af bA smul)
def VU:Option K->ak
 |some x=>(du x).cs
 |none=>zN.cs
def rW(s:fm K)(b d:V3 K):ak:=VU s.lo++(VU s.hi++(.bool s.lo.isSome::.bool s.hi.isSome::((cH b).cs++(cH d).cs)))
def rX(s:fm K)(a b:K):fm K:=
 if OF.aH a=0 then s
 else if OF.aH a>0 then(match s.hi with|some h=>if OF.aH (b*a⁻¹-h)<0 then⟨s.lo,some (b*a⁻¹)⟩else s|none=>⟨s.lo,some (b*a⁻¹)⟩)
 else(match s.lo with|some l=>if OF.aH (b*a⁻¹-l)>0 then⟨some (b*a⁻¹),s.hi⟩else s|none=>⟨some (b*a⁻¹),s.hi⟩)
def aCL(s:fm K):Bool:=match s.lo,s.hi with
 |some l,some h=>decide (OF.aH (l-h)<0)
 |_,_=>true
def tB(s:fm K)(a b:K):Bool:=if OF.aH a=0 then decide (OF.aH b>=0)else aCL (rX s a b)
def ob(n:Nat)(x:Option K):Prop:=∀ y,x=some y->Sz n y
theorem aMP{s:fm K}{b d:V3 K}{z:Nat}(hp:bP m p)(hb:aF q b)(hd:aF q d)(eQ:ob z s.lo)(iN:ob z s.hi)(hn:1000*(m+q)+100*z+10000<=aE):
  yi prog 209 20 [bN 6,dJ p] [(6,.aK (rW s b d) 191)] [] (.bool (tB s (dot p.n d) (p.d-dot p.n b))) [(6,.aK (rW (rX s (dot p.n d) (p.d-dot p.n b)) b d) 191)]:=by
 have jk:Sz (3*(m+q)+14) (dot p.n d):=hp.1.dot hd;have jX:Sz (m+(3*(m+q)+14)+1) (p.d-dot p.n b):=hp.2.sub (hp.1.dot hb);have d1:=qP hp.1 hd o_;have d2:=qP hp.1 hb o_;have sb:=Ca hp.2 (hp.1.dot hb) o_;have oN:=nF jk o_;have sgb:=nF jX o_;unfold tB rX;generalize p.d-dot p.n b=y at *;generalize dot p.n d=a at *;obtain⟨lo,hi⟩:=s;dsimp only at eQ iN ⊢;by_cases nT:a=0
 ·have e:OF.aH a=0:=(OF.fH a).2 nT;rw[aB e,aB e];have dv:=aK0 jX o_;rw[<-nT]at dv;cases lo<;>cases hi<;>exact oL mixed func209 100 (N:=116) k_ (λ_=>[.cE f209 12 6 0 k_,d1.at 15,.cE f209 21 6 0 k_,d2.at 24,sb.at 25,dv.at 29,sgb.at 36]) (λ_=>k_)
 ·have e:OF.aH a≠0:=λh=>nT ((OF.fH a).1 h);rw[az e,az e];have dv:=IB nT jX jk o_;have ht:=Sz.div nT jX jk;generalize y*a⁻¹=t at *;by_cases h:OF.aH a>0
  ·rw[aB h];rcases lo with _|lo
   ·rcases hi with _|hi
    ·exact oL mixed func209 100 (N:=116) k_ (λ_=>[.cE f209 12 6 0 k_,d1.at 15,.cE f209 21 6 0 k_,d2.at 24,sb.at 25,dv.at 29,oN.at 40,.rw 41 (.bool (decide (OF.aH a>0))) b_ (by rw[aJ h]),.cE f209 44 6 0 k_,.cE f209 61 6 0 k_,.cE f209 63 6 0 k_,.cE f209 93 6 0 k_]) (λ_=>k_)
    ·dsimp only;by_cases hc:OF.aH (t-hi)<0
     ·rw[aB hc];exact oL mixed func209 100 (N:=116) k_ (λ_=>[.cE f209 12 6 0 k_,d1.at 15,.cE f209 21 6 0 k_,d2.at 24,sb.at 25,dv.at 29,oN.at 40,.rw 41 (.bool (decide (OF.aH a>0))) b_ (by rw[aJ h]),.cE f209 44 6 0 k_,.cE f209 51 6 0 k_,(mN ht (iN _ rfl) o_).at 54,.rw 55 (.bool (decide (OF.aH (t-hi)<0))) b_ (by rw[aJ hc]),.cE f209 61 6 0 k_,.cE f209 63 6 0 k_,.cE f209 93 6 0 k_]) (λ_=>k_)
     ·rw[az hc];exact oL mixed func209 100 (N:=116) k_ (λ_=>[.cE f209 12 6 0 k_,d1.at 15,.cE f209 21 6 0 k_,d2.at 24,sb.at 25,dv.at 29,oN.at 40,.rw 41 (.bool (decide (OF.aH a>0))) b_ (by rw[aJ h]),.cE f209 44 6 0 k_,.cE f209 51 6 0 k_,(mN ht (iN _ rfl) o_).at 54,.rw 55 (.bool (decide (OF.aH (t-hi)<0))) a_ (by rw[bd hc]),oN.at 67,.rw 68 (.bool (decide (OF.aH a<0))) a_ (by rw[bd o_]),.cE f209 93 6 0 k_]) (λ_=>k_)
   ·rcases hi with _|hi
    ·exact oL mixed func209 100 (N:=116) k_ (λ_=>[.cE f209 12 6 0 k_,d1.at 15,.cE f209 21 6 0 k_,d2.at 24,sb.at 25,dv.at 29,oN.at 40,.rw 41 (.bool (decide (OF.aH a>0))) b_ (by rw[aJ h]),.cE f209 44 6 0 k_,.cE f209 61 6 0 k_,.cE f209 63 6 0 k_,.cE f209 93 6 0 k_,.cE f209 99 6 0 k_,.cE f209 106 6 0 k_,.cE f209 110 6 0 k_,(mN (eQ _ rfl) ht o_).at 113]) (λ_=>k_)
    ·dsimp only;by_cases hc:OF.aH (t-hi)<0
     ·rw[aB hc];exact oL mixed func209 100 (N:=116) k_ (λ_=>[.cE f209 12 6 0 k_,d1.at 15,.cE f209 21 6 0 k_,d2.at 24,sb.at 25,dv.at 29,oN.at 40,.rw 41 (.bool (decide (OF.aH a>0))) b_ (by rw[aJ h]),.cE f209 44 6 0 k_,.cE f209 51 6 0 k_,(mN ht (iN _ rfl) o_).at 54,.rw 55 (.bool (decide (OF.aH (t-hi)<0))) b_ (by rw[aJ hc]),.cE f209 61 6 0 k_,.cE f209 63 6 0 k_,.cE f209 93 6 0 k_,.cE f209 99 6 0 k_,.cE f209 106 6 0 k_,.cE f209 110 6 0 k_,(mN (eQ _ rfl) ht o_).at 113]) (λ_=>k_)
     ·rw[az hc];exact oL mixed func209 100 (N:=116) k_ (λ_=>[.cE f209 12 6 0 k_,d1.at 15,.cE f209 21 6 0 k_,d2.at 24,sb.at 25,dv.at 29,oN.at 40,.rw 41 (.bool (decide (OF.aH a>0))) b_ (by rw[aJ h]),.cE f209 44 6 0 k_,.cE f209 51 6 0 k_,(mN ht (iN _ rfl) o_).at 54,.rw 55 (.bool (decide (OF.aH (t-hi)<0))) a_ (by rw[bd hc]),oN.at 67,.rw 68 (.bool (decide (OF.aH a<0))) a_ (by rw[bd o_]),.cE f209 93 6 0 k_,.cE f209 99 6 0 k_,.cE f209 106 6 0 k_,.cE f209 110 6 0 k_,(mN (eQ _ rfl) (iN _ rfl) o_).at 113]) (λ_=>k_)
  ·rw[az h];rcases lo with _|lo
   ·rcases hi with _|hi
    ·exact oL mixed func209 100 (N:=116) k_ (λ_=>[.cE f209 12 6 0 k_,d1.at 15,.cE f209 21 6 0 k_,d2.at 24,sb.at 25,dv.at 29,oN.at 40,.rw 41 (.bool (decide (OF.aH a>0))) a_ (by rw[bd h]),oN.at 67,.rw 68 (.bool (decide (OF.aH a<0))) b_ (by rw[aJ o_]),.cE f209 71 6 0 k_,.cE f209 88 6 0 k_,.cE f209 90 6 0 k_,.cE f209 93 6 0 k_,.cE f209 99 6 0 k_]) (λ_=>k_)
    ·exact oL mixed func209 100 (N:=116) k_ (λ_=>[.cE f209 12 6 0 k_,d1.at 15,.cE f209 21 6 0 k_,d2.at 24,sb.at 25,dv.at 29,oN.at 40,.rw 41 (.bool (decide (OF.aH a>0))) a_ (by rw[bd h]),oN.at 67,.rw 68 (.bool (decide (OF.aH a<0))) b_ (by rw[aJ o_]),.cE f209 71 6 0 k_,.cE f209 88 6 0 k_,.cE f209 90 6 0 k_,.cE f209 93 6 0 k_,.cE f209 99 6 0 k_,.cE f209 106 6 0 k_,.cE f209 110 6 0 k_,(mN ht (iN _ rfl) o_).at 113]) (λ_=>k_)
   ·rcases hi with _|hi
    ·dsimp only;by_cases hc:OF.aH (t-lo)>0
     ·rw[aB hc];exact oL mixed func209 100 (N:=116) k_ (λ_=>[.cE f209 12 6 0 k_,d1.at 15,.cE f209 21 6 0 k_,d2.at 24,sb.at 25,dv.at 29,oN.at 40,.rw 41 (.bool (decide (OF.aH a>0))) a_ (by rw[bd h]),oN.at 67,.rw 68 (.bool (decide (OF.aH a<0))) b_ (by rw[aJ o_]),.cE f209 71 6 0 k_,.cE f209 78 6 0 k_,(mN ht (eQ _ rfl) o_).at 81,.rw 82 (.bool (decide (OF.aH (t-lo)>0))) b_ (by rw[aJ hc]),.cE f209 88 6 0 k_,.cE f209 90 6 0 k_,.cE f209 93 6 0 k_,.cE f209 99 6 0 k_]) (λ_=>k_)
     ·rw[az hc];exact oL mixed func209 100 (N:=116) k_ (λ_=>[.cE f209 12 6 0 k_,d1.at 15,.cE f209 21 6 0 k_,d2.at 24,sb.at 25,dv.at 29,oN.at 40,.rw 41 (.bool (decide (OF.aH a>0))) a_ (by rw[bd h]),oN.at 67,.rw 68 (.bool (decide (OF.aH a<0))) b_ (by rw[aJ o_]),.cE f209 71 6 0 k_,.cE f209 78 6 0 k_,(mN ht (eQ _ rfl) o_).at 81,.rw 82 (.bool (decide (OF.aH (t-lo)>0))) a_ (by rw[bd hc]),.cE f209 93 6 0 k_,.cE f209 99 6 0 k_]) (λ_=>k_)
    ·dsimp only;by_cases hc:OF.aH (t-lo)>0
     ·rw[aB hc];exact oL mixed func209 100 (N:=116) k_ (λ_=>[.cE f209 12 6 0 k_,d1.at 15,.cE f209 21 6 0 k_,d2.at 24,sb.at 25,dv.at 29,oN.at 40,.rw 41 (.bool (decide (OF.aH a>0))) a_ (by rw[bd h]),oN.at 67,.rw 68 (.bool (decide (OF.aH a<0))) b_ (by rw[aJ o_]),.cE f209 71 6 0 k_,.cE f209 78 6 0 k_,(mN ht (eQ _ rfl) o_).at 81,.rw 82 (.bool (decide (OF.aH (t-lo)>0))) b_ (by rw[aJ hc]),.cE f209 88 6 0 k_,.cE f209 90 6 0 k_,.cE f209 93 6 0 k_,.cE f209 99 6 0 k_,.cE f209 106 6 0 k_,.cE f209 110 6 0 k_,(mN ht (iN _ rfl) o_).at 113]) (λ_=>k_)
     ·rw[az hc];exact oL mixed func209 100 (N:=116) k_ (λ_=>[.cE f209 12 6 0 k_,d1.at 15,.cE f209 21 6 0 k_,d2.at 24,sb.at 25,dv.at 29,oN.at 40,.rw 41 (.bool (decide (OF.aH a>0))) a_ (by rw[bd h]),oN.at 67,.rw 68 (.bool (decide (OF.aH a<0))) b_ (by rw[aJ o_]),.cE f209 71 6 0 k_,.cE f209 78 6 0 k_,(mN ht (eQ _ rfl) o_).at 81,.rw 82 (.bool (decide (OF.aH (t-lo)>0))) a_ (by rw[bd hc]),.cE f209 93 6 0 k_,.cE f209 99 6 0 k_,.cE f209 106 6 0 k_,.cE f209 110 6 0 k_,(mN (eQ _ rfl) (iN _ rfl) o_).at 113]) (λ_=>k_)
end
def Gs(P:j_)(f:FuncId)(l:List aP)(ty:TypeId)(size n:Nat)(xs:ak)(u:i_):Prop:=
 ∀ w vs,wD w l vs->Calls P f vs.toArray w λe w'=>∃ v,e=.returned (.tuple #[v,u])/\w'.ownsRow w.heap.size ty size v n xs/\Below w.heap.size w w'
section
variable{P:j_}{B:aa}{N:Nat}
theorem aCM(iO:P.follows .mixedOrders=true)(hf:P.funcs[f]?=some fn)(hl:(l.all aP.ok)=true)(n:Nat){N:Nat}(hN:N=(e6 0 l).length+(fn.ntmps-(e6 0 l).length))
  (rs:∀ w,bM P (aa.at w) N) (h:∀ w,oX (hJ (P:=P) fn n (e6 0 l) (jB 0 l) (jQ 0 l) (rs w)) [(k,.row xs ty size)]=oY (hJ fn n (e6 0 l) (jB 0 l) (jQ 0 l) (rs w)) (.tuple #[.slice (some ⟨k,0,some 7⟩) m 0,u]) [(k,.row xs ty size)])
  (hx:(xs.all flat)=true) (hlen:xs.length=m*size) (hu:flat u=true):Gs P f l ty size m xs u:=by
 intro w vs cC;obtain⟨ι,c,h1,h2,h3,h4,h5,h6,h7⟩:=x8 cC (bB.1 hl) 0 _ _ (ub w) n_ (λ_ _=>rfl);refine u9 iO hf hN n (h w) h6 h2 h4 h3 λaA ct v' w' hle hc hm dP=>?_;obtain⟨cV,rfl,ht⟩:=hc.uR;have ht:bY (aL aA) [.slice (some ⟨k,0,some 7⟩) m 0,u] cV.toList:=ht;cases aU:cV.toList with
 |nil=>rw[aU]at ht;cases ht
 |cons a t=>
  rw[aU]at ht;cases ht with
  |cons q1 q2=>
   cases q2 with
   |cons q3 q4=>
    cases q4;refine⟨a,?_,?_,hm.base⟩
    ·rw[q3.fD hu]at aU
     congr 2
     apply EW;rw[aU]
    ·have:=xm hm (dP (k,_) (aR ..)) q1 o_ (bB.1 hx);rwa[<-hlen,n9]at this
theorem P3{n:Nat}{vs:ak}{nd:q_}{x:m_}(h:Gs P f l ty size n xs u)(hs:gA B l vs nd)(ho:dF o.op=some x)(fe:gg P f=true)(hx:(xs.all flat)=true)(hu:flat u=true)(k:Nat):
  cI P B o (.func (.func f) #[] #[]::vs) ((k,none)::nd) (.tuple #[.slice (some ⟨k,0,some 7⟩) n 0,u]) [(k,.row xs ty size)]:=by
 have:=jY (P:=P) (B:=B) (o:=o) (x:=x) (f:=f) (fi:=[]) (args:=vs) (ca:=[]) (need:=(k,none)::nd) (val:=.tuple #[.slice (some ⟨k,0,some 7⟩) n 0,u]) (cZ:=[(k,.row xs ty size)]) ho fe ?_
 ·simpa using this
 ·intro ι c w hm hn args' ha;rw[ju,jO]at ha;refine(h w args' (Ch hs hm (λp hp=>hn p (bI _ hp)) ha)).mono ?_
  rintro e w' ⟨v,rfl,h1,h2⟩
  obtain⟨aA,q1,q2,q3⟩:=Fi hm h2 (k:=k) (hn (k,none) (aR ..)) h1 (bB.1 hx);exact⟨aA,_,rfl,q1,.tup (.cons q3 (.cons (.same hu) .nil)),q2⟩
end
section
open V3 (dot af bA smul)
def eH(p q:HS K):V3 K:=af p.n q.n
def wK(p q:HS K):V3 K:=smul (smul (af q.n (eH p q)) p.d+smul (af (eH p q) p.n) q.d) (kI 1*(dot (eH p q) (eH p q))⁻¹)
def oO(s:fm K)(b d:V3 K):List (HS K)->fm K
 |[]=>s
 |p::l=>oO (rX s (dot p.n d) (p.d-dot p.n b)) b d l
def wL(s:fm K)(b d:V3 K):List (HS K)->Bool
 |[]=>true
 |p::l=>tB s (dot p.n d) (p.d-dot p.n b)&&wL (rX s (dot p.n d) (p.d-dot p.n b)) b d l
theorem aCN{b d:V3 K}{p:HS K}:∀(l:List (HS K)) (s:fm K),oO s b d (l++[p])=rX (oO s b d l) (dot p.n d) (p.d-dot p.n b)
 |[],s=>rfl
 |q::l,s=>aCN l _
def LI(ps:List (HS K))(p q:HS K):fm K:=oO ⟨none,none⟩ (wK p q) (eH p q) ps
def Gt(ps:List (HS K))(p q:HS K):Option (V3 K×V3 K):=
 if eH p q=0 then none
 else if wL ⟨none,none⟩ (wK p q) (eH p q) ps then(match (LI ps p q).lo,(LI ps p q).hi with
  |some l,some h=>some (wK p q+smul (eH p q) l,wK p q+smul (eH p q) h)
  |_,_=>none)
 else none
theorem VV{q:HS K}(hp:bP m p)(hq:bP m q):aF (4*m+9) (eH p q):=(hp.1.af hq.1).mono o_
theorem aCO{q:HS K}(hp:bP m p)(hq:bP m q)(h:eH p q≠0)(hd:dot (eH p q) (eH p q)≠0):aF (300*m+1000) (wK p q):=by have hc:=VV hp hq;have h1:=(hq.1.af hc).smul hp.2;have h2:=(hc.af hp.1).smul hq.2;have h3:=Sz.div (m:=1) hd (pr (z:=1) d_ d_) (hc.dot hc);exact((h1.add h2).smul h3).mono o_
theorem aMQ{s:fm K}{a b:K}{z C:Nat}(eQ:ob z s.lo)(iN:ob z s.hi)(ha:Sz A a)(hb:Sz C b)(hz:C+7*A+28<=z):ob z (rX s a b).lo/\ob z (rX s a b).hi:=by
 unfold rX;by_cases h0:OF.aH a=0
 ·rw[aB h0];exact⟨eQ,iN⟩
 ·rw[az h0];have nT:a≠0:=λe=>h0 ((OF.fH a).2 e);have ht:Sz z (b*a⁻¹):=(Sz.div nT hb ha).mono hz;have P4:ob z (some (b*a⁻¹)):=λy e=>by injection e with e;subst e;exact ht
  obtain⟨lo,hi⟩:=s;dsimp only at eQ iN ⊢;split
  ·split
   ·split
    ·exact⟨eQ,P4⟩
    ·exact⟨eQ,iN⟩
   ·exact⟨eQ,P4⟩
  ·split
   ·split
    ·exact⟨P4,iN⟩
    ·exact⟨eQ,iN⟩
   ·exact⟨P4,iN⟩
theorem P5{b d:V3 K}{m q z:Nat}(hb:aF q b)(hd:aF q d)(hz:m+(3*(m+q)+14)+1+7*(3*(m+q)+14)+28<=z):∀(l:List (HS K)) (s:fm K),(∀ p∈l,bP m p)->ob z s.lo->ob z s.hi->ob z (oO s b d l).lo/\ob z (oO s b d l).hi
 |[],s,_,h1,h2=>⟨h1,h2⟩
 |p::l,s,hl,h1,h2=>by have hp:=hl p (aR ..);obtain⟨q1,q2⟩:=aMQ h1 h2 (hp.1.dot hd) (hp.2.sub (hp.1.dot hb)) hz;exact P5 hb hd hz l _ (λr hr=>hl r (bI _ hr)) q1 q2
theorem aMR{s:fm K}{b d:V3 K}{t:K}{z:Nat}(hb:aF q b)(hd:aF q d)(ht:Sz z t)(hn:10*q+10*z+100<=aE):
  yi prog 210 20 ([bX t]++[bN 7,bN 3]) [(6,.aK (rW s b d) 191),(7,.aK [bN 6] 189),(3,.aK (cH d).cs 38)] [] (bE (b+smul d t)) [(6,.aK (rW s b d) 191),(7,.aK [bN 6] 189),(3,.aK (cH d).cs 38)]:=by
 have h1:=vE hd ht o_;have h2:=Cq hb (hd.smul ht) o_;obtain⟨lo,hi⟩:=s;cases lo<;>cases hi<;>exact oL mixed func210 100 (N:=13) k_ (λ_=>[.cE f210 6 6 0 k_,h1.at 11,h2.at 12]) (λ_=>k_)
theorem aCP(x:Option K):∀ v∈VU x,flat v=true:=by
 cases x with
 |none=>exact RN.nY zN
 |some y=>exact RN.nY _
theorem P6(s:fm K)(b d:V3 K):∀ v∈rW s b d,flat v=true:=λv hv=>by
 simp only[rW,eX,cD]at hv;rcases hv with h|h|rfl|rfl|h|h
 ·exact aCP _ v h
 ·exact aCP _ v h
 ·rfl
 ·rfl
 ·exact RV.nY _ v h
 ·exact RV.nY _ v h
theorem yk{x:Obj}(h:∀ v∈x.cells,flat v=true):mO m (k,x)=true:=bB.2 λv hv=>iH (h v hv)
section
variable{Bs:aa}{ps:List (HS K)}
theorem VW{b d:V3 K}:∀(l:List (HS K)) (s:fm K),wL s b d l=true↔∀(i:Nat) (p:HS K),l[i]?=some p->tB (oO s b d (l.take i)) (dot p.n d) (p.d-dot p.n b)=true
 |[],s=>by simp[wL]
 |q::l,s=>by
  unfold wL;rw[de,VW l];constructor
  ·rintro⟨h1,h2⟩ i p hp
   cases i with
   |zero=>simp at hp;subst hp;exact h1
   |succ i=>exact h2 i p (by simpa using hp)
  ·intro h;exact⟨h 0 q rfl,λi p hp=>h (i+1) p (by simpa using hp)⟩
def eI(n i:Nat):aT:=[(54,vI i),(52,sl 0 n),(53,vI n),(0,sl 0 n),(12,bN 7),(8,bN 3)]
def eJ(ps:List (HS K))(s:fm K)(b d:V3 K):aM:=[(0,.view (bf ps)),(6,.aK (rW s b d) 191),(7,.aK [bN 6] 189)]
theorem aMS{s:fm K}{b d:V3 K}:∀ x∈eJ ps s b d,fE 8 x.2:=λx hx=>by
 simp only[eJ,cD,jE,jF]at hx;rcases hx with rfl|rfl|rfl
 ·exact λv hv=>iH (bB.1 (dx ps) v hv)
 ·exact λv hv=>iH (P6 _ _ _ v hv)
 ·exact Af (p:=(7,.aK [bN 6] 189)) k_
theorem aMT{s:fm K}{b d:V3 K}{z:Nat}(hp:bP m p)(hb:aF q b)(hd:aF q d)(eQ:ob z s.lo)(iN:ob z s.hi)(hn:1000*(m+q)+100*z+10000<=aE){x:m_}(ho:dF o.op=some x):
  cI prog Bs o [.func (.func 209) #[] #[],bN 6,dJ p] [(6,some (.aK (rW s b d) 191))] (.bool (tB s (dot p.n d) (p.d-dot p.n b))) [(6,.aK (rW (rX s (dot p.n d) (p.d-dot p.n b)) b d) 191)]:=
 LC (K:=20) (args:=[bN 6,dJ p]) (ca:=[]) (Os:=[(6,.aK (rW s b d) 191)]) (Vs:=[]) (aMP hp hb hd eQ iN hn) ho k_ k_ k_ (by simp only[jO,eC,e7,iA];rw[yk (x:=.aK (rW s b d) 191) (P6 _ _ _)];rfl)
  (by simp only[eC,e7,iA];exact yk (x:=.aK (rW (rX s (dot p.n d) (p.d-dot p.n b)) b d) 191) (P6 _ _ _)) rfl rfl rfl rfl
noncomputable def eS{s:fm K}{b d:V3 K}{z:Nat}(hi:i<ps.length)(jn:ps[i]?=some p)(hp:bP m p)(hb:aF q b)(hd:aF q d)(eQ:ob z s.lo)(iN:ob z s.hi)(hn:1000*(m+q)+100*z+10000<=aE)(ht:tB s (dot p.n d) (p.d-dot p.n b)=t)(more:bM prog Bs 89):bM prog Bs 89:=
 .lt 55 i ps.length true (aJ hi)::.c8 f182 56 0 ps.length i 40 hi k_::.ld f182 57 50 0 (i*40) (.view (bf ps)) (dJ p) rfl (Av jn) k_::
  .step 60 (au f182 60) _ _ (.bool t) _ (ht▸aMT (x:=.func 209) hp hb hd eQ iN hn k_)::more
theorem aMU{s:fm K}{b d:V3 K}{z:Nat}(hi:i<ps.length)(jn:ps[i]?=some p)(hp:bP m p)(hb:aF q b)(hd:aF q d)(eQ:ob z s.lo)(iN:ob z s.hi)(hn:1000*(m+q)+100*z+10000<=aE)(h63:ps.length<9223372036854775807)
  (ht:tB s (dot p.n d) (p.d-dot p.n b)=true):ah prog Bs 89 (aI (ag f182 0)) (eI ps.length i) (eJ ps s b d) 8 ⟨.normal,eI ps.length (i+1),eJ ps (rX s (dot p.n d) (p.d-dot p.n b)) b d,8⟩:=
 ua mixed 100 (gN:=9) (eS hi jn hp hb hd eQ iN hn ht [.sum 62 i 1 (i+1) rfl o_]) k_ rfl k_ aMS k_
theorem aMV{s:fm K}{b d:V3 K}{z:Nat}(hi:i<ps.length)(jn:ps[i]?=some p)(hp:bP m p)(hb:aF q b)(hd:aF q d)(eQ:ob z s.lo)(iN:ob z s.hi)(hn:1000*(m+q)+100*z+10000<=aE)
  (ht:tB s (dot p.n d) (p.d-dot p.n b)=false):ah prog Bs 89 (aI (ag f182 0)) (eI ps.length i) (eJ ps s b d) 8 ⟨.ret,[(6,.slice none 0 0),(7,.bool false)],eJ ps (rX s (dot p.n d) (p.d-dot p.n b)) b d,9⟩:=
 aD (eS hi jn hp hb hd eQ iN hn ht [])
theorem aMW{s:fm K}{b d:V3 K}:ah prog Bs 89 (aI (ag f182 0)) (eI ps.length ps.length) (eJ ps s b d) 8 ⟨.exit 0,[(12,bN 7),(8,bN 3)],eJ ps s b d,8⟩:=
 aD [.lt 55 ps.length ps.length false s_]
theorem aCQ{b d:V3 K}(s s':fm K)(k:Nat):ai (eJ ps s b d) k=none↔ai (eJ ps s' b d) k=none:=wC (L':=eJ ps s b d) (L:=eJ ps s' b d) rfl k
theorem aMX{b d:V3 K}{z:Nat}(cq:∀ p∈ps,bP m p)(hb:aF q b)(hd:aF q d)(hz:m+(3*(m+q)+14)+1+7*(3*(m+q)+14)+28<=z)(hn:1000*(m+q)+100*z+10000<=aE)(h63:ps.length<9223372036854775807):
  (wL ⟨none,none⟩ b d ps=true->ah prog Bs 89 (.block 0 (ag f182 0)) (eI ps.length 0) (eJ ps ⟨none,none⟩ b d) 8 ⟨.normal,[(12,bN 7),(8,bN 3)],eJ ps (oO ⟨none,none⟩ b d ps) b d,8⟩)/\
  (wL ⟨none,none⟩ b d ps=false->∃ s,ah prog Bs 89 (.block 0 (ag f182 0)) (eI ps.length 0) (eJ ps ⟨none,none⟩ b d) 8 ⟨.ret,[(6,.slice none 0 0),(7,.bool false)],eJ ps s b d,9⟩):=by
 have P7:∀ i,ob z (oO ⟨none,none⟩ b d (ps.take i)).lo/\ob z (oO ⟨none,none⟩ b d (ps.take i)).hi:=λi=>P5 hb hd hz (ps.take i) _ (λp hp=>cq p (IM hp)) n_ n_;have tk:∀{i:Nat} {p:HS K},ps[i]?=some p->ps.take (i+1)=ps.take i++[p]:=λh=>by rw[tA,h];rfl
 let LJ:Nat->Bool:=λi=>match ps[i]? with|some p=>tB (oO ⟨none,none⟩ b d (ps.take i)) (dot p.n d) (p.d-dot p.n b)|none=>true
 have P8:∀{i:Nat} {p:HS K},ps[i]?=some p->LJ i=tB (oO ⟨none,none⟩ b d (ps.take i)) (dot p.n d) (p.d-dot p.n b):=λh=>by simp only[LJ,h]
 have qR:∀ e,e<=ps.length->(∀ i,i<e->LJ i=true)->∀ i,i<e->
   ah prog Bs 89 (aI (ag f182 0)) (eI ps.length i) (eJ ps (oO ⟨none,none⟩ b d (ps.take i)) b d) 8 ⟨.normal,eI ps.length (i+1),eJ ps (oO ⟨none,none⟩ b d (ps.take (i+1))) b d,8⟩:=λe he aC i hi=>by
  have al:i<ps.length:=by omega
  have hp:ps[i]?=some ps[i]:=aW al;have h:=aC i hi;rw[P8 hp]at h;rw[tk hp,aCN];exact aMU al hp (cq _ (df al)) hb hd (P7 i).1 (P7 i).2 hn h63 h
 refine⟨λbh=>?_,λfU=>?_⟩
 ·have aC:∀ i,i<ps.length->LJ i=true:=λi hi=>by have hp:ps[i]?=some ps[i]:=aW hi;rw[P8 hp];exact(VW ps _).1 bh i _ hp
  have:=cx (P:=prog) (B:=Bs) (N:=89) ps.length (λi=>eI ps.length i) (λi=>eJ ps (oO ⟨none,none⟩ b d (ps.take i)) b d) (λi k _=>aCQ _ _ k) (qR ps.length (bF _) aC) aMW n_;rw[n9]at this;exact cd (id:=0) this
 ·rcases Gq (λi=>!LJ i) (List.range ps.length)with C4|⟨e,y,h1,h2,h3⟩
  ·exfalso;have:wL ⟨none,none⟩ b d ps=true:=(VW ps _).2 λi p hp=>by have al:=(dZ.1 hp).1;have:=C4 i (ki.2 al);rw[P8 hp]at this;simpa using this
   rw[this]at fU;cases fU
  ·have al:e<ps.length:=by have:=(dZ.1 h1).1;rwa[zx]at this
   have hy:y=e:=by rw[LH al]at h1;injection h1 with h1;exact h1.symm
   subst hy;have hp:ps[y]?=some ps[y]:=aW al;rw[P8 hp]at h2
   have:=cx (P:=prog) (B:=Bs) (N:=89) y (λi=>eI ps.length i) (λi=>eJ ps (oO ⟨none,none⟩ b d (ps.take i)) b d) (λi k _=>aCQ _ _ k)
    (qR y o_ λi hi=>by have:=h3 i i hi (LH o_);simpa using this) (aMV al hp (cq _ (df al)) hb hd (P7 y).1 (P7 y).2 hn (by simpa using h2)) n_
   exact⟨_,cd (id:=0) this⟩
end
theorem aCR{s:fm K}{b d:V3 K}{t:K}{z:Nat}(hb:aF q b)(hd:aF q d)(ht:Sz z t)(hn:10*q+10*z+100<=aE){x:m_}(ho:dF o.op=some x):
  cI prog Bs o [.func (.func 210) #[] #[bN 7,bN 3],bX t] [(6,some (.aK (rW s b d) 191)),(7,some (.aK [bN 6] 189)),(3,some (.aK (cH d).cs 38))] (bE (b+smul d t)) []:=by
 have l6:mO 20 (6,.aK (rW s b d) 191)=true:=yk (x:=.aK (rW s b d) 191) (P6 _ _ _);have l7:mO 20 (7,.aK [bN 6] 189)=true:=k_;have l3:mO 20 (3,.aK (cH d).cs 38)=true:=k_
 exact aMt (K:=20) (args:=[bX t]) (ca:=[bN 7,bN 3]) (Os:=[(6,.aK (rW s b d) 191),(7,.aK [bN 6] 189),(3,.aK (cH d).cs 38)]) (Vs:=[]) (aMR hb hd ht hn) ho k_ k_ k_
  (by simp only[jO,eC,e7,iA,l6,l7,l3];rfl) (by simp only[eC,e7,iA,l6,l7,l3]) rfl rfl
set_option maxRecDepth 8000 in
theorem aMY{q:HS K}(cq:∀ p∈ps,bP m p)(hp:bP m p)(hq:bP m q)(hm:10000000*(m+10)<=aE)(h63:ps.length<9223372036854775807)(mh:eH p q≠0->dot (eH p q) (eH p q)≠0):
  match Gt ps p q with
  |some (u,v)=>Gs prog 182 [fV ps,.p (dJ p),.p (dJ q)] 38 30 2 (aN [u,v]) b_
  |none=>cy prog 182 [fV ps,.p (dJ p),.p (dJ q)] (.tuple #[.slice none 0 0,.bool false]):=by
 have aC:([fV ps,.p (dJ p),.p (dJ q)].all aP.ok)=true:=by simp only[eC,e7,fV,aP.ok,dx,iA,kS];rfl
 have c1:aG prog 95 [bE p.n,bE q.n] (bE (eH p q)):=tu hp.1 hq.1 o_;have hD:=VV hp hq;have z1:=Ar hD o_;unfold Gt;by_cases h0:eH p q=0
 ·rw[aB h0];rw[aJ h0]at z1;exact dj func182 aC 89 (λ_=>[c1.at 20,z1.at 22])
 ·rw[az h0];rw[bd h0]at z1;have kN:=mh h0;obtain⟨r,hr⟩:∃ r,r=300*m+1000:=⟨_,rfl⟩;obtain⟨z,hz⟩:∃ z,z=30*(m+r)+500:=⟨_,rfl⟩;have hB:aF r (wK p q):=hr▸aCO hp hq h0 kN;have Gu:aF r (eH p q):=hD.mono o_;have c2:=tu hq.1 hD o_;have s2:=vE (hq.1.af hD) hp.2 o_;have c3:=tu hD hp.1 o_;have s3:=vE (hD.af hp.1) hq.2 o_;have a1:=Cq ((hq.1.af hD).smul hp.2) ((hD.af hp.1).smul hq.2) o_;have o1:=rO (z:=1) d_;have dd:=qP hD hD o_;have one:Sz 1 (kI 1):=pr d_ d_;have hDD:=hD.dot hD;have dv:=IB kN one hDD o_;have pQ:=Sz.div kN one hDD;have s4:=vE (((hq.1.af hD).smul hp.2).add ((hD.af hp.1).smul hq.2)) pQ o_;have lo:=λBs=>aMX (Bs:=Bs) (ps:=ps) (m:=m) (q:=r) (z:=z) cq hB Gu o_ o_ h63;have zs:=P5 (m:=m) (q:=r) (z:=z) hB Gu o_ ps ⟨none,none⟩ cq n_ n_;unfold LI;have e1:smul (smul (af q.n (eH p q)) p.d+smul (af (eH p q) p.n) q.d) (kI 1*(dot (eH p q) (eH p q))⁻¹)=wK p q:=rfl;rw[e1]at s4;generalize wK p q=eb at *;generalize eH p q=ed at *;by_cases hs:wL ⟨none,none⟩ eb ed ps=true
  ·rw[aB hs];have C7:=λBs=>(lo Bs).1 hs;clear lo;obtain⟨zl,zh⟩:=zs;generalize oO ⟨none,none⟩ eb ed ps=sg at *;obtain⟨l,h⟩:=sg;rcases l with _|l
   ·cases h<;>exact dj func182 aC 89 (λw=>[c1.at 20,z1.at 22,c2.at 26,s2.at 29,c3.at 33,s3.at 36,a1.at 37,o1.at 39,dd.at 42,dv.at 43,s4.at 48,.code 0 _ _ _ _ _ (C7 _),.cE f182 64 6 0 k_])
   ·rcases h with _|h
    ·exact dj func182 aC 89 (λw=>[c1.at 20,z1.at 22,c2.at 26,s2.at 29,c3.at 33,s3.at 36,a1.at 37,o1.at 39,dd.at 42,dv.at 43,s4.at 48,.code 0 _ _ _ _ _ (C7 _),.cE f182 64 6 0 k_,.cE f182 70 6 0 k_])
    ·exact aCM (k:=8) mixed func182 aC 100 (N:=89) k_ (λw=>[c1.at 20,z1.at 22,c2.at 26,s2.at 29,c3.at 33,s3.at 36,a1.at 37,o1.at 39,dd.at 42,dv.at 43,s4.at 48,.code 0 _ _ _ _ _ (C7 _),.cE f182 64 6 0 k_,.cE f182 70 6 0 k_,.cE f182 78 6 0 k_,.step 81 (au f182 81) _ _ _ _ (aCR (s:=⟨some l,some h⟩) (x:=.tmp 76) hB Gu (zl l rfl) o_ k_),.cE f182 84 6 0 k_,.step 87 (au f182 87) _ _ _ _ (aCR (s:=⟨some l,some h⟩) (x:=.tmp 82) hB Gu (zh h rfl) o_ k_),.bs f182 88 8 2 38 30 [0,1] zV.v [bE (eb+smul ed l),bE (eb+smul ed h)] (aN [eb+smul ed l,eb+smul ed h]).toArray (.row (aN [eb+smul ed l,eb+smul ed h]) 38 30) rfl (bB.1 k_) (bB.1 (dC _)) k_ k_ d_ d_ k_]) (λ_=>k_) (dC _) k_ k_
  ·rw[az hs];have C7:=λBs=>(lo Bs).2 (by simpa using hs);exact dj func182 aC 89 (λw=>[c1.at 20,z1.at 22,c2.at 26,s2.at 29,c3.at 33,s3.at 36,a1.at 37,o1.at 39,dd.at 42,dv.at 43,s4.at 48,.code 0 _ _ _ _ _ (C7 _).choose_spec])
def iB(p q:Int):K:=(Fr.mk p 0 0 0 q).val
theorem P9{p q:Int}(hq:q≠0):bX (iB p q)=iz (Fr.mk p 0 0 0 q).low:=by show(tf (bW (Fr.mk p 0 0 0 q).val)).v=(tf _).v;rw[FT (x:=Fr.mk p 0 0 0 q) hq]
theorem D7{p q:Int}{n:Nat}(hq:q≠0)(h1:p.natAbs<2^n)(h2:q.natAbs<2^n):Sz n (iB p q):=by unfold Sz iB;rw[FT (x:=Fr.mk p 0 0 0 q) hq];have hp:0<2^n:=cO d_;exact dU.low ⟨h1,hp,hp,hp,h2⟩ hq
def Cv(l:List (V3 K)):V3 K:=l.foldl (·+·) ⟨kI 0,kI 0,kI 0⟩
def Cw(l:List (V3 K)):V3 K:=smul (Cv l) (iB 1 l.length)
theorem aMZ(l:List (V3 K))(v:V3 K):Cv (l++[v])=Cv l+v:=by unfold Cv;rw[aCS];rfl
theorem aCT(l:List (V3 K))(hl:∀ v∈l,aF m v):aF (1+l.length*(m+1)) (Cv l):=by
 have key:∀(l:List (V3 K)) (u:V3 K) (n:Nat),(∀ v∈l,aF m v)->aF n u->aF (n+l.length*(m+1)) (l.foldl (·+·) u):=by
  intro l;induction l with
  |nil=>intro u n _ h;exact h.mono o_
  |cons v l ih=>
   intro u n hl h;have:=ih (u+v) (n+m+1) (λx hx=>hl x (bI _ hx)) (h.add (hl v (aR ..)));refine this.mono ?_;rw[qm,rI];omega
 exact key l _ 1 hl Cr
def yn(ps:List (HS K))(vs:List (V3 K)):Bool:=!decide (vs.length=0)&&!ps.any λp=>decide (OF.aH (dot p.n (Cw vs)-p.d)>=0)
section
variable{Bs:aa}{ps:List (HS K)}{vs:List (V3 K)}
def LK(n i:Nat):aT:=[(17,vI i),(15,sl 1 n),(16,vI n),(5,bN 2)]
def uC(vs:List (V3 K))(s:V3 K):aM:=[(1,.view (aN vs)),(2,.aK (cH s).cs 38)]
theorem aM0{s:V3 K}:∀ x∈uC vs s,fE 3 x.2:=λx hx=>by
 simp only[uC,cD,jE,jF]at hx;rcases hx with rfl|rfl
 ·exact λv hv=>iH (bB.1 (dC vs) v hv)
 ·exact λv hv=>iH (RV.nY _ v hv)
theorem aM1{v s:V3 K}{n:Nat}(hi:i<vs.length)(hv:vs[i]?=some v)(hs:aF n s)(hm:aF m v)(cQ:m+n<aE)(h63:vs.length<9223372036854775807):
  ah prog Bs 38 (aI (ag f144 0)) (LK vs.length i) (uC vs s) 3 ⟨.normal,LK vs.length (i+1),uC vs (s+v),3⟩:=
 ua mixed 100 (gN:=4) [.lt 18 i vs.length true (aJ hi),.c8 f144 19 1 vs.length i 30 hi k_,.ld f144 20 38 1 (i*30) (.view (aN vs)) (bE v) rfl (ke hv) k_,(Cq hs hm o_).at 23,.sum 24 i 1 (i+1) rfl o_] k_ rfl k_ aM0 k_
theorem aM2{s:V3 K}:ah prog Bs 38 (aI (ag f144 0)) (LK vs.length vs.length) (uC vs s) 3 ⟨.exit 0,[(5,bN 2)],uC vs s,3⟩:=
 aD [.lt 18 vs.length vs.length false s_]
theorem aM3(s s':V3 K)(k:Nat):ai (uC vs s) k=none↔ai (uC vs s') k=none:=wC (L':=uC vs s) (L:=uC vs s') rfl k
theorem aM4(aU:∀ v∈vs,aF m v)(hm:m+(1+vs.length*(m+1))<aE)(h63:vs.length<9223372036854775807):
  ah prog Bs 38 (.block 0 (ag f144 0)) (LK vs.length 0) (uC vs ⟨kI 0,kI 0,kI 0⟩) 3 ⟨.normal,[(5,bN 2)],uC vs (Cv vs),3⟩:=by
 have:=cx (P:=prog) (B:=Bs) (N:=38) vs.length (λi=>LK vs.length i) (λi=>uC vs (Cv (vs.take i))) (λi k _=>aM3 _ _ k) (λi hi=>by have hv:vs[i]?=some vs[i]:=aW hi;have hs:=aCT (m:=m) (vs.take i) λv hv=>aU v (IM hv);have hle:(vs.take i).length*(m+1)<=vs.length*(m+1):=eE _ (by rw[jK];omega);rw[tA,hv];show ah _ _ _ _ _ _ _ ⟨_,_,uC vs (Cv (vs.take i++[vs[i]])),_⟩;rw[aMZ];exact aM1 hi hv hs (aU _ (df hi)) o_ h63) (by rw[n9];exact aM2) n_
 exact cd (id:=0) this
theorem aM5(cq:∀ p∈ps,bP m p/\p.n≠0)(aU:∀ v∈vs,aF q v)(hm:100*(m+vs.length*(q+1))+10000<=aE)(h63:vs.length<2^40)(aM6:ps.length<9223372036854775807):cy prog 144 [fV ps,oM vs] (.bool (yn ps vs)):=by
 have aC:([fV ps,oM vs].all aP.ok)=true:=by simp only[eC,e7,fV,oM,aP.ok,dx,dC,iA]
 unfold yn;by_cases h0:vs.length=0
 ·rw[aJ h0];exact dj func144 aC 38 (λw=>[.gO 13 vs.length 0 true (by simp[h0])])
 ·rw[bd h0];have BV:q+1<=vs.length*(q+1):=VX _ o_;have lo:=λBs=>aM4 (Bs:=Bs) aU o_ o_;have bw:(vs.length:Int)≠0:=by omega
  have rt:=UI (p:=1) (q:=(vs.length:Int)) (n:=40) bw d_ (by simpa using h63) d_;rw[<-P9 bw]at rt;have hr:=D7 (p:=1) (q:=(vs.length:Int)) (n:=40) bw d_ (by simpa using h63);have hs:=aCT vs aU;have sc:=vE hs hr o_;have D8:aF (1+vs.length*(q+1)+40+4) (Cw vs):=hs.smul hr;have hc:=VQ (g:=186) (caps:=(cH (Cw vs)).cs) (ps:=ps) (b:=λp=>decide (OF.aH (dot p.n (Cw vs)-p.d)>=0)) k_ (bB.2 (RV.nY _)) aM6 λp hp=>aMC (cq p hp).1 D8 o_ (cq p hp).2;have e:smul (Cv vs) (iB 1 (vs.length:Int))=Cw vs:=rfl;rw[e]at sc;generalize (ps.any λp=>decide (OF.aH (dot p.n (Cw vs)-p.d)>=0))=t at *;generalize Cw vs=mv at *;exact dj func144 aC 38 (λw=>[.gO 13 vs.length 0 false (by simp[h0]),(vD (a:=0) (b:=0) (c:=0) d_ d_ d_).at 14,.code 0 _ _ _ _ _ (lo _),rt.at 28,sc.at 33,.step 36 (au f144 36) [.func (.func 139) #[] #[],sl 0 ps.length,.func (.func 186) #[] #[bN 4]] [(0,some (.view (bf ps))),(4,some (.aK (cH mv).cs 38))] (.bool t) []
   (dD hc (.w (x:=.view (bf ps)) rfl (dx ps) jG (.f (x:=.aK (cH mv).cs 38) rfl (bB.2 (RV.nY _)) .nil)) (x:=.func 139) k_ k_ rfl)])
end
def rY(ps:List (HS K))(p q:HS K):List (V3 K):=match Gt ps p q with|some (u,v)=>[u,v]|none=>[]
def lR(ps:List (HS K))(p:HS K)(l:List (HS K)):List (V3 K):=l.flatMap (rY ps p)
theorem aM7{q:HS K}(l:List (HS K)):lR ps p (l++[q])=lR ps p l++rY ps p q:=by unfold lR;rw[VK];simp
theorem aM8(ps:List (HS K))(p q:HS K):(rY ps p q).length<=2:=by
 unfold rY;split
 ·exact bF _
 ·exact lG _
theorem VY(ps:List (HS K))(p:HS K):∀ l:List (HS K),(lR ps p l).length<=2*l.length
 |[]=>lG _
 |q::l=>by have h1:=VY ps p l;have h2:=aM8 ps p q;show(rY ps p q++lR ps p l).length<=_;rw[lF,qm];omega
theorem pY(l:List (V3 K)):(aN l).length=l.length*30:=by unfold aN;rw[uy gm,dQ]
theorem LL(l m:List (V3 K)):aN l++aN m=aN (l++m):=by unfold aN cU;rw[sF,LF]
theorem LM(l:List (V3 K)):∀ v∈aN l,v.oneCell'=true:=λv hv=>by unfold aN cU dB at hv;rw[wI]at hv;obtain⟨x,_,hx⟩:=hv;exact gm.one x v hx
section
variable{Bs:aa}{ps:List (HS K)}
def LN(n i j L:Nat):aT:=[(21,vI j),(19,sl 0 i),(20,vI i),(0,sl 0 n),(5,bN 2),(3,sl 3 L)]
def Ax(ps:List (HS K))(p:HS K):aM:=[(0,.view (bf ps)),(2,.aK (c9 p).cs 50)]
def kK(acc:List (V3 K)):List Obj:=[.row (aN acc) 38 30]
theorem aM9{q:HS K}(hj:j<i)(lQ:i<=ps.length)(hq:ps[j]?=some q)(cq:∀ p∈ps,bP m p)(hp:bP m p)(hm:10000000*(m+10)<=aE)(h63:ps.length<1000)(VZ:acc.length<=1000000)(mh:eH p q≠0->dot (eH p q) (eH p q)≠0):
  ∃ σ gN,(∀ Cx:List (V3 K),Dw (Ax ps p++dT [some 1] (kK Cx)) 3 σ (LN ps.length i (j+1) (acc++rY ps p q).length) (Ax ps p) (kK (acc++rY ps p q))=true)/\
   ah prog Bs 42 (aI (ag f143 2)) (LN ps.length i j acc.length) (Ax ps p++marks 3 (kK acc)) 4 ⟨.normal,gH 3 σ (LN ps.length i (j+1) (acc++rY ps p q).length),Ax ps p++dT σ (kK (acc++rY ps p q)),gN⟩:=by
 have he:=aMY cq hp (cq q (cL hq)) hm o_ mh;unfold rY;cases hk:Gt ps p q with
 |none=>
  rw[hk]at he;dsimp only at he ⊢;rw[jO];refine⟨[some 3],5,λCx=>k_,?_⟩;exact aD [.lt 22 j i true (aJ hj),.c8 f143 23 0 i j 40 hj k_,.ld f143 24 50 0 (j*40) (.view (bf ps)) (dJ q) rfl (Av hq) k_,.step 29 (au f143 29) [.func (.func 182) #[] #[],sl 0 ps.length,dJ p,dJ q] [(0,some (.view (bf ps)))] (.tuple #[.slice none 0 0,.bool false]) []
    (dD he (.w (x:=.view (bf ps)) rfl (dx ps) jG (.p k_ (.p k_ .nil))) (x:=.func 182) k_ k_ k_),.sum 36 j 1 (j+1) rfl o_]
 |some uv=>
  obtain⟨u,v⟩:=uv;rw[hk]at he;dsimp only at he ⊢;have hl:(acc++[u,v]).length=acc.length+2:=by simp
  rw[hl];refine⟨[some 6],7,λCx=>k_,?_⟩;exact aD [.lt 22 j i true (aJ hj),.c8 f143 23 0 i j 40 hj k_,.ld f143 24 50 0 (j*40) (.view (bf ps)) (dJ q) rfl (Av hq) k_,.step 29 (au f143 29) [.func (.func 182) #[] #[],sl 0 ps.length,dJ p,dJ q] [(5,none),(0,some (.view (bf ps)))] (.tuple #[sl 5 2,.bool true]) [(5,.row (aN [u,v]) 38 30)]
    (P3 he (.w (x:=.view (bf ps)) rfl (dx ps) jG (.p k_ (.p k_ .nil))) (x:=.func 182) k_ k_ (dC _) k_ 5),
   .pP f143 35 6 3 acc.length 2 (acc.length+2) 38 30 360 (aN acc) 5 (.row (aN [u,v]) 38 30) (aN (acc++[u,v])) rfl rfl (pY _) (pY _) (LL _ _) (LM _) d_ (by simp[maxLen];omega) o_ k_,
   .sum 36 j 1 (j+1) rfl o_]
theorem aNa:∀ x∈Ax ps p,fE 3 x.2:=λx hx=>by
 simp only[Ax,cD,jE,jF]at hx;rcases hx with rfl|rfl
 ·exact λv hv=>iH (bB.1 (dx ps) v hv)
 ·exact λv hv=>iH (jS.flat _ v hv)
theorem Qa:∀ x∈kK acc,fE m x:=λx hx=>by simp only[kK,cD,jE,jF]at hx;subst hx;exact λv hv=>iH (bB.1 (dC acc) v hv)
theorem aNb(lQ:i<=ps.length)(cq:∀ p∈ps,bP m p)(hp:bP m p)(hm:10000000*(m+10)<=aE)(h63:ps.length<=500)(VZ:acc.length+2*i<=1000000)
  (mh:∀ p q:HS K,eH p q≠0->dot (eH p q) (eH p q)≠0) :
  ah prog Bs 42 (.block 2 (ag f143 2)) (gH 3 [some 1] (LN ps.length i 0 acc.length)) (Ax ps p++dT [some 1] (kK acc)) 3
   ⟨.normal,[(3,sl 3 (acc++lR ps p (ps.take i)).length)],Ax ps p++marks 3 (kK (acc++lR ps p (ps.take i))),4⟩:=by
 have hlen:∀ j,j<=i->(acc++lR ps p (ps.take j)).length<=1000000:=λj hj=>by have:=VY ps p (ps.take j);rw[jK]at this;rw[lF];omega
 have:=qF (P:=prog) (B:=Bs) (N:=42) (b:=aI (ag f143 2)) (next:=3) (p:=1) (r:=⟨.exit 2,[(3,sl 3 (acc++lR ps p (ps.take i)).length)],Ax ps p++marks 3 (kK (acc++lR ps p (ps.take i))),4⟩) i
  (λj=>LN ps.length i j (acc++lR ps p (ps.take j)).length) (λ_=>Ax ps p) (λj=>kK (acc++lR ps p (ps.take j))) [some 1] (λ_ _=>rfl) (λj _=>⟨aNa,Qa⟩) k_ k_
  (λj hj=>by
   have hq:ps[j]?=some ps[j]:=aW o_;have e:acc++lR ps p (ps.take (j+1))=(acc++lR ps p (ps.take j))++rY ps p ps[j]:=by
    rw[tA,hq,E9]
    congr 1
    exact aM7 _
   obtain⟨σ,gN,h1,h2⟩:=aM9 (Bs:=Bs) (acc:=acc++lR ps p (ps.take j)) hj lQ hq cq hp hm o_ (hlen j o_) (mh p ps[j]);rw[e];exact⟨σ,gN,h1 _,h2⟩)
  (by generalize acc++lR ps p (ps.take i)=a;exact aD [.lt 22 i i false s_]) n_
 have e0:acc++lR ps p (ps.take 0)=acc:=by simp[lR]
 rw[e0]at this;exact cd (id:=2) this
def LO(ps:List (HS K))(i:Nat):List (V3 K):=match ps[i]? with|some p=>lR ps p (ps.take i)|none=>[]
def nH(ps:List (HS K))(n:Nat):List (V3 K):=(List.range n).flatMap (LO ps)
theorem Qb(h:ps[i]?=some p):LO ps i=lR ps p (ps.take i):=by unfold LO;rw[h]
theorem aCU(n:Nat):nH ps (n+1)=nH ps n++LO ps n:=by unfold nH;rw[K0,VK];simp
theorem Qc:∀ n,n<=ps.length->(nH ps n).length<=n*(2*ps.length)
 |0,_=>by simp[nH]
 |n+1,h=>by have h1:=Qc n o_;have hp:ps[n]?=some ps[n]:=aW o_;have h2:=VY ps ps[n] (ps.take n);rw[jK]at h2;rw[aCU,Qb hp,lF,rI];omega
def Qd(n i L:Nat):aT:=[(12,vI i),(10,sl 0 n),(11,vI n),(0,sl 0 n),(3,sl 1 L)]
def D9(ps:List (HS K)):aM:=[(0,.view (bf ps))]
theorem aNc:∀ x∈D9 ps,fE m x.2:=λx hx=>by simp only[D9,cD,jE,jF]at hx;subst hx;exact λv hv=>iH (bB.1 (dx ps) v hv)
theorem aNd(hi:i<ps.length)(jn:ps[i]?=some p)(cq:∀ p∈ps,bP m p)(hm:10000000*(m+10)<=aE)(h63:ps.length<=500)(VZ:acc.length+2*i<=1000000)
  (mh:∀ p q:HS K,eH p q≠0->dot (eH p q) (eH p q)≠0) :
  ah prog Bs 42 (aI (ag f143 0)) (Qd ps.length i acc.length) (D9 ps++marks 1 (kK acc)) 2
   ⟨.normal,gH 1 [some 3] (Qd ps.length (i+1) (acc++lR ps p (ps.take i)).length),D9 ps++dT [some 3] (kK (acc++lR ps p (ps.take i))),4⟩:=by
 have lo:=aNb (Bs:=Bs) (acc:=acc) (p:=p) (show i<=ps.length by omega) cq (cq p (cL jn)) hm h63 VZ mh;generalize acc++lR ps p (ps.take i)=a at *;exact aD [.lt 13 i ps.length true (aJ hi),.c8 f143 15 0 ps.length i 40 hi k_,.ld f143 16 50 0 (i*40) (.view (bf ps)) (dJ p) rfl (Av jn) k_,.upto f143 19 0 ps.length i 40 o_ k_,.code 2 _ _ _ _ _ lo,.sum 37 i 1 (i+1) rfl o_]
theorem aNe(cq:∀ p∈ps,bP m p)(hm:10000000*(m+10)<=aE)(h63:ps.length<=500)(mh:∀ p q:HS K,eH p q≠0->dot (eH p q) (eH p q)≠0):
  ah prog Bs 42 (.block 0 (ag f143 0)) (gH 1 [none] (Qd ps.length 0 0)) (D9 ps++dT [none] (kK [])) 1 ⟨.normal,[(3,sl 1 (nH ps ps.length).length)],D9 ps++marks 1 (kK (nH ps ps.length)),2⟩:=by
 have:=qF (P:=prog) (B:=Bs) (N:=42) (b:=aI (ag f143 0)) (next:=1) (p:=1) (r:=⟨.exit 0,[(3,sl 1 (nH ps ps.length).length)],D9 ps++marks 1 (kK (nH ps ps.length)),2⟩) ps.length
  (λi=>Qd ps.length i (nH ps i).length) (λ_=>D9 ps) (λi=>kK (nH ps i)) [none] (λ_ _=>rfl) (λj _=>⟨aNc,Qa⟩) k_ k_
  (λi hi=>by have hp:ps[i]?=some ps[i]:=aW hi;have hl:=Qc i (by omega:i<=ps.length);have jr:i*(2*ps.length)<=500*1000:=xB o_ o_;refine⟨[some 3],4,k_,?_⟩;rw[aCU,Qb hp];exact aNd hi hp cq hm h63 o_ mh)
  (by generalize nH ps ps.length=a;exact aD [.lt 13 ps.length ps.length false s_]) n_
 exact cd (id:=0) this
end
end
section
open Go Go.RowKit
deriving instance DecidableEq for RI
deriving instance DecidableEq for RN
deriving instance DecidableEq for RV
deriving instance DecidableEq for RP
theorem Ea{α:Type}[DecidableEq α]:∀(a b:List α),a.length=b.length->a=b\/∃(e:Nat) (x y:α),a[e]?=some x/\b[e]?=some y/\x≠y/\∀(j:Nat) (u v:α),j<e->a[j]?=some u->b[j]?=some v->u=v
 |[],[],_=>.inl rfl
 |[],_::_,h=>by cases h
 |_::_,[],h=>by cases h
 |x::a,y::b,h=>by
  by_cases kR:x=y
  ·subst kR;rcases Ea a b (by simpa using h)with h|⟨e,u,v,h1,h2,h3,h4⟩
   ·exact .inl (by rw[h])
   ·refine .inr ⟨e+1,u,v,by simpa using h1,by simpa using h2,h3,λj p q hj hp hq=>?_⟩;cases j with
    |zero=>simp at hp hq;rw[<-hp,<-hq]
    |succ j=>exact h4 j p q o_ (by simpa using hp) (by simpa using hq)
  ·exact .inr ⟨0,x,y,rfl,rfl,kR,λj u v hj=>by omega⟩
section
variable{Bs:aa}{a b:List RV}
def Eb(n i:Nat):aT:=[(13,vI i),(11,sl 0 n),(12,vI n),(0,sl 0 n),(1,sl 1 n)]
def wM(a b:List RV):aM:=[(0,.view (cU a)),(1,.view (cU b))]
noncomputable def aCV{n:Nat}{x y:RV}(hi:i<n)(hx:a[i]?=some x)(hy:b[i]?=some y)(oc:x.Sm)(yo:y.Sm)(ht:(!t)=true↔x=y)(more:bM prog Bs 26):bM prog Bs 26:=
 .lt 14 i n true (aJ hi)::.c8 f86 18 0 n i 30 hi k_::.ld f86 19 38 0 (i*30) (.view (cU a)) x.v rfl (tx hx) k_::.c8 f86 22 1 n i 30 hi k_::.ld f86 23 38 1 (i*30) (.view (cU b)) y.v rfl (tx hy) k_::
  .step 24 (au f86 24) [x.v,y.v] [] (.bool t) [] (FY (neg:=false) k_ x y oc yo ht)::more
theorem aCW{n:Nat}{x:RV}(hi:i<n)(hx:a[i]?=some x)(hy:b[i]?=some x)(oc:x.Sm)(h63:n<9223372036854775807):
  ah prog Bs 26 (aI (ag f86 0)) (Eb n i) (wM a b) 2 ⟨.normal,Eb n (i+1),wM a b,2⟩:=
 aD (aCV (t:=false) hi hx hy oc oc s_ [.sum 25 i 1 (i+1) rfl o_])
theorem aNf{n:Nat}{x y:RV}(hi:i<n)(hx:a[i]?=some x)(hy:b[i]?=some y)(oc:x.Sm)(yo:y.Sm)(bw:x≠y):
  ah prog Bs 26 (aI (ag f86 0)) (Eb n i) (wM a b) 2 ⟨.ret,[(4,.bool false)],wM a b,2⟩:=
 aD (aCV (t:=true) hi hx hy oc yo (by simp[bw]) [])
theorem aNg{n:Nat}:ah prog Bs 26 (aI (ag f86 0)) (Eb n n) (wM a b) 2 ⟨.exit 0,[],wM a b,2⟩:=
 aD [.lt 14 n n false s_]
theorem aNh(ha:∀ x∈a,x.Sm)(hb:∀ x∈b,x.Sm)(h63:a.length<9223372036854775807):cy prog 86 [.r a.length (cU a),.r b.length (cU b)] (.bool (decide (a=b))):=by
 have aC:([aP.r a.length (cU a),.r b.length (cU b)].all aP.ok)=true:=by simp only[eC,e7,aP.ok,iT gm,iA]
 by_cases hl:a.length=b.length
 ·have bw:(Value.bool (!((a.length:Int)==(b.length:Int))))=.bool false:=by rw[hl];simp
  rcases Ea a b hl with h|⟨e,x,y,h1,h2,h3,h4⟩
  ·rw[aJ h];subst h;have lo:∀ B:aa,ah prog B 26 (.block 0 (ag f86 0)) (Eb a.length 0) (wM a a) 2 ⟨.normal,[],wM a a,2⟩:=λB=>
    cd (id:=0) (cx a.length (λi=>Eb a.length i) (λ_=>wM a a) (λi k _=>Iff.rfl) (λi hi=>by have hx:a[i]?=some a[i]:=aW hi;exact aCW hi hx hx (ha _ (df hi)) h63) aNg n_)
   exact dj func86 aC 26 (λw=>[.rw 10 _ _ bw,.code 0 _ _ _ _ _ (lo _)])
  ·have b9:a≠b:=λh=>by subst h;rw[h1]at h2;injection h2 with h2;exact h3 h2
   rw[bd b9];have al:=(dZ.1 h1).1;have lo:∀ B:aa,ah prog B 26 (.block 0 (ag f86 0)) (Eb a.length 0) (wM a b) 2 ⟨.ret,[(4,.bool false)],wM a b,2⟩:=λB=>
    cd (id:=0) (cx e (λi=>Eb a.length i) (λ_=>wM a b) (λi k _=>Iff.rfl) (λi hi=>by have hx:a[i]?=some a[i]:=aW o_;have hy:b[i]?=some b[i]:=aW o_;have:=h4 i _ _ hi hx hy;rw[<-this]at hy;exact aCW o_ hx hy (ha _ (df _)) h63) (aNf al h1 h2 (ha _ (cL h1)) (hb _ (cL h2)) h3) n_)
   have Cg:([aP.r a.length (cU a),.r a.length (cU b)].all aP.ok)=true:=by simp only[eC,e7,aP.ok,iT gm,iA]
   rw[<-hl]at bw ⊢;exact dj func86 Cg 26 (λw=>[.rw 10 _ _ bw,.code 0 _ _ _ _ _ (lo _)])
 ·have b9:a≠b:=λh=>hl (by rw[h]);rw[bd b9];exact dj func86 aC 26 (λw=>[.rw 10 (.bool (!((a.length:Int)==(b.length:Int)))) b_ (by congr 1;simp;omega)])
end
end
section
variable{P:j_}{B:aa}{N:Nat}
theorem aCX{ι:Map}{off:Nat}:∀{l l':ak},bY (aL ι) l l'->∀(k:Nat) {cs cr:p_},bY (aL ι) cs.toList cr.toList->
  bY (aL ι) ((l.zipIdx k).foldl (λ(cs:p_) p=>cs.setIfInBounds (off+p.2) p.1) cs).toList ((l'.zipIdx k).foldl (λ(cs:p_) p=>cs.setIfInBounds (off+p.2) p.1) cr).toList
 |_,_,.nil,k,cs,cr,h=>h
 |_,_,.cons (a:=a) (b:=b) b9 ht,k,cs,cr,h=>by simp only[List.zipIdx_cons,v8];refine aCX ht (k+1) ?_;simp only[aHS];exact h.set b9 _
theorem Qe{ι:Map}{place:Nat->Option (Nat×Nat)}:∀(idx:l_) {vs cV:ak} {cs cr r:p_},bY (aL ι) vs cV->bY (aL ι) cs.toList cr.toList->Instr.fill place cs (idx.zip vs)=some r->
  ∃ r',Instr.fill place cr (idx.zip cV)=some r'/\bY (aL ι) r.toList r'.toList
 |[],vs,cV,cs,cr,r,_,hc,h=>by simp only[List.zip_nil_left,Instr.fill]at h ⊢;injection h with h;subst h;exact⟨cr,rfl,hc⟩
 |i::idx,_,_,cs,cr,r,.nil,hc,h=>by simp only[List.zip_nil_right,Instr.fill]at h ⊢;injection h with h;subst h;exact⟨cr,rfl,hc⟩
 |i::idx,_,_,cs,cr,r,.cons (a:=v) (b:=v') hv ht,hc,h=>by
  simp only[List.zip_cons_cons,Instr.fill]at h ⊢;split at h
  ·cases h
  ·rename_i off size hp;have jt:=hv.cells;have bH:v'.cells.size=v.cells.size:=by have:=jt.length;simpa using this.symm
   have fZ:cr.size=cs.size:=by have:=hc.length;simpa using this.symm
   split at h
   ·cases h
   ·rename_i qp;rw[bH,fZ,az qp];refine Qe idx ht ?_ h;have:=aCX (off:=off) jt 0 hc;rw[<-aBG,<-aBG,Array.toList_zipIdx,Array.toList_zipIdx];exact this
def aCY(o:Oper):Option (TypeId×List Nat):=match o.op with
 |.build t parts=>some (t,parts.toList.map (·.1))
 |_=>none
theorem Qf{t:TypeId}{idx:l_}(ho:aCY o=some (t,idx)){vs:ak}{cells:p_}(hz:∀ it z,P.info? t=some it->it.zero=some z->∀ v∈z.cells.toList,flat v=true)(h:P.built t (idx.zip vs)=some cells):
  cI P B o vs [] (.agg cells) []:=by
 unfold aCY at ho;split at ho
 ·rename_i t' parts ck;injection ho with ho;injection ho with h1 h2;subst h1;subst h2;refine iM.step λι c ρ w aU hm hn=>?_;rw[ck]at aU;have aU:bY (aL ι) vs ((parts.toList.map (·.2)).map ρ):=by simpa[Op.operands]using aU
  have hex:∃ cells',P.built t' ((parts.toList.map (·.1)).zip ((parts.toList.map (·.2)).map ρ))=some cells'/\bY (aL ι) cells.toList cells'.toList:=by
   unfold Program.built at h ⊢;split at h
   ·rename_i it n e hi hu;split at h
    ·rename_i z ie IP LP;exact Qe _ aU (k6 (hz it z hi IP)) h
    ·cases h
   ·rename_i it fields hi hu;split at h
    ·rename_i z places IP LP;exact Qe _ aU (k6 (hz it z hi IP)) h
    ·cases h
   ·cases h
  obtain⟨cells',e1,e2⟩:=hex;refine⟨ι,.agg cells',w,Map.le.refl _,?_,hm,.inl ?_⟩
  ·have:=aL.agg (ι:=ι) e2;simpa using this
  ·have cq:(parts.map λ(i,x)=>(i,ρ x)).toList=(parts.toList.map (·.1)).zip ((parts.toList.map (·.2)).map ρ):=by rw[<-N7 parts.toList rfl];simp
   have:=run_build (P:=P) w t' (parts.map λ(i,x)=>(i,ρ x)) cells' (by rw[cq];exact e1);simp only[execOp,ck];simp[this]
 ·cases ho
end
def iU:Value->Option Nat
 |.slice (some a) _ _=>some a.block
 |_=>none
def yp(w w':h_)(b:Nat):Prop:=∀ cs ty f,w.heap[b]?=some (Go.Obj.cells cs ty f)->w'.heap[b]?=some (Go.Obj.cells cs ty f)
theorem V0{o:Nat}(h:yp w w' b)(hc:w.cell? ⟨b,o,none⟩=some u):w'.cell? ⟨b,o,none⟩=some u:=by
 unfold World.cell? at hc ⊢;dsimp only at hc ⊢;split at hc
 ·rename_i cs ty f he;rw[h _ _ _ he];exact hc
 ·cases hc
theorem dp.kept{v:i_}{n:Nat}(h:dp w v n xs)(hs:w.heap.size<=w'.heap.size)(hk:∀ b,iU v=some b->yp w w' b):dp w' v n xs:=by
 rcases h with h|⟨b,o,c,h1,h2,h3,h4⟩
 ·exact .inl h
 ·exact .inr ⟨b,o,c,h1,h2,cF h3 hs,λj u hj=>V0 (hk b (by rw[h1];rfl)) (h4 j u hj)⟩
theorem dp.lt{v:i_}{n:Nat}(h:dp w v n xs)(hb:iU v=some b):b<w.heap.size:=by
 rcases h with ⟨h,_⟩|⟨b',o,c,h1,h2,h3,h4⟩
 ·rw[h]at hb;cases hb
 ·rw[h1]at hb;injection hb with hb;subst hb;exact h3
def av(l:l_):ak:=l.map vI
def iV(z:Int):Value:=.int .i64 z
def fN(l:List Int):ak:=l.map iV
inductive oP(w:h_):f_->ak->Prop
 |nil:oP w [] []
 |cons {i:Int} {l:List Int} {u:i_} {fs:f_} {cs:ak}:dp w u l.length (fN l)->flat u=true->oP w fs cs->oP w ((i,l)::fs) (iV i::u::cs)
theorem oP.length{cs:ak}(h:oP w fs cs):cs.length=fs.length*2:=by
 induction h with
 |nil=>rfl
 |cons _ _ _ ih=>simp only[qm,ih];omega
theorem oP.kept{cs:ak}(h:oP w fs cs)(hs:w.heap.size<=w'.heap.size)(hk:∀ u∈cs,∀ b,iU u=some b->yp w w' b):oP w' fs cs:=by
 induction h with
 |nil=>exact .nil
 |cons h1 h2 _ ih=>exact .cons (h1.kept hs (hk _ (bI _ (aR ..)))) h2 (ih λu hu=>hk u (bI _ (bI _ hu)))
theorem oP.lt{cs:ak}(h:oP w fs cs):∀ u∈cs,∀ b,iU u=some b->b<w.heap.size:=by
 induction h with
 |nil=>intro u hu;cases hu
 |cons h1 _ _ ih=>
  intro u hu b hb;rcases cD.1 hu with rfl|hu
  ·cases hb
  ·rcases cD.1 hu with rfl|hu
   ·exact h1.lt hb
   ·exact ih u hu b hb
def LQ(w:h_)(v:i_)(fs:f_):Prop:=∃ cs,dp w v fs.length cs/\oP w fs cs
def Qg(n:Nat)(v:i_)(w:h_)(k:Nat):Prop:=
 iU v=some k\/∃ b o c j u,v=.slice (some ⟨b,o,none⟩) n c/\j<n*2/\w.cell? ⟨b,o+j,none⟩=some u/\iU u=some k
theorem Qh{v:i_}{cs:ak}(h1:dp w v fs.length cs)(h2:oP w fs cs){o c:Nat}(hv:v=.slice (some ⟨b,o,none⟩) fs.length c)(hj:j<fs.length*2)(hu:w.cell? ⟨b,o+j,none⟩=some u):u∈cs:=by
 rcases h1 with ⟨h,_⟩|⟨b',o',c',e,_,_,h4⟩
 ·rw[h]at hv;cases hv
 ·rw[e]at hv;injection hv with hv _ _;injection hv with hv;injection hv with e1 e2 _;subst e1;subst e2;have al:j<cs.length:=by rw[h2.length];exact hj
  have nZ:cs[j]?=some cs[j]:=aW al;have:=h4 j _ nZ;rw[hu]at this;injection this with this;rw[this];exact df al
theorem aCZ{v:i_}(h:LQ w v fs)(hs:w.heap.size<=w'.heap.size)(hk:∀ k,Qg fs.length v w k->yp w w' k):
  LQ w' v fs/\∀ k,Qg fs.length v w' k->Qg fs.length v w k:=by
 obtain⟨cs,h1,h2⟩:=h;have IQ:∀ b,iU v=some b->yp w w' b:=λb hb=>hk b (.inl hb);have Qi:∀ u∈cs,∀ b,iU u=some b->yp w w' b:=λu hu b hb=>by
  rcases h1 with ⟨_,_,h⟩|⟨b',o',c',e,_,_,h4⟩
  ·rw[h]at hu;cases hu
  ·obtain⟨j,hj,rfl⟩:=lS hu;refine hk b (.inr ⟨b',o',c',j,_,e,by rw[<-h2.length];exact hj,h4 j _ (aW hj),hb⟩)
 refine⟨⟨cs,h1.kept hs IQ,h2.kept hs Qi⟩,λk hF=>?_⟩;rcases hF with hF|⟨b,o,c,j,u,e,hj,hc,hb⟩
 ·exact .inl hF
 ·have:=Qh (h1.kept hs IQ) (h2.kept hs Qi) e hj hc;rcases h1 with ⟨h,_⟩|⟨b',o',c',e',_,_,h4⟩
  ·rw[h]at e;cases e
  ·rw[e']at e;injection e with e1 _ e3;injection e1 with e1;injection e1 with e1 e2 _;subst e1;subst e2;subst e3;have al:j<cs.length:=by rw[h2.length];exact hj
   have h5:=h4 j _ (aW al);have h6:=V0 (IQ b' (by rw[e'];rfl)) h5;rw[hc]at h6;injection h6 with h6;exact .inr ⟨b',o',c',j,u,e',hj,by rw[h6];exact h5,hb⟩
def jd(fs:f_):Fact where
 G v w:=LQ w v fs
 cW v w k:=Qg fs.length v w k
 lt v w k h hF:=by
  obtain⟨cs,h1,h2⟩:=h;rcases hF with hF|⟨b,o,c,j,u,e,hj,hc,hb⟩
  ·exact h1.lt hF
  ·exact h2.lt u (Qh h1 h2 e hj hc) k hb
 dep v w w' h hs hk:=aCZ h hs λk hF cs ty f hc=>(hk k hF).trans hc
 soft _ v w w' h hs hk:=aCZ h hs hk
theorem aC0(l:List Int):(fN l).all flat=true:=by rw[bB];intro v hv;obtain⟨z,_,rfl⟩:=db.1 hv;rfl
theorem Gv(cells:ak)(i:Nat):dM prog 3 cells i=cells[i]?:=by kernel_rfl
theorem Qj{l:List Int}(h:l[i]?=some z):dM prog 3 (fN l) i=some (iV z):=by rw[Gv];show(l.map iV)[i]?=_;rw[sH,h];rfl
section
variable{Bs:aa}{a b:List Int}
def Ec(n i:Nat):aT:=[(13,vI i),(11,sl 0 n),(12,vI n),(0,sl 0 n),(1,sl 1 n)]
def wO(a b:List Int):aM:=[(0,.view (fN a)),(1,.view (fN b))]
noncomputable def aC1{n:Nat}{x y:Int}(hi:i<n)(hx:a[i]?=some x)(hy:b[i]?=some y)(ht:(!(x==y))=t)(more:bM prog Bs 26):bM prog Bs 26:=
 .lt 14 i n true (aJ hi)::.ix f85 18 0 n i hi k_::.ld f85 19 3 0 i (.view (fN a)) (iV x) rfl (Qj hx) k_::.ix f85 22 1 n i hi k_::.ld f85 23 3 1 i (.view (fN b)) (iV y) rfl (Qj hy) k_::
  .rw 24 (.bool (!(x==y))) (.bool t) (by rw[ht])::more
theorem aC2{n:Nat}{x:Int}(hi:i<n)(hx:a[i]?=some x)(hy:b[i]?=some x)(h63:n<9223372036854775807):
  ah prog Bs 26 (aI (ag f85 0)) (Ec n i) (wO a b) 2 ⟨.normal,Ec n (i+1),wO a b,2⟩:=
 aD (aC1 (t:=false) hi hx hy s_ [.sum 25 i 1 (i+1) rfl o_])
theorem aNi{n:Nat}{x y:Int}(hi:i<n)(hx:a[i]?=some x)(hy:b[i]?=some y)(bw:x≠y):
  ah prog Bs 26 (aI (ag f85 0)) (Ec n i) (wO a b) 2 ⟨.ret,[(4,.bool false)],wO a b,2⟩:=
 aD (aC1 (t:=true) hi hx hy (by simp[bw]) [])
theorem aNj{n:Nat}:ah prog Bs 26 (aI (ag f85 0)) (Ec n n) (wO a b) 2 ⟨.exit 0,[],wO a b,2⟩:=
 aD [.lt 14 n n false s_]
theorem aNk(h63:a.length<9223372036854775807):cy prog 85 [.r a.length (fN a),.r b.length (fN b)] (.bool (decide (a=b))):=by
 have aC:([aP.r a.length (fN a),.r b.length (fN b)].all aP.ok)=true:=by simp only[eC,e7,aP.ok,aC0,iA]
 by_cases hl:a.length=b.length
 ·have bw:(Value.bool (!((a.length:Int)==(b.length:Int))))=.bool false:=by rw[hl];simp
  rcases Ea a b hl with h|⟨e,x,y,h1,h2,h3,h4⟩
  ·rw[aJ h];subst h;have lo:∀ B:aa,ah prog B 26 (.block 0 (ag f85 0)) (Ec a.length 0) (wO a a) 2 ⟨.normal,[],wO a a,2⟩:=λB=>
    cd (id:=0) (cx a.length (λi=>Ec a.length i) (λ_=>wO a a) (λi k _=>Iff.rfl) (λi hi=>by have hx:a[i]?=some a[i]:=aW hi;exact aC2 hi hx hx h63) aNj n_)
   exact dj func85 aC 26 (λw=>[.rw 10 _ _ bw,.code 0 _ _ _ _ _ (lo _)])
  ·have b9:a≠b:=λh=>by subst h;rw[h1]at h2;injection h2 with h2;exact h3 h2
   rw[bd b9];have al:=(dZ.1 h1).1;have lo:∀ B:aa,ah prog B 26 (.block 0 (ag f85 0)) (Ec a.length 0) (wO a b) 2 ⟨.ret,[(4,.bool false)],wO a b,2⟩:=λB=>
    cd (id:=0) (cx e (λi=>Ec a.length i) (λ_=>wO a b) (λi k _=>Iff.rfl) (λi hi=>by have hx:a[i]?=some a[i]:=aW o_;have hy:b[i]?=some b[i]:=aW o_;have:=h4 i _ _ hi hx hy;rw[<-this]at hy;exact aC2 o_ hx hy h63) (aNi al h1 h2 h3) n_)
   have Cg:([aP.r a.length (fN a),.r a.length (fN b)].all aP.ok)=true:=by simp only[eC,e7,aP.ok,aC0,iA]
   rw[<-hl]at bw ⊢;exact dj func85 Cg 26 (λw=>[.rw 10 _ _ bw,.code 0 _ _ _ _ _ (lo _)])
 ·have b9:a≠b:=λh=>hl (by rw[h]);rw[bd b9];exact dj func85 aC 26 (λw=>[.rw 10 (.bool (!((a.length:Int)==(b.length:Int)))) b_ (by congr 1;simp;omega)])
end
section
variable{P:j_}{B:aa}{N:Nat}
def aC3(P:j_)(o:Oper):Bool:=match o.op with
 |.binOp .eql t _ _ _=>(match P.underlying t with|some (.slice _)=>true|_=>false)
 |_=>false
theorem aC4(ho:aC3 P o=true){n:Nat}(kN:0<n):cI P B o [.slice (some ⟨k,off,some 7⟩) n cc,.slice none 0 0] [] a_ []:=by
 unfold aC3 at ho;split at ho
 ·rename_i t x y ty ck;split at ho
  ·rename_i e ht;refine iM.step λι c ρ w aU hm hn=>?_;rw[ck]at aU;obtain⟨u,v,Qk,hu,hv⟩:=js aU;have Qk:ρ x=u/\ρ y=v:=by simpa[Op.operands]using Qk
   have rC:=hv.fD rfl;rcases hu.iC rfl with ⟨_,h0,_⟩|⟨b,oo,cap,c',hb,k7,ni,he⟩
   ·omega
   ·refine⟨ι,.bool false,w,Map.le.refl _,.same rfl,hm,.inl ?_⟩;simp only[execOp,ck,Qk.1,Qk.2,he,rC];have h2:=Lib.run_eql_slice_nil (P:=P) w t e (some ⟨b,oo+off,none⟩) n c' 0 0 ht;simp only[Option.isNone_some]at h2;simp[eqGuard,h2]
  ·cases ho
 ·cases ho
end
abbrev bz:Nat:=16777216
theorem mT(l:l_):∀ u∈av l,flat u=true:=λu hu=>by obtain⟨x,_,rfl⟩:=db.1 hu;rfl
theorem iJ(l:l_):(av l).all flat=true:=bB.2 (mT l)
theorem od(l:l_):(av l).length=l.length:=by simp[av]
theorem ew{l:l_}{x:Nat}(h:l[i]?=some x):dM prog 3 (av l) i=some (vI x):=by rw[Gv];simp[av,h]
theorem Ql(cells:ak)(i:Nat)(z:Int)(h:i<cells.length):fp prog 3 cells i (.int .i64 z)=some (cells.set i (.int .i64 z)):=by
 have e:fp prog 3 cells i (.int .i64 z)=if(Nat.ble (i+1) cells.length&&true)then some (jf cells i [.int .i64 z])else none:=by kernel_rfl
 rw[e,Sr h];rfl
theorem Qm(l:l_)(i d:Nat):(av l).set i (vI d)=av (l.set i d):=by simp[av,List.map_set]
theorem wP{l:l_}(h:i<l.length):fp prog 3 (av l) i (vI d)=some (av (l.set i d)):=by rw[<-Qm];exact Ql _ _ _ (by rw[od];exact h)
theorem LR(n:Nat):List.replicate n (vI 0)=av (List.replicate n 0):=by simp[av]
def cJ(a:Nat):ak:=av (ae bz (nd bz a) a)
def jT(a:Nat):aP:=.r (nd bz a) (cJ a)
theorem V1(a:Nat):(cJ a).length=nd bz a:=by unfold cJ;rw[od,o8]
theorem tC(a:Nat):(cJ a).all flat=true:=iJ _
theorem aNl(h:nd bz a=0):cJ a=[]:=k8 (by rw[V1,h])
theorem aNm{n:Nat}:a/bz^n%bz<bz:=cP _ d_
theorem aNn{n:Nat}(hm:m+1<=n)(ha:a<bz^m)(h63:n<=9223372036854775807):
  ah prog Bs 21 (aI (ag f138 0)) [(0,sl 0 (m+1))] [(0,.view (av (ae bz n a)))] 1 ⟨.normal,[(0,sl 0 m)],[(0,.view (av (ae bz n a)))],1⟩:=by
 have hd:a/bz^m%bz=0:=(Hy d_ (cF ha (di d_ (zk m)))).2 ha;exact aD [.gt 5 (m+1) 0 true s_,.fq 10 (m+1) 1 m rfl o_,.ix f138 11 0 (m+1) m o_ k_,.ld f138 12 3 0 m (.view (av (ae bz n a))) (vI (a/bz^m%bz)) rfl (ew (eR o_)) k_,.gO 13 (a/bz^m%bz) 0 true (by simp[hd]),.fq 18 (m+1) 1 m rfl o_,.upto f138 19 0 (m+1) m 1 o_ k_]
theorem aNo{n:Nat}(hm:m<=n)(ha:a<bz^m)(hl:m=nd bz a)(h63:n<=9223372036854775807):
  ah prog Bs 21 (aI (ag f138 0)) [(0,sl 0 m)] [(0,.view (av (ae bz n a)))] 1 ⟨.exit 0,[(0,sl 0 m)],[(0,.view (av (ae bz n a)))],1⟩:=by
 cases m with
 |zero=>exact aD [.gt 5 0 0 false s_]
 |succ m=>
  have hd:a/bz^m%bz≠0:=λe=>by have:=jw (B:=bz) d_ ((Hy d_ ha).1 e);omega
  exact aD [.gt 5 (m+1) 0 true s_,.fq 10 (m+1) 1 m rfl o_,.ix f138 11 0 (m+1) m o_ k_,.ld f138 12 3 0 m (.view (av (ae bz n a))) (vI (a/bz^m%bz)) rfl (ew (eR o_)) k_,.gO 13 (a/bz^m%bz) 0 false (by simp[hd])]
theorem aNp{n:Nat}(ha:a<bz^n)(h63:n<=9223372036854775807):
  ah prog Bs 21 (.block 0 (ag f138 0)) [(0,sl 0 n)] [(0,.view (av (ae bz n a)))] 1 ⟨.normal,[(0,sl 0 (nd bz a))],[(0,.view (av (ae bz n a)))],1⟩:=by
 have hle:=jw (B:=bz) d_ ha;have al:=eB (B:=bz) d_ a
 have:=cx (P:=prog) (B:=Bs) (N:=21) (b:=aI (ag f138 0)) (next:=1) (n-nd bz a) (λi=>[(0,sl 0 (n-i))]) (λ_=>[(0,.view (av (ae bz n a)))])
  (r:=⟨.exit 0,[(0,sl 0 (nd bz a))],[(0,.view (av (ae bz n a)))],1⟩) (λ_ _ _=>Iff.rfl)
  (λi hi=>by
   have e:n-i=(n-(i+1))+1:=by omega
   simp only[e];exact aNn o_ (cF al (di d_ o_)) h63)
  (by
   have e:n-(n-nd bz a)=nd bz a:=by omega
   simp only[e];exact aNo hle al rfl h63) n_
 exact cd this
theorem aC5{v:i_}{n:Nat}(hv:dp w v n (av (ae bz n a)))(ha:a<bz^n)(h63:n<=9223372036854775807):
  Calls prog 138 #[v] w λe w'=>e=.returned (NV v (nd bz a))/\Below w.heap.size w w':=by
 refine l9 (Q:=λe w'=>e=.returned (NV v (nd bz a))/\Below w.heap.size w w') mixed func138 [.row v n (av (ae bz n a))] (λs hs=>by simp at hs;subst hs;exact⟨hv,mT _⟩) 100 (N:=21) k_
  (rs:=[.code 0 _ _ _ _ _ (aNp ha h63)]) (v:=sl 0 (nd bz a)) (ms:=[]) k_ λaA ct v' w' hc hm _ dL=>⟨?_,hm.base⟩
 cases dL with
 |cons h1 _=>
 congr 1
 rcases hc.iC rfl with ⟨q1,q2,_,_,q5⟩|⟨b,o,cap,c',q1,q2,q3,q5⟩<;>rcases h1.iC rfl with ⟨p1,p2,_,_,p5⟩|⟨b2,o2,ql,c2,p1,p2,p3,p5⟩
 ·have p5:v=.slice none 0 0:=p5;rw[q5,p5,q2];rfl
 ·rw[q1]at p1;cases p1
 ·rw[q1]at p1;cases p1
 ·rw[q1]at p1;injection p1 with p1;injection p1 with e1 e2 e3;subst e1;subst e2;subst e3;have p5:v=_:=p5;rw[q5,p5,show c'=c2 by omega];rfl
theorem aC6{y:m_}(ho:dF o.op=some y){n:Nat}{x:Obj}(hx:x.reads=true)(cR:(x.cells.all flat)=true)(hc:(x.cells.drop off).take n=av (ae bz n a))(ha:a<bz^n)(h63:n<=9223372036854775807)(zi:n=0->off=0\/True):
  cI prog Bs o [.func (.func 138) #[] #[],.slice (some ⟨k,off,some 7⟩) n 0] [(k,some x)] (.slice (some ⟨k,off,some 7⟩) (nd bz a) 0) []:=by
 refine jY (fi:=[]) (ca:=[]) ho k_ λι c w hm hn args' dL=>?_;obtain⟨v,rfl,h1⟩:=nP dL;have hk:c k=some x:=hn _ (aR ..);have hr:=o7 (len:=n) hm hk hx (bB.1 cR) (λh=>h) h1;rw[hc]at hr;refine(aC5 hr ha h63).mono ?_
 rintro e w' ⟨rfl,hb⟩
 refine⟨ι,_,rfl,Map.le.refl _,?_,hm.call hb⟩;have fv:=jw (B:=bz) d_ ha;rcases h1.iC rfl with ⟨q1,q2,_,q4,q5⟩|⟨b,oo,cap,c',q1,q2,q3,q5⟩
 ·rw[q5];have:nd bz a=0:=by omega
  dsimp only at q4;rw[this,q4];exact .slcN q1
 ·rw[q5];exact .slc q1 o_ q3
def aY.Ed(fn:Func)(key k n a:Nat)(x:Obj)(hx:x.reads=true)(hc:x.cells=av (ae bz n a))(ha:a<bz^n)(h63:n<=9223372036854775807)(ho:dF (au fn key).op=some (.func 138)):aY prog Bs N:=
 .step key (au fn key) [.func (.func 138) #[] #[],sl k n] [(k,some x)] (sl k (nd bz a)) [] (aC6 ho hx (by rw[hc];exact iJ _) (by rw[hc,mI,kG (by simp[av,o8])]) ha h63 (λ_=>.inr trivial))
section
open Go.Sort (flatK putRowK HoldsK putRow putCells Holds mapBlock grow ahead PermIn SortedIn SWO swp)
section
variable{α:Type}[Inhabited α]{enc:α->ak}{s:Nat}
omit [Inhabited α] in
theorem aC7(h:rT enc s){l:List α}{x:α}(hx:l[i]?=some x)(hr:r<s):(dB enc l)[i*s+r]?=(enc x)[r]?:=by have e:=PU h hx;rw[<-e,uU,aB hr,Hl]
theorem aC8(h:rT enc s)(hs:0<s)(d:Array α):(flatK enc s d).toList=dB enc d.toList:=by
 apply TE;intro t;by_cases ht:t<d.size*s
 ·have hi:t/s<d.size:=(iQ hs).2 ht;have hr:t%s<s:=cP _ hs;have hx:d.toList[t/s]?=some d[t/s]:=by simp[hi]
  have e:=aC7 h hx hr;rw[cX,jy]at e;rw[e];have hl:t%s<(enc d[t/s]).length:=by rw[h.len];exact hr
  have e2:=Go.Sort.get_flatK enc s d t ht;have bH:t<(flatK enc s d).size:=by rw[V2];exact ht
  rw[Cy (flatK enc s d) t bH,Cy d (t/s) hi,Cy (enc d[t/s]) (t%s) hl]at e2;rw[Array.getElem?_toList,zo bH,e2,aW hl]
 ·rw[Bf (by simp;omega),Bf (by rw[uy h];simp;omega)]
def aC9(P:j_)(f:FuncId)(g:i_)(enc:α->ak)(s:Nat)(lt:α->α->Bool)(l:List α):Prop:=
 ∀(aK cap:Nat) (w:h_),HoldsK enc s w aK 0 l.toArray->aK<w.heap.size->Calls P f #[.slice (some ⟨aK,0,none⟩) l.length cap,g] w λe w'=>
  e=.returned (.tuple #[])/\∃ d' n os,PermIn 0 l.length l.toArray d'/\SortedIn lt 0 l.length d'/\w'=Go.Proofs.sortWorldK enc s w aK 0 n d' os
theorem aNq{g:FuncId}{cf:α->α->Int}(h:∀ x y:α,aG P g [.agg (enc x).toArray,.agg (enc y).toArray] (.int .i64 (cf x y)))(aK off size:Nat)(w:h_):Go.Proofs.CmpLays P g #[] enc s cf aK off size w:=by
 intro m os dk _ x y;refine(h x y _).mono ?_
 rintro e w' ⟨rfl,hb⟩
 generalize Go.Proofs.sortWorldK enc s w aK off m dk os=W at *;refine⟨rfl,w'.drawn-W.drawn,w'.heap.extract W.heap.size w'.heap.size,?_⟩;obtain⟨heap,tape,drawn,osW,out⟩:=W;obtain⟨aNr,aWb,aWc,os',aWd⟩:=w';obtain⟨⟨h1,h2⟩,h3,h4,h5,h6⟩:=hb;dsimp only at h1 h2 h3 h4 h5 h6;subst h1;subst h3;subst h4;unfold grow World.drewN;dsimp only
 congr 1
 ·apply Array.ext_getElem?;intro k;by_cases hk:k<heap.size
  ·rw[h6 k hk,aDa hk]
  ·rw[Array.getElem?_append_right o_,Array.getElem?_extract];by_cases fO:k<aNr.size
   ·rw[aB o_];congr 1;omega
   ·rw[az o_,Y2 o_]
 ·omega
theorem aNs{g:i_}{lt:α->α->Bool}{l l':List α}{x:m_}(h:rT enc s)(hs:0<s)(hso:aC9 P f g enc s lt l)(hg:flat g=true)(ho:dF o.op=some x)(fe:gg P f=true)(k:Nat)
  (aNt:l=[]->aG P f [.slice none 0 0,g] (.tuple #[])) (cA:∀ d:List α,d.Perm l->(∀ i j,i<j->j<d.length->∀ x y,d[i]?=some x->d[j]?=some y->lt y x=false)->d=l') :
  cI P B o [.func (.func f) #[] #[],.slice (some ⟨k,0,some 7⟩) l.length 0,g] [(k,some (.row (dB enc l) ty s))] (.tuple #[]) [(k,.row (dB enc l') ty s)]:=by
 refine jY (fi:=[]) (ca:=[]) ho fe λι c w hm hn args' dL=>?_;obtain⟨v,u,rfl,h1,h2⟩:=js (by simpa using dL);have hu:=h2.fD hg;subst hu;have hk:=hn (k,_) (aR ..);rcases h1.iC rfl with ⟨q1,q2,_,_,q5⟩|⟨b,oo,cap,c',q1,q2,q3,q5⟩
 ·have hl:l=[]:=k8 q2;subst hl;have e:l'=[]:=(cA [] (.refl _) λi j _ hj=>by simp at hj).symm;subst e;rw[q5];refine(aNt rfl w).mono ?_
  rintro e w' ⟨rfl,hb⟩
  refine⟨ι,_,rfl,Map.le.refl _,.same rfl,((hm.call hb).ext λj=>?_)⟩;show bt c k _ j=c j;unfold bt;by_cases hj:j=k
  ·rw[aB hj,hj];exact hk.symm
  ·rw[az hj]
 ·obtain⟨lo,p1,p2⟩:=hm.born k _ hk;dsimp only at q1;rw[q1]at p1;injection p1 with p1;subst p1;rcases p2 with p2|⟨b',aQ,cur,e1,mD,dN,fZ,jt⟩
  ·cases p2.1
  injection e1 with e1 e2 e3;subst e1;subst e2;subst e3;have gn:=(hm.own k _ b 0 cap hk rfl q1).1;have aDb:cur.toList.take (dB enc l).length=dB enc l:=nQ jt (LG h l);have hlen:(dB enc l).length=l.length*s:=uy h l;have hle:l.length*s<=cur.size:=by have:=cS List.length aDb;rw[jK,hlen]at this;simp at this;omega
  have nk:(flatK enc s l.toArray).toList=dB enc l:=aC8 h hs l.toArray;have hold:HoldsK enc s w b 0 l.toArray:=by
   intro j hj;rw[V2]at hj;simp only[Ng]at hj;have Qn:j<cur.size:=by omega
   have bH:j<(flatK enc s l.toArray).size:=by rw[V2];simpa using hj
   have e:cur[j]=(flatK enc s l.toArray)[j]:=by
    have e1:(cur.toList.take (dB enc l).length)[j]?=(dB enc l)[j]?:=by rw[aDb]
    rw[uU,aB (by rw[hlen];exact hj),<-nk]at e1;rw[Array.getElem?_toList,Array.getElem?_toList,zo Qn,zo bH]at e1;injection e1
   refine⟨?_,?_⟩
   ·rw[Cy _ j bH];simp[World.cell?,mD,Qn,e]
   ·simp[World.frozen?,mD]
  rw[q5];refine(hso b c' w hold gn).mono ?_
  rintro e w' ⟨rfl,d',n,os,hp,V4,rfl⟩
  obtain⟨iY,EY,hp3⟩:=hp;have OY:d'.toList=l':=by
   refine cA _ ?_ λi j nh hj x y hx hy=>?_
   ·have e1:d'.extract 0 l.length=d':=by rw[<-Ng,<-iY];exact Array.extract_size
    have e2:l.toArray.extract 0 l.length=l.toArray:=by rw[<-Ng];exact Array.extract_size
    rw[e1,e2]at hp3;simpa using hp3
   ·have fY:j<d'.size:=by simpa using hj
    have hz:d'.size=l.length:=by rw[iY];simp
    have:=V4 i j (lG _) nh o_;rw[Cy d' i o_,Cy d' j fY]at this;rw[Array.getElem?_toList,zo o_]at hx;rw[Array.getElem?_toList,zo fY]at hy;injection hx with hx;injection hy with hy;rw[hx,hy]at this;exact this
  have hz:d'.size=l.length:=by rw[iY];simp
  have BS:l'.length=l.length:=by rw[<-OY];simpa using hz
  refine⟨ι,_,rfl,Map.le.refl _,.same rfl,?_⟩;have Bz:(flatK enc s d').toList=dB enc l':=by rw[aC8 h hs,OY]
  have hF:(flatK enc s d').size=l.length*s:=by rw[V2,hz]
  show aO B ι (bt c k (.row (dB enc l') ty s)) _;have hW:(Go.Proofs.sortWorldK enc s w b 0 n d' os).heap=w.heap.modify b (Go.Sort.onCells (putCells id 0 (flatK enc s d')))++os:=rfl;have aNu:(Go.Proofs.sortWorldK enc s w b 0 n d' os).heap[b]?=some (.cells (putCells id 0 (flatK enc s d') cur) ty (0,0)):=by rw[hW,aDa (by simpa using gn),Yx,aB rfl,mD];rfl
  have hcz:(putCells id 0 (flatK enc s d') cur).size=cur.size:=by simp[putCells]
  refine hm.write hk rfl q1 ⟨rfl,Ks _ _⟩ rfl rfl ?_ (λj hj Fp=>?_) (.inr ⟨b,cap,_,rfl,aNu,dN,by rw[hcz,fZ],?_⟩) n_ rfl
  ·rw[hW];simp
  ·rw[hW,aDa (by simpa using hj),Yx,az (λe=>Fp e.symm)]
  ·have e:(putCells id 0 (flatK enc s d') cur).toList.take (dB enc l').length=dB enc l':=by
    rw[uy h,BS,<-Bz];apply TE;intro j;rw[uU];by_cases hj:j<l.length*s
    ·rw[aB hj];have Qn:j<cur.size:=by omega
     have bH:j<(flatK enc s d').size:=by rw[hF];exact hj
     rw[Array.getElem?_toList,Array.getElem?_toList,zo bH];unfold putCells;rw[Array.getElem?_mapIdx,zo Qn];simp only[R6,Hw,id_eq];rw[aB ⟨lG _,by rw[hF];omega⟩,Cy _ j bH]
    ·rw[az hj,Bf (by simp[hF];omega)]
   rw[e];exact k6 (LG h l')
end
end
section
variable{P:j_}{B:aa}{N:Nat}
def Qo(P:j_)(o:Oper):Option (TypeId×Nat×Value):=match o.op with
 |.call c=>match c.callee,c.args.toList,c.argTypes.toList with
  |.builtin .clear,[_],[t]=>(match P.underlying t with
   |some (.slice e)=>(match P.info? e with|some i=>(match i.zero with|some z=>some (e,i.size,z)|none=>none)|none=>none)
   |_=>none)
  |_,_,_=>none
 |_=>none
theorem aNv{s:Nat}{z:i_}(ho:Qo P o=some (e,s,z)):∃ x t i,o.op=.call { callee:=.builtin .clear,args:=#[x],argTypes:=#[t]}/\P.underlying t=some (.slice e)/\P.info? e=some i/\i.zero=some z/\i.size=s:=by
 unfold Qo at ho;split at ho
 ·rename_i c ck;split at ho
  ·rename_i x t h1 h2 h3;split at ho
   ·rename_i e' ht;split at ho
    ·rename_i i hi;split at ho
     ·rename_i z' hz;injection ho with ho;injection ho with q1 ho;injection ho with q2 q3;subst q1;subst q2;subst q3;refine⟨x,t,i,?_,ht,hi,hz,rfl⟩;rw[ck];obtain⟨ce,ar,at'⟩:=c;dsimp only at h1 h2 h3;subst h1;have e1:ar=#[x]:=by rw[<-Ai (xs:=ar),h2]
      have e2:at'=#[t]:=by rw[<-Ai (xs:=at'),h3]
      rw[e1,e2]
     ·cases ho
    ·cases ho
   ·cases ho
  ·cases ho
 ·cases ho
theorem aNw{s:Nat}{z:i_}(ho:Qo P o=some (e,s,z))(h1:∀ v∈z.cells.toList,v.oneCell'=true/\flat v=true){n:Nat}{cells new:ak}(hn:0<n)(hlen:off+n*z.cells.size<=cells.length)
  (lE:jf cells off (Builtin.zeroCells z.cells n).toList=new):cI P B o [.slice (some ⟨k,off,some 7⟩) n cc] [(k,some (.row cells e s))] (.tuple #[]) [(k,.row new e s)]:=by
 subst lE;obtain⟨x,t,i,ck,ht,hi,hz,rfl⟩:=aNv ho;refine iM.step λι c ρ w aU hm oW=>?_;have hk:c k=some (.row cells e i.size):=oW _ (aR ..);rw[ck]at aU;obtain⟨u,hu,hc⟩:=nP aU;have hu:ρ x=u:=by simpa[Op.operands,Call.operands]using hu
 rcases hc.iC rfl with ⟨_,q2,_⟩|⟨b,oo,cap,c',hb,k7,ni,he⟩
 ·omega
 dsimp only at hb he;have BS:((Builtin.zeroCells z.cells n).toList).length=n*z.cells.size:=by rw[y9,Nb]
 have IU:∀ v∈(Builtin.zeroCells z.cells n).toList,v.oneCell'=true/\flat v=true:=by
  intro v hv;unfold Builtin.zeroCells at hv;rw[Array.toList_map,db]at hv;obtain⟨j,hj,rfl⟩:=hv;have hjs:j<n*z.cells.size:=by simpa using hj
  have h0:0<z.cells.size:=by
   rcases nU z.cells.size with h|h
   ·rw[h]at hjs;omega
   ·exact h
  rw[Cy z.cells _ (cP _ h0)];exact h1 _ s_
 obtain⟨h0,bT,cr,ty,mD,uV⟩:=hm.store hk rfl hb (k6 λv hv=>(IU v hv).2) (o:=off) (by rw[BS];exact hlen);subst h0;rw[kB]at he;refine⟨ι,.tuple #[],_,Map.le.refl _,.same rfl,bT,.inl ?_⟩
 have run:=run_storeCells_cells (P:=P) b off (Builtin.zeroCells z.cells n).toList 0 w
  (λj hj=>by
   have:j+off<cr.length:=by omega
   simp[World.cell?,mD];omega)
  (λj hj=>by simp[World.frozen?,mD]) λv hv=>(IU v hv).1
 simp only[jg]at run;obtain⟨m,rfl⟩:∃ m,n=m+1:=⟨n-1,by omega⟩;have iD:(Builtin.clear_ #[t] o.type #[.slice (some ⟨b,off,none⟩) (m+1) c']).run P w=.ok (.tuple #[]) (w.setCells b off (Builtin.zeroCells z.cells (m+1)).toList):=by simp[Builtin.clear_,jM ht,zeroValue,typeInfo,hi,hz,run]
 simp[execOp,ck,resolve,invoke,builtin,hu,he,iD]
theorem aNx{enc:α->ak}{s:Nat}(h:rT enc s){x:α}{z:p_}(hz:z.toList=enc x)(hs:0<s)(n:Nat):(Builtin.zeroCells z n).toList=dB enc (List.replicate n x):=by
 have bH:z.size=s:=by rw[<-y9,hz,h.len]
 apply TE;intro t;by_cases ht:t<n*s
 ·have hi:t/s<n:=(iQ hs).2 ht;have hr:t%s<s:=cP _ hs;have e:=aC7 h (l:=List.replicate n x) (i:=t/s) (x:=x) (by simp[hi]) hr;rw[cX,jy]at e;rw[e,<-hz];unfold Builtin.zeroCells;rw[Array.toList_map,sH];have:(Array.range (n*z.size)).toList[t]?=some t:=by rw[bH];simp[ht]
  rw[this,R6,bH,Cy z _ o_,Array.getElem?_toList,zo o_]
 ·rw[Bf (by rw[y9,Nb,bH];omega),Bf (by rw[uy h];simp;omega)]
def aY.qa(fn:Func)(key k a n cc i j s:Nat)(hi:i<n)(hj:a+i=j)(ho:xn P (au fn key)=some s):aY P B N:=
 .step key (au fn key) [.slice (some ⟨k,a*s,some 7⟩) n cc,vI i] [] (.pointer (some ⟨k,j*s,some 7⟩)) [] (by have:=NI (B:=B) ho (k:=k) (off:=a*s) (cc:=cc) (kd:=.i64) hi;rw[<-fP,hj]at this;exact this)
def aY.behind(fn:Func)(key k n a m s:Nat)(hm:a+m=n)(h0:0<m)(ho:sQ P (au fn key)=some (true,false,s)):aY P B N:=
 .step key (au fn key) [.slice (some ⟨k,0,some 7⟩) n 0,vI a] [] (.slice (some ⟨k,a*s,some 7⟩) m a) [] (by have:=Hx (B:=B) ho (k:=k) (off:=0) (n:=n) (cc:=0) (l:=a) (h:=n) n_ (λ_=>rfl) o_ (bF _) (.inl o_);rw[show n-a=m by omega]at this;simpa using this)
def aY.clear(fn:Func)(key k off n cc e s:Nat)(z:i_)(cells new:ak)(h1:∀ v∈z.cells.toList,v.oneCell'=true/\flat v=true)(hn:0<n)(hlen:off+n*z.cells.size<=cells.length)(lE:jf cells off (Builtin.zeroCells z.cells n).toList=new)
  (ho:Qo P (au fn key)=some (e,s,z)):aY P B N:=
 .step key (au fn key) [.slice (some ⟨k,off,some 7⟩) n cc] [(k,some (.row cells e s))] (.tuple #[]) [(k,.row new e s)] (aNw ho h1 hn hlen lE)
end
def aa.jJ(B:aa)(ks:List (Value×ak)):aa where
 G w:=B.G w/\∀ p∈ks,dp w p.1 p.2.length p.2
 cW k:=B.cW k\/∃ p∈ks,iU p.1=some k
 ds:=B.ds
 Fa:=B.Fa
 mp:=B.mp
 lt w k h hk:=by
  rcases hk with hk|⟨p,hp,hb⟩
  ·exact B.lt w k h.1 hk
  ·exact(h.2 p hp).lt hb
 dep w w' h h1 h2 h3 h4 h5:=⟨B.dep w w' h.1 h1 h2 h3 h4 λk hk=>h5 k (.inl hk),λp hp=>(h.2 p hp).kept h4 λb hb _ _ _ e=>(h5 b (.inr ⟨p,hp,hb⟩)).trans e⟩
theorem aDc(h:aO B ι c w):aO (B.jJ []) ι c w:=
 ⟨⟨h.base,λp hp=>by cases hp⟩,h.dE,h.born,λk x b o cap e hx hl=>⟨(h.own k x b o cap e hx hl).1,λhF=>by
  rcases hF with hF|⟨p,hp,_⟩
  ·exact(h.own k x b o cap e hx hl).2 hF
  ·cases hp⟩,h.inj,h.apart,h.seen,h.fa,h.one,h.oT⟩
theorem Qp(h:aO (B.jJ ks) ι c w)(hm:c m=some (.row xs ty 1))(cR:∀ v∈xs,flat v=true)
  (hu:aL ι (.slice (some ⟨m,0,some 7⟩) xs.length 0) u):aO (B.jJ ((u,xs)::ks)) ι (bt c m .dead) w/\flat u=true/\∀ b,iU u=some b->¬B.cW b:=by
 have jL:=o7 (len:=xs.length) h hm rfl cR (λe=>e) hu;have jL:dp w u xs.length xs:=by
  have e:((Obj.row xs ty 1).cells.drop 0).take xs.length=xs:=by rw[mI];exact n9
  rwa[e]at jL
 have hk:=h.kill m (by rw[hm];exact n_);have hb:∀ b,iU u=some b->∃ o cap,ι m=some (.at b o cap):=by
  intro b hb;rcases hu.iC rfl with ⟨_,_,_,_,q5⟩|⟨b',oo,cap,c',q1,_,_,q5⟩
  ·rw[q5]at hb;cases hb
  ·rw[q5]at hb;injection hb with hb;subst hb;exact⟨oo,cap,q1⟩
 have da:∀ j z,j≠m->bt c m .dead j=some z->c j=some z:=λj z hj e=>by unfold bt at e;rwa[az hj]at e
 refine⟨⟨⟨h.base.1,λp hp=>?_⟩,hk.dE,hk.born,λk x b o cap e hx hl=>⟨(hk.own k x b o cap e hx hl).1,λhF=>?_⟩,hk.inj,hk.apart,hk.seen,hk.fa,hk.one,hk.oT⟩,?_,λb hbu hF=>?_⟩
 ·rcases cD.1 hp with rfl|hp
  ·exact jL
  ·exact h.base.2 p hp
 ·rcases hF with hF|⟨p,hp,KE⟩
  ·exact(hk.own k x b o cap e hx hl).2 (.inl hF)
  ·rcases cD.1 hp with rfl|hp
   ·obtain⟨o',aQ,cA⟩:=hb b KE;by_cases IV:k=m
    ·subst IV;unfold bt at e;rw[aB rfl]at e;injection e with e;subst e;cases hx
    ·exact IV (h.inj k m x _ b o cap o' aQ (da k x IV e) hx hm rfl hl cA)
   ·exact(hk.own k x b o cap e hx hl).2 (.inr ⟨p,hp,KE⟩)
 ·rcases hu.iC rfl with ⟨_,_,_,_,q5⟩|⟨b',oo,cap,c',q1,_,_,q5⟩
  ·rw[q5];rfl
  ·rw[q5];rfl
 ·obtain⟨o,cap,hl⟩:=hb b hbu;exact(h.own m _ b o cap hm rfl hl).2 (.inl hF)
def kY:List (Nat×Nat)->Nat->Option Nat
 |[],_=>none
 |(j,m)::l,k=>if Nat.beq j k then some m else kY l k
def rZ(ι:Map)(r:List (Nat×Nat)):Map:=λj=>(kY r j).bind ι
def LS:List (Nat×Nat)->Bool
 |[]=>true
 |(_,m)::l=>(l.all λp=>!Nat.beq m p.2)&&LS l
theorem V5:∀{r:List (Nat×Nat)} {j m:Nat},kY r j=some m->(j,m)∈r
 |(i,q)::l,j,m,h=>by
  unfold kY at h;split at h
  ·rename_i hb;injection h with h;subst h;rw[k9 hb];exact aR ..
  ·exact bI _ (V5 h)
theorem V6:∀{r:List (Nat×Nat)},LS r=true->∀ i j m:Nat,kY r i=some m->kY r j=some m->i=j
 |(a,q)::l,h,i,j,m,h1,h2=>by
  unfold LS at h;rw[de,bB]at h;have ih:=V6 h.2;have no:∀ k,kY l k=some q->False:=λk hk=>by have:=h.1 _ (V5 hk);simp at this
  unfold kY at h1 h2;split at h1<;>split at h2
  ·rename_i e1 e2;rw[<-k9 e1,<-k9 e2]
  ·injection h1 with h1;subst h1;exact(no j h2).elim
  ·injection h2 with h2;subst h2;exact(no i h1).elim
  ·exact ih i j m h1 h2
 |[],_,i,j,m,h,_=>by cases h
def IW(a:Addr):Bool:=match a.spot with|some s=>Nat.beq s 7||Nat.beq s 9|none=>false
def yq(r:List (Nat×Nat)):Value->Value
 |.slice (some ad) n c=>if mY ad then(match kY r ad.block with|some m=>.slice (some ⟨m,ad.off,some 7⟩) n c|none=>.slice (some ad) n c)else .slice (some ad) n c
 |.pointer (some ad)=>if IW ad then(match kY r ad.block with|some m=>.pointer (some ⟨m,ad.off,ad.spot⟩)|none=>.pointer (some ad))else .pointer (some ad)
 |v=>v
def Ay(r:List (Nat×Nat)):Value->Value
 |.func f fi ca=>.func f (fi.toList.map (yq r)).toArray (ca.toList.map (yq r)).toArray
 |v=>yq r v
def Gw(r:List (Nat×Nat)):Value->Bool
 |.slice (some ad) _ _=>if mY ad then(kY r ad.block).isSome else mX ad
 |.pointer (some ad)=>if IW ad then(kY r ad.block).isSome else mX ad
 |v=>flat v&&!mZ v
def Az(r:List (Nat×Nat)):Value->Bool
 |.func _ fi ca=>fi.toList.all (Gw r)&&ca.toList.all (Gw r)
 |v=>Gw r v
theorem aDd{a:Addr}(h:IW a=true):mX a=false:=by
 unfold IW at h;unfold mX;cases hs:a.spot with
 |none=>rw[hs]at h;cases h
 |some s=>rfl
theorem aNy{r:List (Nat×Nat)}{v:i_}(h:flat v=true):yq r v=v:=by
 unfold yq;split
 ·rename_i ad n c;split
  ·rename_i ho;have:mX ad=true:=h;rw[R3 ho]at this;cases this
  ·rfl
 ·rename_i ad;split
  ·rename_i ho;have:mX ad=true:=h;rw[aDd ho]at this;cases this
  ·rfl
 ·rfl
theorem aDe{r:List (Nat×Nat)}{v:i_}(aC:Gw r v=true)(h:aL ι (yq r v) v'):aL (rZ ι r) v v':=by
 have fl:∀ v:Value,flat v=true->aL ι (yq r v) v'->aL (rZ ι r) v v':=λv hv hc=>by rw[aNy hv]at hc;rw[hc.fD hv];exact .same hv
 unfold Gw at aC;split at aC
 ·rename_i ad n c;split at aC
  ·rename_i ho;cases hr:kY r ad.block with
   |none=>rw[hr]at aC;cases aC
   |some m=>
    have uD:yq r (.slice (some ad) n c)=.slice (some ⟨m,ad.off,some 7⟩) n c:=by show(if mY ad=true then(match kY r ad.block with|some m=>Value.slice (some ⟨m,ad.off,some 7⟩) n c|none=>.slice (some ad) n c)else .slice (some ad) n c)=_;rw[aB ho,hr]
    rw[uD]at h;have hm:rZ ι r ad.block=ι m:=by unfold rZ;rw[hr];rfl
    obtain⟨bl,off,sp⟩:=ad;have vG:=Hi ho;dsimp only at vG;subst vG;rcases h.iC rfl with ⟨q1,q2,q3,q4,q5⟩|⟨b,oo,cap,c',q1,q2,q3,q5⟩
    ·dsimp only at q1 q4 hm;rw[q5,q2,q3,q4];exact .slcN (hm.trans q1)
    ·dsimp only at q1 hm q5;rw[q5];exact .slc (hm.trans q1) q2 q3
  ·exact fl _ aC h
 ·rename_i ad;split at aC
  ·rename_i ho;cases hr:kY r ad.block with
   |none=>rw[hr]at aC;cases aC
   |some m=>
    have uD:yq r (.pointer (some ad))=.pointer (some ⟨m,ad.off,ad.spot⟩):=by show(if IW ad=true then(match kY r ad.block with|some m=>Value.pointer (some ⟨m,ad.off,ad.spot⟩)|none=>.pointer (some ad))else .pointer (some ad))=_;rw[aB ho,hr]
    rw[uD]at h;have hm:rZ ι r ad.block=ι m:=by unfold rZ;rw[hr];rfl
    obtain⟨bl,off,sp⟩:=ad;dsimp only at hm h;generalize hp:Value.pointer (some ⟨m,off,sp⟩)=p at h;cases h with
    |same hf=>subst hp;have:mX ⟨m,off,sp⟩=true:=hf;rw[aDd (a:=⟨m,off,sp⟩) ho]at this;cases this
    |ptr q=>injection hp with hp;injection hp with hp;injection hp with h1 h2 h3;subst h1;subst h2;subst h3;exact .ptr (hm.trans q)
    |slc q=>cases hp
    |slcN q=>cases hp
    |opq q1 q2 q3=>injection hp with hp;injection hp with hp;injection hp with h1 h2 h3;subst h1;subst h2;subst h3;exact .opq (hm.trans q1) q2 q3
    |fn=>cases hp
    |agg=>cases hp
    |tup=>cases hp
  ·exact fl _ aC h
 ·rw[de]at aC;exact fl _ aC.1 h
theorem V7{ι:Map}{r:List (Nat×Nat)}:∀{l l':ak},(l.all (Gw r))=true->bY (aL ι) (l.map (yq r)) l'->bY (aL (rZ ι r)) l l'
 |[],_,_,h=>by cases h;exact .nil
 |v::l,_,aC,h=>by
  rw[eC,de]at aC;cases h with
  |cons h1 h2=>exact .cons (aDe aC.1 h1) (V7 aC.2 h2)
theorem aDf{r:List (Nat×Nat)}{v:i_}(aC:Az r v=true)(h:aL ι (Ay r v) v'):aL (rZ ι r) v v':=by
 unfold Az at aC;split at aC
 ·rename_i f fi ca;rw[de]at aC;obtain⟨kg,eg,rfl,h1,h2⟩:=h.Bb;have g1:=V7 aC.1 h1;have g2:=V7 aC.2 h2;have:=aL.fn (f:=f) g1 g2;simpa using this
 ·rename_i hn;have:Ay r v=yq r v:=by
   unfold Ay;split
   ·exact absurd rfl (hn _ _ _)
   ·rfl
  rw[this]at h;exact aDe aC h
theorem aNz(r:List (Nat×Nat)){v:i_}(h:mZ v=false):mZ (Ay r v)=false:=by
 cases v with
 |slice a n c=>
  cases a with
  |none=>rfl
  |some ad=>
   show mZ (if mY ad=true then(match kY r ad.block with|some m=>Value.slice (some ⟨m,ad.off,some 7⟩) n c|none=>.slice (some ad) n c)else .slice (some ad) n c)=false;split
   ·split<;>rfl
   ·rfl
 |pointer a=>
  cases a with
  |none=>rfl
  |some ad=>
   show mZ (if IW ad=true then(match kY r ad.block with|some m=>Value.pointer (some ⟨m,ad.off,ad.spot⟩)|none=>.pointer (some ad))else .pointer (some ad))=false;split
   ·split<;>rfl
   ·rfl
 |func f fi ca=>rfl
 |_=>exact h
theorem aDg{ι:Map}{r:List (Nat×Nat)}:∀{l l':ak},(l.all (Az r))=true->bY (aL ι) (l.map (Ay r)) l'->bY (aL (rZ ι r)) l l'
 |[],_,_,h=>by cases h;exact .nil
 |v::l,_,aC,h=>by
  rw[eC,de]at aC;cases h with
  |cons h1 h2=>exact .cons (aDf aC.1 h1) (aDg aC.2 h2)
def Ee(r:List (Nat×Nat)):Obj->Obj
 |.aK cs ty=>.aK (cs.map (Ay r)) ty
 |x=>x
def IX(r:List (Nat×Nat)):Obj->Prop
 |.aK cs _=>(cs.all (Az r))=true
 |.fact _=>True
 |.dead=>True
 |x=>∀ v∈x.cells,flat v=true
theorem IY(r:List (Nat×Nat))(x:Obj):(Ee r x).owns=x.owns/\(Ee r x).kh=x.kh:=by cases x<;>exact⟨rfl,rfl⟩
theorem aNA{l:pI}{r:List (Nat×Nat)}{x:Obj}(aC:IX r x)(h:jV ι w l (Ee r x)):jV (rZ ι r) w l x:=by
 have fl:∀{cs cr:ak},(∀ v∈cs,flat v=true)->bY (aL ι) cs cr->bY (aL (rZ ι r)) cs cr:=λhf h=>by rw[nQ h hf];exact k6 hf
 cases x with
 |aK cells ty=>
  obtain⟨b,cr,e1,e2,e3⟩:=h;exact⟨b,cr,e1,aDg aC e2,e3⟩
 |row cells ty size=>
  rcases h with h|⟨b,cap,cur,e1,e2,e3,e4,e5⟩
  ·exact .inl h
  ·exact .inr ⟨b,cap,cur,e1,e2,e3,e4,fl aC e5⟩
 |view cells=>
  rcases h with h|⟨b,o,cap,cs,e1,e2,e3⟩
  ·exact .inl h
  ·exact .inr ⟨b,o,cap,cs,e1,fl aC e2,e3⟩
 |fact F=>exact h
 |dead=>trivial
theorem aNB(h:aO B ι c w)(rM:∀ k,B.mp k=none){r:List (Nat×Nat)}{L:aM}(fv:LS r=true)(km:∀ j,ai L j=none↔kY r j=none)
  (hL:∀ j x m,ai L j=some x->kY r j=some m->IX r x/\c m=some (Ee r x)):aO B (rZ ι r) (ai L) w:=by
 have src:∀ j x,ai L j=some x->∃ m,kY r j=some m/\IX r x/\c m=some (Ee r x)/\rZ ι r j=ι m:=λj x e=>by
  cases hr:kY r j with
  |none=>rw[(km j).2 hr]at e;cases e
  |some m=>
   obtain⟨h1,h2⟩:=hL j x m e hr;exact⟨m,rfl,h1,h2,by unfold rZ;rw[hr];rfl⟩
 refine⟨h.base,λk e=>?_,λk x e=>?_,λk x b o cap e hx hl=>?_,λk j x y b o cap o' aQ e hx e' hy hl cA=>?_,λk j x F b o cap v e hx hl e' hv=>?_,λk x b o cap e hx hl=>?_,λj F e=>?_,λj k F F' e e' h1 h2=>?_,λk l e=>?_⟩
 ·unfold rZ;rw[(km k).1 e];rfl
 ·obtain⟨m,_,h2,h3,h4⟩:=src k x e;obtain⟨l,q1,q2⟩:=h.born m _ h3;exact⟨l,h4.trans q1,aNA h2 q2⟩
 ·obtain⟨m,_,_,h3,h4⟩:=src k x e;exact h.own m _ b o cap h3 ((IY r x).1.trans hx) (h4▸hl)
 ·obtain⟨m,h1,_,h3,h4⟩:=src k x e;obtain⟨m',oU,_,Gx,LU⟩:=src j y e';have:=h.inj m m' _ _ b o cap o' aQ h3 ((IY r x).1.trans hx) Gx ((IY r y).1.trans hy) (h4▸hl) (LU▸cA);subst this;exact V6 fv k j m h1 oU
 ·obtain⟨m,_,_,h3,h4⟩:=src k x e;obtain⟨m',_,_,Gx,LU⟩:=src j _ e';exact h.apart m m' _ F b o cap v h3 ((IY r x).1.trans hx) (h4▸hl) Gx (LU▸hv)
 ·obtain⟨m,_,_,h3,h4⟩:=src k x e;obtain⟨p1,p2⟩:=h.seen m _ b o cap h3 ((IY r x).2.trans hx) (h4▸hl);refine⟨p1,λj y o' aQ e' hy cA=>?_⟩;obtain⟨m',_,_,Gx,LU⟩:=src j y e';exact p2 m' _ o' aQ Gx ((IY r y).1.trans hy) (LU▸cA)
 ·obtain⟨m,_,_,h3,_⟩:=src j _ e;exact h.fa m F h3
 ·obtain⟨m,q1,_,h3,_⟩:=src j _ e;obtain⟨m',Be,_,Gx,_⟩:=src k _ e';have:=h.one m m' F F' h3 Gx h1 h2;subst this;exact V6 fv j k m q1 Be
 ·rw[rM k]at e;cases e
def St(B:aa)(N:Nat)(fr:aT)(M:aM)(next:Nat)(a:Act)(w:h_):Prop:=∃ ι cc,fQ B ι (bK fr) N a/\aO B ι cc w/\cY cc M/\eK cc next
section
variable{P:j_}{B:aa}{N:Nat}
theorem qU{c:Code}{next:Nat}{r:mF}{a:Act}{Q:Exit->Act->World->Prop}(g:ah P B N c fr M next r)(h:St B N fr M next a w)
  (hQ:∀ a' w',St B N r.fr r.M r.next a' w'->Q r.ex.Bk a' w'):c.wpIn (FW none) 0 P Q a w:=by
 obtain⟨ι,cc,h1,h2,h3,h4⟩:=h;exact g none ι cc a w Q h1 h2 h3 h4 λaA ct a' w' _ q2 q3 q4 q5 _ _=>hQ a' w' ⟨aA,ct,q2,q3,q4,q5⟩
theorem aDh{b:Code}{Q:Exit->Act->World->Prop}{a:Act}(n:Nat)(Inv:Nat->Act->World->Prop)(h0:Inv 0 a w)
  (body:∀ i,i<n->∀ a w,Inv i a w->∀ K:Act->World->Prop,(∀ a' w',Inv (i+1) a' w'->K a' w')->b.wpIn (FW none) 0 P (Exit.then K Q) a w)
  (last:∀ a w,Inv n a w->b.wpIn (FW none) 0 P (Exit.then (λ_ _=>False) Q) a w):(Code.loop b).wpIn (FW none) 0 P Q a w:=by
 refine SN (n+1) ?_;have key:∀ d i,i+d=n->∀ a w,Inv i a w->Code.roundsIn (FW none) 0 P b Q (d+1) a w:=by
  intro d;induction d with
  |zero=>
   intro i hi a w h;have:i=n:=by omega
   subst this;rw[Fc];exact last a w h
  |succ d ih=>
   intro i hi a w h;rw[Fc];exact body i o_ a w h _ λa' w' h'=>ih (i+1) o_ a' w' h'
 exact key n 0 o_ a w h0
theorem St.LV{tD:aT}{L:aM}{next:Nat}{a:Act}(h:St B N fr M next a w)(rM:∀ k,B.mp k=none)(r:List (Nat×Nat))(fv:LS r=true)(km:L.map (·.1)=r.map (·.1))
  (aC:∀ p∈L,IX r p.2) (hL:(r.map λp=>ai M p.2)=L.map λp=>some (Ee r p.2)) (Zq:(L.map λp=>ai L p.1)=L.map λp=>some p.2) (nk:(tD.all λp=>Az r p.2)=true) (hs:(tD.map λp=>bK fr p.1)=tD.map λp=>Ay r p.2) (hn:(r.all λp=>Nat.blt p.1 n2)=true):St B N tD L n2 a w:=by
 obtain⟨ι,cc,h1,h2,h3,h4⟩:=h;have hk:∀{L:aM} {r:List (Nat×Nat)},L.map (·.1)=r.map (·.1)->∀ j,ai L j=none↔kY r j=none:=by
  intro L;induction L with
  |nil=>intro r e j;cases r with
   |nil=>exact⟨λ_=>rfl,λ_=>rfl⟩
   |cons p r=>cases e
  |cons q L ih=>intro r e j;cases r with
   |nil=>cases e
   |cons p r=>
    injection e with e1 e2;obtain⟨q1,q2⟩:=q;obtain⟨p1,p2⟩:=p;dsimp only at e1;subst e1;unfold ai kY;cases Nat.beq q1 j with
    |true=>simp
    |false=>simpa using ih e2 j
 have aNC:∀{L:aM} {r':List (Nat×Nat)},L.map (·.1)=r'.map (·.1)->(r'.map λp=>ai M p.2)=L.map (λp=>some (Ee r p.2))->∀ j x m,ai L j=some x->kY r' j=some m->ai M m=some (Ee r x):=by
  intro L;induction L with
  |nil=>intro r' _ _ j x m e;cases e
  |cons q L ih=>intro r' e e' j x m hx hm;cases r' with
   |nil=>cases e
   |cons p r'=>
    injection e with e1 e2;injection e' with e3 e4;obtain⟨q1,q2⟩:=q;obtain⟨p1,p2⟩:=p;dsimp only at e1 e3;subst e1;unfold ai at hx;unfold kY at hm;cases hb:Nat.beq q1 j with
    |true=>
     rw[hb]at hx hm;simp only[rz]at hx hm;injection hx with hx;injection hm with hm;subst hx;subst hm;exact e3
    |false=>
     rw[hb]at hx hm;simp only[vj,vk]at hx hm;exact ih e2 e4 j x m hx hm
 refine⟨rZ ι r,ai L,⟨h1.defers,h1.size,λt=>?_⟩,aNB h2 rM fv (hk km) (λj x m e hr=>⟨aC _ (kE e),h3 m _ (aNC km hL j x m e hr)⟩),λk x e=>e,λk oF=>?_⟩
 ·have bh:∀{tD:aT},(tD.all λp=>Az r p.2)=true->(tD.map λp=>bK fr p.1)=(tD.map λp=>Ay r p.2)->(mZ (bK tD t)=true)\/(Az r (bK tD t)=true/\bK fr t=Ay r (bK tD t)):=by
   intro tD;induction tD with
   |nil=>exact λ_ _=>.inl rfl
   |cons p l ih=>
    intro ho he;rw[eC,de]at ho;injection he with e1 e2;obtain⟨p1,p2⟩:=p;rw[show bK ((p1,p2)::l) t=if Nat.beq p1 t=true then p2 else bK l t from rfl];by_cases hb:Nat.beq p1 t=true
    ·have:=k9 hb;subst this;rw[aB hb];exact .inr ⟨ho.1,e1⟩
    ·rw[az hb];exact ih ho.2 e2
  rcases bh nk hs with h|⟨q1,q2⟩
  ·exact .inl h
  ·have tU:=h1.slot t;rw[q2]at tU;have BX:mZ (Ay r (bK tD t))=false:=by
    refine aNz r ?_;generalize bK tD t=v at *;unfold Az at q1;split at q1
    ·rfl
    ·unfold Gw at q1;split at q1
     ·rfl
     ·rfl
     ·rw[de]at q1;simpa using q1.2
   exact .inr (aDf q1 (tU.Bc BX))
 ·refine(hk km k).2 ?_;cases e:kY r k with
  |none=>rfl
  |some m=>
   have:=bB.1 hn _ (V5 e);simp at this;omega
theorem aDj{c:Code}{next:Nat}{cc:g_}
  (hf:P.funcs[f]?=some fn) (hb:fn.body=some c) (hN:N=args.length+(fn.ntmps-args.length)) (dL:bY (aL ι) args args') (hm:aO B ι cc w) (ha:cY cc M) (hu:eK cc next) (nq:B.ds=[])
  (h:∀ a,St B N (jh 0 args) M next a w->c.wpIn (FW none) 0 P (bodyPost P fn Q) a w):Calls P f args'.toArray w Q:=by
 refine calls_of_wp hf hb (ZB (h _ ⟨ι,cc,⟨nq.symm,by simp[hN,dL.length],λt=>?_⟩,hm,ha,hu⟩));rcases ND dL 0 t (List.replicate (fn.ntmps-args'.length) undef)with h|h
 ·simp only[lG,rz,Hw]at h;have e:(args'.toArray++Array.replicate (fn.ntmps-args'.toArray.size) undef).getD t undef=(args'++List.replicate (fn.ntmps-args'.length) undef).getD t undef:=by simp[qv,E1,<-Array.getElem?_toList]
  dsimp only;rw[e];exact h
 ·exact .inl h
theorem aDk{next:Nat}{v:i_}{a:Act}(h:St B N fr M next a w)(nq:B.ds=[])(hv:Bu P fn fr M=some v)
  (hQ:∀ ι cc v',aO B ι cc w->cY cc M->aL ι v v'->Q (.returned v') w):bodyPost P fn Q .ret a w/\bodyPost P fn Q .normal a w:=by
 obtain⟨ι,cc,h1,h2,h3,_⟩:=h;obtain⟨v',hc,qo⟩:=NC (fn:=fn) h1 h2 h3 hv;have:=hQ ι cc v' h2 h3 hc;exact⟨⟨h1.defers.trans nq,v',qo,this⟩,⟨h1.defers.trans nq,v',qo,this⟩⟩
end
section
variable{P:j_}{B:aa}{N:Nat}
theorem aND{z:i_}(ho:BF P o=some (0,[],e,size,z))(k:Nat):cI P B o [] [(k,none)] (.slice (some ⟨k,0,some 7⟩) 0 0) [(k,.row [] e size)]:=by
 unfold BF at ho;split at ho
 ·rename_i t mf parts ck;split at ho
  ·rename_i e' ht;split at ho
   ·rename_i i hi;split at ho
    ·rename_i z' hz;injection ho with ho;injection ho with h1 ho;injection ho with h2 ho;injection ho with h3 ho;injection ho with h4 h5;subst h1;subst h3;subst h4;subst h5;refine iM.step λι c ρ w aU hm hn=>?_;have hk:c k=none:=hn _ (aR ..);have hp:parts=#[]:=by
      have:parts.toList=[]:=by simpa using h2
      exact IF.1 this
     subst hp;have uV:Map.le ι _:=gZ (l:=.at w.heap.size 0 0) (hm.dE k hk);have lE:=Hn (ty:=e') (size:=i.size) (cap:=0) (rest:=#[]) hm hk (.nil:bY (aL ι) [] []) (lG _) s_;refine⟨_,.slice (some ⟨w.heap.size,0,none⟩) 0 0,_,uV,.slc (o:=0) (off:=0) (fX _ _ _) (bF _) rfl,lE,.inl ?_⟩;simp only[execOp,ck];simp[Instr.buildSlice,jM ht,sizeOf,typeInfo,hi,newRow,Instr.fill,newObj,Sem.run];have e0:∀ f:Nat->Value,Array.map f (Array.range 0)=#[]:=λf=>IF.1 (by rw[Array.toList_map,Array.toList_range];rfl);rw[e0]
    ·cases ho
   ·cases ho
  ·cases ho
 ·cases ho
theorem aNE{idx:l_}{z:i_}(ho:BF P o=some (len,idx,e,size,z)){vs:ak}{cells:p_}(IU:∀ v∈z.cells.toList,flat v=true)(uX:0<z.cells.size)
  (Dp:Ku size len z (idx.zip vs)=some cells) (bH:cells.size=len*size) (zM:0<len*size) (hle:len*size<=16777216) (k:Nat) :
  cI P B o vs [(k,none)] (.slice (some ⟨k,0,some 7⟩) len 0) [(k,.row cells.toList e size)]:=by
 unfold BF at ho;split at ho
 ·rename_i t mf parts ck;split at ho
  ·rename_i e' ht;split at ho
   ·rename_i i hi;split at ho
    ·rename_i z' hz;injection ho with ho;injection ho with h1 ho;injection ho with h2 ho;injection ho with h3 ho;injection ho with h4 h5;subst h1;subst h2;subst h3;subst h4;subst h5;refine iM.step λι c ρ w aU hm hn=>?_;have hk:c k=none:=hn _ (aR ..);rw[ck]at aU;obtain⟨cV,aDl⟩:∃ cV,List.map ρ (parts.toList.map (·.2))=cV:=⟨_,rfl⟩;have tU:bY (aL ι) vs cV:=by rw[<-aDl];simpa[Op.operands]using aU
     have cq:List.map (λx=>(x.fst,ρ x.snd)) parts.toList=(parts.toList.map (·.1)).zip cV:=N7 parts.toList aDl;have h0z:bY (aL ι) ((Array.range (mf*i.size)).map (z'.cells[·%z'.cells.size]!)).toList ((Array.range (mf*i.size)).map (z'.cells[·%z'.cells.size]!)).toList:=k6 λv hv=>by rw[Array.toList_map,db]at hv;obtain⟨j,_,rfl⟩:=hv;rw[Cy z'.cells _ (cP _ uX)];exact IU _ s_
     obtain⟨cells',aNF,jt⟩:=Qe (ι:=ι) (place:=λj=>some (j*i.size,i.size)) (parts.toList.map λp:Nat×Operand=>p.1) tU h0z Dp;have aNG:cells'.size=mf*i.size:=by rw[<-y9,<-jt.length,y9,bH]
     have N8:mf<=maxLen:=by have:mf<=mf*i.size:=Fw _ (Nat.pos_of_mul_pos_left zM);simp[maxLen];omega
     have uV:Map.le ι _:=gZ (l:=.at w.heap.size 0 mf) (hm.dE k hk);have lE:=Hn (ty:=e') (size:=i.size) (cap:=mf) (rest:=#[]) hm hk jt N8 (by simpa using aNG);refine⟨_,.slice (some ⟨w.heap.size,0,none⟩) mf mf,_,uV,.slc (o:=0) (off:=0) (fX _ _ _) (bF _) o_,lE,.inl ?_⟩;have h0:¬(mf*i.size=0):=by omega
     have h1:¬(16777216<mf*i.size):=by omega
     simp only[execOp,ck];simp[Instr.buildSlice,jM ht,sizeOf,typeInfo,hi,zeroValue,hz,h0,h1,newRow];rw[cq,aNF];simp[newObj,Sem.run]
    ·cases ho
   ·cases ho
  ·cases ho
 ·cases ho
def aY.LW(fn:Func)(key k e size:Nat)(z:i_)(ho:BF P (au fn key)=some (0,[],e,size,z)):aY P B N:=
 .step key (au fn key) [] [(k,none)] (.slice (some ⟨k,0,some 7⟩) 0 0) [(k,.row [] e size)] (aND ho k)
def aY.bsM(fn:Func)(key k len e size:Nat)(idx:l_)(z:i_)(vs:ak)(cells:p_)(x:Obj)(hx:Obj.row cells.toList e size=x)(IU:∀ v∈z.cells.toList,flat v=true)(uX:0<z.cells.size)
  (Dp:Ku size len z (idx.zip vs)=some cells) (bH:cells.size=len*size) (zM:0<len*size) (hle:len*size<=16777216) (ho:BF P (au fn key)=some (len,idx,e,size,z)):aY P B N:=
 .step key (au fn key) vs [(k,none)] (.slice (some ⟨k,0,some 7⟩) len 0) [(k,x)] (by subst hx;exact aNE ho IU uX Dp bH zM hle k)
def aY.ap0(fn:Func)(key k m e size bytes q:Nat)(x:Obj)(new:ak)(hx:x.reads=true)(hlen:x.cells.length=m*size)(lE:x.cells=new)
  (bH:0<size) (h63:m<=maxLen) (hb:m*bytes<=140737488355328) (ho:Fx P (au fn key)=some (e,size,bytes,size,true)):aY P B N:=
 .step key (au fn key) [.slice none 0 0,.slice (some ⟨q,0,some 7⟩) m 0] [(k,none),(q,some x)] (.slice (some ⟨k,0,some 7⟩) m 0) [(k,.row new e size)] (by
  subst lE;have hs:CX B (.slice (some ⟨q,0,some 7⟩) m 0) m x.cells [(q,some x)]:=by have:=M9 (B:=B) (k:=q) (off:=0) (m:=m) (cc:=0) hx (len:=m*size) (λh=>by rw[h,kQ]);rw[mI,kG (vT hlen)]at this;exact this
  exact aI8 (B:=B) ho bH hs hlen h63 hb k)
theorem aDm{n:Nat}{vs:ak}{nd:q_}{x:m_}(h:lO P f l ty size n xs)(hs:gA B l (vs++ca) nd)(ho:dF o.op=some x)(fe:gg P f=true)(hx:(xs.all flat)=true)(k:Nat):
  cI P B o (.func (.func f) #[] ca.toArray::vs) ((k,none)::nd) (.slice (some ⟨k,0,some 7⟩) n 0) [(k,.row xs ty size)]:=by
 have:=jY (P:=P) (B:=B) (o:=o) (x:=x) (f:=f) (fi:=[]) (args:=vs) (ca:=ca) (need:=(k,none)::nd) (val:=.slice (some ⟨k,0,some 7⟩) n 0) (cZ:=[(k,.row xs ty size)]) ho fe ?_
 ·simpa using this
 ·intro ι c w hm hn args' ha;rw[ju]at ha;refine(h w args' (Ch hs hm (λp hp=>hn p (bI _ hp)) ha)).mono ?_
  rintro e w' ⟨v,rfl,h1,h2⟩
  obtain⟨aA,q1,q2,q3⟩:=Fi hm h2 (k:=k) (hn (k,none) (aR ..)) h1 (bB.1 hx);exact⟨aA,v,rfl,q1,q3,q2⟩
def LX(P:j_)(o:Oper):Bool:=match o.op with
 |.call c=>match c.callee,c.args.toList,c.argTypes.toList with
  |.builtin .len,[_],[t]=>(match P.underlying t with|some (.slice _)=>true|_=>false)
  |_,_,_=>false
 |_=>false
theorem aDn(ho:LX P o=true):∃ x t e,o.op=.call { callee:=.builtin .len,args:=#[x],argTypes:=#[t]}/\P.underlying t=some (.slice e):=by
 unfold LX at ho;split at ho
 ·rename_i c ck;split at ho
  ·rename_i x t h1 h2 h3;split at ho
   ·rename_i e ht;refine⟨x,t,e,?_,ht⟩;rw[ck];obtain⟨ce,ar,at'⟩:=c;dsimp only at h1 h2 h3;subst h1;have e1:ar=#[x]:=by rw[<-Ai (xs:=ar),h2]
    have e2:at'=#[t]:=by rw[<-Ai (xs:=at'),h3]
    rw[e1,e2]
   ·cases ho
  ·cases ho
 ·cases ho
theorem aO.less(hm:aO B ι c w){s:Nat}{cells:ak}(hk:c k=some (.row cells ty s))(m:Nat):aO B ι (bt c k (.row (cells.take m) ty s)) w:=by
 obtain⟨l,h1,h2⟩:=hm.born k _ hk;rcases h2 with ⟨h2,h3⟩|⟨b,cap,cur,e1,e2,e3,e4,e5⟩
 ·subst h3;refine hm.ext λj=>?_;unfold bt;by_cases hj:j=k
  ·rw[aB hj,hj,hk,List.take_nil]
  ·rw[az hj]
 ·subst e1;refine hm.write hk rfl h1 (.refl w) rfl rfl (bF _) (λ_ _ _=>rfl) (.inr ⟨b,cap,cur,rfl,e2,e3,e4,?_⟩) n_ rfl;have:=e5.take m;rw[Nd]at this;rw[jK];exact this
theorem aNH{s:Nat}(ho:sQ P o=some (false,true,s)){n h sz:Nat}{cells:ak}(hh:h<=n):
  cI P B o [.slice (some ⟨k,0,some 7⟩) n 0,vI h] [(k,some (.row cells ty sz))] (.slice (some ⟨k,0,some 7⟩) h 0) [(k,.row (cells.take m) ty sz)]:=by
 have:=Hx (B:=B) ho (k:=k) (off:=0) (n:=n) (cc:=0) (l:=0) (h:=h) (λ_=>rfl) n_ (lG _) hh (.inr rfl);have h0:cI P B o [.slice (some ⟨k,0,some 7⟩) n 0,vI h] [] (.slice (some ⟨k,0,some 7⟩) h 0) []:=by simpa using this
 intro R ι c a w hv hm hn K Q hK;refine h0 R ι c a w hv hm n_ K Q λaA v' w' h1 h2 h3=>hK aA v' w' h1 h2 ?_;exact aO.less h3 (hn (k,_) (aR ..)) m
def aY.cut(fn:Func)(key k n h m s sz ty:Nat)(cells new:ak)(hh:h<=n)(lE:cells.take m=new)(ho:sQ P (au fn key)=some (false,true,s)):aY P B N:=
 .step key (au fn key) [.slice (some ⟨k,0,some 7⟩) n 0,vI h] [(k,some (.row cells ty sz))] (.slice (some ⟨k,0,some 7⟩) h 0) [(k,.row new ty sz)] (by subst lE;exact aNH ho hh)
end
def AA:Code->Code|.seq a _=>a|c=>c
def wQ:Code->Code|.seq _ b=>b|c=>c
def fA(fn:Func):Code:=match fn.body with|some c=>c|none=>.skip
theorem aNI(l:l_):av l=fN (l.map λx:Nat=>(x:Int)):=by simp[av,fN];intro _ _;rfl
theorem oP.snoc{cs:ak}{i:Int}{l:List Int}(h:oP w fs cs)(hr:dp w u l.length (fN l))(hu:Go.Proofs.YthjhinbiabcfiaaGreatDoor.flat u=true):oP w (fs++[(i,l)]) (cs++[iV i,u]):=by
 induction h with
 |nil=>exact .cons hr hu .nil
 |cons h1 h2 _ ih=>exact .cons h1 h2 ih
section
variable{P:j_}{B:aa}{N:Nat}
theorem aO.aNJ(hm:aO B ι c w){s:Nat}{cells:ak}(hk:c k=some (.row cells ty s))(hl:cells'.length=cells.length)(h:∀ cr,bY (aL ι) cells cr->bY (aL ι) cells' cr):aO B ι (bt c k (.row cells' ty s)) w:=by
 obtain⟨l,h1,h2⟩:=hm.born k _ hk;rcases h2 with ⟨h2,h3⟩|⟨b,cap,cur,e1,e2,e3,e4,e5⟩
 ·subst h3;have:cells'=[]:=k8 hl;subst this;refine hm.ext λj=>?_;unfold bt;by_cases hj:j=k
  ·rw[aB hj,hj,hk]
  ·rw[az hj]
 ·subst e1;refine hm.write hk rfl h1 (.refl w) rfl rfl (bF _) (λ_ _ _=>rfl) (.inr ⟨b,cap,cur,rfl,e2,e3,e4,?_⟩) n_ rfl;rw[hl];exact h _ e5
theorem aNK(hm:aO B ι c w){cells:ak}(hk:c k=some (.row cells ty 1)):∃ u,aL ι (.slice (some ⟨k,0,some 7⟩) cells.length 0) u:=by
 obtain⟨l,h1,h2⟩:=hm.born k _ hk;rcases h2 with ⟨h2,h3⟩|⟨b,cap,cur,e1,e2,e3,e4,e5⟩
 ·subst h2;subst h3;exact⟨_,.slcN h1⟩
 ·subst e1;have hl:=e5.length;simp only[jK,y9,gP]at hl e4;exact⟨_,.slc (c:=0) (c':=cap) h1 o_ o_⟩
theorem St.nil{fr:aT}{M:aM}{next:Nat}{a:Act}{w:h_}(h:St B N fr M next a w)(t:Nat)(ht:bK fr t=.slice none 0 0)(ty:TypeId)(s:Nat):
  St B N ((t,.slice (some ⟨next,0,some 7⟩) 0 0)::fr) ((next,.row [] ty s)::M) (next+1) a w:=by
 obtain⟨ι,cc,h1,h2,h3,h4⟩:=h;have hn:=h4 next (bF _);have hle:Map.le ι (dR ι next .nil):=gZ (h2.dE next hn);refine⟨dR ι next .nil,bt cc next (.row [] ty s),⟨h1.defers,h1.size,λt'=>?_⟩,h2.add hn (.inl ⟨rfl,rfl⟩) n_ n_ n_,λk x e=>?_,λk hk=>?_⟩
 ·have h0:=h1.slot t';rw[show bK ((t,Value.slice (some ⟨next,0,some 7⟩) 0 0)::fr) t'=if Nat.beq t t'=true then .slice (some ⟨next,0,some 7⟩) 0 0 else bK fr t' from rfl];by_cases hb:Nat.beq t t'=true
  ·rw[aB hb];have:=k9 hb;subst this;rw[ht]at h0;rw[(h0.Bc rfl).fD rfl];exact .inr (.slcN (fX _ _ _))
  ·rw[az hb];exact h0.mono hle
 ·unfold ai at e;split at e
  ·rename_i hb;injection e with e;subst e;unfold bt;rw[aB (k9 hb).symm]
  ·have:=h3 k x e;have bw:k≠next:=λe'=>by subst e';rw[hn]at this;cases this
   unfold bt;rw[az bw];exact this
 ·unfold bt;rw[az o_];exact h4 k o_
theorem St.Qp{next:Nat}{a:Act}{V8:TypeId}{v0:i_}(h:St (B.jJ ks) N fr M next a w)
  (hm:ai M m=some (.row xs ty 1)) (cR:(xs.all flat)=true) (hk:ai M k=some (.row (pre++[v0,.slice (some ⟨m,0,some 7⟩) xs.length 0]) V8 2)) (hmk:m≠k) :
  ∃ u,flat u=true/\(∀ b,iU u=some b->¬B.cW b)/\St (B.jJ ((u,xs)::ks)) N fr ((k,.row (pre++[v0,u]) V8 2)::(m,.dead)::M) next a w:=by
 obtain⟨ι,cc,h1,h2,h3,h4⟩:=h;obtain⟨u,hu⟩:=aNK h2 (h3 m _ hm);obtain⟨g1,g2,g3⟩:=Go.Proofs.YthjhinbiabcfiaaGreatDoor.Qp h2 (h3 m _ hm) (bB.1 cR) hu;have Gy:bt cc m .dead k=some (.row (pre++[v0,.slice (some ⟨m,0,some 7⟩) xs.length 0]) V8 2):=by unfold bt;rw[az (λe=>hmk e.symm)];exact h3 k _ hk
 have g4:=g1.aNJ (cells':=pre++[v0,u]) Gy s_ λcr hc=>by
  have hl:(pre++[v0,Value.slice (some ⟨m,0,some 7⟩) xs.length 0]).length=cr.length:=hc.length;have c1:=hc.take (pre.length+1);have c2:=hc.drop (pre.length+1);rw[lF]at hl;have e1:(pre++[v0,Value.slice (some ⟨m,0,some 7⟩) xs.length 0]).take (pre.length+1)=pre++[v0]:=by rw[aCE];simp[kG]
  have e2:(pre++[v0,Value.slice (some ⟨m,0,some 7⟩) xs.length 0]).drop (pre.length+1)=[.slice (some ⟨m,0,some 7⟩) xs.length 0]:=by rw[List.drop_append];simp[List.drop_eq_nil_of_le]
  rw[e1]at c1;rw[e2]at c2;obtain⟨x,hx,hxc⟩:=nP c2;have:=J8 hxc hu;subst this;rw[<-Qq (pre.length+1) cr,hx,show pre++[v0,x]=(pre++[v0])++[x]by simp];exact c1.append (.cons (.same g2) .nil)
 refine⟨u,g2,g3,ι,_,⟨h1.defers,h1.size,h1.slot⟩,g4,λj x e=>?_,λj hj=>?_⟩
 ·unfold ai at e;split at e
  ·rename_i hb;injection e with e;subst e;unfold bt;rw[aB (k9 hb).symm]
  ·rename_i hb;have cg:j≠k:=λe'=>hb (by rw[e'];exact Hu k);unfold ai at e;split at e
   ·rename_i gE;injection e with e;subst e;unfold bt;rw[az cg,aB (k9 gE).symm]
   ·rename_i gE;have hjm:j≠m:=λe'=>gE (by rw[e'];exact Hu m);unfold bt;rw[az cg,az hjm];exact h3 j x e
 ·have oF:k<next:=by
   rcases e9 k next with h|h
   ·exact h
   ·have:=h4 k h;rw[h3 k _ hk]at this;cases this
  have cQ:m<next:=by
   rcases e9 m next with h|h
   ·exact h
   ·have:=h4 m h;rw[h3 m _ hm]at this;cases this
  unfold bt;rw[az o_,az o_];exact h4 j hj
def aDo(P:j_)(f:FuncId)(l:List aP)(F:Fact):Prop:=
 ∀ w vs,wD w l vs->Calls P f vs.toArray w λe w'=>∃ v,e=.returned v/\Cf w' v F/\(∀ b,F.cW v w' b->w.heap.size<=b)/\Below w.heap.size w w'
end
def Fact.mU(F:Fact)(S:Nat):Fact where
 G v w:=F.G v w/\∀ b,F.cW v w b->S<=b
 cW:=F.cW
 lt v w k h hk:=F.lt v w k h.1 hk
 dep v w w' h hs hk:=by obtain⟨h1,h2⟩:=F.dep v w w' h.1 hs hk;exact⟨⟨h1,λb hb=>h.2 b (h2 b hb)⟩,h2⟩
 rc:=F.rc
 soft hr v w w' h hs hk:=by obtain⟨h1,h2⟩:=F.soft hr v w w' h.1 hs hk;exact⟨⟨h1,λb hb=>h.2 b (h2 b hb)⟩,h2⟩
section
variable{P:j_}{B:aa}{N:Nat}
theorem aNL{F:Fact}{vs:ak}{nd:q_}{x:m_}{S:Nat}(h:aDo P f l F)(hs:gA B l vs nd)(ho:dF o.op=some x)(fe:gg P f=true)(xc:F.rc=false)(hS:∀ w,B.G w->S<=w.heap.size)(k:Nat):
  cI P B o (.func (.func f) #[] #[]::vs) ((k,none)::nd) (.pointer (some ⟨k,0,some 9⟩)) [(k,.fact (F.mU S))]:=by
 have:=jY (P:=P) (B:=B) (o:=o) (x:=x) (f:=f) (fi:=[]) (args:=vs) (ca:=[]) (need:=(k,none)::nd) (val:=.pointer (some ⟨k,0,some 9⟩)) (cZ:=[(k,.fact (F.mU S))]) ho fe ?_
 ·simpa using this
 ·intro ι c w hm hn args' ha;rw[ju,jO]at ha;refine(h w args' (Ch hs hm (λp hp=>hn p (bI _ hp)) ha)).mono ?_
  rintro e w' ⟨v,rfl,⟨h1,h2,h3⟩,h4,h5⟩
  have LY:=hS w hm.base;refine⟨dR ι k (.val v),v,rfl,gZ (hm.dE k (hn (k,none) (aR ..))),.opq (fX _ _ _) h2 h3,hm.new h5 (hn (k,none) (aR ..)) ⟨v,rfl,h1,λb hb=>dh LY (h4 b hb)⟩ n_ (λF' v' b e1 e2 hF=>?_) rfl λF' e hr=>?_⟩
  ·injection e1 with e1;subst e1;injection e2 with e2;subst e2;exact .inl (h4 b hF)
  ·injection e with e;subst e;have:F.rc=true:=hr;rw[xc]at this;cases this
structure aNM(w w':h_)(lA s1 n1:Nat)(iS:ak)(vH s2 n2:Nat)(jA:ak)(F:Fact)(v1 v2 v3:i_):Prop where
 r1:w'.ownsRow w.heap.size lA s1 v1 n1 iS
 r2:w'.ownsRow w.heap.size vH s2 v2 n2 jA
 r3:Cf w' v3 F
 f3:∀ b,F.cW v3 w' b->w.heap.size<=b
 a12:∀ b,iU v1=some b->iU v2≠some b
 Qr:∀ b,iU v1=some b->¬F.cW v3 w' b
 a23:∀ b,iU v2=some b->¬F.cW v3 w' b
def Cz(P:j_)(f:FuncId)(l:List aP)(lA s1 n1:Nat)(iS:ak)(vH s2 n2:Nat)(jA:ak)(F:Fact)(us:ak):Prop:=
 ∀ w vs,wD w l vs->Calls P f vs.toArray w λe w'=>∃ v1 v2 v3,e=.returned (.tuple (.agg #[v1,v2,v3]::us).toArray)/\aNM w w' lA s1 n1 iS vH s2 n2 jA F v1 v2 v3/\Below w.heap.size w w'
theorem IZ(hm:aO B ι c w){n:Nat}{v:i_}(hc:aL ι (.slice (some ⟨k,0,some 7⟩) n cc) v)(hb:iU v=some b):∃ o cap,ι k=some (.at b o cap):=by
 rcases hc.iC rfl with ⟨_,_,_,_,q5⟩|⟨b',oo,cap,c',q1,_,_,q5⟩
 ·rw[q5]at hb;cases hb
 ·rw[q5]at hb;injection hb with hb;subst hb;exact⟨oo,cap,q1⟩
theorem V9{k3:Nat}{jA us:ak}{F:Fact}(iO:P.follows .mixedOrders=true)(hf:P.funcs[f]?=some fn)(hl:(l.all aP.ok)=true)(n:Nat){N:Nat}(hN:N=(e6 0 l).length+(fn.ntmps-(e6 0 l).length))
  (rs:∀ w,bM P (aa.at w) N) (h:∀ w,oX (hJ (P:=P) fn n (e6 0 l) (jB 0 l) (jQ 0 l) (rs w)) [(k1,.row eW A U),(k2,.row jA a1 m1),(k3,.fact (F.mU w.heap.size))] =
   oY (hJ fn n (e6 0 l) (jB 0 l) (jQ 0 l) (rs w)) (.tuple (.agg #[.slice (some ⟨k1,0,some 7⟩) n1 0,.slice (some ⟨k2,0,some 7⟩) n2 0,.pointer (some ⟨k3,0,some 9⟩)]::us).toArray) [(k1,.row eW A U),(k2,.row jA a1 m1),(k3,.fact (F.mU w.heap.size))])
  (PH:k1≠k2) (vm:(eW.all flat)=true) (vS:eW.length=n1*U) (ij:(jA.all flat)=true) (jr:jA.length=n2*m1) (hu:(us.all flat)=true):Cz P f l A U n1 eW a1 m1 n2 jA F us:=by
 intro w vs cC;obtain⟨ι,c,h1,h2,h3,h4,h5,h6,h7⟩:=x8 cC (bB.1 hl) 0 _ _ (ub w) n_ (λ_ _=>rfl);refine u9 iO hf hN n (h w) h6 h2 h4 h3 λaA ct v' w' hle hc hm dP=>?_;obtain⟨cV,rfl,qt⟩:=hc.uR;have hc:bY (aL aA) (.agg #[.slice (some ⟨k1,0,some 7⟩) n1 0,.slice (some ⟨k2,0,some 7⟩) n2 0,.pointer (some ⟨k3,0,some 9⟩)]::us) cV.toList:=qt;cases aU:cV.toList with
 |nil=>rw[aU]at hc;cases hc
 |cons a t=>
  rw[aU]at hc;cases hc with
  |cons ha ht=>
   obtain⟨ags,rfl,gR⟩:=ha.Hj;have Cd:bY (aL aA) [.slice (some ⟨k1,0,some 7⟩) n1 0,.slice (some ⟨k2,0,some 7⟩) n2 0,.pointer (some ⟨k3,0,some 9⟩)] ags.toList:=gR;obtain⟨v1,v2,v3,e3,c1,c2,c3⟩:=JT Cd;have et:=nQ ht (bB.1 hu);have g1:=dP (k1,_) (aR ..);have g2:=dP (k2,_) (bI _ (aR ..));have g3:=dP (k3,_) (bI _ (bI _ (aR ..)));have o1:=xm hm g1 c1 o_ (bB.1 vm);have o2:=xm hm g2 c2 o_ (bB.1 ij);rw[<-vS,n9]at o1;rw[<-jr,n9]at o2;have o3:=Ah hm g3 c3;have aDp:aA k3=some (.val v3):=by
    obtain⟨lc,q1,u,q2,q3⟩:=hm.born k3 _ g3;subst q2;generalize hp:Value.pointer (some ⟨k3,0,some 9⟩)=p at c3;cases c3 with
    |same h=>subst hp;cases h
    |ptr h=>injection hp with hp;injection hp with hp;injection hp with _ _ hp;cases hp
    |slc h=>cases hp
    |slcN h=>cases hp
    |opq h4 h5 h6=>injection hp with hp;injection hp with hp;injection hp with iY;subst iY;exact h4
    |fn=>cases hp
    |agg=>cases hp
    |tup=>cases hp
   refine⟨v1,v2,v3,?_,⟨o1,o2,⟨o3.1.1,o3.2⟩,o3.1.2,λb nj gE=>?_,λb hb hF=>?_,λb hb hF=>?_⟩,hm.base⟩
   ·congr 2
    rw[<-Ai (xs:=cV),aU,et]
    congr 2
    congr 1
    rw[<-Ai (xs:=ags),e3]
   ·obtain⟨o,cap,q1⟩:=IZ hm c1 nj;obtain⟨o',aQ,q2⟩:=IZ hm c2 gE;exact PH (hm.inj k1 k2 _ _ b o cap o' aQ g1 rfl g2 rfl q1 q2)
   ·obtain⟨o,cap,q1⟩:=IZ hm c1 hb;exact hm.apart k1 k3 _ _ b o cap v3 g1 rfl q1 g3 aDp hF
   ·obtain⟨o,cap,q1⟩:=IZ hm c2 hb;exact hm.apart k2 k3 _ _ b o cap v3 g2 rfl q1 g3 aDp hF
theorem Wa{S n s:Nat}{v:i_}(hm:aO B ι c w')(hk:c k=none)(hr:w'.ownsRow S ty s v n xs)(cR:(xs.all flat)=true)(hB:∀ b,B.cW b->b<S)
  (hold:∀ j y b o cap,c j=some y->ι j=some (.at b o cap)->y.owns=true\/y.kh=true->iU v≠some b) (aNN:∀ j F u b,c j=some (.fact F)->ι j=some (.val u)->iU v=some b->¬F.cW u w' b) :
  ∃ aA,Map.le ι aA/\aO B aA (bt c k (.row xs ty s)) w'/\aL aA (.slice (some ⟨k,0,some 7⟩) n 0) v/\∀ b o cap,aA k=some (.at b o cap)->iU v=some b:=by
 have hle:∀ l,Map.le ι (dR ι k l):=λl=>gZ (hm.dE k hk);rcases hr.2 with ⟨h1,h2⟩|⟨g,cap,cur,h1,h2,h3,h4,h5,h6,h7⟩
 ·have hl:=hr.1;rw[h2,kQ]at hl;have hx:xs=[]:=k8 hl;subst h1;subst h2;subst hx;exact⟨dR ι k .nil,hle _,hm.add hk (.inl ⟨rfl,rfl⟩) n_ n_ n_,.slcN (fX _ _ _),λb o cap e=>by rw[fX]at e;cases e⟩
 ·subst h1;refine⟨dR ι k (.at g 0 cap),hle _,hm.add hk (.inr ⟨g,cap,cur,rfl,h3,h5,h6,?_⟩) (λb1 o1 lY _ e=>?_) n_ n_,.slc (o:=0) (off:=0) (fX _ _ _) h4 o_,λb1 o1 lY e=>?_⟩
  ·rw[hr.1,h7];exact k6 (bB.1 cR)
  ·injection e with e;subst e;refine⟨(zt.1 h3).1,λhF=>by have:=hB _ hF;omega,λj y o' aQ hj hy he=>hold j y g o' aQ hj he (.inl hy) rfl,λj F u hj hu hF=>aNN j F u g hj hu rfl hF,λj y o' aQ hj hy he=>hold j y g o' aQ hj he (.inr hy) rfl⟩
  ·rw[fX]at e;injection e with e;injection e with e;subst e;rfl
theorem LZ{s2:Nat}{jA:ak}{F:Fact}{us vs:ak}{nd:q_}{x:m_}{S:Nat}(h:Cz P f l A U n1 eW a1 s2 n2 jA F us)(hs:gA B l vs nd)(ho:dF o.op=some x)(fe:gg P f=true)(xc:F.rc=false)
  (f1:(eW.all flat)=true) (f2:(jA.all flat)=true) (fu:(us.all flat)=true) (hS:∀ w,B.G w->S<=w.heap.size) (k:Nat) :
  cI P B o (.func (.func f) #[] #[]::vs) ((k,none)::(k+1,none)::(k+2,none)::nd) (.tuple (.agg #[.slice (some ⟨k,0,some 7⟩) n1 0,.slice (some ⟨k+1,0,some 7⟩) n2 0,.pointer (some ⟨k+2,0,some 9⟩)]::us).toArray)
   [(k+2,.fact (F.mU S)),(k+1,.row jA a1 s2),(k,.row eW A U)]:=by
 have:=jY (P:=P) (B:=B) (o:=o) (x:=x) (f:=f) (fi:=[]) (args:=vs) (ca:=[]) (need:=(k,none)::(k+1,none)::(k+2,none)::nd)
  (val:=.tuple (.agg #[.slice (some ⟨k,0,some 7⟩) n1 0,.slice (some ⟨k+1,0,some 7⟩) n2 0,.pointer (some ⟨k+2,0,some 9⟩)]::us).toArray) (cZ:=[(k+2,.fact (F.mU S)),(k+1,.row jA a1 s2),(k,.row eW A U)]) ho fe ?_
 ·simpa using this
 ·intro ι c w hm hn args' ha;rw[ju,jO]at ha;have k0:c k=none:=hn (k,none) s_;have k1:c (k+1)=none:=hn (k+1,none) s_;have k2:c (k+2)=none:=hn (k+2,none) s_;refine(h w args' (Ch hs hm (λp hp=>hn p (by simp[hp])) ha)).mono ?_
  rintro e w' ⟨v1,v2,v3,rfl,⟨r1,r2,r3,f3,a12,Qr,a23⟩,hb⟩
  have LY:=hS w hm.base;have vJ:=hm.call hb
  -- where aWe lie
  have da:∀ j y b o cap,c j=some y->ι j=some (.at b o cap)->y.owns=true\/y.kh=true->b<w.heap.size:=λj y b o cap hj hl hy=>by
   rcases hy with hy|hy
   ·exact(hm.own j y b o cap hj hy hl).1
   ·exact(hm.seen j y b o cap hj hy hl).1
  have Qs:∀ j F u b,c j=some (.fact F)->ι j=some (.val u)->F.cW u w' b->b<w.heap.size:=λj F u b hj hu hF=>by have hF:=hm.CU hj hu hb.size (λk hk _=>hb.block k hk) hF;obtain⟨l,q1,q2⟩:=hm.born j _ hj;rw[hu]at q1;injection q1 with q1;exact q2.xb q1.symm hF
  have L0:∀ b,iU v1=some b->w.heap.size<=b:=λb hb=>by
   rcases r1.2 with ⟨h1,_⟩|⟨g,cap,cur,h1,h2,_⟩
   ·rw[h1]at hb;cases hb
   ·rw[h1]at hb;injection hb with hb;subst hb;exact h2
  have aDq:∀ b,iU v2=some b->w.heap.size<=b:=λb hb=>by
   rcases r2.2 with ⟨h1,_⟩|⟨g,cap,cur,h1,h2,_⟩
   ·rw[h1]at hb;cases hb
   ·rw[h1]at hb;injection hb with hb;subst hb;exact h2
  have Qt:∀ b,B.cW b->b<w.heap.size:=λb hF=>B.lt w b hm.base hF;obtain⟨bZ,l1,m1,c1,p1⟩:=Wa vJ k0 r1 f1 Qt (λj y b o cap hj hl hy e=>by have a:=da j y b o cap hj hl hy;have b:=L0 b e;omega) (λj F u b hj hu e hF=>by have a:=Qs j F u b hj hu hF;have b:=L0 b e;omega);have bn:∀{ι:Map} {c:g_},aO B ι c w'->∀ j y,c j=some y->∃ l,ι j=some l:=λh j y hj=>by obtain⟨l,q,_⟩:=h.born j y hj;exact⟨l,q⟩
  have back:∀{ι bZ:Map} {c:g_},aO B ι c w'->Map.le ι bZ->∀ j y l,c j=some y->bZ j=some l->ι j=some l:=λh hle j y l hj hl=>by obtain⟨l',cA⟩:=bn h j y hj;have:=hle j l' cA;rw[hl]at this;injection this with this;rw[this];exact cA
  have Qu:bt c k (.row eW A U) (k+1)=none:=by unfold bt;rw[az o_];exact k1
  have L3:∀ j y,bt c k (.row eW A U) j=some y->(j=k/\y=.row eW A U)\/(j≠k/\c j=some y):=λj y hj=>by
   unfold bt at hj;by_cases cg:j=k
   ·rw[aB cg]at hj;injection hj with hj;exact .inl ⟨cg,hj.symm⟩
   ·rw[az cg]at hj;exact .inr ⟨cg,hj⟩
  obtain⟨dO,l2,m2,c2,p2⟩:=Wa m1 Qu r2 f2 Qt (λj y b o cap hj hl hy e=>by
   rcases L3 j y hj with ⟨rfl,rfl⟩|⟨_,hj⟩
   ·exact a12 b (p1 b o cap hl) e
   ·have a:=da j y b o cap hj (back vJ l1 j y _ hj hl) hy;have b:=aDq b e;omega) (λj F u b hj hu e hF=>by
   rcases L3 j _ hj with ⟨_,h⟩|⟨_,hj⟩
   ·cases h
   ·have a:=Qs j F u b hj (back vJ l1 j _ _ hj hu) hF;have b:=aDq b e;omega)
  have k2':bt (bt c k (.row eW A U)) (k+1) (.row jA a1 s2) (k+2)=none:=by unfold bt;rw[az o_,az o_];exact k2
  have m3:aO B (dR dO (k+2) (.val v3)) (bt (bt (bt c k (.row eW A U)) (k+1) (.row jA a1 s2)) (k+2) (.fact (F.mU S))) w':=
   m2.add k2' ⟨v3,rfl,r3.1,λb hF=>dh LY (f3 b hF)⟩ n_ (λF' v b e1 e2 hF j y o' aQ hj hy he=>by
    injection e1 with e1;subst e1;injection e2 with e2;subst e2;have hF:F.cW v3 w' b:=hF;have BL:=hj;unfold bt at hj;by_cases cg:j=k+1
    ·subst cg;exact a23 b (p2 b o' aQ he) hF
    ·rw[az cg]at hj;have he1:=back m1 l2 j y _ hj he;rcases L3 j y hj with ⟨rfl,rfl⟩|⟨_,hj⟩
     ·exact Qr b (p1 b o' aQ he1) hF
     ·have h1:=da j y b o' aQ hj (back vJ l1 j y _ hj he1) (.inl hy);have h2:=f3 b hF;omega) n_ λF' e hr=>by
    injection e with e;subst e;have:F.rc=true:=hr;rw[xc]at this;cases this
  have l3:Map.le dO (dR dO (k+2) (.val v3)):=gZ (m2.dE _ k2');refine⟨_,_,rfl,l1.trans (l2.trans l3),.tup ?_,m3⟩;refine .cons (.agg (.cons (c1.mono (l2.trans l3)) (.cons (c2.mono l3) (.cons (.opq (fX _ _ _) r3.2.1 r3.2.2) .nil)))) (k6 λv hv=>bB.1 fu v hv)
end
def mC(ι aA:Map)(ns:l_):Map:=λk=>if ns.contains k then aA k else ι k
def inN(ns:l_):Value->Bool
 |.slice (some ad) _ _=>mY ad&&ns.contains ad.block
 |.pointer (some ad)=>mY ad&&ns.contains ad.block
 |.func _ fi ca=>match fi.toList,ca.toList with|[],[.pointer (some ad)]=>mY ad&&ns.contains ad.block|_,_=>false
 |_=>false
def Gz(K:Nat)(ns:l_)(v:i_):Bool:=l5 K v||inN ns v
theorem aDr{K:Nat}{ns:l_}(dG:∀ k,k<K->∀ lc,aA k=some lc->ι k=some lc){v:i_}(aC:Gz K ns v=true)(h:aL aA v v'):aL (mC ι aA ns) v v':=by
 unfold Gz at aC;rw[u5]at aC;rcases aC with aC|aC
 ·refine h.low (λk hk l e=>?_) aC;unfold mC;by_cases hc:ns.contains k=true
  ·rw[aB hc];exact e
  ·rw[az hc];exact dG k hk l e
 ·have key:∀{k:Nat} {l:pI},ns.contains k=true->aA k=some l->mC ι aA ns k=some l:=λhk e=>by unfold mC;rw[aB hk];exact e
  unfold inN at aC;split at aC
  ·rename_i ad n c;rw[de]at aC;obtain⟨bl,off,sp⟩:=ad;have vG:=Hi aC.1;have cC:=aC.2;dsimp only at vG cC;subst vG;rcases h.iC rfl with ⟨q1,q2,q3,q4,q5⟩|⟨b,oo,cap,c',q1,q2,q3,q5⟩
   ·dsimp only at q1 q4;rw[q5,q2,q3,q4];exact .slcN (key cC q1)
   ·dsimp only at q1 q5;rw[q5];exact .slc (key cC q1) q2 q3
  ·rename_i ad;rw[de]at aC;obtain⟨bl,off,sp⟩:=ad;have vG:=Hi aC.1;have cC:=aC.2;dsimp only at vG cC;subst vG;obtain⟨b,o,cap,q1,q2⟩:=h.xa rfl;dsimp only at q1 q2;rw[q2];exact .ptr (key cC q1)
  ·obtain⟨kg,eg,rfl,h1,h2⟩:=h.Bb;split at aC
   ·rename_i ad e1 e2;rw[de]at aC;obtain⟨bl,off,sp⟩:=ad;have vG:=Hi aC.1;have cC:=aC.2;dsimp only at vG cC;subst vG;rw[e2]at h2;obtain⟨u,e3,h3⟩:=nP h2;obtain⟨b,o,cap,q1,q2⟩:=h3.xa rfl;dsimp only at q1 q2;refine .fn ?_ ?_
    ·rw[e1]at h1 ⊢;cases oU:kg.toList with
     |nil=>exact .nil
     |cons _ _=>rw[oU]at h1;cases h1
    ·rw[e2,e3,q2];exact .cons (.ptr (key cC q1)) .nil
   ·cases aC
  ·cases aC
theorem Qv{K:Nat}{ns:l_}{ι aA:Map}(dG:∀ k,k<K->∀ lc,aA k=some lc->ι k=some lc):∀{l l':ak},(∀ v∈l,Gz K ns v=true)->bY (aL aA) l l'->bY (aL (mC ι aA ns)) l l'
 |_,_,_,.nil=>.nil
 |_,_,aC,.cons h1 h2=>.cons (aDr dG (aC _ (aR ..)) h1) (Qv dG (λv hv=>aC v (bI _ hv)) h2)
theorem aNO{K:Nat}{ns:l_}(dG:∀ k,k<K->∀ lc,aA k=some lc->ι k=some lc){x:Obj}(aC:∀ v∈x.cells,Gz K ns v=true){l:pI}(h:jV aA w l x):jV (mC ι aA ns) w l x:=by
 cases x with
 |aK cells ty=>obtain⟨b,cr,e1,e2,e3⟩:=h;exact⟨b,cr,e1,Qv dG aC e2,e3⟩
 |row cells ty size=>
  rcases h with h|⟨b,cap,cur,e1,e2,e3,e4,e5⟩
  ·exact .inl h
  ·exact .inr ⟨b,cap,cur,e1,e2,e3,e4,Qv dG aC e5⟩
 |view cells=>
  rcases h with h|⟨b,o,cap,cs,e1,e2,e3⟩
  ·exact .inl h
  ·exact .inr ⟨b,o,cap,cs,e1,Qv dG aC e2,e3⟩
 |fact F=>exact h
 |dead=>trivial
section
variable{P:j_}{B:aa}{w w4:h_}{K:Nat}{S:Nat->Prop}{ι:Map}{c:g_}{ns:l_}
theorem aNP(h:aO B ι c w)(hO:cY c Os)(dY:∀ k x,ai Os k=some x->x.owns=true)(th:∀ k x,ai cz k=some x->x.owns=true\/x=.dead)
  (km:∀ k,ai cz k=none↔(ai Os k=none/\ns.contains k=false)) (EU:∀ k,ns.contains k=true->c k=none) (hS:∀ b,S b->∃ k x o cap,ai Os k=some x/\ι k=some (.at b o cap))
  {aA:Map} {c':g_} (hm:aO (aa.LA w S) aA c' w4) (ti:cY c' cz) (dG:∀ k,k<K->∀ lc,aA k=some lc->ι k=some lc) (aC:∀ k x,ai cz k=some x->∀ v∈x.cells,Gz K ns v=true)
  (oF:∀ k x,ai Os k=some x->k<K):Map.le ι (mC ι aA ns)/\aO B (mC ι aA ns) (lZ c cz) w4:=by
 have hle:Map.le ι (mC ι aA ns):=λk l e=>by
  unfold mC;by_cases hc:ns.contains k=true
  ·rw[h.dE k (EU k hc)]at e;cases e
  ·rw[az hc];exact e
 have bH:w.heap.size<=w4.heap.size:=hm.base.2.2.2.1;have aK:∀ b,b<w.heap.size->¬S b->w4.heap[b]?=w.heap[b]?:=hm.base.2.2.2.2;have LB:∀ b,S b->¬B.cW b:=λb hb=>by obtain⟨k,x,o,cap,e1,e2⟩:=hS b hb;exact(h.own k x b o cap (hO k x e1) (dY k x e1) e2).2
 have da:∀ k,ns.contains k=false->mC ι aA ns k=ι k:=λk e=>by unfold mC;rw[e];rfl
 have kinds:∀ k x,lZ c cz k=some x->(ai cz k=some x/\c' k=some x/\(x.owns=true\/x=.dead))\/(ai Os k=none/\ns.contains k=false/\c k=some x):=λk x e=>by
  rw[vX]at e;cases ho:ai cz k with
  |some y=>rw[ho]at e;injection e with e;subst e;exact .inl ⟨rfl,ti k y ho,th k y ho⟩
  |none=>rw[ho]at e;exact .inr ⟨((km k).1 ho).1,((km k).1 ho).2,e⟩
 have same:∀ k x,ai cz k=some x->mC ι aA ns k=aA k:=λk x e=>by
  unfold mC;by_cases hc:ns.contains k=true
  ·rw[aB hc]
  ·rw[az hc];obtain⟨lc,q,_⟩:=hm.born k x (ti k x e);have:ai Os k≠none:=λhn=>by have:=(km k).2 ⟨hn,by simpa using hc⟩;rw[e]at this;cases this
   cases hk:ai Os k with
   |none=>exact absurd hk this
   |some y=>rw[q,dG k (oF k y hk) lc q]
 have DS:∀ k x b o cap,ai Os k=none->c k=some x->x.owns=true->ι k=some (.at b o cap)->¬S b:=λk x b o cap hn hc hx hl hs=>by obtain⟨k',x',o',aQ,e1,e2⟩:=hS b hs;have:=h.inj k k' x x' b o cap o' aQ hc hx (hO k' x' e1) (dY k' x' e1) hl e2;subst this;rw[hn]at e1;cases e1
 have DT:∀ k x b o cap,c k=some x->x.kh=true->ι k=some (.at b o cap)->¬S b:=λk x b o cap hc hx hl hs=>by obtain⟨k',x',o',aQ,e1,e2⟩:=hS b hs;exact(h.seen k x b o cap hc hx hl).2 k' x' o' aQ (hO k' x' e1) (dY k' x' e1) e2
 have xZ:∀ k F v b,c k=some (.fact F)->ι k=some (.val v)->F.cW v w b->¬S b:=λk F v b hc hl hF hs=>by obtain⟨k',x',o',aQ,e1,e2⟩:=hS b hs;exact h.apart k' k x' F b o' aQ v (hO k' x' e1) (dY k' x' e1) e2 hc hl hF
 have part:∀ k x b o cap j y o' aQ,ai cz k=some x->x.owns=true->mC ι aA ns k=some (.at b o cap)->ai Os j=none->c j=some y->y.owns=true->ι j=some (.at b o' aQ)->False:=λk x b o cap j y o' aQ hk hx hl hj hc hy cA=>by
  rcases e9 b w.heap.size with al|ga
  ·have q:=(hm.own k x b o cap (ti k x hk) hx (by rw[<-same k x hk];exact hl)).2;exact q ⟨al,DS j y b o' aQ hj hc hy cA⟩
  ·have:=(h.own j y b o' aQ hc hy cA).1;omega
 refine⟨hle,B.dep w w4 h.base hm.base.1 hm.base.2.1 hm.base.2.2.1 bH λk hk=>aK k (B.lt w k h.base hk) λhs=>LB k hs hk,?_,?_,?_,?_,?_,?_,?_,?_,h.oT.trans hle⟩
 ·intro k hk;rw[vX]at hk;cases ho:ai cz k with
  |some y=>rw[ho]at hk;cases hk
  |none=>
   rw[ho]at hk;rw[da k ((km k).1 ho).2];exact h.dE k hk
 ·intro k x hk;rcases kinds k x hk with ⟨h1,h2,h3⟩|⟨h1,hc,h2⟩
  ·obtain⟨lc,q1,q2⟩:=hm.born k x h2;exact⟨lc,by rw[same k x h1];exact q1,aNO dG (aC k x h1) q2⟩
  ·obtain⟨lc,q1,q2⟩:=h.born k x h2;refine⟨lc,by rw[da k hc];exact q1,(q2.mono hle).jJ bH (λb o cap hx e=>?_) λF v b e1 e2 hF=>?_⟩
   ·subst e;rcases hx with hx|hx
    ·exact aK b (h.own k x b o cap h2 hx q1).1 (DS k x b o cap h1 h2 hx q1)
    ·exact aK b (h.seen k x b o cap h2 hx q1).1 (DT k x b o cap h2 hx q1)
   ·subst e1;subst e2;exact aK b (q2.xb rfl hF) (xZ k F v b h2 q1 hF)
 ·intro k x b o cap hk hx hl;rcases kinds k x hk with ⟨h1,h2,h3⟩|⟨h1,hc,h2⟩
  ·have cA:aA k=some (.at b o cap):=by rw[<-same k x h1];exact hl
   obtain⟨q1,q2⟩:=hm.own k x b o cap h2 hx cA;refine⟨q1,λhF=>?_⟩;have gn:=B.lt w b h.base hF;exact q2 ⟨gn,λhs=>LB b hs hF⟩
  ·rw[da k hc]at hl;obtain⟨q1,q2⟩:=h.own k x b o cap h2 hx hl;exact⟨cF q1 bH,q2⟩
 ·intro k j x y b o cap o' aQ hk hx hj hy hl cA;rcases kinds k x hk with ⟨h1,h2,h3⟩|⟨h1,hc,h2⟩
  ·rcases kinds j y hj with ⟨p1,p2,p3⟩|⟨p1,kP,p2⟩
   ·exact hm.inj k j x y b o cap o' aQ h2 hx p2 hy (by rw[<-same k x h1];exact hl) (by rw[<-same j y p1];exact cA)
   ·rw[da j kP]at cA;exact(part k x b o cap j y o' aQ h1 hx hl p1 p2 hy cA).elim
  ·rw[da k hc]at hl;rcases kinds j y hj with ⟨p1,p2,p3⟩|⟨p1,kP,p2⟩
   ·exact(part j y b o' aQ k x o cap p1 hy cA h1 h2 hx hl).elim
   ·rw[da j kP]at cA;exact h.inj k j x y b o cap o' aQ h2 hx p2 hy hl cA
 ·intro k j x F b o cap v hk hx hl hj hv hF;rcases kinds j _ hj with ⟨_,_,p3⟩|⟨p1,nZ,p2⟩
  ·rcases p3 with p3|p3<;>cases p3
  rw[da j nZ]at hv;have hF:=h.CU p2 hv bH (λk2 fO je=>aK k2 fO (xZ j F v k2 p2 hv je)) hF;rcases kinds k x hk with ⟨h1,h2,h3⟩|⟨h1,hc,h2⟩
  ·have cA:aA k=some (.at b o cap):=by rw[<-same k x h1];exact hl
   have hb:b<w.heap.size:=by obtain⟨lc,q1,q2⟩:=h.born j _ p2;rw[hv]at q1;injection q1 with q1;subst q1;exact q2.xb rfl hF
   exact(hm.own k x b o cap h2 hx cA).2 ⟨hb,xZ j F v b p2 hv hF⟩
  ·rw[da k hc]at hl;exact h.apart k j x F b o cap v h2 hx hl p2 hv hF
 ·intro k x b o cap hk hx hl;rcases kinds k x hk with ⟨h1,h2,h3⟩|⟨h1,hc,h2⟩
  ·rcases h3 with h3|h3
   ·cases x<;>simp[Obj.owns,Obj.kh]at h3 hx
   ·subst h3;cases hx
  ·rw[da k hc]at hl;obtain⟨q1,q2⟩:=h.seen k x b o cap h2 hx hl;refine⟨cF q1 bH,λj y o' aQ hj hy cA=>?_⟩;rcases kinds j y hj with ⟨p1,p2,p3⟩|⟨p1,kP,p2⟩
   ·have jr:aA j=some (.at b o' aQ):=by rw[<-same j y p1];exact cA
    exact(hm.own j y b o' aQ p2 hy jr).2 ⟨q1,DT k x b o cap h2 hx hl⟩
   ·rw[da j kP]at cA;exact q2 j y o' aQ p2 hy cA
 ·intro j F hj;rcases kinds j _ hj with ⟨_,_,h3⟩|⟨h1,_,h2⟩
  ·rcases h3 with h3|h3<;>cases h3
  ·exact h.fa j F h2
 ·intro j k F F' hj hk;rcases kinds j _ hj with ⟨_,_,h3⟩|⟨_,_,h2⟩
  ·rcases h3 with h3|h3<;>cases h3
  rcases kinds k _ hk with ⟨_,_,h3⟩|⟨_,_,wo⟩
  ·rcases h3 with h3|h3<;>cases h3
  exact h.one j k F F' h2 wo
theorem aNQ{x:m_}{val:i_}(h:yi P f K (args++ca) Os Vs val cz)(ho:dF o.op=some x)(fe:gg P f=true)(lK:Gz K ns val=true)
  (dL:(args++ca).all (l5 K)=true) (dG:((Os++Vs).all λp=>Nat.blt p.1 K&&mO K p)=true) (aC:∀ p∈cz,∀ v∈p.2.cells,Gz K ns v=true) (dY:(Os.all λp=>p.2.owns)=true) (th:∀ p∈cz,p.2.owns=true\/p.2=.dead) (qk:(Vs.all λp=>p.2.soft)=true)
  (km:∀ k,ai cz k=none↔(ai Os k=none/\ns.contains k=false)) :
  cI P B o (.func (.func f) #[] ca.toArray::args) (((Os++Vs).map λp=>(p.1,some p.2))++ns.map λk=>(k,none)) val cz:=by
 have:=jY (P:=P) (B:=B) (o:=o) (x:=x) (f:=f) (fi:=[]) (args:=args) (ca:=ca) (need:=((Os++Vs).map λp=>(p.1,some p.2))++ns.map λk=>(k,none)) (val:=val) (cZ:=cz) ho fe ?_
 ·simpa using this
 ·intro ι c w hm hn args' ha;rw[ju]at ha;have hL:cY c (Os++Vs):=Ph λp hp=>hn p (eX.2 (.inl hp));have Nf:∀ k,ns.contains k=true->c k=none:=λk hk=>hn (k,none) (eX.2 (.inr (db.2 ⟨k,by simpa using hk,rfl⟩)));have LD:∀ k x,ai (Os++Vs) k=some x->k<K/\fE K x:=λk x e=>by have:=lN dG e;simp only[de,Bm]at this;exact⟨this.1,Af this.2⟩
  obtain⟨S,hS,K8,K9,vp⟩:=aCC hm hL LD (λk x e=>lN dY e) (λk x e=>lN qk e);have b9:bY (aL (wz ι K)) (args++ca) args':=by
   have key:∀{l l':ak},bY (aL ι) l l'->(∀ v∈l,l5 K v=true)->bY (aL (wz ι K)) l l':=by
    intro l l' h hl;induction h with
    |nil=>exact .nil
    |cons h t ih=>exact .cons (h.low (λk hk l e=>by rw[xY hk];exact e) (hl _ (aR ..))) (ih λc hc=>hl c (bI _ hc))
   exact key ha (bB.1 dL)
  refine(h (aa.LA w S) rfl _ _ w args' K8 K9 vp b9).mono ?_
  rintro e w' ⟨v',aA,c',rfl,hle,hc,bJ,ti,gL⟩
  have F6:=aCD hm hL bJ hle gL;obtain⟨g1,g2⟩:=aNP (ns:=ns) hm (λk x e=>hL k x (by rw[iE,e])) (λk x e=>lN dY e) (λk x e=>th _ (kE e)) km Nf hS bJ ti F6 (λk x e=>aC _ (kE e)) λk x e=>(LD k x (by rw[iE,e])).1;exact⟨_,v',rfl,g1,aDr F6 lK hc,g2⟩
end
section
variable{P:j_}{B:aa}{N:Nat}
def aY.tE(key i j p:Nat)(h:p=i*j)(hp:p<9223372036854775808):aY P B N:=
 .rw key (.int .i64 (IntKind.i64.wrap ((i:Int)*(j:Int)))) (vI p) (by
  have e:((i:Int)*(j:Int))=((i*j:Nat):Int):=by simp
  rw[e,<-h];have e:IntKind.i64.wrap (p:Int)=(p:Int):=by rw[eh];omega
  rw[e];rfl)
def aY.GA(key a b r:Nat)(h:r=a%b):aY P B N:=
 .rw key (.int .i64 (Int.tmod (a:Int) (b:Int))) (vI r) (by rw[zL o_,h];rfl)
def aY.GB(key a b q:Nat)(h:q=a/b)(ha:a<9223372036854775808):aY P B N:=
 .rw key (.int .i64 (IntKind.i64.wrap (Int.tdiv (a:Int) (b:Int)))) (vI q) (by
  rw[BD o_,h];have e:((a:Int)/(b:Int))=((a/b:Nat):Int):=by simp
  have hq:a/b<=a:=uh _ _;rw[e];have e:IntKind.i64.wrap ((a/b:Nat):Int)=((a/b:Nat):Int):=by rw[eh];omega
  rw[e];rfl)
theorem L4{cells:ak}(iO:P.follows .mixedOrders=true)(hf:P.funcs[f]?=some fn)(hl:(l.all aP.ok)=true)(n:Nat){N:Nat}(hN:N=(e6 0 l).length+(fn.ntmps-(e6 0 l).length))
  (rs:∀ w,bM P (aa.at w) N) (h:∀ w,oX (hJ (P:=P) fn n (e6 0 l) (jB 0 l) (jQ 0 l) (rs w)) [(k,.row cells ty size)]=oY (hJ fn n (e6 0 l) (jB 0 l) (jQ 0 l) (rs w)) (.slice (some ⟨k,0,some 7⟩) m 0) [(k,.row cells ty size)])
  (hx:(cells.all flat)=true) (hlen:m*size<=cells.length) (oc:cells.take (m*size)=xs):lO P f l ty size m xs:=by
 intro w vs cC;obtain⟨ι,c,h1,h2,h3,h4,h5,h6,h7⟩:=x8 cC (bB.1 hl) 0 _ _ (ub w) n_ (λ_ _=>rfl);refine u9 iO hf hN n (h w) h6 h2 h4 h3 λaA ct v' w' hle hc hm dP=>⟨v',rfl,?_,hm.base⟩;have:=xm hm (dP (k,_) (aR ..)) hc hlen (bB.1 hx);rwa[oc]at this
end
theorem CA{n:Nat}(h:a<bz^n):(av (ae bz n a)).take (nd bz a*1)=cJ a:=by have hle:=jw (B:=bz) d_ h;unfold cJ av;rw[gP,<-C8,Ke hle]
theorem GC{n:Nat}(h:a<bz^n):nd bz a*1<=(av (ae bz n a)).length:=by have hle:=jw (B:=bz) d_ h;rw[od,o8];omega
theorem I0(a:Nat):(jT a).ok=true:=tC a
theorem I1:(16777216:Nat)=256^3:=by decide
theorem aNR:(a%256^i/bz^(i/3)%bz)+(a/256^i%256*2^(8*(i%3)))=a%256^(i+1)/bz^(i/3)%bz:=by
 have e1:bz^(i/3)=256^(3*(i/3)):=by rw[show bz=256^3 from I1,<-sT]
 have e2:(2:Nat)^(8*(i%3))=256^(i%3):=by rw[sT]
 have e3:256^i=256^(3*(i/3))*256^(i%3):=by rw[<-eU];congr 1;omega
 have hr:256^(i%3)*256<=bz:=by rw[show bz=256^3 from I1,<-dH];exact di d_ o_
 rw[e1,e2];have m1:a%256^i/256^(3*(i/3))=a/256^(3*(i/3))%256^(i%3):=by rw[e3,BC]
 have m2:a%256^(i+1)/256^(3*(i/3))=a/256^(3*(i/3))%(256^(i%3)*256):=by rw[dH,e3,gh,BC]
 have m3:a/256^i%256=a/256^(3*(i/3))/256^(i%3)%256:=by rw[e3,lg]
 rw[m1,m2,m3];generalize a/256^(3*(i/3))=c;have hp:0<256^(i%3):=cO d_;have h1:=cP c hp;have h3:c%(256^(i%3)*256)=c%256^(i%3)+256^(i%3)*(c/256^(i%3)%256):=NM;have h4:c%(256^(i%3)*256)<256^(i%3)*256:=cP _ o_;rw[dW (cF h4 hr),h3,dW (cF h1 (dh (Fw _ d_) hr)),cX (c/256^(i%3)%256)]
theorem aNS(h:j≠i/3):a%256^i/bz^j%bz=a%256^(i+1)/bz^j%bz:=by
 have e1:bz^j=256^(3*j):=by rw[show bz=256^3 from I1,<-sT]
 rw[e1];rcases E5 h with h1|h1
 ·have k:∀ i,3*j+3<=i->a%256^i/256^(3*j)%bz=a/256^(3*j)%bz:=by
   intro i hi;have e3:256^i=256^(3*j)*(bz*256^(i-3*j-3)):=by rw[show bz=256^3 from I1,<-eU,<-eU];congr 1;omega
   rw[e3,BC,Kp]
  rw[k i o_,k (i+1) o_]
 ·have hp:∀ i,i<=3*j->a%256^i/256^(3*j)=0:=by intro i hi;exact mH (cF (cP _ (cO d_)) (di d_ hi))
  rw[hp i o_,hp (i+1) o_]
theorem aNT{n:Nat}(hi:i/3<n):(ae bz n (a%256^i)).set (i/3) (a%256^(i+1)/bz^(i/3)%bz)=ae bz n (a%256^(i+1)):=by
 apply xt
 ·simp[ae]
 ·intro j h1 h2;simp only[ae,dQ,zx]at h2;rw[HA];simp only[ae,C9,Da];by_cases hj:i/3=j
  ·rw[aB hj,hj]
  ·rw[az hj];exact aNS (kO hj)
section
variable{Bs:aa}{N a:Nat}{s:ByteArray}
def aXr(s:ByteArray)(N i:Nat):aT:=[(4,vI i),(0,.string s),(3,sl 0 N)]
def aWR(N a i:Nat):aM:=[(0,.row (av (ae bz N (a%256^i))) 3 1)]
theorem aNU(hN:N=(s.size+2)/3)(ha:a=kT s)(hi:i<s.size)(h63:s.size<35184372088832):
  ah prog Bs 38 (aI (ag f119 0)) (aXr s N i) (aWR N a i) 1 ⟨.normal,aXr s N (i+1),aWR N a (i+1),1⟩:=by
 obtain⟨c,gM,dq⟩:=Tg s hi;rw[<-ha]at dq;have xA:i/3<N:=by omega
 have hb:=aNR (a:=a) (i:=i);have h1:a%256^(i+1)/bz^(i/3)%bz<bz:=aNm;have h3:c.toNat*2^(8*(i%3))<=bz:=by rw[dq];omega
 have bT:=wP (l:=ae bz N (a%256^i)) (i:=i/3) (d:=a%256^(i+1)/bz^(i/3)%bz) (by rw[o8];exact xA);rw[aNT xA]at bT;have hg:(ae bz N (a%256^i))[i/3]?=some (a%256^i/bz^(i/3)%bz):=eR xA;have vK:IntKind.i64.wrap ((c.toNat:Int)*2^(min (8*(i%3)) IntKind.i64.bits))=((c.toNat*2^(8*(i%3)):Nat):Int):=by
  have e:(c.toNat:Int)*2^(8*(i%3))=((c.toNat*2^(8*(i%3)):Nat):Int):=by simp
  rw[show min (8*(i%3)) IntKind.i64.bits=8*(i%3)from oz (show 8*(i%3)<=64 by omega),eh,e];unfold bz at h3;omega
 rw[<-dq]at hb;unfold aWR;generalize av (ae bz N (a%256^(i+1)))=r1 at *;generalize nA:av (ae bz N (a%256^i))=r0 at *;have jl:=ew hg;rw[nA]at jl;generalize a%256^i/bz^(i/3)%bz=x at *;generalize a%256^(i+1)/bz^(i/3)%bz=y at *;generalize hp:c.toNat*2^(8*(i%3))=p at *;exact aD [.rw 13 (.int .i64 (s.size:Int)) (vI s.size) rfl,.lt 14 i s.size true (aJ hi),.rw 18 (.int .i64 (s.size:Int)) (vI s.size) rfl,.fq 19 s.size 1 (s.size-1) o_ o_,.fq 21 (s.size-1) i (s.size-1-i) o_ o_,.GB 24 i 3 (i/3) rfl o_,.ix f119 25 0 N (i/3) xA k_,.ld f119 26 3 0 (i/3) (.row r0 3 1) (vI x) rfl jl k_,.sx f119 29 s (s.size-1-i) c gM k_,.wr 30 .i64 (c.toNat:Int) (c.toNat:Int) (by rw[eh];have:=c.toNat_lt;omega),.GA 32 i 3 (i%3) rfl,.tE 33 8 (i%3) (8*(i%3)) rfl o_,.shl f119 34 .i64 (c.toNat:Int) (p:Int) (8*(i%3)) vK k_,.sum 35 x p y hb.symm (by unfold bz at h1;omega),.ix f119 36 0 N (i/3) xA k_,.st f119 100036 3 0 (i/3) (.row r0 3 1) (vI y) (.row r1 3 1) rfl bT rfl k_,.sum 16 i 1 (i+1) rfl o_]
theorem aNV(hN:N=(s.size+2)/3)(ha:a=kT s)(h63:s.size<35184372088832):
  ah prog Bs 38 (.block 0 (ag f119 0)) (aXr s N 0) (aWR N a 0) 1 ⟨.normal,[(3,sl 0 N)],aWR N a s.size,1⟩:=
 cd (id:=0) (cx (b:=aI (ag f119 0)) (r:=⟨.exit 0,[(3,sl 0 N)],aWR N a s.size,1⟩) s.size (aXr s N) (aWR N a)
  (λi k _=>kk (l:=aWR N a i) (m:=aWR N a 0) rfl k) (λi hi=>aNU hN ha hi h63) (aD [.rw 13 (.int .i64 (s.size:Int)) (vI s.size) rfl,.lt 14 s.size s.size false s_]) n_)
end
theorem aNW{s:ByteArray}(h63:s.size<35184372088832):lO prog 119 [.p (.string s)] 3 1 ((s.size+2)/3) (av (ae bz ((s.size+2)/3) (kT s))):=by
 have lo:=λBs=>aNV (Bs:=Bs) (N:=(s.size+2)/3) (a:=kT s) rfl rfl h63;have h0:av (ae bz ((s.size+2)/3) (kT s%256^0))=List.replicate ((s.size+2)/3) (vI 0):=by
  rw[sS,uf,LR]
  congr 1
  unfold ae;rw[List.eq_replicate_iff];simp
 have h1:kT s%256^s.size=kT s:=dW (Z2 s);unfold aWR at lo;rw[h0,h1]at lo;have fl:=iJ (ae bz ((s.size+2)/3) (kT s));have hl:(av (ae bz ((s.size+2)/3) (kT s))).length=(s.size+2)/3*1:=by rw[od,o8];omega
 generalize av (ae bz ((s.size+2)/3) (kT s))=r1 at *;exact x9 (k:=0) mixed func119 k_ 100 (N:=38) k_ (λ_=>[.rw 7 (.int .i64 (s.size:Int)) (vI s.size) rfl,.sum 8 s.size 2 (s.size+2) rfl o_,.GB 9 (s.size+2) 3 ((s.size+2)/3) rfl o_,.qy f119 10 0 ((s.size+2)/3) 3 8 (vI 0) (List.replicate ((s.size+2)/3) (vI 0)) rfl rfl rfl o_ (by simp[maxLen];omega) k_,.code 0 _ _ _ _ _ (lo _)]) (λ_=>k_) fl hl
section
variable{P:j_}{B:aa}{N:Nat}
def aY.next(fn:Func)(key k z n s:Nat)(h0:0<n)(ho:sQ P (au fn key)=some (true,false,s)):aY P B N:=
 .step key (au fn key) [.slice (some ⟨k,z*s,some 7⟩) (n+1) z,vI 1] [] (.slice (some ⟨k,(z+1)*s,some 7⟩) n (z+1)) [] (by have:=Hx (B:=B) ho (k:=k) (off:=z*s) (n:=n+1) (cc:=z) (l:=1) (h:=n+1) n_ (λ_=>rfl) o_ (bF _) (.inl o_);rw[<-fP,Oe]at this;simpa using this)
theorem aNX{s:Nat}(ho:sQ P o=some (true,false,s)){n:Nat}{x:Obj}(hx:x.owns=true)(j:Nat):
  cI P B o [.slice (some ⟨k,off,some 7⟩) n cc,vI n] [(j,none),(k,some x)] (.slice (some ⟨j,0,some 7⟩) 0 0) [(j,.view []),(k,.dead)]:=by
 unfold sQ at ho;split at ho
 ·rename_i t y lo hi ck;split at ho
  ·rename_i e ht;split at ho
   ·rename_i i iF;injection ho with ho;injection ho with h1 ho;injection ho with h2 h3;cases lo with
    |none=>cases h1
    |some yl=>
    cases hi with
    |some yh=>cases h2
    |none=>
    refine iM.step λι c ρ w aU hm hn=>?_;have hj:c j=none:=hn (j,none) s_;have hk:c k=some x:=hn (k,some x) s_;rw[ck]at aU;obtain⟨u,u2,hu,hc,dq⟩:=js aU;have dS:ρ y=u:=by simp[Op.operands]at hu;exact hu.1
    have e8:ρ yl=u2:=by simp[Op.operands]at hu;exact hu.2
    have dq:=dq.fD rfl;have Ho:=hm.kill k (by rw[hk];exact n_);have fY:bt c k .dead j=none:=by unfold bt;rw[az (λe=>by subst e;rw[hj]at hk;cases hk)];exact hj
    have L5:∀ y code,n<=y->(Instr.sliceBound (.int .i64 n) y code).run P w=.ok n w:=by intro y code hq;have:(0:Int)<=n/\(n:Int)<=y:=⟨by omega,by omega⟩;simp[Instr.sliceBound,asIntOf,this]
    rcases hc.iC rfl with ⟨hb,kN,qt,zi,he⟩|⟨b,oo,cap,c',hb,k7,ni,he⟩
    ·refine⟨dR ι j .nil,.slice none 0 0,w,gZ (hm.dE j hj),.slcN (fX _ _ _),Ho.add fY (.inl ⟨rfl,rfl⟩) n_ n_ n_,.inl ?_⟩;subst kN;have lp:∀ code,(Instr.sliceBound (.int .i64 0) 0 code).run P w=.ok 0 w:=λcode=>by simp[Instr.sliceBound,asIntOf]
     simp only[execOp,ck];simp[Instr.sliceAt,jM ht,Instr.slice,dS,e8,dq,he,vI,Instr.sliceBounds,lp,sizeOf,typeInfo,iF]
    ·dsimp only at hb he;obtain⟨o1,xF⟩:∃ o1,o1=(if c'=n then oo+off else oo+off+n*i.size):=⟨_,rfl⟩;have gn:=hm.own k x b oo cap hk hx hb;refine⟨dR ι j (.at b o1 (c'-n)),.slice (some ⟨b,o1+0,none⟩) 0 (c'-n),w,gZ (hm.dE j hj),.slc (fX _ _ _) (lG _) (kB _),Ho.add fY (.inr ⟨b,o1,c'-n,[],rfl,.nil,λj u h=>by simp at h⟩) n_ n_ (λb1 o2 lY _ e=>?_),.inl ?_⟩
     ·injection e with e1 e2 e3;subst e1;refine⟨gn.1,λq y o' aQ hq hy Bh=>?_⟩;unfold bt at hq;by_cases xg:q=k
      ·rw[aB xg]at hq;injection hq with hq;subst hq;cases hy
      ·rw[az xg]at hq;exact xg (hm.inj q k y x b o' aQ oo cap hq hy hk hx Bh hb)
     ·simp only[execOp,ck];by_cases iD:c'=n
      ·rw[aB iD]at xF;subst xF;subst iD;simp[Instr.sliceAt,jM ht,Instr.slice,dS,e8,dq,he,vI,Instr.sliceBounds,L5 c' _ (bF _),sizeOf,typeInfo,iF]
      ·rw[az iD]at xF;subst xF;simp[Instr.sliceAt,jM ht,Instr.slice,dS,e8,dq,he,vI,Instr.sliceBounds,L5 n _ (bF _),sizeOf,typeInfo,iF,iD,zg]
   ·cases ho
  ·cases ho
 ·cases ho
def aY.aNY(fn:Func)(key k off n cc s j:Nat)(x:Obj)(hx:x.owns=true)(ho:sQ P (au fn key)=some (true,false,s)):aY P B N:=
 .step key (au fn key) [.slice (some ⟨k,off,some 7⟩) n cc,vI n] [(j,none),(k,some x)] (.slice (some ⟨j,0,some 7⟩) 0 0) [(j,.view []),(k,.dead)] (aNX ho hx j)
def aY.aNZ(fn:Func)(key k off n cc:Nat)(l:List UInt8)(x:Obj)(hx:x.reads=true)(hc:(x.cells.drop off).take n=hY l)(hn:l.length=n)(ho:Oc P (au fn key)=true):aY P B N:=
 .step key (au fn key) [.slice (some ⟨k,off,some 7⟩) n cc] [(k,some x)] (.string (BA l)) [] (by
  unfold Oc at ho;split at ho
  ·rename_i src dst y ck;split at ho
   ·rename_i e hs hd;split at ho
    ·rename_i he;have:=YL (P:=P) (B:=B) ck hs he hd (k:=k) (off:=off) (n:=n) (cc:=cc) (y:=x) (ns:=l.map λc=>(c.toNat:Int)) hx (by rw[hc];simp[hY,Function.comp_def]) (by simpa using hn)
     have e2:=aAm l [];rw[ju]at e2;rw[show ByteArray.empty=BA []from rfl,e2]at this;exact this.step
    ·cases ho
   ·cases ho
  ·cases ho)
end
end Go.Proofs.YthjhinbiabcfiaaGreatDoor
