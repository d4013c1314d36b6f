/- Centroid and extent of solids: the proof of MeasureInsideCardSaid (the law's function answers true at every record and every direction it can be given; theorem measureInside_card, last part), part 3 of 7; no condition. -/
import Derived.Test.YtgpahigmalfpdaaGreatDoorIC2
namespace Go.Proofs.YtgpahigmalfpdaaGreatDoor
open Go Go.RowKit Tryz
variable{i m a q b j size e d off N cc r n2 len k1 k2 n1 A U a1 m1:Nat}{w w':h_}{ι aB b9:Map}{o:Oper}{c:g_}{B Bs:aa}{f:FuncId}{t:Bool}{fr:aU}{M Os cA Vs:aL}{ty:TypeId}{xs args vs ca cells' args' e6 pre:al}{α:Type}{fn:Func}{u v' res:i_}{fs:f_}{P:j_}{z:Int}{Q:Ending->World->Prop}{ks:List (Value×al)}
theorem aMg{x:m_}{k:Nat}(r:RV)(ho:dC o.op=some x):cI prog B o (.func (.func 78) #[] #[]::[r.v]) [(k,none)] (.func (.func 127) #[] #[.pointer (some ⟨k,0,some 7⟩)]) [(k,.aI r.cs 33)]:=
 aCI mixed func78 ho k_ 50 (λ_=>[]) (λ_=>k_) k_ k_
def uT(r:RV):aL:=[(0,.aI r.cs 33),(1,.aI [.bool false] 4),(2,.aI r.cs 33)]
def GL:aU:=[(1,aV 0),(2,aV 1),(6,.func (.func 127) #[] #[aV 2])]
theorem aMh(r:RV):ah prog B 12 (vX f36 0) (jb 0 [r.v]) [] 0 ⟨.normal,[(1,aV 0),(2,aV 1)],[(0,.aI r.cs 33),(1,.aI [.bool false] 4)],2⟩:=
 fv mixed 10 [] k_
theorem aMi(r:RV):ah prog B 12 (vX f36 1) [(1,aV 0),(2,aV 1)] [(0,.aI r.cs 33),(1,.aI [.bool false] 4)] 2 ⟨.normal,GL,uT r,3⟩:=
 fv mixed 10 [.step 6 (az f36 6) _ _ _ _ (aMg (k:=2) (x:=.func 78) r k_)] k_
theorem aMj(r:RV)(x:RN)(i:Int)(b:Bool)(hx:aH prog 48 [x.v] (.bool b)):
  GI prog 3 12 #[7,8] (AK (o7 f36)) (AL (o7 f36)) GL (uT r) [] (uT r) [.int .i64 i,x.v] (if b then none else some .ret):=by
 cases b
 ·exact Jf (rA:=⟨.normal,(4,aV 4)::GL,(4,.aI x.cs 31)::uT r,5⟩) (rB:=⟨.ret,[],uT r,5⟩) k_ k_ k_ k_ k_ k_ k_ k_ rfl (λB=>fv mixed 10 [] k_) rfl k_ rfl
   (λB=>fv mixed 10 [hx.at 10] k_) (λk x h=>h) rfl
 ·exact Jf (rA:=⟨.normal,(4,aV 4)::GL,(4,.aI x.cs 31)::uT r,5⟩) (rB:=⟨.normal,[],uT r,5⟩) k_ k_ k_ k_ k_ k_ k_ k_ rfl (λB=>fv mixed 10 [] k_) rfl k_ rfl
   (λB=>fv mixed 10 [hx.at 10] k_) (λk x h=>h) rfl
theorem aMk(r:RV):ah prog B 12 (.seq (vX f36 5) .ret) GL (uT r) 3 ⟨.ret,[(2,aV 1)],[(1,.aI [.bool true] 4)],3⟩:=fv mixed 10 [] k_
theorem aMl{r:RV}{bx CJ bz:Bool}(hx:aH prog 48 [r.x.v] (.bool bx))(hy:aH prog 48 [r.y.v] (.bool CJ))(hz:aH prog 48 [r.z.v] (.bool bz)){T:p_}{m:Map}{S:Nat->Prop}(fD:yI prog 3 12 GL (uT r) m S T)
  {cP:FuncId} {l D:Nat} {W1 W:h_} {κ:Map} {c:g_} {dM:al} (hm:aO (lq W1 l S m) κ c W) (ha:cZ c ((3,.fact (fV l (ky cP T #[7,8] (AK (o7 f36)) (AL (o7 f36)) D)))::(uT r++[]))) (hu:eG c (3+1)) (fm:bY (aM κ) [aV 2] dM) :
  Calls prog 127 (.func (.yield l) #[] #[]::dM).toArray W λe W'=>∃ v rm c',e=.returned v/\Map.le κ rm/\aO (lq W1 l S m) rm c' W'/\
   cZ c' ((3,.fact (fV l (Ep (ky cP T #[7,8] (AK (o7 f36)) (AL (o7 f36)) D) (if bx&&CJ&&bz then none else some .ret))))::(uT r++[]))/\∀ k,k<3->c k=none->c' k=none:=by
 have st:=λ(x:RN) (i:Int) (b:Bool) (h:aH prog 48 [x.v] (.bool b))=>Ly (W1:=W1) (l:=l) (D:=D) (cP:=cP) (x:=.tmp 16) (o:=az f127 19) (aMj r x i b h) k_ fD.size fD.jb fD.low fD.set fD.born
 cases bx
 ·exact Es mixed func127 rfl 100 (v:=.tuple #[]) (rs:=[.step 19 _ _ _ _ _ (st r.x 0 _ hx)]) hm ha hu fm k_
 ·cases CJ
  ·exact Es mixed func127 rfl 100 (v:=.tuple #[]) (rs:=[.step 19 _ _ _ _ _ (st r.x 0 _ hx),.step 19 _ _ _ _ _ (st r.y 1 _ hy)]) hm ha hu fm k_
  ·cases bz
   ·exact Es mixed func127 rfl 100 (v:=.tuple #[]) (rs:=[.step 19 _ _ _ _ _ (st r.x 0 _ hx),.step 19 _ _ _ _ _ (st r.y 1 _ hy),.step 19 _ _ _ _ _ (st r.z 2 _ hz)]) hm ha hu fm k_
   ·exact Es mixed func127 rfl 100 (v:=.tuple #[]) (rs:=[.step 19 _ _ _ _ _ (st r.x 0 _ hx),.step 19 _ _ _ _ _ (st r.y 1 _ hy),.step 19 _ _ _ _ _ (st r.z 2 _ hz)]) hm ha hu fm k_
theorem LI{r:RV}{bx CJ bz:Bool}(hx:aH prog 48 [r.x.v] (.bool bx))(hy:aH prog 48 [r.y.v] (.bool CJ))(hz:aH prog 48 [r.z.v] (.bool bz)):
  aH prog 36 [r.v] (.bool (bx&&CJ&&bz)):=by
 refine aCH (N:=12) func36 rfl rfl k_ λw a hf hm=>?_;refine kY (aMh r none _ _ a w _ hf hm n_ (λ_ _=>rfl) λtA VO a0 w0 VP xU kg ni wS xc _=>?_);refine kY (kY (aMi r none _ _ a0 w0 _ xU kg ni wS λb9 gF a1 w1 jy iq c8 eC dO iu _=>H4 ?_))
 refine P2 (next:=3) (Os:=uT r) (Vs:=[]) (cA:=uT r) (gf:=127) (ca:=[aV 2]) (j:=if bx&&CJ&&bz then none else some .ret) iq c8 eC dO (λk x h=>kN (p:=λp=>p.2.owns) k_ h) n_ k_ k_ k_ (λk=>Iff.rfl) (λk x h=>kN (p:=λp=>p.2.owns) k_ h) (λk x h=>xb (kN (p:=mT 3) k_ h))
  (λcP l D W1 S fD κ c W dM hm ha hu fm=>aMl hx hy hz fD hm ha hu fm) λD cr w' AH VQ iX dE gO eM=>?_
 by_cases hb:(bx&&CJ&&bz)=true
 ·rw[aA hb,hb];exact VM (B:=aa.at w) (v:=.bool true) (λB=>aMk r) rfl k_ iX dE gO eM rfl (λF h=>h) AH λaB v' w' hc hG=>⟨by rw[hc.fH rfl],hG⟩
 ·rw[au hb];refine wpIn_ret (aCG (B:=aa.at w) (fr:=GL) (M:=uT r++[]) (v:=.bool false) k_ iX dE gO rfl (λF h=>h) AH λaB v' w' hc hG=>⟨?_,hG⟩);rw[hc.fH rfl];cases hc:bx&&CJ&&bz
  ·rfl
  ·exact absurd hc hb
inductive aQ where
 |p (v:i_)
 |r (n:Nat) (xs:al)
 |q (xs:al)
 |f (g:FuncId) (xs:al)
 |b (n:Nat) (xs:al)
 |o (F:Fact)
 |s (n1:Nat) (je:al) (n2:Nat) (jP:al) (F:Fact)
 |a (n1:Nat) (je:al) (n2:Nat) (jP:al) (n3:Nat) (GM:al)
 |c (u:i_) (F:Fact)
variable{l:List aQ}
def P5(w:h_)(v:i_)(xs:al):Prop:=∃ b o,v=.pointer (some ⟨b,o,none⟩)/\b<w.heap.size/\∀(j:Nat) u,xs[j]?=some u->w.cell? ⟨b,o+j,none⟩=some u
def CK(w:h_)(v:i_)(F:Fact):Prop:=F.G v w/\v.cells=#[v]/\v.oneCell'=true
def aQ.In(w:h_):aQ->Value->Prop
 |.p u,v=>v=u
 |.r n xs,v=>dr w v n xs
 |.q xs,v=>P5 w v xs
 |.f g xs,v=>∃ u,v=.func (.func g) #[] #[u]/\P5 w u xs
 |.b n xs,v=>∃ b o u,v=.pointer (some ⟨b,o,none⟩)/\b<w.heap.size/\w.cell? ⟨b,o,none⟩=some u/\dr w u n xs
 |.o F,v=>CK w v F
 |.s n1 je n2 jP F,v=>∃ u1 u2 u3,v=.agg #[u1,u2,u3]/\dr w u1 n1 je/\dr w u2 n2 jP/\CK w u3 F
 |.a n1 je n2 jP n3 GM,v=>∃ u1 u2 u3,v=.agg #[u1,u2,u3]/\dr w u1 n1 je/\dr w u2 n2 jP/\dr w u3 n3 GM
 |.c u F,v=>∃ t,v=.agg #[u,t]/\CK w t F
def aQ.ok:aQ->Bool
 |.p v=>flat v
 |.r _ xs=>xs.all flat
 |.q xs=>xs.all flat
 |.f _ xs=>xs.all flat
 |.b _ xs=>xs.all flat
 |.o F=>!F.rc
 |.s _ je _ jP F=>je.all flat&&(jP.all flat&&!F.rc)
 |.a _ je _ jP _ GM=>je.all flat&&(jP.all flat&&GM.all flat)
 |.c u F=>flat u&&!F.rc
inductive xd(w:h_):List aQ->al->Prop
 |nil:xd w [] []
 |cons {a:aQ} {v:i_} {l:List aQ} {vs:al}:a.In w v->xd w l vs->xd w (a::l) (v::vs)
def eY:Nat->List aQ->al
 |_,[]=>[]
 |k,.p v::l=>v::eY k l
 |k,.r n _::l=>.slice (some ⟨k,0,some 7⟩) n 0::eY (k+1) l
 |k,.q _::l=>.pointer (some ⟨k,0,some 7⟩)::eY (k+1) l
 |k,.f g _::l=>.func (.func g) #[] #[.pointer (some ⟨k,0,some 7⟩)]::eY (k+1) l
 |k,.b _ _::l=>.pointer (some ⟨k+1,0,some 7⟩)::eY (k+2) l
 |k,.o _::l=>.pointer (some ⟨k,0,some 9⟩)::eY (k+1) l
 |k,.s n1 _ n2 _ _::l=>.agg #[.slice (some ⟨k,0,some 7⟩) n1 0,.slice (some ⟨k+1,0,some 7⟩) n2 0,.pointer (some ⟨k+2,0,some 9⟩)]::eY (k+3) l
 |k,.a n1 _ n2 _ n3 _::l=>.agg #[.slice (some ⟨k,0,some 7⟩) n1 0,.slice (some ⟨k+1,0,some 7⟩) n2 0,.slice (some ⟨k+2,0,some 7⟩) n3 0]::eY (k+3) l
 |k,.c u _::l=>.agg #[u,.pointer (some ⟨k,0,some 9⟩)]::eY (k+1) l
def jq:Nat->List aQ->aL
 |_,[]=>[]
 |k,.p _::l=>jq k l
 |k,.r _ xs::l=>(k,.view xs)::jq (k+1) l
 |k,.q xs::l=>(k,.view xs)::jq (k+1) l
 |k,.f _ xs::l=>(k,.view xs)::jq (k+1) l
 |k,.b n xs::l=>(k,.view xs)::(k+1,.view [.slice (some ⟨k,0,some 7⟩) n 0])::jq (k+2) l
 |k,.o F::l=>(k,.fact F)::jq (k+1) l
 |k,.s _ je _ jP F::l=>(k,.view je)::(k+1,.view jP)::(k+2,.fact F)::jq (k+3) l
 |k,.a _ je _ jP _ GM::l=>(k,.view je)::(k+1,.view jP)::(k+2,.view GM)::jq (k+3) l
 |k,.c _ F::l=>(k,.fact F)::jq (k+1) l
def jQ:Nat->List aQ->Nat
 |k,[]=>k
 |k,.p _::l=>jQ k l
 |k,.r _ _::l=>jQ (k+1) l
 |k,.q _::l=>jQ (k+1) l
 |k,.f _ _::l=>jQ (k+1) l
 |k,.b _ _::l=>jQ (k+2) l
 |k,.o _::l=>jQ (k+1) l
 |k,.s _ _ _ _ _::l=>jQ (k+3) l
 |k,.a _ _ _ _ _ _::l=>jQ (k+3) l
 |k,.c _ _::l=>jQ (k+1) l
theorem aCJ(hm:aO B ι c w){k:Nat}{v:i_}(hk:c k=none)(h:P5 w v xs)(cV:∀ u∈xs,flat u=true)(gi:∀ j x,c j=some x->x.owns=false):
  ∃ aB,Map.le ι aB/\aO B aB (bA c k (.view xs)) w/\aM aB (.pointer (some ⟨k,0,some 7⟩)) v:=by
 obtain⟨b,o,rfl,h2,h3⟩:=h;refine⟨dT ι k (.at b o 0),hZ (hm.dD k hk),hm.add hk (.inr ⟨b,o,0,xs,rfl,lE cV,h3⟩) n_ n_ (λb1 o1 mG _ e=>?_),?_⟩
 ·injection e with e1 e2 e3;subst e1;exact⟨h2,λj y o' aT hj hy=>by rw[gi j y hj]at hy;cases hy⟩
 ·have:=aM.ptr (off:=0) (gu ι k (.at b o 0));rwa[jv]at this
def AM(B:aa)(w:h_)(k:Nat)(ι:Map)(c:g_)(L:aL)(n:Nat)(aB:Map)(c':g_):Prop:=
 Map.le ι aB/\aO B aB c' w/\(∀ j x,c' j=some x->x.owns=false)/\eG c' n/\cZ c' L/\(∀ j,j<k->c' j=c j)/\k<=n/\(∀ j x,ak L j=some x->k<=j/\j<n)
theorem aMm{k:Nat}(hm:aO B ι c w)(ho:∀ j x,c j=some x->x.owns=false)(hu:eG c k):AM B w k ι c [] k ι c:=
 ⟨Map.le.refl _,hm,ho,hu,λj x h=>(by cases h),λ_ _=>rfl,bF _,λj x h=>(by cases h)⟩
theorem LJ{k:Nat}{x:Obj}(ho:∀ j x,c j=some x->x.owns=false)(hu:eG c k)(hle:Map.le ι b9)(hm:aO B b9 (bA c k x) w)(hx:x.owns=false):AM B w k ι c [(k,x)] (k+1) b9 (bA c k x):=by
 refine⟨hle,hm,λj y hj=>?_,λj hj=>?_,λj y hj=>?_,λj hj=>?_,zY _,λj y hj=>?_⟩
 ·unfold bA at hj;by_cases ch:j=k
  ·rw[aA ch]at hj;injection hj with hj;subst hj;exact hx
  ·rw[au ch]at hj;exact ho j y hj
 ·unfold bA;rw[au o_];exact hu j o_
 ·unfold ak at hj;split at hj
  ·rename_i hb;injection hj with hj;subst hj;unfold bA;rw[aA (lI hb).symm]
  ·cases hj
 ·unfold bA;rw[au o_]
 ·unfold ak at hj;split at hj
  ·rename_i hb;have:=lI hb;omega
  ·cases hj
theorem AM.trans{k n:Nat}{c1 c2:g_}{L L2:aL}(h:AM B w k ι c L n b9 c1)(h2:AM B w n b9 c1 L2 m aB c2):AM B w k ι c (L++L2) m aB c2:=by
 obtain⟨a1,a2,a3,a4,a5,a6,a7,a8⟩:=h;obtain⟨b1,b2,b3,b4,b5,b6,b7,b8⟩:=h2;refine⟨a1.trans b1,b2,b3,b4,λj x hj=>?_,λj hj=>by rw[b6 j o_,a6 j hj],by omega,λj x hj=>?_⟩
 ·rw[iO]at hj;cases e:ak L j with
  |some y=>
   rw[e]at hj;injection hj with hj;subst hj;rw[b6 j (a8 j _ e).2];exact a5 j _ e
  |none=>rw[e]at hj;exact b5 j x hj
 ·rw[iO]at hj;cases e:ak L j with
  |some y=>rw[e]at hj;injection hj with hj;subst hj;have:=a8 j _ e;omega
  |none=>rw[e]at hj;have:=b8 j x hj;omega
theorem GN{k n:Nat}(hm:aO B ι c w)(ho:∀ j x,c j=some x->x.owns=false)(hu:eG c k)(h:dr w u n xs)(cV:xs.all flat=true):
  ∃ aB c',AM B w k ι c [(k,.view xs)] (k+1) aB c'/\aM aB (.slice (some ⟨k,0,some 7⟩) n 0) u:=by
 obtain⟨b9,q1,q2,q3⟩:=Ad hm (hu k (bF _)) h (bC.1 cV) λb o c' _ j y o' aT hj hy=>by rw[ho j y hj]at hy;cases hy
 exact⟨b9,_,LJ ho hu q1 q2 rfl,q3⟩
theorem VR{k:Nat}{F:Fact}(hm:aO B ι c w)(ho:∀ j x,c j=some x->x.owns=false)(hu:eG c k)(h:CK w u F)(xM:F.rc=false):
  ∃ aB c',AM B w k ι c [(k,.fact F)] (k+1) aB c'/\aM aB (.pointer (some ⟨k,0,some 9⟩)) u:=by
 refine⟨dT ι k (.val u),bA c k (.fact F),LJ ho hu (hZ (hm.dD k (hu k (bF _)))) (hm.add (hu k (bF _)) ⟨u,rfl,h.1⟩ n_ (λF' v b e1 e2 hF j y o' aT hj hy=>by rw[ho j y hj]at hy;cases hy) n_ λF' e hr=>?_) rfl,.opq (gu _ _ _) h.2.1 h.2.2⟩;injection e with e;subst e;rw[xM]at hr;cases hr
theorem yJ{B:aa}{w:h_}:∀{l:List aQ} {vs:al},xd w l vs->(∀ a∈l,aQ.ok a=true)->∀(k:Nat) (ι:Map) (c:g_),aO B ι c w->(∀ j x,c j=some x->x.owns=false)->eG c k->
  ∃ aB c',Map.le ι aB/\aO B aB c' w/\eG c' (jQ k l)/\cZ c' (jq k l)/\(∀ j,j<k->c' j=c j)/\bY (aM aB) (eY k l) vs/\k<=jQ k l
 |_,_,.nil,_,k,ι,c,hm,ho,hu=>⟨ι,c,Map.le.refl _,hm,hu,λk x h=>(by cases h),λ_ _=>rfl,.nil,bF _⟩
 |_,_,.cons (a:=a) (v:=v) (l:=l) (vs:=vs) h hs,aC,k,ι,c,hm,ho,hu=>by
  have CL:∀ a∈l,aQ.ok a=true:=λa ha=>aC a (bK _ ha);have rp:=aC a (aR ..);have go:∀(L:aL) (n:Nat) (u:i_) (b9:Map) (c1:g_),AM B w k ι c L n b9 c1->aM b9 u v->
    ∃ aB c',Map.le ι aB/\aO B aB c' w/\eG c' (jQ n l)/\cZ c' (L++jq n l)/\(∀ j,j<k->c' j=c j)/\bY (aM aB) (u::eY n l) (v::vs)/\k<=jQ n l:=by
   intro L n u b9 c1 ⟨q1,q2,q3,q4,q5,q6,q7,q8⟩ q9;obtain⟨aB,c',h1,h2,h3,h4,h5,h6,h7⟩:=yJ hs CL n b9 c1 q2 q3 q4;refine⟨aB,c',q1.trans h1,h2,h3,λj x hj=>?_,λj hj=>by rw[h5 j o_,q6 j hj],.cons (q9.mono h1) h6,by omega⟩;rw[iO]at hj;cases e:ak L j with
   |some y=>
    rw[e]at hj;injection hj with hj;subst hj;rw[h5 j (q8 j _ e).2];exact q5 j _ e
   |none=>rw[e]at hj;exact h4 j x hj
  cases a with
  |p u=>
   cases h;exact go [] k _ ι c (aMm hm ho hu) (.same rp)
  |r n xs=>
   obtain⟨b9,c1,q1,q2⟩:=GN hm ho hu h rp;exact go _ _ _ b9 c1 q1 q2
  |q xs=>
   obtain⟨b9,q1,q2,q3⟩:=aCJ hm (hu k (bF _)) h (bC.1 rp) ho;exact go _ _ _ b9 _ (LJ ho hu q1 q2 rfl) q3
  |f g xs=>
   obtain⟨u,rfl,qe⟩:=h;obtain⟨b9,q1,q2,q3⟩:=aCJ hm (hu k (bF _)) qe (bC.1 rp) ho;exact go _ _ _ b9 _ (LJ ho hu q1 q2 rfl) (.fn .nil (.cons q3 .nil))
  |b n xs=>
   obtain⟨b,o,u,rfl,hb,lW,jW⟩:=h;obtain⟨b9,c1,q1,q2⟩:=GN hm ho hu jW rp;obtain⟨a1,a2,a3,a4,a5,a6,a7,a8⟩:=q1;have dE:aO B (dT b9 (k+1) (.at b o 0)) (bA c1 (k+1) (.view [.slice (some ⟨k,0,some 7⟩) n 0])) w:=by
    refine a2.add (a4 _ (bF _)) (.inr ⟨b,o,0,[u],rfl,.cons (q2.mono (hZ (a2.dD _ (a4 _ (bF _))))) .nil,λj x hj=>?_⟩) n_ n_ (λb1 o1 mG _ e1=>?_)
    ·cases j with
     |zero=>simp at hj;subst hj;exact lW
     |succ j=>simp at hj
    ·injection e1 with e1 e2 e3;subst e1;exact⟨hb,λj y o' aT hj hy=>by rw[a3 j y hj]at hy;cases hy⟩
   have h2:=LJ a3 a4 (hZ (a2.dD _ (a4 _ (bF _)))) dE rfl;have:=aM.ptr (off:=0) (gu b9 (k+1) (.at b o 0));rw[jv]at this;exact go _ _ _ _ _ (AM.trans ⟨a1,a2,a3,a4,a5,a6,a7,a8⟩ h2) this
  |o F=>
   obtain⟨b9,c1,q1,q2⟩:=VR hm ho hu h (by simpa[aQ.ok]using rp);exact go _ _ _ b9 c1 q1 q2
  |s n1 je n2 jP F=>
   simp only[aQ.ok,dc,zZ]at rp;obtain⟨u1,u2,u3,rfl,r1,r2,r3⟩:=h;obtain⟨b9,c1,q1,p1⟩:=GN hm ho hu r1 rp.1;obtain⟨dQ,c2,q2,p2⟩:=GN q1.2.1 q1.2.2.1 q1.2.2.2.1 r2 rp.2.1;obtain⟨LK,c3,q3,p3⟩:=VR q2.2.1 q2.2.2.1 q2.2.2.2.1 r3 rp.2.2;exact go _ _ _ LK c3 (q1.trans (q2.trans q3)) (.agg (.cons (p1.mono (q2.1.trans q3.1)) (.cons (p2.mono q3.1) (.cons p3 .nil))))
  |a n1 je n2 jP n3 GM=>
   simp only[aQ.ok,dc]at rp;obtain⟨u1,u2,u3,rfl,r1,r2,r3⟩:=h;obtain⟨b9,c1,q1,p1⟩:=GN hm ho hu r1 rp.1;obtain⟨dQ,c2,q2,p2⟩:=GN q1.2.1 q1.2.2.1 q1.2.2.2.1 r2 rp.2.1;obtain⟨LK,c3,q3,p3⟩:=GN q2.2.1 q2.2.2.1 q2.2.2.2.1 r3 rp.2.2;exact go _ _ _ LK c3 (q1.trans (q2.trans q3)) (.agg (.cons (p1.mono (q2.1.trans q3.1)) (.cons (p2.mono q3.1) (.cons p3 .nil))))
  |c u F=>
   simp only[aQ.ok,dc,zZ]at rp;obtain⟨t,rfl,h⟩:=h;obtain⟨b9,c1,q1,q2⟩:=VR hm ho hu h rp.2;exact go _ _ _ b9 c1 q1 (.agg (.cons (.same rp.1) (.cons q2 .nil)))
def cx(P:j_)(f:FuncId)(l:List aQ)(res:i_):Prop:=
 ∀ w vs,xd w l vs->Calls P f vs.toArray w λe w'=>e=.returned res/\Below w.heap.size w w'
def mz(P:j_)(f:FuncId)(l:List aQ)(ty:TypeId)(size n:Nat)(xs:al):Prop:=
 ∀ w vs,xd w l vs->Calls P f vs.toArray w λe w'=>∃ v,e=.returned v/\w'.ownsRow w.heap.size ty size v n xs/\Below w.heap.size w w'
section
variable{P:j_}{B:aa}{N:Nat}
theorem iL{v:i_}(ja:P.follows .mixedOrders=true)(hf:P.funcs[f]?=some fn)(hl:(l.all aQ.ok)=true)(n:Nat){N:Nat}(hN:N=(eY 0 l).length+(fn.ntmps-(eY 0 l).length))
  (rs:∀ w,bN P (aa.at w) N) (h:∀ w,pv (iv (P:=P) fn n (eY 0 l) (jq 0 l) (jQ 0 l) (rs w)) []=pw (iv fn n (eY 0 l) (jq 0 l) (jQ 0 l) (rs w)) v []) (hv:flat v=true):cx P f l v:=by
 intro w vs cy;obtain⟨ι,c,h1,h2,h3,h4,h5,h6,h7⟩:=yJ cy (bC.1 hl) 0 _ _ (uE w) n_ (λ_ _=>rfl);exact vH ja hf hN n (h w) h6 h2 h4 h3 λaB cr v' w' hle hc hm _=>⟨by rw[hc.fH hv],hm.base⟩
theorem yK{k:Nat}(ja:P.follows .mixedOrders=true)(hf:P.funcs[f]?=some fn)(hl:(l.all aQ.ok)=true)(n:Nat){N:Nat}(hN:N=(eY 0 l).length+(fn.ntmps-(eY 0 l).length))
  (rs:∀ w,bN P (aa.at w) N) (h:∀ w,pv (iv (P:=P) fn n (eY 0 l) (jq 0 l) (jQ 0 l) (rs w)) [(k,.row xs ty size)]=pw (iv fn n (eY 0 l) (jq 0 l) (jQ 0 l) (rs w)) (.slice (some ⟨k,0,some 7⟩) m 0) [(k,.row xs ty size)])
  (hx:(xs.all flat)=true) (hlen:xs.length=m*size):mz P f l ty size m xs:=by
 intro w vs cy;obtain⟨ι,c,h1,h2,h3,h4,h5,h6,h7⟩:=yJ cy (bC.1 hl) 0 _ _ (uE w) n_ (λ_ _=>rfl);refine vH ja hf hN n (h w) h6 h2 h4 h3 λaB cr v' w' hle hc hm dW=>⟨v',rfl,?_,hm.base⟩;have:=xX hm (dW (k,_) (aR ..)) hc o_ (bC.1 hx);rwa[<-hlen,oD]at this
inductive gC(B:aa):List aQ->al->List (Nat×Option Obj)->Prop
 |nil:gC B [] [] []
 |p {v:i_} {l:List aQ} {vs:al} {nd:q_}:flat v=true->gC B l vs nd->gC B (.p v::l) (v::vs) nd
 |w {k n cc:Nat} {x:Obj} {l:List aQ} {vs:al} {nd:q_}:x.reads=true->(x.cells.all flat)=true->(n=0->x.cells=[])->gC B l vs nd->gC B (.r n x.cells::l) (.slice (some ⟨k,0,some 7⟩) n cc::vs) ((k,some x)::nd)
 |r {k off n cc len:Nat} {x:Obj} {l:List aQ} {vs:al} {nd:q_}:x.reads=true->(x.cells.all flat)=true->(n=0->len=0)->gC B l vs nd->gC B (.r n ((x.cells.drop off).take len)::l) (.slice (some ⟨k,off,some 7⟩) n cc::vs) ((k,some x)::nd)
 |q {k:Nat} {x:Obj} {l:List aQ} {vs:al} {nd:q_}:x.reads=true->(x.cells.all flat)=true->gC B l vs nd->gC B (.q x.cells::l) (.pointer (some ⟨k,0,some 7⟩)::vs) ((k,some x)::nd)
 |f {g:FuncId} {k:Nat} {x:Obj} {l:List aQ} {vs:al} {nd:q_}:x.reads=true->(x.cells.all flat)=true->gC B l vs nd->gC B (.f g x.cells::l) (.func (.func g) #[] #[.pointer (some ⟨k,0,some 7⟩)]::vs) ((k,some x)::nd)
 |b {k m n cc:Nat} {x y:Obj} {l:List aQ} {vs:al} {nd:q_}:y.reads=true->y.cells=[.slice (some ⟨k,0,some 7⟩) n cc]->x.reads=true->(x.cells.all flat)=true->(n=0->x.cells=[])->gC B l vs nd->gC B (.b n x.cells::l) (.pointer (some ⟨m,0,some 7⟩)::vs) ((m,some y)::(k,some x)::nd)
 |o {k:Nat} {F:Fact} {l:List aQ} {vs:al} {nd:q_}:gC B l vs nd->gC B (.o F::l) (.pointer (some ⟨k,0,some 9⟩)::vs) ((k,some (.fact F))::nd)
 |e {v:i_} {n:Nat} {xs:al} {l:List aQ} {vs:al} {nd:q_}:flat v=true->(∀ w,B.G w->dr w v n xs)->gC B l vs nd->gC B (.r n xs::l) (v::vs) nd
 |s {k1 n1 c1 k2 n2 c2 k3:Nat} {x1 x2:Obj} {F:Fact} {l:List aQ} {vs:al} {nd:q_}:x1.reads=true->(x1.cells.all flat)=true->(n1=0->x1.cells=[])->x2.reads=true->(x2.cells.all flat)=true->(n2=0->x2.cells=[])->gC B l vs nd->
   gC B (.s n1 x1.cells n2 x2.cells F::l) (.agg #[.slice (some ⟨k1,0,some 7⟩) n1 c1,.slice (some ⟨k2,0,some 7⟩) n2 c2,.pointer (some ⟨k3,0,some 9⟩)]::vs) ((k1,some x1)::(k2,some x2)::(k3,some (.fact F))::nd)
 |oi {k:Nat} {F F':Fact} {l:List aQ} {vs:al} {nd:q_}:(∀ v w,F'.G v w->F.G v w)->gC B l vs nd->gC B (.o F::l) (.pointer (some ⟨k,0,some 9⟩)::vs) ((k,some (.fact F'))::nd)
 |si {k1 n1 c1 k2 n2 c2 k3:Nat} {x1 x2:Obj} {F F':Fact} {l:List aQ} {vs:al} {nd:q_}:(∀ v w,F'.G v w->F.G v w)->x1.reads=true->(x1.cells.all flat)=true->(n1=0->x1.cells=[])->x2.reads=true->(x2.cells.all flat)=true->(n2=0->x2.cells=[])->gC B l vs nd->
   gC B (.s n1 x1.cells n2 x2.cells F::l) (.agg #[.slice (some ⟨k1,0,some 7⟩) n1 c1,.slice (some ⟨k2,0,some 7⟩) n2 c2,.pointer (some ⟨k3,0,some 9⟩)]::vs) ((k1,some x1)::(k2,some x2)::(k3,some (.fact F'))::nd)
 |c {u:i_} {k:Nat} {F F':Fact} {l:List aQ} {vs:al} {nd:q_}:flat u=true->(∀ v w,F'.G v w->F.G v w)->gC B l vs nd->gC B (.c u F::l) (.agg #[u,.pointer (some ⟨k,0,some 9⟩)]::vs) ((k,some (.fact F'))::nd)
theorem AN(hm:aO B ι c w){k:Nat}{F:Fact}{v:i_}(hk:c k=some (.fact F))(hc:aM ι (.pointer (some ⟨k,0,some 9⟩)) v):CK w v F:=by
 obtain⟨l,h1,u,h2,h3⟩:=hm.born k _ hk;subst h2;generalize hp:Value.pointer (some ⟨k,0,some 9⟩)=p at hc;cases hc with
 |same h=>subst hp;cases h
 |ptr h=>injection hp with hp;injection hp with hp;injection hp with _ _ hp;cases hp
 |slc h=>cases hp
 |slcN h=>cases hp
 |opq h4 h5 h6=>
  injection hp with hp;injection hp with hp;injection hp with jk;subst jk;rw[h1]at h4;injection h4 with h4;injection h4 with h4;subst h4;exact⟨h3,h5,h6⟩
 |fn=>cases hp
 |agg=>cases hp
 |tup=>cases hp
theorem aCK(hm:aO B ι c w){k:Nat}{x:Obj}{v:i_}(hk:c k=some x)(hx:x.reads=true)(cV:∀ u∈x.cells,flat u=true)(hc:aM ι (.pointer (some ⟨k,0,some 7⟩)) v):P5 w v x.cells:=by
 obtain⟨b,o,cap,hb,rfl⟩:=hc.xK rfl;obtain⟨l,h1,h2⟩:=hm.born k x hk;dsimp only at hb;rw[hb]at h1;injection h1 with h1;subst h1;obtain⟨ct,gv,lW⟩:=h2.at hx;have gv:=oj gv cV;subst gv;refine⟨b,o,by simp,?_,λj u hj=>lW j u hj⟩;by_cases ho:x.owns=true
 ·exact(hm.own k x b o cap hk ho hb).1
 ·have hv:x.kF=true:=by unfold Obj.reads at hx;rw[vG]at hx;exact hx.resolve_left ho
  exact(hm.seen k x b o cap hk hv hb).1
theorem CM{nd:q_}(h:gC B l vs nd)(hm:aO B ι c w):∀{args:al},(∀ p∈nd,c p.1=p.2)->bY (aM ι) vs args->xd w l args:=by
 induction h with
 |nil=>intro args _ h;cases h;exact .nil
 |p hv _ ih=>
  intro args hn h;cases h with
  |cons h1 h2=>exact .cons (h1.fH hv) (ih hn h2)
 |@w k n cc x l vs nd hx cV hlen _ ih=>
  intro args hn h;cases h with
  |cons h1 h2=>
   refine .cons ?_ (ih (λp hp=>hn p (bK _ hp)) h2);have:=pA (len:=x.cells.length) hm (hn (k,some x) (aR ..)) hx (bC.1 cV) (λh=>by rw[hlen h];rfl) h1;rw[nk,oD]at this;exact this
 |@r k off n cc len x l vs nd hx cV hlen _ ih=>
  intro args hn h;cases h with
  |cons h1 h2=>
   refine .cons ?_ (ih (λp hp=>hn p (bK _ hp)) h2);exact pA (len:=len) hm (hn (k,some x) (aR ..)) hx (bC.1 cV) hlen h1
 |@q k x l vs nd hx cV _ ih=>
  intro args hn h;cases h with
  |cons h1 h2=>exact .cons (aCK hm (hn (k,some x) (aR ..)) hx (bC.1 cV) h1) (ih (λp hp=>hn p (bK _ hp)) h2)
 |@f g k x l vs nd hx cV _ ih=>
  intro args hn h;cases h with
  |cons h1 h2=>
   refine .cons ?_ (ih (λp hp=>hn p (bK _ hp)) h2);obtain⟨kE,dM,rfl,q1,q2⟩:=h1.BL;have ef:kE=#[]:=by
    cases jO:kE.toList with
    |nil=>exact Je.1 jO
    |cons _ _=>rw[jO]at q1;cases q1
   subst ef;have q2:bY (aM ι) [.pointer (some ⟨k,0,some 7⟩)] dM.toList:=q2;cases fm:dM.toList with
   |nil=>rw[fm]at q2;cases q2
   |cons u t=>
    rw[fm]at q2;cases q2 with
    |cons q3 q4=>
     cases q4;refine⟨u,?_,aCK hm (hn (k,some x) (aR ..)) hx (bC.1 cV) q3⟩
     congr 1
     apply Fx;rw[fm]
 |@b k m n cc x y l vs nd hy hyc hx cV hlen _ ih=>
  intro args hn h;cases h with
  |@cons _ u _ _ h1 h2=>
   refine .cons ?_ (ih (λp hp=>hn p (bK _ (bK _ hp))) h2);obtain⟨b,o,cap,hb,rfl⟩:=h1.xK rfl;have hk:=hn (m,some y) (aR ..);obtain⟨lc,g1,g2⟩:=hm.born m y hk;dsimp only at hb;rw[hb]at g1;injection g1 with g1;subst g1;obtain⟨ct,gv,lW⟩:=g2.at hy;rw[hyc]at gv;obtain⟨u,rfl,hu⟩:=oh gv;have jW:=pA (len:=x.cells.length) hm (hn (k,some x) (bK _ (aR ..))) hx (bC.1 cV) (λh=>by rw[hlen h];rfl) hu;rw[nk,oD]at jW;refine⟨b,o,u,by simp,?_,?_,jW⟩
   ·by_cases ho:y.owns=true
    ·exact(hm.own m y b o cap hk ho hb).1
    ·have hv:y.kF=true:=by unfold Obj.reads at hy;rw[vG]at hy;exact hy.resolve_left ho
     exact(hm.seen m y b o cap hk hv hb).1
   ·have:=lW 0 u rfl;simpa using this
 |@o k F l vs nd _ ih=>
  intro args hn h;cases h with
  |cons h1 h2=>exact .cons (AN hm (hn (k,_) (aR ..)) h1) (ih (λp hp=>hn p (bK _ hp)) h2)
 |@c u k F F' l vs nd hu hi _ ih=>
  intro args hn h;cases h with
  |cons h1 h2=>
   refine .cons ?_ (ih (λp hp=>hn p (bK _ hp)) h2);obtain⟨cs,rfl,gv⟩:=h1.HU;obtain⟨a,b,cd,q1,q2⟩:=jH gv;have ck:=AN hm (hn (k,_) (aR ..)) q2;refine⟨b,?_,hi _ _ ck.1,ck.2⟩;rw[q1.fH hu]at cd
   congr 1
   apply Fx;rw[cd]
 |@e v n xs l vs nd hv hB _ ih=>
  intro args hn h;cases h with
  |cons h1 h2=>
   refine .cons ?_ (ih hn h2);rw[h1.fH hv];exact hB w hm.base
 |@s k1 n1 c1 k2 n2 c2 k3 x1 x2 F l vs nd r1 f1 l1 r2 f2 l2 _ ih=>
  intro args hn h;cases h with
  |cons h1 h2=>
   refine .cons ?_ (ih (λp hp=>hn p (bK _ (bK _ (bK _ hp)))) h2);obtain⟨us,rfl,LL⟩:=h1.HU;obtain⟨u1,u2,u3,hu,q1,q2,q3⟩:=Kk LL;have p1:=pA (len:=x1.cells.length) hm (hn (k1,some x1) (aR ..)) r1 (bC.1 f1) (λh=>by rw[l1 h];rfl) q1;have p2:=pA (len:=x2.cells.length) hm (hn (k2,some x2) (bK _ (aR ..))) r2 (bC.1 f2) (λh=>by rw[l2 h];rfl) q2;rw[nk,oD]at p1 p2;refine⟨u1,u2,u3,?_,p1,p2,AN hm (hn (k3,_) (bK _ (bK _ (aR ..)))) q3⟩
   congr 1
   rw[<-yL (xs:=us),hu]
 |@oi k F F' l vs nd himp _ ih=>
  intro args hn h;cases h with
  |cons h1 h2=>
   have h3:=AN hm (hn (k,_) (aR ..)) h1;exact .cons ⟨himp _ _ h3.1,h3.2⟩ (ih (λp hp=>hn p (bK _ hp)) h2)
 |@si k1 n1 c1 k2 n2 c2 k3 x1 x2 F F' l vs nd himp r1 f1 l1 r2 f2 l2 _ ih=>
  intro args hn h;cases h with
  |cons h1 h2=>
   refine .cons ?_ (ih (λp hp=>hn p (bK _ (bK _ (bK _ hp)))) h2);obtain⟨us,rfl,LL⟩:=h1.HU;obtain⟨u1,u2,u3,hu,q1,q2,q3⟩:=Kk LL;have p1:=pA (len:=x1.cells.length) hm (hn (k1,some x1) (aR ..)) r1 (bC.1 f1) (λh=>by rw[l1 h];rfl) q1;have p2:=pA (len:=x2.cells.length) hm (hn (k2,some x2) (bK _ (aR ..))) r2 (bC.1 f2) (λh=>by rw[l2 h];rfl) q2;rw[nk,oD]at p1 p2;have h3:=AN hm (hn (k3,_) (bK _ (bK _ (aR ..)))) q3;refine⟨u1,u2,u3,?_,p1,p2,⟨himp _ _ h3.1,h3.2⟩⟩
   congr 1
   rw[<-yL (xs:=us),hu]
theorem dJ{nd:q_}{x:m_}(h:cx P f l res)(hs:gC B l vs nd)(ho:dC o.op=some x)(fq:gW P f=true)(BW:flat res=true):
  cI P B o (.func (.func f) #[] #[]::vs) nd res []:=by
 have:=kj (P:=P) (B:=B) (o:=o) (x:=x) (f:=f) (fi:=[]) (args:=vs) (ca:=[]) (need:=nd) (val:=res) (c9:=[]) ho fq ?_
 ·simpa using this
 ·intro ι c w hm hn args' ha;rw[jJ,jZ]at ha;refine(h w args' (CM hs hm hn ha)).mono ?_
  rintro e w' ⟨rfl,hb⟩
  exact⟨ι,res,rfl,Map.le.refl _,.same BW,hm.call hb⟩
theorem aMn{nd:q_}{x:m_}(h:cx P f l res)(hs:gC B l (vs++ca) nd)(ho:dC o.op=some x)(fq:gW P f=true)(BW:flat res=true):
  cI P B o (.func (.func f) #[] ca.toArray::vs) nd res []:=by
 have:=kj (P:=P) (B:=B) (o:=o) (x:=x) (f:=f) (fi:=[]) (args:=vs) (ca:=ca) (need:=nd) (val:=res) (c9:=[]) ho fq ?_
 ·simpa using this
 ·intro ι c w hm hn args' ha;rw[jJ]at ha;refine(h w args' (CM hs hm hn ha)).mono ?_
  rintro e w' ⟨rfl,hb⟩
  exact⟨ι,res,rfl,Map.le.refl _,.same BW,hm.call hb⟩
theorem sn{n:Nat}{nd:q_}{x:m_}(h:mz P f l ty size n xs)(hs:gC B l vs nd)(ho:dC o.op=some x)(fq:gW P f=true)(hx:(xs.all flat)=true)(k:Nat):
  cI P B o (.func (.func f) #[] #[]::vs) ((k,none)::nd) (.slice (some ⟨k,0,some 7⟩) n 0) [(k,.row xs ty size)]:=by
 have:=kj (P:=P) (B:=B) (o:=o) (x:=x) (f:=f) (fi:=[]) (args:=vs) (ca:=[]) (need:=(k,none)::nd) (val:=.slice (some ⟨k,0,some 7⟩) n 0) (c9:=[(k,.row xs ty size)]) ho fq ?_
 ·simpa using this
 ·intro ι c w hm hn args' ha;rw[jJ,jZ]at ha;refine(h w args' (CM hs hm (λp hp=>hn p (bK _ hp)) ha)).mono ?_
  rintro e w' ⟨v,rfl,h1,h2⟩
  obtain⟨aB,q1,q2,q3⟩:=FT hm h2 (k:=k) (hn (k,none) (aR ..)) h1 (bC.1 hx);exact⟨aB,v,rfl,q1,q3,q2⟩
end
section
open CR OF
@[ext] structure V3 (α:Type) where
 x:α
 y:α
 z:α
namespace V3
section
variable{α:Type}
instance[Add α]:Add (V3 α):=⟨λu v=>⟨u.x+v.x,u.y+v.y,u.z+v.z⟩⟩
instance[Sub α]:Sub (V3 α):=⟨λu v=>⟨u.x-v.x,u.y-v.y,u.z-v.z⟩⟩
instance[Neg α]:Neg (V3 α):=⟨λu=>⟨-u.x,-u.y,-u.z⟩⟩
instance[Zero α]:Zero (V3 α):=⟨⟨0,0,0⟩⟩
def smul[Mul α](v:V3 α)(k:α):V3 α:=⟨v.x*k,v.y*k,v.z*k⟩
def dot[Add α][Mul α](u v:V3 α):α:=u.x*v.x+u.y*v.y+u.z*v.z
def ag[Sub α][Mul α](u v:V3 α):V3 α:=⟨u.y*v.z-u.z*v.y,u.z*v.x-u.x*v.z,u.x*v.y-u.y*v.x⟩
def aN[Add α][Sub α][Mul α](u v w:V3 α):α:=dot u (ag v w)
end
def V(i:Nat):V3 E:=⟨E.var (3*i),E.var (3*i+1),E.var (3*i+2)⟩
def S(j:Nat):E:=E.var (90+j)
def flat{F:Type}:List (V3 F)->List F
 |[]=>[]
 |v::vs=>v.x::v.y::v.z::flat vs
def P6{F:Type}[CR F](vs:List (V3 F))(ss:List F)(i:Nat):F:=cond (Nat.blt i 90) ((flat vs).getD i 0) (ss.getD (i-90) 0)
def aCL{F:Type}[CR F](ρ:Nat->F)(v:V3 E):V3 F:=⟨v.x.den ρ,v.y.den ρ,v.z.den ρ⟩
section
variable{F:Type}[CR F]
theorem ring(vs:List (V3 F))(ss:List F)(l r:(Nat->V3 E)->(Nat->E)->E)
  (h:E.peq (l V S).norm (r V S).norm=true) :
  (l V S).den (P6 vs ss)=(r V S).den (P6 vs ss):=E.prove _ _ _ h
theorem il(vs:List (V3 F))(ss:List F)(l r:(Nat->V3 E)->(Nat->E)->V3 E)
  (h:(E.peq (l V S).x.norm (r V S).x.norm&&
   E.peq (l V S).y.norm (r V S).y.norm&&
   E.peq (l V S).z.norm (r V S).z.norm)=true) :
  aCL (P6 vs ss) (l V S)=aCL (P6 vs ss) (r V S):=by
 simp only[dc]at h;exact V3.ext (E.prove _ _ _ h.1.1) (E.prove _ _ _ h.1.2) (E.prove _ _ _ h.2)
theorem su(u v:V3 F):dot u v=dot v u:=ring [u,v] [] (λV _=>dot (V 0) (V 1)) (λV _=>dot (V 1) (V 0)) d_
theorem iT(u v w:V3 F):dot u (v+w)=dot u v+dot u w:=ring [u,v,w] [] (λV _=>dot (V 0) (V 1+V 2)) (λV _=>dot (V 0) (V 1)+dot (V 0) (V 2)) d_
theorem gg(u v w:V3 F):dot u (v-w)=dot u v-dot u w:=ring [u,v,w] [] (λV _=>dot (V 0) (V 1-V 2)) (λV _=>dot (V 0) (V 1)-dot (V 0) (V 2)) d_
theorem pO(u v:V3 F):dot u (-v)=-dot u v:=ring [u,v] [] (λV _=>dot (V 0) (-V 1)) (λV _=>-dot (V 0) (V 1)) d_
theorem vY(u v:V3 F):dot (-u) v=-dot u v:=ring [u,v] [] (λV _=>dot (-V 0) (V 1)) (λV _=>-dot (V 0) (V 1)) d_
theorem gk(u v:V3 F)(k:F):dot u (smul v k)=dot u v*k:=ring [u,v] [k] (λV S=>dot (V 0) (smul (V 1) (S 0))) (λV S=>dot (V 0) (V 1)*S 0) d_
theorem P7(u v w:V3 F):dot (u+v) w=dot u w+dot v w:=ring [u,v,w] [] (λV _=>dot (V 0+V 1) (V 2)) (λV _=>dot (V 0) (V 2)+dot (V 1) (V 2)) d_
theorem LM(u v:V3 F)(k:F):dot (smul u k) v=dot u v*k:=ring [u,v] [k] (λV S=>dot (smul (V 0) (S 0)) (V 1)) (λV S=>dot (V 0) (V 1)*S 0) d_
theorem xe(u:V3 F):dot u 0=0:=by show u.x*0+u.y*0+u.z*0=0;rw[CR.mul_zero,CR.mul_zero,CR.mul_zero,CR.add_zero,CR.add_zero]
theorem aCM(u:V3 F):dot 0 u=0:=by rw[su,xe]
theorem Et(u v:V3 F):dot u (ag u v)=0:=ring [u,v] [] (λV _=>dot (V 0) (ag (V 0) (V 1))) (λ_ _=>0) d_
theorem AO(u v:V3 F):dot v (ag u v)=0:=ring [u,v] [] (λV _=>dot (V 1) (ag (V 0) (V 1))) (λ_ _=>0) d_
theorem LN(u:V3 F):ag u u=0:=il [u] [] (λV _=>ag (V 0) (V 0)) (λ_ _=>0) d_
theorem GO(u v:V3 F):ag v u=-ag u v:=il [u,v] [] (λV _=>ag (V 1) (V 0)) (λV _=>-ag (V 0) (V 1)) d_
theorem GP(u v w:V3 F):aN u v w=aN v w u:=ring [u,v,w] [] (λV _=>aN (V 0) (V 1) (V 2)) (λV _=>aN (V 1) (V 2) (V 0)) d_
theorem LO(u v w:V3 F):aN u w v=-aN u v w:=ring [u,v,w] [] (λV _=>aN (V 0) (V 2) (V 1)) (λV _=>-aN (V 0) (V 1) (V 2)) d_
theorem neg_neg(u:V3 F):- -u=u:=il [u] [] (λV _=>- -V 0) (λV _=>V 0) d_
theorem sub_self(u:V3 F):u-u=0:=il [u] [] (λV _=>V 0-V 0) (λ_ _=>0) d_
theorem add_zero(u:V3 F):u+0=u:=V3.ext (CR.add_zero _) (CR.add_zero _) (CR.add_zero _)
theorem add_sub_cancel(u v:V3 F):u+(v-u)=v:=il [u,v] [] (λV _=>V 0+(V 1-V 0)) (λV _=>V 1) d_
theorem smul_zero(u:V3 F):smul u 0=0:=V3.ext (CR.mul_zero _) (CR.mul_zero _) (CR.mul_zero _)
theorem VT(u:V3 F):smul u 1=u:=V3.ext (CR.mul_one _) (CR.mul_one _) (CR.mul_one _)
theorem P8(u:V3 F)(a b:F):smul (smul u a) b=smul u (a*b):=V3.ext (CR.mul_assoc _ _ _) (CR.mul_assoc _ _ _) (CR.mul_assoc _ _ _)
theorem neg_zero:-(0:V3 F)=0:=V3.ext CR.neg_zero CR.neg_zero CR.neg_zero
end
section
variable{F:Type}[OF F]
theorem sub_eq_zero{u v:V3 F}:u-v=0↔u=v:=by
 constructor
 ·intro h;exact V3.ext (OF.sub_eq_zero.1 (cS V3.x h)) (OF.sub_eq_zero.1 (cS V3.y h)) (OF.sub_eq_zero.1 (cS V3.z h))
 ·rintro rfl;exact sub_self u
theorem CN{u:V3 F}(h:u≠0):0<dot u u:=by
 by_cases hx:u.x=0
 ·by_cases hy:u.y=0
  ·have hz:u.z≠0:=λhz=>h (V3.ext hx hy hz);exact aBU (add_nonneg (nS _) (nS _)) (UY hz)
  ·exact IY (aBU (nS _) (UY hy)) (nS _)
 ·exact IY (IY (UY hx) (nS _)) (nS _)
theorem AP{u:V3 F}(h:u≠0):dot u u≠0:=OF.ne_of_gt (CN h)
theorem aMo{u:V3 F}{k:F}(h:smul u k=0):u=0\/k=0:=by
 by_cases hk:k=0
 ·exact .inr hk
 ·left;have hx:=(mul_eq_zero.1 (cS V3.x h:u.x*k=0)).resolve_right hk;have hy:=(mul_eq_zero.1 (cS V3.y h:u.y*k=0)).resolve_right hk;have hz:=(mul_eq_zero.1 (cS V3.z h:u.z*k=0)).resolve_right hk;exact V3.ext hx hy hz
theorem neg_eq_zero{u:V3 F}:-u=0↔u=0:=by
 constructor
 ·intro h;rw[<-neg_neg u,h,neg_zero]
 ·rintro rfl;exact neg_zero
theorem Eu{a b c v:V3 F}(hd:aN a b c≠0)(ha:dot a v=0)(hb:dot b v=0)(hc:dot c v=0):v=0:=by
 have e:smul v (aN a b c)=smul (ag b c) (dot a v)+smul (ag c a) (dot b v)+smul (ag a b) (dot c v):=
  il [a,b,c,v] [] (λV _=>smul (V 3) (aN (V 0) (V 1) (V 2)))
   (λV _=>smul (ag (V 1) (V 2)) (dot (V 0) (V 3))+smul (ag (V 2) (V 0)) (dot (V 1) (V 3))+smul (ag (V 0) (V 1)) (dot (V 2) (V 3))) d_
 rw[ha,hb,hc,smul_zero,smul_zero,smul_zero,add_zero,add_zero]at e;exact(aMo e).resolve_right hd
theorem LP{a b v:V3 F}(hd:ag a b≠0)(ha:dot a v=0)(hb:dot b v=0):v=smul (ag a b) (dot (ag a b) v*(dot (ag a b) (ag a b))⁻¹):=by
 have bB:=AP hd;have e:smul v (dot (ag a b) (ag a b))=smul (ag a b) (dot (ag a b) v)+smul (ag b (ag a b)) (dot a v)+smul (ag (ag a b) a) (dot b v):=
  il [a,b,v] [] (λV _=>smul (V 2) (dot (ag (V 0) (V 1)) (ag (V 0) (V 1))))
   (λV _=>smul (ag (V 0) (V 1)) (dot (ag (V 0) (V 1)) (V 2))+smul (ag (V 1) (ag (V 0) (V 1))) (dot (V 0) (V 2))+smul (ag (ag (V 0) (V 1)) (V 0)) (dot (V 1) (V 2))) d_
 rw[ha,hb,smul_zero,smul_zero,add_zero,add_zero]at e;rw[<-P8,<-e,P8,jA _ bB,VT]
end
end V3
end
variable{acc:List (V3 K)}
section
open CR OF V3
@[ext] structure HS (F:Type) where
 n:V3 F
 d:F
section
variable{F:Type}[OF F]
def ep(ps:List (HS F))(v:V3 F):Prop:=∀ p∈ps,dot p.n v<=p.d
def cC(p:HS F)(v:V3 F):Prop:=dot p.n v=p.d
def Cl(ps:List (HS F)):Prop:=
 (∃ p∈ps,∃ q∈ps,ag p.n q.n≠0)/\∀ p∈ps,∀ q∈ps,ag p.n q.n≠0->∃ r∈ps,0<dot r.n (ag p.n q.n)
def fE(ps:List (HS F)):Prop:=∀ p∈ps,p.n≠0
theorem LQ{d:V3 F}(h:d≠0):∃ u:V3 F,u≠0/\dot d u=0:=by
 by_cases hz:d.z=0
 ·by_cases hy:d.y=0
  ·have hx:d.x≠0:=λhx=>h (V3.ext hx hy hz);refine⟨⟨d.z,0,-d.x⟩,λe=>hx ?_,ring [d] [] (λV _=>dot (V 0) ⟨(V 0).z,0,-(V 0).x⟩) (λ_ _=>0) d_⟩;have:-d.x=0:=cS V3.z e;rw[<-CR.neg_neg d.x,this,CR.neg_zero]
  ·refine⟨⟨-d.y,d.x,0⟩,λe=>hy ?_,ring [d] [] (λV _=>dot (V 0) ⟨-(V 0).y,(V 0).x,0⟩) (λ_ _=>0) d_⟩;have:-d.y=0:=cS V3.x e;rw[<-CR.neg_neg d.y,this,CR.neg_zero]
 ·refine⟨⟨0,-d.z,d.y⟩,λe=>hz ?_,ring [d] [] (λV _=>dot (V 0) ⟨0,-(V 0).z,(V 0).y⟩) (λ_ _=>0) d_⟩;have:-d.z=0:=cS V3.y e;rw[<-CR.neg_neg d.z,this,CR.neg_zero]
theorem aMp(l:List (F×F))(h0:∀ x∈l,0<=x.2)(hp:∃ x∈l,0<x.1):
  ∃ t:F,0<=t/\(∃ x∈l,0<x.1/\x.1*t=x.2)/\∀ x∈l,x.1*t<=x.2:=by
 induction l with
 |nil=>obtain⟨x,hx,_⟩:=hp;cases hx
 |cons y l ih=>
  obtain⟨a,b⟩:=y;have hb:0<=b:=h0 _ (aR ..);have h0':∀ x∈l,0<=x.2:=λx hx=>h0 x (bK _ hx)
  -- t=b/a aWX,if it is at most t' aWY t' is aWZ
  have new:0<a->(∀ x∈l,0<x.1->x.1*(b*a⁻¹)<=x.2)->
    ∃ t:F,0<=t/\(∃ x∈(a,b)::l,0<x.1/\x.1*t=x.2)/\∀ x∈(a,b)::l,x.1*t<=x.2:=by
   intro ha hl;have e:a*(b*a⁻¹)=b:=by rw[CR.mul_left_comm,jA _ (OF.ne_of_gt ha),CR.mul_one]
   have ht:0<=b*a⁻¹:=mul_nonneg hb (le_of_lt (inv_pos ha));refine⟨b*a⁻¹,ht,⟨_,aR ..,ha,e⟩,?_⟩;intro x hx;rcases cE.1 hx with rfl|hx
   ·exact OF.le_of_eq e
   ·by_cases h:0<x.1
    ·exact hl x hx h
    ·refine OF.le_trans ?_ (h0' x hx);rw[<-neg_nonneg,<-CR.neg_mul];exact mul_nonneg (neg_nonneg.2 (OF.not_lt.1 h)) ht
  by_cases hl:∃ x∈l,0<x.1
  ·obtain⟨t,ht,⟨x,hx,lQ,AQ⟩,bo⟩:=ih h0' hl;by_cases mI:a*t<=b
   ·exact⟨t,ht,⟨x,bK _ hx,lQ,AQ⟩,λz hz=>by
     rcases cE.1 hz with rfl|hz
     ·exact mI
     ·exact bo z hz⟩
   ·have P9:=OF.not_le.1 mI;have ha:0<a:=by
     rcases OF.lt_trichotomy 0 a with h|h|h
     ·exact h
     ·rw[<-h,CR.zero_mul]at P9;exact absurd (OF.lt_of_le_of_lt hb P9) (OF.lt_irrefl _)
     ·have:=mul_nonneg (neg_nonneg.2 (le_of_lt h)) ht;rw[CR.neg_mul,neg_nonneg]at this;exact absurd (OF.lt_of_le_of_lt hb (OF.lt_of_lt_of_le P9 this)) (OF.lt_irrefl _)
    refine new ha λz hz ux=>?_;refine OF.le_trans ?_ (bo z hz);refine le_of_lt ((mul_lt_mul_left ux).2 ?_);rw[<-mul_lt_mul_left ha,CR.mul_left_comm,jA _ (OF.ne_of_gt ha),CR.mul_one];exact P9
  ·obtain⟨x,hx,lQ⟩:=hp;rcases cE.1 hx with rfl|hx
   ·exact new lQ λz hz ux=>(hl ⟨z,hz,ux⟩).elim
   ·exact(hl ⟨x,hx,lQ⟩).elim
theorem Ab{ps:List (HS F)}{v u:V3 F}(hv:ep ps v)(hu:∃ p∈ps,0<dot p.n u):
  ∃ t:F,0<=t/\(∃ q∈ps,0<dot q.n u/\cC q (v+smul u t))/\ep ps (v+smul u t):=by
 obtain⟨t,ht,⟨x,hx,lQ,AQ⟩,bo⟩:=aMp (ps.map λp=>(dot p.n u,p.d-dot p.n v))
  (λx hx=>by obtain⟨p,hp,rfl⟩:=df.1 hx;exact OF.sub_nonneg.2 (hv p hp))
  (by obtain⟨p,hp,h⟩:=hu;exact⟨_,df.2 ⟨p,hp,rfl⟩,h⟩)
 obtain⟨q,hq,rfl⟩:=df.1 hx;have e:∀ p:HS F,dot p.n (v+smul u t)=dot p.n v+dot p.n u*t:=λp=>by rw[iT,gk]
 refine⟨t,ht,⟨q,hq,lQ,?_⟩,?_⟩
 ·unfold cC;rw[e,AQ];exact iR (dot q.n v) q.d (λa d=>a+(d-a)) (λ_ d=>d) d_
 ·intro p hp;have:=bo _ (df.2 ⟨p,hp,rfl⟩);rw[e];have h2:=(add_le_add_left (dot p.n v)).2 this;rwa[show dot p.n v+(p.d-dot p.n v)=p.d from iR (dot p.n v) p.d (λa d=>a+(d-a)) (λ_ d=>d) d_]at h2
theorem LR{p q u:V3 F}(hp:p≠0)(h:ag p q=0)(hu:dot p u=0):dot q u=0:=by
 have e:dot q u*dot p p=dot p u*dot p q-dot (ag p (ag p q)) u:=
  ring [p,q,u] [] (λV _=>dot (V 1) (V 2)*dot (V 0) (V 0)) (λV _=>dot (V 0) (V 2)*dot (V 0) (V 1)-dot (ag (V 0) (ag (V 0) (V 1))) (V 2)) d_
 have z:ag p (0:V3 F)=0:=il [p] [] (λV _=>ag (V 0) 0) (λ_ _=>0) d_;rw[h,hu,z,aCM,CR.zero_mul,OF.sub_zero]at e;exact(mul_eq_zero.1 e).resolve_right (AP hp)
theorem GQ{p d:V3 F}(hp:p≠0)(hd:d≠0)(h:dot p d=0):ag p d≠0:=by
 intro e;have e2:dot (ag p d) (ag p d)=dot p p*dot d d-dot p d*dot p d:=
  ring [p,d] [] (λV _=>dot (ag (V 0) (V 1)) (ag (V 0) (V 1))) (λV _=>dot (V 0) (V 0)*dot (V 1) (V 1)-dot (V 0) (V 1)*dot (V 0) (V 1)) d_
 rw[e,h,xe,CR.mul_zero,OF.sub_zero]at e2;exact mul_ne_zero (AP hp) (AP hd) e2.symm
theorem VU{d u:V3 F}{t:F}(hd:d≠0)(h:dot d u=0):d+smul u t≠0:=by intro e;have:=cS (dot d) e;rw[iT,gk,h,CR.zero_mul,CR.add_zero,xe]at this;exact AP hd this
theorem aCN{ns:List (V3 F)}(hs:∃ a∈ns,∃ b∈ns,∃ c∈ns,aN a b c≠0){u:V3 F}(hu:u≠0):
  (∃ n∈ns,0<dot n u)\/(∃ n∈ns,0<dot n (-u)):=by
 obtain⟨a,ha,b,hb,c,hc,hd⟩:=hs;have key:∀ n∈ns,dot n u≠0->(∃ n∈ns,0<dot n u)\/(∃ n∈ns,0<dot n (-u)):=by
  intro n hn h;rcases OF.lt_trichotomy 0 (dot n u)with k|k|k
  ·exact .inl ⟨n,hn,k⟩
  ·exact absurd k.symm h
  ·exact .inr ⟨n,hn,by rw[pO];exact neg_pos.2 k⟩
 by_cases h1:dot a u=0
 ·by_cases h2:dot b u=0
  ·by_cases h3:dot c u=0
   ·exact absurd (Eu hd h1 h2 h3) hu
   ·exact key c hc h3
  ·exact key b hb h2
 ·exact key a ha h1
theorem ray{ns:List (V3 F)}(h0:∀ n∈ns,n≠0)(hs:∃ a∈ns,∃ b∈ns,∃ c∈ns,aN a b c≠0){d:V3 F}(hd:d≠0)(cy:∀ n∈ns,dot n d<=0):
  ∃ p∈ns,∃ q∈ns,ag p q≠0/\∀ n∈ns,dot n (ag p q)<=0:=by
 -- one Qa
 have VV:∀{v u:V3 F},(∀ n∈ns,dot n v<=0)->(∃ n∈ns,0<dot n u)->∃ t:F,(∃ q∈ns,0<dot q u/\dot q (v+smul u t)=0)/\∀ n∈ns,dot n (v+smul u t)<=0:=by
  intro v u hv hu
  obtain⟨t,_,⟨q,hq,ql,xf⟩,bo⟩:=Ab (ps:=ns.map λn=>⟨n,0⟩) (v:=v) (u:=u)
   (λp hp=>by obtain⟨n,hn,rfl⟩:=df.1 hp;exact hv n hn)
   (by obtain⟨n,hn,h⟩:=hu;exact⟨⟨n,0⟩,df.2 ⟨n,hn,rfl⟩,h⟩)
  obtain⟨n,hn,rfl⟩:=df.1 hq;exact⟨t,⟨n,hn,ql,xf⟩,λm hm=>bo ⟨m,0⟩ (df.2 ⟨m,hm,rfl⟩)⟩
 have one:∃ d1:V3 F,d1≠0/\(∃ p∈ns,dot p d1=0)/\∀ n∈ns,dot n d1<=0:=by
  obtain⟨u,hu,Qb⟩:=LQ hd;rcases aCN hs hu with h|h
  ·obtain⟨t,⟨q,hq,_,xf⟩,bo⟩:=VV cy h;exact⟨_,VU hd Qb,⟨q,hq,xf⟩,bo⟩
  ·obtain⟨t,⟨q,hq,_,xf⟩,bo⟩:=VV cy h;exact⟨_,VU hd (by rw[pO,Qb,CR.neg_zero]),⟨q,hq,xf⟩,bo⟩
 obtain⟨d1,GR,⟨p,hp,H3⟩,VW⟩:=one;have Qc:=h0 p hp;have fin:∀ u:V3 F,dot p u=0->dot d1 u=0->(∃ n∈ns,0<dot n u)->∃ p∈ns,∃ q∈ns,ag p q≠0/\∀ n∈ns,dot n (ag p q)<=0:=by
  intro u CO Qb h;obtain⟨t,⟨q,hq,LS,xf⟩,bo⟩:=VV VW h;have bB:ag p q≠0:=λe=>by rw[LR Qc e CO]at LS;exact OF.lt_irrefl _ LS
  have Lr:d1+smul u t≠0:=VU GR Qb;have AR:dot p (d1+smul u t)=0:=by rw[iT,gk,CO,H3,CR.zero_mul,CR.add_zero]
  have e:=LP bB AR xf;generalize dot (ag p q) (d1+smul u t)*(dot (ag p q) (ag p q))⁻¹=k at e;rcases OF.lt_trichotomy 0 k with hk|hk|hk
  ·refine⟨p,hp,q,hq,bB,λn hn=>?_⟩;have:=bo n hn;rw[e,gk,CR.mul_comm]at this;rw[<-CR.mul_zero k,mul_le_mul_left hk]at this;exact this
  ·rw[<-hk,smul_zero]at e;exact absurd e Lr
  ·refine⟨q,hq,p,hp,λe'=>bB (by rw[GO,e',V3.neg_zero]),λn hn=>?_⟩;have:=bo n hn;rw[e,gk,GO q p,pO,CR.neg_mul,<-CR.mul_neg,CR.mul_comm]at this;rw[<-CR.mul_zero (-k),mul_le_mul_left (neg_pos.2 hk)]at this;exact this
 have hc:=GQ Qc GR H3;rcases aCN hs hc with h|h
 ·exact fin _ (Et p d1) (AO p d1) h
 ·exact fin _ (by rw[pO,Et,CR.neg_zero]) (by rw[pO,AO,CR.neg_zero]) h
theorem Cl.span{ps:List (HS F)}(h:Cl ps):∃ a∈ps.map HS.n,∃ b∈ps.map HS.n,∃ c∈ps.map HS.n,aN a b c≠0:=by obtain⟨⟨p,hp,q,hq,GB⟩,iN⟩:=h;obtain⟨r,hr,h⟩:=iN p hp q hq GB;exact⟨r.n,df.2 ⟨r,hr,rfl⟩,p.n,df.2 ⟨p,hp,rfl⟩,q.n,df.2 ⟨q,hq,rfl⟩,OF.ne_of_gt h⟩
theorem Cl.bounds{ps:List (HS F)}(h:Cl ps)(hp:fE ps){u:V3 F}(hu:u≠0):∃ r∈ps,0<dot r.n u:=by
 apply iP;intro gi;have cy:∀ n∈ps.map HS.n,dot n u<=0:=by intro n hn;obtain⟨p,hp,rfl⟩:=df.1 hn;exact OF.not_lt.1 λk=>gi ⟨p,hp,k⟩
 obtain⟨a,ha,b,hb,bB,bo⟩:=ray (λn hn=>by obtain⟨p,fT,rfl⟩:=df.1 hn;exact hp p fT) h.span hu cy;obtain⟨p,fT,rfl⟩:=df.1 ha;obtain⟨q,pP,rfl⟩:=df.1 hb;obtain⟨r,hr,nQ⟩:=h.2 p fT q pP bB;exact OF.lt_irrefl _ (OF.lt_of_lt_of_le nQ (bo r.n (df.2 ⟨r,hr,rfl⟩)))
def kz(ps:List (HS F))(v:V3 F):Prop:=
 ep ps v/\∃ p∈ps,∃ q∈ps,∃ r∈ps,aN p.n q.n r.n≠0/\cC p v/\cC q v/\cC r v
theorem top{ps:List (HS F)}(hc:Cl ps)(hp:fE ps){x m:V3 F}(hx:ep ps x):∃ v,kz ps v/\dot m x<=dot m v:=by
 -- a step along a line
 have go:∀{x u:V3 F},ep ps x->u≠0->∃ u':V3 F,(u'=u\/u'=-u)/\∃ t:F,(∃ q∈ps,0<dot q.n u'/\cC q (x+smul u' t))/\ep ps (x+smul u' t)/\dot m x<=dot m (x+smul u' t):=by
  have half:∀{x u:V3 F},ep ps x->u≠0->0<=dot m u->∃ t:F,(∃ q∈ps,0<dot q.n u/\cC q (x+smul u t))/\ep ps (x+smul u t)/\dot m x<=dot m (x+smul u t):=by intro x u hx hu hm;obtain⟨t,ht,hq,cy⟩:=Ab hx (hc.bounds hp hu);refine⟨t,hq,cy,?_⟩;rw[iT,gk];have:=(add_le_add_left (dot m x)).2 (mul_nonneg hm ht);rwa[CR.add_zero]at this
  intro x u hx hu;rcases OF.le_total 0 (dot m u)with h|h
  ·exact⟨u,.inl rfl,half hx hu h⟩
  ·exact⟨-u,.inr rfl,half hx (λe=>hu (neg_eq_zero.1 e)) (by rw[pO];exact neg_nonneg.2 h)⟩
 obtain⟨⟨p0,Qc,_⟩,_⟩:=hc;obtain⟨u1,_,t1,⟨p,jr,_,AR⟩,VW,c8⟩:=go hx (hp p0 Qc);generalize x+smul u1 t1=x1 at *;obtain⟨u,hu,CO⟩:=LQ (hp p jr);obtain⟨u2,h2,t2,⟨q,mA,ql,xf⟩,aMq,dE⟩:=go VW hu;have aCO:dot p.n u2=0:=by
  rcases h2 with rfl|rfl
  ·exact CO
  ·rw[pO,CO,CR.neg_zero]
 have aMr:cC p (x1+smul u2 t2):=by unfold cC at *;rw[iT,gk,aCO,CR.zero_mul,CR.add_zero,AR]
 generalize x1+smul u2 t2=x2 at *;have bB:ag p.n q.n≠0:=λe=>by rw[LR (hp p jr) e aCO]at ql;exact OF.lt_irrefl _ ql
 obtain⟨u3,h3,t3,⟨r,hrm,nQ,GS⟩,aMs,um⟩:=go aMq bB;have aCP:dot p.n u3=0/\dot q.n u3=0:=by
  rcases h3 with rfl|rfl
  ·exact⟨Et _ _,AO _ _⟩
  ·rw[pO,pO,Et,AO,CR.neg_zero];exact⟨rfl,rfl⟩
 refine⟨_,⟨aMs,p,jr,q,mA,r,hrm,?_,?_,?_,GS⟩,OF.le_trans c8 (OF.le_trans dE um)⟩
 ·intro e;have e2:dot r.n (ag p.n q.n)=0:=by rw[show dot r.n (ag p.n q.n)=aN r.n p.n q.n from rfl,GP];exact e
  rcases h3 with rfl|rfl
  ·rw[e2]at nQ;exact OF.lt_irrefl _ nQ
  ·rw[pO,e2,CR.neg_zero]at nQ;exact OF.lt_irrefl _ nQ
 ·unfold cC at *;rw[iT,gk,aCP.1,CR.zero_mul,CR.add_zero,aMr]
 ·unfold cC at *;rw[iT,gk,aCP.2,CR.zero_mul,CR.add_zero,xf]
theorem aMt{ps:List (HS F)}(hp:fE ps){v x:V3 F}(hv:kz ps v)(hx:ep ps x)(bB:x≠v):
  ∃ p∈ps,∃ q∈ps,cC p v/\cC q v/\ag p.n q.n≠0/\∀ r∈ps,cC r v->dot r.n (ag p.n q.n)<=0:=by
 classical
 obtain⟨_,a,ha,b,hb,c,hc,hd,ta,tb,tc⟩:=hv
 let ts:=ps.filter λp=>decide (cC p v)
 have mem:∀ p,p∈ts↔p∈ps/\cC p v:=λp=>by simp[ts]
 obtain⟨n,hn,m,hm,kX,bo⟩:=ray (ns:=ts.map HS.n) (d:=x-v)
  (λn hn=>by obtain⟨p,fT,rfl⟩:=df.1 hn;exact hp p ((mem p).1 fT).1)
  ⟨a.n,df.2 ⟨a,(mem a).2 ⟨ha,ta⟩,rfl⟩,b.n,df.2 ⟨b,(mem b).2 ⟨hb,tb⟩,rfl⟩,c.n,df.2 ⟨c,(mem c).2 ⟨hc,tc⟩,rfl⟩,hd⟩
  (λe=>bB (V3.sub_eq_zero.1 e))
  (λn hn=>by obtain⟨p,fT,rfl⟩:=df.1 hn;obtain⟨jk,ht⟩:=(mem p).1 fT;rw[gg,show dot p.n v=p.d from ht,<-neg_nonneg,OF.neg_sub];exact OF.sub_nonneg.2 (hx p jk))
 obtain⟨p,fT,rfl⟩:=df.1 hn;obtain⟨q,pP,rfl⟩:=df.1 hm;exact⟨p,((mem p).1 fT).1,q,((mem q).1 pP).1,((mem p).1 fT).2,((mem q).1 pP).2,kX,λr hr ht=>bo r.n (df.2 ⟨r,(mem r).2 ⟨hr,ht⟩,rfl⟩)⟩
end
structure js(F:Type)[OF F] where
 fw:V3 F->Prop
 add:∀{x y},fw x->fw y->fw (x+y)
 mul:∀{x k},fw x->0<k->fw (smul x k)
 asymm:∀{x},fw x->fw (-x)->False
namespace js
variable{F:Type}[OF F](H:js F)
theorem zero{H:js F}:¬H.fw 0:=λh=>H.asymm h (by rw[V3.neg_zero];exact h)
def opp:js F where
 fw v:=H.fw (-v)
 add {x y} hx hy:=by rw[show -(x+y)=-x+-y from il [x,y] [] (λV _=>-(V 0+V 1)) (λV _=>-V 0+-V 1) d_];exact H.add hx hy
 mul {x k} hx hk:=by rw[show -(smul x k)=smul (-x) k from il [x] [k] (λV S=>-(smul (V 0) (S 0))) (λV S=>smul (-V 0) (S 0)) d_];exact H.mul hx hk
 asymm {x} h k:=H.asymm h k
theorem ne{H:js F}{a b:V3 F}(h:H.fw (b-a)):a≠b:=by rintro rfl;rw[V3.sub_self]at h;exact zero h
theorem aCQ{H:js F}{a b c:V3 F}(h:H.fw (b-a))(k:H.fw (c-b)):H.fw (c-a):=by rw[show c-a=(b-a)+(c-b)from il [a,b,c] [] (λV _=>V 2-V 0) (λV _=>(V 1-V 0)+(V 2-V 1)) d_];exact H.add h k
theorem Jg{H:js F}{a b:V3 F}(h:H.fw (b-a))(k:H.fw (a-b)):False:=by apply H.asymm h;rw[show -(b-a)=a-b from il [a,b] [] (λV _=>-(V 1-V 0)) (λV _=>V 0-V 1) d_];exact k
end js
section
variable{F:Type}[OF F](n:V3 F)
def tr(x y:V3 F):F:=dot n (ag x y)
def turn(a b c:V3 F):F:=dot n (ag (b-a) (c-a))
theorem GV(a b c:V3 F):turn n a b c=turn n b c a:=
 ring [n,a,b,c] [] (λV _=>dot (V 0) (ag (V 2-V 1) (V 3-V 1))) (λV _=>dot (V 0) (ag (V 3-V 2) (V 1-V 2))) d_
theorem VX(a b c:V3 F):turn n a c b=-turn n a b c:=
 ring [n,a,b,c] [] (λV _=>dot (V 0) (ag (V 3-V 1) (V 2-V 1))) (λV _=>-dot (V 0) (ag (V 2-V 1) (V 3-V 1))) d_
theorem VY(a b c:V3 F):turn n a b c=tr n (b-a) (c-b):=
 ring [n,a,b,c] [] (λV _=>dot (V 0) (ag (V 2-V 1) (V 3-V 1))) (λV _=>dot (V 0) (ag (V 2-V 1) (V 3-V 2))) d_
theorem aMu(a b c:V3 F):turn n a b c=tr n (b-a) (c-a):=rfl
theorem Qd(x y:V3 F):tr n y x=-tr n x y:=
 ring [n,x,y] [] (λV _=>dot (V 0) (ag (V 2) (V 1))) (λV _=>-dot (V 0) (ag (V 1) (V 2))) d_
theorem VZ(x y:V3 F):tr n x (-y)=-tr n x y:=
 ring [n,x,y] [] (λV _=>dot (V 0) (ag (V 1) (-V 2))) (λV _=>-dot (V 0) (ag (V 1) (V 2))) d_
theorem aMv(x:V3 F):tr n x x=0:=ring [n,x] [] (λV _=>dot (V 0) (ag (V 1) (V 1))) (λ_ _=>0) d_
theorem CP(a b:V3 F):b-a=-(a-b):=il [a,b] [] (λV _=>V 1-V 0) (λV _=>-(V 0-V 1)) d_
theorem aCR{x y z:V3 F}(hn:n≠0)(hx:dot n x=0)(hy:dot n y=0)(hz:dot n z=0):
  smul y (tr n x z)=smul z (tr n x y)+smul x (tr n y z):=by
 have hd:aN x y z=0:=by apply iP;intro h;exact hn (Eu h (by rw[su];exact hx) (by rw[su];exact hy) (by rw[su];exact hz))
 have e:smul y (tr n x z)=smul z (tr n x y)+smul x (tr n y z)-smul n (aN x y z):=
  il [n,x,y,z] [] (λV _=>smul (V 2) (dot (V 0) (ag (V 1) (V 3))))
   (λV _=>smul (V 3) (dot (V 0) (ag (V 1) (V 2)))+smul (V 1) (dot (V 0) (ag (V 2) (V 3)))-smul (V 0) (aN (V 1) (V 2) (V 3))) d_
 rw[e,hd,smul_zero];exact il [smul z (tr n x y),smul x (tr n y z)] [] (λV _=>V 0+V 1-0) (λV _=>V 0+V 1) d_
theorem V0(H:js F){x y z:V3 F}(hn:n≠0)(hx:dot n x=0)(hy:dot n y=0)(hz:dot n z=0)(fx:H.fw x)(fy:H.fw y)(fz:H.fw z)
  (h:0<tr n x y) (k:0<tr n y z):0<tr n x z:=by
 have e:=aCR n hn hx hy hz;have f:H.fw (smul y (tr n x z)):=by rw[e];exact H.add (H.mul fz h) (H.mul fx k)
 rcases OF.lt_trichotomy 0 (tr n x z)with g|g|g
 ·exact g
 ·rw[<-g,smul_zero]at f;exact absurd f js.zero
 ·exact(H.asymm f (by rw[show -(smul y (tr n x z))=smul y (-(tr n x z))from il [y] [tr n x z] (λV S=>-(smul (V 0) (S 0))) (λV S=>smul (V 0) (-S 0)) d_];exact H.mul fy (neg_pos.2 g))).elim
theorem aMw{m x y z:V3 F}(hn:n≠0)(hx:dot n x=0)(hy:dot n y=0)(hz:dot n z=0)(fx:0<dot m x)(fy:0<dot m y)(fz:0<dot m z)
  (h:0<tr n x y) (k:0<tr n y z):0<tr n x z:=by
 have e:=cS (dot m) (aCR n hn hx hy hz);rw[iT,gk,gk,gk]at e;have p:0<dot m y*tr n x z:=by rw[e];exact add_pos (mul_pos fz h) (mul_pos fx k)
 rwa[<-CR.mul_zero (dot m y),mul_lt_mul_left fy]at p
variable{ι:Type}(pt:ι->V3 F)
structure Conv(S:List ι):Prop where
 qv:∀ a∈S,∀ b∈S,dot n (pt b-pt a)=0
 yM:∀ c∈S,∃ m:V3 F,∀ w∈S,w≠c->dot m (pt w)<dot m (pt c)
variable{n pt}
theorem Conv.sub{S T:List ι}(h:Conv n pt S)(hT:∀ x∈T,x∈S):Conv n pt T:=
 ⟨λa ha b hb=>h.qv a (hT a ha) b (hT b hb),λc hc=>(h.yM c (hT c hc)).imp λ_ hm w hw=>hm w (hT w hw)⟩
theorem Conv.Qe{S:List ι}(h:Conv n pt S)(hn:n≠0){a b c:ι}(ha:a∈S)(hb:b∈S)(hc:c∈S)(cd:a≠b)(Qf:a≠c)(AU:b≠c):
  turn n (pt a) (pt b) (pt c)≠0:=by
 intro e;generalize hx:pt b-pt a=x at *;generalize hy:pt c-pt a=y at *;have px:dot n x=0:=hx▸h.qv a ha b hb;have py:dot n y=0:=hy▸h.qv a ha c hc;have e':dot n (ag x y)=0:=by rw[<-hx,<-hy];exact e
 have hz:ag x y=0:=by
  apply iP;intro bB;apply GQ hn bB e';have e2:ag n (ag x y)=smul x (dot n y)-smul y (dot n x):=
   il [n,x,y] [] (λV _=>ag (V 0) (ag (V 1) (V 2))) (λV _=>smul (V 1) (dot (V 0) (V 2))-smul (V 2) (dot (V 0) (V 1))) d_
  rw[e2,px,py,smul_zero,smul_zero,V3.sub_self]
 obtain⟨ma,fa⟩:=h.yM a ha;obtain⟨mb,fb⟩:=h.yM b hb;obtain⟨mc,fc⟩:=h.yM c hc;have hax:dot ma x<0:=by rw[<-hx,gg,<-neg_pos,OF.neg_sub];exact OF.sub_pos.2 (fa b hb (kV cd))
 have hay:dot ma y<0:=by rw[<-hy,gg,<-neg_pos,OF.neg_sub];exact OF.sub_pos.2 (fa c hc (kV Qf))
 have V1:0<dot mb x:=by rw[<-hx,gg];exact OF.sub_pos.2 (fb a ha cd)
 have aMx:dot mb y<dot mb x:=by have:=fb c hc (kV AU);rw[<-hx,<-hy,gg,gg,OF.lt_def];rw[show dot mb (pt b)-dot mb (pt a)-(dot mb (pt c)-dot mb (pt a))=dot mb (pt b)-dot mb (pt c)from j0 (dot mb (pt a)) (dot mb (pt b)) (dot mb (pt c)) (λa b c=>b-a-(c-a)) (λ_ b c=>b-c) d_];exact this
 have V2:0<dot mc y:=by rw[<-hy,gg];exact OF.sub_pos.2 (fc a ha Qf)
 have aMy:dot mc x<dot mc y:=by have:=fc b hb AU;rw[<-hx,<-hy,gg,gg,OF.lt_def];rw[show dot mc (pt c)-dot mc (pt a)-(dot mc (pt b)-dot mc (pt a))=dot mc (pt c)-dot mc (pt b)from j0 (dot mc (pt a)) (dot mc (pt b)) (dot mc (pt c)) (λa b c=>c-a-(b-a)) (λ_ b c=>c-b) d_];exact this
 -- y is a aW0 t of x
 have lQ:x≠0:=by rintro rfl;rw[xe]at V1;exact OF.lt_irrefl _ V1
 have key:∀ m:V3 F,dot m y*dot x x=dot m x*dot x y:=by
  intro m;have e2:dot m y*dot x x=dot m x*dot x y-dot m (ag x (ag x y)):=
   ring [m,x,y] [] (λV _=>dot (V 0) (V 2)*dot (V 1) (V 1)) (λV _=>dot (V 0) (V 1)*dot (V 1) (V 2)-dot (V 0) (ag (V 1) (ag (V 1) (V 2)))) d_
  rw[hz,show ag x (0:V3 F)=0 from il [x] [] (λV _=>ag (V 0) 0) (λ_ _=>0) d_,xe,OF.sub_zero]at e2;exact e2
 have IA:=CN lQ;have kb:=key mb;have kc:=key mc;have ka:=key ma
 -- from b: t<1;from c: t>1 as t>0
 have t1:dot x y<dot x x:=by rw[<-mul_lt_mul_left V1,<-kb,CR.mul_comm,CR.mul_comm (dot mb x),mul_lt_mul_left IA];exact aMx
 have aMz:0<dot x y:=by have h1:0 < -dot ma x:=neg_pos.2 hax;rw[<-mul_lt_mul_left h1,CR.mul_zero,CR.neg_mul,<-ka,<-CR.neg_mul];exact mul_pos (neg_pos.2 hay) IA
 have LU:0<dot mc x:=by
  have:0<dot x y*dot mc x:=by rw[CR.mul_comm,<-kc];exact mul_pos V2 IA
  rwa[<-CR.mul_zero (dot x y),mul_lt_mul_left aMz]at this
 have t2:dot x x<dot x y:=by rw[<-mul_lt_mul_left LU,<-kc,CR.mul_comm,CR.mul_comm (dot mc y),mul_lt_mul_left IA];exact aMy
 exact OF.lt_irrefl _ (OF.lt_trans t1 t2)
def nu(n:V3 F)(pt:ι->V3 F)(T:List ι)(a b:ι):Prop:=∀ c∈T,c≠a->c≠b->0<turn n (pt a) (pt b) (pt c)
variable(H:js F)
def fF(n:V3 F)(pt:ι->V3 F)(H:js F)(T:List ι):List ι->Prop
 |[]=>False
 |[a]=>a∈T/\∀ c∈T,c≠a->H.fw (pt c-pt a)
 |b::a::st=>b∈T/\H.fw (pt b-pt a)/\nu n pt T a b/\fF n pt H T (a::st)
def pop(n:V3 F)(pt:ι->V3 F)(p:ι):List ι->List ι
 |b::a::st=>if 0<turn n (pt a) (pt b) (pt p)then b::a::st else pop n pt p (a::st)
 |st=>st
def half(n:V3 F)(pt:ι->V3 F)(l:List ι):List ι:=l.foldl (λst p=>p::pop n pt p st) []
variable{H}
theorem fF.mem{T:List ι}:∀{st:List ι},fF n pt H T st->∀ x∈st,x∈T
 |[a],h,x,hx=>by rcases cE.1 hx with rfl|hx;exact h.1;cases hx
 |b::a::st,h,x,hx=>by
  rcases cE.1 hx with rfl|hx
  ·exact h.1
  ·exact fF.mem h.2.2.2 x hx
theorem fF.below{T:List ι}:∀{b:ι} {st:List ι},fF n pt H T (b::st)->∀ x∈st,H.fw (pt b-pt x)
 |b,a::st,h,x,hx=>by
  rcases cE.1 hx with rfl|hx
  ·exact h.2.1
  ·exact js.aCQ (fF.below h.2.2.2 x hx) h.2.1
 |b,[],_,x,hx=>by cases hx
theorem fF.least{T:List ι}:∀{st:List ι},fF n pt H T st->∃ a,st.getLast?=some a/\a∈T/\∀ c∈T,c≠a->H.fw (pt c-pt a)
 |[a],h=>⟨a,rfl,h.1,h.2⟩
 |b::a::st,h=>by obtain⟨x,hx,hm,bo⟩:=fF.least h.2.2.2;exact⟨x,by rw[Qg];exact hx,hm,bo⟩
theorem fF.grow{T:List ι}{p w:ι}(hn:n≠0)(hc:Conv n pt (p::T))(hp:∀ c∈T,H.fw (pt p-pt c))(hw:w∈T)
  (hpw:∀ c∈T,c≠w->0<turn n (pt w) (pt p) (pt c)):∀{st:List ι},fF n pt H T st->(∀ x∈st,H.fw (pt w-pt x))->fF n pt H (p::T) st
 |[a],h,_=>⟨bK _ h.1,λc hc ha=>by
   rcases cE.1 hc with rfl|hc
   ·exact hp a h.1
   ·exact h.2 c hc ha⟩
 |v::u::st,h,bW=>by
  refine⟨bK _ h.1,h.2.1,?_,fF.grow hn hc hp hw hpw h.2.2.2 λx hx=>bW x (bK _ hx)⟩;intro c dV SZ kS;rcases cE.1 dV with rfl|dV
  ·have hv:v∈T:=h.1;have hu:u∈T:=fF.mem h.2.2.2 u (aR ..);have fwv:H.fw (pt w-pt v):=bW v (aR ..);have wv:w≠v:=by rintro rfl;exact js.ne fwv rfl
   have wu:w≠u:=by rintro rfl;exact js.ne (bW w (bK _ (aR ..))) rfl
   have h1:=h.2.2.1 w hw wu wv;have h2:=hpw v hv (kV wv);rw[<-GV]at h2;rw[VY]at h1 ⊢;have rP:=bK c hv;exact V0 n H hn (hc.qv u (bK _ hu) v rP) (hc.qv v rP w (bK _ hw)) (hc.qv v rP c (aR ..)) h.2.1 fwv (hp v hv) h1 h2
  ·exact h.2.2.1 c dV SZ kS
theorem fF.pop{T:List ι}{p:ι}(hn:n≠0)(hc:Conv n pt (p::T))(hp:∀ c∈T,H.fw (pt p-pt c))
  (aMA:∀ a∈T,∀ c∈T,c≠a->H.fw (pt c-pt a)\/H.fw (pt a-pt c)) :
  ∀{b:ι} {st:List ι},fF n pt H T (b::st)->
   ((∀ c∈T,c≠b->H.fw (pt b-pt c))\/∃ e∈T,e≠b/\H.fw (pt e-pt b)/\nu n pt T b e/\turn n (pt b) (pt e) (pt p)<=0)->
   fF n pt H (p::T) (p::Go.Proofs.YtgpahigmalfpdaaGreatDoor.pop n pt p (b::st)):=by
 have pp:p∈p::T:=aR ..;have mm:∀{x},x∈T->x∈p::T:=λh=>bK _ h;have pne:∀ c∈T,p≠c:=λc hc e=>js.ne (hp c hc) (by rw[e])
 -- points in front of b
 have front:∀{b c:ι},b∈T->c∈T->c≠b->H.fw (pt c-pt b)->
   ((∀ c∈T,c≠b->H.fw (pt b-pt c))\/∃ e∈T,e≠b/\H.fw (pt e-pt b)/\nu n pt T b e/\turn n (pt b) (pt e) (pt p)<=0)->0<turn n (pt b) (pt p) (pt c):=by
  intro b c hb dV kO hf l4;rcases l4 with v7|⟨e,he,LV,Qh,hl,ht⟩
  ·exact(js.Jg hf (v7 c dV kO)).elim
  ·have FM:0<turn n (pt b) (pt p) (pt e):=by
    rw[VX,neg_pos];rcases OF.oz ht with h|h
    ·exact h
    ·exact absurd h (hc.Qe hn (mm hb) (mm he) pp (kV LV) (kV (pne b hb)) (kV (pne e he)))
   by_cases hce:c=e
   ·rw[hce];exact FM
   ·have h3:=hl c dV kO hce;exact V0 n H hn (hc.qv b (mm hb) p pp) (hc.qv b (mm hb) e (mm he)) (hc.qv b (mm hb) c (mm dV)) (hp b hb) Qh hf FM h3
 intro b st;induction st generalizing b with
 |nil=>
  intro h l4;refine⟨pp,hp b h.1,?_,mm h.1,λc dV kO=>?_⟩
  ·intro c dV kO GW;have v8:c∈T:=(cE.1 dV).resolve_left GW;exact front h.1 v8 kO (h.2 c v8 kO) l4
  ·rcases cE.1 dV with rfl|v8
   ·exact hp b h.1
   ·exact h.2 c v8 kO
 |cons a st ih=>
  intro h l4;have ha:a∈T:=fF.mem h.2.2.2 a (aR ..);have hb:b∈T:=h.1;unfold Go.Proofs.YtgpahigmalfpdaaGreatDoor.pop;split
  ·rename_i Qi;have bo:∀ c∈T,c≠b->0<turn n (pt b) (pt p) (pt c):=by
    intro c v8 kO;rcases aMA b hb c v8 kO with hf|hf
    ·exact front hb v8 kO hf l4
    ·-- c aMB behind b
     have h1:0<tr n (pt b-pt a) (pt p-pt b):=by rw[<-VY];exact Qi
     rw[aMu];by_cases fm:c=a
     ·rw[fm,CP (pt b) (pt a),VZ,neg_pos,Qd,Gp];exact h1
     ·have h2:=h.2.2.1 c v8 fm kO;rw[VY]at h2;rw[CP (pt b) (pt c),VZ,neg_pos,Qd,Gp];refine V0 n H hn (hc.qv c (mm v8) b (mm hb)) (hc.qv a (mm ha) b (mm hb)) (hc.qv b (mm hb) p pp) hf h.2.1 (hp b hb) ?_ h1;rw[CP (pt b) (pt c),VZ,neg_pos,Qd,Gp]at h2;exact h2
   refine⟨pp,hp b hb,?_,mm hb,h.2.1,?_,?_⟩
   ·intro c dV kO GW;exact bo c ((cE.1 dV).resolve_left GW) kO
   ·intro c dV fm kO;rcases cE.1 dV with rfl|v8
    ·exact Qi
    ·exact h.2.2.1 c v8 fm kO
   ·exact fF.grow hn hc hp hb bo h.2.2.2 (fF.below h)
  ·rename_i Qi;exact ih h.2.2.2 (.inr ⟨b,hb,λe=>js.ne h.2.1 (by rw[e]),h.2.1,h.2.2.1,OF.not_lt.1 Qi⟩)
end
section
variable{F:Type}[OF F]{n:V3 F}{ι:Type}{pt:ι->V3 F}{H:js F}
def yN(pt:ι->V3 F)(H:js F)(l:List ι):Prop:=l.Pairwise λa b=>H.fw (pt b-pt a)
theorem aCS(p:ι):∀(b:ι) (st:List ι),∃ x fW,pop n pt p (b::st)=x::fW
 |b,[]=>⟨b,[],rfl⟩
 |b,a::st=>by
  unfold pop;split
  ·exact⟨_,_,rfl⟩
  ·exact aCS p a st
theorem yN.total{l:List ι}(h:yN pt H l):∀ a∈l,∀ c∈l,c≠a->H.fw (pt c-pt a)\/H.fw (pt a-pt c):=by
 induction l with
 |nil=>intro a ha;cases ha
 |cons x l ih=>
  have h1:=tP.1 h;intro a ha c hc fm;rcases cE.1 ha with e|gO
  ·rcases cE.1 hc with e2|du
   ·exact absurd (e2.trans e.symm) fm
   ·exact .inl (e▸h1.1 c du)
  ·rcases cE.1 hc with e2|du
   ·exact .inr (e2▸h1.1 a gO)
   ·exact ih h1.2 a gO c du fm
theorem fF.congr{T T':List ι}(h:∀ x,x∈T↔x∈T'):∀{st:List ι},fF n pt H T st->fF n pt H T' st
 |[a],hc=>⟨(h a).1 hc.1,λc hm=>hc.2 c ((h c).2 hm)⟩
 |b::a::st,hc=>⟨(h b).1 hc.1,hc.2.1,λc hm=>hc.2.2.1 c ((h c).2 hm),fF.congr h hc.2.2.2⟩
theorem aCT(hn:n≠0):∀(l T:List ι) (b:ι) (st:List ι),Conv n pt (T++l)->yN pt H (T++l)->b∈T->(∀ c∈T,c≠b->H.fw (pt b-pt c))->
  fF n pt H T (b::st)->∃ x fW,l.foldl (λst p=>p::pop n pt p st) (b::st)=x::fW/\fF n pt H (T++l) (x::fW)/\(∀ c∈T++l,c≠x->H.fw (pt x-pt c))/\(l.getLast?).getD b=x
 |[],T,b,st,_,_,hb,v7,h=>⟨b,st,rfl,by rw[jZ];exact h,by rw[jZ];exact v7,rfl⟩
 |p::l,T,b,st,hc,hs,hb,v7,h=>by
  have qg:=List.pairwise_append.1 hs;have hp:∀ c∈T,H.fw (pt p-pt c):=λc v8=>qg.2.2 c v8 p (aR ..);have mem:∀ x,x∈p::T↔x∈T++[p]:=λx=>by simp[or_comm]
  have h1:=fF.pop hn (hc.sub (T:=p::T) λx hx=>by
   rcases cE.1 hx with rfl|hx
   ·exact fh.2 (.inr (aR ..))
   ·exact fh.2 (.inl hx)) hp (yN.total qg.1) h (.inl v7)
  obtain⟨x,fW,hx⟩:=aCS (n:=n) (pt:=pt) p b st;rw[hx]at h1;have e:T++[p]++l=T++p::l:=by simp
  obtain⟨y,st2,hf,yO,V4,hl⟩:=aCT hn l (T++[p]) p (x::fW) (by rw[e];exact hc) (by rw[e];exact hs) s_
   (λc dV GW=>by
    rcases fh.1 dV with dV|dV
    ·exact hp c dV
    ·exact absurd (CQ.1 dV) GW) (fF.congr mem h1)
  refine⟨y,st2,?_,by rw[<-e];exact yO,by rw[<-e];exact V4,?_⟩
  ·rw[vF,hx];exact hf
  ·rw[<-hl];cases l with
   |nil=>rfl
   |cons z l=>rw[Qg,List.getLast?_eq_some_getLast (l:=z::l) s_];rfl
theorem aCU(hn:n≠0){l:List ι}{a:ι}(hc:Conv n pt (a::l))(hs:yN pt H (a::l)):
  ∃ x st,half n pt (a::l)=x::st/\fF n pt H (a::l) (x::st)/\(∀ c∈a::l,c≠x->H.fw (pt x-pt c))/\(l.getLast?).getD a=x:=by
 have qg:=tP.1 hs
 exact aCT hn l [a] a [] (by exact hc) (by exact hs) (aR ..)
  (λc dV fm=>absurd (CQ.1 dV) fm) ⟨aR ..,λc dV fm=>absurd (CQ.1 dV) fm⟩
def mU(R:ι->ι->Prop):List ι->Prop
 |[]=>True
 |[_]=>True
 |a::b::l=>R a b/\mU R (b::l)
theorem V5{R:ι->ι->Prop}:∀{l:List ι} {a:ι} {m:List ι},mU R (l++[a])->mU R (a::m)->mU R (l++a::m)
 |[],a,m,_,h=>h
 |[x],a,m,h1,h=>⟨h1.1,h⟩
 |x::y::l,a,m,h1,h=>⟨h1.1,V5 (l:=y::l) h1.2 h⟩
theorem aCV{R:ι->ι->Prop}:∀{l:List ι} {a b:ι},mU R (l++[a])->R a b->mU R (l++[a,b])
 |[],a,b,_,h=>⟨h,trivial⟩
 |[x],a,b,h1,h=>⟨h1.1,h,trivial⟩
 |x::y::l,a,b,h1,h=>⟨h1.1,aCV (l:=y::l) h1.2 h⟩
theorem fF.steps{T:List ι}:∀{st:List ι},fF n pt H T st->mU (λa b=>nu n pt T a b/\H.fw (pt b-pt a)) st.reverse
 |[a],_=>trivial
 |b::a::st,h=>by have ih:=fF.steps h.2.2.2;rw[xg]at ih ⊢;rw[xg,FL];exact aCV ih ⟨h.2.2.1,h.2.1⟩
theorem mU.imp{R R':ι->ι->Prop}(h:∀ a b,R a b->R' a b):∀{l:List ι},mU R l->mU R' l
 |[],_=>trivial
 |[_],_=>trivial
 |_::b::l,hs=>⟨h _ _ hs.1,mU.imp h (l:=b::l) hs.2⟩
def order(n:V3 F)(pt:ι->V3 F)(l:List ι):List ι:=(half n pt l).tail.reverse++(half n pt l.reverse).tail.reverse
theorem aMC(hn:n≠0){S:List ι}(hc:Conv n pt S){c:ι}(LW:c∈S):∀{l:List ι} {a b:ι},(∀ x∈a::l,x∈S)->c∉a::l->
  mU (λa b=>nu n pt S a b) (a::l)->(a::l).getLast?=some b->a=b\/0<tr n (pt a-pt c) (pt b-pt c):=by
 obtain⟨m,hm⟩:=hc.yM c LW;intro l;induction l with
 |nil=>intro a b _ _ _ h;left;simpa using h
 |cons x l ih=>
  intro a b hS AG bW qk;right;have LU:c∉x::l:=λh=>AG (bK _ h);have fm:c≠a:=λh=>AG (h▸aR ..);have aCW:c≠x:=λh=>LU (h▸aR ..);have h1:0<tr n (pt a-pt c) (pt x-pt c):=by have:=bW.1 c LW fm aCW;rw[<-GV]at this;exact this
  have aCX:(x::l).getLast?=some b:=by rw[Qg]at qk;exact qk
  have hb:b∈x::l:=List.mem_of_getLast? aCX;have aS:=hS a (aR ..);have xS:=hS x (bK _ (aR ..));have bS:=hS b (bK _ hb);have neg:∀ y∈S,c≠y->0<dot (-m) (pt y-pt c):=by intro y hy V2;rw[vY,gg,OF.neg_sub];exact OF.sub_pos.2 (hm y hy (kV V2))
  rcases ih (λy hy=>hS y (bK _ hy)) LU bW.2 aCX with rfl|h2
  ·exact h1
  ·exact aMw n hn (hc.qv c LW a aS) (hc.qv c LW x xS) (hc.qv c LW b bS) (neg a aS fm) (neg x xS aCW) (neg b bS (λh=>LU (h▸hb))) h1 h2
theorem aMD(l:List ι)(a:ι):(l++[a]).getLast?=some a:=by simp
theorem V6{S:List ι}(hS:∀ a∈S,∀ b∈S,pt a=pt b->a=b){a b c:ι}(hb:b∈S)(hc:c∈S)(cd:b≠a)(Qf:c≠a)(h1:nu n pt S a b)(h2:nu n pt S a c):b=c:=by apply iP;intro AU;have k1:=h1 c hc Qf (kV AU);have k2:=h2 b hb cd AU;rw[VX]at k2;exact OF.lt_irrefl _ (OF.lt_trans k1 (neg_pos.1 k2))
theorem V7{T:List ι}:∀{st:List ι},fF n pt H T st->st.Pairwise λa b=>H.fw (pt a-pt b)
 |[_],_=>V8 ..
 |b::a::st,h=>tP.2 ⟨fF.below h,V7 h.2.2.2⟩
theorem aCY(hn:n≠0){l:List ι}{a b:ι}(hc:Conv n pt (a::b::l))(hs:yN pt H (a::b::l)):
  ∃ m,order n pt (a::b::l)=a::m/\(a::m).Nodup/\(∀ x,x∈a::m↔x∈a::b::l)/\mU (λx y=>nu n pt (a::b::l) x y) (a::m++[a]):=by
 generalize hS:a::b::l=S at *
 -- the way there
 obtain⟨z,st,hh,yO,v7,hz⟩:=aCU (H:=H) hn (l:=b::l) (a:=a) (hS▸hc) (hS▸hs);rw[hS]at hh yO v7
 -- the list from V9 end on,and the opposite half
 have aME:∃ w t,S.reverse=w::t:=by
  cases h:S.reverse with
  |nil=>rw[aCZ]at h;rw[<-hS]at h;cases h
  |cons w t=>exact⟨w,t,rfl⟩
 obtain⟨w,t,Qj⟩:=aME;have AV:∀ x,x∈w::t↔x∈S:=λx=>by rw[<-Qj];exact LX
 have Kq:yN pt H.opp (w::t):=by rw[<-Qj];unfold yN at *;rw[aC0];refine hs.imp ?_;intro x y h;show H.fw (-(pt x-pt y));rw[<-CP];exact h
 have hcr:Conv n pt (w::t):=hc.sub λx hx=>(AV x).1 hx;obtain⟨z',fW,CS,Ev,aMF,oO⟩:=aCU (H:=H.opp) hn hcr Kq;have aS:a∈S:=by rw[<-hS];exact aR ..
 have bS:b∈S:=by rw[<-hS];exact bK _ (aR ..)
 have Wa:∀ c∈S,c≠a->H.fw (pt c-pt a):=by intro c dV fm;rw[<-hS]at dV hs;exact(tP.1 hs).1 c ((cE.1 dV).resolve_left fm)
 -- the ends of both aMG
 have hza:z'=a:=by
  apply iP;intro bB;have h1:=aMF a ((AV a).2 aS) (kV bB);have h2:=Wa z' ((AV z').1 (fF.mem Ev z' (aR ..))) bB;have po:H.fw (pt a-pt z'):=by rw[CP (pt z') (pt a)];exact h1
  exact js.Jg h2 po
 subst hza;obtain⟨a1,eC,aMH,aMI⟩:=fF.least yO;have hra:a1=z':=by apply iP;intro bB;exact js.Jg (Wa a1 aMH bB) (aMI z' aS (kV bB))
 rw[hra]at eC;obtain⟨w1,GX,aMJ,aMK⟩:=fF.least Ev;have zS:z∈S:=fF.mem yO z (aR ..);have hwz:w1=z:=by
  apply iP;intro bB;have h1:=v7 w1 ((AV w1).1 aMJ) bB;have h2:=aMK z ((AV z).2 zS) (kV bB);have wX:H.fw (pt w1-pt z):=by rw[CP (pt z) (pt w1)];exact h2
  exact js.Jg h1 wX
 rw[hwz]at GX;have haz:z'≠z:=by
  rintro rfl
  rcases Classical.em (b=z')with rfl|rq
  ·rw[<-hS]at hs;exact js.ne ((tP.1 hs).1 b (aR ..)) rfl
  ·exact js.Jg (Wa b bS rq) (v7 b bS rq)
 -- the pieces
 have aML:∃ u,st.reverse=z'::u:=by
  cases st with
  |nil=>simp at eC;exact absurd eC.symm haz
  |cons x st=>
   rw[Qg]at eC;cases h:(x::st).reverse with
   |nil=>rw[aCZ]at h;cases h
   |cons q u=>
    have:(x::st)=(q::u).reverse:=by rw[<-h,List.reverse_reverse]
    rw[this,xg,List.getLast?_append,List.getLast?_singleton]at eC;simp at eC;exact⟨u,by rw[eC]⟩
 have aMM:∃ u,fW.reverse=z::u:=by
  cases fW with
  |nil=>simp at GX;exact absurd GX haz
  |cons x fW=>
   rw[Qg]at GX;cases h:(x::fW).reverse with
   |nil=>rw[aCZ]at h;cases h
   |cons q u=>
    have:(x::fW)=(q::u).reverse:=by rw[<-h,List.reverse_reverse]
    rw[this,xg,List.getLast?_append,List.getLast?_singleton]at GX;simp at GX;exact⟨u,by rw[GX]⟩
 obtain⟨u,hu⟩:=aML;obtain⟨u',qe⟩:=aMM;have aMN:order n pt S=z'::(u++z::u'):=by unfold order;rw[hh,Qj,CS];simp only[List.tail_cons];rw[hu,qe];rfl
 refine⟨u++z::u',aMN,?_,?_,?_⟩
 case refine_3=>
  have s1:=(fF.steps yO).imp (R':=λx y=>nu n pt S x y) λx y h=>h.1;have s2:=(fF.steps Ev).imp (R':=λx y=>nu n pt S x y) λx y h c dV=>h.1 c ((AV c).2 dV);rw[xg,hu]at s1;rw[xg,qe]at s2;have:=V5 (l:=z'::u) (a:=z) (m:=u'++[z']) s1 s2;simpa using this
 case refine_2=>
  have sub:∀ x,x∈z'::(u++z::u')->x∈S:=by
   intro x hx;have:x∈z'::u\/x∈z::u':=by
    rcases cE.1 hx with h|h
    ·exact .inl (h▸aR ..)
    ·rcases fh.1 h with h|h
     ·exact .inl (bK _ h)
     ·exact .inr h
   rcases this with h|h
   ·rw[<-hu,LX]at h;exact fF.mem yO x (bK _ h)
   ·rw[<-qe,LX]at h;exact(AV x).1 (fF.mem Ev x (bK _ h))
  intro x;refine⟨sub x,λhx=>?_⟩;apply iP;intro gi;have s1:=(fF.steps yO).imp (R':=λx y=>nu n pt S x y) λx y h=>h.1;have s2:=(fF.steps Ev).imp (R':=λx y=>nu n pt S x y) λx y h c dV=>h.1 c ((AV c).2 dV);rw[xg,hu]at s1;rw[xg,qe]at s2;have s3:=V5 (l:=z'::u) (a:=z) (m:=u'++[z']) s1 s2;have lQ:z'≠x:=λh=>gi (h▸aR ..)
  -- the first step,then the rest back to V9 start
  have aMO:∃ y v,u++z::(u'++[z'])=y::v:=by
   cases u with
   |nil=>exact⟨z,_,rfl⟩
   |cons y u=>exact⟨y,_,rfl⟩
  obtain⟨y,v,Ki⟩:=aMO;have s3':mU (λx y=>nu n pt S x y) (z'::y::v):=by rw[<-Ki];exact s3
  have bo:∀ q∈y::v,q=z'\/q∈z'::(u++z::u'):=by
   intro q hq;rw[<-Ki]at hq;have:q∈u++z::u'\/q=z':=by simpa[or_assoc]using hq
   rcases this with h|h
   ·exact .inr (bK _ h)
   ·exact .inl h
  have KX:x∉y::v:=λh=>by
   rcases bo x h with h|h
   ·exact lQ h.symm
   ·exact gi h
  have hyS:∀ q∈y::v,q∈S:=λq hq=>by
   rcases bo q hq with h|h
   ·rw[h];exact aS
   ·exact sub q h
  have qk:(y::v).getLast?=some z':=by rw[<-Ki,show u++z::(u'++[z'])=(u++z::u')++[z']by simp];exact aMD _ _
  have hyx:x≠y:=λh=>KX (h▸aR ..);have h1:0<tr n (pt z'-pt x) (pt y-pt x):=by have:=s3'.1 x hx (kV lQ) hyx;rw[<-GV]at this;exact this
  rcases aMC hn hc hx hyS KX s3'.2 qk with h2|h2
  ·rw[h2,aMv]at h1;exact OF.lt_irrefl _ h1
  ·rw[Qd]at h2;exact OF.lt_irrefl _ (OF.lt_trans h1 (neg_pos.1 h2))
 case refine_1=>
  have d1:=V7 yO;have d2:=V7 Ev;have e1:(z'::u).Pairwise λa b=>H.fw (pt b-pt a):=by rw[<-hu,aC0];exact(tP.1 d1).2
  have e2:(z::u').Pairwise λa b=>H.fw (pt a-pt b):=by rw[<-qe,aC0];refine(tP.1 d2).2.imp ?_;intro x y h;rw[CP (pt x) (pt y)];exact h
  have inj:∀ x∈S,∀ y∈S,pt x=pt y->x=y:=by
   intro x hx y hy lj;apply iP;intro bB;rcases yN.total hs y hy x hx bB with h|h
   ·exact js.ne h lj.symm
   ·exact js.ne h lj
  have n1:(z'::u).Nodup:=e1.imp λh=>λe=>js.ne h (by rw[e]);have n2:(z::u').Nodup:=e2.imp λh=>λe=>js.ne h (by rw[e]);rw[show z'::(u++z::u')=(z'::u)++(z::u')from rfl,List.nodup_append];refine⟨n1,n2,?_⟩;intro x hx y hy lj;subst lj
  -- x aMB on both aMG: V9 aW1 differ
  have aMP:∀{l:List ι} {e x:ι},mU (λa b=>nu n pt S a b/\H.fw (pt b-pt a)) (l++[e])->x∈l->∃ y∈l++[e],nu n pt S x y/\H.fw (pt y-pt x):=by
   intro l;induction l with
   |nil=>intro e x _ h;cases h
   |cons p l ih=>
    intro e x bW hx;cases l with
    |nil=>
     rcases cE.1 hx with rfl|h
     ·exact⟨e,by simp,bW.1⟩
     ·cases h
    |cons q l=>
     rcases cE.1 hx with rfl|h
     ·exact⟨q,by simp,bW.1⟩
     ·obtain⟨y,hy,h2⟩:=ih (e:=e) bW.2 h;exact⟨y,bK _ hy,h2⟩
  have s1:=fF.steps yO;rw[xg,hu]at s1;obtain⟨y1,hy1,wF,iq⟩:=aMP s1 hx;have y1S:y1∈S:=by rw[<-hu,<-xg,LX]at hy1;exact fF.mem yO y1 hy1
  have s2:=(fF.steps Ev).imp (R':=λx y=>nu n pt S x y/\H.fw (pt x-pt y)) λx y h=>⟨λc dV=>h.1 c ((AV c).2 dV),by have:H.fw (-(pt y-pt x)):=h.2;rwa[<-CP]at this⟩
  rw[xg,qe]at s2;have aMQ:∀{l:List ι} {e x:ι},mU (λa b=>nu n pt S a b/\H.fw (pt a-pt b)) (l++[e])->x∈l->∃ y∈l++[e],nu n pt S x y/\H.fw (pt x-pt y):=by
   intro l;induction l with
   |nil=>intro e x _ h;cases h
   |cons p l ih=>
    intro e x bW hx;cases l with
    |nil=>
     rcases cE.1 hx with rfl|h
     ·exact⟨e,by simp,bW.1⟩
     ·cases h
    |cons q l=>
     rcases cE.1 hx with rfl|h
     ·exact⟨q,by simp,bW.1⟩
     ·obtain⟨y,hy,h2⟩:=ih (e:=e) bW.2 h;exact⟨y,bK _ hy,h2⟩
  obtain⟨y2,wb,jG,iX⟩:=aMQ s2 hy;have y2S:y2∈S:=by rw[<-qe,<-xg,LX]at wb;exact(AV y2).1 (fF.mem Ev y2 wb)
  have:=V6 inj y1S y2S (λe=>js.ne iq (by rw[e])) (λe=>js.ne iX (by rw[e])) wF jG;subst this;exact js.Jg iq iX
end
section
variable{F:Type}[OF F]
def AW(v:V3 F):Prop:=0<v.x\/(v.x=0/\(0<v.y\/(v.y=0/\0<v.z)))
theorem aMR(v:V3 F)(k:F):(smul v k).x=v.x*k:=rfl
theorem aMS(v:V3 F)(k:F):(smul v k).y=v.y*k:=rfl
theorem aMT(v:V3 F)(k:F):(smul v k).z=v.z*k:=rfl
theorem aMU(u v:V3 F):(u+v).x=u.x+v.x:=rfl
theorem aMV(u v:V3 F):(u+v).y=u.y+v.y:=rfl
theorem aMW(u v:V3 F):(u+v).z=u.z+v.z:=rfl
theorem aMX(u:V3 F):(-u).x=-u.x:=rfl
theorem aMY(u:V3 F):(-u).y=-u.y:=rfl
theorem aMZ(u:V3 F):(-u).z=-u.z:=rfl
def aC1:js F where
 fw:=AW
 add {x y} hx hy:=by
  unfold AW at *;rw[aMU,aMV,aMW];rcases hx with hx|⟨hx,iD|⟨iD,LY⟩⟩<;>rcases hy with hy|⟨hy,wb|⟨wb,Wb⟩⟩
  ·exact .inl (add_pos hx hy)
  ·exact .inl (by rw[hy,CR.add_zero];exact hx)
  ·exact .inl (by rw[hy,CR.add_zero];exact hx)
  ·exact .inl (by rw[hx,CR.zero_add];exact hy)
  ·exact .inr ⟨by rw[hx,hy,CR.add_zero],.inl (add_pos iD wb)⟩
  ·exact .inr ⟨by rw[hx,hy,CR.add_zero],.inl (by rw[wb,CR.add_zero];exact iD)⟩
  ·exact .inl (by rw[hx,CR.zero_add];exact hy)
  ·exact .inr ⟨by rw[hx,hy,CR.add_zero],.inl (by rw[iD,CR.zero_add];exact wb)⟩
  ·exact .inr ⟨by rw[hx,hy,CR.add_zero],.inr ⟨by rw[iD,wb,CR.add_zero],add_pos LY Wb⟩⟩
 mul {x k} hx hk:=by
  unfold AW at *;rw[aMR,aMS,aMT];rcases hx with hx|⟨hx,iD|⟨iD,LY⟩⟩
  ·exact .inl (mul_pos hx hk)
  ·exact .inr ⟨by rw[hx,CR.zero_mul],.inl (mul_pos iD hk)⟩
  ·exact .inr ⟨by rw[hx,CR.zero_mul],.inr ⟨by rw[iD,CR.zero_mul],mul_pos LY hk⟩⟩
 asymm {x} hx hy:=by
  unfold AW at *;rw[aMX,aMY,aMZ]at hy;have no:∀ a:F,0<a->0 < -a->False:=λa h k=>OF.lt_irrefl _ (OF.lt_trans h (neg_pos.1 k));have nz:∀ a:F,0<a->-a=0->False:=λa h k=>by rw[<-CR.neg_neg a,k,CR.neg_zero]at h;exact OF.lt_irrefl _ h
  have Wc:∀ a:F,a=0->0 < -a->False:=λa h k=>by rw[h,CR.neg_zero]at k;exact OF.lt_irrefl _ k
  rcases hx with hx|⟨hx,iD|⟨iD,LY⟩⟩<;>rcases hy with hy|⟨hy,wb|⟨wb,Wb⟩⟩
  ·exact no _ hx hy
  ·exact nz _ hx hy
  ·exact nz _ hx hy
  ·exact Wc _ hx hy
  ·exact no _ iD wb
  ·exact nz _ iD wb
  ·exact Wc _ hx hy
  ·exact Wc _ iD wb
  ·exact no _ LY Wb
theorem aM0{a b:V3 F}(h:a≠b):AW (b-a)\/AW (a-b):=by
 unfold AW;show(0<b.x-a.x\/(b.x-a.x=0/\(0<b.y-a.y\/(b.y-a.y=0/\0<b.z-a.z))))\/(0<a.x-b.x\/(a.x-b.x=0/\(0<a.y-b.y\/(a.y-b.y=0/\0<a.z-b.z))));simp only[OF.sub_pos,OF.sub_eq_zero];rcases OF.lt_trichotomy a.x b.x with hx|hx|hx
 ·exact .inl (.inl hx)
 ·rcases OF.lt_trichotomy a.y b.y with hy|hy|hy
  ·exact .inl (.inr ⟨hx.symm,.inl hy⟩)
  ·rcases OF.lt_trichotomy a.z b.z with hz|hz|hz
   ·exact .inl (.inr ⟨hx.symm,.inr ⟨hy.symm,hz⟩⟩)
   ·exact absurd (V3.ext hx hy hz) h
   ·exact .inr (.inr ⟨hx,.inr ⟨hy,hz⟩⟩)
  ·exact .inr (.inr ⟨hx,.inl hy⟩)
 ·exact .inr (.inl hx)
theorem kz.yM{ps:List (HS F)}{c:V3 F}(h:kz ps c):∃ m:V3 F,∀ w,ep ps w->w≠c->dot m w<dot m c:=by
 obtain⟨_,p,hp,q,hq,r,hr,hd,tp,tq,tr⟩:=h;refine⟨p.n+q.n+r.n,λw hw bB=>?_⟩;rw[P7,P7,P7,P7,show dot p.n c=p.d from tp,show dot q.n c=q.d from tq,show dot r.n c=r.d from tr];rcases OF.oz (hw p hp)with h1|h1
 ·exact add_lt_add_of_lt_of_le (add_lt_add_of_lt_of_le h1 (hw q hq)) (hw r hr)
 ·rcases OF.oz (hw q hq)with h2|h2
  ·exact add_lt_add_of_lt_of_le (add_lt_add_of_le_of_lt (hw p hp) h2) (hw r hr)
  ·rcases OF.oz (hw r hr)with h3|h3
   ·exact add_lt_add_of_le_of_lt (OF.add_le_add (hw p hp) (hw q hq)) h3
   ·refine absurd (V3.sub_eq_zero.1 (Eu hd ?_ ?_ ?_)) bB
    ·rw[gg,h1,show dot p.n c=p.d from tp,OF.sub_self]
    ·rw[gg,h2,show dot q.n c=q.d from tq,OF.sub_self]
    ·rw[gg,h3,show dot r.n c=r.d from tr,OF.sub_self]
theorem aM1{ps:List (HS F)}{p:HS F}{ι:Type}{pt:ι->V3 F}{S:List ι}(hS:∀ i∈S,kz ps (pt i)/\cC p (pt i))
  (Wd:∀ i∈S,∀ j∈S,pt i=pt j->i=j):Conv p.n pt S where
 qv a ha b hb:=by rw[gg,show dot p.n (pt a)=p.d from(hS a ha).2,show dot p.n (pt b)=p.d from(hS b hb).2,OF.sub_self]
 yM c hc:=by obtain⟨m,hm⟩:=(hS c hc).1.yM;exact⟨m,λw hw bB=>hm _ (hS w hw).1.1 λe=>bB (Wd w hw c hc e)⟩
structure fG(F:Type) where
 lo:Option F
 hi:Option F
def CT(s:fG F)(a b:F):Option (fG F):=
 if aE a=0 then(if 0<=b then some s else none)
 else
  let t:=b*a⁻¹
  let s':fG F:=
   if 0<a then(match s.hi with|some h=>if t<h then⟨s.lo,some t⟩else s|none=>⟨s.lo,some t⟩)
   else(match s.lo with|some l=>if l<t then⟨some t,s.hi⟩else s|none=>⟨some t,s.hi⟩)
  match s'.lo,s'.hi with
  |some l,some h=>if l<h then some s' else none
  |_,_=>some s'
def fG.Sat(s:fG F)(t:F):Prop:=(∀ l,s.lo=some l->l<=t)/\(∀ h,s.hi=some h->t<=h)
def fG.Open(s:fG F):Prop:=∀ l h,s.lo=some l->s.hi=some h->l<h
theorem aM2(s:fG F)(a b:F):
  (∀ s',CT s a b=some s'->(s.Open->s'.Open)/\(∀ t,s'.Sat t↔s.Sat t/\a*t<=b)/\(∀ l,s'.lo=some l->s.lo=some l\/(a<0/\a*l=b))/\(∀ h,s'.hi=some h->s.hi=some h\/(0<a/\a*h=b)))/\
  (CT s a b=none->∀ t1 t2,s.Sat t1->a*t1<=b->s.Sat t2->a*t2<=b->t1<t2->False):=by
 unfold CT;by_cases ha:aE a=0
 ·rw[aA ha];have jx:=(fU a).1 ha;by_cases hb:0<=b
  ·rw[aA hb];refine⟨λs' h=>?_,λh=>by cases h⟩;injection h with h;subst h;exact⟨id,λt=>⟨λh=>⟨h,by rw[jx,CR.zero_mul];exact hb⟩,λh=>h.1⟩,λl h=>.inl h,λl h=>.inl h⟩
  ·rw[au hb];refine⟨λs' h=>(by cases h),λ_ t1 t2 _ h1 _ _ _=>hb ?_⟩;rw[jx,CR.zero_mul]at h1;exact h1
 ·rw[au ha];have jx:a≠0:=λe=>ha ((fU a).2 e);have e:a*(b*a⁻¹)=b:=by rw[CR.mul_left_comm,jA _ jx,CR.mul_one]
  generalize b*a⁻¹=t0 at e;dsimp only
  -- the new part,and what it says
  have key:∃ s':fG F,(if 0<a then(match s.hi with|some h=>if t0<h then⟨s.lo,some t0⟩else s|none=>⟨s.lo,some t0⟩)
    else(match s.lo with|some l=>if l<t0 then⟨some t0,s.hi⟩else s|none=>⟨some t0,s.hi⟩):fG F)=s'/\(∀ t,s'.Sat t↔s.Sat t/\a*t<=b)/\(∀ l,s'.lo=some l->s.lo=some l\/(a<0/\a*l=b))/\(∀ h,s'.hi=some h->s.hi=some h\/(0<a/\a*h=b)):=by
   by_cases hp:0<a
   ·rw[aA hp];have le:∀ t,a*t<=b↔t<=t0:=λt=>by rw[<-e,mul_le_mul_left hp]
    cases hh:s.hi with
    |none=>
     refine⟨_,rfl,λt=>?_,λl h=>.inl h,λh k=>.inr ⟨hp,by injection k with k;rw[<-k];exact e⟩⟩;rw[le];exact⟨λh=>⟨⟨h.1,λx hx=>by rw[hh]at hx;cases hx⟩,h.2 t0 rfl⟩,λh=>⟨h.1.1,λx hx=>by injection hx with hx;rw[<-hx];exact h.2⟩⟩
    |some h0=>
     dsimp only;by_cases ao:t0<h0
     ·rw[aA ao];refine⟨_,rfl,λt=>?_,λl h=>.inl h,λh k=>.inr ⟨hp,by injection k with k;rw[<-k];exact e⟩⟩;rw[le];exact⟨λh=>⟨⟨h.1,λx hx=>by rw[hh]at hx;injection hx with hx;rw[<-hx];exact OF.le_trans (h.2 t0 rfl) (OF.le_of_lt ao)⟩,h.2 t0 rfl⟩,λh=>⟨h.1.1,λx hx=>by injection hx with hx;rw[<-hx];exact h.2⟩⟩
     ·rw[au ao];refine⟨_,rfl,λt=>?_,λl h=>.inl h,λh k=>.inl (hh.symm.trans k)⟩;rw[le];exact⟨λh=>⟨h,OF.le_trans (h.2 h0 hh) (OF.not_lt.1 ao)⟩,λh=>h.1⟩
   ·rw[au hp];have hn:a<0:=by
     rcases OF.oz (OF.not_lt.1 hp)with h|h
     ·exact h
     ·exact absurd h jx
    have le:∀ t,a*t<=b↔t0<=t:=λt=>by rw[<-e,<-mul_le_mul_left (a:=t0) (b:=t) (neg_pos.2 hn),OF.le_def,OF.le_def,show -a*t - -a*t0=a*t0-a*t from j0 a t t0 (λa t u=>-a*t - -a*u) (λa t u=>a*u-a*t) d_]
    cases hh:s.lo with
    |none=>
     refine⟨_,rfl,λt=>?_,λl k=>.inr ⟨hn,by injection k with k;rw[<-k];exact e⟩,λh k=>.inl k⟩;rw[le];exact⟨λh=>⟨⟨λx hx=>(by rw[hh]at hx;cases hx),h.2⟩,h.1 t0 rfl⟩,λh=>⟨λx hx=>by injection hx with hx;rw[<-hx];exact h.2,h.1.2⟩⟩
    |some h0=>
     dsimp only;by_cases ao:h0<t0
     ·rw[aA ao];refine⟨_,rfl,λt=>?_,λl k=>.inr ⟨hn,by injection k with k;rw[<-k];exact e⟩,λh k=>.inl k⟩;rw[le];exact⟨λh=>⟨⟨λx hx=>by rw[hh]at hx;injection hx with hx;rw[<-hx];exact OF.le_trans (OF.le_of_lt ao) (h.1 t0 rfl),h.2⟩,h.1 t0 rfl⟩,λh=>⟨λx hx=>by injection hx with hx;rw[<-hx];exact h.2,h.1.2⟩⟩
     ·rw[au ao];refine⟨_,rfl,λt=>?_,λl h=>.inl (hh.symm.trans h),λh k=>.inl k⟩;rw[le];exact⟨λh=>⟨h,OF.le_trans (OF.not_lt.1 ao) (h.1 h0 hh)⟩,λh=>h.1⟩
  obtain⟨s1,uy,we,eT,iZ⟩:=key;rw[uy];cases hl:s1.lo with
  |none=>
   refine⟨λs' h=>?_,λh=>by cases h⟩;injection h with h;subst h;exact⟨λ_ l h cD=>(by rw[hl]at cD;cases cD),we,eT,iZ⟩
  |some l=>
   cases hh:s1.hi with
   |none=>
    refine⟨λs' h=>?_,λh=>by cases h⟩;injection h with h;subst h;exact⟨λ_ l h _ CS=>(by rw[hh]at CS;cases CS),we,eT,iZ⟩
   |some h=>
    dsimp only;by_cases ao:l<h
    ·rw[aA ao];refine⟨λs' h=>?_,λh=>by cases h⟩;injection h with h;subst h;refine⟨λ_ l' h' cD CS=>?_,we,eT,iZ⟩;rw[hl]at cD;rw[hh]at CS;injection cD with cD;injection CS with CS;rw[<-cD,<-CS];exact ao
    ·rw[au ao];refine⟨λs' h=>(by cases h),λ_ t1 t2 h1 k1 h2 k2 Qk=>ao ?_⟩;have q1:=((we t1).2 ⟨h1,k1⟩).1 l hl;have q2:=((we t2).2 ⟨h2,k2⟩).2 h hh;exact OF.lt_of_le_of_lt q1 (OF.lt_of_lt_of_le Qk q2)
def GY:fG F->List (F×F)->Option (fG F)
 |s,[]=>some s
 |s,x::l=>(CT s x.1 x.2).bind λs'=>GY s' l
theorem We:∀(l:List (F×F)) (s:fG F),s.Open->
  (∀ s',GY s l=some s'->s'.Open/\(∀ t,s'.Sat t↔s.Sat t/\∀ x∈l,x.1*t<=x.2)/\(∀ t,s'.lo=some t->s.lo=some t\/∃ x∈l,x.1<0/\x.1*t=x.2)/\(∀ t,s'.hi=some t->s.hi=some t\/∃ x∈l,0<x.1/\x.1*t=x.2))/\
  (GY s l=none->∀ t1 t2,s.Sat t1->(∀ x∈l,x.1*t1<=x.2)->s.Sat t2->(∀ x∈l,x.1*t2<=x.2)->t1<t2->False)
 |[],s,ho=>⟨λs' h=>by injection h with h;subst h;exact⟨ho,λt=>⟨λh=>⟨h,λx hx=>by cases hx⟩,λh=>h.1⟩,λt h=>.inl h,λt h=>.inl h⟩,λh=>by cases h⟩
 |x::l,s,ho=>by
  obtain⟨h1,h2⟩:=aM2 s x.1 x.2;unfold GY;cases hn:CT s x.1 x.2 with
  |none=>
   refine⟨λs' h=>(by cases h),λ_ t1 t2 a b c d e=>?_⟩;exact h2 hn t1 t2 a (b x (aR ..)) c (d x (aR ..)) e
  |some s1=>
   obtain⟨o1,Wf,AX,hi1⟩:=h1 s1 hn;obtain⟨k1,k2⟩:=We l s1 (o1 ho);refine⟨λs' h=>?_,λh t1 t2 a b c d e=>?_⟩
   ·obtain⟨o2,aM3,xh,TH⟩:=k1 s' h;refine⟨o2,λt=>?_,λt ht=>?_,λt ht=>?_⟩
    ·rw[aM3,Wf];constructor
     ·rintro⟨⟨p,q⟩,r⟩
      exact⟨p,λy hy=>by
       rcases cE.1 hy with rfl|hy
       ·exact q
       ·exact r y hy⟩
     ·rintro⟨p,q⟩
      exact⟨⟨p,q x (aR ..)⟩,λy hy=>q y (bK _ hy)⟩
    ·rcases xh t ht with h|⟨y,hy,h⟩
     ·rcases AX t h with h|h
      ·exact .inl h
      ·exact .inr ⟨x,aR ..,h⟩
     ·exact .inr ⟨y,bK _ hy,h⟩
    ·rcases TH t ht with h|⟨y,hy,h⟩
     ·rcases hi1 t h with h|h
      ·exact .inl h
      ·exact .inr ⟨x,aR ..,h⟩
     ·exact .inr ⟨y,bK _ hy,h⟩
   ·exact k2 h t1 t2 ((Wf t1).2 ⟨a,b x (aR ..)⟩) (λy hy=>b y (bK _ hy)) ((Wf t2).2 ⟨c,d x (aR ..)⟩) (λy hy=>d y (bK _ hy)) e
end
section
variable{F:Type}[OF F]
def nA(p q:HS F):V3 F:=
 let d:=ag p.n q.n
 smul (smul (ag q.n d) p.d+smul (ag d p.n) q.d) (dot d d)⁻¹
theorem aC2{p q:HS F}(h:ag p.n q.n≠0):cC p (nA p q):=by
 unfold cC nA;dsimp only;have e:dot p.n (smul (ag q.n (ag p.n q.n)) p.d+smul (ag (ag p.n q.n) p.n) q.d)=p.d*dot (ag p.n q.n) (ag p.n q.n):=
  ring [p.n,q.n] [p.d,q.d] (λV S=>dot (V 0) (smul (ag (V 1) (ag (V 0) (V 1))) (S 0)+smul (ag (ag (V 0) (V 1)) (V 0)) (S 1))) (λV S=>S 0*dot (ag (V 0) (V 1)) (ag (V 0) (V 1))) d_
 rw[gk,e,CR.mul_assoc,jA _ (AP h),CR.mul_one]
theorem aC3{p q:HS F}(h:ag p.n q.n≠0):cC q (nA p q):=by
 unfold cC nA;dsimp only;have e:dot q.n (smul (ag q.n (ag p.n q.n)) p.d+smul (ag (ag p.n q.n) p.n) q.d)=q.d*dot (ag p.n q.n) (ag p.n q.n):=
  ring [p.n,q.n] [p.d,q.d] (λV S=>dot (V 1) (smul (ag (V 1) (ag (V 0) (V 1))) (S 0)+smul (ag (ag (V 0) (V 1)) (V 0)) (S 1))) (λV S=>S 1*dot (ag (V 0) (V 1)) (ag (V 0) (V 1))) d_
 rw[gk,e,CR.mul_assoc,jA _ (AP h),CR.mul_one]
def AY(ps:List (HS F))(p q:HS F):Option (V3 F×V3 F):=
 let d:=ag p.n q.n
 if aE d.x=0/\aE d.y=0/\aE d.z=0 then none
 else match GY ⟨none,none⟩ (ps.map λr=>(dot r.n d,r.d-dot r.n (nA p q)))with
  |some ⟨some lo,some hi⟩=>some (nA p q+smul d lo,nA p q+smul d hi)
  |_=>none
theorem Ql(d:V3 F):(aE d.x=0/\aE d.y=0/\aE d.z=0)↔d=0:=by rw[fU,fU,fU];exact⟨λh=>V3.ext h.1 h.2.1 h.2.2,λh=>by subst h;exact⟨rfl,rfl,rfl⟩⟩
theorem Qm{ps:List (HS F)}{b d:V3 F}{t:F}:ep ps (b+smul d t)↔∀ x∈ps.map λr=>(dot r.n d,r.d-dot r.n b),x.1*t<=x.2:=by
 constructor
 ·intro h x hx;obtain⟨r,hr,rfl⟩:=df.1 hx;have:=h r hr;rw[iT,gk]at this;dsimp only;rw[<-add_le_add_left (dot r.n b),show dot r.n b+(r.d-dot r.n b)=r.d from iR (dot r.n b) r.d (λa d=>a+(d-a)) (λ_ d=>d) d_];exact this
 ·intro h r hr;have:=h _ (df.2 ⟨r,hr,rfl⟩);dsimp only at this;rw[<-add_le_add_left (dot r.n b),show dot r.n b+(r.d-dot r.n b)=r.d from iR (dot r.n b) r.d (λa d=>a+(d-a)) (λ_ d=>d) d_]at this;rw[iT,gk];exact this
theorem aC4:(⟨none,none⟩:fG F).Open:=λl h hl _=>by cases hl
theorem LZ(t:F):(⟨none,none⟩:fG F).Sat t:=⟨λl h=>(by cases h),λl h=>(by cases h)⟩
theorem aM4{ps:List (HS F)}{p q:HS F}(hp:p∈ps)(hq:q∈ps){u v:V3 F}(h:AY ps p q=some (u,v)):kz ps u/\kz ps v:=by
 unfold AY at h;dsimp only at h;split at h
 ·cases h
 ·rename_i hd;rw[Ql]at hd;have tp:=aC2 hd;have tq:=aC3 hd;generalize nA p q=b at *;split at h
  ·rename_i lo hi hn;injection h with h;injection h with h1 h2;obtain⟨ho,we,eT,iZ⟩:=(We _ _ aC4).1 _ hn;have ao:=ho lo hi rfl rfl
   -- a L0 of the line on a Qa aM5 it
   have fin:∀ t:F,lo<=t->t<=hi->(∃ x∈ps.map λr=>(dot r.n (ag p.n q.n),r.d-dot r.n b),x.1≠0/\x.1*t=x.2)->kz ps (b+smul (ag p.n q.n) t):=by
    rintro t h1 h2 ⟨x,hx,lQ,AQ⟩
    obtain⟨r,hr,rfl⟩:=df.1 hx;refine⟨?_,p,hp,q,hq,r,hr,?_,?_,?_,?_⟩
    ·rw[Qm];exact((we t).1 ⟨λl hl=>by injection hl with hl;rw[<-hl];exact h1,λl hl=>by injection hl with hl;rw[<-hl];exact h2⟩).2
    ·intro e;rw[<-GP]at e;exact lQ e
    ·unfold cC at *;rw[iT,gk,Et,CR.zero_mul,CR.add_zero,tp]
    ·unfold cC at *;rw[iT,gk,AO,CR.zero_mul,CR.add_zero,tq]
    ·unfold cC;rw[iT,gk];dsimp only at AQ;rw[AQ];exact iR (dot r.n b) r.d (λa d=>a+(d-a)) (λ_ d=>d) d_
   rw[<-h1,<-h2];constructor
   ·rcases eT lo rfl with k|⟨x,hx,lQ,AQ⟩
    ·cases k
    ·exact fin lo (OF.le_refl _) (OF.le_of_lt ao) ⟨x,hx,OF.ne_of_lt lQ,AQ⟩
   ·rcases iZ hi rfl with k|⟨x,hx,lQ,AQ⟩
    ·cases k
    ·exact fin hi (OF.le_of_lt ao) (OF.le_refl _) ⟨x,hx,OF.ne_of_gt lQ,AQ⟩
  ·cases h
theorem aM6{ps:List (HS F)}(hc:Cl ps)(hp:fE ps){v x:V3 F}(hv:kz ps v)(hx:ep ps x)(bB:x≠v):
  ∃ p∈ps,∃ q∈ps,ag p.n q.n≠0/\(∃ u w,AY ps p q=some (u,w)/\(v=u\/v=w))/\(∃ u w,AY ps q p=some (u,w)/\(v=u\/v=w)):=by
 obtain⟨p,jk,q,Cw,tp,tq,hd,bo⟩:=aMt hp hv hx bB
 -- one order;c=d or c=-d is the direction aW2 the aC5
 have one:∀ p q:HS F,p∈ps->q∈ps->cC p v->cC q v->ag p.n q.n≠0->∀ c:V3 F,(c=ag p.n q.n\/c=-ag p.n q.n)->(∀ r∈ps,cC r v->dot r.n c<=0)->
   ∃ u w,AY ps p q=some (u,w)/\(v=u\/v=w):=by
  intro p q jk Cw tp tq hd c Wg bo;have qN:c≠0:=by
   rcases Wg with rfl|rfl
   ·exact hd
   ·exact λe=>hd (neg_eq_zero.1 e)
  have bp:=aC2 hd;have bq:=aC3 hd
  -- v on the line
  have Qn:dot p.n (v-nA p q)=0/\dot q.n (v-nA p q)=0:=by unfold cC at *;rw[gg,gg,tp,tq,bp,bq,OF.sub_self,OF.sub_self];exact⟨rfl,rfl⟩
  obtain⟨t0,xi⟩:∃ t0,v=nA p q+smul (ag p.n q.n) t0:=
   ⟨_,by rw[<-LP hd Qn.1 Qn.2,V3.add_sub_cancel]⟩
  -- a aW3 L0 of the line
  obtain⟨e,he,⟨r,hr,nQ,GS⟩,cy⟩:=Ab hv.1 (hc.bounds hp qN);have aC6:0<e:=by
   rcases OF.oz he with h|h
   ·exact h
   ·rw[<-h,smul_zero,V3.add_zero]at GS;exact absurd (OF.lt_of_lt_of_le nQ (bo r hr GS)) (OF.lt_irrefl _)
  -- a Qa at v aM5 the line
  have aC7:=hv.1;obtain⟨_,a1,eC,a2,gO,a3,yH,L3,t1,t2,t3⟩:=hv;obtain⟨s,hs,ts,Wh⟩:∃ s∈ps,cC s v/\dot s.n c<0:=by
   apply iP;intro gi;have z:∀ a∈ps,cC a v->dot a.n c=0:=λa ha ta=>by
    rcases OF.oz (bo a ha ta)with h|h
    ·exact(gi ⟨a,ha,ta,h⟩).elim
    ·exact h
   exact qN (Eu L3 (z a1 eC t1) (z a2 gO t2) (z a3 yH t3))
  have AR:∀ t:F,v+smul (ag p.n q.n) t=nA p q+smul (ag p.n q.n) (t0+t):=λt=>by rw[xi];exact il [nA p q,ag p.n q.n] [t0,t] (λV S=>V 0+smul (V 1) (S 0)+smul (V 1) (S 1)) (λV S=>V 0+smul (V 1) (S 0+S 1)) d_
  have aC8:∀ t:F,ep ps (v+smul (ag p.n q.n) t)->∀ x∈ps.map λr=>(dot r.n (ag p.n q.n),r.d-dot r.n (nA p q)),x.1*(t0+t)<=x.2:=λt h=>by rw[AR]at h;exact Qm.1 h
  have f0:=aC8 0 (by rw[smul_zero,V3.add_zero];exact aC7);rw[CR.add_zero]at f0
  -- the other L0
  have f1:∃ t1:F,t1≠0/\ep ps (v+smul (ag p.n q.n) t1):=by
   rcases Wg with rfl|rfl
   ·exact⟨e,OF.ne_of_gt aC6,cy⟩
   ·refine⟨-e,OF.ne_of_lt (Gp.2 aC6),?_⟩;rw[show smul (ag p.n q.n) (-e)=smul (-ag p.n q.n) e from il [ag p.n q.n] [e] (λV S=>smul (V 0) (-S 0)) (λV S=>smul (-V 0) (S 0)) d_];exact cy
  obtain⟨t1,jn,f1⟩:=f1;have f1:=aC8 t1 f1;unfold AY;dsimp only;rw[au (by rw[Ql];exact hd)];obtain⟨n1,n2⟩:=We (ps.map λr=>(dot r.n (ag p.n q.n),r.d-dot r.n (nA p q))) ⟨none,none⟩ aC4;cases hN:GY ⟨none,none⟩ (ps.map λr=>(dot r.n (ag p.n q.n),r.d-dot r.n (nA p q)))with
  |none=>
   exfalso;rcases OF.lt_trichotomy 0 t1 with h|h|h
   ·exact n2 hN t0 (t0+t1) (LZ _) f0 (LZ _) f1 (by have:=(add_lt_add_left t0).2 h;rwa[CR.add_zero]at this)
   ·exact jn h.symm
   ·exact n2 hN (t0+t1) t0 (LZ _) f1 (LZ _) f0 (by have:=(add_lt_add_left t0).2 h;rwa[CR.add_zero]at this)
  |some sg=>
   obtain⟨ho,we,_,_⟩:=n1 sg hN;have s0:=(we t0).2 ⟨LZ _,f0⟩
   -- beyond a Qa
   have beyond:∀ c:V3 F,c≠0->∃ t:F,0<=t/\¬ep ps (v+smul c t):=by intro c qN;obtain⟨t,ht,⟨r,hr,nQ,GS⟩,_⟩:=Ab aC7 (hc.bounds hp qN);refine⟨t+1,add_nonneg ht (OF.le_of_lt OF.zero_lt_one),λh=>?_⟩;have h1:=h r hr;rw[show v+smul c (t+1)=v+smul c t+c from il [v,c] [t] (λV S=>V 0+smul (V 1) (S 0+1)) (λV S=>V 0+smul (V 1) (S 0)+V 1) d_,iT,show dot r.n (v+smul c t)=r.d from GS]at h1;have:=(add_lt_add_left r.d).2 nQ;rw[CR.add_zero]at this;exact OF.lt_irrefl _ (OF.lt_of_lt_of_le this h1)
   obtain⟨lo,hi⟩:=sg;have iZ:∃ h,hi=some h:=by
    cases hi with
    |some h=>exact⟨h,rfl⟩
    |none=>
     exfalso;obtain⟨t,ht,gi⟩:=beyond _ hd;apply gi;rw[AR,Qm];refine((we (t0+t)).1 ⟨λl hl=>?_,λh hh=>(by cases hh)⟩).2;refine OF.le_trans (s0.1 l hl) ?_;have:=(add_le_add_left t0).2 ht;rwa[CR.add_zero]at this
   have eT:∃ l,lo=some l:=by
    cases lo with
    |some h=>exact⟨h,rfl⟩
    |none=>
     exfalso;obtain⟨t,ht,gi⟩:=beyond (-ag p.n q.n) (λe=>hd (neg_eq_zero.1 e));apply gi;rw[show smul (-ag p.n q.n) t=smul (ag p.n q.n) (-t)from il [ag p.n q.n] [t] (λV S=>smul (-V 0) (S 0)) (λV S=>smul (V 0) (-S 0)) d_,AR,Qm];refine((we (t0+-t)).1 ⟨λh hh=>(by cases hh),λl hl=>?_⟩).2;refine OF.le_trans ?_ (s0.2 l hl);have:=(add_le_add_left t0).2 (Ef.2 ht);rwa[CR.add_zero]at this
   obtain⟨hi,rfl⟩:=iZ;obtain⟨lo,rfl⟩:=eT;have ao:=ho lo hi rfl rfl;have l0:=s0.1 lo rfl;have h0:=s0.2 hi rfl;refine⟨_,_,rfl,?_⟩
   -- the value of s on the line
   have aC9:∀ t:F,(∀ x∈ps.map λr=>(dot r.n (ag p.n q.n),r.d-dot r.n (nA p q)),x.1*t<=x.2)->dot s.n (ag p.n q.n)*t<=dot s.n (ag p.n q.n)*t0:=by
    intro t h;have h1:=h _ (df.2 ⟨s,hs,rfl⟩);dsimp only at h1;have h2:dot s.n (ag p.n q.n)*t0=s.d-dot s.n (nA p q):=by have:dot s.n v=s.d:=ts;rw[xi,iT,gk]at this;rw[<-this];exact iR (dot s.n (nA p q)) (dot s.n (ag p.n q.n)*t0) (λ_ b=>b) (λa b=>a+b-a) d_
    rw[h2];exact h1
   rcases Wg with rfl|rfl
   ·left;have k:=aC9 lo ((we lo).1 ⟨λl hl=>(by injection hl with hl;rw[hl];exact OF.le_refl _),λh hh=>(by injection hh with hh;rw[<-hh];exact OF.le_of_lt ao)⟩).2;have k2:t0<=lo:=by
     rw[<-mul_le_mul_left (neg_pos.2 Wh),CR.neg_mul,CR.neg_mul,OF.le_def,show -(dot s.n (ag p.n q.n)*lo) - -(dot s.n (ag p.n q.n)*t0)=dot s.n (ag p.n q.n)*t0-dot s.n (ag p.n q.n)*lo from
       iR (dot s.n (ag p.n q.n)*lo) (dot s.n (ag p.n q.n)*t0) (λa b=>-a - -b) (λa b=>b-a) d_]
     exact k
    rw[OF.le_antisymm l0 k2];exact xi
   ·right;rw[pO,Gp]at Wh;have k:=aC9 hi ((we hi).1 ⟨λl hl=>(by injection hl with hl;rw[<-hl];exact OF.le_of_lt ao),λh hh=>(by injection hh with hh;rw[hh];exact OF.le_refl _)⟩).2;rw[mul_le_mul_left Wh]at k;rw[OF.le_antisymm k h0];exact xi
 refine⟨p,jk,q,Cw,hd,one p q jk Cw tp tq hd _ (.inl rfl) bo,one q p Cw jk tq tp (λe=>hd (by rw[GO,e,V3.neg_zero])) _ (.inr ?_) bo⟩;rw[<-GO]
def sB(ps:List (HS F))(x:V3 F):Prop:=∀ p∈ps,dot p.n x<p.d
def k6(ps:List (HS F)):Prop:=∃ x,sB ps x
theorem sB.inside{ps:List (HS F)}{x:V3 F}(h:sB ps x):ep ps x:=λp hp=>OF.le_of_lt (h p hp)
def aDa(l:List (V3 F)):V3 F:=l.foldl (λs v=>s+v) 0
theorem aDb(m:V3 F):∀(l:List (V3 F)) (s:V3 F),dot m (l.foldl (λs v=>s+v) s)=l.foldl (λ(a:F) v=>a+dot m v) (dot m s)
 |[],_=>rfl
 |v::l,s=>by rw[vF,aDb,vF,iT]
theorem Qo(f:V3 F->F):∀(l:List (V3 F)) (a:F),l.foldl (λ(a:F) v=>a+f v) a=a+l.foldl (λ(a:F) v=>a+f v) 0
 |[],a=>by rw[aDc,aDc,CR.add_zero]
 |v::l,a=>by rw[vF,vF,Qo f l (a+f v),Qo f l (0+f v),CR.zero_add,CR.add_assoc]
theorem aDd{f:V3 F->F}{d:F}:∀{l:List (V3 F)},(∀ v∈l,f v<=d)->l.foldl (λ(a:F) v=>a+f v) 0<=CR.ofNat l.length*d
 |[],_=>by rw[aDc,List.length_nil,CR.ofNat,CR.zero_mul];exact OF.le_refl _
 |v::l,h=>by rw[vF,Qo,CR.zero_add,qd,CR.ofNat,CR.add_mul,CR.one_mul,CR.add_comm];exact OF.add_le_add (aDd λv hv=>h v (bK _ hv)) (h v (aR ..))
theorem aDe{f:V3 F->F}{d:F}:∀{l:List (V3 F)},(∀ v∈l,f v<=d)->(∃ v∈l,f v<d)->l.foldl (λ(a:F) v=>a+f v) 0<CR.ofNat l.length*d
 |[],_,h=>by obtain⟨v,hv,_⟩:=h;cases hv
 |v::l,h,k=>by
  rw[vF,Qo,CR.zero_add,qd,CR.ofNat,CR.add_mul,CR.one_mul,CR.add_comm];have hl:∀ v∈l,f v<=d:=λv hv=>h v (bK _ hv);obtain⟨x,hx,yz⟩:=k;rcases cE.1 hx with rfl|hx
  ·exact add_lt_add_of_le_of_lt (aDd hl) yz
  ·exact add_lt_add_of_lt_of_le (aDe hl ⟨x,hx,yz⟩) (h v (aR ..))
theorem Wi:∀{n:Nat},0<n->(0:F)<CR.ofNat n
 |n+1,_=>by
  rw[CR.ofNat];rcases ow n with rfl|h
  ·rw[CR.ofNat,CR.zero_add];exact OF.zero_lt_one
  ·exact add_pos (Wi h) OF.zero_lt_one
def CU(l:List (V3 F)):V3 F:=smul (aDa l) (CR.ofNat l.length)⁻¹
theorem aM7(m:V3 F)(l:List (V3 F)):dot m (CU l)=l.foldl (λ(a:F) v=>a+dot m v) 0*(CR.ofNat l.length)⁻¹:=by unfold CU aDa;rw[gk,aDb,xe]
theorem Wj{m:V3 F}{d:F}{l:List (V3 F)}(h:∀ v∈l,dot m v<=d)(k:∃ v∈l,dot m v<d):dot m (CU l)<d:=by
 have hl:0<l.length:=by
  obtain⟨v,hv,_⟩:=k;cases l with
  |nil=>cases hv
  |cons a l=>exact Uz _
 have hp:=Wi (F:=F) hl;rw[aM7,<-mul_lt_mul_left hp,CR.mul_left_comm,jA _ (OF.ne_of_gt hp),CR.mul_one];exact aDe h k
theorem Qp{ps:List (HS F)}(hc:Cl ps)(hp:fE ps){l:List (V3 F)}(hl:∀ v,v∈l↔kz ps v)(hf:k6 ps):l≠[]/\sB ps (CU l):=by
 obtain⟨x,hx⟩:=hf;have yM:∀ p∈ps,∃ v∈l,dot p.n v<p.d:=by intro p jr;obtain⟨v,hv,hm⟩:=top hc hp (m:=-p.n) hx.inside;refine⟨v,(hl v).2 hv,?_⟩;rw[vY,vY,OF.le_def,show -dot p.n v - -dot p.n x=dot p.n x-dot p.n v from iR (dot p.n v) (dot p.n x) (λa b=>-a - -b) (λa b=>b-a) d_]at hm;exact OF.lt_of_le_of_lt hm (hx p jr)
 obtain⟨⟨p,jr,_⟩,_⟩:=hc;refine⟨λe=>?_,λp jr=>Wj (λv hv=>((hl v).1 hv).1 p jr) (yM p jr)⟩;obtain⟨v,hv,_⟩:=yM p jr;rw[e]at hv;cases hv
theorem aM8{ps:List (HS F)}(hc:Cl ps)(hp:fE ps)(hf:k6 ps)(v:V3 F):∃ x,ep ps x/\x≠v:=by
 obtain⟨x,hx⟩:=hf;by_cases h:x=v
 ·obtain⟨p,jr,_⟩:=hc.1;have j4:=hp p jr;obtain⟨w,hw,hm⟩:=top hc hp (m:=p.n) hx.inside;by_cases hwx:w=x
  ·-- then every aW4 is x,which is on a Qa
   obtain⟨_,q,hq,_,_,_,_,_,tq,_⟩:=hw;have:=hx q hq;rw[hwx]at tq;rw[show dot q.n x=q.d from tq]at this;exact absurd this (OF.lt_irrefl _)
  ·exact⟨w,hw.1,λe=>hwx (e.trans h.symm)⟩
 ·exact⟨x,hx.inside,h⟩
end
section
variable{F:Type}[OF F]
def Wk(l:List (V3 F)):Prop:=∃ o rest,l=o::rest/\∃ a∈rest,∃ b∈rest,∃ c∈rest,aN (a-o) (b-o) (c-o)≠0
theorem aM9{ps:List (HS F)}(hp:fE ps){l:List (V3 F)}(hl:∀ v∈l,ep ps v)(h:Wk l):k6 ps:=by
 obtain⟨o,rest,rfl,a,ha,b,hb,c,hc,hd⟩:=h;have io:=hl o (aR ..);have ia:=hl a (bK _ ha);have ib:=hl b (bK _ hb);have ic:=hl c (bK _ hc);refine⟨CU [o,a,b,c],λp jr=>Wj (λv hv=>?_) ?_⟩
 ·simp only[cE,jR,jS]at hv;rcases hv with rfl|rfl|rfl|rfl
  ·exact io p jr
  ·exact ia p jr
  ·exact ib p jr
  ·exact ic p jr
 ·apply iP;intro gi;have tight:∀ v∈[o,a,b,c],dot p.n v=p.d:=by
   intro v hv;have cy:dot p.n v<=p.d:=by
    simp only[cE,jR,jS]at hv;rcases hv with rfl|rfl|rfl|rfl
    ·exact io p jr
    ·exact ia p jr
    ·exact ib p jr
    ·exact ic p jr
   rcases OF.oz cy with h|h
   ·exact(gi ⟨v,hv,h⟩).elim
   ·exact h
  have to:=tight o s_;have z:∀ v∈[o,a,b,c],dot (v-o) p.n=0:=λv hv=>by rw[su,gg,tight v hv,to,OF.sub_self]
  exact hp p jr (Eu hd (z a s_) (z b s_) (z c s_))
theorem aDf{ps:List (HS F)}(hc:Cl ps)(hp:fE ps){l:List (V3 F)}(hl:∀ v,v∈l↔kz ps v)(hf:k6 ps):Wk l:=by
 have bB:=(Qp hc hp hl hf).1;cases l with
 |nil=>exact absurd rfl bB
 |cons o rest=>
  apply iP;intro gi;have hz:∀ a∈rest,∀ b∈rest,∀ c∈rest,aN (a-o) (b-o) (c-o)=0:=by intro a ha b hb c hc;apply iP;intro h;exact gi ⟨o,rest,rfl,a,ha,b,hb,c,hc,h⟩
  -- a direction that all points have in N7
  obtain⟨m,hm,Qn⟩:∃ m:V3 F,m≠0/\∀ v∈rest,dot m (v-o)=0:=by
   by_cases h2:∃ a∈rest,∃ b∈rest,ag (a-o) (b-o)≠0
   ·obtain⟨a,ha,b,hb,h⟩:=h2;refine⟨_,h,λv hv=>?_⟩;rw[su];exact hz v hv a ha b hb
   ·have wX:∀ a∈rest,∀ b∈rest,ag (a-o) (b-o)=0:=λa ha b hb=>iP λh=>h2 ⟨a,ha,b,hb,h⟩;by_cases h1:∃ a∈rest,a-o≠0
    ·obtain⟨a,ha,h⟩:=h1;obtain⟨u,hu,Qq⟩:=LQ h;exact⟨u,hu,λv hv=>by rw[su];exact LR h (wX a ha v hv) Qq⟩
    ·obtain⟨p,jr,_⟩:=hc.1;exact⟨p.n,hp p jr,λv hv=>by rw[iP (λh=>h1 ⟨v,hv,h⟩:¬¬(v-o=0)),xe]⟩
  have heq:∀ v,kz ps v->dot m v=dot m o:=by
   intro v hv;rcases cE.1 ((hl v).2 hv)with rfl|h
   ·rfl
   ·have:=Qn v h;rw[gg]at this;exact OF.sub_eq_zero.1 this
  -- so every L0 inside has the same product
  have all:∀ y,ep ps y->dot m y=dot m o:=by intro y hy;obtain⟨v,hv,h1⟩:=top hc hp (m:=m) hy;obtain⟨w,hw,h2⟩:=top hc hp (m:=-m) hy;rw[heq v hv]at h1;rw[vY,vY,heq w hw,OF.le_def,show -dot m o - -dot m y=dot m y-dot m o from iR (dot m o) (dot m y) (λa b=>-a - -b) (λa b=>b-a) d_]at h2;exact OF.le_antisymm h1 h2
  obtain⟨x,hx⟩:=hf;obtain⟨t,ht,⟨q,hq,_,xf⟩,cy⟩:=Ab hx.inside (hc.bounds hp hm);have xi:t≠0:=by
   rintro rfl
   rw[smul_zero,V3.add_zero]at xf;have:=hx q hq;rw[show dot q.n x=q.d from xf]at this;exact OF.lt_irrefl _ this
  have h1:=all _ cy;rw[iT,gk,all x hx.inside]at h1;have:dot m m*t=0:=CR.add_left_cancel (a:=dot m o) (by rw[h1,CR.add_zero]);exact mul_ne_zero (AP hm) xi this
theorem Cl.more{ps qs:List (HS F)}(hc:Cl ps)(hp:fE ps)(h:∀ p∈ps,p∈qs):Cl qs:=by obtain⟨p,jr,q,mA,hd⟩:=hc.1;refine⟨⟨p,h p jr,q,h q mA,hd⟩,λa _ b _ cd=>?_⟩;obtain⟨r,hr,nQ⟩:=hc.bounds hp cd;exact⟨r,h r hr,nQ⟩
end
end
variable{k:Nat}{p:HS K}{x:K}{ps:List (HS K)}
section
open CR OF
section
variable{F:Type}[OF F]
def eK(u v:V3 F):Int:=
 if aE (u.x-v.x)≠0 then aE (u.x-v.x)else if aE (u.y-v.y)≠0 then aE (u.y-v.y)else aE (u.z-v.z)
theorem aNa(u v:V3 F):(u-v).x=u.x-v.x:=rfl
theorem aNb(u v:V3 F):(u-v).y=u.y-v.y:=rfl
theorem aNc(u v:V3 F):(u-v).z=u.z-v.z:=rfl
theorem aDg{u v:V3 F}:eK u v=1↔AW (u-v):=by
 unfold eK AW;rw[aNa,aNb,aNc,gj,gj,gj];have e:∀ a:F,a=0↔aE a=0:=λa=>(fU a).symm;rw[e (u.x-v.x),e (u.y-v.y)];rcases iJ (u.x-v.x)with h|h|h<;>rw[h]<;>simp
 rcases iJ (u.y-v.y)with h|h|h<;>rw[h]<;>simp
theorem aDh(u v:V3 F):eK v u=- eK u v:=by
 unfold eK;rw[AA v.x u.x,AA v.y u.y,AA v.z u.z];rcases iJ (u.x-v.x)with h|h|h<;>rw[h]<;>simp
 rcases iJ (u.y-v.y)with h|h|h<;>rw[h]<;>simp
theorem L4{u v:V3 F}:eK u v=-1↔AW (v-u):=by rw[<-aDg,aDh u v];omega
theorem L5{u v:V3 F}:eK u v=0↔u=v:=by
 constructor
 ·intro h;apply iP;intro bB;rcases aM0 bB with k|k
  ·rw[L4.2 k]at h;cases h
  ·rw[aDg.2 k]at h;cases h
 ·rintro rfl
  unfold eK;rw[OF.sub_self,OF.sub_self,OF.sub_self,(fU (0:F)).2 rfl];simp
theorem Jh(u v:V3 F):eK u v=-1\/eK u v=0\/eK u v=1:=by
 unfold eK;split
 ·exact iJ _
 ·split
  ·exact iJ _
  ·exact iJ _
def kA(u v:V3 F):Prop:=eK u v=-1
theorem L6{u v w:V3 F}(h:kA u v)(k:kA v w):kA u w:=by have h:=L4.1 h;have k:=L4.1 k;exact L4.2 (js.aCQ (H:=aC1) h k)
theorem Ew(u:V3 F):¬kA u u:=λh=>by have:eK u u=0:=L5.2 rfl;rw[show eK u u=-1 from h]at this;cases this
theorem Qr{u v:V3 F}(h:kA u v)(k:kA v u):False:=Ew u (L6 h k)
theorem L7{u v:V3 F}(h:eK u v=1):kA v u:=by unfold kA;rw[aDh u v,h]
def nB(v:V3 F):List (V3 F)->List (V3 F)
 |[]=>[v]
 |a::l=>if eK a v=0 then a::l else if eK a v=1 then v::a::l else a::nB v l
theorem Qs{v x:V3 F}:∀{l:List (V3 F)},x∈nB v l↔x=v\/x∈l
 |[]=>by simp[nB]
 |a::l=>by
  unfold nB;split
  ·rename_i h;have e:=L5.1 h;subst e;simp
  ·split
   ·simp
   ·rw[cE,Qs,cE];constructor
    ·rintro(h|h|h)
     ·exact .inr (.inl h)
     ·exact .inl h
     ·exact .inr (.inr h)
    ·rintro(h|h|h)
     ·exact .inr (.inl h)
     ·exact .inl h
     ·exact .inr (.inr h)
theorem Wl{v:V3 F}:∀{l:List (V3 F)},l.Pairwise kA->(nB v l).Pairwise kA
 |[],_=>V8 ..
 |a::l,h=>by
  unfold nB;have h':=tP.1 h;split
  ·exact h
  ·rename_i h0;split
   ·rename_i h1;refine tP.2 ⟨λb hb=>?_,h⟩;rcases cE.1 hb with rfl|hb
    ·exact L7 h1
    ·exact L6 (L7 h1) (h'.1 b hb)
   ·rename_i h1;refine tP.2 ⟨λb hb=>?_,Wl h'.2⟩;rcases Qs.1 hb with rfl|hb
    ·rcases Jh a b with k|k|k
     ·exact k
     ·exact absurd k h0
     ·exact absurd k h1
    ·exact h'.1 b hb
theorem Wm:∀{l m:List (V3 F)},l.Pairwise kA->m.Pairwise kA->(∀ x,x∈l↔x∈m)->l=m
 |[],[],_,_,_=>rfl
 |[],b::m,_,_,h=>by have:=(h b).2 (aR ..);cases this
 |a::l,[],_,_,h=>by have:=(h a).1 (aR ..);cases this
 |a::l,b::m,hl,hm,h=>by
  have cD:=tP.1 hl;have bJ:=tP.1 hm;have e:a=b:=by
   rcases cE.1 ((h a).1 (aR ..))with e|ha
   ·exact e
   ·rcases cE.1 ((h b).2 (aR ..))with e|hb
    ·exact e.symm
    ·exact(Qr (cD.1 b hb) (bJ.1 a ha)).elim
  subst e
  congr 1
  refine Wm cD.2 bJ.2 λx=>⟨λhx=>?_,λhx=>?_⟩
  ·rcases cE.1 ((h x).1 (bK _ hx))with rfl|yi
   ·exact(Ew _ (cD.1 _ hx)).elim
   ·exact yi
  ·rcases cE.1 ((h x).2 (bK _ hx))with rfl|yi
   ·exact(Ew _ (bJ.1 _ hx)).elim
   ·exact yi
def L8(l:List (V3 F)):List (V3 F):=l.foldl (λs v=>nB v s) []
theorem aDi{x:V3 F}:∀(l s:List (V3 F)),x∈l.foldl (λs v=>nB v s) s↔x∈l\/x∈s
 |[],s=>by simp
 |v::l,s=>by
  rw[vF,aDi l,Qs,cE];constructor
  ·rintro(h|h|h)
   ·exact .inl (.inr h)
   ·exact .inl (.inl h)
   ·exact .inr h
  ·rintro((h|h)|h)
   ·exact .inr (.inl h)
   ·exact .inl h
   ·exact .inr (.inr h)
theorem aDj:∀(l s:List (V3 F)),s.Pairwise kA->(l.foldl (λs v=>nB v s) s).Pairwise kA
 |[],_,h=>h
 |v::l,s,h=>by rw[vF];exact aDj l _ (Wl h)
theorem Wn{x:V3 F}{l:List (V3 F)}:x∈L8 l↔x∈l:=by unfold L8;rw[aDi];simp
theorem Wo(l:List (V3 F)):(L8 l).Pairwise kA:=aDj l [] aDk
end
end
section
open V3 (dot ag aN smul)
def cB(v:V3 K):RV:=⟨cG v.x,cG v.y,cG v.z⟩
def bE(v:V3 K):Value:=(cB v).v
theorem Qt{u v:V3 K}(h:cB u=cB v):u=v:=by cases u;cases v;have h1:=Gy (cS RV.x h);have h2:=Gy (cS RV.y h);have h3:=Gy (cS RV.z h);dsimp only[cB]at h1 h2 h3;rw[h1,h2,h3]
def aD(n:Nat)(v:V3 K):Prop:=Sz n v.x/\Sz n v.y/\Sz n v.z
theorem aD.mono{n:Nat}(h:m<=n){v:V3 K}(hv:aD m v):aD n v:=⟨hv.1.mono h,hv.2.1.mono h,hv.2.2.mono h⟩
theorem aD.sm{n:Nat}{v:V3 K}(h:aD n v)(hn:n<=aF):(cB v).Sm:=⟨tJ h.1 hn,tJ h.2.1 hn,tJ h.2.2 hn⟩
theorem aD.add{n:Nat}{u v:V3 K}(hu:aD m u)(hv:aD n v):aD (m+n+1) (u+v):=⟨hu.1.add hv.1,hu.2.1.add hv.2.1,hu.2.2.add hv.2.2⟩
theorem aD.sub{n:Nat}{u v:V3 K}(hu:aD m u)(hv:aD n v):aD (m+n+1) (u-v):=⟨hu.1.sub hv.1,hu.2.1.sub hv.2.1,hu.2.2.sub hv.2.2⟩
theorem aD.neg{n:Nat}{v:V3 K}(hv:aD n v):aD n (-v):=⟨hv.1.neg,hv.2.1.neg,hv.2.2.neg⟩
theorem aD.smul{m n:Nat}{v:V3 K}{k:K}(hv:aD m v)(hk:Sz n k):aD (m+n+4) (smul v k):=⟨hv.1.mul hk,hv.2.1.mul hk,hv.2.2.mul hk⟩
theorem aD.dot{m n:Nat}{u v:V3 K}(hu:aD m u)(hv:aD n v):Sz (3*(m+n)+14) (dot u v):=((hu.1.mul hv.1).add (hu.2.1.mul hv.2.1)).add (hu.2.2.mul hv.2.2) |>.mono o_
theorem aD.ag{m n:Nat}{u v:V3 K}(hu:aD m u)(hv:aD n v):aD (2*(m+n)+9) (ag u v):=
 ⟨((hu.2.1.mul hv.2.2).sub (hu.2.2.mul hv.2.1)).mono o_,((hu.2.2.mul hv.1).sub (hu.1.mul hv.2.2)).mono o_,((hu.1.mul hv.2.1).sub (hu.2.1.mul hv.1)).mono o_⟩
theorem j5{v:V3 K}{n:Nat}(h:aD n v)(hn:n<=aF):aH prog 36 [bE v] b_:=LI (r:=cB v) (lp h.1 hn) (lp h.2.1 hn) (lp h.2.2 hn)
theorem xj{a b c:Int}(ha:a.natAbs<9223372036854775808)(hb:b.natAbs<9223372036854775808)(hc:c.natAbs<9223372036854775808):aH prog 28 [.int .i64 a,.int .i64 b,.int .i64 c] (bE ⟨kI a,kI b,kI c⟩):=
 bI func28 (λ_=>[(r7 ha).at 8,(r7 hb).at 10,(r7 hc).at 12])
def Wp(f:FuncId):Value:=.agg #[.func (.func f) #[] #[]]
theorem aNd{u v:RV}{z:RV}(hu:aH prog 36 [u.v] b_)(hv:aH prog 36 [v.v] b_)
  (hx:aH prog 70 [u.x.v,v.x.v] z.x.v) (hy:aH prog 70 [u.y.v,v.y.v] z.y.v) (hz:aH prog 70 [u.z.v,v.z.v] z.z.v):aH prog 71 [Wp 70,u.v,v.v] z.v:=
 bI func71 (λ_=>[hu.at 8,hv.at 12,hx.at 22,hy.at 29,hz.at 36])
theorem aNe{u v:RV}{z:RV}(hu:aH prog 36 [u.v] b_)(hv:aH prog 36 [v.v] b_)
  (hx:aH prog 80 [u.x.v,v.x.v] z.x.v) (hy:aH prog 80 [u.y.v,v.y.v] z.y.v) (hz:aH prog 80 [u.z.v,v.z.v] z.z.v):aH prog 71 [Wp 80,u.v,v.v] z.v:=
 bI func71 (λ_=>[hu.at 8,hv.at 12,hx.at 22,hy.at 29,hz.at 36])
theorem aDl{u v:RV}{z:RV}(hu:aH prog 36 [u.v] b_)(hv:aH prog 36 [v.v] b_)
  (hx:aH prog 47 [u.x.v,v.x.v] z.x.v) (hy:aH prog 47 [u.y.v,v.y.v] z.y.v) (hz:aH prog 47 [u.z.v,v.z.v] z.z.v):aH prog 71 [Wp 47,u.v,v.v] z.v:=
 bI func71 (λ_=>[hu.at 8,hv.at 12,hx.at 22,hy.at 29,hz.at 36])
theorem AZ{u v:V3 K}{n:Nat}(hu:aD m u)(hv:aD n v)(cQ:m+n<aF):aH prog 30 [bE u,bE v] (bE (u+v)):=
 bI func30 (λ_=>[(aNd (u:=cB u) (v:=cB v) (z:=cB (u+v)) (j5 hu o_) (j5 hv o_) (uR hu.1 hv.1 cQ) (uR hu.2.1 hv.2.1 cQ) (uR hu.2.2 hv.2.2 cQ)).at 8])
theorem CV{u v:V3 K}{n:Nat}(hu:aD m u)(hv:aD n v)(cQ:m+n<aF):aH prog 182 [bE u,bE v] (bE (u-v)):=
 bI func182 (λ_=>[(aNe (u:=cB u) (v:=cB v) (z:=cB (u-v)) (j5 hu o_) (j5 hv o_) (CH hu.1 hv.1 cQ) (CH hu.2.1 hv.2.1 cQ) (CH hu.2.2 hv.2.2 cQ)).at 8])
instance:DecidableEq (V3 K):=λu v=>decidable_of_iff (u.x=v.x/\u.y=v.y/\u.z=v.z) ⟨λh=>V3.ext h.1 h.2.1 h.2.2,λh=>by subst h;exact⟨rfl,rfl,rfl⟩⟩
theorem L9:aD 1 (⟨kI 0,kI 0,kI 0⟩:V3 K):=⟨mh d_ d_,mh d_ d_,mh d_ d_⟩
theorem GZ{v:V3 K}{n:Nat}(hv:aD n v)(hn:n+1<aF):aH prog 150 [bE v] (bE (-v)):=by
 have e:(⟨kI 0,kI 0,kI 0⟩:V3 K)-v=-v:=by cases v;show(⟨kI 0-_,kI 0-_,kI 0-_⟩:V3 K)=⟨-_,-_,-_⟩;rw[aLX];congr 1<;>(rw[CR.sub_def];exact CR.zero_add _)
 have h:=CV L9 hv o_;rw[e]at h;exact bI func150 (λ_=>[(xj (a:=0) (b:=0) (c:=0) d_ d_ d_).at 3,h.at 5])
theorem uU{v:V3 K}{k:K}{n:Nat}(hv:aD m v)(hk:Sz n k)(cQ:m+n+8<=aF):aH prog 31 [bE v,bH k] (bE (smul v k)):=
 bI func31 (λ_=>[(aDl (u:=cB v) (v:=⟨cG k,cG k,cG k⟩) (z:=cB (smul v k)) (j5 hv o_) (j5 (v:=⟨k,k,k⟩) ⟨hk,hk,hk⟩ o_) (nU hv.1 hk cQ) (nU hv.2.1 hk cQ) (nU hv.2.2 hk cQ)).at 11])
theorem qw{u v:V3 K}{n:Nat}(hu:aD m u)(hv:aD n v)(cQ:3*(m+n)+16<aF):aH prog 38 [bE u,bE v] (bH (dot u v)):=
 bI func38 (λ_=>[(aDl (u:=cB u) (v:=cB v) (z:=⟨cG (u.x*v.x),cG (u.y*v.y),cG (u.z*v.z)⟩) (j5 hu o_) (j5 hv o_) (nU hu.1 hv.1 o_) (nU hu.2.1 hv.2.1 o_) (nU hu.2.2 hv.2.2 o_)).at 9,(uR (hu.1.mul hv.1) (hu.2.1.mul hv.2.1) o_).at 14,(uR ((hu.1.mul hv.1).add (hu.2.1.mul hv.2.1)) (hu.2.2.mul hv.2.2) o_).at 17])
theorem G1{a b c d:K}{n:Nat}(ha:Sz m a)(hb:Sz m b)(hc:Sz n c)(hd:Sz n d)(cQ:2*(m+n)+16<aF):aH prog 123 [bH a,bH b,bH c,bH d] (bH (a*d-b*c)):=
 bI func123 (λ_=>[(nU ha hd o_).at 11,(nU hb hc o_).at 14,(CH (ha.mul hd) (hb.mul hc) o_).at 15])
theorem wh{u v:V3 K}{n:Nat}(hu:aD m u)(hv:aD n v)(cQ:2*(m+n)+16<aF):aH prog 72 [bE u,bE v] (bE (ag u v)):=
 bI func72 (λ_=>[(j5 hu o_).at 6,(j5 hv o_).at 10,(G1 hu.2.1 hu.2.2 hv.2.1 hv.2.2 cQ).at 22,(G1 hu.2.2 hu.1 hv.2.2 hv.1 cQ).at 31,(G1 hu.1 hu.2.1 hv.1 hv.2.1 cQ).at 40])
theorem A0{v:V3 K}{n:Nat}(hv:aD n v)(hn:n<=aF):aH prog 37 [bE v] (.bool (decide (v=0))):=by have hz:(⟨kI 0,kI 0,kI 0⟩:V3 K)=0:=rfl;exact bI func37 (λ_=>[(xj (a:=0) (b:=0) (c:=0) d_ d_ d_).at 4,.step 5 (az f37 5) _ _ _ _ (Gx (neg:=true) k_ (cB v) (cB ⟨kI 0,kI 0,kI 0⟩) (hv.sm hn) (L9.sm d_) (b:=decide (v=0)) (by rw[aA rfl,uV];exact⟨λh=>by rw[h,hz],λh=>Qt h⟩))])
def Qu:Int->Int->Int->Int:=λa b c=>if a≠0 then a else if b≠0 then b else c
theorem G2{v:i_}(hf:prog.funcs[f]?=some fn)(N:Nat)(rs:∀ w,bN prog (aa.at w) N)(hN:N=(eY 0 l).length+(fn.ntmps-(eY 0 l).length):=by kernel_rfl)(hl:(l.all aQ.ok)=true:=by kernel_rfl)(h:∀ w,pv (iv (P:=prog) fn 100 (eY 0 l) (jq 0 l) (jQ 0 l) (rs w)) []=pw (iv fn 100 (eY 0 l) (jq 0 l) (jQ 0 l) (rs w)) v []:=by intro _;kernel_rfl)(hv:flat v=true:=by kernel_rfl):cx prog f l v:=iL mixed hf hl 100 hN rs h hv
theorem aNf(a b c:Int):cx prog 187 [.r 3 [.int .i64 a,.int .i64 b,.int .i64 c]] (.int .i64 (Qu a b c)):=by
 have bl:∀ z:Int,z≠0->(Value.bool (!(z==0)))=.bool true:=λz h=>by congr 1;simpa using h
 unfold Qu;by_cases ha:a=0
 ·rw[au (λh=>h ha)];subst ha;by_cases hb:b=0
  ·rw[au (λh=>h hb)];subst hb;by_cases hc:c=0
   ·subst hc;exact G2 func187 18 (λ_=>[])
   ·exact G2 func187 18 (λ_=>[.rw 14 (.bool (!((0:Int)==0))) a_ rfl,.rw 14 (.bool (!((0:Int)==0))) a_ rfl,.rw 14 _ _ (bl c hc)])
  ·rw[aA hb];exact G2 func187 18 (λ_=>[.rw 14 (.bool (!((0:Int)==0))) a_ rfl,.rw 14 _ _ (bl b hb)])
 ·rw[aA ha];exact G2 func187 18 (λ_=>[.rw 14 _ _ (bl a ha)])
theorem aDm(u v:V3 K):Qu (OF.aE (u.x-v.x)) (OF.aE (u.y-v.y)) (OF.aE (u.z-v.z))=eK u v:=rfl
theorem Wq{u v:V3 K}{n:Nat}(hu:aD m u)(hv:aD n v)(cQ:4*(m+n)+24<=aF):aH prog 153 [bE u,bE v] (.int .i64 (eK u v)):=by rw[<-aDm];refine bI func153 (λ_=>[(j5 hu o_).at 6,(j5 hv o_).at 10,(kM hu.1 hv.1 cQ).at 17,(kM hu.2.1 hv.2.1 cQ).at 22,(kM hu.2.2 hv.2.2 cQ).at 27,.bs f153 28 2 3 3 1 [0,1,2] (.int .i64 0) [.int .i64 (OF.aE (u.x-v.x)),.int .i64 (OF.aE (u.y-v.y)),.int .i64 (OF.aE (u.z-v.z))] #[.int .i64 (OF.aE (u.x-v.x)),.int .i64 (OF.aE (u.y-v.y)),.int .i64 (OF.aE (u.z-v.z))] (.row [.int .i64 (OF.aE (u.x-v.x)),.int .i64 (OF.aE (u.y-v.y)),.int .i64 (OF.aE (u.z-v.z))] 3 1) rfl (bC.1 k_) (bC.1 k_) k_ k_ d_ d_ k_,.step 29 (az f153 29) _ _ _ _ (dJ (aNf _ _ _) (.w (k:=2) (cc:=0) (x:=.row [.int .i64 (OF.aE (u.x-v.x)),.int .i64 (OF.aE (u.y-v.y)),.int .i64 (OF.aE (u.z-v.z))] 3 1) k_ k_ n_ .nil) (x:=.func 187) k_ k_ k_)])
def db(p:HS K):RP:=⟨cB p.n,cG p.d⟩
def dK(p:HS K):Value:=(db p).v
theorem Qv{q:HS K}(h:db p=db q):p=q:=HS.ext (Qt (cS RP.n h)) (Gy (cS RP.d h))
def bP(n:Nat)(p:HS K):Prop:=aD n p.n/\Sz n p.d
theorem bP.mono{n:Nat}(h:m<=n)(hp:bP m p):bP n p:=⟨hp.1.mono h,hp.2.mono h⟩
theorem bP.sm{n:Nat}(h:bP n p)(hn:n<=aF):(db p).Sm:=⟨h.1.sm hn,tJ h.2 hn⟩
instance:DecidableEq (HS K):=λp q=>decidable_of_iff (p.n=q.n/\p.d=q.d) ⟨λh=>HS.ext h.1 h.2,λh=>by subst h;exact⟨rfl,rfl⟩⟩
theorem CW{n:Nat}(hp:bP n p)(hn:n<=aF):aH prog 115 [dK p] (.bool (decide (p.n≠0))):=by
 by_cases h:p.n=0
 ·rw[aY (λe=>e h)];have hz:=A0 hp.1 hn;rw[aJ h]at hz;exact bI func115 (λ_=>[(j5 hp.1 hn).at 5,hz.at 9])
 ·rw[aJ h];have hz:=A0 hp.1 hn;rw[aY h]at hz;exact bI func115 (λ_=>[(j5 hp.1 hn).at 5,hz.at 9,(lp hp.2 hn).at 15])
theorem Ji{v:V3 K}{n:Nat}(hp:bP m p)(hv:aD n v)(cQ:4*(3*(m+n)+14+m)+30<=aF)(h:p.n≠0):aH prog 156 [dK p,bE v] (.int .i64 (OF.aE (dot p.n v-p.d))):=by have h1:=CW hp o_;rw[aJ h]at h1;exact bI func156 (λ_=>[h1.at 6,(j5 hv o_).at 10,(qw hp.1 hv o_).at 16,(kM (hp.1.dot hv) hp.2 o_).at 19])
theorem aNg{y:K}{n:Nat}(h:y≠0)(hx:Sz m x)(hy:Sz n y)(cQ:m+7*n+40<=aF):aH prog 212 [bH x,bH y] (bH (x*y⁻¹)):=
 bI func212 (λ_=>[(GC h hx hy cQ).at 10])
theorem Sz.jo{x:K}{n:Nat}(h:Sz n x):Sz n (jo x):=by
 unfold _root_.Go.Proofs.YtgpahigmalfpdaaGreatDoor.jo;split
 ·exact h.neg
 ·exact h
theorem Qw(h:x≠0):jo x≠0:=by
 unfold jo;split
 ·intro e;apply h;have:=cS (λz:K=>-z) e;rwa[CR.neg_neg,CR.neg_zero]at this
 ·exact h
def nC(x:K):K:=kI 1*(jo x)⁻¹
def Ey(p:HS K)(x:K):HS K:=⟨smul p.n (nC x),p.d*nC x⟩
def ry(v:V3 K):K:=if v.x≠0 then v.x else if v.y≠0 then v.y else v.z
def canon(p:HS K):HS K:=Ey p (ry p.n)
theorem Qx{v:V3 K}(h:v≠0):ry v≠0:=by
 unfold ry;by_cases hx:v.x=0
 ·rw[au (λe=>e hx)];by_cases hy:v.y=0
  ·rw[au (λe=>e hy)];exact λhz=>h (V3.ext hx hy hz)
  ·rw[aA hy];exact hy
 ·rw[aA hx];exact hx
theorem Sz.nC{x:K}{n:Nat}(hx:x≠0)(h:Sz n x):Sz (7*n+29) (nC x):=(Sz.div (m:=1) (Qw hx) (mh d_ d_) h.jo).mono o_
theorem bP.Ey{p:HS K}{n:Nat}(hp:bP n p){x:K}(hx:x≠0)(h:Sz n x):bP (8*n+33) (Ey p x):=⟨(hp.1.smul (h.nC hx)).mono o_,(hp.2.mul (h.nC hx)).mono o_⟩
theorem aNh{v:V3 K}{n:Nat}(h:aD n v):Sz n (ry v):=by
 unfold ry;split
 ·exact h.1
 ·split
  ·exact h.2.1
  ·exact h.2.2
theorem bP.canon{p:HS K}{n:Nat}(hp:bP n p)(h:p.n≠0):bP (8*n+33) (canon p):=hp.Ey (Qx h) (aNh hp.1)
theorem aNi{x:m_}(r:RV)(ho:dC o.op=some x):cI prog B o (.func (.func 211) #[] #[]::[r.v]) [(k,none)] (.func (.func 225) #[] #[.pointer (some ⟨k,0,some 7⟩)]) [(k,.aI r.cs 33)]:=
 aCI mixed func211 ho k_ 50 (λ_=>[]) (λ_=>k_) k_ k_
def zI:RI:=⟨false,[]⟩
def zN:RN:=⟨zI,zI,zI,zI,zI⟩
def zV:RV:=⟨zN,zN,zN⟩
def zP:RP:=⟨zV,zN⟩
def wi(r q:RP):aL:=[(0,.aI r.cs 73),(1,.aI q.cs 73),(2,.aI [.int .i64 0] 38),(3,.aI r.n.cs 33)]
def Jj:aU:=[(1,aV 0),(2,aV 1),(3,aV 2),(12,.func (.func 225) #[] #[aV 3])]
theorem aNj(r:RP):ah prog B 31 (vX f188 0) (jb 0 [r.v]) [] 0 ⟨.normal,[(1,aV 0),(2,aV 1),(3,aV 2)],[(0,.aI r.cs 73),(1,.aI zP.cs 73),(2,.aI [.int .i64 0] 38)],3⟩:=
 fv mixed 10 [] k_
def aNk:Code->Code|.seq _ y=>(match y with|.seq x _=>x|c=>c)|c=>c
def aNl(fn:Func):Code:=match fn.body with|some c=>c|none=>.skip
theorem aNm(r:RP)(hv:aH prog 115 [r.v] b_):ah prog B 31 (aNk (aNl f188)) [(1,aV 0),(2,aV 1),(3,aV 2)] [(0,.aI r.cs 73),(1,.aI zP.cs 73),(2,.aI [.int .i64 0] 38)] 3
  ⟨.normal,[(1,aV 0),(2,aV 1),(3,aV 2)],[(0,.aI r.cs 73),(1,.aI zP.cs 73),(2,.aI [.int .i64 0] 38)],3⟩:=
 fv mixed 10 [hv.at 7] k_
theorem aNn(r:RP):ah prog B 31 (vX f188 3) [(1,aV 0),(2,aV 1),(3,aV 2)] [(0,.aI r.cs 73),(1,.aI zP.cs 73),(2,.aI [.int .i64 0] 38)] 3 ⟨.normal,Jj,wi r zP,4⟩:=
 fv mixed 10 [.step 12 (az f188 12) _ _ _ _ (aNi (k:=3) (x:=.func 211) r.n k_)] k_
theorem Wr{n:Nat}(hp:bP n p)(hx:Sz n x)(hn:16*n+80<=aF):
  GI prog 4 31 #[13] (AK (o7 f188)) (AL (o7 f188)) Jj (wi (db p) zP) [] (wi (db p) (if x=0 then zP else db (Ey p x))) [bH x] (if x=0 then none else some .ret):=by
 have hs:=oB hx o_;by_cases h:x=0
 ·rw[aA h,aA h];have e:OF.aE x=0:=(OF.fU x).2 h;rw[e]at hs
  exact Jf (rA:=⟨.normal,(4,aV 5)::Jj,(5,.aI (cG x).cs 31)::wi (db p) zP,6⟩) (rB:=⟨.normal,[],wi (db p) zP,6⟩) k_ k_ k_ k_ k_ k_ k_ k_ rfl (λB=>fv mixed 10 [] k_) rfl k_ rfl
   (λB=>fv mixed 10 [hs.at 15,.rw 16 (.bool (!((0:Int)==0))) a_ rfl] k_) (λk x h=>h) rfl
 ·rw[au h,au h];have e:OF.aE x≠0:=λe=>h ((OF.fU x).1 e)
  exact Jf (rA:=⟨.normal,(4,aV 5)::Jj,(5,.aI (cG x).cs 31)::wi (db p) zP,6⟩) (rB:=⟨.ret,[],wi (db p) (db (Ey p x)),7⟩) k_ k_ k_ k_ k_ k_ k_ k_ rfl (λB=>fv mixed 10 [] k_) rfl k_ rfl
   (λB=>fv mixed 10 [hs.at 15,.rw 16 (.bool (!(OF.aE x==0))) b_ (by congr 1;simpa using e),(r7 (z:=1) d_).at 17,(VA hx o_).at 19,(aNg (Qw h) (mh (z:=1) (n:=1) d_ d_) hx.jo o_).at 20,(uU hp.1 (hx.nC h) o_).at 24,(nU hp.2 (hx.nC h) o_).at 28] k_) (λk x h=>h) rfl
theorem aNo{n:Nat}(hp:bP n p)(hn:16*n+80<=aF)(bB:p.n≠0){T:p_}{m:Map}{S:Nat->Prop}(fD:yI prog 4 31 Jj (wi (db p) zP) m S T)
  {cP:FuncId} {l D:Nat} {W1 W:h_} {κ:Map} {c:g_} {dM:al} (hm:aO (lq W1 l S m) κ c W) (ha:cZ c ((4,.fact (fV l (ky cP T #[13] (AK (o7 f188)) (AL (o7 f188)) D)))::(wi (db p) zP++[]))) (hu:eG c (4+1)) (fm:bY (aM κ) [aV 3] dM) :
  Calls prog 225 (.func (.yield l) #[] #[]::dM).toArray W λe W'=>∃ v rm c',e=.returned v/\Map.le κ rm/\aO (lq W1 l S m) rm c' W'/\
   cZ c' ((4,.fact (fV l (Ep (ky cP T #[13] (AK (o7 f188)) (AL (o7 f188)) D) (some .ret))))::(wi (db p) (db (canon p))++[]))/\∀ k,k<4->c k=none->c' k=none:=by
 have st:=λ(o:Oper) (ho:dC o.op=some (.tmp 3)) (x:K) (hx:Sz n x)=>Ly (W1:=W1) (l:=l) (D:=D) (cP:=cP) (x:=.tmp 3) (o:=o) (Wr hp hx hn) ho fD.size fD.jb fD.low fD.set fD.born
 have st2:=λ(o:Oper) (ho:dC o.op=some (.tmp 8)) (x:K) (hx:Sz n x)=>Ly (W1:=W1) (l:=l) (D:=D) (cP:=cP) (x:=.tmp 8) (o:=o) (Wr hp hx hn) ho fD.size fD.jb fD.low fD.set fD.born
 have st3:=λ(o:Oper) (ho:dC o.op=some (.tmp 14)) (x:K) (hx:Sz n x)=>Ly (W1:=W1) (l:=l) (D:=D) (cP:=cP) (x:=.tmp 14) (o:=o) (Wr hp hx hn) ho fD.size fD.jb fD.low fD.set fD.born
 have s1:=st (az f225 6) k_ p.n.x hp.1.1;have s2:=st2 (az f225 11) k_ p.n.y hp.1.2.1;have s3:=st3 (az f225 17) k_ p.n.z hp.1.2.2;have hc:canon p=Ey p (ry p.n):=rfl;unfold ry at hc;by_cases hx:p.n.x=0
 ·rw[au (λe=>e hx)]at hc;rw[aA hx,aA hx]at s1;by_cases hy:p.n.y=0
  ·rw[au (λe=>e hy)]at hc;rw[aA hy,aA hy]at s2;have hz:p.n.z≠0:=λhz=>bB (V3.ext hx hy hz);rw[au hz,au hz,<-hc]at s3;exact Es mixed func225 rfl 100 (v:=.tuple #[]) (rs:=[.step 6 _ _ _ _ _ s1,.step 11 _ _ _ _ _ s2,.step 17 _ _ _ _ _ s3]) hm ha hu fm k_
  ·rw[aA hy]at hc;rw[au hy,au hy,<-hc]at s2;exact Es mixed func225 rfl 100 (v:=.tuple #[]) (rs:=[.step 6 _ _ _ _ _ s1,.step 11 _ _ _ _ _ s2]) hm ha hu fm k_
 ·rw[aA hx]at hc;rw[au hx,au hx,<-hc]at s1;exact Es mixed func225 rfl 100 (v:=.tuple #[]) (rs:=[.step 6 _ _ _ _ _ s1]) hm ha hu fm k_
theorem Ma{n:Nat}(hp:bP n p)(hn:16*n+80<=aF)(bB:p.n≠0):aH prog 188 [dK p] (.tuple #[dK (canon p),.int .i64 0]):=by
 have hv:=CW hp o_;rw[aJ bB]at hv;refine aCH (N:=31) func188 rfl rfl k_ λw a hf hm=>?_;refine kY (aNj (db p) none _ _ a w _ hf hm n_ (λ_ _=>rfl) λtA VO a0 w0 VP xU kg ni wS xc _=>?_);refine kY (aNm (db p) hv none _ _ a0 w0 _ xU kg ni wS λb9 gF a1 w1 jy iq c8 eC dO iu _=>?_);refine kY (kY (aNn (db p) none _ _ a1 w1 _ iq c8 eC dO λdQ qP a2 w2 lg iX dE gO eM fX _=>H4 ?_))
 refine P2 (next:=4) (Os:=wi (db p) zP) (Vs:=[]) (cA:=wi (db p) (db (canon p))) (gf:=225) (ca:=[aV 3]) (j:=some .ret) iX dE gO eM (λk x h=>kN (p:=λp=>p.2.owns) k_ h) n_ k_ k_ k_ (xa rfl) (λk x h=>kN (p:=λp=>p.2.owns) k_ h) (λk x h=>xb (kN (p:=mT 4) k_ h))
  (λcP l D W1 S fD κ c W dM hm ha hu fm=>aNo hp hn bB fD hm ha hu fm) λD cr w' AH VQ Mb um yH LB=>?_
 refine wpIn_ret (aCG (B:=aa.at w) (fr:=Jj) (M:=wi (db p) (db (canon p))++[]) (v:=.tuple #[dK (canon p),.int .i64 0]) k_ Mb um yH rfl (λF h=>h) AH λaB v' w' hc hG=>⟨?_,hG⟩);rw[hc.fH rfl]
theorem Ws{q:HS K}{n:Nat}(hp:bP m p)(hq:bP n q)(hm:16*m+80<=aF)(hn:16*n+80<=aF)(j4:p.n≠0)(A1:q.n≠0):aH prog 158 [dK p,dK q] (.bool (decide (canon p=canon q))):=
 bI func158 (λ_=>[(Ma hp hm j4).at 11,(Ma hq hn A1).at 16,.step 28 (az f158 28) _ _ _ _ (Vn (neg:=true) k_ (db (canon p)) (db (canon q)) ((hp.canon j4).sm o_) ((hq.canon A1).sm o_) (b:=decide (canon p=canon q)) (by rw[aA rfl,uV];exact⟨λh=>by rw[h],λh=>Qv h⟩))])
end
def aa.Mc(w0:h_)(S:Nat->Prop):aa where
 G w:=uk w0 w/\w.tape=w0.tape/\w.output=w0.output/\w0.heap.size<=w.heap.size/\∀ k,k<w0.heap.size->¬S k->w.heap[k]?=w0.heap[k]?
 cY k:=k<w0.heap.size/\¬S k
 lt w k h hk:=cH hk.1 h.2.2.2.1
 dep w w' h h1 h2 h3 h4 h5:=⟨h1.trans h.1,h2.trans h.2.1,h3.trans h.2.2.1,dq h.2.2.2.1 h4,λk hk hS=>(h5 k ⟨hk,hS⟩).trans (h.2.2.2.2 k hk hS)⟩
section
variable{P:j_}{B:aa}{w w4:h_}{K:Nat}{S:Nat->Prop}{ι:Map}{c:g_}
theorem aNp(h:aO B ι c w)(hO:cZ c Os)(ee:∀ k x,ak Os k=some x->x.owns=true)(tL:∀ k x,ak cA k=some x->x.owns=true)
  (kJ:∀ k,ak cA k=none↔ak Os k=none) (hS:∀ b,S b->∃ k x o cap,ak Os k=some x/\ι k=some (.at b o cap)) (ki:∀ k x,ak cA k=some x->fR K x)
  {aB:Map} {c':g_} (hm:aO (aa.Mc w S) aB c' w4) (tO:cZ c' cA) (dG:∀ k,k<K->∀ lc,aB k=some lc->ι k=some lc)
  (oU:∀ k x,ak cA k=some x->k<K):aO B ι (mH c cA) w4:=by
 have bL:w.heap.size<=w4.heap.size:=hm.base.2.2.2.1;have aI:∀ b,b<w.heap.size->¬S b->w4.heap[b]?=w.heap[b]?:=hm.base.2.2.2.2;have Md:∀ b,S b->¬B.cY b:=λb hb=>by obtain⟨k,x,o,cap,e1,e2⟩:=hS b hb;exact(h.own k x b o cap (hO k x e1) (ee k x e1) e2).2
 have kinds:∀ k x,mH c cA k=some x->(ak cA k=some x/\c' k=some x/\x.owns=true)\/(ak Os k=none/\c k=some x):=λk x e=>by
  rw[wL]at e;cases ho:ak cA k with
  |some y=>rw[ho]at e;injection e with e;subst e;exact .inl ⟨rfl,tO k y ho,tL k y ho⟩
  |none=>rw[ho]at e;exact .inr ⟨(kJ k).1 ho,e⟩
 have same:∀ k x,ak cA k=some x->aB k=ι k:=λk x e=>by obtain⟨lc,q,_⟩:=hm.born k x (tO k x e);rw[q,dG k (oU k x e) lc q]
 have En:∀ k x b o cap,ak Os k=none->c k=some x->x.owns=true->ι k=some (.at b o cap)->¬S b:=λk x b o cap hn hc hx hl hs=>by obtain⟨k',x',o',aT,e1,e2⟩:=hS b hs;have:=h.inj k k' x x' b o cap o' aT hc hx (hO k' x' e1) (ee k' x' e1) hl e2;subst this;rw[hn]at e1;cases e1
 have Eo:∀ k x b o cap,c k=some x->x.kF=true->ι k=some (.at b o cap)->¬S b:=λk x b o cap hc hx hl hs=>by obtain⟨k',x',o',aT,e1,e2⟩:=hS b hs;exact(h.seen k x b o cap hc hx hl).2 k' x' o' aT (hO k' x' e1) (ee k' x' e1) e2
 have yG:∀ k F v b,c k=some (.fact F)->ι k=some (.val v)->F.cY v w b->¬S b:=λk F v b hc hl hF hs=>by obtain⟨k',x',o',aT,e1,e2⟩:=hS b hs;exact h.apart k' k x' F b o' aT v (hO k' x' e1) (ee k' x' e1) e2 hc hl hF
 have part:∀ k x b o cap j y o' aT,ak cA k=some x->ι k=some (.at b o cap)->ak Os j=none->c j=some y->y.owns=true->ι j=some (.at b o' aT)->False:=λk x b o cap j y o' aT hk hl hj hc hy cD=>by
  rcases fo b w.heap.size with ao|gw
  ·have q:=(hm.own k x b o cap (tO k x hk) (tL k x hk) (by rw[same k x hk];exact hl)).2;exact q ⟨ao,En j y b o' aT hj hc hy cD⟩
  ·have:=(h.own j y b o' aT hc hy cD).1;omega
 refine⟨B.dep w w4 h.base hm.base.1 hm.base.2.1 hm.base.2.2.1 bL λk hk=>aI k (B.lt w k h.base hk) λhs=>Md k hs hk,?_,?_,?_,?_,?_,?_,?_,?_,h.pk⟩
 ·intro k hk;rw[wL]at hk;cases ho:ak cA k with
  |some y=>rw[ho]at hk;cases hk
  |none=>rw[ho]at hk;exact h.dD k hk
 ·intro k x hk;rcases kinds k x hk with ⟨h1,h2,h3⟩|⟨h1,h2⟩
  ·obtain⟨lc,q1,q2⟩:=hm.born k x h2;exact⟨lc,by rw[<-same k x h1];exact q1,q2.below dG (ki k x h1)⟩
  ·obtain⟨lc,q1,q2⟩:=h.born k x h2;refine⟨lc,q1,q2.jU bL (λb o cap hx e=>?_) λF v b e1 e2 hF=>?_⟩
   ·subst e;rcases hx with hx|hx
    ·exact aI b (h.own k x b o cap h2 hx q1).1 (En k x b o cap h1 h2 hx q1)
    ·exact aI b (h.seen k x b o cap h2 hx q1).1 (Eo k x b o cap h2 hx q1)
   ·subst e1;subst e2;exact aI b (q2.xL rfl hF) (yG k F v b h2 q1 hF)
 ·intro k x b o cap hk hx hl;rcases kinds k x hk with ⟨h1,h2,h3⟩|⟨h1,h2⟩
  ·have cD:aB k=some (.at b o cap):=by rw[same k x h1];exact hl
   obtain⟨q1,q2⟩:=hm.own k x b o cap h2 hx cD;refine⟨q1,λhF=>?_⟩;have gD:=B.lt w b h.base hF;exact q2 ⟨gD,λhs=>Md b hs hF⟩
  ·obtain⟨q1,q2⟩:=h.own k x b o cap h2 hx hl;exact⟨cH q1 bL,q2⟩
 ·intro k j x y b o cap o' aT hk hx hj hy hl cD;rcases kinds k x hk with ⟨h1,h2,h3⟩|⟨h1,h2⟩
  ·rcases kinds j y hj with ⟨p1,p2,p3⟩|⟨p1,p2⟩
   ·exact hm.inj k j x y b o cap o' aT h2 hx p2 hy (by rw[same k x h1];exact hl) (by rw[same j y p1];exact cD)
   ·exact(part k x b o cap j y o' aT h1 hl p1 p2 hy cD).elim
  ·rcases kinds j y hj with ⟨p1,p2,p3⟩|⟨p1,p2⟩
   ·exact(part j y b o' aT k x o cap p1 cD h1 h2 hx hl).elim
   ·exact h.inj k j x y b o cap o' aT h2 hx p2 hy hl cD
 ·intro k j x F b o cap v hk hx hl hj hv hF;rcases kinds j _ hj with ⟨_,_,p3⟩|⟨p1,p2⟩
  ·cases p3
  have hF:=h.Dq p2 hv bL (λk2 fX iX=>aI k2 fX (yG j F v k2 p2 hv iX)) hF;rcases kinds k x hk with ⟨h1,h2,h3⟩|⟨h1,h2⟩
  ·have cD:aB k=some (.at b o cap):=by rw[same k x h1];exact hl
   have hb:b<w.heap.size:=by obtain⟨lc,q1,q2⟩:=h.born j _ p2;rw[hv]at q1;injection q1 with q1;subst q1;exact q2.xL rfl hF
   exact(hm.own k x b o cap h2 hx cD).2 ⟨hb,yG j F v b p2 hv hF⟩
  ·exact h.apart k j x F b o cap v h2 hx hl p2 hv hF
 ·intro k x b o cap hk hx hl;rcases kinds k x hk with ⟨h1,h2,h3⟩|⟨h1,h2⟩
  ·cases x<;>simp[Obj.owns,Obj.kF]at h3 hx
  ·obtain⟨q1,q2⟩:=h.seen k x b o cap h2 hx hl;refine⟨cH q1 bL,λj y o' aT hj hy cD=>?_⟩;rcases kinds j y hj with ⟨p1,p2,p3⟩|⟨p1,p2⟩
   ·have jG:aB j=some (.at b o' aT):=by rw[same j y p1];exact cD
    exact(hm.own j y b o' aT p2 hy jG).2 ⟨q1,Eo k x b o cap h2 hx hl⟩
   ·exact q2 j y o' aT p2 hy cD
 ·intro j F hj;rcases kinds j _ hj with ⟨_,_,h3⟩|⟨h1,h2⟩
  ·cases h3
  ·exact h.fa j F h2
 ·intro j k F F' hj hk;rcases kinds j _ hj with ⟨_,_,h3⟩|⟨_,h2⟩
  ·cases h3
  rcases kinds k _ hk with ⟨_,_,h3⟩|⟨_,wX⟩
  ·cases h3
  exact h.one j k F F' h2 wX
def yP(P:j_)(f:FuncId)(K:Nat)(args:al)(Os Vs:aL)(val:i_)(cA:aL):Prop:=
 ∀ B:aa,B.ds=[]->∀(ι:Map) (c:g_) (w:h_) (args':al),aO B ι c w->cZ c (Os++Vs)->eG c K->bY (aM ι) args args'->
  Calls P f args'.toArray w λe w'=>∃ v' aB c',e=.returned v'/\Map.le ι aB/\aM aB val v'/\aO B aB c' w'/\cZ c' cA/\∀ k,k<K->ak (Os++Vs) k=none->c' k=c k
theorem o8{val:i_}(ja:P.follows .mixedOrders=true)(hf:P.funcs[f]?=some fn)(n:Nat)(hN:N=args.length+(fn.ntmps-args.length))(rs:∀ B,bN P B N)
  (h:∀ B,pv (iv (P:=P) fn n args (Os++Vs) K (rs B)) cA=pw (iv fn n args (Os++Vs) K (rs B)) val cA):yP P f K args Os Vs val cA:=by
 intro B nM ι c w args' hm ha hu dP;exact TE ja hf hN n (h B) dP hm ha hu (λaB cr v' w' hle hc bJ dW hk=>⟨v',aB,cr,rfl,hle,hc,bJ,λk x e=>dW (k,x) (kW e),hk⟩) nM
theorem aDn(hm:aO B ι c w)(hL:cZ c (Os++Vs))(dG:∀ k x,ak (Os++Vs) k=some x->k<K/\fR K x)(ee:∀ k x,ak Os k=some x->x.owns=true)(qJ:∀ k x,ak Vs k=some x->x.soft=true):
  ∃ S:Nat->Prop,(∀ b,S b->∃ k x o cap,ak Os k=some x/\ι k=some (.at b o cap))/\aO (aa.Mc w S) (w7 ι K) (pN c K (Os++Vs)) w/\cZ (pN c K (Os++Vs)) (Os++Vs)/\eG (pN c K (Os++Vs)) K:=by
 refine⟨λb=>∃ k x o cap,ak Os k=some x/\ι k=some (.at b o cap),λb h=>h,?_,λk x e=>?_,λk hk=>by unfold pN;rw[au o_]⟩
 ·refine PU (L:=Os++Vs) hm hL (λk x e=>yF (dG k x e).1) (λk x lc e _ ho=>ho.below (λk hk l e=>by rw[yF hk];exact e) (dG k x e).2) ⟨.refl _,rfl,rfl,bF _,λ_ _ _=>rfl⟩ (λk x b o cap e hx hl hF=>?_) (bF _) (λk e=>?_) (λk x e=>?_) (λk F e=>?_) (λ_ _ _ _ _ _ h=>h) n_
  ·refine hF.2 ⟨k,x,o,cap,?_,hl⟩;rw[iO]at e;cases e1:ak Os k with
   |some y=>rw[e1]at e;exact e
   |none=>
    rw[e1]at e;exact(PQ (qJ k x e) hx).elim
  ·unfold pN at e;unfold w7;split at e
   ·rename_i hk;rw[aA hk];split at e
    ·cases e
    ·cases hc:c k with
     |none=>exact hm.dD k hc
     |some x=>rw[hc]at e;cases e
   ·rename_i hk;rw[au hk]
  ·unfold pN at e;split at e
   ·rename_i hk;split at e
    ·rename_i y hy;injection e with e;subst e;exact .inl hy
    ·cases hc:c k with
     |none=>rw[hc]at e;cases e
     |some y=>
      rw[hc]at e;injection e with e;obtain⟨lc,q,_⟩:=hm.born k y hc;exact .inr ⟨e.symm,lc,by rw[yF hk];exact q⟩
   ·cases e
  ·rw[iO]at e;cases e1:ak Os k with
   |some y=>rw[e1]at e;injection e with e;subst e;have:=ee k _ e1;cases this
   |none=>rw[e1]at e;exact λhr=>by rw[PR (qJ k _ e)]at hr;cases hr
 ·unfold pN;rw[aA (dG k x e).1,e]
theorem aDo(hm:aO B ι c w){L:aL}(hL:cZ c L){B':aa}{c':g_}(bJ:aO B' aB c' w4)(hle:Map.le (w7 ι K) aB)(gV:∀ k,k<K->ak L k=none->c' k=pN c K L k):
  ∀ k,k<K->∀ lc,aB k=some lc->ι k=some lc:=λk hk lc e=>by
 cases rN:ι k with
 |some AF=>
  have:=hle k AF (by rw[yF hk];exact rN);rw[e]at this;exact this.symm
 |none=>
  exfalso;have hc:c k=none:=by
   cases hc:c k with
   |none=>rfl
   |some y=>obtain⟨AF,q,_⟩:=hm.born k y hc;rw[rN]at q;cases q
  have wO:ak L k=none:=by
   cases e1:ak L k with
   |none=>rfl
   |some y=>rw[hL k y e1]at hc;cases hc
  have q1:c' k=none:=by rw[gV k hk wO];unfold pN;rw[aA hk,wO,hc];rfl
  rw[bJ.dD k q1]at e;cases e
theorem Me{x:m_}{val:i_}(h:yP P f K (args++ca) Os Vs val cA)(ho:dC o.op=some x)(fq:gW P f=true)(kt:l5 K val=true)
  (dP:(args++ca).all (l5 K)=true) (dG:((Os++Vs).all λp=>Nat.blt p.1 K&&mT K p)=true) (LH:(cA.all (mT K))=true) (ee:(Os.all λp=>p.2.owns)=true) (tL:(cA.all λp=>p.2.owns)=true) (qJ:(Vs.all λp=>p.2.soft)=true) (kJ:cA.map (·.1)=Os.map (·.1)) :
  cI P B o (.func (.func f) #[] ca.toArray::args) ((Os++Vs).map λp=>(p.1,some p.2)) val cA:=by
 have:=kj (P:=P) (B:=B) (o:=o) (x:=x) (f:=f) (fi:=[]) (args:=args) (ca:=ca) (need:=(Os++Vs).map λp=>(p.1,some p.2)) (val:=val) (c9:=cA) ho fq ?_
 ·simpa using this
 ·intro ι c w hm hn args' ha;rw[jJ]at ha;have hL:cZ c (Os++Vs):=PX hn;have Mf:∀ k x,ak (Os++Vs) k=some x->k<K/\fR K x:=λk x e=>by have:=kN dG e;simp only[dc,BX]at this;exact⟨this.1,xb this.2⟩
  obtain⟨S,hS,Lz,LA,vU⟩:=aDn hm hL Mf (λk x e=>kN ee e) (λk x e=>kN qJ e);have cd:bY (aM (w7 ι K)) (args++ca) args':=by
   have key:∀{l l':al},bY (aM ι) l l'->(∀ v∈l,l5 K v=true)->bY (aM (w7 ι K)) l l':=by
    intro l l' h hl;induction h with
    |nil=>exact .nil
    |cons h t ih=>exact .cons (h.low (λk hk l e=>by rw[yF hk];exact e) (hl _ (aR ..))) (ih λc hc=>hl c (bK _ hc))
   exact key ha (bC.1 dP)
  refine(h (aa.Mc w S) rfl _ _ w args' Lz LA vU cd).mono ?_
  rintro e w' ⟨v',aB,c',rfl,hle,hc,bJ,tO,gV⟩
  have GJ:=aDo hm hL bJ hle gV;refine⟨ι,v',rfl,Map.le.refl _,?_,aNp hm (λk x e=>hL k x (by rw[iO,e])) (λk x e=>kN ee e) (λk x e=>kN tL e) (xa kJ) hS (λk x e=>xb (kN LH e)) bJ tO GJ λk x e=>?_⟩
  ·exact hc.low GJ kt
  ·cases e1:ak Os k with
   |none=>rw[(xa kJ k).2 e1]at e;cases e
   |some y=>exact(Mf k y (by rw[iO,e1])).1
theorem aNq{x:m_}{val:i_}(h:yP P f K (args++ca) Os Vs val Os)(ho:dC o.op=some x)(fq:gW P f=true)(kt:l5 K val=true)
  (dP:(args++ca).all (l5 K)=true) (dG:((Os++Vs).all λp=>Nat.blt p.1 K&&mT K p)=true) (LH:(Os.all (mT K))=true) (ee:(Os.all λp=>p.2.owns)=true) (qJ:(Vs.all λp=>p.2.soft)=true) :
  cI P B o (.func (.func f) #[] ca.toArray::args) ((Os++Vs).map λp=>(p.1,some p.2)) val []:=by
 intro R ι c a w hv hm hn Kt Q hK;refine Me h ho fq kt dP dG LH ee ee qJ rfl R ι c a w hv hm hn Kt Q λaB v' w' h1 h2 h3=>hK aB v' w' h1 h2 ?_;have hL:cZ c (Os++Vs):=PX hn;refine h3.ext λk=>?_;show c k=mH c Os k;rw[wL];cases e:ak Os k with
 |none=>rfl
 |some y=>exact hL k y (by rw[iO,e])
end
section
variable{α:Type}(enc:α->al)
def dB(l:List α):al:=l.flatMap enc
structure sC(s:Nat):Prop where
 len:∀ x,(enc x).length=s
 flat:∀ x,∀ v∈enc x,flat v=true
 one:∀ x,∀ v∈enc x,v.oneCell'=true
variable{enc}{s:Nat}
theorem Ez(x:α)(l:List α):dB enc (x::l)=enc x++dB enc l:=rfl
theorem Mg(l m:List α):dB enc (l++m)=dB enc l++dB enc m:=by unfold dB;rw[Wt]
theorem uW(h:sC enc s):∀ l:List α,(dB enc l).length=l.length*s
 |[]=>by simp[dB]
 |x::l=>by rw[Ez,lH,h.len,uW h l,qd,uI,nN]
theorem Mh(h:sC enc s)(l:List α):∀ v∈dB enc l,Go.Proofs.YtgpahigmalfpdaaGreatDoor.flat v=true:=λv hv=>by unfold dB at hv;rw[xk]at hv;obtain⟨x,_,hx⟩:=hv;exact h.flat x v hx
theorem jf(h:sC enc s)(l:List α):(dB enc l).all Go.Proofs.YtgpahigmalfpdaaGreatDoor.flat=true:=bC.2 (Mh h l)
theorem Wu(h:sC enc s):∀(l:List α) (m:Nat),(dB enc l).drop (m*s)=dB enc (l.drop m)
 |l,0=>by simp
 |[],m+1=>by simp[dB]
 |x::l,m+1=>by rw[Ez,uI,nN,<-OO,S2 (h.len x),Wu h l m,List.drop_succ_cons]
theorem Wv(h:sC enc s):∀(l:List α) (m:Nat),(dB enc l).take (m*s)=dB enc (l.take m)
 |l,0=>by simp[dB]
 |[],m+1=>by simp[dB]
 |x::l,m+1=>by rw[Ez,uI,nN,List.take_succ_cons,Ez,aDp,h.len,F7,Wv h l m,lh (by rw[h.len];omega)]
theorem Qy(h:sC enc s){l:List α}{x:α}(hx:l[i]?=some x):((dB enc l).drop (i*s)).take s=enc x:=by
 rw[Wu h];have ao:=(eP.1 hx).1;have e:l.drop i=x::l.drop (i+1):=by
  rw[aDq ao]
  congr 1
  exact(eP.1 hx).2
 rw[e,Ez,S1 (h.len x)]
theorem Qz:∀(vs a b:al) (o:Nat),ju (a++b) (a.length+o) vs=a++ju b o vs
 |[],a,b,o=>rfl
 |v::vs,a,b,o=>by unfold ju;rw[Ww _ _ o_,F7,vz,Qz vs]
theorem Wx:∀(vs a b:al),a.length=vs.length->ju (a++b) 0 vs=vs++b
 |[],a,b,h=>by rw[lG h];rfl
 |v::vs,[],b,h=>by cases h
 |v::vs,u::a,b,h=>by unfold ju;rw[DZ,List.set_cons_zero];have:=Qz vs [v] (a++b) 0;rw[QA]at this;rw[kT];have e:ju (v::(a++b)) 1 vs=v::ju (a++b) 0 vs:=this;rw[e,Wx vs a b (by simpa using h)];rfl
theorem aDr(h:sC enc s):∀{l:List α} {i:Nat} {y:α},i<l.length->ju (dB enc l) (i*s) (enc y)=dB enc (l.set i y)
 |x::l,0,y,_=>by rw[l9,Ez,Wx _ _ _ (by rw[h.len,h.len])];rfl
 |x::l,i+1,y,hi=>by rw[uI,nN,Ez];have:=Qz (enc y) (enc x) (dB enc l) (i*s);rw[h.len]at this;rw[this,aDr h (by simpa using hi),List.set_cons_succ,Ez]
variable{P:j_}
def Jk(P:j_)(t:TypeId):Option Nat:=match P.underlying t,P.info? t with
 |some d,some i=>if d.isRow then some i.size else none
 |_,_=>none
theorem aDs(h:sC enc s){t:TypeId}(ht:Jk P t=some s){l:List α}{x:α}(hx:l[i]?=some x):dU P t (dB enc l) (i*s)=some (.agg (enc x).toArray):=by
 unfold Jk at ht;split at ht
 ·rename_i d inf h1 h2;split at ht
  ·rename_i hr;injection ht with ht;unfold dU;rw[h1,h2];dsimp only;have ao:=(eP.1 hx).1;have:(i+1)*s<=l.length*s:=fe s ao;rw[uI]at this;rw[aA hr,ht,aA (by rw[Nat.ble_eq,uW h];exact this),Qy h hx]
  ·cases ht
 ·cases ht
theorem aNr(h:sC enc s){t:TypeId}(ht:Jk P t=some s){l:List α}{y:α}(hi:i<l.length):fK P t (dB enc l) (i*s) (.agg (enc y).toArray)=some (dB enc (l.set i y)):=by
 unfold Jk at ht;split at ht
 ·rename_i d inf h1 h2;split at ht
  ·rename_i hr;injection ht with ht;unfold fK;rw[h2];dsimp only;have hc:(Value.agg (enc y).toArray).cells.toList=enc y:=rfl;have hs:(Value.agg (enc y).toArray).cells.size=s:=by show(enc y).toArray.size=s;rw[NY,h.len]
   have:(i+1)*s<=l.length*s:=fe s hi;rw[uI]at this;rw[aA (by simp only[dc,Nat.ble_eq];refine⟨⟨by rw[hs,ht];simp,by rw[hs,uW h];exact this⟩,bC.2 λv hv=>h.one y v (by rwa[hc]at hv)⟩),hc,aDr h hi]
  ·cases ht
 ·cases ht
end
section
open V3 (dot ag aN smul)
theorem gS:sC RV.cs 30 where
 len r:=rfl
 flat r:=RV.oA r
 one r v hv:=by simp only[RV.cs,RN.cs,fh,cE,jR,jS]at hv;rcases hv with (h|h|h|h|h|h|h|h|h|h)|(h|h|h|h|h|h|h|h|h|h)|(h|h|h|h|h|h|h|h|h|h)<;>subst h<;>rfl
theorem j6:sC RP.cs 40 where
 len r:=rfl
 flat r v hv:=by
  simp only[RP.cs,fh]at hv;rcases hv with h|h
  ·exact RV.oA _ v h
  ·exact RN.oA _ v h
 one r v hv:=by
  simp only[RP.cs,fh]at hv;rcases hv with h|h
  ·exact gS.one _ v h
  ·simp only[RN.cs,cE,jR,jS]at h;rcases h with (h|h|h|h|h|h|h|h|h|h)<;>subst h<;>rfl
abbrev dx(l:List RP):al:=dB RP.cs l
abbrev cW(l:List RV):al:=dB RV.cs l
theorem xl{l:List RP}{p:RP}(h:l[i]?=some p):dU prog 73 (dx l) (i*40)=some p.v:=aDs j6 k_ h
theorem tQ{l:List RV}{p:RV}(h:l[i]?=some p):dU prog 33 (cW l) (i*30)=some p.v:=aDs gS k_ h
def yQ{α:Type}(b:α->Bool):List α->Nat->Int
 |[],_=>-1
 |x::l,i=>if b x then(i:Int)else yQ b l (i+1)
theorem QB{α:Type}{b:α->Bool}:∀{l:List α} (i:Nat),(∀ x∈l,b x=false)->yQ b l i=-1
 |[],_,_=>rfl
 |x::l,i,h=>by unfold yQ;rw[h x (aR ..),QB (i+1) λy hy=>h y (bK _ hy)];rfl
theorem QC{α:Type}{b:α->Bool}:∀{l:List α} {e:Nat} {x:α} (i:Nat),l[e]?=some x->b x=true->(∀(j:Nat) (y:α),j<e->l[j]?=some y->b y=false)->yQ b l i=((i+e:Nat):Int)
 |[],e,x,i,h,_,_=>by simp at h
 |y::l,0,x,i,h,hx,_=>by simp at h;subst h;unfold yQ;rw[hx];rfl
 |y::l,e+1,x,i,h,hx,hb=>by unfold yQ;rw[hb 0 y o_ rfl,QC (i+1) (by simpa using h) hx λj z hj hz=>hb (j+1) z o_ (by simpa using hz)];simp;omega
theorem G3{α:Type}(b:α->Bool):∀(l:List α),(∀ x∈l,b x=false)\/∃(e:Nat) (x:α),l[e]?=some x/\b x=true/\∀(j:Nat) (y:α),j<e->l[j]?=some y->b y=false
 |[]=>.inl n_
 |x::l=>by
  cases hx:b x with
  |true=>exact .inr ⟨0,x,rfl,hx,λj y hj=>by omega⟩
  |false=>
   rcases G3 b l with h|⟨e,y,h1,h2,h3⟩
   ·refine .inl λy hy=>?_;rcases cE.1 hy with rfl|hy
    ·exact hx
    ·exact h y hy
   ·refine .inr ⟨e+1,y,by simpa using h1,h2,λj z hj hz=>?_⟩;cases j with
    |zero=>simp at hz;subst hz;exact hx
    |succ j=>exact h3 j z o_ (by simpa using hz)
theorem aDt{b:α->Bool}{l:List α}:decide (yQ b l 0>=0)=l.any b:=by
 rcases G3 b l with h|⟨e,x,h1,h2,h3⟩
 ·rw[QB 0 h];have:l.any b=false:=by rw[Kw];intro x hx;rw[h x hx];simp
  rw[this];rfl
 ·rw[QC 0 h1 h2 h3];have:l.any b=true:=rS.2 ⟨x,cM h1,h2⟩;rw[this,uV];omega
section
variable{Bs:aa}{g:FuncId}{ps:List RP}{caps:al}{b:RP->Bool}
def Wy(g:FuncId):Value:=.func (.func g) #[] #[aV 1]
def A2(g:FuncId)(n i:Nat):aU:=[(8,vI i),(6,sl 0 n),(7,vI n),(0,sl 0 n),(1,Wy g)]
def uX(ps:List RP)(caps:al):aL:=[(0,.view (dx ps)),(1,.view caps)]
noncomputable def ifS{p:RP}{b:Bool}(hc:gW prog g=true)(kf:caps.all flat=true)(hi:i<ps.length)(hp:ps[i]?=some p)(h:cx prog g [.p p.v,.q caps] (.bool b))(more:bN prog Bs 19):bN prog Bs 19:=
 .lt 9 i ps.length true (aJ hi)::.di f148 14 0 ps.length i 40 hi k_::.ld f148 15 73 0 (i*40) (.view (dx ps)) p.v rfl (xl hp) k_::
  .step 16 (az f148 16) [Wy g,p.v] [(1,some (.view caps))] (.bool b) [] (aMn (vs:=[p.v]) (ca:=[aV 1]) (x:=.tmp 11) h (.p rfl (.q (x:=.view caps) rfl kf .nil)) k_ hc rfl)::more
theorem aNs{p:RP}(hc:gW prog g=true)(kf:caps.all flat=true)(hi:i<ps.length)(hp:ps[i]?=some p)(h:cx prog g [.p p.v,.q caps] a_)(h63:ps.length<9223372036854775807):
  ah prog Bs 19 (aK (ai f148 0)) (A2 g ps.length i) (uX ps caps) 2 ⟨.normal,A2 g ps.length (i+1),uX ps caps,2⟩:=
 aG (ifS hc kf hi hp h [.sum 18 i 1 (i+1) rfl o_])
theorem aNt{p:RP}(hc:gW prog g=true)(kf:caps.all flat=true)(hi:i<ps.length)(hp:ps[i]?=some p)(h:cx prog g [.p p.v,.q caps] b_):
  ah prog Bs 19 (aK (ai f148 0)) (A2 g ps.length i) (uX ps caps) 2 ⟨.ret,[(4,vI i)],uX ps caps,2⟩:=
 aG (ifS hc kf hi hp h [])
theorem aNu:ah prog Bs 19 (aK (ai f148 0)) (A2 g ps.length ps.length) (uX ps caps) 2 ⟨.exit 0,[],uX ps caps,2⟩:=
 aG [.lt 9 ps.length ps.length false s_]
theorem dF{v:i_}(hf:prog.funcs[f]?=some fn)(hl:(l.all aQ.ok)=true)(N:Nat)(rs:∀ w,bN prog (aa.at w) N)(hN:N=(eY 0 l).length+(fn.ntmps-(eY 0 l).length):=by kernel_rfl)(h:∀ w,pv (iv (P:=prog) fn 100 (eY 0 l) (jq 0 l) (jQ 0 l) (rs w)) []=pw (iv fn 100 (eY 0 l) (jq 0 l) (jQ 0 l) (rs w)) v []:=by intro _;kernel_rfl)(hv:flat v=true:=by kernel_rfl):cx prog f l v:=iL mixed hf hl 100 hN rs h hv
theorem aNv(hc:gW prog g=true)(kf:caps.all flat=true)(h63:ps.length<9223372036854775807)(h:∀ p∈ps,cx prog g [.p p.v,.q caps] (.bool (b p))):cx prog 148 [.r ps.length (dx ps),.f g caps] (.int .i64 (yQ b ps 0)):=by
 have aC:([aQ.r ps.length (dx ps),.f g caps].all aQ.ok)=true:=by simp only[eA,e8,aQ.ok,jf j6,kf,A3]
 have rz:∀(B:aa) e,e<=ps.length->(∀ j y,j<e->ps[j]?=some y->b y=false)->∀ i,i<e->ah prog B 19 (aK (ai f148 0)) (A2 g ps.length i) (uX ps caps) 2 ⟨.normal,A2 g ps.length (i+1),uX ps caps,2⟩:=λB e he hb i hi=>by
  have ao:i<ps.length:=by omega
  have hp:ps[i]?=some ps[i]:=bt ao;have hh:=h ps[i] (dy ao);rw[hb i ps[i] hi hp]at hh;exact aNs hc kf ao hp hh h63
 rcases G3 b ps with hn|⟨e,x,h1,h2,h3⟩
 ·rw[QB 0 hn];have lo:∀ B:aa,ah prog B 19 (.block 0 (ai f148 0)) (A2 g ps.length 0) (uX ps caps) 2 ⟨.normal,[],uX ps caps,2⟩:=λB=>
   cg (id:=0) (cz ps.length (λi=>A2 g ps.length i) (λ_=>uX ps caps) (λi k _=>Iff.rfl) (rz B ps.length (bF _) λj y _ hy=>hn y (cM hy)) aNu n_)
  exact dF func148 aC 19 (λw=>[.code 0 _ _ _ _ _ (lo _)])
 ·have ao:=(eP.1 h1).1;have hh:=h x (cM h1);rw[h2]at hh;rw[QC 0 h1 h2 h3,kT];have lo:∀ B:aa,ah prog B 19 (.block 0 (ai f148 0)) (A2 g ps.length 0) (uX ps caps) 2 ⟨.ret,[(4,vI e)],uX ps caps,2⟩:=λB=>
   cg (id:=0) (cz e (λi=>A2 g ps.length i) (λ_=>uX ps caps) (λi k _=>Iff.rfl) (rz B e o_ h3) (aNt hc kf ao h1 hh) n_)
  exact dF func148 aC 19 (λw=>[.code 0 _ _ _ _ _ (lo _)])
theorem aNw(hc:gW prog g=true)(kf:caps.all flat=true)(h63:ps.length<9223372036854775807)(h:∀ p∈ps,cx prog g [.p p.v,.q caps] (.bool (b p))):cx prog 113 [.r ps.length (dx ps),.f g caps] (.bool (ps.any b)):=by
 have aC:([aQ.r ps.length (dx ps),.f g caps].all aQ.ok)=true:=by simp only[eA,e8,aQ.ok,jf j6,kf,A3]
 rw[<-aDt];exact dF func113 aC 9 (λw=>[.step 7 (az f113 7) [.func (.func 148) #[] #[],sl 0 ps.length,Wy g] [(0,some (.view (dx ps))),(1,some (.view caps))] (.int .i64 (yQ b ps 0)) []
  (dJ (aNv hc kf h63 h) (.w (x:=.view (dx ps)) rfl (jf j6 ps) (λh=>by rw[lG h];rfl) (.f (x:=.view caps) rfl kf .nil)) (x:=.func 148) k_ k_ rfl)])
end
def bf(ps:List (HS K)):al:=dx (ps.map db)
def gm(ps:List (HS K)):aQ:=.r ps.length (bf ps)
theorem dp(ps:List (HS K)):(bf ps).all flat=true:=jf j6 _
theorem yR(h:ps[i]?=some p):dU prog 73 (bf ps) (i*40)=some (dK p):=xl (by rw[wJ,h];rfl)
theorem jt(h:ps.length=0):bf ps=[]:=by rw[lG h];rfl
def aP(vs:List (V3 K)):al:=cW (vs.map cB)
def wj(vs:List (V3 K)):aQ:=.r vs.length (aP vs)
theorem dR(vs:List (V3 K)):(aP vs).all flat=true:=jf gS _
theorem lv{vs:List (V3 K)}{v:V3 K}(h:vs[i]?=some v):dU prog 33 (aP vs) (i*30)=some (bE v):=tQ (by rw[wJ,h];rfl)
theorem wk{vs:List (V3 K)}(h:vs.length=0):aP vs=[]:=by rw[lG h];rfl
open Classical in
theorem Wz{g:FuncId}{caps:al}{b:HS K->Bool}(hc:gW prog g=true)(kf:caps.all flat=true)(h63:ps.length<9223372036854775807)(h:∀ p∈ps,cx prog g [.p (dK p),.q caps] (.bool (b p))):
  cx prog 113 [gm ps,.f g caps] (.bool (ps.any b)):=by
 have:=aNw (g:=g) (caps:=caps) (ps:=ps.map db) (b:=λr=>if hr:∃ p∈ps,db p=r then b hr.choose else false) hc kf (by rw[eO];exact h63) (λr hr=>by obtain⟨p,hp,rfl⟩:=df.1 hr;have hex:∃ q∈ps,db q=db p:=⟨p,hp,rfl⟩;rw[dif_pos hex];have e:hex.choose=p:=Qv hex.choose_spec.2;rw[e];exact h p hp)
 rw[eO]at this;have e:(ps.map db).any (λr=>if hr:∃ p∈ps,db p=r then b hr.choose else false)=ps.any b:=by
  rw[List.any_map];have:∀ l:List (HS K),(∀ p∈l,p∈ps)->l.any ((λr=>if hr:∃ p∈ps,db p=r then b hr.choose else false)∘db)=l.any b:=by
   intro l;induction l with
   |nil=>intro _;rfl
   |cons p l ih=>
    intro hl;rw[List.any_cons,List.any_cons,ih λq hq=>hl q (bK _ hq)];refine cS (·||l.any b) ?_;have hex:∃ q∈ps,db q=db p:=⟨p,hl p (aR ..),rfl⟩;show(if hr:∃ q∈ps,db q=db p then b hr.choose else false)=b p;rw[dif_pos hex,Qv hex.choose_spec.2]
  exact this ps λp hp=>hp
 rw[e]at this;exact this
theorem aNx{v:V3 K}{n:Nat}(hp:bP m p)(hv:aD n v)(cQ:4*(3*(m+n)+14)+20<=aF):cx prog 181 [.p (dK p),.q (cB v).cs] (.bool (decide (OF.aE (dot p.n v)>0))):=by have h1:=qw hp.1 hv (show 3*(m+n)+16<aF by omega);have h2:=oB (hp.1.dot hv) cQ;generalize OF.aE (dot p.n v)=z at *;exact G2 func181 10 (λ_=>[h1.at 7,h2.at 8])
theorem aNy{v:V3 K}{n:Nat}(hp:bP m p)(hv:aD n v)(cQ:4*(3*(m+n)+14+m)+30<=aF)(h:p.n≠0):cx prog 155 [.p (dK p),.q (cB v).cs] (.bool (decide (OF.aE (dot p.n v-p.d)>=0))):=
 G2 func155 8 (λ_=>[(Ji hp hv cQ h).at 6])
theorem aNz{q:HS K}{n:Nat}(hp:bP m p)(hq:bP n q)(hm:16*m+80<=aF)(hn:16*n+80<=aF)(j4:p.n≠0)(A1:q.n≠0):cx prog 157 [.p (dK q),.q (db p).cs] (.bool (decide (canon p=canon q))):=
 G2 func157 7 (λ_=>[(Ws hp hq hm hn j4 A1).at 6])
def EA(ps:List (HS K))(v:V3 K):Bool:=!decide (v=0)&&!ps.any λp=>decide (OF.aE (dot p.n v)>0)
theorem aNA{v:V3 K}{n:Nat}(cq:∀ p∈ps,bP m p)(hv:aD n v)(cQ:4*(3*(m+n)+14)+20<=aF)(h63:ps.length<9223372036854775807):cx prog 149 [gm ps,.p (bE v)] (.bool (EA ps v)):=by
 have hz:=A0 hv o_;have aC:([gm ps,.p (bE v)].all aQ.ok)=true:=by simp only[eA,e8,gm,aQ.ok,dp,iz,kp];rfl
 unfold EA;by_cases h:v=0
 ·rw[aJ h]at hz ⊢;exact dF func149 aC 14 (λ_=>[hz.at 6])
 ·rw[aY h]at hz ⊢;have hc:=Wz (g:=181) (caps:=(cB v).cs) (ps:=ps) (b:=λp=>decide (OF.aE (dot p.n v)>0)) k_ (bC.2 (RV.oA _)) h63 λp hp=>aNx (cq p hp) hv cQ;generalize (ps.any λp=>decide (OF.aE (dot p.n v)>0))=t at *;exact dF func149 aC 14 (λ_=>[hz.at 6,.step 11 (az f149 11) [.func (.func 113) #[] #[],sl 0 ps.length,.func (.func 181) #[] #[aV 1]] [(0,some (.view (bf ps))),(1,some (.aI (cB v).cs 33))] (.bool t) []
   (dJ hc (.w (x:=.view (bf ps)) rfl (dp ps) jt (.f (x:=.aI (cB v).cs 33) rfl (bC.2 (RV.oA _)) .nil)) (x:=.func 113) k_ k_ rfl)])
def rC(ps:List (HS K))(u:V3 K):Bool:=EA ps u||EA ps (-u)
def rD(p:HS K)(l:List (HS K)):Bool:=l.any λq=>!decide (ag p.n q.n=0)
def uY:List (HS K)->Nat->Bool
 |_,0=>false
 |l,i+1=>match l[i]? with
  |some p=>uY l i||rD p (l.take i)
  |none=>uY l i
section
variable{Bs:aa}{ps:List (HS K)}
def CX(n i:Nat)(s:Bool)(j:Nat):aU:=[(20,vI j),(18,sl 0 i),(19,vI i),(0,sl 0 n),(5,aV 1),(3,.bool s)]
def tS(ps:List (HS K))(p:HS K):aL:=[(0,.view (bf ps)),(1,.aI (db p).cs 73)]
theorem aDu(p:HS K)(m:Nat):∀ x∈tS ps p,fR m x.2:=λx hx=>by
 simp only[tS,cE,jR,jS]at hx;rcases hx with rfl|rfl
 ·exact λv hv=>gP (bC.1 (dp ps) v hv)
 ·exact λv hv=>gP (j6.flat _ v hv)
noncomputable def Jl{q:HS K}(hj:j<i)(hq:ps[j]?=some q)(cq:∀ p∈ps,bP m p)(hp:bP m p)(hm:100*m+1000<=aF)(s:Bool)(more:bN prog Bs 47):bN prog Bs 47:=
 .lt 21 j i true (aJ hj)::.di f116 22 0 i j 40 hj k_::.ld f116 23 73 0 (j*40) (.view (bf ps)) (dK q) rfl (yR hq) k_::
  (wh hp.1 (cq q (cM hq)).1 o_).at 28::
  (if s then more else(A0 (hp.1.ag (cq q (cM hq)).1) o_).at 32::more)
theorem QD{u:V3 K}{n:Nat}(cq:∀ p∈ps,bP m p)(hu:aD n u)(cQ:4*(3*(m+n)+14)+20<=aF)(h63:ps.length<9223372036854775807){x:m_}(ho:dC o.op=some x):
  cI prog Bs o [.func (.func 149) #[] #[],sl 0 ps.length,bE u] [(0,some (.view (bf ps)))] (.bool (EA ps u)) []:=
 dJ (aNA cq hu cQ h63) (.w (x:=.view (bf ps)) rfl (dp ps) jt (.p k_ .nil)) ho k_ k_
theorem aNB{q:HS K}(hj:j<i)(hq:ps[j]?=some q)(cq:∀ p∈ps,bP m p)(hp:bP m p)(hm:100*m+1000<=aF)(h63:ps.length<9223372036854775807)(mB:i<=ps.length)(s:Bool)(hb:rC ps (ag p.n q.n)=false):
  ah prog Bs 47 (aK (ai f116 2)) (CX ps.length i s j) (tS ps p) 2 ⟨.normal,CX ps.length i (s||!decide (ag p.n q.n=0)) (j+1),tS ps p,2⟩:=by
 have WA:=cq q (cM hq);have hc:=hp.1.ag WA.1;unfold rC at hb;rw[N5]at hb;have o1:=λBs=>QD (Bs:=Bs) (x:=.func 149) (o:=az f116 37) cq hc o_ h63 k_;have o2:=λBs=>QD (Bs:=Bs) (x:=.func 149) (o:=az f116 42) cq hc.neg o_ h63 k_;rw[hb.1]at o1;rw[hb.2]at o2;have ng:=GZ hc o_;have hs:∀ d:Bool,(s||!d)=(if s then true else !d):=λd=>by cases s<;>rfl
 cases s
 ·exact rU mixed 100 (gG:=4) (Jl hj hq cq hp hm false [.step 37 _ _ _ _ _ (o1 _),ng.at 41,.step 42 _ _ _ _ _ (o2 _),.sum 44 j 1 (j+1) rfl o_]) k_ rfl k_ (aDu _ 2) k_
 ·exact rU mixed 100 (gG:=4) (Jl hj hq cq hp hm true [.step 37 _ _ _ _ _ (o1 _),ng.at 41,.step 42 _ _ _ _ _ (o2 _),.sum 44 j 1 (j+1) rfl o_]) k_ rfl k_ (aDu _ 2) k_
theorem aNC{q:HS K}(hj:j<i)(hq:ps[j]?=some q)(cq:∀ p∈ps,bP m p)(hp:bP m p)(hm:100*m+1000<=aF)(h63:ps.length<9223372036854775807)(s:Bool)(hb:rC ps (ag p.n q.n)=true):
  ah prog Bs 47 (aK (ai f116 2)) (CX ps.length i s j) (tS ps p) 2 ⟨.ret,[(2,.bool false)],tS ps p,4⟩:=by
 have WA:=cq q (cM hq);have hc:=hp.1.ag WA.1;unfold rC at hb;have o1:=λBs=>QD (Bs:=Bs) (x:=.func 149) (o:=az f116 37) cq hc o_ h63 k_;have o2:=λBs=>QD (Bs:=Bs) (x:=.func 149) (o:=az f116 42) cq hc.neg o_ h63 k_;have ng:=GZ hc o_;cases h1:EA ps (ag p.n q.n)with
 |true=>
  rw[h1]at o1;cases s
  ·exact aG (Jl hj hq cq hp hm false [.step 37 _ _ _ _ _ (o1 _)])
  ·exact aG (Jl hj hq cq hp hm true [.step 37 _ _ _ _ _ (o1 _)])
 |false=>
  rw[h1,Ao]at hb;rw[h1]at o1;rw[hb]at o2;cases s
  ·exact aG (Jl hj hq cq hp hm false [.step 37 _ _ _ _ _ (o1 _),ng.at 41,.step 42 _ _ _ _ _ (o2 _)])
  ·exact aG (Jl hj hq cq hp hm true [.step 37 _ _ _ _ _ (o1 _),ng.at 41,.step 42 _ _ _ _ _ (o2 _)])
theorem aND(s:Bool):ah prog Bs 47 (aK (ai f116 2)) (CX ps.length i s i) (tS ps p) 2 ⟨.exit 2,[(3,.bool s)],tS ps p,2⟩:=
 aG [.lt 21 i i false s_]
theorem aNE{q:HS K}(hq:ps[j]?=some q):rD p (ps.take (j+1))=(rD p (ps.take j)||!decide (ag p.n q.n=0)):=by unfold rD;rw[uZ,hq,List.any_append];simp
theorem aDv(mB:i<=ps.length)(cq:∀ p∈ps,bP m p)(hp:bP m p)(hm:100*m+1000<=aF)(h63:ps.length<9223372036854775807)(s:Bool):
  ah prog Bs 47 (.block 2 (ai f116 2)) (CX ps.length i s 0) (tS ps p) 2 (if(ps.take i).any (λq=>rC ps (ag p.n q.n))=true then⟨.ret,[(2,.bool false)],tS ps p,4⟩else⟨.normal,[(3,.bool (s||rD p (ps.take i)))],tS ps p,2⟩):=by
 have at':∀{j:Nat},j<i->(ps.take i)[j]?=ps[j]?:=λhj=>by rw[vx,aA hj]
 have rz:∀ e,e<=i->(∀(j:Nat) y,j<e->(ps.take i)[j]?=some y->rC ps (ag p.n y.n)=false)->∀ j,j<e->
   ah prog Bs 47 (aK (ai f116 2)) (CX ps.length i (s||rD p (ps.take j)) j) (tS ps p) 2 ⟨.normal,CX ps.length i (s||rD p (ps.take (j+1))) (j+1),tS ps p,2⟩:=λe he hb j hj=>by
  have hq:ps[j]?=some ps[j]:=bt o_;have:=aNB (Bs:=Bs) (p:=p) (show j<i by omega) hq cq hp hm h63 mB (s||rD p (ps.take j)) (hb j _ hj (by rw[at' o_];exact hq));rwa[Bool.or_assoc,<-aNE hq]at this
 have e0:(s||rD p (ps.take 0))=s:=by simp[rD]
 rcases G3 (λq:HS K=>rC ps (ag p.n q.n)) (ps.take i)with hn|⟨e,q,h1,h2,h3⟩
 ·have:¬(ps.take i).any (λq=>rC ps (ag p.n q.n))=true:=by rw[QE,Kw];intro x hx;rw[hn x hx];simp
  rw[au this];have:=cz (P:=prog) (B:=Bs) (N:=47) i (λj=>CX ps.length i (s||rD p (ps.take j)) j) (λ_=>tS ps p) (λi k _=>Iff.rfl) (rz i (bF _) λj y _ hy=>hn y (cM hy)) (aND _) n_;rw[e0]at this;exact cg (id:=2) this
 ·have ha:(ps.take i).any (λq=>rC ps (ag p.n q.n))=true:=rS.2 ⟨q,cM h1,h2⟩;rw[aA ha];have hei:e<i:=by have:=(eP.1 h1).1;rw[jV]at this;omega
  have:=cz (P:=prog) (B:=Bs) (N:=47) e (λj=>CX ps.length i (s||rD p (ps.take j)) j) (λ_=>tS ps p) (λi k _=>Iff.rfl) (rz e o_ h3) (aNC hei (by rw[<-at' hei];exact h1) cq hp hm h63 _ h2) n_;rw[e0]at this;exact cg (id:=2) this
def G4(ps:List (HS K))(i:Nat):Bool:=match ps[i]? with
 |some p=>(ps.take i).any λq=>rC ps (ag p.n q.n)
 |none=>false
def QF(ps:List (HS K))(n:Nat):Bool:=(List.range n).any (G4 ps)
theorem QG(h:ps[i]?=some p):G4 ps i=(ps.take i).any λq=>rC ps (ag p.n q.n):=by unfold G4;rw[h]
theorem aDw(h:ps[i]?=some p):uY ps (i+1)=(uY ps i||rD p (ps.take i)):=by show(match ps[i]? with|some p=>uY ps i||rD p (ps.take i)|none=>uY ps i)=_;rw[h]
def u4(ps:List (HS K)):Bool:=!QF ps ps.length&&uY ps ps.length
def A4(n i:Nat)(s:Bool):aU:=[(11,vI i),(9,sl 0 n),(10,vI n),(0,sl 0 n),(3,.bool s)]
def sD(ps:List (HS K)):aL:=[(0,.view (bf ps))]
theorem aNF(m:Nat):∀ x∈sD ps,fR m x.2:=λx hx=>by simp only[sD,cE,jR,jS]at hx;subst hx;exact λv hv=>gP (bC.1 (dp ps) v hv)
noncomputable def coS(hi:i<ps.length)(hp:ps[i]?=some p)(more:bN prog Bs 47):bN prog Bs 47:=
 .lt 12 i ps.length true (aJ hi)::.di f116 14 0 ps.length i 40 hi k_::.ld f116 15 73 0 (i*40) (.view (bf ps)) (dK p) rfl (yR hp) k_::.upto f116 18 0 ps.length i 40 o_ k_::more
theorem aNG(hi:i<ps.length)(hp:ps[i]?=some p)(cq:∀ p∈ps,bP m p)(hm:100*m+1000<=aF)(h63:ps.length<9223372036854775807)(s:Bool)(hb:(ps.take i).any (λq=>rC ps (ag p.n q.n))=false):
  ah prog Bs 47 (aK (ai f116 0)) (A4 ps.length i s) (sD ps) 1 ⟨.normal,A4 ps.length (i+1) (s||rD p (ps.take i)),sD ps,1⟩:=by
 have lo:=aDv (Bs:=Bs) (show i<=ps.length by omega) cq (cq p (cM hp)) hm h63 s;rw[hb,au s_]at lo;generalize rD p (ps.take i)=t at *;exact rU mixed 100 (gG:=2) (coS hi hp [.code 2 _ _ _ _ _ lo,.sum 45 i 1 (i+1) rfl o_]) k_ rfl k_ (aNF 1) k_
theorem aNH(hi:i<ps.length)(hp:ps[i]?=some p)(cq:∀ p∈ps,bP m p)(hm:100*m+1000<=aF)(h63:ps.length<9223372036854775807)(s:Bool)(hb:(ps.take i).any (λq=>rC ps (ag p.n q.n))=true):
  ah prog Bs 47 (aK (ai f116 0)) (A4 ps.length i s) (sD ps) 1 ⟨.ret,[(2,.bool false)],sD ps,4⟩:=by
 have lo:=aDv (Bs:=Bs) (show i<=ps.length by omega) cq (cq p (cM hp)) hm h63 s;rw[aA hb]at lo;exact aG (coS hi hp [.code 2 _ _ _ _ _ lo])
theorem aNI(s:Bool):ah prog Bs 47 (aK (ai f116 0)) (A4 ps.length ps.length s) (sD ps) 1 ⟨.exit 0,[(3,.bool s)],sD ps,1⟩:=
 aG [.lt 12 ps.length ps.length false s_]
theorem aNJ(cq:∀ p∈ps,bP m p)(hm:100*m+1000<=aF)(h63:ps.length<9223372036854775807):cx prog 116 [gm ps] (.bool (u4 ps)):=by
 have aC:([gm ps].all aQ.ok)=true:=by simp only[eA,e8,gm,aQ.ok,dp,iz]
 have rz:∀(B:aa) e,e<=ps.length->(∀(j:Nat) y,j<e->(List.range ps.length)[j]?=some y->G4 ps y=false)->∀ i,i<e->
   ah prog B 47 (aK (ai f116 0)) (A4 ps.length i (uY ps i)) (sD ps) 1 ⟨.normal,A4 ps.length (i+1) (uY ps (i+1)),sD ps,1⟩:=λB e he hb i hi=>by
  have ao:i<ps.length:=by omega
  have hp:ps[i]?=some ps[i]:=bt ao;rw[aDw hp];exact aNG ao hp cq hm h63 _ (by rw[<-QG hp];exact hb i i hi (Mi ao))
 unfold u4 QF;rcases G3 (G4 ps) (List.range ps.length)with hn|⟨e,y,h1,h2,h3⟩
 ·have ha:(List.range ps.length).any (G4 ps)=false:=by rw[Kw];intro x hx;rw[hn x hx];simp
  rw[ha];have lo:∀ B:aa,ah prog B 47 (.block 0 (ai f116 0)) (A4 ps.length 0 false) (sD ps) 1 ⟨.normal,[(3,.bool (uY ps ps.length))],sD ps,1⟩:=λB=>
   cg (id:=0) (cz ps.length (λi=>A4 ps.length i (uY ps i)) (λ_=>sD ps) (λi k _=>Iff.rfl) (rz B ps.length (bF _) λj y _ hy=>hn y (cM hy)) (aNI _) n_)
  generalize uY ps ps.length=t at *;exact dF func116 aC 47 (λw=>[.code 0 _ _ _ _ _ (lo _)])
 ·have ha:(List.range ps.length).any (G4 ps)=true:=rS.2 ⟨y,cM h1,h2⟩;rw[ha];have ao:e<ps.length:=by have:=(eP.1 h1).1;rwa[Ag]at this
  have hy:y=e:=by rw[Mi ao]at h1;injection h1 with h1;exact h1.symm
  subst hy;have hp:ps[y]?=some ps[y]:=bt ao;have lo:∀ B:aa,ah prog B 47 (.block 0 (ai f116 0)) (A4 ps.length 0 false) (sD ps) 1 ⟨.ret,[(2,.bool false)],sD ps,4⟩:=λB=>
   cg (id:=0) (cz y (λi=>A4 ps.length i (uY ps i)) (λ_=>sD ps) (λi k _=>Iff.rfl) (rz B y o_ h3) (aNH ao hp cq hm h63 _ (by rw[<-QG hp];exact h2)) n_)
  exact dF func116 aC 47 (λw=>[.code 0 _ _ _ _ _ (lo _)])
end
end
section
variable{P:j_}{B:aa}{N:Nat}
def WB(o:Oper):Bool:=match o.op with|.nilCheck _=>true|_=>false
theorem aNK(ho:WB o=true)(k off:Nat):cI P B o [.pointer (some ⟨k,off,some 7⟩)] [] (.pointer (some ⟨k,off,some 7⟩)) []:=by
 unfold WB at ho;split at ho
 ·rename_i x ck;refine iY.step λι c ρ w aW hm hn=>?_;rw[ck]at aW;obtain⟨u,hu,hc⟩:=oh aW;have hu:ρ x=u:=by simpa[Op.operands]using hu
  obtain⟨b,oo,cap,hb,he⟩:=hc.xK rfl;refine⟨ι,.pointer (some ⟨b,oo+off,none⟩),w,Map.le.refl _,.ptr hb,hm,.inl ?_⟩;simp only[execOp,ck,hu,he];simp[go_sem]
 ·cases ho
def aZ.cF(fn:Func)(key k off:Nat)(ho:WB (az fn key)=true):aZ P B N:=.step key (az fn key) [.pointer (some ⟨k,off,some 7⟩)] [] (.pointer (some ⟨k,off,some 7⟩)) [] (aNK ho k off)
end
section
open V3 (dot ag aN smul)
def WC:Option K->al
 |some x=>(cG x).cs
 |none=>zN.cs
def sE(s:fG K)(b d:V3 K):al:=WC s.lo++(WC s.hi++(.bool s.lo.isSome::.bool s.hi.isSome::((cB b).cs++(cB d).cs)))
def sF(s:fG K)(a b:K):fG K:=
 if OF.aE a=0 then s
 else if OF.aE a>0 then(match s.hi with|some h=>if OF.aE (b*a⁻¹-h)<0 then⟨s.lo,some (b*a⁻¹)⟩else s|none=>⟨s.lo,some (b*a⁻¹)⟩)
 else(match s.lo with|some l=>if OF.aE (b*a⁻¹-l)>0 then⟨some (b*a⁻¹),s.hi⟩else s|none=>⟨some (b*a⁻¹),s.hi⟩)
def aDx(s:fG K):Bool:=match s.lo,s.hi with
 |some l,some h=>decide (OF.aE (l-h)<0)
 |_,_=>true
def tT(s:fG K)(a b:K):Bool:=if OF.aE a=0 then decide (OF.aE b>=0)else aDx (sF s a b)
def oE(n:Nat)(x:Option K):Prop:=∀ y,x=some y->Sz n y
theorem aNL{s:fG K}{b d:V3 K}{z:Nat}(hp:bP m p)(hb:aD q b)(hd:aD q d)(eT:oE z s.lo)(iZ:oE z s.hi)(hn:1000*(m+q)+100*z+10000<=aF):
  yP prog 183 20 [aV 6,dK p] [(6,.aI (sE s b d) 182)] [] (.bool (tT s (dot p.n d) (p.d-dot p.n b))) [(6,.aI (sE (sF s (dot p.n d) (p.d-dot p.n b)) b d) 182)]:=by
 have jx:Sz (3*(m+q)+14) (dot p.n d):=hp.1.dot hd;have ki:Sz (m+(3*(m+q)+14)+1) (p.d-dot p.n b):=hp.2.sub (hp.1.dot hb);have d1:=qw hp.1 hd o_;have d2:=qw hp.1 hb o_;have sb:=CH hp.2 (hp.1.dot hb) o_;have o9:=oB jx o_;have sgb:=oB ki o_;unfold tT sF;generalize p.d-dot p.n b=y at *;generalize dot p.n d=a at *;obtain⟨lo,hi⟩:=s;dsimp only at eT iZ ⊢;by_cases ni:a=0
 ·have e:OF.aE a=0:=(OF.fU a).2 ni;rw[aA e,aA e];have dv:=aLY ki o_;rw[<-ni]at dv;cases lo<;>cases hi<;>exact o8 mixed func183 100 (N:=116) k_ (λ_=>[.cF f183 12 6 0 k_,d1.at 15,.cF f183 21 6 0 k_,d2.at 24,sb.at 25,dv.at 29,sgb.at 36]) (λ_=>k_)
 ·have e:OF.aE a≠0:=λh=>ni ((OF.fU a).1 h);rw[au e,au e];have dv:=GC ni ki jx o_;have ht:=Sz.div ni ki jx;generalize y*a⁻¹=t at *;by_cases h:OF.aE a>0
  ·rw[aA h];rcases lo with _|lo
   ·rcases hi with _|hi
    ·exact o8 mixed func183 100 (N:=116) k_ (λ_=>[.cF f183 12 6 0 k_,d1.at 15,.cF f183 21 6 0 k_,d2.at 24,sb.at 25,dv.at 29,o9.at 40,.rw 41 (.bool (decide (OF.aE a>0))) b_ (by rw[aJ h]),.cF f183 44 6 0 k_,.cF f183 61 6 0 k_,.cF f183 63 6 0 k_,.cF f183 93 6 0 k_]) (λ_=>k_)
    ·dsimp only;by_cases hc:OF.aE (t-hi)<0
     ·rw[aA hc];exact o8 mixed func183 100 (N:=116) k_ (λ_=>[.cF f183 12 6 0 k_,d1.at 15,.cF f183 21 6 0 k_,d2.at 24,sb.at 25,dv.at 29,o9.at 40,.rw 41 (.bool (decide (OF.aE a>0))) b_ (by rw[aJ h]),.cF f183 44 6 0 k_,.cF f183 51 6 0 k_,(kM ht (iZ _ rfl) o_).at 54,.rw 55 (.bool (decide (OF.aE (t-hi)<0))) b_ (by rw[aJ hc]),.cF f183 61 6 0 k_,.cF f183 63 6 0 k_,.cF f183 93 6 0 k_]) (λ_=>k_)
     ·rw[au hc];exact o8 mixed func183 100 (N:=116) k_ (λ_=>[.cF f183 12 6 0 k_,d1.at 15,.cF f183 21 6 0 k_,d2.at 24,sb.at 25,dv.at 29,o9.at 40,.rw 41 (.bool (decide (OF.aE a>0))) b_ (by rw[aJ h]),.cF f183 44 6 0 k_,.cF f183 51 6 0 k_,(kM ht (iZ _ rfl) o_).at 54,.rw 55 (.bool (decide (OF.aE (t-hi)<0))) a_ (by rw[aY hc]),o9.at 67,.rw 68 (.bool (decide (OF.aE a<0))) a_ (by rw[aY o_]),.cF f183 93 6 0 k_]) (λ_=>k_)
   ·rcases hi with _|hi
    ·exact o8 mixed func183 100 (N:=116) k_ (λ_=>[.cF f183 12 6 0 k_,d1.at 15,.cF f183 21 6 0 k_,d2.at 24,sb.at 25,dv.at 29,o9.at 40,.rw 41 (.bool (decide (OF.aE a>0))) b_ (by rw[aJ h]),.cF f183 44 6 0 k_,.cF f183 61 6 0 k_,.cF f183 63 6 0 k_,.cF f183 93 6 0 k_,.cF f183 99 6 0 k_,.cF f183 106 6 0 k_,.cF f183 110 6 0 k_,(kM (eT _ rfl) ht o_).at 113]) (λ_=>k_)
    ·dsimp only;by_cases hc:OF.aE (t-hi)<0
     ·rw[aA hc];exact o8 mixed func183 100 (N:=116) k_ (λ_=>[.cF f183 12 6 0 k_,d1.at 15,.cF f183 21 6 0 k_,d2.at 24,sb.at 25,dv.at 29,o9.at 40,.rw 41 (.bool (decide (OF.aE a>0))) b_ (by rw[aJ h]),.cF f183 44 6 0 k_,.cF f183 51 6 0 k_,(kM ht (iZ _ rfl) o_).at 54,.rw 55 (.bool (decide (OF.aE (t-hi)<0))) b_ (by rw[aJ hc]),.cF f183 61 6 0 k_,.cF f183 63 6 0 k_,.cF f183 93 6 0 k_,.cF f183 99 6 0 k_,.cF f183 106 6 0 k_,.cF f183 110 6 0 k_,(kM (eT _ rfl) ht o_).at 113]) (λ_=>k_)
     ·rw[au hc];exact o8 mixed func183 100 (N:=116) k_ (λ_=>[.cF f183 12 6 0 k_,d1.at 15,.cF f183 21 6 0 k_,d2.at 24,sb.at 25,dv.at 29,o9.at 40,.rw 41 (.bool (decide (OF.aE a>0))) b_ (by rw[aJ h]),.cF f183 44 6 0 k_,.cF f183 51 6 0 k_,(kM ht (iZ _ rfl) o_).at 54,.rw 55 (.bool (decide (OF.aE (t-hi)<0))) a_ (by rw[aY hc]),o9.at 67,.rw 68 (.bool (decide (OF.aE a<0))) a_ (by rw[aY o_]),.cF f183 93 6 0 k_,.cF f183 99 6 0 k_,.cF f183 106 6 0 k_,.cF f183 110 6 0 k_,(kM (eT _ rfl) (iZ _ rfl) o_).at 113]) (λ_=>k_)
  ·rw[au h];rcases lo with _|lo
   ·rcases hi with _|hi
    ·exact o8 mixed func183 100 (N:=116) k_ (λ_=>[.cF f183 12 6 0 k_,d1.at 15,.cF f183 21 6 0 k_,d2.at 24,sb.at 25,dv.at 29,o9.at 40,.rw 41 (.bool (decide (OF.aE a>0))) a_ (by rw[aY h]),o9.at 67,.rw 68 (.bool (decide (OF.aE a<0))) b_ (by rw[aJ o_]),.cF f183 71 6 0 k_,.cF f183 88 6 0 k_,.cF f183 90 6 0 k_,.cF f183 93 6 0 k_,.cF f183 99 6 0 k_]) (λ_=>k_)
    ·exact o8 mixed func183 100 (N:=116) k_ (λ_=>[.cF f183 12 6 0 k_,d1.at 15,.cF f183 21 6 0 k_,d2.at 24,sb.at 25,dv.at 29,o9.at 40,.rw 41 (.bool (decide (OF.aE a>0))) a_ (by rw[aY h]),o9.at 67,.rw 68 (.bool (decide (OF.aE a<0))) b_ (by rw[aJ o_]),.cF f183 71 6 0 k_,.cF f183 88 6 0 k_,.cF f183 90 6 0 k_,.cF f183 93 6 0 k_,.cF f183 99 6 0 k_,.cF f183 106 6 0 k_,.cF f183 110 6 0 k_,(kM ht (iZ _ rfl) o_).at 113]) (λ_=>k_)
   ·rcases hi with _|hi
    ·dsimp only;by_cases hc:OF.aE (t-lo)>0
     ·rw[aA hc];exact o8 mixed func183 100 (N:=116) k_ (λ_=>[.cF f183 12 6 0 k_,d1.at 15,.cF f183 21 6 0 k_,d2.at 24,sb.at 25,dv.at 29,o9.at 40,.rw 41 (.bool (decide (OF.aE a>0))) a_ (by rw[aY h]),o9.at 67,.rw 68 (.bool (decide (OF.aE a<0))) b_ (by rw[aJ o_]),.cF f183 71 6 0 k_,.cF f183 78 6 0 k_,(kM ht (eT _ rfl) o_).at 81,.rw 82 (.bool (decide (OF.aE (t-lo)>0))) b_ (by rw[aJ hc]),.cF f183 88 6 0 k_,.cF f183 90 6 0 k_,.cF f183 93 6 0 k_,.cF f183 99 6 0 k_]) (λ_=>k_)
     ·rw[au hc];exact o8 mixed func183 100 (N:=116) k_ (λ_=>[.cF f183 12 6 0 k_,d1.at 15,.cF f183 21 6 0 k_,d2.at 24,sb.at 25,dv.at 29,o9.at 40,.rw 41 (.bool (decide (OF.aE a>0))) a_ (by rw[aY h]),o9.at 67,.rw 68 (.bool (decide (OF.aE a<0))) b_ (by rw[aJ o_]),.cF f183 71 6 0 k_,.cF f183 78 6 0 k_,(kM ht (eT _ rfl) o_).at 81,.rw 82 (.bool (decide (OF.aE (t-lo)>0))) a_ (by rw[aY hc]),.cF f183 93 6 0 k_,.cF f183 99 6 0 k_]) (λ_=>k_)
    ·dsimp only;by_cases hc:OF.aE (t-lo)>0
     ·rw[aA hc];exact o8 mixed func183 100 (N:=116) k_ (λ_=>[.cF f183 12 6 0 k_,d1.at 15,.cF f183 21 6 0 k_,d2.at 24,sb.at 25,dv.at 29,o9.at 40,.rw 41 (.bool (decide (OF.aE a>0))) a_ (by rw[aY h]),o9.at 67,.rw 68 (.bool (decide (OF.aE a<0))) b_ (by rw[aJ o_]),.cF f183 71 6 0 k_,.cF f183 78 6 0 k_,(kM ht (eT _ rfl) o_).at 81,.rw 82 (.bool (decide (OF.aE (t-lo)>0))) b_ (by rw[aJ hc]),.cF f183 88 6 0 k_,.cF f183 90 6 0 k_,.cF f183 93 6 0 k_,.cF f183 99 6 0 k_,.cF f183 106 6 0 k_,.cF f183 110 6 0 k_,(kM ht (iZ _ rfl) o_).at 113]) (λ_=>k_)
     ·rw[au hc];exact o8 mixed func183 100 (N:=116) k_ (λ_=>[.cF f183 12 6 0 k_,d1.at 15,.cF f183 21 6 0 k_,d2.at 24,sb.at 25,dv.at 29,o9.at 40,.rw 41 (.bool (decide (OF.aE a>0))) a_ (by rw[aY h]),o9.at 67,.rw 68 (.bool (decide (OF.aE a<0))) b_ (by rw[aJ o_]),.cF f183 71 6 0 k_,.cF f183 78 6 0 k_,(kM ht (eT _ rfl) o_).at 81,.rw 82 (.bool (decide (OF.aE (t-lo)>0))) a_ (by rw[aY hc]),.cF f183 93 6 0 k_,.cF f183 99 6 0 k_,.cF f183 106 6 0 k_,.cF f183 110 6 0 k_,(kM (eT _ rfl) (iZ _ rfl) o_).at 113]) (λ_=>k_)
end
def Jm(P:j_)(f:FuncId)(l:List aQ)(ty:TypeId)(size n:Nat)(xs:al)(u:i_):Prop:=
 ∀ w vs,xd w l vs->Calls P f vs.toArray w λe w'=>∃ v,e=.returned (.tuple #[v,u])/\w'.ownsRow w.heap.size ty size v n xs/\Below w.heap.size w w'
section
variable{P:j_}{B:aa}{N:Nat}
theorem aNM(ja:P.follows .mixedOrders=true)(hf:P.funcs[f]?=some fn)(hl:(l.all aQ.ok)=true)(n:Nat){N:Nat}(hN:N=(eY 0 l).length+(fn.ntmps-(eY 0 l).length))
  (rs:∀ w,bN P (aa.at w) N) (h:∀ w,pv (iv (P:=P) fn n (eY 0 l) (jq 0 l) (jQ 0 l) (rs w)) [(k,.row xs ty size)]=pw (iv fn n (eY 0 l) (jq 0 l) (jQ 0 l) (rs w)) (.tuple #[.slice (some ⟨k,0,some 7⟩) m 0,u]) [(k,.row xs ty size)])
  (hx:(xs.all flat)=true) (hlen:xs.length=m*size) (hu:flat u=true):Jm P f l ty size m xs u:=by
 intro w vs cy;obtain⟨ι,c,h1,h2,h3,h4,h5,h6,h7⟩:=yJ cy (bC.1 hl) 0 _ _ (uE w) n_ (λ_ _=>rfl);refine vH ja hf hN n (h w) h6 h2 h4 h3 λaB cr v' w' hle hc hm dW=>?_;obtain⟨cX,rfl,ht⟩:=hc.vt;have ht:bY (aM aB) [.slice (some ⟨k,0,some 7⟩) m 0,u] cX.toList:=ht;cases aW:cX.toList with
 |nil=>rw[aW]at ht;cases ht
 |cons a t=>
  rw[aW]at ht;cases ht with
  |cons q1 q2=>
   cases q2 with
   |cons q3 q4=>
    cases q4;refine⟨a,?_,?_,hm.base⟩
    ·rw[q3.fH hu]at aW
     congr 2
     apply Fx;rw[aW]
    ·have:=xX hm (dW (k,_) (aR ..)) q1 o_ (bC.1 hx);rwa[<-hlen,oD]at this
theorem WD{n:Nat}{nd:q_}{x:m_}(h:Jm P f l ty size n xs u)(hs:gC B l vs nd)(ho:dC o.op=some x)(fq:gW P f=true)(hx:(xs.all flat)=true)(hu:flat u=true)(k:Nat):
  cI P B o (.func (.func f) #[] #[]::vs) ((k,none)::nd) (.tuple #[.slice (some ⟨k,0,some 7⟩) n 0,u]) [(k,.row xs ty size)]:=by
 have:=kj (P:=P) (B:=B) (o:=o) (x:=x) (f:=f) (fi:=[]) (args:=vs) (ca:=[]) (need:=(k,none)::nd) (val:=.tuple #[.slice (some ⟨k,0,some 7⟩) n 0,u]) (c9:=[(k,.row xs ty size)]) ho fq ?_
 ·simpa using this
 ·intro ι c w hm hn args' ha;rw[jJ,jZ]at ha;refine(h w args' (CM hs hm (λp hp=>hn p (bK _ hp)) ha)).mono ?_
  rintro e w' ⟨v,rfl,h1,h2⟩
  obtain⟨aB,q1,q2,q3⟩:=FT hm h2 (k:=k) (hn (k,none) (aR ..)) h1 (bC.1 hx);exact⟨aB,_,rfl,q1,.tup (.cons q3 (.cons (.same hu) .nil)),q2⟩
end
section
open V3 (dot ag aN smul)
def eL(p q:HS K):V3 K:=ag p.n q.n
def xm(p q:HS K):V3 K:=smul (smul (ag q.n (eL p q)) p.d+smul (ag (eL p q) p.n) q.d) (kI 1*(dot (eL p q) (eL p q))⁻¹)
def pc(s:fG K)(b d:V3 K):List (HS K)->fG K
 |[]=>s
 |p::l=>pc (sF s (dot p.n d) (p.d-dot p.n b)) b d l
def xn(s:fG K)(b d:V3 K):List (HS K)->Bool
 |[]=>true
 |p::l=>tT s (dot p.n d) (p.d-dot p.n b)&&xn (sF s (dot p.n d) (p.d-dot p.n b)) b d l
theorem aDy{b d:V3 K}{p:HS K}:∀(l:List (HS K)) (s:fG K),pc s b d (l++[p])=sF (pc s b d l) (dot p.n d) (p.d-dot p.n b)
 |[],s=>rfl
 |q::l,s=>aDy l _
def Mj(ps:List (HS K))(p q:HS K):fG K:=pc ⟨none,none⟩ (xm p q) (eL p q) ps
def G6(ps:List (HS K))(p q:HS K):Option (V3 K×V3 K):=
 if eL p q=0 then none
 else if xn ⟨none,none⟩ (xm p q) (eL p q) ps then(match (Mj ps p q).lo,(Mj ps p q).hi with
  |some l,some h=>some (xm p q+smul (eL p q) l,xm p q+smul (eL p q) h)
  |_,_=>none)
 else none
theorem WE{q:HS K}(hp:bP m p)(hq:bP m q):aD (4*m+9) (eL p q):=(hp.1.ag hq.1).mono o_
theorem aDz{q:HS K}(hp:bP m p)(hq:bP m q)(h:eL p q≠0)(hd:dot (eL p q) (eL p q)≠0):aD (300*m+1000) (xm p q):=by have hc:=WE hp hq;have h1:=(hq.1.ag hc).smul hp.2;have h2:=(hc.ag hp.1).smul hq.2;have h3:=Sz.div (m:=1) hd (mh (z:=1) d_ d_) (hc.dot hc);exact((h1.add h2).smul h3).mono o_
theorem aNN{s:fG K}{a b:K}{z C:Nat}(eT:oE z s.lo)(iZ:oE z s.hi)(ha:Sz A a)(hb:Sz C b)(hz:C+7*A+28<=z):oE z (sF s a b).lo/\oE z (sF s a b).hi:=by
 unfold sF;by_cases h0:OF.aE a=0
 ·rw[aA h0];exact⟨eT,iZ⟩
 ·rw[au h0];have ni:a≠0:=λe=>h0 ((OF.fU a).2 e);have ht:Sz z (b*a⁻¹):=(Sz.div ni hb ha).mono hz;have QH:oE z (some (b*a⁻¹)):=λy e=>by injection e with e;subst e;exact ht
  obtain⟨lo,hi⟩:=s;dsimp only at eT iZ ⊢;split
  ·split
   ·split
    ·exact⟨eT,QH⟩
    ·exact⟨eT,iZ⟩
   ·exact⟨eT,QH⟩
  ·split
   ·split
    ·exact⟨QH,iZ⟩
    ·exact⟨eT,iZ⟩
   ·exact⟨QH,iZ⟩
theorem QI{b d:V3 K}{m q z:Nat}(hb:aD q b)(hd:aD q d)(hz:m+(3*(m+q)+14)+1+7*(3*(m+q)+14)+28<=z):∀(l:List (HS K)) (s:fG K),(∀ p∈l,bP m p)->oE z s.lo->oE z s.hi->oE z (pc s b d l).lo/\oE z (pc s b d l).hi
 |[],s,_,h1,h2=>⟨h1,h2⟩
 |p::l,s,hl,h1,h2=>by have hp:=hl p (aR ..);obtain⟨q1,q2⟩:=aNN h1 h2 (hp.1.dot hd) (hp.2.sub (hp.1.dot hb)) hz;exact QI hb hd hz l _ (λr hr=>hl r (bK _ hr)) q1 q2
theorem aNO{s:fG K}{b d:V3 K}{t:K}{z:Nat}(hb:aD q b)(hd:aD q d)(ht:Sz z t)(hn:10*q+10*z+100<=aF):
  yP prog 184 20 ([bH t]++[aV 7,aV 3]) [(6,.aI (sE s b d) 182),(7,.aI [aV 6] 180),(3,.aI (cB d).cs 33)] [] (bE (b+smul d t)) [(6,.aI (sE s b d) 182),(7,.aI [aV 6] 180),(3,.aI (cB d).cs 33)]:=by
 have h1:=uU hd ht o_;have h2:=AZ hb (hd.smul ht) o_;obtain⟨lo,hi⟩:=s;cases lo<;>cases hi<;>exact o8 mixed func184 100 (N:=13) k_ (λ_=>[.cF f184 6 6 0 k_,h1.at 11,h2.at 12]) (λ_=>k_)
theorem aDA(x:Option K):∀ v∈WC x,flat v=true:=by
 cases x with
 |none=>exact RN.oA zN
 |some y=>exact RN.oA _
theorem QJ(s:fG K)(b d:V3 K):∀ v∈sE s b d,flat v=true:=λv hv=>by
 simp only[sE,fh,cE]at hv;rcases hv with h|h|rfl|rfl|h|h
 ·exact aDA _ v h
 ·exact aDA _ v h
 ·rfl
 ·rfl
 ·exact RV.oA _ v h
 ·exact RV.oA _ v h
theorem yS{x:Obj}(h:∀ v∈x.cells,flat v=true):mT m (k,x)=true:=bC.2 λv hv=>gP (h v hv)
section
variable{Bs:aa}{ps:List (HS K)}
theorem WG{b d:V3 K}:∀(l:List (HS K)) (s:fG K),xn s b d l=true↔∀(i:Nat) (p:HS K),l[i]?=some p->tT (pc s b d (l.take i)) (dot p.n d) (p.d-dot p.n b)=true
 |[],s=>by simp[xn]
 |q::l,s=>by
  unfold xn;rw[dc,WG l];constructor
  ·rintro⟨h1,h2⟩ i p hp
   cases i with
   |zero=>simp at hp;subst hp;exact h1
   |succ i=>exact h2 i p (by simpa using hp)
  ·intro h;exact⟨h 0 q rfl,λi p hp=>h (i+1) p (by simpa using hp)⟩
def eI(n i:Nat):aU:=[(54,vI i),(52,sl 0 n),(53,vI n),(0,sl 0 n),(12,aV 7),(8,aV 3)]
def eJ(ps:List (HS K))(s:fG K)(b d:V3 K):aL:=[(0,.view (bf ps)),(6,.aI (sE s b d) 182),(7,.aI [aV 6] 180)]
theorem aNP{s:fG K}{b d:V3 K}:∀ x∈eJ ps s b d,fR 8 x.2:=λx hx=>by
 simp only[eJ,cE,jR,jS]at hx;rcases hx with rfl|rfl|rfl
 ·exact λv hv=>gP (bC.1 (dp ps) v hv)
 ·exact λv hv=>gP (QJ _ _ _ v hv)
 ·exact xb (p:=(7,.aI [aV 6] 180)) k_
theorem aNQ{s:fG K}{b d:V3 K}{z:Nat}(hp:bP m p)(hb:aD q b)(hd:aD q d)(eT:oE z s.lo)(iZ:oE z s.hi)(hn:1000*(m+q)+100*z+10000<=aF){x:m_}(ho:dC o.op=some x):
  cI prog Bs o [.func (.func 183) #[] #[],aV 6,dK p] [(6,some (.aI (sE s b d) 182))] (.bool (tT s (dot p.n d) (p.d-dot p.n b))) [(6,.aI (sE (sF s (dot p.n d) (p.d-dot p.n b)) b d) 182)]:=
 Me (K:=20) (args:=[aV 6,dK p]) (ca:=[]) (Os:=[(6,.aI (sE s b d) 182)]) (Vs:=[]) (aNL hp hb hd eT iZ hn) ho k_ k_ k_ (by simp only[jZ,eA,e8,iz];rw[yS (x:=.aI (sE s b d) 182) (QJ _ _ _)];rfl)
  (by simp only[eA,e8,iz];exact yS (x:=.aI (sE (sF s (dot p.n d) (p.d-dot p.n b)) b d) 182) (QJ _ _ _)) rfl rfl rfl rfl
noncomputable def eS{s:fG K}{b d:V3 K}{z:Nat}(hi:i<ps.length)(jB:ps[i]?=some p)(hp:bP m p)(hb:aD q b)(hd:aD q d)(eT:oE z s.lo)(iZ:oE z s.hi)(hn:1000*(m+q)+100*z+10000<=aF)(ht:tT s (dot p.n d) (p.d-dot p.n b)=t)(more:bN prog Bs 89):bN prog Bs 89:=
 .lt 55 i ps.length true (aJ hi)::.di f151 56 0 ps.length i 40 hi k_::.ld f151 57 73 0 (i*40) (.view (bf ps)) (dK p) rfl (yR jB) k_::
  .step 60 (az f151 60) _ _ (.bool t) _ (ht▸aNQ (x:=.func 183) hp hb hd eT iZ hn k_)::more
theorem aNR{s:fG K}{b d:V3 K}{z:Nat}(hi:i<ps.length)(jB:ps[i]?=some p)(hp:bP m p)(hb:aD q b)(hd:aD q d)(eT:oE z s.lo)(iZ:oE z s.hi)(hn:1000*(m+q)+100*z+10000<=aF)(h63:ps.length<9223372036854775807)
  (ht:tT s (dot p.n d) (p.d-dot p.n b)=true):ah prog Bs 89 (aK (ai f151 0)) (eI ps.length i) (eJ ps s b d) 8 ⟨.normal,eI ps.length (i+1),eJ ps (sF s (dot p.n d) (p.d-dot p.n b)) b d,8⟩:=
 rU mixed 100 (gG:=9) (eS hi jB hp hb hd eT iZ hn ht [.sum 62 i 1 (i+1) rfl o_]) k_ rfl k_ aNP k_
theorem aNS{s:fG K}{b d:V3 K}{z:Nat}(hi:i<ps.length)(jB:ps[i]?=some p)(hp:bP m p)(hb:aD q b)(hd:aD q d)(eT:oE z s.lo)(iZ:oE z s.hi)(hn:1000*(m+q)+100*z+10000<=aF)
  (ht:tT s (dot p.n d) (p.d-dot p.n b)=false):ah prog Bs 89 (aK (ai f151 0)) (eI ps.length i) (eJ ps s b d) 8 ⟨.ret,[(6,.slice none 0 0),(7,.bool false)],eJ ps (sF s (dot p.n d) (p.d-dot p.n b)) b d,9⟩:=
 aG (eS hi jB hp hb hd eT iZ hn ht [])
theorem aNT{s:fG K}{b d:V3 K}:ah prog Bs 89 (aK (ai f151 0)) (eI ps.length ps.length) (eJ ps s b d) 8 ⟨.exit 0,[(12,aV 7),(8,aV 3)],eJ ps s b d,8⟩:=
 aG [.lt 55 ps.length ps.length false s_]
theorem aDB{b d:V3 K}(s s':fG K)(k:Nat):ak (eJ ps s b d) k=none↔ak (eJ ps s' b d) k=none:=xa (L':=eJ ps s b d) (L:=eJ ps s' b d) rfl k
theorem aNU{b d:V3 K}{z:Nat}(cq:∀ p∈ps,bP m p)(hb:aD q b)(hd:aD q d)(hz:m+(3*(m+q)+14)+1+7*(3*(m+q)+14)+28<=z)(hn:1000*(m+q)+100*z+10000<=aF)(h63:ps.length<9223372036854775807):
  (xn ⟨none,none⟩ b d ps=true->ah prog Bs 89 (.block 0 (ai f151 0)) (eI ps.length 0) (eJ ps ⟨none,none⟩ b d) 8 ⟨.normal,[(12,aV 7),(8,aV 3)],eJ ps (pc ⟨none,none⟩ b d ps) b d,8⟩)/\
  (xn ⟨none,none⟩ b d ps=false->∃ s,ah prog Bs 89 (.block 0 (ai f151 0)) (eI ps.length 0) (eJ ps ⟨none,none⟩ b d) 8 ⟨.ret,[(6,.slice none 0 0),(7,.bool false)],eJ ps s b d,9⟩):=by
 have QK:∀ i,oE z (pc ⟨none,none⟩ b d (ps.take i)).lo/\oE z (pc ⟨none,none⟩ b d (ps.take i)).hi:=λi=>QI hb hd hz (ps.take i) _ (λp hp=>cq p (Jn hp)) n_ n_;have tk:∀{i:Nat} {p:HS K},ps[i]?=some p->ps.take (i+1)=ps.take i++[p]:=λh=>by rw[uZ,h];rfl
 let Mk:Nat->Bool:=λi=>match ps[i]? with|some p=>tT (pc ⟨none,none⟩ b d (ps.take i)) (dot p.n d) (p.d-dot p.n b)|none=>true
 have QL:∀{i:Nat} {p:HS K},ps[i]?=some p->Mk i=tT (pc ⟨none,none⟩ b d (ps.take i)) (dot p.n d) (p.d-dot p.n b):=λh=>by simp only[Mk,h]
 have rz:∀ e,e<=ps.length->(∀ i,i<e->Mk i=true)->∀ i,i<e->
   ah prog Bs 89 (aK (ai f151 0)) (eI ps.length i) (eJ ps (pc ⟨none,none⟩ b d (ps.take i)) b d) 8 ⟨.normal,eI ps.length (i+1),eJ ps (pc ⟨none,none⟩ b d (ps.take (i+1))) b d,8⟩:=λe he aC i hi=>by
  have ao:i<ps.length:=by omega
  have hp:ps[i]?=some ps[i]:=bt ao;have h:=aC i hi;rw[QL hp]at h;rw[tk hp,aDy];exact aNR ao hp (cq _ (dy ao)) hb hd (QK i).1 (QK i).2 hn h63 h
 refine⟨λbo=>?_,λgi=>?_⟩
 ·have aC:∀ i,i<ps.length->Mk i=true:=λi hi=>by have hp:ps[i]?=some ps[i]:=bt hi;rw[QL hp];exact(WG ps _).1 bo i _ hp
  have:=cz (P:=prog) (B:=Bs) (N:=89) ps.length (λi=>eI ps.length i) (λi=>eJ ps (pc ⟨none,none⟩ b d (ps.take i)) b d) (λi k _=>aDB _ _ k) (rz ps.length (bF _) aC) aNT n_;rw[oD]at this;exact cg (id:=0) this
 ·rcases G3 (λi=>!Mk i) (List.range ps.length)with Dz|⟨e,y,h1,h2,h3⟩
  ·exfalso;have:xn ⟨none,none⟩ b d ps=true:=(WG ps _).2 λi p hp=>by have ao:=(eP.1 hp).1;have:=Dz i (kh.2 ao);rw[QL hp]at this;simpa using this
   rw[this]at gi;cases gi
  ·have ao:e<ps.length:=by have:=(eP.1 h1).1;rwa[Ag]at this
   have hy:y=e:=by rw[Mi ao]at h1;injection h1 with h1;exact h1.symm
   subst hy;have hp:ps[y]?=some ps[y]:=bt ao;rw[QL hp]at h2
   have:=cz (P:=prog) (B:=Bs) (N:=89) y (λi=>eI ps.length i) (λi=>eJ ps (pc ⟨none,none⟩ b d (ps.take i)) b d) (λi k _=>aDB _ _ k)
    (rz y o_ λi hi=>by have:=h3 i i hi (Mi o_);simpa using this) (aNS ao hp (cq _ (dy ao)) hb hd (QK y).1 (QK y).2 hn (by simpa using h2)) n_
   exact⟨_,cg (id:=0) this⟩
end
theorem aDC{s:fG K}{b d:V3 K}{t:K}{z:Nat}(hb:aD q b)(hd:aD q d)(ht:Sz z t)(hn:10*q+10*z+100<=aF){x:m_}(ho:dC o.op=some x):
  cI prog Bs o [.func (.func 184) #[] #[aV 7,aV 3],bH t] [(6,some (.aI (sE s b d) 182)),(7,some (.aI [aV 6] 180)),(3,some (.aI (cB d).cs 33))] (bE (b+smul d t)) []:=by
 have l6:mT 20 (6,.aI (sE s b d) 182)=true:=yS (x:=.aI (sE s b d) 182) (QJ _ _ _);have l7:mT 20 (7,.aI [aV 6] 180)=true:=k_;have l3:mT 20 (3,.aI (cB d).cs 33)=true:=k_
 exact aNq (K:=20) (args:=[bH t]) (ca:=[aV 7,aV 3]) (Os:=[(6,.aI (sE s b d) 182),(7,.aI [aV 6] 180),(3,.aI (cB d).cs 33)]) (Vs:=[]) (aNO hb hd ht hn) ho k_ k_ k_
  (by simp only[jZ,eA,e8,iz,l6,l7,l3];rfl) (by simp only[eA,e8,iz,l6,l7,l3]) rfl rfl
set_option maxRecDepth 8000 in
theorem aNV{q:HS K}(cq:∀ p∈ps,bP m p)(hp:bP m p)(hq:bP m q)(hm:10000000*(m+10)<=aF)(h63:ps.length<9223372036854775807)(mQ:eL p q≠0->dot (eL p q) (eL p q)≠0):
  match G6 ps p q with
  |some (u,v)=>Jm prog 151 [gm ps,.p (dK p),.p (dK q)] 33 30 2 (aP [u,v]) b_
  |none=>cx prog 151 [gm ps,.p (dK p),.p (dK q)] (.tuple #[.slice none 0 0,.bool false]):=by
 have aC:([gm ps,.p (dK p),.p (dK q)].all aQ.ok)=true:=by simp only[eA,e8,gm,aQ.ok,dp,iz,kp];rfl
 have c1:aH prog 72 [bE p.n,bE q.n] (bE (eL p q)):=wh hp.1 hq.1 o_;have hD:=WE hp hq;have z1:=A0 hD o_;unfold G6;by_cases h0:eL p q=0
 ·rw[aA h0];rw[aJ h0]at z1;exact dF func151 aC 89 (λ_=>[c1.at 20,z1.at 22])
 ·rw[au h0];rw[aY h0]at z1;have k9:=mQ h0;obtain⟨r,hr⟩:∃ r,r=300*m+1000:=⟨_,rfl⟩;obtain⟨z,hz⟩:∃ z,z=30*(m+r)+500:=⟨_,rfl⟩;have hB:aD r (xm p q):=hr▸aDz hp hq h0 k9;have G7:aD r (eL p q):=hD.mono o_;have c2:=wh hq.1 hD o_;have s2:=uU (hq.1.ag hD) hp.2 o_;have c3:=wh hD hp.1 o_;have s3:=uU (hD.ag hp.1) hq.2 o_;have a1:=AZ ((hq.1.ag hD).smul hp.2) ((hD.ag hp.1).smul hq.2) o_;have o1:=r7 (z:=1) d_;have dd:=qw hD hD o_;have one:Sz 1 (kI 1):=mh d_ d_;have hDD:=hD.dot hD;have dv:=GC k9 one hDD o_;have ql:=Sz.div k9 one hDD;have s4:=uU (((hq.1.ag hD).smul hp.2).add ((hD.ag hp.1).smul hq.2)) ql o_;have lo:=λBs=>aNU (Bs:=Bs) (ps:=ps) (m:=m) (q:=r) (z:=z) cq hB G7 o_ o_ h63;have zs:=QI (m:=m) (q:=r) (z:=z) hB G7 o_ ps ⟨none,none⟩ cq n_ n_;unfold Mj;have e1:smul (smul (ag q.n (eL p q)) p.d+smul (ag (eL p q) p.n) q.d) (kI 1*(dot (eL p q) (eL p q))⁻¹)=xm p q:=rfl;rw[e1]at s4;generalize xm p q=eb at *;generalize eL p q=ed at *;by_cases hs:xn ⟨none,none⟩ eb ed ps=true
  ·rw[aA hs];have vK:=λBs=>(lo Bs).1 hs;clear lo;obtain⟨zl,zh⟩:=zs;generalize pc ⟨none,none⟩ eb ed ps=sg at *;obtain⟨l,h⟩:=sg;rcases l with _|l
   ·cases h<;>exact dF func151 aC 89 (λw=>[c1.at 20,z1.at 22,c2.at 26,s2.at 29,c3.at 33,s3.at 36,a1.at 37,o1.at 39,dd.at 42,dv.at 43,s4.at 48,.code 0 _ _ _ _ _ (vK _),.cF f151 64 6 0 k_])
   ·rcases h with _|h
    ·exact dF func151 aC 89 (λw=>[c1.at 20,z1.at 22,c2.at 26,s2.at 29,c3.at 33,s3.at 36,a1.at 37,o1.at 39,dd.at 42,dv.at 43,s4.at 48,.code 0 _ _ _ _ _ (vK _),.cF f151 64 6 0 k_,.cF f151 70 6 0 k_])
    ·exact aNM (k:=8) mixed func151 aC 100 (N:=89) k_ (λw=>[c1.at 20,z1.at 22,c2.at 26,s2.at 29,c3.at 33,s3.at 36,a1.at 37,o1.at 39,dd.at 42,dv.at 43,s4.at 48,.code 0 _ _ _ _ _ (vK _),.cF f151 64 6 0 k_,.cF f151 70 6 0 k_,.cF f151 78 6 0 k_,.step 81 (az f151 81) _ _ _ _ (aDC (s:=⟨some l,some h⟩) (x:=.tmp 76) hB G7 (zl l rfl) o_ k_),.cF f151 84 6 0 k_,.step 87 (az f151 87) _ _ _ _ (aDC (s:=⟨some l,some h⟩) (x:=.tmp 82) hB G7 (zh h rfl) o_ k_),.bs f151 88 8 2 33 30 [0,1] zV.v [bE (eb+smul ed l),bE (eb+smul ed h)] (aP [eb+smul ed l,eb+smul ed h]).toArray (.row (aP [eb+smul ed l,eb+smul ed h]) 33 30) rfl (bC.1 k_) (bC.1 (dR _)) k_ k_ d_ d_ k_]) (λ_=>k_) (dR _) k_ k_
  ·rw[au hs];have vK:=λBs=>(lo Bs).2 (by simpa using hs);exact dF func151 aC 89 (λw=>[c1.at 20,z1.at 22,c2.at 26,s2.at 29,c3.at 33,s3.at 36,a1.at 37,o1.at 39,dd.at 42,dv.at 43,s4.at 48,.code 0 _ _ _ _ _ (vK _).choose_spec])
def eZ(p q:Int):K:=(Fr.mk p 0 0 0 q).val
theorem QM{p q:Int}(hq:q≠0):bH (eZ p q)=iK (Fr.mk p 0 0 0 q).low:=by show(tH (bX (Fr.mk p 0 0 0 q).val)).v=(tH _).v;rw[Gs (x:=Fr.mk p 0 0 0 q) hq]
theorem EB{p q:Int}{n:Nat}(hq:q≠0)(h1:p.natAbs<2^n)(h2:q.natAbs<2^n):Sz n (eZ p q):=by unfold Sz eZ;rw[Gs (x:=Fr.mk p 0 0 0 q) hq];have hp:0<2^n:=cT d_;exact dX.low ⟨h1,hp,hp,hp,h2⟩ hq
def CY(l:List (V3 K)):V3 K:=l.foldl (·+·) ⟨kI 0,kI 0,kI 0⟩
def CZ(l:List (V3 K)):V3 K:=smul (CY l) (eZ 1 l.length)
theorem aNW(l:List (V3 K))(v:V3 K):CY (l++[v])=CY l+v:=by unfold CY;rw[WH];rfl
theorem aDD(l:List (V3 K))(hl:∀ v∈l,aD m v):aD (1+l.length*(m+1)) (CY l):=by
 have key:∀(l:List (V3 K)) (u:V3 K) (n:Nat),(∀ v∈l,aD m v)->aD n u->aD (n+l.length*(m+1)) (l.foldl (·+·) u):=by
  intro l;induction l with
  |nil=>intro u n _ h;exact h.mono o_
  |cons v l ih=>
   intro u n hl h;have:=ih (u+v) (n+m+1) (λx hx=>hl x (bK _ hx)) (h.add (hl v (aR ..)));refine this.mono ?_;rw[qd,uI];omega
 exact key l _ 1 hl L9
def yT(ps:List (HS K))(vs:List (V3 K)):Bool:=!decide (vs.length=0)&&!ps.any λp=>decide (OF.aE (dot p.n (CZ vs)-p.d)>=0)
section
variable{Bs:aa}{ps:List (HS K)}{vs:List (V3 K)}
def Ml(n i:Nat):aU:=[(17,vI i),(15,sl 1 n),(16,vI n),(5,aV 2)]
def u5(vs:List (V3 K))(s:V3 K):aL:=[(1,.view (aP vs)),(2,.aI (cB s).cs 33)]
theorem aNX{s:V3 K}:∀ x∈u5 vs s,fR 3 x.2:=λx hx=>by
 simp only[u5,cE,jR,jS]at hx;rcases hx with rfl|rfl
 ·exact λv hv=>gP (bC.1 (dR vs) v hv)
 ·exact λv hv=>gP (RV.oA _ v hv)
theorem aNY{v s:V3 K}{n:Nat}(hi:i<vs.length)(hv:vs[i]?=some v)(hs:aD n s)(hm:aD m v)(cQ:m+n<aF)(h63:vs.length<9223372036854775807):
  ah prog Bs 38 (aK (ai f118 0)) (Ml vs.length i) (u5 vs s) 3 ⟨.normal,Ml vs.length (i+1),u5 vs (s+v),3⟩:=
 rU mixed 100 (gG:=4) [.lt 18 i vs.length true (aJ hi),.di f118 19 1 vs.length i 30 hi k_,.ld f118 20 33 1 (i*30) (.view (aP vs)) (bE v) rfl (lv hv) k_,(AZ hs hm o_).at 23,.sum 24 i 1 (i+1) rfl o_] k_ rfl k_ aNX k_
theorem aNZ{s:V3 K}:ah prog Bs 38 (aK (ai f118 0)) (Ml vs.length vs.length) (u5 vs s) 3 ⟨.exit 0,[(5,aV 2)],u5 vs s,3⟩:=
 aG [.lt 18 vs.length vs.length false s_]
theorem aN0(s s':V3 K)(k:Nat):ak (u5 vs s) k=none↔ak (u5 vs s') k=none:=xa (L':=u5 vs s) (L:=u5 vs s') rfl k
theorem aN1(aW:∀ v∈vs,aD m v)(hm:m+(1+vs.length*(m+1))<aF)(h63:vs.length<9223372036854775807):
  ah prog Bs 38 (.block 0 (ai f118 0)) (Ml vs.length 0) (u5 vs ⟨kI 0,kI 0,kI 0⟩) 3 ⟨.normal,[(5,aV 2)],u5 vs (CY vs),3⟩:=by
 have:=cz (P:=prog) (B:=Bs) (N:=38) vs.length (λi=>Ml vs.length i) (λi=>u5 vs (CY (vs.take i))) (λi k _=>aN0 _ _ k) (λi hi=>by have hv:vs[i]?=some vs[i]:=bt hi;have hs:=aDD (m:=m) (vs.take i) λv hv=>aW v (Jn hv);have hle:(vs.take i).length*(m+1)<=vs.length*(m+1):=fe _ (by rw[jV];omega);rw[uZ,hv];show ah _ _ _ _ _ _ _ ⟨_,_,u5 vs (CY (vs.take i++[vs[i]])),_⟩;rw[aNW];exact aNY hi hv hs (aW _ (dy hi)) o_ h63) (by rw[oD];exact aNZ) n_
 exact cg (id:=0) this
theorem aN2(cq:∀ p∈ps,bP m p/\p.n≠0)(aW:∀ v∈vs,aD q v)(hm:100*(m+vs.length*(q+1))+10000<=aF)(h63:vs.length<2^40)(aN3:ps.length<9223372036854775807):cx prog 118 [gm ps,wj vs] (.bool (yT ps vs)):=by
 have aC:([gm ps,wj vs].all aQ.ok)=true:=by simp only[eA,e8,gm,wj,aQ.ok,dp,dR,iz]
 unfold yT;by_cases h0:vs.length=0
 ·rw[aJ h0];exact dF func118 aC 38 (λw=>[.gH 13 vs.length 0 true (by simp[h0])])
 ·rw[aY h0];have Cw:q+1<=vs.length*(q+1):=WI _ o_;have lo:=λBs=>aN1 (Bs:=Bs) aW o_ o_;have bB:(vs.length:Int)≠0:=by omega
  have rt:=aCh (p:=1) (q:=(vs.length:Int)) (n:=40) bB d_ (by simpa using h63) d_;rw[<-QM bB]at rt;have hr:=EB (p:=1) (q:=(vs.length:Int)) (n:=40) bB d_ (by simpa using h63);have hs:=aDD vs aW;have sc:=uU hs hr o_;have EC:aD (1+vs.length*(q+1)+40+4) (CZ vs):=hs.smul hr;have hc:=Wz (g:=155) (caps:=(cB (CZ vs)).cs) (ps:=ps) (b:=λp=>decide (OF.aE (dot p.n (CZ vs)-p.d)>=0)) k_ (bC.2 (RV.oA _)) aN3 λp hp=>aNy (cq p hp).1 EC o_ (cq p hp).2;have e:smul (CY vs) (eZ 1 (vs.length:Int))=CZ vs:=rfl;rw[e]at sc;generalize (ps.any λp=>decide (OF.aE (dot p.n (CZ vs)-p.d)>=0))=t at *;generalize CZ vs=mv at *;exact dF func118 aC 38 (λw=>[.gH 13 vs.length 0 false (by simp[h0]),(xj (a:=0) (b:=0) (c:=0) d_ d_ d_).at 14,.code 0 _ _ _ _ _ (lo _),rt.at 28,sc.at 33,.step 36 (az f118 36) [.func (.func 113) #[] #[],sl 0 ps.length,.func (.func 155) #[] #[aV 4]] [(0,some (.view (bf ps))),(4,some (.aI (cB mv).cs 33))] (.bool t) []
   (dJ hc (.w (x:=.view (bf ps)) rfl (dp ps) jt (.f (x:=.aI (cB mv).cs 33) rfl (bC.2 (RV.oA _)) .nil)) (x:=.func 113) k_ k_ rfl)])
end
def sG(ps:List (HS K))(p q:HS K):List (V3 K):=match G6 ps p q with|some (u,v)=>[u,v]|none=>[]
def mC(ps:List (HS K))(p:HS K)(l:List (HS K)):List (V3 K):=l.flatMap (sG ps p)
theorem aN4{q:HS K}(l:List (HS K)):mC ps p (l++[q])=mC ps p l++sG ps p q:=by unfold mC;rw[Wt];simp
theorem aN5(ps:List (HS K))(p q:HS K):(sG ps p q).length<=2:=by
 unfold sG;split
 ·exact bF _
 ·exact lY _
theorem WJ(ps:List (HS K))(p:HS K):∀ l:List (HS K),(mC ps p l).length<=2*l.length
 |[]=>lY _
 |q::l=>by have h1:=WJ ps p l;have h2:=aN5 ps p q;show(sG ps p q++mC ps p l).length<=_;rw[lH,qd];omega
theorem sH(l:List (V3 K)):(aP l).length=l.length*30:=by unfold aP;rw[uW gS,eO]
theorem QN(l m:List (V3 K)):aP l++aP m=aP (l++m):=by unfold aP cW;rw[vA,Mg]
theorem Mm(l:List (V3 K)):∀ v∈aP l,v.oneCell'=true:=λv hv=>by unfold aP cW dB at hv;rw[xk]at hv;obtain⟨x,_,hx⟩:=hv;exact gS.one x v hx
section
variable{Bs:aa}{ps:List (HS K)}
def Mn(n i j L:Nat):aU:=[(21,vI j),(19,sl 0 i),(20,vI i),(0,sl 0 n),(5,aV 2),(3,sl 3 L)]
def A5(ps:List (HS K))(p:HS K):aL:=[(0,.view (bf ps)),(2,.aI (db p).cs 73)]
def nV(acc:List (V3 K)):List Obj:=[.row (aP acc) 33 30]
theorem aN6{q:HS K}(hj:j<i)(mB:i<=ps.length)(hq:ps[j]?=some q)(cq:∀ p∈ps,bP m p)(hp:bP m p)(hm:10000000*(m+10)<=aF)(h63:ps.length<1000)(WK:acc.length<=1000000)(mQ:eL p q≠0->dot (eL p q) (eL p q)≠0):
  ∃ σ gG,(∀ C0:List (V3 K),D2 (A5 ps p++eg [some 1] (nV C0)) 3 σ (Mn ps.length i (j+1) (acc++sG ps p q).length) (A5 ps p) (nV (acc++sG ps p q))=true)/\
   ah prog Bs 42 (aK (ai f117 2)) (Mn ps.length i j acc.length) (A5 ps p++marks 3 (nV acc)) 4 ⟨.normal,ij 3 σ (Mn ps.length i (j+1) (acc++sG ps p q).length),A5 ps p++eg σ (nV (acc++sG ps p q)),gG⟩:=by
 have he:=aNV cq hp (cq q (cM hq)) hm o_ mQ;unfold sG;cases hk:G6 ps p q with
 |none=>
  rw[hk]at he;dsimp only at he ⊢;rw[jZ];refine⟨[some 3],5,λC0=>k_,?_⟩;exact aG [.lt 22 j i true (aJ hj),.di f117 23 0 i j 40 hj k_,.ld f117 24 73 0 (j*40) (.view (bf ps)) (dK q) rfl (yR hq) k_,.step 29 (az f117 29) [.func (.func 151) #[] #[],sl 0 ps.length,dK p,dK q] [(0,some (.view (bf ps)))] (.tuple #[.slice none 0 0,.bool false]) []
    (dJ he (.w (x:=.view (bf ps)) rfl (dp ps) jt (.p k_ (.p k_ .nil))) (x:=.func 151) k_ k_ k_),.sum 36 j 1 (j+1) rfl o_]
 |some uv=>
  obtain⟨u,v⟩:=uv;rw[hk]at he;dsimp only at he ⊢;have hl:(acc++[u,v]).length=acc.length+2:=by simp
  rw[hl];refine⟨[some 6],7,λC0=>k_,?_⟩;exact aG [.lt 22 j i true (aJ hj),.di f117 23 0 i j 40 hj k_,.ld f117 24 73 0 (j*40) (.view (bf ps)) (dK q) rfl (yR hq) k_,.step 29 (az f117 29) [.func (.func 151) #[] #[],sl 0 ps.length,dK p,dK q] [(5,none),(0,some (.view (bf ps)))] (.tuple #[sl 5 2,.bool true]) [(5,.row (aP [u,v]) 33 30)]
    (WD he (.w (x:=.view (bf ps)) rfl (dp ps) jt (.p k_ (.p k_ .nil))) (x:=.func 151) k_ k_ (dR _) k_ 5),
   .qX f117 35 6 3 acc.length 2 (acc.length+2) 33 30 360 (aP acc) 5 (.row (aP [u,v]) 33 30) (aP (acc++[u,v])) rfl rfl (sH _) (sH _) (QN _ _) (Mm _) d_ (by simp[maxLen];omega) o_ k_,
   .sum 36 j 1 (j+1) rfl o_]
theorem aN7:∀ x∈A5 ps p,fR 3 x.2:=λx hx=>by
 simp only[A5,cE,jR,jS]at hx;rcases hx with rfl|rfl
 ·exact λv hv=>gP (bC.1 (dp ps) v hv)
 ·exact λv hv=>gP (j6.flat _ v hv)
theorem WL:∀ x∈nV acc,fR m x:=λx hx=>by simp only[nV,cE,jR,jS]at hx;subst hx;exact λv hv=>gP (bC.1 (dR acc) v hv)
theorem aN8(mB:i<=ps.length)(cq:∀ p∈ps,bP m p)(hp:bP m p)(hm:10000000*(m+10)<=aF)(h63:ps.length<=500)(WK:acc.length+2*i<=1000000)
  (mQ:∀ p q:HS K,eL p q≠0->dot (eL p q) (eL p q)≠0) :
  ah prog Bs 42 (.block 2 (ai f117 2)) (ij 3 [some 1] (Mn ps.length i 0 acc.length)) (A5 ps p++eg [some 1] (nV acc)) 3
   ⟨.normal,[(3,sl 3 (acc++mC ps p (ps.take i)).length)],A5 ps p++marks 3 (nV (acc++mC ps p (ps.take i))),4⟩:=by
 have hlen:∀ j,j<=i->(acc++mC ps p (ps.take j)).length<=1000000:=λj hj=>by have:=WJ ps p (ps.take j);rw[jV]at this;rw[lH];omega
 have:=rX (P:=prog) (B:=Bs) (N:=42) (b:=aK (ai f117 2)) (next:=3) (p:=1) (r:=⟨.exit 2,[(3,sl 3 (acc++mC ps p (ps.take i)).length)],A5 ps p++marks 3 (nV (acc++mC ps p (ps.take i))),4⟩) i
  (λj=>Mn ps.length i j (acc++mC ps p (ps.take j)).length) (λ_=>A5 ps p) (λj=>nV (acc++mC ps p (ps.take j))) [some 1] (λ_ _=>rfl) (λj _=>⟨aN7,WL⟩) k_ k_
  (λj hj=>by
   have hq:ps[j]?=some ps[j]:=bt o_;have e:acc++mC ps p (ps.take (j+1))=(acc++mC ps p (ps.take j))++sG ps p ps[j]:=by
    rw[uZ,hq,FL]
    congr 1
    exact aN4 _
   obtain⟨σ,gG,h1,h2⟩:=aN6 (Bs:=Bs) (acc:=acc++mC ps p (ps.take j)) hj mB hq cq hp hm o_ (hlen j o_) (mQ p ps[j]);rw[e];exact⟨σ,gG,h1 _,h2⟩)
  (by generalize acc++mC ps p (ps.take i)=a;exact aG [.lt 22 i i false s_]) n_
 have e0:acc++mC ps p (ps.take 0)=acc:=by simp[mC]
 rw[e0]at this;exact cg (id:=2) this
def Mo(ps:List (HS K))(i:Nat):List (V3 K):=match ps[i]? with|some p=>mC ps p (ps.take i)|none=>[]
def nW(ps:List (HS K))(n:Nat):List (V3 K):=(List.range n).flatMap (Mo ps)
theorem QO(h:ps[i]?=some p):Mo ps i=mC ps p (ps.take i):=by unfold Mo;rw[h]
theorem aDE(n:Nat):nW ps (n+1)=nW ps n++Mo ps n:=by unfold nW;rw[Lt,Wt];simp
theorem QP:∀ n,n<=ps.length->(nW ps n).length<=n*(2*ps.length)
 |0,_=>by simp[nW]
 |n+1,h=>by have h1:=QP n o_;have hp:ps[n]?=some ps[n]:=bt o_;have h2:=WJ ps ps[n] (ps.take n);rw[jV]at h2;rw[aDE,QO hp,lH,uI];omega
def QQ(n i L:Nat):aU:=[(12,vI i),(10,sl 0 n),(11,vI n),(0,sl 0 n),(3,sl 1 L)]
def ED(ps:List (HS K)):aL:=[(0,.view (bf ps))]
theorem aN9:∀ x∈ED ps,fR m x.2:=λx hx=>by simp only[ED,cE,jR,jS]at hx;subst hx;exact λv hv=>gP (bC.1 (dp ps) v hv)
theorem aOa(hi:i<ps.length)(jB:ps[i]?=some p)(cq:∀ p∈ps,bP m p)(hm:10000000*(m+10)<=aF)(h63:ps.length<=500)(WK:acc.length+2*i<=1000000)
  (mQ:∀ p q:HS K,eL p q≠0->dot (eL p q) (eL p q)≠0) :
  ah prog Bs 42 (aK (ai f117 0)) (QQ ps.length i acc.length) (ED ps++marks 1 (nV acc)) 2
   ⟨.normal,ij 1 [some 3] (QQ ps.length (i+1) (acc++mC ps p (ps.take i)).length),ED ps++eg [some 3] (nV (acc++mC ps p (ps.take i))),4⟩:=by
 have lo:=aN8 (Bs:=Bs) (acc:=acc) (p:=p) (show i<=ps.length by omega) cq (cq p (cM jB)) hm h63 WK mQ;generalize acc++mC ps p (ps.take i)=a at *;exact aG [.lt 13 i ps.length true (aJ hi),.di f117 15 0 ps.length i 40 hi k_,.ld f117 16 73 0 (i*40) (.view (bf ps)) (dK p) rfl (yR jB) k_,.upto f117 19 0 ps.length i 40 o_ k_,.code 2 _ _ _ _ _ lo,.sum 37 i 1 (i+1) rfl o_]
theorem aOb(cq:∀ p∈ps,bP m p)(hm:10000000*(m+10)<=aF)(h63:ps.length<=500)(mQ:∀ p q:HS K,eL p q≠0->dot (eL p q) (eL p q)≠0):
  ah prog Bs 42 (.block 0 (ai f117 0)) (ij 1 [none] (QQ ps.length 0 0)) (ED ps++eg [none] (nV [])) 1 ⟨.normal,[(3,sl 1 (nW ps ps.length).length)],ED ps++marks 1 (nV (nW ps ps.length)),2⟩:=by
 have:=rX (P:=prog) (B:=Bs) (N:=42) (b:=aK (ai f117 0)) (next:=1) (p:=1) (r:=⟨.exit 0,[(3,sl 1 (nW ps ps.length).length)],ED ps++marks 1 (nV (nW ps ps.length)),2⟩) ps.length
  (λi=>QQ ps.length i (nW ps i).length) (λ_=>ED ps) (λi=>nV (nW ps i)) [none] (λ_ _=>rfl) (λj _=>⟨aN9,WL⟩) k_ k_
  (λi hi=>by have hp:ps[i]?=some ps[i]:=bt hi;have hl:=QP i (by omega:i<=ps.length);have jG:i*(2*ps.length)<=500*1000:=yf o_ o_;refine⟨[some 3],4,k_,?_⟩;rw[aDE,QO hp];exact aOa hi hp cq hm h63 o_ mQ)
  (by generalize nW ps ps.length=a;exact aG [.lt 13 ps.length ps.length false s_]) n_
 exact cg (id:=0) this
end
end
section
open Go Go.RowKit
deriving instance DecidableEq for RI
deriving instance DecidableEq for RN
deriving instance DecidableEq for RV
deriving instance DecidableEq for RP
theorem EE{α:Type}[DecidableEq α]:∀(a b:List α),a.length=b.length->a=b\/∃(e:Nat) (x y:α),a[e]?=some x/\b[e]?=some y/\x≠y/\∀(j:Nat) (u v:α),j<e->a[j]?=some u->b[j]?=some v->u=v
 |[],[],_=>.inl rfl
 |[],_::_,h=>by cases h
 |_::_,[],h=>by cases h
 |x::a,y::b,h=>by
  by_cases lj:x=y
  ·subst lj;rcases EE a b (by simpa using h)with h|⟨e,u,v,h1,h2,h3,h4⟩
   ·exact .inl (by rw[h])
   ·refine .inr ⟨e+1,u,v,by simpa using h1,by simpa using h2,h3,λj p q hj hp hq=>?_⟩;cases j with
    |zero=>simp at hp hq;rw[<-hp,<-hq]
    |succ j=>exact h4 j p q o_ (by simpa using hp) (by simpa using hq)
  ·exact .inr ⟨0,x,y,rfl,rfl,lj,λj u v hj=>by omega⟩
section
variable{Bs:aa}{a b:List RV}
def EF(n i:Nat):aU:=[(13,vI i),(11,sl 0 n),(12,vI n),(0,sl 0 n),(1,sl 1 n)]
def xo(a b:List RV):aL:=[(0,.view (cW a)),(1,.view (cW b))]
noncomputable def aDF{n:Nat}{x y:RV}(hi:i<n)(hx:a[i]?=some x)(hy:b[i]?=some y)(oF:x.Sm)(yU:y.Sm)(ht:(!t)=true↔x=y)(more:bN prog Bs 26):bN prog Bs 26:=
 .lt 14 i n true (aJ hi)::.di f65 18 0 n i 30 hi k_::.ld f65 19 33 0 (i*30) (.view (cW a)) x.v rfl (tQ hx) k_::.di f65 22 1 n i 30 hi k_::.ld f65 23 33 1 (i*30) (.view (cW b)) y.v rfl (tQ hy) k_::
  .step 24 (az f65 24) [x.v,y.v] [] (.bool t) [] (Gx (neg:=false) k_ x y oF yU ht)::more
theorem aDG{n:Nat}{x:RV}(hi:i<n)(hx:a[i]?=some x)(hy:b[i]?=some x)(oF:x.Sm)(h63:n<9223372036854775807):
  ah prog Bs 26 (aK (ai f65 0)) (EF n i) (xo a b) 2 ⟨.normal,EF n (i+1),xo a b,2⟩:=
 aG (aDF (t:=false) hi hx hy oF oF s_ [.sum 25 i 1 (i+1) rfl o_])
theorem aOc{n:Nat}{x y:RV}(hi:i<n)(hx:a[i]?=some x)(hy:b[i]?=some y)(oF:x.Sm)(yU:y.Sm)(bB:x≠y):
  ah prog Bs 26 (aK (ai f65 0)) (EF n i) (xo a b) 2 ⟨.ret,[(4,.bool false)],xo a b,2⟩:=
 aG (aDF (t:=true) hi hx hy oF yU (by simp[bB]) [])
theorem aOd{n:Nat}:ah prog Bs 26 (aK (ai f65 0)) (EF n n) (xo a b) 2 ⟨.exit 0,[],xo a b,2⟩:=
 aG [.lt 14 n n false s_]
theorem aOe(ha:∀ x∈a,x.Sm)(hb:∀ x∈b,x.Sm)(h63:a.length<9223372036854775807):cx prog 65 [.r a.length (cW a),.r b.length (cW b)] (.bool (decide (a=b))):=by
 have aC:([aQ.r a.length (cW a),.r b.length (cW b)].all aQ.ok)=true:=by simp only[eA,e8,aQ.ok,jf gS,iz]
 by_cases hl:a.length=b.length
 ·have bB:(Value.bool (!((a.length:Int)==(b.length:Int))))=.bool false:=by rw[hl];simp
  rcases EE a b hl with h|⟨e,x,y,h1,h2,h3,h4⟩
  ·rw[aJ h];subst h;have lo:∀ B:aa,ah prog B 26 (.block 0 (ai f65 0)) (EF a.length 0) (xo a a) 2 ⟨.normal,[],xo a a,2⟩:=λB=>
    cg (id:=0) (cz a.length (λi=>EF a.length i) (λ_=>xo a a) (λi k _=>Iff.rfl) (λi hi=>by have hx:a[i]?=some a[i]:=bt hi;exact aDG hi hx hx (ha _ (dy hi)) h63) aOd n_)
   exact dF func65 aC 26 (λw=>[.rw 10 _ _ bB,.code 0 _ _ _ _ _ (lo _)])
  ·have cd:a≠b:=λh=>by subst h;rw[h1]at h2;injection h2 with h2;exact h3 h2
   rw[aY cd];have ao:=(eP.1 h1).1;have lo:∀ B:aa,ah prog B 26 (.block 0 (ai f65 0)) (EF a.length 0) (xo a b) 2 ⟨.ret,[(4,.bool false)],xo a b,2⟩:=λB=>
    cg (id:=0) (cz e (λi=>EF a.length i) (λ_=>xo a b) (λi k _=>Iff.rfl) (λi hi=>by have hx:a[i]?=some a[i]:=bt o_;have hy:b[i]?=some b[i]:=bt o_;have:=h4 i _ _ hi hx hy;rw[<-this]at hy;exact aDG o_ hx hy (ha _ (dy _)) h63) (aOc ao h1 h2 (ha _ (cM h1)) (hb _ (cM h2)) h3) n_)
   have CL:([aQ.r a.length (cW a),.r a.length (cW b)].all aQ.ok)=true:=by simp only[eA,e8,aQ.ok,jf gS,iz]
   rw[<-hl]at bB ⊢;exact dF func65 CL 26 (λw=>[.rw 10 _ _ bB,.code 0 _ _ _ _ _ (lo _)])
 ·have cd:a≠b:=λh=>hl (by rw[h]);rw[aY cd];exact dF func65 aC 26 (λw=>[.rw 10 (.bool (!((a.length:Int)==(b.length:Int)))) b_ (by congr 1;simp;omega)])
end
end
section
variable{P:j_}{B:aa}{N:Nat}
theorem aDH{ι:Map}{off:Nat}:∀{l l':al},bY (aM ι) l l'->∀(k:Nat) {cs ct:p_},bY (aM ι) cs.toList ct.toList->
  bY (aM ι) ((l.zipIdx k).foldl (λ(cs:p_) p=>cs.setIfInBounds (off+p.2) p.1) cs).toList ((l'.zipIdx k).foldl (λ(cs:p_) p=>cs.setIfInBounds (off+p.2) p.1) ct).toList
 |_,_,.nil,k,cs,ct,h=>h
 |_,_,.cons (a:=a) (b:=b) cd ht,k,cs,ct,h=>by simp only[List.zipIdx_cons,vF];refine aDH ht (k+1) ?_;simp only[aIQ];exact h.set cd _
theorem QR{ι:Map}{place:Nat->Option (Nat×Nat)}:∀(idx:l_) {vs cX:al} {cs ct r:p_},bY (aM ι) vs cX->bY (aM ι) cs.toList ct.toList->Instr.fill place cs (idx.zip vs)=some r->
  ∃ r',Instr.fill place ct (idx.zip cX)=some r'/\bY (aM ι) r.toList r'.toList
 |[],vs,cX,cs,ct,r,_,hc,h=>by simp only[List.zip_nil_left,Instr.fill]at h ⊢;injection h with h;subst h;exact⟨ct,rfl,hc⟩
 |i::idx,_,_,cs,ct,r,.nil,hc,h=>by simp only[List.zip_nil_right,Instr.fill]at h ⊢;injection h with h;subst h;exact⟨ct,rfl,hc⟩
 |i::idx,_,_,cs,ct,r,.cons (a:=v) (b:=v') hv ht,hc,h=>by
  simp only[List.zip_cons_cons,Instr.fill]at h ⊢;split at h
  ·cases h
  ·rename_i off size hp;have jI:=hv.cells;have bL:v'.cells.size=v.cells.size:=by have:=jI.length;simpa using this.symm
   have gv:ct.size=cs.size:=by have:=hc.length;simpa using this.symm
   split at h
   ·cases h
   ·rename_i qM;rw[bL,gv,au qM];refine QR idx ht ?_ h;have:=aDH (off:=off) jI 0 hc;rw[<-aCv,<-aCv,Array.toList_zipIdx,Array.toList_zipIdx];exact this
def aDI(o:Oper):Option (TypeId×List Nat):=match o.op with
 |.build t parts=>some (t,parts.toList.map (·.1))
 |_=>none
theorem QS{t:TypeId}{idx:l_}(ho:aDI o=some (t,idx)){cells:p_}(hz:∀ it z,P.info? t=some it->it.zero=some z->∀ v∈z.cells.toList,flat v=true)(h:P.built t (idx.zip vs)=some cells):
  cI P B o vs [] (.agg cells) []:=by
 unfold aDI at ho;split at ho
 ·rename_i t' parts ck;injection ho with ho;injection ho with h1 h2;subst h1;subst h2;refine iY.step λι c ρ w aW hm hn=>?_;rw[ck]at aW;have aW:bY (aM ι) vs ((parts.toList.map (·.2)).map ρ):=by simpa[Op.operands]using aW
  have hex:∃ cells',P.built t' ((parts.toList.map (·.1)).zip ((parts.toList.map (·.2)).map ρ))=some cells'/\bY (aM ι) cells.toList cells'.toList:=by
   unfold Program.built at h ⊢;split at h
   ·rename_i it n e hi hu;split at h
    ·rename_i z ie C1 Mp;exact QR _ aW (lE (hz it z hi C1)) h
    ·cases h
   ·rename_i it fields hi hu;split at h
    ·rename_i z places C1 Mp;exact QR _ aW (lE (hz it z hi C1)) h
    ·cases h
   ·cases h
  obtain⟨cells',e1,e2⟩:=hex;refine⟨ι,.agg cells',w,Map.le.refl _,?_,hm,.inl ?_⟩
  ·have:=aM.agg (ι:=ι) e2;simpa using this
  ·have cq:(parts.map λ(i,x)=>(i,ρ x)).toList=(parts.toList.map (·.1)).zip ((parts.toList.map (·.2)).map ρ):=by rw[<-OT parts.toList rfl];simp
   have:=run_build (P:=P) w t' (parts.map λ(i,x)=>(i,ρ x)) cells' (by rw[cq];exact e1);simp only[execOp,ck];simp[this]
 ·cases ho
end
def jg:Value->Option Nat
 |.slice (some a) _ _=>some a.block
 |_=>none
def yV(w w':h_)(b:Nat):Prop:=∀ cs ty f,w.heap[b]?=some (Go.Obj.cells cs ty f)->w'.heap[b]?=some (Go.Obj.cells cs ty f)
theorem WM{o:Nat}(h:yV w w' b)(hc:w.cell? ⟨b,o,none⟩=some u):w'.cell? ⟨b,o,none⟩=some u:=by
 unfold World.cell? at hc ⊢;dsimp only at hc ⊢;split at hc
 ·rename_i cs ty f he;rw[h _ _ _ he];exact hc
 ·cases hc
theorem dr.kept{v:i_}{n:Nat}(h:dr w v n xs)(hs:w.heap.size<=w'.heap.size)(hk:∀ b,jg v=some b->yV w w' b):dr w' v n xs:=by
 rcases h with h|⟨b,o,c,h1,h2,h3,h4⟩
 ·exact .inl h
 ·exact .inr ⟨b,o,c,h1,h2,cH h3 hs,λj u hj=>WM (hk b (by rw[h1];rfl)) (h4 j u hj)⟩
theorem dr.lt{v:i_}{n:Nat}(h:dr w v n xs)(hb:jg v=some b):b<w.heap.size:=by
 rcases h with ⟨h,_⟩|⟨b',o,c,h1,h2,h3,h4⟩
 ·rw[h]at hb;cases hb
 ·rw[h1]at hb;injection hb with hb;subst hb;exact h3
def aw(l:l_):al:=l.map vI
def iV(z:Int):Value:=.int .i64 z
def fY(l:List Int):al:=l.map iV
inductive pd(w:h_):f_->al->Prop
 |nil:pd w [] []
 |cons {i:Int} {l:List Int} {u:i_} {fs:f_} {cs:al}:dr w u l.length (fY l)->flat u=true->pd w fs cs->pd w ((i,l)::fs) (iV i::u::cs)
theorem pd.length{cs:al}(h:pd w fs cs):cs.length=fs.length*2:=by
 induction h with
 |nil=>rfl
 |cons _ _ _ ih=>simp only[qd,ih];omega
theorem pd.kept{cs:al}(h:pd w fs cs)(hs:w.heap.size<=w'.heap.size)(hk:∀ u∈cs,∀ b,jg u=some b->yV w w' b):pd w' fs cs:=by
 induction h with
 |nil=>exact .nil
 |cons h1 h2 _ ih=>exact .cons (h1.kept hs (hk _ (bK _ (aR ..)))) h2 (ih λu hu=>hk u (bK _ (bK _ hu)))
theorem pd.lt{cs:al}(h:pd w fs cs):∀ u∈cs,∀ b,jg u=some b->b<w.heap.size:=by
 induction h with
 |nil=>intro u hu;cases hu
 |cons h1 _ _ ih=>
  intro u hu b hb;rcases cE.1 hu with rfl|hu
  ·cases hb
  ·rcases cE.1 hu with rfl|hu
   ·exact h1.lt hb
   ·exact ih u hu b hb
def Mq(w:h_)(v:i_)(fs:f_):Prop:=∃ cs,dr w v fs.length cs/\pd w fs cs
def QT(n:Nat)(v:i_)(w:h_)(k:Nat):Prop:=
 jg v=some k\/∃ b o c j u,v=.slice (some ⟨b,o,none⟩) n c/\j<n*2/\w.cell? ⟨b,o+j,none⟩=some u/\jg u=some k
theorem QU{v:i_}{cs:al}(h1:dr w v fs.length cs)(h2:pd w fs cs){o c:Nat}(hv:v=.slice (some ⟨b,o,none⟩) fs.length c)(hj:j<fs.length*2)(hu:w.cell? ⟨b,o+j,none⟩=some u):u∈cs:=by
 rcases h1 with ⟨h,_⟩|⟨b',o',c',e,_,_,h4⟩
 ·rw[h]at hv;cases hv
 ·rw[e]at hv;injection hv with hv _ _;injection hv with hv;injection hv with e1 e2 _;subst e1;subst e2;have ao:j<cs.length:=by rw[h2.length];exact hj
  have oC:cs[j]?=some cs[j]:=bt ao;have:=h4 j _ oC;rw[hu]at this;injection this with this;rw[this];exact dy ao
theorem aDJ{v:i_}(h:Mq w v fs)(hs:w.heap.size<=w'.heap.size)(hk:∀ k,QT fs.length v w k->yV w w' k):
  Mq w' v fs/\∀ k,QT fs.length v w' k->QT fs.length v w k:=by
 obtain⟨cs,h1,h2⟩:=h;have Jo:∀ b,jg v=some b->yV w w' b:=λb hb=>hk b (.inl hb);have QV:∀ u∈cs,∀ b,jg u=some b->yV w w' b:=λu hu b hb=>by
  rcases h1 with ⟨_,_,h⟩|⟨b',o',c',e,_,_,h4⟩
  ·rw[h]at hu;cases hu
  ·obtain⟨j,hj,rfl⟩:=lA hu;refine hk b (.inr ⟨b',o',c',j,_,e,by rw[<-h2.length];exact hj,h4 j _ (bt hj),hb⟩)
 refine⟨⟨cs,h1.kept hs Jo,h2.kept hs QV⟩,λk hF=>?_⟩;rcases hF with hF|⟨b,o,c,j,u,e,hj,hc,hb⟩
 ·exact .inl hF
 ·have:=QU (h1.kept hs Jo) (h2.kept hs QV) e hj hc;rcases h1 with ⟨h,_⟩|⟨b',o',c',e',_,_,h4⟩
  ·rw[h]at e;cases e
  ·rw[e']at e;injection e with e1 _ e3;injection e1 with e1;injection e1 with e1 e2 _;subst e1;subst e2;subst e3;have ao:j<cs.length:=by rw[h2.length];exact hj
   have h5:=h4 j _ (bt ao);have h6:=WM (Jo b' (by rw[e'];rfl)) h5;rw[hc]at h6;injection h6 with h6;exact .inr ⟨b',o',c',j,u,e',hj,by rw[h6];exact h5,hb⟩
def jC(fs:f_):Fact where
 G v w:=Mq w v fs
 cY v w k:=QT fs.length v w k
 lt v w k h hF:=by
  obtain⟨cs,h1,h2⟩:=h;rcases hF with hF|⟨b,o,c,j,u,e,hj,hc,hb⟩
  ·exact h1.lt hF
  ·exact h2.lt u (QU h1 h2 e hj hc) k hb
 dep v w w' h hs hk:=aDJ h hs λk hF cs ty f hc=>(hk k hF).trans hc
 soft _ v w w' h hs hk:=aDJ h hs hk
theorem aDK(l:List Int):(fY l).all flat=true:=by rw[bC];intro v hv;obtain⟨z,_,rfl⟩:=df.1 hv;rfl
theorem G8(cells:al)(i:Nat):dU prog 3 cells i=cells[i]?:=by kernel_rfl
theorem QW{l:List Int}(h:l[i]?=some z):dU prog 3 (fY l) i=some (iV z):=by rw[G8];show(l.map iV)[i]?=_;rw[wJ,h];rfl
section
variable{Bs:aa}{a b:List Int}
def EG(n i:Nat):aU:=[(13,vI i),(11,sl 0 n),(12,vI n),(0,sl 0 n),(1,sl 1 n)]
def xq(a b:List Int):aL:=[(0,.view (fY a)),(1,.view (fY b))]
noncomputable def aDL{n:Nat}{x y:Int}(hi:i<n)(hx:a[i]?=some x)(hy:b[i]?=some y)(ht:(!(x==y))=t)(more:bN prog Bs 26):bN prog Bs 26:=
 .lt 14 i n true (aJ hi)::.ix f64 18 0 n i hi k_::.ld f64 19 3 0 i (.view (fY a)) (iV x) rfl (QW hx) k_::.ix f64 22 1 n i hi k_::.ld f64 23 3 1 i (.view (fY b)) (iV y) rfl (QW hy) k_::
  .rw 24 (.bool (!(x==y))) (.bool t) (by rw[ht])::more
theorem aDM{n:Nat}{x:Int}(hi:i<n)(hx:a[i]?=some x)(hy:b[i]?=some x)(h63:n<9223372036854775807):
  ah prog Bs 26 (aK (ai f64 0)) (EG n i) (xq a b) 2 ⟨.normal,EG n (i+1),xq a b,2⟩:=
 aG (aDL (t:=false) hi hx hy s_ [.sum 25 i 1 (i+1) rfl o_])
theorem aOf{n:Nat}{x y:Int}(hi:i<n)(hx:a[i]?=some x)(hy:b[i]?=some y)(bB:x≠y):
  ah prog Bs 26 (aK (ai f64 0)) (EG n i) (xq a b) 2 ⟨.ret,[(4,.bool false)],xq a b,2⟩:=
 aG (aDL (t:=true) hi hx hy (by simp[bB]) [])
theorem aOg{n:Nat}:ah prog Bs 26 (aK (ai f64 0)) (EG n n) (xq a b) 2 ⟨.exit 0,[],xq a b,2⟩:=
 aG [.lt 14 n n false s_]
theorem aOh(h63:a.length<9223372036854775807):cx prog 64 [.r a.length (fY a),.r b.length (fY b)] (.bool (decide (a=b))):=by
 have aC:([aQ.r a.length (fY a),.r b.length (fY b)].all aQ.ok)=true:=by simp only[eA,e8,aQ.ok,aDK,iz]
 by_cases hl:a.length=b.length
 ·have bB:(Value.bool (!((a.length:Int)==(b.length:Int))))=.bool false:=by rw[hl];simp
  rcases EE a b hl with h|⟨e,x,y,h1,h2,h3,h4⟩
  ·rw[aJ h];subst h;have lo:∀ B:aa,ah prog B 26 (.block 0 (ai f64 0)) (EG a.length 0) (xq a a) 2 ⟨.normal,[],xq a a,2⟩:=λB=>
    cg (id:=0) (cz a.length (λi=>EG a.length i) (λ_=>xq a a) (λi k _=>Iff.rfl) (λi hi=>by have hx:a[i]?=some a[i]:=bt hi;exact aDM hi hx hx h63) aOg n_)
   exact dF func64 aC 26 (λw=>[.rw 10 _ _ bB,.code 0 _ _ _ _ _ (lo _)])
  ·have cd:a≠b:=λh=>by subst h;rw[h1]at h2;injection h2 with h2;exact h3 h2
   rw[aY cd];have ao:=(eP.1 h1).1;have lo:∀ B:aa,ah prog B 26 (.block 0 (ai f64 0)) (EG a.length 0) (xq a b) 2 ⟨.ret,[(4,.bool false)],xq a b,2⟩:=λB=>
    cg (id:=0) (cz e (λi=>EG a.length i) (λ_=>xq a b) (λi k _=>Iff.rfl) (λi hi=>by have hx:a[i]?=some a[i]:=bt o_;have hy:b[i]?=some b[i]:=bt o_;have:=h4 i _ _ hi hx hy;rw[<-this]at hy;exact aDM o_ hx hy h63) (aOf ao h1 h2 h3) n_)
   have CL:([aQ.r a.length (fY a),.r a.length (fY b)].all aQ.ok)=true:=by simp only[eA,e8,aQ.ok,aDK,iz]
   rw[<-hl]at bB ⊢;exact dF func64 CL 26 (λw=>[.rw 10 _ _ bB,.code 0 _ _ _ _ _ (lo _)])
 ·have cd:a≠b:=λh=>hl (by rw[h]);rw[aY cd];exact dF func64 aC 26 (λw=>[.rw 10 (.bool (!((a.length:Int)==(b.length:Int)))) b_ (by congr 1;simp;omega)])
end
section
variable{P:j_}{B:aa}{N:Nat}
def aDN(P:j_)(o:Oper):Bool:=match o.op with
 |.binOp .eql t _ _ _=>(match P.underlying t with|some (.slice _)=>true|_=>false)
 |_=>false
theorem aDO(ho:aDN P o=true){n:Nat}(k9:0<n):cI P B o [.slice (some ⟨k,off,some 7⟩) n cc,.slice none 0 0] [] a_ []:=by
 unfold aDN at ho;split at ho
 ·rename_i t x y ty ck;split at ho
  ·rename_i e ht;refine iY.step λι c ρ w aW hm hn=>?_;rw[ck]at aW;obtain⟨u,v,QX,hu,hv⟩:=jH aW;have QX:ρ x=u/\ρ y=v:=by simpa[Op.operands]using QX
   have rP:=hv.fH rfl;rcases hu.iM rfl with ⟨_,h0,_⟩|⟨b,oo,cap,c',hb,lF,nK,he⟩
   ·omega
   ·refine⟨ι,.bool false,w,Map.le.refl _,.same rfl,hm,.inl ?_⟩;simp only[execOp,ck,QX.1,QX.2,he,rP];have h2:=Lib.run_eql_slice_nil (P:=P) w t e (some ⟨b,oo+off,none⟩) n c' 0 0 ht;simp only[Option.isNone_some]at h2;simp[eqGuard,h2]
  ·cases ho
 ·cases ho
end
abbrev bz:Nat:=16777216
theorem nD(l:l_):∀ u∈aw l,flat u=true:=λu hu=>by obtain⟨x,_,rfl⟩:=df.1 hu;rfl
theorem iU(l:l_):(aw l).all flat=true:=bC.2 (nD l)
theorem oG(l:l_):(aw l).length=l.length:=by simp[aw]
theorem eB{l:l_}{x:Nat}(h:l[i]?=some x):dU prog 3 (aw l) i=some (vI x):=by rw[G8];simp[aw,h]
theorem QY(cells:al)(i:Nat)(z:Int)(h:i<cells.length):fK prog 3 cells i (.int .i64 z)=some (cells.set i (.int .i64 z)):=by
 have e:fK prog 3 cells i (.int .i64 z)=if(Nat.ble (i+1) cells.length&&true)then some (ju cells i [.int .i64 z])else none:=by kernel_rfl
 rw[e,Tg h];rfl
theorem QZ(l:l_)(i d:Nat):(aw l).set i (vI d)=aw (l.set i d):=by simp[aw,List.map_set]
theorem xt{l:l_}(h:i<l.length):fK prog 3 (aw l) i (vI d)=some (aw (l.set i d)):=by rw[<-QZ];exact QY _ _ _ (by rw[oG];exact h)
theorem Mr(n:Nat):List.replicate n (vI 0)=aw (List.replicate n 0):=by simp[aw]
def cK(a:Nat):al:=aw (ae bz (nd bz a) a)
def j7(a:Nat):aQ:=.r (nd bz a) (cK a)
theorem WN(a:Nat):(cK a).length=nd bz a:=by unfold cK;rw[oG,pB]
theorem tU(a:Nat):(cK a).all flat=true:=iU _
theorem aOi(h:nd bz a=0):cK a=[]:=lG (by rw[WN,h])
theorem aOj{n:Nat}:a/bz^n%bz<bz:=cU _ d_
theorem aOk{n:Nat}(hm:m+1<=n)(ha:a<bz^m)(h63:n<=9223372036854775807):
  ah prog Bs 21 (aK (ai f107 0)) [(0,sl 0 (m+1))] [(0,.view (aw (ae bz n a)))] 1 ⟨.normal,[(0,sl 0 m)],[(0,.view (aw (ae bz n a)))],1⟩:=by
 have hd:a/bz^m%bz=0:=(H9 d_ (cH ha (dj d_ (zY m)))).2 ha;exact aG [.gt 5 (m+1) 0 true s_,.fN 10 (m+1) 1 m rfl o_,.ix f107 11 0 (m+1) m o_ k_,.ld f107 12 3 0 m (.view (aw (ae bz n a))) (vI (a/bz^m%bz)) rfl (eB (eU o_)) k_,.gH 13 (a/bz^m%bz) 0 true (by simp[hd]),.fN 18 (m+1) 1 m rfl o_,.upto f107 19 0 (m+1) m 1 o_ k_]
theorem aOl{n:Nat}(hm:m<=n)(ha:a<bz^m)(hl:m=nd bz a)(h63:n<=9223372036854775807):
  ah prog Bs 21 (aK (ai f107 0)) [(0,sl 0 m)] [(0,.view (aw (ae bz n a)))] 1 ⟨.exit 0,[(0,sl 0 m)],[(0,.view (aw (ae bz n a)))],1⟩:=by
 cases m with
 |zero=>exact aG [.gt 5 0 0 false s_]
 |succ m=>
  have hd:a/bz^m%bz≠0:=λe=>by have:=jK (B:=bz) d_ ((H9 d_ ha).1 e);omega
  exact aG [.gt 5 (m+1) 0 true s_,.fN 10 (m+1) 1 m rfl o_,.ix f107 11 0 (m+1) m o_ k_,.ld f107 12 3 0 m (.view (aw (ae bz n a))) (vI (a/bz^m%bz)) rfl (eB (eU o_)) k_,.gH 13 (a/bz^m%bz) 0 false (by simp[hd])]
theorem aOm{n:Nat}(ha:a<bz^n)(h63:n<=9223372036854775807):
  ah prog Bs 21 (.block 0 (ai f107 0)) [(0,sl 0 n)] [(0,.view (aw (ae bz n a)))] 1 ⟨.normal,[(0,sl 0 (nd bz a))],[(0,.view (aw (ae bz n a)))],1⟩:=by
 have hle:=jK (B:=bz) d_ ha;have ao:=eE (B:=bz) d_ a
 have:=cz (P:=prog) (B:=Bs) (N:=21) (b:=aK (ai f107 0)) (next:=1) (n-nd bz a) (λi=>[(0,sl 0 (n-i))]) (λ_=>[(0,.view (aw (ae bz n a)))])
  (r:=⟨.exit 0,[(0,sl 0 (nd bz a))],[(0,.view (aw (ae bz n a)))],1⟩) (λ_ _ _=>Iff.rfl)
  (λi hi=>by
   have e:n-i=(n-(i+1))+1:=by omega
   simp only[e];exact aOk o_ (cH ao (dj d_ o_)) h63)
  (by
   have e:n-(n-nd bz a)=nd bz a:=by omega
   simp only[e];exact aOl hle ao rfl h63) n_
 exact cg this
theorem aDP{v:i_}{n:Nat}(hv:dr w v n (aw (ae bz n a)))(ha:a<bz^n)(h63:n<=9223372036854775807):
  Calls prog 107 #[v] w λe w'=>e=.returned (OG v (nd bz a))/\Below w.heap.size w w':=by
 refine mN (Q:=λe w'=>e=.returned (OG v (nd bz a))/\Below w.heap.size w w') mixed func107 [.row v n (aw (ae bz n a))] (λs hs=>by simp at hs;subst hs;exact⟨hv,nD _⟩) 100 (N:=21) k_
  (rs:=[.code 0 _ _ _ _ _ (aOm ha h63)]) (v:=sl 0 (nd bz a)) (ms:=[]) k_ λaB cr v' w' hc hm _ dP=>⟨?_,hm.base⟩
 cases dP with
 |cons h1 _=>
 congr 1
 rcases hc.iM rfl with ⟨q1,q2,_,_,q5⟩|⟨b,o,cap,c',q1,q2,q3,q5⟩<;>rcases h1.iM rfl with ⟨p1,p2,_,_,p5⟩|⟨b2,o2,qK,c2,p1,p2,p3,p5⟩
 ·have p5:v=.slice none 0 0:=p5;rw[q5,p5,q2];rfl
 ·rw[q1]at p1;cases p1
 ·rw[q1]at p1;cases p1
 ·rw[q1]at p1;injection p1 with p1;injection p1 with e1 e2 e3;subst e1;subst e2;subst e3;have p5:v=_:=p5;rw[q5,p5,show c'=c2 by omega];rfl
theorem aDQ{y:m_}(ho:dC o.op=some y){n:Nat}{x:Obj}(hx:x.reads=true)(cV:(x.cells.all flat)=true)(hc:(x.cells.drop off).take n=aw (ae bz n a))(ha:a<bz^n)(h63:n<=9223372036854775807)(zX:n=0->off=0\/True):
  cI prog Bs o [.func (.func 107) #[] #[],.slice (some ⟨k,off,some 7⟩) n 0] [(k,some x)] (.slice (some ⟨k,off,some 7⟩) (nd bz a) 0) []:=by
 refine kj (fi:=[]) (ca:=[]) ho k_ λι c w hm hn args' dP=>?_;obtain⟨v,rfl,h1⟩:=oh dP;have hk:c k=some x:=hn _ (aR ..);have hr:=pA (len:=n) hm hk hx (bC.1 cV) (λh=>h) h1;rw[hc]at hr;refine(aDP hr ha h63).mono ?_
 rintro e w' ⟨rfl,hb⟩
 refine⟨ι,_,rfl,Map.le.refl _,?_,hm.call hb⟩;have e7:=jK (B:=bz) d_ ha;rcases h1.iM rfl with ⟨q1,q2,_,q4,q5⟩|⟨b,oo,cap,c',q1,q2,q3,q5⟩
 ·rw[q5];have:nd bz a=0:=by omega
  dsimp only at q4;rw[this,q4];exact .slcN q1
 ·rw[q5];exact .slc q1 o_ q3
def aZ.EH(fn:Func)(key k n a:Nat)(x:Obj)(hx:x.reads=true)(hc:x.cells=aw (ae bz n a))(ha:a<bz^n)(h63:n<=9223372036854775807)(ho:dC (az fn key).op=some (.func 107)):aZ prog Bs N:=
 .step key (az fn key) [.func (.func 107) #[] #[],sl k n] [(k,some x)] (sl k (nd bz a)) [] (aDQ ho hx (by rw[hc];exact iU _) (by rw[hc,nk,lh (by simp[aw,pB])]) ha h63 (λ_=>.inr trivial))
section
open Go.Sort (flatK putRowK HoldsK putRow putCells Holds mapBlock grow ahead PermIn SortedIn SWO swp)
section
variable{α:Type}[Inhabited α]{enc:α->al}{s:Nat}
omit [Inhabited α] in
theorem aDR(h:sC enc s){l:List α}{x:α}(hx:l[i]?=some x)(hr:r<s):(dB enc l)[i*s+r]?=(enc x)[r]?:=by have e:=Qy h hx;rw[<-e,vx,aA hr,Ft]
theorem aDS(h:sC enc s)(hs:0<s)(d:Array α):(flatK enc s d).toList=dB enc d.toList:=by
 apply Um;intro t;by_cases ht:t<d.size*s
 ·have hi:t/s<d.size:=(jc hs).2 ht;have hr:t%s<s:=cU _ hs;have hx:d.toList[t/s]?=some d[t/s]:=by simp[hi]
  have e:=aDR h hx hr;rw[c7,jM]at e;rw[e];have hl:t%s<(enc d[t/s]).length:=by rw[h.len];exact hr
  have e2:=Go.Sort.get_flatK enc s d t ht;have bL:t<(flatK enc s d).size:=by rw[WO];exact ht
  rw[C2 (flatK enc s d) t bL,C2 d (t/s) hi,C2 (enc d[t/s]) (t%s) hl]at e2;rw[Array.getElem?_toList,z7 bL,e2,bt hl]
 ·rw[BP (by simp;omega),BP (by rw[uW h];simp;omega)]
def aDT(P:j_)(f:FuncId)(g:i_)(enc:α->al)(s:Nat)(lt:α->α->Bool)(l:List α):Prop:=
 ∀(aI cap:Nat) (w:h_),HoldsK enc s w aI 0 l.toArray->aI<w.heap.size->Calls P f #[.slice (some ⟨aI,0,none⟩) l.length cap,g] w λe w'=>
  e=.returned (.tuple #[])/\∃ d' n os,PermIn 0 l.length l.toArray d'/\SortedIn lt 0 l.length d'/\w'=Go.Proofs.sortWorldK enc s w aI 0 n d' os
theorem aOn{g:FuncId}{cf:α->α->Int}(h:∀ x y:α,aH P g [.agg (enc x).toArray,.agg (enc y).toArray] (.int .i64 (cf x y)))(aI off size:Nat)(w:h_):Go.Proofs.CmpLays P g #[] enc s cf aI off size w:=by
 intro m os dk _ x y;refine(h x y _).mono ?_
 rintro e w' ⟨rfl,hb⟩
 generalize Go.Proofs.sortWorldK enc s w aI off m dk os=W at *;refine⟨rfl,w'.drawn-W.drawn,w'.heap.extract W.heap.size w'.heap.size,?_⟩;obtain⟨heap,tape,drawn,osW,out⟩:=W;obtain⟨aOo,aW5,aW6,os',aW7⟩:=w';obtain⟨⟨h1,h2⟩,h3,h4,h5,h6⟩:=hb;dsimp only at h1 h2 h3 h4 h5 h6;subst h1;subst h3;subst h4;unfold grow World.drewN;dsimp only
 congr 1
 ·apply Array.ext_getElem?;intro k;by_cases hk:k<heap.size
  ·rw[h6 k hk,aDU hk]
  ·rw[Array.getElem?_append_right o_,Array.getElem?_extract];by_cases fX:k<aOo.size
   ·rw[aA o_];congr 1;omega
   ·rw[au o_,ZY o_]
 ·omega
theorem aOp{g:i_}{lt:α->α->Bool}{l l':List α}{x:m_}(h:sC enc s)(hs:0<s)(hso:aDT P f g enc s lt l)(hg:flat g=true)(ho:dC o.op=some x)(fq:gW P f=true)(k:Nat)
  (aOq:l=[]->aH P f [.slice none 0 0,g] (.tuple #[])) (cD:∀ d:List α,d.Perm l->(∀ i j,i<j->j<d.length->∀ x y,d[i]?=some x->d[j]?=some y->lt y x=false)->d=l') :
  cI P B o [.func (.func f) #[] #[],.slice (some ⟨k,0,some 7⟩) l.length 0,g] [(k,some (.row (dB enc l) ty s))] (.tuple #[]) [(k,.row (dB enc l') ty s)]:=by
 refine kj (fi:=[]) (ca:=[]) ho fq λι c w hm hn args' dP=>?_;obtain⟨v,u,rfl,h1,h2⟩:=jH (by simpa using dP);have hu:=h2.fH hg;subst hu;have hk:=hn (k,_) (aR ..);rcases h1.iM rfl with ⟨q1,q2,_,_,q5⟩|⟨b,oo,cap,c',q1,q2,q3,q5⟩
 ·have hl:l=[]:=lG q2;subst hl;have e:l'=[]:=(cD [] (.refl _) λi j _ hj=>by simp at hj).symm;subst e;rw[q5];refine(aOq rfl w).mono ?_
  rintro e w' ⟨rfl,hb⟩
  refine⟨ι,_,rfl,Map.le.refl _,.same rfl,((hm.call hb).ext λj=>?_)⟩;show bA c k _ j=c j;unfold bA;by_cases hj:j=k
  ·rw[aA hj,hj];exact hk.symm
  ·rw[au hj]
 ·obtain⟨lo,p1,p2⟩:=hm.born k _ hk;dsimp only at q1;rw[q1]at p1;injection p1 with p1;subst p1;rcases p2 with p2|⟨b',aT,cur,e1,mY,dV,gv,jI⟩
  ·cases p2.1
  injection e1 with e1 e2 e3;subst e1;subst e2;subst e3;have gD:=(hm.own k _ b 0 cap hk rfl q1).1;have aDV:cur.toList.take (dB enc l).length=dB enc l:=oj jI (Mh h l);have hlen:(dB enc l).length=l.length*s:=uW h l;have hle:l.length*s<=cur.size:=by have:=cS List.length aDV;rw[jV,hlen]at this;simp at this;omega
  have nL:(flatK enc s l.toArray).toList=dB enc l:=aDS h hs l.toArray;have hold:HoldsK enc s w b 0 l.toArray:=by
   intro j hj;rw[WO]at hj;simp only[NY]at hj;have Q0:j<cur.size:=by omega
   have bL:j<(flatK enc s l.toArray).size:=by rw[WO];simpa using hj
   have e:cur[j]=(flatK enc s l.toArray)[j]:=by
    have e1:(cur.toList.take (dB enc l).length)[j]?=(dB enc l)[j]?:=by rw[aDV]
    rw[vx,aA (by rw[hlen];exact hj),<-nL]at e1;rw[Array.getElem?_toList,Array.getElem?_toList,z7 Q0,z7 bL]at e1;injection e1
   refine⟨?_,?_⟩
   ·rw[C2 _ j bL];simp[World.cell?,mY,Q0,e]
   ·simp[World.frozen?,mY]
  rw[q5];refine(hso b c' w hold gD).mono ?_
  rintro e w' ⟨rfl,d',n,os,hp,WQ,rfl⟩
  obtain⟨jk,Fz,hp3⟩:=hp;have PE:d'.toList=l':=by
   refine cD _ ?_ λi j mX hj x y hx hy=>?_
   ·have e1:d'.extract 0 l.length=d':=by rw[<-NY,<-jk];exact Array.extract_size
    have e2:l.toArray.extract 0 l.length=l.toArray:=by rw[<-NY];exact Array.extract_size
    rw[e1,e2]at hp3;simpa using hp3
   ·have gU:j<d'.size:=by simpa using hj
    have hz:d'.size=l.length:=by rw[jk];simp
    have:=WQ i j (lY _) mX o_;rw[C2 d' i o_,C2 d' j gU]at this;rw[Array.getElem?_toList,z7 o_]at hx;rw[Array.getElem?_toList,z7 gU]at hy;injection hx with hx;injection hy with hy;rw[hx,hy]at this;exact this
  have hz:d'.size=l.length:=by rw[jk];simp
  have Ct:l'.length=l.length:=by rw[<-PE];simpa using hz
  refine⟨ι,_,rfl,Map.le.refl _,.same rfl,?_⟩;have Ca:(flatK enc s d').toList=dB enc l':=by rw[aDS h hs,PE]
  have hF:(flatK enc s d').size=l.length*s:=by rw[WO,hz]
  show aO B ι (bA c k (.row (dB enc l') ty s)) _;have hW:(Go.Proofs.sortWorldK enc s w b 0 n d' os).heap=w.heap.modify b (Go.Sort.onCells (putCells id 0 (flatK enc s d')))++os:=rfl;have aOr:(Go.Proofs.sortWorldK enc s w b 0 n d' os).heap[b]?=some (.cells (putCells id 0 (flatK enc s d') cur) ty (0,0)):=by rw[hW,aDU (by simpa using gD),Zt,aA rfl,mY];rfl
  have hcz:(putCells id 0 (flatK enc s d') cur).size=cur.size:=by simp[putCells]
  refine hm.write hk rfl q1 ⟨rfl,KT _ _⟩ rfl rfl ?_ (λj hj F0=>?_) (.inr ⟨b,cap,_,rfl,aOr,dV,by rw[hcz,gv],?_⟩) n_ rfl
  ·rw[hW];simp
  ·rw[hW,aDU (by simpa using hj),Zt,au (λe=>F0 e.symm)]
  ·have e:(putCells id 0 (flatK enc s d') cur).toList.take (dB enc l').length=dB enc l':=by
    rw[uW h,Ct,<-Ca];apply Um;intro j;rw[vx];by_cases hj:j<l.length*s
    ·rw[aA hj];have Q0:j<cur.size:=by omega
     have bL:j<(flatK enc s d').size:=by rw[hF];exact hj
     rw[Array.getElem?_toList,Array.getElem?_toList,z7 bL];unfold putCells;rw[Array.getElem?_mapIdx,z7 Q0];simp only[SX,H7,id_eq];rw[aA ⟨lY _,by rw[hF];omega⟩,C2 _ j bL]
    ·rw[au hj,BP (by simp[hF];omega)]
   rw[e];exact lE (Mh h l')
end
end
section
variable{P:j_}{B:aa}{N:Nat}
def Q1(P:j_)(o:Oper):Option (TypeId×Nat×Value):=match o.op with
 |.call c=>match c.callee,c.args.toList,c.argTypes.toList with
  |.builtin .clear,[_],[t]=>(match P.underlying t with
   |some (.slice e)=>(match P.info? e with|some i=>(match i.zero with|some z=>some (e,i.size,z)|none=>none)|none=>none)
   |_=>none)
  |_,_,_=>none
 |_=>none
theorem aOs{s:Nat}{z:i_}(ho:Q1 P o=some (e,s,z)):∃ x t i,o.op=.call { callee:=.builtin .clear,args:=#[x],argTypes:=#[t]}/\P.underlying t=some (.slice e)/\P.info? e=some i/\i.zero=some z/\i.size=s:=by
 unfold Q1 at ho;split at ho
 ·rename_i c ck;split at ho
  ·rename_i x t h1 h2 h3;split at ho
   ·rename_i e' ht;split at ho
    ·rename_i i hi;split at ho
     ·rename_i z' hz;injection ho with ho;injection ho with q1 ho;injection ho with q2 q3;subst q1;subst q2;subst q3;refine⟨x,t,i,?_,ht,hi,hz,rfl⟩;rw[ck];obtain⟨ce,ar,at'⟩:=c;dsimp only at h1 h2 h3;subst h1;have e1:ar=#[x]:=by rw[<-yL (xs:=ar),h2]
      have e2:at'=#[t]:=by rw[<-yL (xs:=at'),h3]
      rw[e1,e2]
     ·cases ho
    ·cases ho
   ·cases ho
  ·cases ho
 ·cases ho
theorem aOt{s:Nat}{z:i_}(ho:Q1 P o=some (e,s,z))(h1:∀ v∈z.cells.toList,v.oneCell'=true/\flat v=true){n:Nat}{cells new:al}(hn:0<n)(hlen:off+n*z.cells.size<=cells.length)
  (lX:ju cells off (Builtin.zeroCells z.cells n).toList=new):cI P B o [.slice (some ⟨k,off,some 7⟩) n cc] [(k,some (.row cells e s))] (.tuple #[]) [(k,.row new e s)]:=by
 subst lX;obtain⟨x,t,i,ck,ht,hi,hz,rfl⟩:=aOs ho;refine iY.step λι c ρ w aW hm pr=>?_;have hk:c k=some (.row cells e i.size):=pr _ (aR ..);rw[ck]at aW;obtain⟨u,hu,hc⟩:=oh aW;have hu:ρ x=u:=by simpa[Op.operands,Call.operands]using hu
 rcases hc.iM rfl with ⟨_,q2,_⟩|⟨b,oo,cap,c',hb,lF,nK,he⟩
 ·omega
 dsimp only at hb he;have Ct:((Builtin.zeroCells z.cells n).toList).length=n*z.cells.size:=by rw[zT,NU]
 have Jp:∀ v∈(Builtin.zeroCells z.cells n).toList,v.oneCell'=true/\flat v=true:=by
  intro v hv;unfold Builtin.zeroCells at hv;rw[Array.toList_map,df]at hv;obtain⟨j,hj,rfl⟩:=hv;have hjs:j<n*z.cells.size:=by simpa using hj
  have h0:0<z.cells.size:=by
   rcases ow z.cells.size with h|h
   ·rw[h]at hjs;omega
   ·exact h
  rw[C2 z.cells _ (cU _ h0)];exact h1 _ s_
 obtain⟨h0,bW,ct,ty,mY,vy⟩:=hm.store hk rfl hb (lE λv hv=>(Jp v hv).2) (o:=off) (by rw[Ct];exact hlen);subst h0;rw[kT]at he;refine⟨ι,.tuple #[],_,Map.le.refl _,.same rfl,bW,.inl ?_⟩
 have run:=run_storeCells_cells (P:=P) b off (Builtin.zeroCells z.cells n).toList 0 w
  (λj hj=>by
   have:j+off<ct.length:=by omega
   simp[World.cell?,mY];omega)
  (λj hj=>by simp[World.frozen?,mY]) λv hv=>(Jp v hv).1
 simp only[jv]at run;obtain⟨m,rfl⟩:∃ m,n=m+1:=⟨n-1,by omega⟩;have iN:(Builtin.clear_ #[t] o.type #[.slice (some ⟨b,off,none⟩) (m+1) c']).run P w=.ok (.tuple #[]) (w.setCells b off (Builtin.zeroCells z.cells (m+1)).toList):=by simp[Builtin.clear_,jX ht,zeroValue,typeInfo,hi,hz,run]
 simp[execOp,ck,resolve,invoke,builtin,hu,he,iN]
theorem aOu{enc:α->al}{s:Nat}(h:sC enc s){x:α}{z:p_}(hz:z.toList=enc x)(hs:0<s)(n:Nat):(Builtin.zeroCells z n).toList=dB enc (List.replicate n x):=by
 have bL:z.size=s:=by rw[<-zT,hz,h.len]
 apply Um;intro t;by_cases ht:t<n*s
 ·have hi:t/s<n:=(jc hs).2 ht;have hr:t%s<s:=cU _ hs;have e:=aDR h (l:=List.replicate n x) (i:=t/s) (x:=x) (by simp[hi]) hr;rw[c7,jM]at e;rw[e,<-hz];unfold Builtin.zeroCells;rw[Array.toList_map,wJ];have:(Array.range (n*z.size)).toList[t]?=some t:=by rw[bL];simp[ht]
  rw[this,SX,bL,C2 z _ o_,Array.getElem?_toList,z7 o_]
 ·rw[BP (by rw[zT,NU,bL];omega),BP (by rw[uW h];simp;omega)]
def aZ.qx(fn:Func)(key k a n cc i j s:Nat)(hi:i<n)(hj:a+i=j)(ho:xY P (az fn key)=some s):aZ P B N:=
 .step key (az fn key) [.slice (some ⟨k,a*s,some 7⟩) n cc,vI i] [] (.pointer (some ⟨k,j*s,some 7⟩)) [] (by have:=Oq (B:=B) ho (k:=k) (off:=a*s) (cc:=cc) (kd:=.i64) hi;rw[<-fZ,hj]at this;exact this)
def aZ.behind(fn:Func)(key k n a m s:Nat)(hm:a+m=n)(h0:0<m)(ho:th P (az fn key)=some (true,false,s)):aZ P B N:=
 .step key (az fn key) [.slice (some ⟨k,0,some 7⟩) n 0,vI a] [] (.slice (some ⟨k,a*s,some 7⟩) m a) [] (by have:=H8 (B:=B) ho (k:=k) (off:=0) (n:=n) (cc:=0) (l:=a) (h:=n) n_ (λ_=>rfl) o_ (bF _) (.inl o_);rw[show n-a=m by omega]at this;simpa using this)
def aZ.clear(fn:Func)(key k off n cc e s:Nat)(z:i_)(cells new:al)(h1:∀ v∈z.cells.toList,v.oneCell'=true/\flat v=true)(hn:0<n)(hlen:off+n*z.cells.size<=cells.length)(lX:ju cells off (Builtin.zeroCells z.cells n).toList=new)
  (ho:Q1 P (az fn key)=some (e,s,z)):aZ P B N:=
 .step key (az fn key) [.slice (some ⟨k,off,some 7⟩) n cc] [(k,some (.row cells e s))] (.tuple #[]) [(k,.row new e s)] (aOt ho h1 hn hlen lX)
end
def aa.jU(B:aa)(ks:List (Value×al)):aa where
 G w:=B.G w/\∀ p∈ks,dr w p.1 p.2.length p.2
 cY k:=B.cY k\/∃ p∈ks,jg p.1=some k
 ds:=B.ds
 Fa:=B.Fa
 mp:=B.mp
 lt w k h hk:=by
  rcases hk with hk|⟨p,hp,hb⟩
  ·exact B.lt w k h.1 hk
  ·exact(h.2 p hp).lt hb
 dep w w' h h1 h2 h3 h4 h5:=⟨B.dep w w' h.1 h1 h2 h3 h4 λk hk=>h5 k (.inl hk),λp hp=>(h.2 p hp).kept h4 λb hb _ _ _ e=>(h5 b (.inr ⟨p,hp,hb⟩)).trans e⟩
theorem aDW(h:aO B ι c w):aO (B.jU []) ι c w:=
 ⟨⟨h.base,λp hp=>by cases hp⟩,h.dD,h.born,λk x b o cap e hx hl=>⟨(h.own k x b o cap e hx hl).1,λhF=>by
  rcases hF with hF|⟨p,hp,_⟩
  ·exact(h.own k x b o cap e hx hl).2 hF
  ·cases hp⟩,h.inj,h.apart,h.seen,h.fa,h.one,h.pk⟩
theorem Q2(h:aO (B.jU ks) ι c w)(hm:c m=some (.row xs ty 1))(cV:∀ v∈xs,flat v=true)
  (hu:aM ι (.slice (some ⟨m,0,some 7⟩) xs.length 0) u):aO (B.jU ((u,xs)::ks)) ι (bA c m .dead) w/\flat u=true/\∀ b,jg u=some b->¬B.cY b:=by
 have jW:=pA (len:=xs.length) h hm rfl cV (λe=>e) hu;have jW:dr w u xs.length xs:=by
  have e:((Obj.row xs ty 1).cells.drop 0).take xs.length=xs:=by rw[nk];exact oD
  rwa[e]at jW
 have hk:=h.kill m (by rw[hm];exact n_);have hb:∀ b,jg u=some b->∃ o cap,ι m=some (.at b o cap):=by
  intro b hb;rcases hu.iM rfl with ⟨_,_,_,_,q5⟩|⟨b',oo,cap,c',q1,_,_,q5⟩
  ·rw[q5]at hb;cases hb
  ·rw[q5]at hb;injection hb with hb;subst hb;exact⟨oo,cap,q1⟩
 have de:∀ j z,j≠m->bA c m .dead j=some z->c j=some z:=λj z hj e=>by unfold bA at e;rwa[au hj]at e
 refine⟨⟨⟨h.base.1,λp hp=>?_⟩,hk.dD,hk.born,λk x b o cap e hx hl=>⟨(hk.own k x b o cap e hx hl).1,λhF=>?_⟩,hk.inj,hk.apart,hk.seen,hk.fa,hk.one,hk.pk⟩,?_,λb hbu hF=>?_⟩
 ·rcases cE.1 hp with rfl|hp
  ·exact jW
  ·exact h.base.2 p hp
 ·rcases hF with hF|⟨p,hp,K5⟩
  ·exact(hk.own k x b o cap e hx hl).2 (.inl hF)
  ·rcases cE.1 hp with rfl|hp
   ·obtain⟨o',aT,cD⟩:=hb b K5;by_cases Jq:k=m
    ·subst Jq;unfold bA at e;rw[aA rfl]at e;injection e with e;subst e;cases hx
    ·exact Jq (h.inj k m x _ b o cap o' aT (de k x Jq e) hx hm rfl hl cD)
   ·exact(hk.own k x b o cap e hx hl).2 (.inr ⟨p,hp,K5⟩)
 ·rcases hu.iM rfl with ⟨_,_,_,_,q5⟩|⟨b',oo,cap,c',q1,_,_,q5⟩
  ·rw[q5];rfl
  ·rw[q5];rfl
 ·obtain⟨o,cap,hl⟩:=hb b hbu;exact(h.own m _ b o cap hm rfl hl).2 (.inl hF)
def lB:List (Nat×Nat)->Nat->Option Nat
 |[],_=>none
 |(j,m)::l,k=>if Nat.beq j k then some m else lB l k
def sI(ι:Map)(r:List (Nat×Nat)):Map:=λj=>(lB r j).bind ι
def Mt:List (Nat×Nat)->Bool
 |[]=>true
 |(_,m)::l=>(l.all λp=>!Nat.beq m p.2)&&Mt l
theorem WR:∀{r:List (Nat×Nat)} {j m:Nat},lB r j=some m->(j,m)∈r
 |(i,q)::l,j,m,h=>by
  unfold lB at h;split at h
  ·rename_i hb;injection h with h;subst h;rw[lI hb];exact aR ..
  ·exact bK _ (WR h)
theorem WS:∀{r:List (Nat×Nat)},Mt r=true->∀ i j m:Nat,lB r i=some m->lB r j=some m->i=j
 |(a,q)::l,h,i,j,m,h1,h2=>by
  unfold Mt at h;rw[dc,bC]at h;have ih:=WS h.2;have no:∀ k,lB l k=some q->False:=λk hk=>by have:=h.1 _ (WR hk);simp at this
  unfold lB at h1 h2;split at h1<;>split at h2
  ·rename_i e1 e2;rw[<-lI e1,<-lI e2]
  ·injection h1 with h1;subst h1;exact(no j h2).elim
  ·injection h2 with h2;subst h2;exact(no i h1).elim
  ·exact ih i j m h1 h2
 |[],_,i,j,m,h,_=>by cases h
def Jr(a:Addr):Bool:=match a.spot with|some s=>Nat.beq s 7||Nat.beq s 9|none=>false
def yW(r:List (Nat×Nat)):Value->Value
 |.slice (some ad) n c=>if nI ad then(match lB r ad.block with|some m=>.slice (some ⟨m,ad.off,some 7⟩) n c|none=>.slice (some ad) n c)else .slice (some ad) n c
 |.pointer (some ad)=>if Jr ad then(match lB r ad.block with|some m=>.pointer (some ⟨m,ad.off,ad.spot⟩)|none=>.pointer (some ad))else .pointer (some ad)
 |v=>v
def A6(r:List (Nat×Nat)):Value->Value
 |.func f fi ca=>.func f (fi.toList.map (yW r)).toArray (ca.toList.map (yW r)).toArray
 |v=>yW r v
def G9(r:List (Nat×Nat)):Value->Bool
 |.slice (some ad) _ _=>if nI ad then(lB r ad.block).isSome else nH ad
 |.pointer (some ad)=>if Jr ad then(lB r ad.block).isSome else nH ad
 |v=>flat v&&!nJ v
def A7(r:List (Nat×Nat)):Value->Bool
 |.func _ fi ca=>fi.toList.all (G9 r)&&ca.toList.all (G9 r)
 |v=>G9 r v
theorem aDX{a:Addr}(h:Jr a=true):nH a=false:=by
 unfold Jr at h;unfold nH;cases hs:a.spot with
 |none=>rw[hs]at h;cases h
 |some s=>rfl
theorem aOv{r:List (Nat×Nat)}{v:i_}(h:flat v=true):yW r v=v:=by
 unfold yW;split
 ·rename_i ad n c;split
  ·rename_i ho;have:nH ad=true:=h;rw[SQ ho]at this;cases this
  ·rfl
 ·rename_i ad;split
  ·rename_i ho;have:nH ad=true:=h;rw[aDX ho]at this;cases this
  ·rfl
 ·rfl
theorem aDY{r:List (Nat×Nat)}{v:i_}(aC:G9 r v=true)(h:aM ι (yW r v) v'):aM (sI ι r) v v':=by
 have fl:∀ v:Value,flat v=true->aM ι (yW r v) v'->aM (sI ι r) v v':=λv hv hc=>by rw[aOv hv]at hc;rw[hc.fH hv];exact .same hv
 unfold G9 at aC;split at aC
 ·rename_i ad n c;split at aC
  ·rename_i ho;cases hr:lB r ad.block with
   |none=>rw[hr]at aC;cases aC
   |some m=>
    have u7:yW r (.slice (some ad) n c)=.slice (some ⟨m,ad.off,some 7⟩) n c:=by show(if nI ad=true then(match lB r ad.block with|some m=>Value.slice (some ⟨m,ad.off,some 7⟩) n c|none=>.slice (some ad) n c)else .slice (some ad) n c)=_;rw[aA ho,hr]
    rw[u7]at h;have hm:sI ι r ad.block=ι m:=by unfold sI;rw[hr];rfl
    obtain⟨bl,off,sp⟩:=ad;have wm:=HT ho;dsimp only at wm;subst wm;rcases h.iM rfl with ⟨q1,q2,q3,q4,q5⟩|⟨b,oo,cap,c',q1,q2,q3,q5⟩
    ·dsimp only at q1 q4 hm;rw[q5,q2,q3,q4];exact .slcN (hm.trans q1)
    ·dsimp only at q1 hm q5;rw[q5];exact .slc (hm.trans q1) q2 q3
  ·exact fl _ aC h
 ·rename_i ad;split at aC
  ·rename_i ho;cases hr:lB r ad.block with
   |none=>rw[hr]at aC;cases aC
   |some m=>
    have u7:yW r (.pointer (some ad))=.pointer (some ⟨m,ad.off,ad.spot⟩):=by show(if Jr ad=true then(match lB r ad.block with|some m=>Value.pointer (some ⟨m,ad.off,ad.spot⟩)|none=>.pointer (some ad))else .pointer (some ad))=_;rw[aA ho,hr]
    rw[u7]at h;have hm:sI ι r ad.block=ι m:=by unfold sI;rw[hr];rfl
    obtain⟨bl,off,sp⟩:=ad;dsimp only at hm h;generalize hp:Value.pointer (some ⟨m,off,sp⟩)=p at h;cases h with
    |same hf=>subst hp;have:nH ⟨m,off,sp⟩=true:=hf;rw[aDX (a:=⟨m,off,sp⟩) ho]at this;cases this
    |ptr q=>injection hp with hp;injection hp with hp;injection hp with h1 h2 h3;subst h1;subst h2;subst h3;exact .ptr (hm.trans q)
    |slc q=>cases hp
    |slcN q=>cases hp
    |opq q1 q2 q3=>injection hp with hp;injection hp with hp;injection hp with h1 h2 h3;subst h1;subst h2;subst h3;exact .opq (hm.trans q1) q2 q3
    |fn=>cases hp
    |agg=>cases hp
    |tup=>cases hp
  ·exact fl _ aC h
 ·rw[dc]at aC;exact fl _ aC.1 h
theorem WT{ι:Map}{r:List (Nat×Nat)}:∀{l l':al},(l.all (G9 r))=true->bY (aM ι) (l.map (yW r)) l'->bY (aM (sI ι r)) l l'
 |[],_,_,h=>by cases h;exact .nil
 |v::l,_,aC,h=>by
  rw[eA,dc]at aC;cases h with
  |cons h1 h2=>exact .cons (aDY aC.1 h1) (WT aC.2 h2)
theorem aDZ{r:List (Nat×Nat)}{v:i_}(aC:A7 r v=true)(h:aM ι (A6 r v) v'):aM (sI ι r) v v':=by
 unfold A7 at aC;split at aC
 ·rename_i f fi ca;rw[dc]at aC;obtain⟨kE,dM,rfl,h1,h2⟩:=h.BL;have g1:=WT aC.1 h1;have g2:=WT aC.2 h2;have:=aM.fn (f:=f) g1 g2;simpa using this
 ·rename_i hn;have:A6 r v=yW r v:=by
   unfold A6;split
   ·exact absurd rfl (hn _ _ _)
   ·rfl
  rw[this]at h;exact aDY aC h
theorem aOw(r:List (Nat×Nat)){v:i_}(h:nJ v=false):nJ (A6 r v)=false:=by
 cases v with
 |slice a n c=>
  cases a with
  |none=>rfl
  |some ad=>
   show nJ (if nI ad=true then(match lB r ad.block with|some m=>Value.slice (some ⟨m,ad.off,some 7⟩) n c|none=>.slice (some ad) n c)else .slice (some ad) n c)=false;split
   ·split<;>rfl
   ·rfl
 |pointer a=>
  cases a with
  |none=>rfl
  |some ad=>
   show nJ (if Jr ad=true then(match lB r ad.block with|some m=>Value.pointer (some ⟨m,ad.off,ad.spot⟩)|none=>.pointer (some ad))else .pointer (some ad))=false;split
   ·split<;>rfl
   ·rfl
 |func f fi ca=>rfl
 |_=>exact h
theorem aD0{ι:Map}{r:List (Nat×Nat)}:∀{l l':al},(l.all (A7 r))=true->bY (aM ι) (l.map (A6 r)) l'->bY (aM (sI ι r)) l l'
 |[],_,_,h=>by cases h;exact .nil
 |v::l,_,aC,h=>by
  rw[eA,dc]at aC;cases h with
  |cons h1 h2=>exact .cons (aDZ aC.1 h1) (aD0 aC.2 h2)
def EI(r:List (Nat×Nat)):Obj->Obj
 |.aI cs ty=>.aI (cs.map (A6 r)) ty
 |x=>x
def Js(r:List (Nat×Nat)):Obj->Prop
 |.aI cs _=>(cs.all (A7 r))=true
 |.fact _=>True
 |.dead=>True
 |x=>∀ v∈x.cells,flat v=true
theorem Jt(r:List (Nat×Nat))(x:Obj):(EI r x).owns=x.owns/\(EI r x).kF=x.kF:=by cases x<;>exact⟨rfl,rfl⟩
theorem aOx{l:qc}{r:List (Nat×Nat)}{x:Obj}(aC:Js r x)(h:ke ι w l (EI r x)):ke (sI ι r) w l x:=by
 have fl:∀{cs ct:al},(∀ v∈cs,flat v=true)->bY (aM ι) cs ct->bY (aM (sI ι r)) cs ct:=λhf h=>by rw[oj h hf];exact lE hf
 cases x with
 |aI cells ty=>
  obtain⟨b,ct,e1,e2,e3⟩:=h;exact⟨b,ct,e1,aD0 aC e2,e3⟩
 |row cells ty size=>
  rcases h with h|⟨b,cap,cur,e1,e2,e3,e4,e5⟩
  ·exact .inl h
  ·exact .inr ⟨b,cap,cur,e1,e2,e3,e4,fl aC e5⟩
 |view cells=>
  rcases h with h|⟨b,o,cap,cs,e1,e2,e3⟩
  ·exact .inl h
  ·exact .inr ⟨b,o,cap,cs,e1,fl aC e2,e3⟩
 |fact F=>exact h
 |dead=>trivial
theorem aOy(h:aO B ι c w)(r5:∀ k,B.mp k=none){r:List (Nat×Nat)}{L:aL}(e7:Mt r=true)(kJ:∀ j,ak L j=none↔lB r j=none)
  (hL:∀ j x m,ak L j=some x->lB r j=some m->Js r x/\c m=some (EI r x)):aO B (sI ι r) (ak L) w:=by
 have src:∀ j x,ak L j=some x->∃ m,lB r j=some m/\Js r x/\c m=some (EI r x)/\sI ι r j=ι m:=λj x e=>by
  cases hr:lB r j with
  |none=>rw[(kJ j).2 hr]at e;cases e
  |some m=>
   obtain⟨h1,h2⟩:=hL j x m e hr;exact⟨m,rfl,h1,h2,by unfold sI;rw[hr];rfl⟩
 refine⟨h.base,λk e=>?_,λk x e=>?_,λk x b o cap e hx hl=>?_,λk j x y b o cap o' aT e hx e' hy hl cD=>?_,λk j x F b o cap v e hx hl e' hv=>?_,λk x b o cap e hx hl=>?_,λj F e=>?_,λj k F F' e e' h1 h2=>?_,λk l e=>?_⟩
 ·unfold sI;rw[(kJ k).1 e];rfl
 ·obtain⟨m,_,h2,h3,h4⟩:=src k x e;obtain⟨l,q1,q2⟩:=h.born m _ h3;exact⟨l,h4.trans q1,aOx h2 q2⟩
 ·obtain⟨m,_,_,h3,h4⟩:=src k x e;exact h.own m _ b o cap h3 ((Jt r x).1.trans hx) (h4▸hl)
 ·obtain⟨m,h1,_,h3,h4⟩:=src k x e;obtain⟨m',po,_,Ha,Mu⟩:=src j y e';have:=h.inj m m' _ _ b o cap o' aT h3 ((Jt r x).1.trans hx) Ha ((Jt r y).1.trans hy) (h4▸hl) (Mu▸cD);subst this;exact WS e7 k j m h1 po
 ·obtain⟨m,_,_,h3,h4⟩:=src k x e;obtain⟨m',_,_,Ha,Mu⟩:=src j _ e';exact h.apart m m' _ F b o cap v h3 ((Jt r x).1.trans hx) (h4▸hl) Ha (Mu▸hv)
 ·obtain⟨m,_,_,h3,h4⟩:=src k x e;obtain⟨p1,p2⟩:=h.seen m _ b o cap h3 ((Jt r x).2.trans hx) (h4▸hl);refine⟨p1,λj y o' aT e' hy cD=>?_⟩;obtain⟨m',_,_,Ha,Mu⟩:=src j y e';exact p2 m' _ o' aT Ha ((Jt r y).1.trans hy) (Mu▸cD)
 ·obtain⟨m,_,_,h3,_⟩:=src j _ e;exact h.fa m F h3
 ·obtain⟨m,q1,_,h3,_⟩:=src j _ e;obtain⟨m',BO,_,Ha,_⟩:=src k _ e';have:=h.one m m' F F' h3 Ha h1 h2;subst this;exact WS e7 j k m q1 BO
 ·rw[r5 k]at e;cases e
def St(B:aa)(N:Nat)(fr:aU)(M:aL)(next:Nat)(a:Act)(w:h_):Prop:=∃ ι cc,fp B ι (bM fr) N a/\aO B ι cc w/\cZ cc M/\eG cc next
section
variable{P:j_}{B:aa}{N:Nat}
theorem rE{c:Code}{next:Nat}{r:nh}{a:Act}{Q:Exit->Act->World->Prop}(g:ah P B N c fr M next r)(h:St B N fr M next a w)
  (hQ:∀ a' w',St B N r.fr r.M r.next a' w'->Q r.ex.BV a' w'):c.wpIn (FW none) 0 P Q a w:=by
 obtain⟨ι,cc,h1,h2,h3,h4⟩:=h;exact g none ι cc a w Q h1 h2 h3 h4 λaB cr a' w' _ q2 q3 q4 q5 _ _=>hQ a' w' ⟨aB,cr,q2,q3,q4,q5⟩
theorem aD1{b:Code}{Q:Exit->Act->World->Prop}{a:Act}(n:Nat)(Inv:Nat->Act->World->Prop)(h0:Inv 0 a w)
  (body:∀ i,i<n->∀ a w,Inv i a w->∀ K:Act->World->Prop,(∀ a' w',Inv (i+1) a' w'->K a' w')->b.wpIn (FW none) 0 P (Exit.then K Q) a w)
  (last:∀ a w,Inv n a w->b.wpIn (FW none) 0 P (Exit.then (λ_ _=>False) Q) a w):(Code.loop b).wpIn (FW none) 0 P Q a w:=by
 refine Tz (n+1) ?_;have key:∀ d i,i+d=n->∀ a w,Inv i a w->Code.roundsIn (FW none) 0 P b Q (d+1) a w:=by
  intro d;induction d with
  |zero=>
   intro i hi a w h;have:i=n:=by omega
   subst this;rw[FN];exact last a w h
  |succ d ih=>
   intro i hi a w h;rw[FN];exact body i o_ a w h _ λa' w' h'=>ih (i+1) o_ a' w' h'
 exact key n 0 o_ a w h0
theorem St.Mv{tV:aU}{L:aL}{next:Nat}{a:Act}(h:St B N fr M next a w)(r5:∀ k,B.mp k=none)(r:List (Nat×Nat))(e7:Mt r=true)(kJ:L.map (·.1)=r.map (·.1))
  (aC:∀ p∈L,Js r p.2) (hL:(r.map λp=>ak M p.2)=L.map λp=>some (EI r p.2)) (hLL:(L.map λp=>ak L p.1)=L.map λp=>some p.2) (nL:(tV.all λp=>A7 r p.2)=true) (hs:(tV.map λp=>bM fr p.1)=tV.map λp=>A6 r p.2) (hn:(r.all λp=>Nat.blt p.1 A)=true):St B N tV L A a w:=by
 obtain⟨ι,cc,h1,h2,h3,h4⟩:=h;have hk:∀{L:aL} {r:List (Nat×Nat)},L.map (·.1)=r.map (·.1)->∀ j,ak L j=none↔lB r j=none:=by
  intro L;induction L with
  |nil=>intro r e j;cases r with
   |nil=>exact⟨λ_=>rfl,λ_=>rfl⟩
   |cons p r=>cases e
  |cons q L ih=>intro r e j;cases r with
   |nil=>cases e
   |cons p r=>
    injection e with e1 e2;obtain⟨q1,q2⟩:=q;obtain⟨p1,p2⟩:=p;dsimp only at e1;subst e1;unfold ak lB;cases Nat.beq q1 j with
    |true=>simp
    |false=>simpa using ih e2 j
 have aOz:∀{L:aL} {r':List (Nat×Nat)},L.map (·.1)=r'.map (·.1)->(r'.map λp=>ak M p.2)=L.map (λp=>some (EI r p.2))->∀ j x m,ak L j=some x->lB r' j=some m->ak M m=some (EI r x):=by
  intro L;induction L with
  |nil=>intro r' _ _ j x m e;cases e
  |cons q L ih=>intro r' e e' j x m hx hm;cases r' with
   |nil=>cases e
   |cons p r'=>
    injection e with e1 e2;injection e' with e3 e4;obtain⟨q1,q2⟩:=q;obtain⟨p1,p2⟩:=p;dsimp only at e1 e3;subst e1;unfold ak at hx;unfold lB at hm;cases hb:Nat.beq q1 j with
    |true=>
     rw[hb]at hx hm;simp only[rO]at hx hm;injection hx with hx;injection hm with hm;subst hx;subst hm;exact e3
    |false=>
     rw[hb]at hx hm;simp only[vO,vP]at hx hm;exact ih e2 e4 j x m hx hm
 refine⟨sI ι r,ak L,⟨h1.defers,h1.size,λt=>?_⟩,aOy h2 r5 e7 (hk kJ) (λj x m e hr=>⟨aC _ (kW e),h3 m _ (aOz kJ hL j x m e hr)⟩),λk x e=>e,λk oU=>?_⟩
 ·have bo:∀{tV:aU},(tV.all λp=>A7 r p.2)=true->(tV.map λp=>bM fr p.1)=(tV.map λp=>A6 r p.2)->(nJ (bM tV t)=true)\/(A7 r (bM tV t)=true/\bM fr t=A6 r (bM tV t)):=by
   intro tV;induction tV with
   |nil=>exact λ_ _=>.inl rfl
   |cons p l ih=>
    intro ho he;rw[eA,dc]at ho;injection he with e1 e2;obtain⟨p1,p2⟩:=p;rw[show bM ((p1,p2)::l) t=if Nat.beq p1 t=true then p2 else bM l t from rfl];by_cases hb:Nat.beq p1 t=true
    ·have:=lI hb;subst this;rw[aA hb];exact .inr ⟨ho.1,e1⟩
    ·rw[au hb];exact ih ho.2 e2
  rcases bo nL hs with h|⟨q1,q2⟩
  ·exact .inl h
  ·have uo:=h1.slot t;rw[q2]at uo;have Cy:nJ (A6 r (bM tV t))=false:=by
    refine aOw r ?_;generalize bM tV t=v at *;unfold A7 at q1;split at q1
    ·rfl
    ·unfold G9 at q1;split at q1
     ·rfl
     ·rfl
     ·rw[dc]at q1;simpa using q1.2
   exact .inr (aDZ q1 (uo.BM Cy))
 ·refine(hk kJ k).2 ?_;cases e:lB r k with
  |none=>rfl
  |some m=>
   have:=bC.1 hn _ (WR e);simp at this;omega
theorem aD3{c:Code}{next:Nat}{cc:g_}
  (hf:P.funcs[f]?=some fn) (hb:fn.body=some c) (hN:N=args.length+(fn.ntmps-args.length)) (dP:bY (aM ι) args args') (hm:aO B ι cc w) (ha:cZ cc M) (hu:eG cc next) (nM:B.ds=[])
  (h:∀ a,St B N (jb 0 args) M next a w->c.wpIn (FW none) 0 P (bodyPost P fn Q) a w):Calls P f args'.toArray w Q:=by
 refine calls_of_wp hf hb (aAp (h _ ⟨ι,cc,⟨nM.symm,by simp[hN,dP.length],λt=>?_⟩,hm,ha,hu⟩));rcases Ol dP 0 t (List.replicate (fn.ntmps-args'.length) undef)with h|h
 ·simp only[lY,rO,H7]at h;have e:(args'.toArray++Array.replicate (fn.ntmps-args'.toArray.size) undef).getD t undef=(args'++List.replicate (fn.ntmps-args'.length) undef).getD t undef:=by simp[qO,FC,<-Array.getElem?_toList]
  dsimp only;rw[e];exact h
 ·exact .inl h
theorem aD4{next:Nat}{v:i_}{a:Act}(h:St B N fr M next a w)(nM:B.ds=[])(hv:B6 P fn fr M=some v)
  (hQ:∀ ι cc v',aO B ι cc w->cZ cc M->aM ι v v'->Q (.returned v') w):bodyPost P fn Q .ret a w/\bodyPost P fn Q .normal a w:=by
 obtain⟨ι,cc,h1,h2,h3,_⟩:=h;obtain⟨v',hc,qL⟩:=Oj (fn:=fn) h1 h2 h3 hv;have:=hQ ι cc v' h2 h3 hc;exact⟨⟨h1.defers.trans nM,v',qL,this⟩,⟨h1.defers.trans nM,v',qL,this⟩⟩
end
section
variable{P:j_}{B:aa}{N:Nat}
theorem aOA{z:i_}(ho:Cf P o=some (0,[],e,size,z))(k:Nat):cI P B o [] [(k,none)] (.slice (some ⟨k,0,some 7⟩) 0 0) [(k,.row [] e size)]:=by
 unfold Cf at ho;split at ho
 ·rename_i t mO parts ck;split at ho
  ·rename_i e' ht;split at ho
   ·rename_i i hi;split at ho
    ·rename_i z' hz;injection ho with ho;injection ho with h1 ho;injection ho with h2 ho;injection ho with h3 ho;injection ho with h4 h5;subst h1;subst h3;subst h4;subst h5;refine iY.step λι c ρ w aW hm hn=>?_;have hk:c k=none:=hn _ (aR ..);have hp:parts=#[]:=by
      have:parts.toList=[]:=by simpa using h2
      exact Je.1 this
     subst hp;have vy:Map.le ι _:=hZ (l:=.at w.heap.size 0 0) (hm.dD k hk);have lX:=HX (ty:=e') (size:=i.size) (cap:=0) (rest:=#[]) hm hk (.nil:bY (aM ι) [] []) (lY _) s_;refine⟨_,.slice (some ⟨w.heap.size,0,none⟩) 0 0,_,vy,.slc (o:=0) (off:=0) (gu _ _ _) (bF _) rfl,lX,.inl ?_⟩;simp only[execOp,ck];simp[Instr.buildSlice,jX ht,sizeOf,typeInfo,hi,newRow,Instr.fill,newObj,Sem.run];have e0:∀ f:Nat->Value,Array.map f (Array.range 0)=#[]:=λf=>Je.1 (by rw[Array.toList_map,Array.toList_range];rfl);rw[e0]
    ·cases ho
   ·cases ho
  ·cases ho
 ·cases ho
theorem aOB{idx:l_}{z:i_}(ho:Cf P o=some (len,idx,e,size,z)){cells:p_}(Jp:∀ v∈z.cells.toList,flat v=true)(ux:0<z.cells.size)
  (DU:KU size len z (idx.zip vs)=some cells) (bL:cells.size=len*size) (vM:0<len*size) (hle:len*size<=16777216) (k:Nat) :
  cI P B o vs [(k,none)] (.slice (some ⟨k,0,some 7⟩) len 0) [(k,.row cells.toList e size)]:=by
 unfold Cf at ho;split at ho
 ·rename_i t mO parts ck;split at ho
  ·rename_i e' ht;split at ho
   ·rename_i i hi;split at ho
    ·rename_i z' hz;injection ho with ho;injection ho with h1 ho;injection ho with h2 ho;injection ho with h3 ho;injection ho with h4 h5;subst h1;subst h2;subst h3;subst h4;subst h5;refine iY.step λι c ρ w aW hm hn=>?_;have hk:c k=none:=hn _ (aR ..);rw[ck]at aW;obtain⟨cX,aD5⟩:∃ cX,List.map ρ (parts.toList.map (·.2))=cX:=⟨_,rfl⟩;have uo:bY (aM ι) vs cX:=by rw[<-aD5];simpa[Op.operands]using aW
     have cq:List.map (λx=>(x.fst,ρ x.snd)) parts.toList=(parts.toList.map (·.1)).zip cX:=OT parts.toList aD5;have h0z:bY (aM ι) ((Array.range (mO*i.size)).map (z'.cells[·%z'.cells.size]!)).toList ((Array.range (mO*i.size)).map (z'.cells[·%z'.cells.size]!)).toList:=lE λv hv=>by rw[Array.toList_map,df]at hv;obtain⟨j,_,rfl⟩:=hv;rw[C2 z'.cells _ (cU _ ux)];exact Jp _ s_
     obtain⟨cells',aOC,jI⟩:=QR (ι:=ι) (place:=λj=>some (j*i.size,i.size)) (parts.toList.map λp:Nat×Operand=>p.1) uo h0z DU;have aOD:cells'.size=mO*i.size:=by rw[<-zT,<-jI.length,zT,bL]
     have OU:mO<=maxLen:=by have:mO<=mO*i.size:=F5 _ (Nat.pos_of_mul_pos_left vM);simp[maxLen];omega
     have vy:Map.le ι _:=hZ (l:=.at w.heap.size 0 mO) (hm.dD k hk);have lX:=HX (ty:=e') (size:=i.size) (cap:=mO) (rest:=#[]) hm hk jI OU (by simpa using aOD);refine⟨_,.slice (some ⟨w.heap.size,0,none⟩) mO mO,_,vy,.slc (o:=0) (off:=0) (gu _ _ _) (bF _) o_,lX,.inl ?_⟩;have h0:¬(mO*i.size=0):=by omega
     have h1:¬(16777216<mO*i.size):=by omega
     simp only[execOp,ck];simp[Instr.buildSlice,jX ht,sizeOf,typeInfo,hi,zeroValue,hz,h0,h1,newRow];rw[cq,aOC];simp[newObj,Sem.run]
    ·cases ho
   ·cases ho
  ·cases ho
 ·cases ho
def aZ.Mw(fn:Func)(key k e size:Nat)(z:i_)(ho:Cf P (az fn key)=some (0,[],e,size,z)):aZ P B N:=
 .step key (az fn key) [] [(k,none)] (.slice (some ⟨k,0,some 7⟩) 0 0) [(k,.row [] e size)] (aOA ho k)
def aZ.bsM(fn:Func)(key k len e size:Nat)(idx:l_)(z:i_)(vs:al)(cells:p_)(x:Obj)(hx:Obj.row cells.toList e size=x)(Jp:∀ v∈z.cells.toList,flat v=true)(ux:0<z.cells.size)
  (DU:KU size len z (idx.zip vs)=some cells) (bL:cells.size=len*size) (vM:0<len*size) (hle:len*size<=16777216) (ho:Cf P (az fn key)=some (len,idx,e,size,z)):aZ P B N:=
 .step key (az fn key) vs [(k,none)] (.slice (some ⟨k,0,some 7⟩) len 0) [(k,x)] (by subst hx;exact aOB ho Jp ux DU bL vM hle k)
def aZ.ap0(fn:Func)(key k m e size bytes q:Nat)(x:Obj)(new:al)(hx:x.reads=true)(hlen:x.cells.length=m*size)(lX:x.cells=new)
  (bL:0<size) (h63:m<=maxLen) (hb:m*bytes<=140737488355328) (ho:F6 P (az fn key)=some (e,size,bytes,size,true)):aZ P B N:=
 .step key (az fn key) [.slice none 0 0,.slice (some ⟨q,0,some 7⟩) m 0] [(k,none),(q,some x)] (.slice (some ⟨k,0,some 7⟩) m 0) [(k,.row new e size)] (by
  subst lX;have hs:Ds B (.slice (some ⟨q,0,some 7⟩) m 0) m x.cells [(q,some x)]:=by have:=NS (B:=B) (k:=q) (off:=0) (m:=m) (cc:=0) hx (len:=m*size) (λh=>by rw[h,l9]);rw[nk,lh (wG hlen)]at this;exact this
  exact aJ6 (B:=B) ho bL hs hlen h63 hb k)
theorem aD6{n:Nat}{nd:q_}{x:m_}(h:mz P f l ty size n xs)(hs:gC B l (vs++ca) nd)(ho:dC o.op=some x)(fq:gW P f=true)(hx:(xs.all flat)=true)(k:Nat):
  cI P B o (.func (.func f) #[] ca.toArray::vs) ((k,none)::nd) (.slice (some ⟨k,0,some 7⟩) n 0) [(k,.row xs ty size)]:=by
 have:=kj (P:=P) (B:=B) (o:=o) (x:=x) (f:=f) (fi:=[]) (args:=vs) (ca:=ca) (need:=(k,none)::nd) (val:=.slice (some ⟨k,0,some 7⟩) n 0) (c9:=[(k,.row xs ty size)]) ho fq ?_
 ·simpa using this
 ·intro ι c w hm hn args' ha;rw[jJ]at ha;refine(h w args' (CM hs hm (λp hp=>hn p (bK _ hp)) ha)).mono ?_
  rintro e w' ⟨v,rfl,h1,h2⟩
  obtain⟨aB,q1,q2,q3⟩:=FT hm h2 (k:=k) (hn (k,none) (aR ..)) h1 (bC.1 hx);exact⟨aB,v,rfl,q1,q3,q2⟩
def Mx(P:j_)(o:Oper):Bool:=match o.op with
 |.call c=>match c.callee,c.args.toList,c.argTypes.toList with
  |.builtin .len,[_],[t]=>(match P.underlying t with|some (.slice _)=>true|_=>false)
  |_,_,_=>false
 |_=>false
theorem aD7(ho:Mx P o=true):∃ x t e,o.op=.call { callee:=.builtin .len,args:=#[x],argTypes:=#[t]}/\P.underlying t=some (.slice e):=by
 unfold Mx at ho;split at ho
 ·rename_i c ck;split at ho
  ·rename_i x t h1 h2 h3;split at ho
   ·rename_i e ht;refine⟨x,t,e,?_,ht⟩;rw[ck];obtain⟨ce,ar,at'⟩:=c;dsimp only at h1 h2 h3;subst h1;have e1:ar=#[x]:=by rw[<-yL (xs:=ar),h2]
    have e2:at'=#[t]:=by rw[<-yL (xs:=at'),h3]
    rw[e1,e2]
   ·cases ho
  ·cases ho
 ·cases ho
theorem aO.less(hm:aO B ι c w){s:Nat}{cells:al}(hk:c k=some (.row cells ty s))(m:Nat):aO B ι (bA c k (.row (cells.take m) ty s)) w:=by
 obtain⟨l,h1,h2⟩:=hm.born k _ hk;rcases h2 with ⟨h2,h3⟩|⟨b,cap,cur,e1,e2,e3,e4,e5⟩
 ·subst h3;refine hm.ext λj=>?_;unfold bA;by_cases hj:j=k
  ·rw[aA hj,hj,hk,List.take_nil]
  ·rw[au hj]
 ·subst e1;refine hm.write hk rfl h1 (.refl w) rfl rfl (bF _) (λ_ _ _=>rfl) (.inr ⟨b,cap,cur,rfl,e2,e3,e4,?_⟩) n_ rfl;have:=e5.take m;rw[NW]at this;rw[jV];exact this
theorem aOE{s:Nat}(ho:th P o=some (false,true,s)){n h sz:Nat}{cells:al}(hh:h<=n):
  cI P B o [.slice (some ⟨k,0,some 7⟩) n 0,vI h] [(k,some (.row cells ty sz))] (.slice (some ⟨k,0,some 7⟩) h 0) [(k,.row (cells.take m) ty sz)]:=by
 have:=H8 (B:=B) ho (k:=k) (off:=0) (n:=n) (cc:=0) (l:=0) (h:=h) (λ_=>rfl) n_ (lY _) hh (.inr rfl);have h0:cI P B o [.slice (some ⟨k,0,some 7⟩) n 0,vI h] [] (.slice (some ⟨k,0,some 7⟩) h 0) []:=by simpa using this
 intro R ι c a w hv hm hn K Q hK;refine h0 R ι c a w hv hm n_ K Q λaB v' w' h1 h2 h3=>hK aB v' w' h1 h2 ?_;exact aO.less h3 (hn (k,_) (aR ..)) m
def aZ.cut(fn:Func)(key k n h m s sz ty:Nat)(cells new:al)(hh:h<=n)(lX:cells.take m=new)(ho:th P (az fn key)=some (false,true,s)):aZ P B N:=
 .step key (az fn key) [.slice (some ⟨k,0,some 7⟩) n 0,vI h] [(k,some (.row cells ty sz))] (.slice (some ⟨k,0,some 7⟩) h 0) [(k,.row new ty sz)] (by subst lX;exact aOE ho hh)
end
def A8:Code->Code|.seq a _=>a|c=>c
def xu:Code->Code|.seq _ b=>b|c=>c
def fC(fn:Func):Code:=match fn.body with|some c=>c|none=>.skip
theorem aOF(l:l_):aw l=fY (l.map λx:Nat=>(x:Int)):=by simp[aw,fY];intro _ _;rfl
theorem pd.snoc{cs:al}{i:Int}{l:List Int}(h:pd w fs cs)(hr:dr w u l.length (fY l))(hu:Go.Proofs.YtgpahigmalfpdaaGreatDoor.flat u=true):pd w (fs++[(i,l)]) (cs++[iV i,u]):=by
 induction h with
 |nil=>exact .cons hr hu .nil
 |cons h1 h2 _ ih=>exact .cons h1 h2 ih
section
variable{P:j_}{B:aa}{N:Nat}
theorem aO.aOG(hm:aO B ι c w){s:Nat}{cells:al}(hk:c k=some (.row cells ty s))(hl:cells'.length=cells.length)(h:∀ ct,bY (aM ι) cells ct->bY (aM ι) cells' ct):aO B ι (bA c k (.row cells' ty s)) w:=by
 obtain⟨l,h1,h2⟩:=hm.born k _ hk;rcases h2 with ⟨h2,h3⟩|⟨b,cap,cur,e1,e2,e3,e4,e5⟩
 ·subst h3;have:cells'=[]:=lG hl;subst this;refine hm.ext λj=>?_;unfold bA;by_cases hj:j=k
  ·rw[aA hj,hj,hk]
  ·rw[au hj]
 ·subst e1;refine hm.write hk rfl h1 (.refl w) rfl rfl (bF _) (λ_ _ _=>rfl) (.inr ⟨b,cap,cur,rfl,e2,e3,e4,?_⟩) n_ rfl;rw[hl];exact h _ e5
theorem aOH(hm:aO B ι c w){cells:al}(hk:c k=some (.row cells ty 1)):∃ u,aM ι (.slice (some ⟨k,0,some 7⟩) cells.length 0) u:=by
 obtain⟨l,h1,h2⟩:=hm.born k _ hk;rcases h2 with ⟨h2,h3⟩|⟨b,cap,cur,e1,e2,e3,e4,e5⟩
 ·subst h2;subst h3;exact⟨_,.slcN h1⟩
 ·subst e1;have hl:=e5.length;simp only[jV,zT,gZ]at hl e4;exact⟨_,.slc (c:=0) (c':=cap) h1 o_ o_⟩
theorem St.nil{fr:aU}{M:aL}{next:Nat}{a:Act}{w:h_}(h:St B N fr M next a w)(t:Nat)(ht:bM fr t=.slice none 0 0)(ty:TypeId)(s:Nat):
  St B N ((t,.slice (some ⟨next,0,some 7⟩) 0 0)::fr) ((next,.row [] ty s)::M) (next+1) a w:=by
 obtain⟨ι,cc,h1,h2,h3,h4⟩:=h;have hn:=h4 next (bF _);have hle:Map.le ι (dT ι next .nil):=hZ (h2.dD next hn);refine⟨dT ι next .nil,bA cc next (.row [] ty s),⟨h1.defers,h1.size,λt'=>?_⟩,h2.add hn (.inl ⟨rfl,rfl⟩) n_ n_ n_,λk x e=>?_,λk hk=>?_⟩
 ·have h0:=h1.slot t';rw[show bM ((t,Value.slice (some ⟨next,0,some 7⟩) 0 0)::fr) t'=if Nat.beq t t'=true then .slice (some ⟨next,0,some 7⟩) 0 0 else bM fr t' from rfl];by_cases hb:Nat.beq t t'=true
  ·rw[aA hb];have:=lI hb;subst this;rw[ht]at h0;rw[(h0.BM rfl).fH rfl];exact .inr (.slcN (gu _ _ _))
  ·rw[au hb];exact h0.mono hle
 ·unfold ak at e;split at e
  ·rename_i hb;injection e with e;subst e;unfold bA;rw[aA (lI hb).symm]
  ·have:=h3 k x e;have bB:k≠next:=λe'=>by subst e';rw[hn]at this;cases this
   unfold bA;rw[au bB];exact this
 ·unfold bA;rw[au o_];exact h4 k o_
theorem St.Q2{next:Nat}{a:Act}{WU:TypeId}{v0:i_}(h:St (B.jU ks) N fr M next a w)
  (hm:ak M m=some (.row xs ty 1)) (cV:(xs.all flat)=true) (hk:ak M k=some (.row (pre++[v0,.slice (some ⟨m,0,some 7⟩) xs.length 0]) WU 2)) (hmk:m≠k) :
  ∃ u,flat u=true/\(∀ b,jg u=some b->¬B.cY b)/\St (B.jU ((u,xs)::ks)) N fr ((k,.row (pre++[v0,u]) WU 2)::(m,.dead)::M) next a w:=by
 obtain⟨ι,cc,h1,h2,h3,h4⟩:=h;obtain⟨u,hu⟩:=aOH h2 (h3 m _ hm);obtain⟨g1,g2,g3⟩:=Go.Proofs.YtgpahigmalfpdaaGreatDoor.Q2 h2 (h3 m _ hm) (bC.1 cV) hu;have Hb:bA cc m .dead k=some (.row (pre++[v0,.slice (some ⟨m,0,some 7⟩) xs.length 0]) WU 2):=by unfold bA;rw[au (λe=>hmk e.symm)];exact h3 k _ hk
 have g4:=g1.aOG (cells':=pre++[v0,u]) Hb s_ λct hc=>by
  have hl:(pre++[v0,Value.slice (some ⟨m,0,some 7⟩) xs.length 0]).length=ct.length:=hc.length;have c1:=hc.take (pre.length+1);have c2:=hc.drop (pre.length+1);rw[lH]at hl;have e1:(pre++[v0,Value.slice (some ⟨m,0,some 7⟩) xs.length 0]).take (pre.length+1)=pre++[v0]:=by rw[aDp];simp[lh]
  have e2:(pre++[v0,Value.slice (some ⟨m,0,some 7⟩) xs.length 0]).drop (pre.length+1)=[.slice (some ⟨m,0,some 7⟩) xs.length 0]:=by rw[List.drop_append];simp[List.drop_eq_nil_of_le]
  rw[e1]at c1;rw[e2]at c2;obtain⟨x,hx,hxc⟩:=oh c2;have:=Kz hxc hu;subst this;rw[<-My (pre.length+1) ct,hx,show pre++[v0,x]=(pre++[v0])++[x]by simp];exact c1.append (.cons (.same g2) .nil)
 refine⟨u,g2,g3,ι,_,⟨h1.defers,h1.size,h1.slot⟩,g4,λj x e=>?_,λj hj=>?_⟩
 ·unfold ak at e;split at e
  ·rename_i hb;injection e with e;subst e;unfold bA;rw[aA (lI hb).symm]
  ·rename_i hb;have ch:j≠k:=λe'=>hb (by rw[e'];exact H5 k);unfold ak at e;split at e
   ·rename_i gy;injection e with e;subst e;unfold bA;rw[au ch,aA (lI gy).symm]
   ·rename_i gy;have WV:j≠m:=λe'=>gy (by rw[e'];exact H5 m);unfold bA;rw[au ch,au WV];exact h3 j x e
 ·have oU:k<next:=by
   rcases fo k next with h|h
   ·exact h
   ·have:=h4 k h;rw[h3 k _ hk]at this;cases this
  have cQ:m<next:=by
   rcases fo m next with h|h
   ·exact h
   ·have:=h4 m h;rw[h3 m _ hm]at this;cases this
  unfold bA;rw[au o_,au o_];exact h4 j hj
def aD8(P:j_)(f:FuncId)(l:List aQ)(F:Fact):Prop:=
 ∀ w vs,xd w l vs->Calls P f vs.toArray w λe w'=>∃ v,e=.returned v/\CK w' v F/\(∀ b,F.cY v w' b->w.heap.size<=b)/\Below w.heap.size w w'
end
def Fact.nE(F:Fact)(S:Nat):Fact where
 G v w:=F.G v w/\∀ b,F.cY v w b->S<=b
 cY:=F.cY
 lt v w k h hk:=F.lt v w k h.1 hk
 dep v w w' h hs hk:=by obtain⟨h1,h2⟩:=F.dep v w w' h.1 hs hk;exact⟨⟨h1,λb hb=>h.2 b (h2 b hb)⟩,h2⟩
 rc:=F.rc
 soft hr v w w' h hs hk:=by obtain⟨h1,h2⟩:=F.soft hr v w w' h.1 hs hk;exact⟨⟨h1,λb hb=>h.2 b (h2 b hb)⟩,h2⟩
section
variable{P:j_}{B:aa}{N:Nat}
theorem aOI{F:Fact}{nd:q_}{x:m_}{S:Nat}(h:aD8 P f l F)(hs:gC B l vs nd)(ho:dC o.op=some x)(fq:gW P f=true)(xM:F.rc=false)(hS:∀ w,B.G w->S<=w.heap.size)(k:Nat):
  cI P B o (.func (.func f) #[] #[]::vs) ((k,none)::nd) (.pointer (some ⟨k,0,some 9⟩)) [(k,.fact (F.nE S))]:=by
 have:=kj (P:=P) (B:=B) (o:=o) (x:=x) (f:=f) (fi:=[]) (args:=vs) (ca:=[]) (need:=(k,none)::nd) (val:=.pointer (some ⟨k,0,some 9⟩)) (c9:=[(k,.fact (F.nE S))]) ho fq ?_
 ·simpa using this
 ·intro ι c w hm hn args' ha;rw[jJ,jZ]at ha;refine(h w args' (CM hs hm (λp hp=>hn p (bK _ hp)) ha)).mono ?_
  rintro e w' ⟨v,rfl,⟨h1,h2,h3⟩,h4,h5⟩
  have Mz:=hS w hm.base;refine⟨dT ι k (.val v),v,rfl,hZ (hm.dD k (hn (k,none) (aR ..))),.opq (gu _ _ _) h2 h3,hm.new h5 (hn (k,none) (aR ..)) ⟨v,rfl,h1,λb hb=>dq Mz (h4 b hb)⟩ n_ (λF' v' b e1 e2 hF=>?_) rfl λF' e hr=>?_⟩
  ·injection e1 with e1;subst e1;injection e2 with e2;subst e2;exact .inl (h4 b hF)
  ·injection e with e;subst e;have:F.rc=true:=hr;rw[xM]at this;cases this
structure aOJ(w w':h_)(lR s1 n1:Nat)(je:al)(wo s2 n2:Nat)(jP:al)(F:Fact)(v1 v2 v3:i_):Prop where
 r1:w'.ownsRow w.heap.size lR s1 v1 n1 je
 r2:w'.ownsRow w.heap.size wo s2 v2 n2 jP
 r3:CK w' v3 F
 f3:∀ b,F.cY v3 w' b->w.heap.size<=b
 a12:∀ b,jg v1=some b->jg v2≠some b
 Q3:∀ b,jg v1=some b->¬F.cY v3 w' b
 a23:∀ b,jg v2=some b->¬F.cY v3 w' b
def C3(P:j_)(f:FuncId)(l:List aQ)(lR s1 n1:Nat)(je:al)(wo s2 n2:Nat)(jP:al)(F:Fact)(us:al):Prop:=
 ∀ w vs,xd w l vs->Calls P f vs.toArray w λe w'=>∃ v1 v2 v3,e=.returned (.tuple (.agg #[v1,v2,v3]::us).toArray)/\aOJ w w' lR s1 n1 je wo s2 n2 jP F v1 v2 v3/\Below w.heap.size w w'
theorem Ju(hm:aO B ι c w){n:Nat}{v:i_}(hc:aM ι (.slice (some ⟨k,0,some 7⟩) n cc) v)(hb:jg v=some b):∃ o cap,ι k=some (.at b o cap):=by
 rcases hc.iM rfl with ⟨_,_,_,_,q5⟩|⟨b',oo,cap,c',q1,_,_,q5⟩
 ·rw[q5]at hb;cases hb
 ·rw[q5]at hb;injection hb with hb;subst hb;exact⟨oo,cap,q1⟩
theorem WW{k3:Nat}{jP us:al}{F:Fact}(ja:P.follows .mixedOrders=true)(hf:P.funcs[f]?=some fn)(hl:(l.all aQ.ok)=true)(n:Nat){N:Nat}(hN:N=(eY 0 l).length+(fn.ntmps-(eY 0 l).length))
  (rs:∀ w,bN P (aa.at w) N) (h:∀ w,pv (iv (P:=P) fn n (eY 0 l) (jq 0 l) (jQ 0 l) (rs w)) [(k1,.row e6 A U),(k2,.row jP a1 m1),(k3,.fact (F.nE w.heap.size))] =
   pw (iv fn n (eY 0 l) (jq 0 l) (jQ 0 l) (rs w)) (.tuple (.agg #[.slice (some ⟨k1,0,some 7⟩) n1 0,.slice (some ⟨k2,0,some 7⟩) n2 0,.pointer (some ⟨k3,0,some 9⟩)]::us).toArray) [(k1,.row e6 A U),(k2,.row jP a1 m1),(k3,.fact (F.nE w.heap.size))])
  (Qk:k1≠k2) (vR:(e6.all flat)=true) (wF:e6.length=n1*U) (iD:(jP.all flat)=true) (jG:jP.length=n2*m1) (hu:(us.all flat)=true):C3 P f l A U n1 e6 a1 m1 n2 jP F us:=by
 intro w vs cy;obtain⟨ι,c,h1,h2,h3,h4,h5,h6,h7⟩:=yJ cy (bC.1 hl) 0 _ _ (uE w) n_ (λ_ _=>rfl);refine vH ja hf hN n (h w) h6 h2 h4 h3 λaB cr v' w' hle hc hm dW=>?_;obtain⟨cX,rfl,qN⟩:=hc.vt;have hc:bY (aM aB) (.agg #[.slice (some ⟨k1,0,some 7⟩) n1 0,.slice (some ⟨k2,0,some 7⟩) n2 0,.pointer (some ⟨k3,0,some 9⟩)]::us) cX.toList:=qN;cases aW:cX.toList with
 |nil=>rw[aW]at hc;cases hc
 |cons a t=>
  rw[aW]at hc;cases hc with
  |cons ha ht=>
   obtain⟨ags,rfl,gO⟩:=ha.HU;have yH:bY (aM aB) [.slice (some ⟨k1,0,some 7⟩) n1 0,.slice (some ⟨k2,0,some 7⟩) n2 0,.pointer (some ⟨k3,0,some 9⟩)] ags.toList:=gO;obtain⟨v1,v2,v3,e3,c1,c2,c3⟩:=Kk yH;have et:=oj ht (bC.1 hu);have g1:=dW (k1,_) (aR ..);have g2:=dW (k2,_) (bK _ (aR ..));have g3:=dW (k3,_) (bK _ (bK _ (aR ..)));have o1:=xX hm g1 c1 o_ (bC.1 vR);have o2:=xX hm g2 c2 o_ (bC.1 iD);rw[<-wF,oD]at o1;rw[<-jG,oD]at o2;have o3:=AN hm g3 c3;have aD9:aB k3=some (.val v3):=by
    obtain⟨lc,q1,u,q2,q3⟩:=hm.born k3 _ g3;subst q2;generalize hp:Value.pointer (some ⟨k3,0,some 9⟩)=p at c3;cases c3 with
    |same h=>subst hp;cases h
    |ptr h=>injection hp with hp;injection hp with hp;injection hp with _ _ hp;cases hp
    |slc h=>cases hp
    |slcN h=>cases hp
    |opq h4 h5 h6=>injection hp with hp;injection hp with hp;injection hp with jk;subst jk;exact h4
    |fn=>cases hp
    |agg=>cases hp
    |tup=>cases hp
   refine⟨v1,v2,v3,?_,⟨o1,o2,⟨o3.1.1,o3.2⟩,o3.1.2,λb mK gy=>?_,λb hb hF=>?_,λb hb hF=>?_⟩,hm.base⟩
   ·congr 2
    rw[<-yL (xs:=cX),aW,et]
    congr 2
    congr 1
    rw[<-yL (xs:=ags),e3]
   ·obtain⟨o,cap,q1⟩:=Ju hm c1 mK;obtain⟨o',aT,q2⟩:=Ju hm c2 gy;exact Qk (hm.inj k1 k2 _ _ b o cap o' aT g1 rfl g2 rfl q1 q2)
   ·obtain⟨o,cap,q1⟩:=Ju hm c1 hb;exact hm.apart k1 k3 _ _ b o cap v3 g1 rfl q1 g3 aD9 hF
   ·obtain⟨o,cap,q1⟩:=Ju hm c2 hb;exact hm.apart k2 k3 _ _ b o cap v3 g2 rfl q1 g3 aD9 hF
theorem WX{S n s:Nat}{v:i_}(hm:aO B ι c w')(hk:c k=none)(hr:w'.ownsRow S ty s v n xs)(cV:(xs.all flat)=true)(hB:∀ b,B.cY b->b<S)
  (hold:∀ j y b o cap,c j=some y->ι j=some (.at b o cap)->y.owns=true\/y.kF=true->jg v≠some b) (aOK:∀ j F u b,c j=some (.fact F)->ι j=some (.val u)->jg v=some b->¬F.cY u w' b) :
  ∃ aB,Map.le ι aB/\aO B aB (bA c k (.row xs ty s)) w'/\aM aB (.slice (some ⟨k,0,some 7⟩) n 0) v/\∀ b o cap,aB k=some (.at b o cap)->jg v=some b:=by
 have hle:∀ l,Map.le ι (dT ι k l):=λl=>hZ (hm.dD k hk);rcases hr.2 with ⟨h1,h2⟩|⟨g,cap,cur,h1,h2,h3,h4,h5,h6,h7⟩
 ·have hl:=hr.1;rw[h2,l9]at hl;have hx:xs=[]:=lG hl;subst h1;subst h2;subst hx;exact⟨dT ι k .nil,hle _,hm.add hk (.inl ⟨rfl,rfl⟩) n_ n_ n_,.slcN (gu _ _ _),λb o cap e=>by rw[gu]at e;cases e⟩
 ·subst h1;refine⟨dT ι k (.at g 0 cap),hle _,hm.add hk (.inr ⟨g,cap,cur,rfl,h3,h5,h6,?_⟩) (λb1 o1 mG _ e=>?_) n_ n_,.slc (o:=0) (off:=0) (gu _ _ _) h4 o_,λb1 o1 mG e=>?_⟩
  ·rw[hr.1,h7];exact lE (bC.1 cV)
  ·injection e with e;subst e;refine⟨(Ac.1 h3).1,λhF=>by have:=hB _ hF;omega,λj y o' aT hj hy he=>hold j y g o' aT hj he (.inl hy) rfl,λj F u hj hu hF=>aOK j F u g hj hu rfl hF,λj y o' aT hj hy he=>hold j y g o' aT hj he (.inr hy) rfl⟩
  ·rw[gu]at e;injection e with e;injection e with e;subst e;rfl
theorem MA{s2:Nat}{jP:al}{F:Fact}{us:al}{nd:q_}{x:m_}{S:Nat}(h:C3 P f l A U n1 e6 a1 s2 n2 jP F us)(hs:gC B l vs nd)(ho:dC o.op=some x)(fq:gW P f=true)(xM:F.rc=false)
  (f1:(e6.all flat)=true) (f2:(jP.all flat)=true) (fu:(us.all flat)=true) (hS:∀ w,B.G w->S<=w.heap.size) (k:Nat) :
  cI P B o (.func (.func f) #[] #[]::vs) ((k,none)::(k+1,none)::(k+2,none)::nd) (.tuple (.agg #[.slice (some ⟨k,0,some 7⟩) n1 0,.slice (some ⟨k+1,0,some 7⟩) n2 0,.pointer (some ⟨k+2,0,some 9⟩)]::us).toArray)
   [(k+2,.fact (F.nE S)),(k+1,.row jP a1 s2),(k,.row e6 A U)]:=by
 have:=kj (P:=P) (B:=B) (o:=o) (x:=x) (f:=f) (fi:=[]) (args:=vs) (ca:=[]) (need:=(k,none)::(k+1,none)::(k+2,none)::nd)
  (val:=.tuple (.agg #[.slice (some ⟨k,0,some 7⟩) n1 0,.slice (some ⟨k+1,0,some 7⟩) n2 0,.pointer (some ⟨k+2,0,some 9⟩)]::us).toArray) (c9:=[(k+2,.fact (F.nE S)),(k+1,.row jP a1 s2),(k,.row e6 A U)]) ho fq ?_
 ·simpa using this
 ·intro ι c w hm hn args' ha;rw[jJ,jZ]at ha;have k0:c k=none:=hn (k,none) s_;have k1:c (k+1)=none:=hn (k+1,none) s_;have k2:c (k+2)=none:=hn (k+2,none) s_;refine(h w args' (CM hs hm (λp hp=>hn p (by simp[hp])) ha)).mono ?_
  rintro e w' ⟨v1,v2,v3,rfl,⟨r1,r2,r3,f3,a12,Q3,a23⟩,hb⟩
  have Mz:=hS w hm.base;have wx:=hm.call hb
  -- where aW8 lie
  have de:∀ j y b o cap,c j=some y->ι j=some (.at b o cap)->y.owns=true\/y.kF=true->b<w.heap.size:=λj y b o cap hj hl hy=>by
   rcases hy with hy|hy
   ·exact(hm.own j y b o cap hj hy hl).1
   ·exact(hm.seen j y b o cap hj hy hl).1
  have Q4:∀ j F u b,c j=some (.fact F)->ι j=some (.val u)->F.cY u w' b->b<w.heap.size:=λj F u b hj hu hF=>by have hF:=hm.Dq hj hu hb.size (λk hk _=>hb.block k hk) hF;obtain⟨l,q1,q2⟩:=hm.born j _ hj;rw[hu]at q1;injection q1 with q1;exact q2.xL q1.symm hF
  have MB:∀ b,jg v1=some b->w.heap.size<=b:=λb hb=>by
   rcases r1.2 with ⟨h1,_⟩|⟨g,cap,cur,h1,h2,_⟩
   ·rw[h1]at hb;cases hb
   ·rw[h1]at hb;injection hb with hb;subst hb;exact h2
  have aEa:∀ b,jg v2=some b->w.heap.size<=b:=λb hb=>by
   rcases r2.2 with ⟨h1,_⟩|⟨g,cap,cur,h1,h2,_⟩
   ·rw[h1]at hb;cases hb
   ·rw[h1]at hb;injection hb with hb;subst hb;exact h2
  have Q5:∀ b,B.cY b->b<w.heap.size:=λb hF=>B.lt w b hm.base hF;obtain⟨b9,l1,m1,c1,p1⟩:=WX wx k0 r1 f1 Q5 (λj y b o cap hj hl hy e=>by have a:=de j y b o cap hj hl hy;have b:=MB b e;omega) (λj F u b hj hu e hF=>by have a:=Q4 j F u b hj hu hF;have b:=MB b e;omega);have bn:∀{ι:Map} {c:g_},aO B ι c w'->∀ j y,c j=some y->∃ l,ι j=some l:=λh j y hj=>by obtain⟨l,q,_⟩:=h.born j y hj;exact⟨l,q⟩
  have back:∀{ι b9:Map} {c:g_},aO B ι c w'->Map.le ι b9->∀ j y l,c j=some y->b9 j=some l->ι j=some l:=λh hle j y l hj hl=>by obtain⟨l',cD⟩:=bn h j y hj;have:=hle j l' cD;rw[hl]at this;injection this with this;rw[this];exact cD
  have Q6:bA c k (.row e6 A U) (k+1)=none:=by unfold bA;rw[au o_];exact k1
  have MC:∀ j y,bA c k (.row e6 A U) j=some y->(j=k/\y=.row e6 A U)\/(j≠k/\c j=some y):=λj y hj=>by
   unfold bA at hj;by_cases ch:j=k
   ·rw[aA ch]at hj;injection hj with hj;exact .inl ⟨ch,hj.symm⟩
   ·rw[au ch]at hj;exact .inr ⟨ch,hj⟩
  obtain⟨dQ,l2,m2,c2,p2⟩:=WX m1 Q6 r2 f2 Q5 (λj y b o cap hj hl hy e=>by
   rcases MC j y hj with ⟨rfl,rfl⟩|⟨_,hj⟩
   ·exact a12 b (p1 b o cap hl) e
   ·have a:=de j y b o cap hj (back wx l1 j y _ hj hl) hy;have b:=aEa b e;omega) (λj F u b hj hu e hF=>by
   rcases MC j _ hj with ⟨_,h⟩|⟨_,hj⟩
   ·cases h
   ·have a:=Q4 j F u b hj (back wx l1 j _ _ hj hu) hF;have b:=aEa b e;omega)
  have k2':bA (bA c k (.row e6 A U)) (k+1) (.row jP a1 s2) (k+2)=none:=by unfold bA;rw[au o_,au o_];exact k2
  have m3:aO B (dT dQ (k+2) (.val v3)) (bA (bA (bA c k (.row e6 A U)) (k+1) (.row jP a1 s2)) (k+2) (.fact (F.nE S))) w':=
   m2.add k2' ⟨v3,rfl,r3.1,λb hF=>dq Mz (f3 b hF)⟩ n_ (λF' v b e1 e2 hF j y o' aT hj hy he=>by
    injection e1 with e1;subst e1;injection e2 with e2;subst e2;have hF:F.cY v3 w' b:=hF;have Cm:=hj;unfold bA at hj;by_cases ch:j=k+1
    ·subst ch;exact a23 b (p2 b o' aT he) hF
    ·rw[au ch]at hj;have MD:=back m1 l2 j y _ hj he;rcases MC j y hj with ⟨rfl,rfl⟩|⟨_,hj⟩
     ·exact Q3 b (p1 b o' aT MD) hF
     ·have h1:=de j y b o' aT hj (back wx l1 j y _ hj MD) (.inl hy);have h2:=f3 b hF;omega) n_ λF' e hr=>by
    injection e with e;subst e;have:F.rc=true:=hr;rw[xM]at this;cases this
  have l3:Map.le dQ (dT dQ (k+2) (.val v3)):=hZ (m2.dD _ k2');refine⟨_,_,rfl,l1.trans (l2.trans l3),.tup ?_,m3⟩;refine .cons (.agg (.cons (c1.mono (l2.trans l3)) (.cons (c2.mono l3) (.cons (.opq (gu _ _ _) r3.2.1 r3.2.2) .nil)))) (lE λv hv=>bC.1 fu v hv)
end
def mW(ι aB:Map)(ns:l_):Map:=λk=>if ns.contains k then aB k else ι k
def inN(ns:l_):Value->Bool
 |.slice (some ad) _ _=>nI ad&&ns.contains ad.block
 |.pointer (some ad)=>nI ad&&ns.contains ad.block
 |.func _ fi ca=>match fi.toList,ca.toList with|[],[.pointer (some ad)]=>nI ad&&ns.contains ad.block|_,_=>false
 |_=>false
def Hc(K:Nat)(ns:l_)(v:i_):Bool:=l5 K v||inN ns v
theorem aEb{K:Nat}{ns:l_}(dG:∀ k,k<K->∀ lc,aB k=some lc->ι k=some lc){v:i_}(aC:Hc K ns v=true)(h:aM aB v v'):aM (mW ι aB ns) v v':=by
 unfold Hc at aC;rw[vG]at aC;rcases aC with aC|aC
 ·refine h.low (λk hk l e=>?_) aC;unfold mW;by_cases hc:ns.contains k=true
  ·rw[aA hc];exact e
  ·rw[au hc];exact dG k hk l e
 ·have key:∀{k:Nat} {l:qc},ns.contains k=true->aB k=some l->mW ι aB ns k=some l:=λhk e=>by unfold mW;rw[aA hk];exact e
  unfold inN at aC;split at aC
  ·rename_i ad n c;rw[dc]at aC;obtain⟨bl,off,sp⟩:=ad;have wm:=HT aC.1;have cy:=aC.2;dsimp only at wm cy;subst wm;rcases h.iM rfl with ⟨q1,q2,q3,q4,q5⟩|⟨b,oo,cap,c',q1,q2,q3,q5⟩
   ·dsimp only at q1 q4;rw[q5,q2,q3,q4];exact .slcN (key cy q1)
   ·dsimp only at q1 q5;rw[q5];exact .slc (key cy q1) q2 q3
  ·rename_i ad;rw[dc]at aC;obtain⟨bl,off,sp⟩:=ad;have wm:=HT aC.1;have cy:=aC.2;dsimp only at wm cy;subst wm;obtain⟨b,o,cap,q1,q2⟩:=h.xK rfl;dsimp only at q1 q2;rw[q2];exact .ptr (key cy q1)
  ·obtain⟨kE,dM,rfl,h1,h2⟩:=h.BL;split at aC
   ·rename_i ad e1 e2;rw[dc]at aC;obtain⟨bl,off,sp⟩:=ad;have wm:=HT aC.1;have cy:=aC.2;dsimp only at wm cy;subst wm;rw[e2]at h2;obtain⟨u,e3,h3⟩:=oh h2;obtain⟨b,o,cap,q1,q2⟩:=h3.xK rfl;dsimp only at q1 q2;refine .fn ?_ ?_
    ·rw[e1]at h1 ⊢;cases po:kE.toList with
     |nil=>exact .nil
     |cons _ _=>rw[po]at h1;cases h1
    ·rw[e2,e3,q2];exact .cons (.ptr (key cy q1)) .nil
   ·cases aC
  ·cases aC
theorem Q7{K:Nat}{ns:l_}{ι aB:Map}(dG:∀ k,k<K->∀ lc,aB k=some lc->ι k=some lc):∀{l l':al},(∀ v∈l,Hc K ns v=true)->bY (aM aB) l l'->bY (aM (mW ι aB ns)) l l'
 |_,_,_,.nil=>.nil
 |_,_,aC,.cons h1 h2=>.cons (aEb dG (aC _ (aR ..)) h1) (Q7 dG (λv hv=>aC v (bK _ hv)) h2)
theorem aOL{K:Nat}{ns:l_}(dG:∀ k,k<K->∀ lc,aB k=some lc->ι k=some lc){x:Obj}(aC:∀ v∈x.cells,Hc K ns v=true){l:qc}(h:ke aB w l x):ke (mW ι aB ns) w l x:=by
 cases x with
 |aI cells ty=>obtain⟨b,ct,e1,e2,e3⟩:=h;exact⟨b,ct,e1,Q7 dG aC e2,e3⟩
 |row cells ty size=>
  rcases h with h|⟨b,cap,cur,e1,e2,e3,e4,e5⟩
  ·exact .inl h
  ·exact .inr ⟨b,cap,cur,e1,e2,e3,e4,Q7 dG aC e5⟩
 |view cells=>
  rcases h with h|⟨b,o,cap,cs,e1,e2,e3⟩
  ·exact .inl h
  ·exact .inr ⟨b,o,cap,cs,e1,Q7 dG aC e2,e3⟩
 |fact F=>exact h
 |dead=>trivial
section
variable{P:j_}{B:aa}{w w4:h_}{K:Nat}{S:Nat->Prop}{ι:Map}{c:g_}{ns:l_}
theorem aOM(h:aO B ι c w)(hO:cZ c Os)(ee:∀ k x,ak Os k=some x->x.owns=true)(tL:∀ k x,ak cA k=some x->x.owns=true\/x=.dead)
  (kJ:∀ k,ak cA k=none↔(ak Os k=none/\ns.contains k=false)) (Fv:∀ k,ns.contains k=true->c k=none) (hS:∀ b,S b->∃ k x o cap,ak Os k=some x/\ι k=some (.at b o cap))
  {aB:Map} {c':g_} (hm:aO (aa.Mc w S) aB c' w4) (tO:cZ c' cA) (dG:∀ k,k<K->∀ lc,aB k=some lc->ι k=some lc) (aC:∀ k x,ak cA k=some x->∀ v∈x.cells,Hc K ns v=true)
  (oU:∀ k x,ak Os k=some x->k<K):Map.le ι (mW ι aB ns)/\aO B (mW ι aB ns) (mH c cA) w4:=by
 have hle:Map.le ι (mW ι aB ns):=λk l e=>by
  unfold mW;by_cases hc:ns.contains k=true
  ·rw[h.dD k (Fv k hc)]at e;cases e
  ·rw[au hc];exact e
 have bL:w.heap.size<=w4.heap.size:=hm.base.2.2.2.1;have aI:∀ b,b<w.heap.size->¬S b->w4.heap[b]?=w.heap[b]?:=hm.base.2.2.2.2;have Md:∀ b,S b->¬B.cY b:=λb hb=>by obtain⟨k,x,o,cap,e1,e2⟩:=hS b hb;exact(h.own k x b o cap (hO k x e1) (ee k x e1) e2).2
 have de:∀ k,ns.contains k=false->mW ι aB ns k=ι k:=λk e=>by unfold mW;rw[e];rfl
 have kinds:∀ k x,mH c cA k=some x->(ak cA k=some x/\c' k=some x/\(x.owns=true\/x=.dead))\/(ak Os k=none/\ns.contains k=false/\c k=some x):=λk x e=>by
  rw[wL]at e;cases ho:ak cA k with
  |some y=>rw[ho]at e;injection e with e;subst e;exact .inl ⟨rfl,tO k y ho,tL k y ho⟩
  |none=>rw[ho]at e;exact .inr ⟨((kJ k).1 ho).1,((kJ k).1 ho).2,e⟩
 have same:∀ k x,ak cA k=some x->mW ι aB ns k=aB k:=λk x e=>by
  unfold mW;by_cases hc:ns.contains k=true
  ·rw[aA hc]
  ·rw[au hc];obtain⟨lc,q,_⟩:=hm.born k x (tO k x e);have:ak Os k≠none:=λhn=>by have:=(kJ k).2 ⟨hn,by simpa using hc⟩;rw[e]at this;cases this
   cases hk:ak Os k with
   |none=>exact absurd hk this
   |some y=>rw[q,dG k (oU k y hk) lc q]
 have En:∀ k x b o cap,ak Os k=none->c k=some x->x.owns=true->ι k=some (.at b o cap)->¬S b:=λk x b o cap hn hc hx hl hs=>by obtain⟨k',x',o',aT,e1,e2⟩:=hS b hs;have:=h.inj k k' x x' b o cap o' aT hc hx (hO k' x' e1) (ee k' x' e1) hl e2;subst this;rw[hn]at e1;cases e1
 have Eo:∀ k x b o cap,c k=some x->x.kF=true->ι k=some (.at b o cap)->¬S b:=λk x b o cap hc hx hl hs=>by obtain⟨k',x',o',aT,e1,e2⟩:=hS b hs;exact(h.seen k x b o cap hc hx hl).2 k' x' o' aT (hO k' x' e1) (ee k' x' e1) e2
 have yG:∀ k F v b,c k=some (.fact F)->ι k=some (.val v)->F.cY v w b->¬S b:=λk F v b hc hl hF hs=>by obtain⟨k',x',o',aT,e1,e2⟩:=hS b hs;exact h.apart k' k x' F b o' aT v (hO k' x' e1) (ee k' x' e1) e2 hc hl hF
 have part:∀ k x b o cap j y o' aT,ak cA k=some x->x.owns=true->mW ι aB ns k=some (.at b o cap)->ak Os j=none->c j=some y->y.owns=true->ι j=some (.at b o' aT)->False:=λk x b o cap j y o' aT hk hx hl hj hc hy cD=>by
  rcases fo b w.heap.size with ao|gw
  ·have q:=(hm.own k x b o cap (tO k x hk) hx (by rw[<-same k x hk];exact hl)).2;exact q ⟨ao,En j y b o' aT hj hc hy cD⟩
  ·have:=(h.own j y b o' aT hc hy cD).1;omega
 refine⟨hle,B.dep w w4 h.base hm.base.1 hm.base.2.1 hm.base.2.2.1 bL λk hk=>aI k (B.lt w k h.base hk) λhs=>Md k hs hk,?_,?_,?_,?_,?_,?_,?_,?_,h.pk.trans hle⟩
 ·intro k hk;rw[wL]at hk;cases ho:ak cA k with
  |some y=>rw[ho]at hk;cases hk
  |none=>
   rw[ho]at hk;rw[de k ((kJ k).1 ho).2];exact h.dD k hk
 ·intro k x hk;rcases kinds k x hk with ⟨h1,h2,h3⟩|⟨h1,hc,h2⟩
  ·obtain⟨lc,q1,q2⟩:=hm.born k x h2;exact⟨lc,by rw[same k x h1];exact q1,aOL dG (aC k x h1) q2⟩
  ·obtain⟨lc,q1,q2⟩:=h.born k x h2;refine⟨lc,by rw[de k hc];exact q1,(q2.mono hle).jU bL (λb o cap hx e=>?_) λF v b e1 e2 hF=>?_⟩
   ·subst e;rcases hx with hx|hx
    ·exact aI b (h.own k x b o cap h2 hx q1).1 (En k x b o cap h1 h2 hx q1)
    ·exact aI b (h.seen k x b o cap h2 hx q1).1 (Eo k x b o cap h2 hx q1)
   ·subst e1;subst e2;exact aI b (q2.xL rfl hF) (yG k F v b h2 q1 hF)
 ·intro k x b o cap hk hx hl;rcases kinds k x hk with ⟨h1,h2,h3⟩|⟨h1,hc,h2⟩
  ·have cD:aB k=some (.at b o cap):=by rw[<-same k x h1];exact hl
   obtain⟨q1,q2⟩:=hm.own k x b o cap h2 hx cD;refine⟨q1,λhF=>?_⟩;have gD:=B.lt w b h.base hF;exact q2 ⟨gD,λhs=>Md b hs hF⟩
  ·rw[de k hc]at hl;obtain⟨q1,q2⟩:=h.own k x b o cap h2 hx hl;exact⟨cH q1 bL,q2⟩
 ·intro k j x y b o cap o' aT hk hx hj hy hl cD;rcases kinds k x hk with ⟨h1,h2,h3⟩|⟨h1,hc,h2⟩
  ·rcases kinds j y hj with ⟨p1,p2,p3⟩|⟨p1,lf,p2⟩
   ·exact hm.inj k j x y b o cap o' aT h2 hx p2 hy (by rw[<-same k x h1];exact hl) (by rw[<-same j y p1];exact cD)
   ·rw[de j lf]at cD;exact(part k x b o cap j y o' aT h1 hx hl p1 p2 hy cD).elim
  ·rw[de k hc]at hl;rcases kinds j y hj with ⟨p1,p2,p3⟩|⟨p1,lf,p2⟩
   ·exact(part j y b o' aT k x o cap p1 hy cD h1 h2 hx hl).elim
   ·rw[de j lf]at cD;exact h.inj k j x y b o cap o' aT h2 hx p2 hy hl cD
 ·intro k j x F b o cap v hk hx hl hj hv hF;rcases kinds j _ hj with ⟨_,_,p3⟩|⟨p1,oC,p2⟩
  ·rcases p3 with p3|p3<;>cases p3
  rw[de j oC]at hv;have hF:=h.Dq p2 hv bL (λk2 fX iX=>aI k2 fX (yG j F v k2 p2 hv iX)) hF;rcases kinds k x hk with ⟨h1,h2,h3⟩|⟨h1,hc,h2⟩
  ·have cD:aB k=some (.at b o cap):=by rw[<-same k x h1];exact hl
   have hb:b<w.heap.size:=by obtain⟨lc,q1,q2⟩:=h.born j _ p2;rw[hv]at q1;injection q1 with q1;subst q1;exact q2.xL rfl hF
   exact(hm.own k x b o cap h2 hx cD).2 ⟨hb,yG j F v b p2 hv hF⟩
  ·rw[de k hc]at hl;exact h.apart k j x F b o cap v h2 hx hl p2 hv hF
 ·intro k x b o cap hk hx hl;rcases kinds k x hk with ⟨h1,h2,h3⟩|⟨h1,hc,h2⟩
  ·rcases h3 with h3|h3
   ·cases x<;>simp[Obj.owns,Obj.kF]at h3 hx
   ·subst h3;cases hx
  ·rw[de k hc]at hl;obtain⟨q1,q2⟩:=h.seen k x b o cap h2 hx hl;refine⟨cH q1 bL,λj y o' aT hj hy cD=>?_⟩;rcases kinds j y hj with ⟨p1,p2,p3⟩|⟨p1,lf,p2⟩
   ·have jG:aB j=some (.at b o' aT):=by rw[<-same j y p1];exact cD
    exact(hm.own j y b o' aT p2 hy jG).2 ⟨q1,Eo k x b o cap h2 hx hl⟩
   ·rw[de j lf]at cD;exact q2 j y o' aT p2 hy cD
 ·intro j F hj;rcases kinds j _ hj with ⟨_,_,h3⟩|⟨h1,_,h2⟩
  ·rcases h3 with h3|h3<;>cases h3
  ·exact h.fa j F h2
 ·intro j k F F' hj hk;rcases kinds j _ hj with ⟨_,_,h3⟩|⟨_,_,h2⟩
  ·rcases h3 with h3|h3<;>cases h3
  rcases kinds k _ hk with ⟨_,_,h3⟩|⟨_,_,wX⟩
  ·rcases h3 with h3|h3<;>cases h3
  exact h.one j k F F' h2 wX
theorem aEc{x:m_}{val:i_}(h:yP P f K (args++ca) Os Vs val cA)(ho:dC o.op=some x)(fq:gW P f=true)(kt:Hc K ns val=true)
  (dP:(args++ca).all (l5 K)=true) (dG:((Os++Vs).all λp=>Nat.blt p.1 K&&mT K p)=true) (aC:∀ p∈cA,∀ v∈p.2.cells,Hc K ns v=true) (ee:(Os.all λp=>p.2.owns)=true) (tL:∀ p∈cA,p.2.owns=true\/p.2=.dead) (qJ:(Vs.all λp=>p.2.soft)=true)
  (kJ:∀ k,ak cA k=none↔(ak Os k=none/\ns.contains k=false)) :
  cI P B o (.func (.func f) #[] ca.toArray::args) (((Os++Vs).map λp=>(p.1,some p.2))++ns.map λk=>(k,none)) val cA:=by
 have:=kj (P:=P) (B:=B) (o:=o) (x:=x) (f:=f) (fi:=[]) (args:=args) (ca:=ca) (need:=((Os++Vs).map λp=>(p.1,some p.2))++ns.map λk=>(k,none)) (val:=val) (c9:=cA) ho fq ?_
 ·simpa using this
 ·intro ι c w hm hn args' ha;rw[jJ]at ha;have hL:cZ c (Os++Vs):=PX λp hp=>hn p (fh.2 (.inl hp));have NX:∀ k,ns.contains k=true->c k=none:=λk hk=>hn (k,none) (fh.2 (.inr (df.2 ⟨k,by simpa using hk,rfl⟩)));have Mf:∀ k x,ak (Os++Vs) k=some x->k<K/\fR K x:=λk x e=>by have:=kN dG e;simp only[dc,BX]at this;exact⟨this.1,xb this.2⟩
  obtain⟨S,hS,Lz,LA,vU⟩:=aDn hm hL Mf (λk x e=>kN ee e) (λk x e=>kN qJ e);have cd:bY (aM (w7 ι K)) (args++ca) args':=by
   have key:∀{l l':al},bY (aM ι) l l'->(∀ v∈l,l5 K v=true)->bY (aM (w7 ι K)) l l':=by
    intro l l' h hl;induction h with
    |nil=>exact .nil
    |cons h t ih=>exact .cons (h.low (λk hk l e=>by rw[yF hk];exact e) (hl _ (aR ..))) (ih λc hc=>hl c (bK _ hc))
   exact key ha (bC.1 dP)
  refine(h (aa.Mc w S) rfl _ _ w args' Lz LA vU cd).mono ?_
  rintro e w' ⟨v',aB,c',rfl,hle,hc,bJ,tO,gV⟩
  have GJ:=aDo hm hL bJ hle gV;obtain⟨g1,g2⟩:=aOM (ns:=ns) hm (λk x e=>hL k x (by rw[iO,e])) (λk x e=>kN ee e) (λk x e=>tL _ (kW e)) kJ NX hS bJ tO GJ (λk x e=>aC _ (kW e)) λk x e=>(Mf k x (by rw[iO,e])).1;exact⟨_,v',rfl,g1,aEb GJ kt hc,g2⟩
end
section
variable{P:j_}{B:aa}{N:Nat}
def aZ.tW(key i j p:Nat)(h:p=i*j)(hp:p<9223372036854775808):aZ P B N:=
 .rw key (.int .i64 (IntKind.i64.wrap ((i:Int)*(j:Int)))) (vI p) (by
  have e:((i:Int)*(j:Int))=((i*j:Nat):Int):=by simp
  rw[e,<-h];have e:IntKind.i64.wrap (p:Int)=(p:Int):=by rw[eD];omega
  rw[e];rfl)
def aZ.Hd(key a b r:Nat)(h:r=a%b):aZ P B N:=
 .rw key (.int .i64 (Int.tmod (a:Int) (b:Int))) (vI r) (by rw[Ar o_,h];rfl)
def aZ.He(key a b q:Nat)(h:q=a/b)(ha:a<9223372036854775808):aZ P B N:=
 .rw key (.int .i64 (IntKind.i64.wrap (Int.tdiv (a:Int) (b:Int)))) (vI q) (by
  rw[Cd o_,h];have e:((a:Int)/(b:Int))=((a/b:Nat):Int):=by simp
  have hq:a/b<=a:=uK _ _;rw[e];have e:IntKind.i64.wrap ((a/b:Nat):Int)=((a/b:Nat):Int):=by rw[eD];omega
  rw[e];rfl)
theorem ME{cells:al}(ja:P.follows .mixedOrders=true)(hf:P.funcs[f]?=some fn)(hl:(l.all aQ.ok)=true)(n:Nat){N:Nat}(hN:N=(eY 0 l).length+(fn.ntmps-(eY 0 l).length))
  (rs:∀ w,bN P (aa.at w) N) (h:∀ w,pv (iv (P:=P) fn n (eY 0 l) (jq 0 l) (jQ 0 l) (rs w)) [(k,.row cells ty size)]=pw (iv fn n (eY 0 l) (jq 0 l) (jQ 0 l) (rs w)) (.slice (some ⟨k,0,some 7⟩) m 0) [(k,.row cells ty size)])
  (hx:(cells.all flat)=true) (hlen:m*size<=cells.length) (oF:cells.take (m*size)=xs):mz P f l ty size m xs:=by
 intro w vs cy;obtain⟨ι,c,h1,h2,h3,h4,h5,h6,h7⟩:=yJ cy (bC.1 hl) 0 _ _ (uE w) n_ (λ_ _=>rfl);refine vH ja hf hN n (h w) h6 h2 h4 h3 λaB cr v' w' hle hc hm dW=>⟨v',rfl,?_,hm.base⟩;have:=xX hm (dW (k,_) (aR ..)) hc hlen (bC.1 hx);rwa[oF]at this
end
theorem C4{n:Nat}(h:a<bz^n):(aw (ae bz n a)).take (nd bz a*1)=cK a:=by have hle:=jK (B:=bz) d_ h;unfold cK aw;rw[gZ,<-DC,KF hle]
theorem Hf{n:Nat}(h:a<bz^n):nd bz a*1<=(aw (ae bz n a)).length:=by have hle:=jK (B:=bz) d_ h;rw[oG,pB];omega
theorem Jv(a:Nat):(j7 a).ok=true:=tU a
theorem Jw:(16777216:Nat)=256^3:=by decide
theorem aON:(a%256^i/bz^(i/3)%bz)+(a/256^i%256*2^(8*(i%3)))=a%256^(i+1)/bz^(i/3)%bz:=by
 have e1:bz^(i/3)=256^(3*(i/3)):=by rw[show bz=256^3 from Jw,<-tu]
 have e2:(2:Nat)^(8*(i%3))=256^(i%3):=by rw[tu]
 have e3:256^i=256^(3*(i/3))*256^(i%3):=by rw[<-eW];congr 1;omega
 have hr:256^(i%3)*256<=bz:=by rw[show bz=256^3 from Jw,<-dH];exact dj d_ o_
 rw[e1,e2];have m1:a%256^i/256^(3*(i/3))=a/256^(3*(i/3))%256^(i%3):=by rw[e3,Cc]
 have m2:a%256^(i+1)/256^(3*(i/3))=a/256^(3*(i/3))%(256^(i%3)*256):=by rw[dH,e3,gA,Cc]
 have m3:a/256^i%256=a/256^(3*(i/3))/256^(i%3)%256:=by rw[e3,lJ]
 rw[m1,m2,m3];generalize a/256^(3*(i/3))=c;have hp:0<256^(i%3):=cT d_;have h1:=cU c hp;have h3:c%(256^(i%3)*256)=c%256^(i%3)+256^(i%3)*(c/256^(i%3)%256):=Ow;have h4:c%(256^(i%3)*256)<256^(i%3)*256:=cU _ o_;rw[dZ (cH h4 hr),h3,dZ (cH h1 (dq (F5 _ d_) hr)),c7 (c/256^(i%3)%256)]
theorem aOO(h:j≠i/3):a%256^i/bz^j%bz=a%256^(i+1)/bz^j%bz:=by
 have e1:bz^j=256^(3*j):=by rw[show bz=256^3 from Jw,<-tu]
 rw[e1];rcases FG h with h1|h1
 ·have k:∀ i,3*j+3<=i->a%256^i/256^(3*j)%bz=a/256^(3*j)%bz:=by
   intro i hi;have e3:256^i=256^(3*j)*(bz*256^(i-3*j-3)):=by rw[show bz=256^3 from Jw,<-eW,<-eW];congr 1;omega
   rw[e3,Cc,KQ]
  rw[k i o_,k (i+1) o_]
 ·have hp:∀ i,i<=3*j->a%256^i/256^(3*j)=0:=by intro i hi;exact nj (cH (cU _ (cT d_)) (dj d_ hi))
  rw[hp i o_,hp (i+1) o_]
theorem aOP{n:Nat}(hi:i/3<n):(ae bz n (a%256^i)).set (i/3) (a%256^(i+1)/bz^(i/3)%bz)=ae bz n (a%256^(i+1)):=by
 apply x8
 ·simp[ae]
 ·intro j h1 h2;simp only[ae,eO,Ag]at h2;rw[Ib];simp only[ae,DD,DF];by_cases hj:i/3=j
  ·rw[aA hj,hj]
  ·rw[au hj];exact aOO (kV hj)
section
variable{Bs:aa}{N a:Nat}{s:ByteArray}
def aYh(s:ByteArray)(N i:Nat):aU:=[(4,vI i),(0,.string s),(3,sl 0 N)]
def aX0(N a i:Nat):aL:=[(0,.row (aw (ae bz N (a%256^i))) 3 1)]
theorem aOQ(hN:N=(s.size+2)/3)(ha:a=lk s)(hi:i<s.size)(h63:s.size<35184372088832):
  ah prog Bs 38 (aK (ai f100 0)) (aYh s N i) (aX0 N a i) 1 ⟨.normal,aYh s N (i+1),aX0 N a (i+1),1⟩:=by
 obtain⟨c,gY,du⟩:=TY s hi;rw[<-ha]at du;have ye:i/3<N:=by omega
 have hb:=aON (a:=a) (i:=i);have h1:a%256^(i+1)/bz^(i/3)%bz<bz:=aOj;have h3:c.toNat*2^(8*(i%3))<=bz:=by rw[du];omega
 have bW:=xt (l:=ae bz N (a%256^i)) (i:=i/3) (d:=a%256^(i+1)/bz^(i/3)%bz) (by rw[pB];exact ye);rw[aOP ye]at bW;have hg:(ae bz N (a%256^i))[i/3]?=some (a%256^i/bz^(i/3)%bz):=eU ye;have wy:IntKind.i64.wrap ((c.toNat:Int)*2^(min (8*(i%3)) IntKind.i64.bits))=((c.toNat*2^(8*(i%3)):Nat):Int):=by
  have e:(c.toNat:Int)*2^(8*(i%3))=((c.toNat*2^(8*(i%3)):Nat):Int):=by simp
  rw[show min (8*(i%3)) IntKind.i64.bits=8*(i%3)from oQ (show 8*(i%3)<=64 by omega),eD,e];unfold bz at h3;omega
 rw[<-du]at hb;unfold aX0;generalize aw (ae bz N (a%256^(i+1)))=r1 at *;generalize nQ:aw (ae bz N (a%256^i))=r0 at *;have jz:=eB hg;rw[nQ]at jz;generalize a%256^i/bz^(i/3)%bz=x at *;generalize a%256^(i+1)/bz^(i/3)%bz=y at *;generalize hp:c.toNat*2^(8*(i%3))=p at *;exact aG [.rw 13 (.int .i64 (s.size:Int)) (vI s.size) rfl,.lt 14 i s.size true (aJ hi),.rw 18 (.int .i64 (s.size:Int)) (vI s.size) rfl,.fN 19 s.size 1 (s.size-1) o_ o_,.fN 21 (s.size-1) i (s.size-1-i) o_ o_,.He 24 i 3 (i/3) rfl o_,.ix f100 25 0 N (i/3) ye k_,.ld f100 26 3 0 (i/3) (.row r0 3 1) (vI x) rfl jz k_,.sx f100 29 s (s.size-1-i) c gY k_,.wr 30 .i64 (c.toNat:Int) (c.toNat:Int) (by rw[eD];have:=c.toNat_lt;omega),.Hd 32 i 3 (i%3) rfl,.tW 33 8 (i%3) (8*(i%3)) rfl o_,.shl f100 34 .i64 (c.toNat:Int) (p:Int) (8*(i%3)) wy k_,.sum 35 x p y hb.symm (by unfold bz at h1;omega),.ix f100 36 0 N (i/3) ye k_,.st f100 100036 3 0 (i/3) (.row r0 3 1) (vI y) (.row r1 3 1) rfl bW rfl k_,.sum 16 i 1 (i+1) rfl o_]
theorem aOR(hN:N=(s.size+2)/3)(ha:a=lk s)(h63:s.size<35184372088832):
  ah prog Bs 38 (.block 0 (ai f100 0)) (aYh s N 0) (aX0 N a 0) 1 ⟨.normal,[(3,sl 0 N)],aX0 N a s.size,1⟩:=
 cg (id:=0) (cz (b:=aK (ai f100 0)) (r:=⟨.exit 0,[(3,sl 0 N)],aX0 N a s.size,1⟩) s.size (aYh s N) (aX0 N a)
  (λi k _=>kH (l:=aX0 N a i) (m:=aX0 N a 0) rfl k) (λi hi=>aOQ hN ha hi h63) (aG [.rw 13 (.int .i64 (s.size:Int)) (vI s.size) rfl,.lt 14 s.size s.size false s_]) n_)
end
theorem aOS{s:ByteArray}(h63:s.size<35184372088832):mz prog 100 [.p (.string s)] 3 1 ((s.size+2)/3) (aw (ae bz ((s.size+2)/3) (lk s))):=by
 have lo:=λBs=>aOR (Bs:=Bs) (N:=(s.size+2)/3) (a:=lk s) rfl rfl h63;have h0:aw (ae bz ((s.size+2)/3) (lk s%256^0))=List.replicate ((s.size+2)/3) (vI 0):=by
  rw[tn,uH,Mr]
  congr 1
  unfold ae;rw[List.eq_replicate_iff];simp
 have h1:lk s%256^s.size=lk s:=dZ (aAR s);unfold aX0 at lo;rw[h0,h1]at lo;have fl:=iU (ae bz ((s.size+2)/3) (lk s));have hl:(aw (ae bz ((s.size+2)/3) (lk s))).length=(s.size+2)/3*1:=by rw[oG,pB];omega
 generalize aw (ae bz ((s.size+2)/3) (lk s))=r1 at *;exact yK (k:=0) mixed func100 k_ 100 (N:=38) k_ (λ_=>[.rw 7 (.int .i64 (s.size:Int)) (vI s.size) rfl,.sum 8 s.size 2 (s.size+2) rfl o_,.He 9 (s.size+2) 3 ((s.size+2)/3) rfl o_,.qR f100 10 0 ((s.size+2)/3) 3 8 (vI 0) (List.replicate ((s.size+2)/3) (vI 0)) rfl rfl rfl o_ (by simp[maxLen];omega) k_,.code 0 _ _ _ _ _ (lo _)]) (λ_=>k_) fl hl
section
variable{P:j_}{B:aa}{N:Nat}
def aZ.next(fn:Func)(key k z n s:Nat)(h0:0<n)(ho:th P (az fn key)=some (true,false,s)):aZ P B N:=
 .step key (az fn key) [.slice (some ⟨k,z*s,some 7⟩) (n+1) z,vI 1] [] (.slice (some ⟨k,(z+1)*s,some 7⟩) n (z+1)) [] (by have:=H8 (B:=B) ho (k:=k) (off:=z*s) (n:=n+1) (cc:=z) (l:=1) (h:=n+1) n_ (λ_=>rfl) o_ (bF _) (.inl o_);rw[<-fZ,O0]at this;simpa using this)
theorem aOT{s:Nat}(ho:th P o=some (true,false,s)){n:Nat}{x:Obj}(hx:x.owns=true)(j:Nat):
  cI P B o [.slice (some ⟨k,off,some 7⟩) n cc,vI n] [(j,none),(k,some x)] (.slice (some ⟨j,0,some 7⟩) 0 0) [(j,.view []),(k,.dead)]:=by
 unfold th at ho;split at ho
 ·rename_i t y lo hi ck;split at ho
  ·rename_i e ht;split at ho
   ·rename_i i fQ;injection ho with ho;injection ho with h1 ho;injection ho with h2 h3;cases lo with
    |none=>cases h1
    |some yl=>
    cases hi with
    |some yh=>cases h2
    |none=>
    refine iY.step λι c ρ w aW hm hn=>?_;have hj:c j=none:=hn (j,none) s_;have hk:c k=some x:=hn (k,some x) s_;rw[ck]at aW;obtain⟨u,u2,hu,hc,du⟩:=jH aW;have dO:ρ y=u:=by simp[Op.operands]at hu;exact hu.1
    have eM:ρ yl=u2:=by simp[Op.operands]at hu;exact hu.2
    have du:=du.fH rfl;have HY:=hm.kill k (by rw[hk];exact n_);have gU:bA c k .dead j=none:=by unfold bA;rw[au (λe=>by subst e;rw[hj]at hk;cases hk)];exact hj
    have MF:∀ y code,n<=y->(Instr.sliceBound (.int .i64 n) y code).run P w=.ok n w:=by intro y code hq;have:(0:Int)<=n/\(n:Int)<=y:=⟨by omega,by omega⟩;simp[Instr.sliceBound,asIntOf,this]
    rcases hc.iM rfl with ⟨hb,k9,qN,zX,he⟩|⟨b,oo,cap,c',hb,lF,nK,he⟩
    ·refine⟨dT ι j .nil,.slice none 0 0,w,hZ (hm.dD j hj),.slcN (gu _ _ _),HY.add gU (.inl ⟨rfl,rfl⟩) n_ n_ n_,.inl ?_⟩;subst k9;have lO:∀ code,(Instr.sliceBound (.int .i64 0) 0 code).run P w=.ok 0 w:=λcode=>by simp[Instr.sliceBound,asIntOf]
     simp only[execOp,ck];simp[Instr.sliceAt,jX ht,Instr.slice,dO,eM,du,he,vI,Instr.sliceBounds,lO,sizeOf,typeInfo,fQ]
    ·dsimp only at hb he;obtain⟨o1,yk⟩:∃ o1,o1=(if c'=n then oo+off else oo+off+n*i.size):=⟨_,rfl⟩;have gD:=hm.own k x b oo cap hk hx hb;refine⟨dT ι j (.at b o1 (c'-n)),.slice (some ⟨b,o1+0,none⟩) 0 (c'-n),w,hZ (hm.dD j hj),.slc (gu _ _ _) (lY _) (kT _),HY.add gU (.inr ⟨b,o1,c'-n,[],rfl,.nil,λj u h=>by simp at h⟩) n_ n_ (λb1 o2 mG _ e=>?_),.inl ?_⟩
     ·injection e with e1 e2 e3;subst e1;refine⟨gD.1,λq y o' aT hq hy BS=>?_⟩;unfold bA at hq;by_cases xQ:q=k
      ·rw[aA xQ]at hq;injection hq with hq;subst hq;cases hy
      ·rw[au xQ]at hq;exact xQ (hm.inj q k y x b o' aT oo cap hq hy hk hx BS hb)
     ·simp only[execOp,ck];by_cases iN:c'=n
      ·rw[aA iN]at yk;subst yk;subst iN;simp[Instr.sliceAt,jX ht,Instr.slice,dO,eM,du,he,vI,Instr.sliceBounds,MF c' _ (bF _),sizeOf,typeInfo,fQ]
      ·rw[au iN]at yk;subst yk;simp[Instr.sliceAt,jX ht,Instr.slice,dO,eM,du,he,vI,Instr.sliceBounds,MF n _ (bF _),sizeOf,typeInfo,fQ,iN,zW]
   ·cases ho
  ·cases ho
 ·cases ho
def aZ.aOU(fn:Func)(key k off n cc s j:Nat)(x:Obj)(hx:x.owns=true)(ho:th P (az fn key)=some (true,false,s)):aZ P B N:=
 .step key (az fn key) [.slice (some ⟨k,off,some 7⟩) n cc,vI n] [(j,none),(k,some x)] (.slice (some ⟨j,0,some 7⟩) 0 0) [(j,.view []),(k,.dead)] (aOT ho hx j)
def aZ.aOV(fn:Func)(key k off n cc:Nat)(l:List UInt8)(x:Obj)(hx:x.reads=true)(hc:(x.cells.drop off).take n=iy l)(hn:l.length=n)(ho:OY P (az fn key)=true):aZ P B N:=
 .step key (az fn key) [.slice (some ⟨k,off,some 7⟩) n cc] [(k,some x)] (.string (BA l)) [] (by
  unfold OY at ho;split at ho
  ·rename_i src dst y ck;split at ho
   ·rename_i e hs hd;split at ho
    ·rename_i he;have:=ZH (P:=P) (B:=B) ck hs he hd (k:=k) (off:=off) (n:=n) (cc:=cc) (y:=x) (ns:=l.map λc=>(c.toNat:Int)) hx (by rw[hc];simp[iy,Function.comp_def]) (by simpa using hn)
     have e2:=aBa l [];rw[jJ]at e2;rw[show ByteArray.empty=BA []from rfl,e2]at this;exact this.step
    ·cases ho
   ·cases ho
  ·cases ho)
end
end Go.Proofs.YtgpahigmalfpdaaGreatDoor
