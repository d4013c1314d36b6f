/- Weights of solids: the proof of MeasureWeightsCardSaid (the law's function answers true at every record and all densities it can be given; theorem measureWeights_card, last part), part 3 of 7; no condition. -/
import Derived.Test.YtmocejjfkdcgkaaGreatDoorMW2
namespace Go.Proofs.YtmocejjfkdcgkaaGreatDoor
open Go Go.RowKit Tryz
variable{j N A U a1 m1 n':Nat}{az bX:Map}{Bs:aa}{t:Bool}{fr:aX}{M Os cx Vs:aL}{ty:TypeId}{args ca cells' args' eU pre:ak}{v' res u':i_}{fn:Func}{P:j_}{Q:Ending->World->Prop}{ks:List (Value×ak)}
theorem aLH{B:aa}{o:Oper}{x:m_}{k:Nat}(r:RV)(ho:dD o.op=some x):cI prog B o (.func (.func 125) #[] #[]::[r.v]) [(k,none)] (.func (.func 164) #[] #[.pointer (some ⟨k,0,some 7⟩)]) [(k,.aM r.cs 44)]:=
 aCl mixed func125 ho k_ 50 (λ_=>[]) (λ_=>k_) k_ k_
def uz(r:RV):aL:=[(0,.aM r.cs 44),(1,.aM [.bool false] 4),(2,.aM r.cs 44)]
def Gi:aX:=[(1,cq 0),(2,cq 1),(6,.func (.func 164) #[] #[cq 2])]
theorem aLI{B:aa}(r:RV):ai prog B 12 (Ai f73 0) (jh 0 [r.v]) [] 0 ⟨.normal,[(1,cq 0),(2,cq 1)],[(0,.aM r.cs 44),(1,.aM [.bool false] 4)],2⟩:=
 fD mixed 10 [] k_
theorem aLJ{B:aa}(r:RV):ai prog B 12 (Ai f73 1) [(1,cq 0),(2,cq 1)] [(0,.aM r.cs 44),(1,.aM [.bool false] 4)] 2 ⟨.normal,Gi,uz r,3⟩:=
 fD mixed 10 [.step 6 (aw f73 6) _ _ _ _ (aLH (k:=2) (x:=.func 125) r k_)] k_
theorem aLK(r:RV)(x:RN)(i:Int)(b:Bool)(hx:aF prog 67 [x.v] (.bool b)):
  Lp prog 3 12 #[7,8] (D7 (tz f73)) (D8 (tz f73)) Gi (uz r) [] (uz r) [.int .i64 i,x.v] (if b then none else some .ret):=by
 cases b
 ·exact Lx (rA:=⟨.normal,(4,cq 4)::Gi,(4,.aM x.cs 34)::uz r,5⟩) (rB:=⟨.ret,[],uz r,5⟩) k_ k_ k_ k_ k_ k_ k_ k_ rfl (λB=>fD mixed 10 [] k_) rfl k_ rfl
   (λB=>fD mixed 10 [hx.at 10] k_) (λk x h=>h) rfl
 ·exact Lx (rA:=⟨.normal,(4,cq 4)::Gi,(4,.aM x.cs 34)::uz r,5⟩) (rB:=⟨.normal,[],uz r,5⟩) k_ k_ k_ k_ k_ k_ k_ k_ rfl (λB=>fD mixed 10 [] k_) rfl k_ rfl
   (λB=>fD mixed 10 [hx.at 10] k_) (λk x h=>h) rfl
theorem aLL{B:aa}(r:RV):ai prog B 12 (.seq (Ai f73 5) .ret) Gi (uz r) 3 ⟨.ret,[(2,cq 1)],[(1,.aM [.bool true] 4)],3⟩:=fD mixed 10 [] k_
theorem aLM{r:RV}{bx Cs bz:Bool}(hx:aF prog 67 [r.x.v] (.bool bx))(hy:aF prog 67 [r.y.v] (.bool Cs))(hz:aF prog 67 [r.z.v] (.bool bz)){T:p_}{m:Map}{S:Nat->Prop}(fU:Af prog 3 12 Gi (uz r) m S T)
  {cS:FuncId} {l D:Nat} {W1 W:h_} {κ:Map} {c:g_} {eh:ak} (hm:aO (k6 W1 l S m) κ c W) (ha:cY c ((3,.fact (fG l (j4 cS T #[7,8] (D7 (tz f73)) (D8 (tz f73)) D)))::(uz r++[]))) (hu:eF c (3+1)) (fA:bW (aK κ) [cq 2] eh) :
  Calls prog 164 (.func (.yield l) #[] #[]::eh).toArray W λe W'=>∃ v qO c',e=.returned v/\Map.le κ qO/\aO (k6 W1 l S m) qO c' W'/\
   cY c' ((3,.fact (fG l (D4 (j4 cS T #[7,8] (D7 (tz f73)) (D8 (tz f73)) D) (if bx&&Cs&&bz then none else some .ret))))::(uz r++[]))/\∀ k,k<3->c k=none->c' k=none:=by
 have st:=λ(x:RN) (i:Int) (b:Bool) (h:aF prog 67 [x.v] (.bool b))=>Lq (W1:=W1) (l:=l) (D:=D) (cS:=cS) (x:=.tmp 16) (o:=aw f164 19) (aLK r x i b h) k_ fU.size fU.jh fU.low fU.set fU.born
 cases bx
 ·exact D9 mixed func164 rfl 100 (v:=.tuple #[]) (rs:=[.step 19 _ _ _ _ _ (st r.x 0 _ hx)]) hm ha hu fA k_
 ·cases Cs
  ·exact D9 mixed func164 rfl 100 (v:=.tuple #[]) (rs:=[.step 19 _ _ _ _ _ (st r.x 0 _ hx),.step 19 _ _ _ _ _ (st r.y 1 _ hy)]) hm ha hu fA k_
  ·cases bz
   ·exact D9 mixed func164 rfl 100 (v:=.tuple #[]) (rs:=[.step 19 _ _ _ _ _ (st r.x 0 _ hx),.step 19 _ _ _ _ _ (st r.y 1 _ hy),.step 19 _ _ _ _ _ (st r.z 2 _ hz)]) hm ha hu fA k_
   ·exact D9 mixed func164 rfl 100 (v:=.tuple #[]) (rs:=[.step 19 _ _ _ _ _ (st r.x 0 _ hx),.step 19 _ _ _ _ _ (st r.y 1 _ hy),.step 19 _ _ _ _ _ (st r.z 2 _ hz)]) hm ha hu fA k_
theorem PJ{r:RV}{bx Cs bz:Bool}(hx:aF prog 67 [r.x.v] (.bool bx))(hy:aF prog 67 [r.y.v] (.bool Cs))(hz:aF prog 67 [r.z.v] (.bool bz)):
  aF prog 73 [r.v] (.bool (bx&&Cs&&bz)):=by
 refine aCk (N:=12) func73 rfl rfl k_ λw a hf hm=>?_;refine mR (aLI r none _ _ a w _ hf hm n_ (λ_ _=>rfl) λuj cc0 a0 w0 aCm BG kC oj zT yn _=>?_);refine mR (mR (aLJ r none _ _ a0 w0 _ BG kC oj zT λbX gG a1 w1 jx iI c8 eG dT iA _=>Kn ?_))
 refine Ve (next:=3) (Os:=uz r) (Vs:=[]) (cx:=uz r) (gf:=164) (ca:=[cq 2]) (j:=if bx&&Cs&&bz then none else some .ret) iI c8 eG dT (λk x h=>lT (p:=λp=>p.2.owns) k_ h) n_ k_ k_ k_ (λk=>Iff.rfl) (λk x h=>lT (p:=λp=>p.2.owns) k_ h) (λk x h=>Ak (lT (p:=mY 3) k_ h))
  (λcS l D W1 S fU κ c W eh hm ha hu fA=>aLM hx hy hz fU hm ha hu fA) λD cr w' D5 hDw jd dH gV e6=>?_
 by_cases hb:(bx&&Cs&&bz)=true
 ·rw[aB hb,hb];exact aCh (B:=aa.at w) (v:=.bool true) (λB=>aLL r) rfl k_ jd dH gV e6 rfl (λF h=>h) D5 λaz v' w' hc hG=>⟨by rw[hc.eZ rfl],hG⟩
 ·rw[av hb];refine wpIn_ret (aCj (B:=aa.at w) (fr:=Gi) (M:=uz r++[]) (v:=.bool false) k_ jd dH gV rfl (λF h=>h) D5 λaz v' w' hc hG=>⟨?_,hG⟩);rw[hc.eZ rfl];cases hc:bx&&Cs&&bz
  ·rfl
  ·exact absurd hc hb
inductive aR where
 |p (v:i_)
 |r (n:Nat) (xs:ak)
 |q (xs:ak)
 |f (g:FuncId) (xs:ak)
 |b (n:Nat) (xs:ak)
 |o (F:Fact)
 |s (n1:Nat) (iS:ak) (n2:Nat) (jB:ak) (F:Fact)
 |a (n1:Nat) (iS:ak) (n2:Nat) (jB:ak) (n3:Nat) (Gj:ak)
 |c (u:i_) (F:Fact)
def PK(w:h_)(v:i_)(xs:ak):Prop:=∃ b o,v=.pointer (some ⟨b,o,none⟩)/\b<w.heap.size/\∀(j:Nat) u,xs[j]?=some u->w.cell? ⟨b,o+j,none⟩=some u
def Ct(w:h_)(v:i_)(F:Fact):Prop:=F.G v w/\v.cells=#[v]/\v.oneCell'=true
def aR.In(w:h_):aR->Value->Prop
 |.p u,v=>v=u
 |.r n xs,v=>cW w v n xs
 |.q xs,v=>PK w v xs
 |.f g xs,v=>∃ u,v=.func (.func g) #[] #[u]/\PK w u xs
 |.b n xs,v=>∃ b o u,v=.pointer (some ⟨b,o,none⟩)/\b<w.heap.size/\w.cell? ⟨b,o,none⟩=some u/\cW w u n xs
 |.o F,v=>Ct w v F
 |.s n1 iS n2 jB F,v=>∃ u1 u2 u3,v=.agg #[u1,u2,u3]/\cW w u1 n1 iS/\cW w u2 n2 jB/\Ct w u3 F
 |.a n1 iS n2 jB n3 Gj,v=>∃ u1 u2 u3,v=.agg #[u1,u2,u3]/\cW w u1 n1 iS/\cW w u2 n2 jB/\cW w u3 n3 Gj
 |.c u F,v=>∃ t,v=.agg #[u,t]/\Ct w t F
def aR.ok:aR->Bool
 |.p v=>flat v
 |.r _ xs=>xs.all flat
 |.q xs=>xs.all flat
 |.f _ xs=>xs.all flat
 |.b _ xs=>xs.all flat
 |.o F=>!F.rc
 |.s _ iS _ jB F=>iS.all flat&&(jB.all flat&&!F.rc)
 |.a _ iS _ jB _ Gj=>iS.all flat&&(jB.all flat&&Gj.all flat)
 |.c u F=>flat u&&!F.rc
inductive uA(w:h_):List aR->ak->Prop
 |nil:uA w [] []
 |cons {a:aR} {v:i_} {l:List aR} {vs:ak}:a.In w v->uA w l vs->uA w (a::l) (v::vs)
def eC:Nat->List aR->ak
 |_,[]=>[]
 |k,.p v::l=>v::eC k l
 |k,.r n _::l=>.slice (some ⟨k,0,some 7⟩) n 0::eC (k+1) l
 |k,.q _::l=>.pointer (some ⟨k,0,some 7⟩)::eC (k+1) l
 |k,.f g _::l=>.func (.func g) #[] #[.pointer (some ⟨k,0,some 7⟩)]::eC (k+1) l
 |k,.b _ _::l=>.pointer (some ⟨k+1,0,some 7⟩)::eC (k+2) l
 |k,.o _::l=>.pointer (some ⟨k,0,some 9⟩)::eC (k+1) l
 |k,.s n1 _ n2 _ _::l=>.agg #[.slice (some ⟨k,0,some 7⟩) n1 0,.slice (some ⟨k+1,0,some 7⟩) n2 0,.pointer (some ⟨k+2,0,some 9⟩)]::eC (k+3) l
 |k,.a n1 _ n2 _ n3 _::l=>.agg #[.slice (some ⟨k,0,some 7⟩) n1 0,.slice (some ⟨k+1,0,some 7⟩) n2 0,.slice (some ⟨k+2,0,some 7⟩) n3 0]::eC (k+3) l
 |k,.c u _::l=>.agg #[u,.pointer (some ⟨k,0,some 9⟩)]::eC (k+1) l
def ja:Nat->List aR->aL
 |_,[]=>[]
 |k,.p _::l=>ja k l
 |k,.r _ xs::l=>(k,.view xs)::ja (k+1) l
 |k,.q xs::l=>(k,.view xs)::ja (k+1) l
 |k,.f _ xs::l=>(k,.view xs)::ja (k+1) l
 |k,.b n xs::l=>(k,.view xs)::(k+1,.view [.slice (some ⟨k,0,some 7⟩) n 0])::ja (k+2) l
 |k,.o F::l=>(k,.fact F)::ja (k+1) l
 |k,.s _ iS _ jB F::l=>(k,.view iS)::(k+1,.view jB)::(k+2,.fact F)::ja (k+3) l
 |k,.a _ iS _ jB _ Gj::l=>(k,.view iS)::(k+1,.view jB)::(k+2,.view Gj)::ja (k+3) l
 |k,.c _ F::l=>(k,.fact F)::ja (k+1) l
def jo:Nat->List aR->Nat
 |k,[]=>k
 |k,.p _::l=>jo k l
 |k,.r _ _::l=>jo (k+1) l
 |k,.q _::l=>jo (k+1) l
 |k,.f _ _::l=>jo (k+1) l
 |k,.b _ _::l=>jo (k+2) l
 |k,.o _::l=>jo (k+1) l
 |k,.s _ _ _ _ _::l=>jo (k+3) l
 |k,.a _ _ _ _ _ _::l=>jo (k+3) l
 |k,.c _ _::l=>jo (k+1) l
theorem aCn{B:aa}{ι:Map}{c:g_}{w:h_}(hm:aO B ι c w){k:Nat}{v:i_}{xs:ak}(hk:c k=none)(h:PK w v xs)(cR:∀ u∈xs,flat u=true)(fX:∀ j x,c j=some x->x.owns=false):
  ∃ az,Map.le ι az/\aO B az (bA c k (.view xs)) w/\aK az (.pointer (some ⟨k,0,some 7⟩)) v:=by
 obtain⟨b,o,rfl,h2,h3⟩:=h;refine⟨dS ι k (.at b o 0),ij (hm.dF k hk),hm.add hk (.inr ⟨b,o,0,xs,rfl,kO cR,h3⟩) n_ n_ (λb1 o1 l8 _ e=>?_),?_⟩
 ·injection e with e1 e2 e3;subst e1;exact⟨h2,λj y o' aU hj hy=>by rw[fX j y hj]at hy;cases hy⟩
 ·have:=aK.ptr (off:=0) (gg ι k (.at b o 0));rwa[jf]at this
def Al(B:aa)(w:h_)(k:Nat)(ι:Map)(c:g_)(L:aL)(n:Nat)(az:Map)(c':g_):Prop:=
 Map.le ι az/\aO B az c' w/\(∀ j x,c' j=some x->x.owns=false)/\eF c' n/\cY c' L/\(∀ j,j<k->c' j=c j)/\k<=n/\(∀ j x,ag L j=some x->k<=j/\j<n)
theorem aLN{B:aa}{w:h_}{k:Nat}{ι:Map}{c:g_}(hm:aO B ι c w)(ho:∀ j x,c j=some x->x.owns=false)(hu:eF c k):Al B w k ι c [] k ι c:=
 ⟨Map.le.refl _,hm,ho,hu,λj x h=>(by cases h),λ_ _=>rfl,bC _,λj x h=>(by cases h)⟩
theorem Lz{B:aa}{w:h_}{k:Nat}{ι:Map}{c:g_}{x:Obj}(ho:∀ j x,c j=some x->x.owns=false)(hu:eF c k)(hle:Map.le ι bX)(hm:aO B bX (bA c k x) w)(hx:x.owns=false):Al B w k ι c [(k,x)] (k+1) bX (bA c k x):=by
 refine⟨hle,hm,λj y hj=>?_,λj hj=>?_,λj y hj=>?_,λj hj=>?_,zq _,λj y hj=>?_⟩
 ·unfold bA at hj;by_cases b9:j=k
  ·rw[aB b9]at hj;injection hj with hj;subst hj;exact hx
  ·rw[av b9]at hj;exact ho j y hj
 ·unfold bA;rw[av o_];exact hu j o_
 ·unfold ag at hj;split at hj
  ·rename_i hb;injection hj with hj;subst hj;unfold bA;rw[aB (lj hb).symm]
  ·cases hj
 ·unfold bA;rw[av o_]
 ·unfold ag at hj;split at hj
  ·rename_i hb;have:=lj hb;omega
  ·cases hj
theorem Al.trans{B:aa}{w:h_}{k n m:Nat}{ι:Map}{c c1 c2:g_}{L L2:aL}(h:Al B w k ι c L n bX c1)(h2:Al B w n bX c1 L2 m az c2):Al B w k ι c (L++L2) m az c2:=by
 obtain⟨a1,a2,a3,a4,a5,a6,a7,a8⟩:=h;obtain⟨b1,b2,b3,b4,b5,b6,b7,b8⟩:=h2;refine⟨a1.trans b1,b2,b3,b4,λj x hj=>?_,λj hj=>by rw[b6 j o_,a6 j hj],by omega,λj x hj=>?_⟩
 ·rw[iH]at hj;cases e:ag L j with
  |some y=>
   rw[e]at hj;injection hj with hj;subst hj;rw[b6 j (a8 j _ e).2];exact a5 j _ e
  |none=>rw[e]at hj;exact b5 j x hj
 ·rw[iH]at hj;cases e:ag L j with
  |some y=>rw[e]at hj;injection hj with hj;subst hj;have:=a8 j _ e;omega
  |none=>rw[e]at hj;have:=b8 j x hj;omega
theorem Gk{B:aa}{w:h_}{k n:Nat}{ι:Map}{c:g_}{u:i_}{xs:ak}(hm:aO B ι c w)(ho:∀ j x,c j=some x->x.owns=false)(hu:eF c k)(h:cW w u n xs)(cR:xs.all flat=true):
  ∃ az c',Al B w k ι c [(k,.view xs)] (k+1) az c'/\aK az (.slice (some ⟨k,0,some 7⟩) n 0) u:=by
 obtain⟨bX,q1,q2,q3⟩:=zy hm (hu k (bC _)) h (bB.1 cR) λb o c' _ j y o' aU hj hy=>by rw[ho j y hj]at hy;cases hy
 exact⟨bX,_,Lz ho hu q1 q2 rfl,q3⟩
theorem Vj{B:aa}{w:h_}{k:Nat}{ι:Map}{c:g_}{u:i_}{F:Fact}(hm:aO B ι c w)(ho:∀ j x,c j=some x->x.owns=false)(hu:eF c k)(h:Ct w u F)(xw:F.rc=false):
  ∃ az c',Al B w k ι c [(k,.fact F)] (k+1) az c'/\aK az (.pointer (some ⟨k,0,some 9⟩)) u:=by
 refine⟨dS ι k (.val u),bA c k (.fact F),Lz ho hu (ij (hm.dF k (hu k (bC _)))) (hm.add (hu k (bC _)) ⟨u,rfl,h.1⟩ n_ (λF' v b e1 e2 hF j y o' aU hj hy=>by rw[ho j y hj]at hy;cases hy) n_ λF' e hr=>?_) rfl,.opq (gg _ _ _) h.2.1 h.2.2⟩;injection e with e;subst e;rw[xw]at hr;cases hr
theorem wS{B:aa}{w:h_}:∀{l:List aR} {vs:ak},uA w l vs->(∀ a∈l,aR.ok a=true)->∀(k:Nat) (ι:Map) (c:g_),aO B ι c w->(∀ j x,c j=some x->x.owns=false)->eF c k->
  ∃ az c',Map.le ι az/\aO B az c' w/\eF c' (jo k l)/\cY c' (ja k l)/\(∀ j,j<k->c' j=c j)/\bW (aK az) (eC k l) vs/\k<=jo k l
 |_,_,.nil,_,k,ι,c,hm,ho,hu=>⟨ι,c,Map.le.refl _,hm,hu,λk x h=>(by cases h),λ_ _=>rfl,.nil,bC _⟩
 |_,_,.cons (a:=a) (v:=v) (l:=l) (vs:=vs) h hs,aC,k,ι,c,hm,ho,hu=>by
  have Cu:∀ a∈l,aR.ok a=true:=λa ha=>aC a (bF _ ha);have qP:=aC a (aT ..);have go:∀(L:aL) (n:Nat) (u:i_) (bX:Map) (c1:g_),Al B w k ι c L n bX c1->aK bX u v->
    ∃ az c',Map.le ι az/\aO B az c' w/\eF c' (jo n l)/\cY c' (L++ja n l)/\(∀ j,j<k->c' j=c j)/\bW (aK az) (u::eC n l) (v::vs)/\k<=jo n l:=by
   intro L n u bX c1 ⟨q1,q2,q3,q4,q5,q6,q7,q8⟩ q9;obtain⟨az,c',h1,h2,h3,h4,h5,h6,h7⟩:=wS hs Cu n bX c1 q2 q3 q4;refine⟨az,c',q1.trans h1,h2,h3,λj x hj=>?_,λj hj=>by rw[h5 j o_,q6 j hj],.cons (q9.mono h1) h6,by omega⟩;rw[iH]at hj;cases e:ag L j with
   |some y=>
    rw[e]at hj;injection hj with hj;subst hj;rw[h5 j (q8 j _ e).2];exact q5 j _ e
   |none=>rw[e]at hj;exact h4 j x hj
  cases a with
  |p u=>
   cases h;exact go [] k _ ι c (aLN hm ho hu) (.same qP)
  |r n xs=>
   obtain⟨bX,c1,q1,q2⟩:=Gk hm ho hu h qP;exact go _ _ _ bX c1 q1 q2
  |q xs=>
   obtain⟨bX,q1,q2,q3⟩:=aCn hm (hu k (bC _)) h (bB.1 qP) ho;exact go _ _ _ bX _ (Lz ho hu q1 q2 rfl) q3
  |f g xs=>
   obtain⟨u,rfl,ki⟩:=h;obtain⟨bX,q1,q2,q3⟩:=aCn hm (hu k (bC _)) ki (bB.1 qP) ho;exact go _ _ _ bX _ (Lz ho hu q1 q2 rfl) (.fn .nil (.cons q3 .nil))
  |b n xs=>
   obtain⟨b,o,u,rfl,hb,lK,jI⟩:=h;obtain⟨bX,c1,q1,q2⟩:=Gk hm ho hu jI qP;obtain⟨a1,a2,a3,a4,a5,a6,a7,a8⟩:=q1;have dH:aO B (dS bX (k+1) (.at b o 0)) (bA c1 (k+1) (.view [.slice (some ⟨k,0,some 7⟩) n 0])) w:=by
    refine a2.add (a4 _ (bC _)) (.inr ⟨b,o,0,[u],rfl,.cons (q2.mono (ij (a2.dF _ (a4 _ (bC _))))) .nil,λj x hj=>?_⟩) n_ n_ (λb1 o1 l8 _ e1=>?_)
    ·cases j with
     |zero=>simp at hj;subst hj;exact lK
     |succ j=>simp at hj
    ·injection e1 with e1 e2 e3;subst e1;exact⟨hb,λj y o' aU hj hy=>by rw[a3 j y hj]at hy;cases hy⟩
   have h2:=Lz a3 a4 (ij (a2.dF _ (a4 _ (bC _)))) dH rfl;have:=aK.ptr (off:=0) (gg bX (k+1) (.at b o 0));rw[jf]at this;exact go _ _ _ _ _ (Al.trans ⟨a1,a2,a3,a4,a5,a6,a7,a8⟩ h2) this
  |o F=>
   obtain⟨bX,c1,q1,q2⟩:=Vj hm ho hu h (by simpa[aR.ok]using qP);exact go _ _ _ bX c1 q1 q2
  |s n1 iS n2 jB F=>
   simp only[aR.ok,dr,zr]at qP;obtain⟨u1,u2,u3,rfl,r1,r2,r3⟩:=h;obtain⟨bX,c1,q1,p1⟩:=Gk hm ho hu r1 qP.1;obtain⟨dP,c2,q2,p2⟩:=Gk q1.2.1 q1.2.2.1 q1.2.2.2.1 r2 qP.2.1;obtain⟨PL,c3,q3,p3⟩:=Vj q2.2.1 q2.2.2.1 q2.2.2.2.1 r3 qP.2.2;exact go _ _ _ PL c3 (q1.trans (q2.trans q3)) (.agg (.cons (p1.mono (q2.1.trans q3.1)) (.cons (p2.mono q3.1) (.cons p3 .nil))))
  |a n1 iS n2 jB n3 Gj=>
   simp only[aR.ok,dr]at qP;obtain⟨u1,u2,u3,rfl,r1,r2,r3⟩:=h;obtain⟨bX,c1,q1,p1⟩:=Gk hm ho hu r1 qP.1;obtain⟨dP,c2,q2,p2⟩:=Gk q1.2.1 q1.2.2.1 q1.2.2.2.1 r2 qP.2.1;obtain⟨PL,c3,q3,p3⟩:=Gk q2.2.1 q2.2.2.1 q2.2.2.2.1 r3 qP.2.2;exact go _ _ _ PL c3 (q1.trans (q2.trans q3)) (.agg (.cons (p1.mono (q2.1.trans q3.1)) (.cons (p2.mono q3.1) (.cons p3 .nil))))
  |c u F=>
   simp only[aR.ok,dr,zr]at qP;obtain⟨t,rfl,h⟩:=h;obtain⟨bX,c1,q1,q2⟩:=Vj hm ho hu h qP.2;exact go _ _ _ bX c1 q1 (.agg (.cons (.same qP.1) (.cons q2 .nil)))
def cE(P:j_)(f:FuncId)(l:List aR)(res:i_):Prop:=
 ∀ w vs,uA w l vs->Calls P f vs.toArray w λe w'=>e=.returned res/\Below w.heap.size w w'
def lV(P:j_)(f:FuncId)(l:List aR)(ty:TypeId)(size n:Nat)(xs:ak):Prop:=
 ∀ w vs,uA w l vs->Calls P f vs.toArray w λe w'=>∃ v,e=.returned v/\w'.ownsRow w.heap.size ty size v n xs/\Below w.heap.size w w'
section
variable{P:j_}{B:aa}{N:Nat}
theorem jC{f:FuncId}{l:List aR}{v:i_}(gW:P.follows .mixedOrders=true)(hf:P.funcs[f]?=some fn)(hl:(l.all aR.ok)=true)(n:Nat){N:Nat}(hN:N=(eC 0 l).length+(fn.ntmps-(eC 0 l).length))
  (rs:∀ w,bM P (aa.at w) N) (h:∀ w,oq (gv (P:=P) fn n (eC 0 l) (ja 0 l) (jo 0 l) (rs w)) []=ou (gv fn n (eC 0 l) (ja 0 l) (jo 0 l) (rs w)) v []) (hv:flat v=true):cE P f l v:=by
 intro w vs cz;obtain⟨ι,c,h1,h2,h3,h4,h5,h6,h7⟩:=wS cz (bB.1 hl) 0 _ _ (rG w) n_ (λ_ _=>rfl);exact sO gW hf hN n (h w) h6 h2 h4 h3 λaz cr v' w' hle hc hm _=>⟨by rw[hc.eZ hv],hm.base⟩
theorem yo{f:FuncId}{l:List aR}{size m:Nat}{xs:ak}{k:Nat}(gW:P.follows .mixedOrders=true)(hf:P.funcs[f]?=some fn)(hl:(l.all aR.ok)=true)(n:Nat){N:Nat}(hN:N=(eC 0 l).length+(fn.ntmps-(eC 0 l).length))
  (rs:∀ w,bM P (aa.at w) N) (h:∀ w,oq (gv (P:=P) fn n (eC 0 l) (ja 0 l) (jo 0 l) (rs w)) [(k,.row xs ty size)]=ou (gv fn n (eC 0 l) (ja 0 l) (jo 0 l) (rs w)) (.slice (some ⟨k,0,some 7⟩) m 0) [(k,.row xs ty size)])
  (hx:(xs.all flat)=true) (hlen:xs.length=m*size):lV P f l ty size m xs:=by
 intro w vs cz;obtain⟨ι,c,h1,h2,h3,h4,h5,h6,h7⟩:=wS cz (bB.1 hl) 0 _ _ (rG w) n_ (λ_ _=>rfl);refine sO gW hf hN n (h w) h6 h2 h4 h3 λaz cr v' w' hle hc hm dQ=>⟨v',rfl,?_,hm.base⟩;have:=xI hm (dQ (k,_) (aT ..)) hc o_ (bB.1 hx);rwa[<-hlen,o5]at this
inductive gB(B:aa):List aR->ak->List (Nat×Option Obj)->Prop
 |nil:gB B [] [] []
 |p {v:i_} {l:List aR} {vs:ak} {nd:q_}:flat v=true->gB B l vs nd->gB B (.p v::l) (v::vs) nd
 |w {k n cc:Nat} {x:Obj} {l:List aR} {vs:ak} {nd:q_}:x.reads=true->(x.cells.all flat)=true->(n=0->x.cells=[])->gB B l vs nd->gB B (.r n x.cells::l) (.slice (some ⟨k,0,some 7⟩) n cc::vs) ((k,some x)::nd)
 |r {k off n cc len:Nat} {x:Obj} {l:List aR} {vs:ak} {nd:q_}:x.reads=true->(x.cells.all flat)=true->(n=0->len=0)->gB B l vs nd->gB B (.r n ((x.cells.drop off).take len)::l) (.slice (some ⟨k,off,some 7⟩) n cc::vs) ((k,some x)::nd)
 |q {k:Nat} {x:Obj} {l:List aR} {vs:ak} {nd:q_}:x.reads=true->(x.cells.all flat)=true->gB B l vs nd->gB B (.q x.cells::l) (.pointer (some ⟨k,0,some 7⟩)::vs) ((k,some x)::nd)
 |f {g:FuncId} {k:Nat} {x:Obj} {l:List aR} {vs:ak} {nd:q_}:x.reads=true->(x.cells.all flat)=true->gB B l vs nd->gB B (.f g x.cells::l) (.func (.func g) #[] #[.pointer (some ⟨k,0,some 7⟩)]::vs) ((k,some x)::nd)
 |b {k m n cc:Nat} {x y:Obj} {l:List aR} {vs:ak} {nd:q_}:y.reads=true->y.cells=[.slice (some ⟨k,0,some 7⟩) n cc]->x.reads=true->(x.cells.all flat)=true->(n=0->x.cells=[])->gB B l vs nd->gB B (.b n x.cells::l) (.pointer (some ⟨m,0,some 7⟩)::vs) ((m,some y)::(k,some x)::nd)
 |o {k:Nat} {F:Fact} {l:List aR} {vs:ak} {nd:q_}:gB B l vs nd->gB B (.o F::l) (.pointer (some ⟨k,0,some 9⟩)::vs) ((k,some (.fact F))::nd)
 |e {v:i_} {n:Nat} {xs:ak} {l:List aR} {vs:ak} {nd:q_}:flat v=true->(∀ w,B.G w->cW w v n xs)->gB B l vs nd->gB B (.r n xs::l) (v::vs) nd
 |s {k1 n1 c1 k2 n2 c2 k3:Nat} {x1 x2:Obj} {F:Fact} {l:List aR} {vs:ak} {nd:q_}:x1.reads=true->(x1.cells.all flat)=true->(n1=0->x1.cells=[])->x2.reads=true->(x2.cells.all flat)=true->(n2=0->x2.cells=[])->gB B l vs nd->
   gB B (.s n1 x1.cells n2 x2.cells F::l) (.agg #[.slice (some ⟨k1,0,some 7⟩) n1 c1,.slice (some ⟨k2,0,some 7⟩) n2 c2,.pointer (some ⟨k3,0,some 9⟩)]::vs) ((k1,some x1)::(k2,some x2)::(k3,some (.fact F))::nd)
 |oi {k:Nat} {F F':Fact} {l:List aR} {vs:ak} {nd:q_}:(∀ v w,F'.G v w->F.G v w)->gB B l vs nd->gB B (.o F::l) (.pointer (some ⟨k,0,some 9⟩)::vs) ((k,some (.fact F'))::nd)
 |si {k1 n1 c1 k2 n2 c2 k3:Nat} {x1 x2:Obj} {F F':Fact} {l:List aR} {vs:ak} {nd:q_}:(∀ v w,F'.G v w->F.G v w)->x1.reads=true->(x1.cells.all flat)=true->(n1=0->x1.cells=[])->x2.reads=true->(x2.cells.all flat)=true->(n2=0->x2.cells=[])->gB B l vs nd->
   gB B (.s n1 x1.cells n2 x2.cells F::l) (.agg #[.slice (some ⟨k1,0,some 7⟩) n1 c1,.slice (some ⟨k2,0,some 7⟩) n2 c2,.pointer (some ⟨k3,0,some 9⟩)]::vs) ((k1,some x1)::(k2,some x2)::(k3,some (.fact F'))::nd)
 |c {u:i_} {k:Nat} {F F':Fact} {l:List aR} {vs:ak} {nd:q_}:flat u=true->(∀ v w,F'.G v w->F.G v w)->gB B l vs nd->gB B (.c u F::l) (.agg #[u,.pointer (some ⟨k,0,some 9⟩)]::vs) ((k,some (.fact F'))::nd)
theorem Am{ι:Map}{c:g_}{w:h_}(hm:aO B ι c w){k:Nat}{F:Fact}{v:i_}(hk:c k=some (.fact F))(hc:aK ι (.pointer (some ⟨k,0,some 9⟩)) v):Ct w v F:=by
 obtain⟨l,h1,u,h2,h3⟩:=hm.born k _ hk;subst h2;generalize hp:Value.pointer (some ⟨k,0,some 9⟩)=p at hc;cases hc with
 |same h=>subst hp;cases h
 |ptr h=>injection hp with hp;injection hp with hp;injection hp with _ _ hp;cases hp
 |slc h=>cases hp
 |slcN h=>cases hp
 |opq h4 h5 h6=>
  injection hp with hp;injection hp with hp;injection hp with gQ;subst gQ;rw[h1]at h4;injection h4 with h4;injection h4 with h4;subst h4;exact⟨h3,h5,h6⟩
 |fn=>cases hp
 |agg=>cases hp
 |tup=>cases hp
theorem aCo{ι:Map}{c:g_}{w:h_}(hm:aO B ι c w){k:Nat}{x:Obj}{v:i_}(hk:c k=some x)(hx:x.reads=true)(cR:∀ u∈x.cells,flat u=true)(hc:aK ι (.pointer (some ⟨k,0,some 7⟩)) v):PK w v x.cells:=by
 obtain⟨b,o,cap,hb,rfl⟩:=hc.xt rfl;obtain⟨l,h1,h2⟩:=hm.born k x hk;dsimp only at hb;rw[hb]at h1;injection h1 with h1;subst h1;obtain⟨bL,gh,lK⟩:=h2.at hx;have gh:=oc gh cR;subst gh;refine⟨b,o,by simp,?_,λj u hj=>lK j u hj⟩;by_cases ho:x.owns=true
 ·exact(hm.own k x b o cap hk ho hb).1
 ·have hv:x.kh=true:=by unfold Obj.reads at hx;rw[vl]at hx;exact hx.resolve_left ho
  exact(hm.seen k x b o cap hk hv hb).1
theorem Cv{l:List aR}{vs:ak}{nd:q_}(h:gB B l vs nd){ι:Map}{c:g_}{w:h_}(hm:aO B ι c w):∀{args:ak},(∀ p∈nd,c p.1=p.2)->bW (aK ι) vs args->uA w l args:=by
 induction h with
 |nil=>intro args _ h;cases h;exact .nil
 |p hv _ ih=>
  intro args hn h;cases h with
  |cons h1 h2=>exact .cons (h1.eZ hv) (ih hn h2)
 |@w k n cc x l vs nd hx cR hlen _ ih=>
  intro args hn h;cases h with
  |cons h1 h2=>
   refine .cons ?_ (ih (λp hp=>hn p (bF _ hp)) h2);have:=po (len:=x.cells.length) hm (hn (k,some x) (aT ..)) hx (bB.1 cR) (λh=>by rw[hlen h];rfl) h1;rw[mT,o5]at this;exact this
 |@r k off n cc len x l vs nd hx cR hlen _ ih=>
  intro args hn h;cases h with
  |cons h1 h2=>
   refine .cons ?_ (ih (λp hp=>hn p (bF _ hp)) h2);exact po (len:=len) hm (hn (k,some x) (aT ..)) hx (bB.1 cR) hlen h1
 |@q k x l vs nd hx cR _ ih=>
  intro args hn h;cases h with
  |cons h1 h2=>exact .cons (aCo hm (hn (k,some x) (aT ..)) hx (bB.1 cR) h1) (ih (λp hp=>hn p (bF _ hp)) h2)
 |@f g k x l vs nd hx cR _ ih=>
  intro args hn h;cases h with
  |cons h1 h2=>
   refine .cons ?_ (ih (λp hp=>hn p (bF _ hp)) h2);obtain⟨kg,eh,rfl,q1,q2⟩:=h1.Bo;have ef:kg=#[]:=by
    cases jA:kg.toList with
    |nil=>exact IX.1 jA
    |cons _ _=>rw[jA]at q1;cases q1
   subst ef;have q2:bW (aK ι) [.pointer (some ⟨k,0,some 7⟩)] eh.toList:=q2;cases fA:eh.toList with
   |nil=>rw[fA]at q2;cases q2
   |cons u t=>
    rw[fA]at q2;cases q2 with
    |cons q3 q4=>
     cases q4;refine⟨u,?_,aCo hm (hn (k,some x) (aT ..)) hx (bB.1 cR) q3⟩
     congr 1
     apply E9;rw[fA]
 |@b k m n cc x y l vs nd hy hyc hx cR hlen _ ih=>
  intro args hn h;cases h with
  |@cons _ u _ _ h1 h2=>
   refine .cons ?_ (ih (λp hp=>hn p (bF _ (bF _ hp))) h2);obtain⟨b,o,cap,hb,rfl⟩:=h1.xt rfl;have hk:=hn (m,some y) (aT ..);obtain⟨lc,g1,g2⟩:=hm.born m y hk;dsimp only at hb;rw[hb]at g1;injection g1 with g1;subst g1;obtain⟨bL,gh,lK⟩:=g2.at hy;rw[hyc]at gh;obtain⟨u,rfl,hu⟩:=ob gh;have jI:=po (len:=x.cells.length) hm (hn (k,some x) (bF _ (aT ..))) hx (bB.1 cR) (λh=>by rw[hlen h];rfl) hu;rw[mT,o5]at jI;refine⟨b,o,u,by simp,?_,?_,jI⟩
   ·by_cases ho:y.owns=true
    ·exact(hm.own m y b o cap hk ho hb).1
    ·have hv:y.kh=true:=by unfold Obj.reads at hy;rw[vl]at hy;exact hy.resolve_left ho
     exact(hm.seen m y b o cap hk hv hb).1
   ·have:=lK 0 u rfl;simpa using this
 |@o k F l vs nd _ ih=>
  intro args hn h;cases h with
  |cons h1 h2=>exact .cons (Am hm (hn (k,_) (aT ..)) h1) (ih (λp hp=>hn p (bF _ hp)) h2)
 |@c u k F F' l vs nd hu hi _ ih=>
  intro args hn h;cases h with
  |cons h1 h2=>
   refine .cons ?_ (ih (λp hp=>hn p (bF _ hp)) h2);obtain⟨cs,rfl,gh⟩:=h1.Hy;obtain⟨a,b,ch,q1,q2⟩:=jv gh;have cg:=Am hm (hn (k,_) (aT ..)) q2;refine⟨b,?_,hi _ _ cg.1,cg.2⟩;rw[q1.eZ hu]at ch
   congr 1
   apply E9;rw[ch]
 |@e v n xs l vs nd hv hB _ ih=>
  intro args hn h;cases h with
  |cons h1 h2=>
   refine .cons ?_ (ih hn h2);rw[h1.eZ hv];exact hB w hm.base
 |@s k1 n1 c1 k2 n2 c2 k3 x1 x2 F l vs nd r1 f1 l1 r2 f2 l2 _ ih=>
  intro args hn h;cases h with
  |cons h1 h2=>
   refine .cons ?_ (ih (λp hp=>hn p (bF _ (bF _ (bF _ hp)))) h2);obtain⟨us,rfl,LA⟩:=h1.Hy;obtain⟨u1,u2,u3,hu,q1,q2,q3⟩:=J9 LA;have p1:=po (len:=x1.cells.length) hm (hn (k1,some x1) (aT ..)) r1 (bB.1 f1) (λh=>by rw[l1 h];rfl) q1;have p2:=po (len:=x2.cells.length) hm (hn (k2,some x2) (bF _ (aT ..))) r2 (bB.1 f2) (λh=>by rw[l2 h];rfl) q2;rw[mT,o5]at p1 p2;refine⟨u1,u2,u3,?_,p1,p2,Am hm (hn (k3,_) (bF _ (bF _ (aT ..)))) q3⟩
   congr 1
   rw[<-An (xs:=us),hu]
 |@oi k F F' l vs nd himp _ ih=>
  intro args hn h;cases h with
  |cons h1 h2=>
   have h3:=Am hm (hn (k,_) (aT ..)) h1;exact .cons ⟨himp _ _ h3.1,h3.2⟩ (ih (λp hp=>hn p (bF _ hp)) h2)
 |@si k1 n1 c1 k2 n2 c2 k3 x1 x2 F F' l vs nd himp r1 f1 l1 r2 f2 l2 _ ih=>
  intro args hn h;cases h with
  |cons h1 h2=>
   refine .cons ?_ (ih (λp hp=>hn p (bF _ (bF _ (bF _ hp)))) h2);obtain⟨us,rfl,LA⟩:=h1.Hy;obtain⟨u1,u2,u3,hu,q1,q2,q3⟩:=J9 LA;have p1:=po (len:=x1.cells.length) hm (hn (k1,some x1) (aT ..)) r1 (bB.1 f1) (λh=>by rw[l1 h];rfl) q1;have p2:=po (len:=x2.cells.length) hm (hn (k2,some x2) (bF _ (aT ..))) r2 (bB.1 f2) (λh=>by rw[l2 h];rfl) q2;rw[mT,o5]at p1 p2;have h3:=Am hm (hn (k3,_) (bF _ (bF _ (aT ..)))) q3;refine⟨u1,u2,u3,?_,p1,p2,⟨himp _ _ h3.1,h3.2⟩⟩
   congr 1
   rw[<-An (xs:=us),hu]
theorem dR{f:FuncId}{l:List aR}{vs:ak}{nd:q_}{o:Oper}{x:m_}(h:cE P f l res)(hs:gB B l vs nd)(ho:dD o.op=some x)(e8:gO P f=true)(Bz:flat res=true):
  cI P B o (.func (.func f) #[] #[]::vs) nd res []:=by
 have:=jV (P:=P) (B:=B) (o:=o) (x:=x) (f:=f) (fi:=[]) (args:=vs) (ca:=[]) (need:=nd) (val:=res) (cZ:=[]) ho e8 ?_
 ·simpa using this
 ·intro ι c w hm hn args' ha;rw[jg,jL]at ha;refine(h w args' (Cv hs hm hn ha)).mono ?_
  rintro e w' ⟨rfl,hb⟩
  exact⟨ι,res,rfl,Map.le.refl _,.same Bz,hm.call hb⟩
theorem aLO{f:FuncId}{l:List aR}{vs:ak}{nd:q_}{o:Oper}{x:m_}(h:cE P f l res)(hs:gB B l (vs++ca) nd)(ho:dD o.op=some x)(e8:gO P f=true)(Bz:flat res=true):
  cI P B o (.func (.func f) #[] ca.toArray::vs) nd res []:=by
 have:=jV (P:=P) (B:=B) (o:=o) (x:=x) (f:=f) (fi:=[]) (args:=vs) (ca:=ca) (need:=nd) (val:=res) (cZ:=[]) ho e8 ?_
 ·simpa using this
 ·intro ι c w hm hn args' ha;rw[jg]at ha;refine(h w args' (Cv hs hm hn ha)).mono ?_
  rintro e w' ⟨rfl,hb⟩
  exact⟨ι,res,rfl,Map.le.refl _,.same Bz,hm.call hb⟩
theorem rR{f:FuncId}{l:List aR}{size n:Nat}{xs:ak}{vs:ak}{nd:q_}{o:Oper}{x:m_}(h:lV P f l ty size n xs)(hs:gB B l vs nd)(ho:dD o.op=some x)(e8:gO P f=true)(hx:(xs.all flat)=true)(k:Nat):
  cI P B o (.func (.func f) #[] #[]::vs) ((k,none)::nd) (.slice (some ⟨k,0,some 7⟩) n 0) [(k,.row xs ty size)]:=by
 have:=jV (P:=P) (B:=B) (o:=o) (x:=x) (f:=f) (fi:=[]) (args:=vs) (ca:=[]) (need:=(k,none)::nd) (val:=.slice (some ⟨k,0,some 7⟩) n 0) (cZ:=[(k,.row xs ty size)]) ho e8 ?_
 ·simpa using this
 ·intro ι c w hm hn args' ha;rw[jg,jL]at ha;refine(h w args' (Cv hs hm (λp hp=>hn p (bF _ hp)) ha)).mono ?_
  rintro e w' ⟨v,rfl,h1,h2⟩
  obtain⟨az,q1,q2,q3⟩:=Fw hm h2 (k:=k) (hn (k,none) (aT ..)) h1 (bB.1 hx);exact⟨az,v,rfl,q1,q3,q2⟩
end
variable{q e off cc r k1 k2:Nat}{o:Oper}{f:FuncId}{B:aa}{xs vs:ak}
section
open CR OF
@[ext] structure V3 (α:Type) where
 x:α
 y:α
 z:α
namespace V3
section
variable{α:Type}
instance[Add α]:Add (V3 α):=⟨λu v=>⟨u.x+v.x,u.y+v.y,u.z+v.z⟩⟩
instance[Sub α]:Sub (V3 α):=⟨λu v=>⟨u.x-v.x,u.y-v.y,u.z-v.z⟩⟩
instance[Neg α]:Neg (V3 α):=⟨λu=>⟨-u.x,-u.y,-u.z⟩⟩
instance[Zero α]:Zero (V3 α):=⟨⟨0,0,0⟩⟩
def smul[Mul α](v:V3 α)(k:α):V3 α:=⟨v.x*k,v.y*k,v.z*k⟩
def dot[Add α][Mul α](u v:V3 α):α:=u.x*v.x+u.y*v.y+u.z*v.z
def af[Sub α][Mul α](u v:V3 α):V3 α:=⟨u.y*v.z-u.z*v.y,u.z*v.x-u.x*v.z,u.x*v.y-u.y*v.x⟩
def aW[Add α][Sub α][Mul α](u v w:V3 α):α:=dot u (af v w)
end
def V(i:Nat):V3 E:=⟨E.var (3*i),E.var (3*i+1),E.var (3*i+2)⟩
def S(j:Nat):E:=E.var (90+j)
def flat{F:Type}:List (V3 F)->List F
 |[]=>[]
 |v::vs=>v.x::v.y::v.z::flat vs
def PM{F:Type}[CR F](vs:List (V3 F))(ss:List F)(i:Nat):F:=cond (Nat.blt i 90) ((flat vs).getD i 0) (ss.getD (i-90) 0)
def aCp{F:Type}[CR F](ρ:Nat->F)(v:V3 E):V3 F:=⟨v.x.den ρ,v.y.den ρ,v.z.den ρ⟩
section
variable{F:Type}[CR F]
theorem ring(vs:List (V3 F))(ss:List F)(l r:(Nat->V3 E)->(Nat->E)->E)
  (h:E.peq (l V S).norm (r V S).norm=true) :
  (l V S).den (PM vs ss)=(r V S).den (PM vs ss):=E.prove _ _ _ h
theorem hY(vs:List (V3 F))(ss:List F)(l r:(Nat->V3 E)->(Nat->E)->V3 E)
  (h:(E.peq (l V S).x.norm (r V S).x.norm&&
   E.peq (l V S).y.norm (r V S).y.norm&&
   E.peq (l V S).z.norm (r V S).z.norm)=true) :
  aCp (PM vs ss) (l V S)=aCp (PM vs ss) (r V S):=by
 simp only[dr]at h;exact V3.ext (E.prove _ _ _ h.1.1) (E.prove _ _ _ h.1.2) (E.prove _ _ _ h.2)
theorem yp(u v:V3 F):dot u v=dot v u:=ring [u,v] [] (λV _=>dot (V 0) (V 1)) (λV _=>dot (V 1) (V 0)) d_
theorem jq(u v w:V3 F):dot u (v+w)=dot u v+dot u w:=ring [u,v,w] [] (λV _=>dot (V 0) (V 1+V 2)) (λV _=>dot (V 0) (V 1)+dot (V 0) (V 2)) d_
theorem gT(u v w:V3 F):dot u (v-w)=dot u v-dot u w:=ring [u,v,w] [] (λV _=>dot (V 0) (V 1-V 2)) (λV _=>dot (V 0) (V 1)-dot (V 0) (V 2)) d_
theorem rS(u v:V3 F):dot u (-v)=-dot u v:=ring [u,v] [] (λV _=>dot (V 0) (-V 1)) (λV _=>-dot (V 0) (V 1)) d_
theorem yq(u v:V3 F):dot (-u) v=-dot u v:=ring [u,v] [] (λV _=>dot (-V 0) (V 1)) (λV _=>-dot (V 0) (V 1)) d_
theorem gC(u v:V3 F)(k:F):dot u (smul v k)=dot u v*k:=ring [u,v] [k] (λV S=>dot (V 0) (smul (V 1) (S 0))) (λV S=>dot (V 0) (V 1)*S 0) d_
theorem PN(u v w:V3 F):dot (u+v) w=dot u w+dot v w:=ring [u,v,w] [] (λV _=>dot (V 0+V 1) (V 2)) (λV _=>dot (V 0) (V 2)+dot (V 1) (V 2)) d_
theorem LB(u v:V3 F)(k:F):dot (smul u k) v=dot u v*k:=ring [u,v] [k] (λV S=>dot (smul (V 0) (S 0)) (V 1)) (λV S=>dot (V 0) (V 1)*S 0) d_
theorem yr(u:V3 F):dot u 0=0:=by show u.x*0+u.y*0+u.z*0=0;rw[CR.mul_zero,CR.mul_zero,CR.mul_zero,CR.add_zero,CR.add_zero]
theorem aCq(u:V3 F):dot 0 u=0:=by rw[yp,yr]
theorem Ea(u v:V3 F):dot u (af u v)=0:=ring [u,v] [] (λV _=>dot (V 0) (af (V 0) (V 1))) (λ_ _=>0) d_
theorem Ao(u v:V3 F):dot v (af u v)=0:=ring [u,v] [] (λV _=>dot (V 1) (af (V 0) (V 1))) (λ_ _=>0) d_
theorem LC(u:V3 F):af u u=0:=hY [u] [] (λV _=>af (V 0) (V 0)) (λ_ _=>0) d_
theorem Gl(u v:V3 F):af v u=-af u v:=hY [u,v] [] (λV _=>af (V 1) (V 0)) (λV _=>-af (V 0) (V 1)) d_
theorem Gm(u v w:V3 F):aW u v w=aW v w u:=ring [u,v,w] [] (λV _=>aW (V 0) (V 1) (V 2)) (λV _=>aW (V 1) (V 2) (V 0)) d_
theorem Vk(u v w:V3 F):aW u w v=-aW u v w:=ring [u,v,w] [] (λV _=>aW (V 0) (V 2) (V 1)) (λV _=>-aW (V 0) (V 1) (V 2)) d_
theorem neg_neg(u:V3 F):- -u=u:=hY [u] [] (λV _=>- -V 0) (λV _=>V 0) d_
theorem sub_self(u:V3 F):u-u=0:=hY [u] [] (λV _=>V 0-V 0) (λ_ _=>0) d_
theorem add_zero(u:V3 F):u+0=u:=V3.ext (CR.add_zero _) (CR.add_zero _) (CR.add_zero _)
theorem add_sub_cancel(u v:V3 F):u+(v-u)=v:=hY [u,v] [] (λV _=>V 0+(V 1-V 0)) (λV _=>V 1) d_
theorem smul_zero(u:V3 F):smul u 0=0:=V3.ext (CR.mul_zero _) (CR.mul_zero _) (CR.mul_zero _)
theorem Vl(u:V3 F):smul u 1=u:=V3.ext (CR.mul_one _) (CR.mul_one _) (CR.mul_one _)
theorem PO(u:V3 F)(a b:F):smul (smul u a) b=smul u (a*b):=V3.ext (CR.mul_assoc _ _ _) (CR.mul_assoc _ _ _) (CR.mul_assoc _ _ _)
theorem neg_zero:-(0:V3 F)=0:=V3.ext CR.neg_zero CR.neg_zero CR.neg_zero
end
section
variable{F:Type}[OF F]
theorem sub_eq_zero{u v:V3 F}:u-v=0↔u=v:=by
 constructor
 ·intro h;exact V3.ext (OF.sub_eq_zero.1 (cO V3.x h)) (OF.sub_eq_zero.1 (cO V3.y h)) (OF.sub_eq_zero.1 (cO V3.z h))
 ·rintro rfl;exact sub_self u
theorem Cw{u:V3 F}(h:u≠0):0<dot u u:=by
 by_cases hx:u.x=0
 ·by_cases hy:u.y=0
  ·have hz:u.z≠0:=λhz=>h (V3.ext hx hy hz);exact aBw (add_nonneg (nM _) (nM _)) (Uq hz)
  ·exact IA (aBw (nM _) (Uq hy)) (nM _)
 ·exact IA (IA (Uq hx) (nM _)) (nM _)
theorem Ap{u:V3 F}(h:u≠0):dot u u≠0:=OF.ne_of_gt (Cw h)
theorem aLP{u:V3 F}{k:F}(h:smul u k=0):u=0\/k=0:=by
 by_cases hk:k=0
 ·exact .inr hk
 ·left;have hx:=(mul_eq_zero.1 (cO V3.x h:u.x*k=0)).resolve_right hk;have hy:=(mul_eq_zero.1 (cO V3.y h:u.y*k=0)).resolve_right hk;have hz:=(mul_eq_zero.1 (cO V3.z h:u.z*k=0)).resolve_right hk;exact V3.ext hx hy hz
theorem neg_eq_zero{u:V3 F}:-u=0↔u=0:=by
 constructor
 ·intro h;rw[<-neg_neg u,h,neg_zero]
 ·rintro rfl;exact neg_zero
theorem Gn{a b c v:V3 F}(hd:aW a b c≠0)(ha:dot a v=0)(hb:dot b v=0)(hc:dot c v=0):v=0:=by
 have e:smul v (aW a b c)=smul (af b c) (dot a v)+smul (af c a) (dot b v)+smul (af a b) (dot c v):=
  hY [a,b,c,v] [] (λV _=>smul (V 3) (aW (V 0) (V 1) (V 2)))
   (λV _=>smul (af (V 1) (V 2)) (dot (V 0) (V 3))+smul (af (V 2) (V 0)) (dot (V 1) (V 3))+smul (af (V 0) (V 1)) (dot (V 2) (V 3))) d_
 rw[ha,hb,hc,smul_zero,smul_zero,smul_zero,add_zero,add_zero]at e;exact(aLP e).resolve_right hd
theorem LD{a b v:V3 F}(hd:af a b≠0)(ha:dot a v=0)(hb:dot b v=0):v=smul (af a b) (dot (af a b) v*(dot (af a b) (af a b))⁻¹):=by
 have aQ:=Ap hd;have e:smul v (dot (af a b) (af a b))=smul (af a b) (dot (af a b) v)+smul (af b (af a b)) (dot a v)+smul (af (af a b) a) (dot b v):=
  hY [a,b,v] [] (λV _=>smul (V 2) (dot (af (V 0) (V 1)) (af (V 0) (V 1))))
   (λV _=>smul (af (V 0) (V 1)) (dot (af (V 0) (V 1)) (V 2))+smul (af (V 1) (af (V 0) (V 1))) (dot (V 0) (V 2))+smul (af (af (V 0) (V 1)) (V 0)) (dot (V 1) (V 2))) d_
 rw[ha,hb,smul_zero,smul_zero,add_zero,add_zero]at e;rw[<-PO,<-e,PO,jn _ aQ,Vl]
end
end V3
end
variable{α:Type}{z:Int}{acc:List (V3 K)}
section
open CR OF V3
@[ext] structure HS (F:Type) where
 n:V3 F
 d:F
section
variable{F:Type}[OF F]
def dZ(ps:List (HS F))(v:V3 F):Prop:=∀ p∈ps,dot p.n v<=p.d
def cy(p:HS F)(v:V3 F):Prop:=dot p.n v=p.d
def Cl(ps:List (HS F)):Prop:=
 (∃ p∈ps,∃ q∈ps,af p.n q.n≠0)/\∀ p∈ps,∀ q∈ps,af p.n q.n≠0->∃ r∈ps,0<dot r.n (af p.n q.n)
def fH(ps:List (HS F)):Prop:=∀ p∈ps,p.n≠0
theorem LF{d:V3 F}(h:d≠0):∃ u:V3 F,u≠0/\dot d u=0:=by
 by_cases hz:d.z=0
 ·by_cases hy:d.y=0
  ·have hx:d.x≠0:=λhx=>h (V3.ext hx hy hz);refine⟨⟨d.z,0,-d.x⟩,λe=>hx ?_,ring [d] [] (λV _=>dot (V 0) ⟨(V 0).z,0,-(V 0).x⟩) (λ_ _=>0) d_⟩;have:-d.x=0:=cO V3.z e;rw[<-CR.neg_neg d.x,this,CR.neg_zero]
  ·refine⟨⟨-d.y,d.x,0⟩,λe=>hy ?_,ring [d] [] (λV _=>dot (V 0) ⟨-(V 0).y,(V 0).x,0⟩) (λ_ _=>0) d_⟩;have:-d.y=0:=cO V3.x e;rw[<-CR.neg_neg d.y,this,CR.neg_zero]
 ·refine⟨⟨0,-d.z,d.y⟩,λe=>hz ?_,ring [d] [] (λV _=>dot (V 0) ⟨0,-(V 0).z,(V 0).y⟩) (λ_ _=>0) d_⟩;have:-d.z=0:=cO V3.y e;rw[<-CR.neg_neg d.z,this,CR.neg_zero]
theorem aLQ(l:List (F×F))(h0:∀ x∈l,0<=x.2)(hp:∃ x∈l,0<x.1):
  ∃ t:F,0<=t/\(∃ x∈l,0<x.1/\x.1*t=x.2)/\∀ x∈l,x.1*t<=x.2:=by
 induction l with
 |nil=>obtain⟨x,hx,_⟩:=hp;cases hx
 |cons y l ih=>
  obtain⟨a,b⟩:=y;have hb:0<=b:=h0 _ (aT ..);have h0':∀ x∈l,0<=x.2:=λx hx=>h0 x (bF _ hx)
  -- t=b/a aWI,if it is at most t' aWJ t' is aWK
  have new:0<a->(∀ x∈l,0<x.1->x.1*(b*a⁻¹)<=x.2)->
    ∃ t:F,0<=t/\(∃ x∈(a,b)::l,0<x.1/\x.1*t=x.2)/\∀ x∈(a,b)::l,x.1*t<=x.2:=by
   intro ha hl;have e:a*(b*a⁻¹)=b:=by rw[CR.mul_left_comm,jn _ (OF.ne_of_gt ha),CR.mul_one]
   have ht:0<=b*a⁻¹:=mul_nonneg hb (le_of_lt (inv_pos ha));refine⟨b*a⁻¹,ht,⟨_,aT ..,ha,e⟩,?_⟩;intro x hx;rcases cC.1 hx with rfl|hx
   ·exact OF.le_of_eq e
   ·by_cases h:0<x.1
    ·exact hl x hx h
    ·refine OF.le_trans ?_ (h0' x hx);rw[<-neg_nonneg,<-CR.neg_mul];exact mul_nonneg (neg_nonneg.2 (OF.not_lt.1 h)) ht
  by_cases hl:∃ x∈l,0<x.1
  ·obtain⟨t,ht,⟨x,hx,lC,Aq⟩,bh⟩:=ih h0' hl;by_cases mg:a*t<=b
   ·exact⟨t,ht,⟨x,bF _ hx,lC,Aq⟩,λz hz=>by
     rcases cC.1 hz with rfl|hz
     ·exact mg
     ·exact bh z hz⟩
   ·have PQ:=OF.not_le.1 mg;have ha:0<a:=by
     rcases OF.lt_trichotomy 0 a with h|h|h
     ·exact h
     ·rw[<-h,CR.zero_mul]at PQ;exact absurd (OF.lt_of_le_of_lt hb PQ) (OF.lt_irrefl _)
     ·have:=mul_nonneg (neg_nonneg.2 (le_of_lt h)) ht;rw[CR.neg_mul,neg_nonneg]at this;exact absurd (OF.lt_of_le_of_lt hb (OF.lt_of_lt_of_le PQ this)) (OF.lt_irrefl _)
    refine new ha λz hz xx=>?_;refine OF.le_trans ?_ (bh z hz);refine le_of_lt ((mul_lt_mul_left xx).2 ?_);rw[<-mul_lt_mul_left ha,CR.mul_left_comm,jn _ (OF.ne_of_gt ha),CR.mul_one];exact PQ
  ·obtain⟨x,hx,lC⟩:=hp;rcases cC.1 hx with rfl|hx
   ·exact new lC λz hz xx=>(hl ⟨z,hz,xx⟩).elim
   ·exact(hl ⟨x,hx,lC⟩).elim
theorem zw{ps:List (HS F)}{v u:V3 F}(hv:dZ ps v)(hu:∃ p∈ps,0<dot p.n u):
  ∃ t:F,0<=t/\(∃ q∈ps,0<dot q.n u/\cy q (v+smul u t))/\dZ ps (v+smul u t):=by
 obtain⟨t,ht,⟨x,hx,lC,Aq⟩,bh⟩:=aLQ (ps.map λp=>(dot p.n u,p.d-dot p.n v))
  (λx hx=>by obtain⟨p,hp,rfl⟩:=db.1 hx;exact OF.sub_nonneg.2 (hv p hp))
  (by obtain⟨p,hp,h⟩:=hu;exact⟨_,db.2 ⟨p,hp,rfl⟩,h⟩)
 obtain⟨q,hq,rfl⟩:=db.1 hx;have e:∀ p:HS F,dot p.n (v+smul u t)=dot p.n v+dot p.n u*t:=λp=>by rw[jq,gC]
 refine⟨t,ht,⟨q,hq,lC,?_⟩,?_⟩
 ·unfold cy;rw[e,Aq];exact jN (dot q.n v) q.d (λa d=>a+(d-a)) (λ_ d=>d) d_
 ·intro p hp;have:=bh _ (db.2 ⟨p,hp,rfl⟩);rw[e];have h2:=(add_le_add_left (dot p.n v)).2 this;rwa[show dot p.n v+(p.d-dot p.n v)=p.d from jN (dot p.n v) p.d (λa d=>a+(d-a)) (λ_ d=>d) d_]at h2
theorem LG{p q u:V3 F}(hp:p≠0)(h:af p q=0)(hu:dot p u=0):dot q u=0:=by
 have e:dot q u*dot p p=dot p u*dot p q-dot (af p (af p q)) u:=
  ring [p,q,u] [] (λV _=>dot (V 1) (V 2)*dot (V 0) (V 0)) (λV _=>dot (V 0) (V 2)*dot (V 0) (V 1)-dot (af (V 0) (af (V 0) (V 1))) (V 2)) d_
 have z:af p (0:V3 F)=0:=hY [p] [] (λV _=>af (V 0) 0) (λ_ _=>0) d_;rw[h,hu,z,aCq,CR.zero_mul,OF.sub_zero]at e;exact(mul_eq_zero.1 e).resolve_right (Ap hp)
theorem Gp{p d:V3 F}(hp:p≠0)(hd:d≠0)(h:dot p d=0):af p d≠0:=by
 intro e;have e2:dot (af p d) (af p d)=dot p p*dot d d-dot p d*dot p d:=
  ring [p,d] [] (λV _=>dot (af (V 0) (V 1)) (af (V 0) (V 1))) (λV _=>dot (V 0) (V 0)*dot (V 1) (V 1)-dot (V 0) (V 1)*dot (V 0) (V 1)) d_
 rw[e,h,yr,CR.mul_zero,OF.sub_zero]at e2;exact mul_ne_zero (Ap hp) (Ap hd) e2.symm
theorem Vm{d u:V3 F}{t:F}(hd:d≠0)(h:dot d u=0):d+smul u t≠0:=by intro e;have:=cO (dot d) e;rw[jq,gC,h,CR.zero_mul,CR.add_zero,yr]at this;exact Ap hd this
theorem aCr{ns:List (V3 F)}(hs:∃ a∈ns,∃ b∈ns,∃ c∈ns,aW a b c≠0){u:V3 F}(hu:u≠0):
  (∃ n∈ns,0<dot n u)\/(∃ n∈ns,0<dot n (-u)):=by
 obtain⟨a,ha,b,hb,c,hc,hd⟩:=hs;have key:∀ n∈ns,dot n u≠0->(∃ n∈ns,0<dot n u)\/(∃ n∈ns,0<dot n (-u)):=by
  intro n hn h;rcases OF.lt_trichotomy 0 (dot n u)with k|k|k
  ·exact .inl ⟨n,hn,k⟩
  ·exact absurd k.symm h
  ·exact .inr ⟨n,hn,by rw[rS];exact neg_pos.2 k⟩
 by_cases h1:dot a u=0
 ·by_cases h2:dot b u=0
  ·by_cases h3:dot c u=0
   ·exact absurd (Gn hd h1 h2 h3) hu
   ·exact key c hc h3
  ·exact key b hb h2
 ·exact key a ha h1
theorem ray{ns:List (V3 F)}(h0:∀ n∈ns,n≠0)(hs:∃ a∈ns,∃ b∈ns,∃ c∈ns,aW a b c≠0){d:V3 F}(hd:d≠0)(cz:∀ n∈ns,dot n d<=0):
  ∃ p∈ns,∃ q∈ns,af p q≠0/\∀ n∈ns,dot n (af p q)<=0:=by
 -- one PR
 have Vn:∀{v u:V3 F},(∀ n∈ns,dot n v<=0)->(∃ n∈ns,0<dot n u)->∃ t:F,(∃ q∈ns,0<dot q u/\dot q (v+smul u t)=0)/\∀ n∈ns,dot n (v+smul u t)<=0:=by
  intro v u hv hu
  obtain⟨t,_,⟨q,hq,nJ,wT⟩,bh⟩:=zw (ps:=ns.map λn=>⟨n,0⟩) (v:=v) (u:=u)
   (λp hp=>by obtain⟨n,hn,rfl⟩:=db.1 hp;exact hv n hn)
   (by obtain⟨n,hn,h⟩:=hu;exact⟨⟨n,0⟩,db.2 ⟨n,hn,rfl⟩,h⟩)
  obtain⟨n,hn,rfl⟩:=db.1 hq;exact⟨t,⟨n,hn,nJ,wT⟩,λm hm=>bh ⟨m,0⟩ (db.2 ⟨m,hm,rfl⟩)⟩
 have one:∃ d1:V3 F,d1≠0/\(∃ p∈ns,dot p d1=0)/\∀ n∈ns,dot n d1<=0:=by
  obtain⟨u,hu,PS⟩:=LF hd;rcases aCr hs hu with h|h
  ·obtain⟨t,⟨q,hq,_,wT⟩,bh⟩:=Vn cz h;exact⟨_,Vm hd PS,⟨q,hq,wT⟩,bh⟩
  ·obtain⟨t,⟨q,hq,_,wT⟩,bh⟩:=Vn cz h;exact⟨_,Vm hd (by rw[rS,PS,CR.neg_zero]),⟨q,hq,wT⟩,bh⟩
 obtain⟨d1,Gq,⟨p,hp,HH⟩,Vo⟩:=one;have Eb:=h0 p hp;have fin:∀ u:V3 F,dot p u=0->dot d1 u=0->(∃ n∈ns,0<dot n u)->∃ p∈ns,∃ q∈ns,af p q≠0/\∀ n∈ns,dot n (af p q)<=0:=by
  intro u Cx PS h;obtain⟨t,⟨q,hq,LH,wT⟩,bh⟩:=Vn Vo h;have aQ:af p q≠0:=λe=>by rw[LG Eb e Cx]at LH;exact OF.lt_irrefl _ LH
  have Lh:d1+smul u t≠0:=Vm Gq PS;have Ar:dot p (d1+smul u t)=0:=by rw[jq,gC,Cx,HH,CR.zero_mul,CR.add_zero]
  have e:=LD aQ Ar wT;generalize dot (af p q) (d1+smul u t)*(dot (af p q) (af p q))⁻¹=k at e;rcases OF.lt_trichotomy 0 k with hk|hk|hk
  ·refine⟨p,hp,q,hq,aQ,λn hn=>?_⟩;have:=bh n hn;rw[e,gC,CR.mul_comm]at this;rw[<-CR.mul_zero k,mul_le_mul_left hk]at this;exact this
  ·rw[<-hk,smul_zero]at e;exact absurd e Lh
  ·refine⟨q,hq,p,hp,λe'=>aQ (by rw[Gl,e',V3.neg_zero]),λn hn=>?_⟩;have:=bh n hn;rw[e,gC,Gl q p,rS,CR.neg_mul,<-CR.mul_neg,CR.mul_comm]at this;rw[<-CR.mul_zero (-k),mul_le_mul_left (neg_pos.2 hk)]at this;exact this
 have hc:=Gp Eb Gq HH;rcases aCr hs hc with h|h
 ·exact fin _ (Ea p d1) (Ao p d1) h
 ·exact fin _ (by rw[rS,Ea,CR.neg_zero]) (by rw[rS,Ao,CR.neg_zero]) h
theorem Cl.span{ps:List (HS F)}(h:Cl ps):∃ a∈ps.map HS.n,∃ b∈ps.map HS.n,∃ c∈ps.map HS.n,aW a b c≠0:=by obtain⟨⟨p,hp,q,hq,Gb⟩,iG⟩:=h;obtain⟨r,hr,h⟩:=iG p hp q hq Gb;exact⟨r.n,db.2 ⟨r,hr,rfl⟩,p.n,db.2 ⟨p,hp,rfl⟩,q.n,db.2 ⟨q,hq,rfl⟩,OF.ne_of_gt h⟩
theorem Cl.bounds{ps:List (HS F)}(h:Cl ps)(hp:fH ps){u:V3 F}(hu:u≠0):∃ r∈ps,0<dot r.n u:=by
 apply gR;intro fX;have cz:∀ n∈ps.map HS.n,dot n u<=0:=by intro n hn;obtain⟨p,hp,rfl⟩:=db.1 hn;exact OF.not_lt.1 λk=>fX ⟨p,hp,k⟩
 obtain⟨a,ha,b,hb,aQ,bh⟩:=ray (λn hn=>by obtain⟨p,fE,rfl⟩:=db.1 hn;exact hp p fE) h.span hu cz;obtain⟨p,fE,rfl⟩:=db.1 ha;obtain⟨q,pJ,rfl⟩:=db.1 hb;obtain⟨r,hr,nK⟩:=h.2 p fE q pJ aQ;exact OF.lt_irrefl _ (OF.lt_of_lt_of_le nK (bh r.n (db.2 ⟨r,hr,rfl⟩)))
def j5(ps:List (HS F))(v:V3 F):Prop:=
 dZ ps v/\∃ p∈ps,∃ q∈ps,∃ r∈ps,aW p.n q.n r.n≠0/\cy p v/\cy q v/\cy r v
theorem top{ps:List (HS F)}(hc:Cl ps)(hp:fH ps){x m:V3 F}(hx:dZ ps x):∃ v,j5 ps v/\dot m x<=dot m v:=by
 -- a step along a line
 have go:∀{x u:V3 F},dZ ps x->u≠0->∃ u':V3 F,(u'=u\/u'=-u)/\∃ t:F,(∃ q∈ps,0<dot q.n u'/\cy q (x+smul u' t))/\dZ ps (x+smul u' t)/\dot m x<=dot m (x+smul u' t):=by
  have half:∀{x u:V3 F},dZ ps x->u≠0->0<=dot m u->∃ t:F,(∃ q∈ps,0<dot q.n u/\cy q (x+smul u t))/\dZ ps (x+smul u t)/\dot m x<=dot m (x+smul u t):=by intro x u hx hu hm;obtain⟨t,ht,hq,cz⟩:=zw hx (hc.bounds hp hu);refine⟨t,hq,cz,?_⟩;rw[jq,gC];have:=(add_le_add_left (dot m x)).2 (mul_nonneg hm ht);rwa[CR.add_zero]at this
  intro x u hx hu;rcases OF.le_total 0 (dot m u)with h|h
  ·exact⟨u,.inl rfl,half hx hu h⟩
  ·exact⟨-u,.inr rfl,half hx (λe=>hu (neg_eq_zero.1 e)) (by rw[rS];exact neg_nonneg.2 h)⟩
 obtain⟨⟨p0,Eb,_⟩,_⟩:=hc;obtain⟨u1,_,t1,⟨p,jb,_,Ar⟩,Vo,c8⟩:=go hx (hp p0 Eb);generalize x+smul u1 t1=x1 at *;obtain⟨u,hu,Cx⟩:=LF (hp p jb);obtain⟨u2,h2,t2,⟨q,lW,nJ,wT⟩,aLR,dH⟩:=go Vo hu;have aCs:dot p.n u2=0:=by
  rcases h2 with rfl|rfl
  ·exact Cx
  ·rw[rS,Cx,CR.neg_zero]
 have aLS:cy p (x1+smul u2 t2):=by unfold cy at *;rw[jq,gC,aCs,CR.zero_mul,CR.add_zero,Ar]
 generalize x1+smul u2 t2=x2 at *;have aQ:af p.n q.n≠0:=λe=>by rw[LG (hp p jb) e aCs]at nJ;exact OF.lt_irrefl _ nJ
 obtain⟨u3,h3,t3,⟨r,hrm,nK,Gr⟩,aLT,wm⟩:=go aLR aQ;have aCt:dot p.n u3=0/\dot q.n u3=0:=by
  rcases h3 with rfl|rfl
  ·exact⟨Ea _ _,Ao _ _⟩
  ·rw[rS,rS,Ea,Ao,CR.neg_zero];exact⟨rfl,rfl⟩
 refine⟨_,⟨aLT,p,jb,q,lW,r,hrm,?_,?_,?_,Gr⟩,OF.le_trans c8 (OF.le_trans dH wm)⟩
 ·intro e;have e2:dot r.n (af p.n q.n)=0:=by rw[show dot r.n (af p.n q.n)=aW r.n p.n q.n from rfl,Gm];exact e
  rcases h3 with rfl|rfl
  ·rw[e2]at nK;exact OF.lt_irrefl _ nK
  ·rw[rS,e2,CR.neg_zero]at nK;exact OF.lt_irrefl _ nK
 ·unfold cy at *;rw[jq,gC,aCt.1,CR.zero_mul,CR.add_zero,aLS]
 ·unfold cy at *;rw[jq,gC,aCt.2,CR.zero_mul,CR.add_zero,wT]
theorem aLU{ps:List (HS F)}(hp:fH ps){v x:V3 F}(hv:j5 ps v)(hx:dZ ps x)(aQ:x≠v):
  ∃ p∈ps,∃ q∈ps,cy p v/\cy q v/\af p.n q.n≠0/\∀ r∈ps,cy r v->dot r.n (af p.n q.n)<=0:=by
 classical
 obtain⟨_,a,ha,b,hb,c,hc,hd,ta,tb,tc⟩:=hv
 let ts:=ps.filter λp=>decide (cy p v)
 have mem:∀ p,p∈ts↔p∈ps/\cy p v:=λp=>by simp[ts]
 obtain⟨n,hn,m,hm,kE,bh⟩:=ray (ns:=ts.map HS.n) (d:=x-v)
  (λn hn=>by obtain⟨p,fE,rfl⟩:=db.1 hn;exact hp p ((mem p).1 fE).1)
  ⟨a.n,db.2 ⟨a,(mem a).2 ⟨ha,ta⟩,rfl⟩,b.n,db.2 ⟨b,(mem b).2 ⟨hb,tb⟩,rfl⟩,c.n,db.2 ⟨c,(mem c).2 ⟨hc,tc⟩,rfl⟩,hd⟩
  (λe=>aQ (V3.sub_eq_zero.1 e))
  (λn hn=>by obtain⟨p,fE,rfl⟩:=db.1 hn;obtain⟨gQ,ht⟩:=(mem p).1 fE;rw[gT,show dot p.n v=p.d from ht,<-neg_nonneg,OF.neg_sub];exact OF.sub_nonneg.2 (hx p gQ))
 obtain⟨p,fE,rfl⟩:=db.1 hn;obtain⟨q,pJ,rfl⟩:=db.1 hm;exact⟨p,((mem p).1 fE).1,q,((mem q).1 pJ).1,((mem p).1 fE).2,((mem q).1 pJ).2,kE,λr hr ht=>bh r.n (db.2 ⟨r,(mem r).2 ⟨hr,ht⟩,rfl⟩)⟩
end
structure jc(F:Type)[OF F] where
 fw:V3 F->Prop
 add:∀{x y},fw x->fw y->fw (x+y)
 mul:∀{x k},fw x->0<k->fw (smul x k)
 asymm:∀{x},fw x->fw (-x)->False
namespace jc
variable{F:Type}[OF F](H:jc F)
theorem zero{H:jc F}:¬H.fw 0:=λh=>H.asymm h (by rw[V3.neg_zero];exact h)
def opp:jc F where
 fw v:=H.fw (-v)
 add {x y} hx hy:=by rw[show -(x+y)=-x+-y from hY [x,y] [] (λV _=>-(V 0+V 1)) (λV _=>-V 0+-V 1) d_];exact H.add hx hy
 mul {x k} hx hk:=by rw[show -(smul x k)=smul (-x) k from hY [x] [k] (λV S=>-(smul (V 0) (S 0))) (λV S=>smul (-V 0) (S 0)) d_];exact H.mul hx hk
 asymm {x} h k:=H.asymm h k
theorem ne{H:jc F}{a b:V3 F}(h:H.fw (b-a)):a≠b:=by rintro rfl;rw[V3.sub_self]at h;exact zero h
theorem aCu{H:jc F}{a b c:V3 F}(h:H.fw (b-a))(k:H.fw (c-b)):H.fw (c-a):=by rw[show c-a=(b-a)+(c-b)from hY [a,b,c] [] (λV _=>V 2-V 0) (λV _=>(V 1-V 0)+(V 2-V 1)) d_];exact H.add h k
theorem IY{H:jc F}{a b:V3 F}(h:H.fw (b-a))(k:H.fw (a-b)):False:=by apply H.asymm h;rw[show -(b-a)=a-b from hY [a,b] [] (λV _=>-(V 1-V 0)) (λV _=>V 0-V 1) d_];exact k
end jc
section
variable{F:Type}[OF F](n:V3 F)
def tr(x y:V3 F):F:=dot n (af x y)
def turn(a b c:V3 F):F:=dot n (af (b-a) (c-a))
theorem Gs(a b c:V3 F):turn n a b c=turn n b c a:=
 ring [n,a,b,c] [] (λV _=>dot (V 0) (af (V 2-V 1) (V 3-V 1))) (λV _=>dot (V 0) (af (V 3-V 2) (V 1-V 2))) d_
theorem Vp(a b c:V3 F):turn n a c b=-turn n a b c:=
 ring [n,a,b,c] [] (λV _=>dot (V 0) (af (V 3-V 1) (V 2-V 1))) (λV _=>-dot (V 0) (af (V 2-V 1) (V 3-V 1))) d_
theorem Vq(a b c:V3 F):turn n a b c=tr n (b-a) (c-b):=
 ring [n,a,b,c] [] (λV _=>dot (V 0) (af (V 2-V 1) (V 3-V 1))) (λV _=>dot (V 0) (af (V 2-V 1) (V 3-V 2))) d_
theorem aLV(a b c:V3 F):turn n a b c=tr n (b-a) (c-a):=rfl
theorem PT(x y:V3 F):tr n y x=-tr n x y:=
 ring [n,x,y] [] (λV _=>dot (V 0) (af (V 2) (V 1))) (λV _=>-dot (V 0) (af (V 1) (V 2))) d_
theorem Vr(x y:V3 F):tr n x (-y)=-tr n x y:=
 ring [n,x,y] [] (λV _=>dot (V 0) (af (V 1) (-V 2))) (λV _=>-dot (V 0) (af (V 1) (V 2))) d_
theorem aLW(x:V3 F):tr n x x=0:=ring [n,x] [] (λV _=>dot (V 0) (af (V 1) (V 1))) (λ_ _=>0) d_
theorem Cy(a b:V3 F):b-a=-(a-b):=hY [a,b] [] (λV _=>V 1-V 0) (λV _=>-(V 0-V 1)) d_
theorem aCv{x y z:V3 F}(hn:n≠0)(hx:dot n x=0)(hy:dot n y=0)(hz:dot n z=0):
  smul y (tr n x z)=smul z (tr n x y)+smul x (tr n y z):=by
 have hd:aW x y z=0:=by apply gR;intro h;exact hn (Gn h (by rw[yp];exact hx) (by rw[yp];exact hy) (by rw[yp];exact hz))
 have e:smul y (tr n x z)=smul z (tr n x y)+smul x (tr n y z)-smul n (aW x y z):=
  hY [n,x,y,z] [] (λV _=>smul (V 2) (dot (V 0) (af (V 1) (V 3))))
   (λV _=>smul (V 3) (dot (V 0) (af (V 1) (V 2)))+smul (V 1) (dot (V 0) (af (V 2) (V 3)))-smul (V 0) (aW (V 1) (V 2) (V 3))) d_
 rw[e,hd,smul_zero];exact hY [smul z (tr n x y),smul x (tr n y z)] [] (λV _=>V 0+V 1-0) (λV _=>V 0+V 1) d_
theorem Vt(H:jc F){x y z:V3 F}(hn:n≠0)(hx:dot n x=0)(hy:dot n y=0)(hz:dot n z=0)(fx:H.fw x)(fy:H.fw y)(fz:H.fw z)
  (h:0<tr n x y) (k:0<tr n y z):0<tr n x z:=by
 have e:=aCv n hn hx hy hz;have f:H.fw (smul y (tr n x z)):=by rw[e];exact H.add (H.mul fz h) (H.mul fx k)
 rcases OF.lt_trichotomy 0 (tr n x z)with g|g|g
 ·exact g
 ·rw[<-g,smul_zero]at f;exact absurd f jc.zero
 ·exact(H.asymm f (by rw[show -(smul y (tr n x z))=smul y (-(tr n x z))from hY [y] [tr n x z] (λV S=>-(smul (V 0) (S 0))) (λV S=>smul (V 0) (-S 0)) d_];exact H.mul fy (neg_pos.2 g))).elim
theorem aLX{m x y z:V3 F}(hn:n≠0)(hx:dot n x=0)(hy:dot n y=0)(hz:dot n z=0)(fx:0<dot m x)(fy:0<dot m y)(fz:0<dot m z)
  (h:0<tr n x y) (k:0<tr n y z):0<tr n x z:=by
 have e:=cO (dot m) (aCv n hn hx hy hz);rw[jq,gC,gC,gC]at e;have p:0<dot m y*tr n x z:=by rw[e];exact add_pos (mul_pos fz h) (mul_pos fx k)
 rwa[<-CR.mul_zero (dot m y),mul_lt_mul_left fy]at p
variable{ι:Type}(pt:ι->V3 F)
structure Conv(S:List ι):Prop where
 qg:∀ a∈S,∀ b∈S,dot n (pt b-pt a)=0
 yt:∀ c∈S,∃ m:V3 F,∀ w∈S,w≠c->dot m (pt w)<dot m (pt c)
variable{n pt}
theorem Conv.sub{S T:List ι}(h:Conv n pt S)(hT:∀ x∈T,x∈S):Conv n pt T:=
 ⟨λa ha b hb=>h.qg a (hT a ha) b (hT b hb),λc hc=>(h.yt c (hT c hc)).imp λ_ hm w hw=>hm w (hT w hw)⟩
theorem Conv.PU{S:List ι}(h:Conv n pt S)(hn:n≠0){a b c:ι}(ha:a∈S)(hb:b∈S)(hc:c∈S)(ch:a≠b)(PV:a≠c)(As:b≠c):
  turn n (pt a) (pt b) (pt c)≠0:=by
 intro e;generalize hx:pt b-pt a=x at *;generalize hy:pt c-pt a=y at *;have px:dot n x=0:=hx▸h.qg a ha b hb;have py:dot n y=0:=hy▸h.qg a ha c hc;have e':dot n (af x y)=0:=by rw[<-hx,<-hy];exact e
 have hz:af x y=0:=by
  apply gR;intro aQ;apply Gp hn aQ e';have e2:af n (af x y)=smul x (dot n y)-smul y (dot n x):=
   hY [n,x,y] [] (λV _=>af (V 0) (af (V 1) (V 2))) (λV _=>smul (V 1) (dot (V 0) (V 2))-smul (V 2) (dot (V 0) (V 1))) d_
  rw[e2,px,py,smul_zero,smul_zero,V3.sub_self]
 obtain⟨ma,fa⟩:=h.yt a ha;obtain⟨mb,fb⟩:=h.yt b hb;obtain⟨mc,fc⟩:=h.yt c hc;have hax:dot ma x<0:=by rw[<-hx,gT,<-neg_pos,OF.neg_sub];exact OF.sub_pos.2 (fa b hb (kR ch))
 have hay:dot ma y<0:=by rw[<-hy,gT,<-neg_pos,OF.neg_sub];exact OF.sub_pos.2 (fa c hc (kR PV))
 have Vu:0<dot mb x:=by rw[<-hx,gT];exact OF.sub_pos.2 (fb a ha ch)
 have aLY:dot mb y<dot mb x:=by have:=fb c hc (kR As);rw[<-hx,<-hy,gT,gT,OF.lt_def];rw[show dot mb (pt b)-dot mb (pt a)-(dot mb (pt c)-dot mb (pt a))=dot mb (pt b)-dot mb (pt c)from ku (dot mb (pt a)) (dot mb (pt b)) (dot mb (pt c)) (λa b c=>b-a-(c-a)) (λ_ b c=>b-c) d_];exact this
 have Vv:0<dot mc y:=by rw[<-hy,gT];exact OF.sub_pos.2 (fc a ha PV)
 have aLZ:dot mc x<dot mc y:=by have:=fc b hb As;rw[<-hx,<-hy,gT,gT,OF.lt_def];rw[show dot mc (pt c)-dot mc (pt a)-(dot mc (pt b)-dot mc (pt a))=dot mc (pt c)-dot mc (pt b)from ku (dot mc (pt a)) (dot mc (pt b)) (dot mc (pt c)) (λa b c=>c-a-(b-a)) (λ_ b c=>c-b) d_];exact this
 -- y is a aWL t of x
 have lC:x≠0:=by rintro rfl;rw[yr]at Vu;exact OF.lt_irrefl _ Vu
 have key:∀ m:V3 F,dot m y*dot x x=dot m x*dot x y:=by
  intro m;have e2:dot m y*dot x x=dot m x*dot x y-dot m (af x (af x y)):=
   ring [m,x,y] [] (λV _=>dot (V 0) (V 2)*dot (V 1) (V 1)) (λV _=>dot (V 0) (V 1)*dot (V 1) (V 2)-dot (V 0) (af (V 1) (af (V 1) (V 2)))) d_
  rw[hz,show af x (0:V3 F)=0 from hY [x] [] (λV _=>af (V 0) 0) (λ_ _=>0) d_,yr,OF.sub_zero]at e2;exact e2
 have Ie:=Cw lC;have kb:=key mb;have kc:=key mc;have ka:=key ma
 -- from b: t<1;from c: t>1 as t>0
 have t1:dot x y<dot x x:=by rw[<-mul_lt_mul_left Vu,<-kb,CR.mul_comm,CR.mul_comm (dot mb x),mul_lt_mul_left Ie];exact aLY
 have aL0:0<dot x y:=by have h1:0 < -dot ma x:=neg_pos.2 hax;rw[<-mul_lt_mul_left h1,CR.mul_zero,CR.neg_mul,<-ka,<-CR.neg_mul];exact mul_pos (neg_pos.2 hay) Ie
 have LI:0<dot mc x:=by
  have:0<dot x y*dot mc x:=by rw[CR.mul_comm,<-kc];exact mul_pos Vv Ie
  rwa[<-CR.mul_zero (dot x y),mul_lt_mul_left aL0]at this
 have t2:dot x x<dot x y:=by rw[<-mul_lt_mul_left LI,<-kc,CR.mul_comm,CR.mul_comm (dot mc y),mul_lt_mul_left Ie];exact aLZ
 exact OF.lt_irrefl _ (OF.lt_trans t1 t2)
def mZ(n:V3 F)(pt:ι->V3 F)(T:List ι)(a b:ι):Prop:=∀ c∈T,c≠a->c≠b->0<turn n (pt a) (pt b) (pt c)
variable(H:jc F)
def fh(n:V3 F)(pt:ι->V3 F)(H:jc F)(T:List ι):List ι->Prop
 |[]=>False
 |[a]=>a∈T/\∀ c∈T,c≠a->H.fw (pt c-pt a)
 |b::a::st=>b∈T/\H.fw (pt b-pt a)/\mZ n pt T a b/\fh n pt H T (a::st)
def pop(n:V3 F)(pt:ι->V3 F)(p:ι):List ι->List ι
 |b::a::st=>if 0<turn n (pt a) (pt b) (pt p)then b::a::st else pop n pt p (a::st)
 |st=>st
def half(n:V3 F)(pt:ι->V3 F)(l:List ι):List ι:=l.foldl (λst p=>p::pop n pt p st) []
variable{H}
theorem fh.mem{T:List ι}:∀{st:List ι},fh n pt H T st->∀ x∈st,x∈T
 |[a],h,x,hx=>by rcases cC.1 hx with rfl|hx;exact h.1;cases hx
 |b::a::st,h,x,hx=>by
  rcases cC.1 hx with rfl|hx
  ·exact h.1
  ·exact fh.mem h.2.2.2 x hx
theorem fh.below{T:List ι}:∀{b:ι} {st:List ι},fh n pt H T (b::st)->∀ x∈st,H.fw (pt b-pt x)
 |b,a::st,h,x,hx=>by
  rcases cC.1 hx with rfl|hx
  ·exact h.2.1
  ·exact jc.aCu (fh.below h.2.2.2 x hx) h.2.1
 |b,[],_,x,hx=>by cases hx
theorem fh.least{T:List ι}:∀{st:List ι},fh n pt H T st->∃ a,st.getLast?=some a/\a∈T/\∀ c∈T,c≠a->H.fw (pt c-pt a)
 |[a],h=>⟨a,rfl,h.1,h.2⟩
 |b::a::st,h=>by obtain⟨x,hx,hm,bh⟩:=fh.least h.2.2.2;exact⟨x,by rw[PW];exact hx,hm,bh⟩
theorem fh.grow{T:List ι}{p w:ι}(hn:n≠0)(hc:Conv n pt (p::T))(hp:∀ c∈T,H.fw (pt p-pt c))(hw:w∈T)
  (hpw:∀ c∈T,c≠w->0<turn n (pt w) (pt p) (pt c)):∀{st:List ι},fh n pt H T st->(∀ x∈st,H.fw (pt w-pt x))->fh n pt H (p::T) st
 |[a],h,_=>⟨bF _ h.1,λc hc ha=>by
   rcases cC.1 hc with rfl|hc
   ·exact hp a h.1
   ·exact h.2 c hc ha⟩
 |v::u::st,h,bP=>by
  refine⟨bF _ h.1,h.2.1,?_,fh.grow hn hc hp hw hpw h.2.2.2 λx hx=>bP x (bF _ hx)⟩;intro c dO Sr kz;rcases cC.1 dO with rfl|dO
  ·have hv:v∈T:=h.1;have hu:u∈T:=fh.mem h.2.2.2 u (aT ..);have fwv:H.fw (pt w-pt v):=bP v (aT ..);have wv:w≠v:=by rintro rfl;exact jc.ne fwv rfl
   have wu:w≠u:=by rintro rfl;exact jc.ne (bP w (bF _ (aT ..))) rfl
   have h1:=h.2.2.1 w hw wu wv;have h2:=hpw v hv (kR wv);rw[<-Gs]at h2;rw[Vq]at h1 ⊢;have rq:=bF c hv;exact Vt n H hn (hc.qg u (bF _ hu) v rq) (hc.qg v rq w (bF _ hw)) (hc.qg v rq c (aT ..)) h.2.1 fwv (hp v hv) h1 h2
  ·exact h.2.2.1 c dO Sr kz
theorem fh.pop{T:List ι}{p:ι}(hn:n≠0)(hc:Conv n pt (p::T))(hp:∀ c∈T,H.fw (pt p-pt c))
  (aL1:∀ a∈T,∀ c∈T,c≠a->H.fw (pt c-pt a)\/H.fw (pt a-pt c)) :
  ∀{b:ι} {st:List ι},fh n pt H T (b::st)->
   ((∀ c∈T,c≠b->H.fw (pt b-pt c))\/∃ e∈T,e≠b/\H.fw (pt e-pt b)/\mZ n pt T b e/\turn n (pt b) (pt e) (pt p)<=0)->
   fh n pt H (p::T) (p::Go.Proofs.YtmocejjfkdcgkaaGreatDoor.pop n pt p (b::st)):=by
 have pp:p∈p::T:=aT ..;have mm:∀{x},x∈T->x∈p::T:=λh=>bF _ h;have pne:∀ c∈T,p≠c:=λc hc e=>jc.ne (hp c hc) (by rw[e])
 -- points in front of b
 have front:∀{b c:ι},b∈T->c∈T->c≠b->H.fw (pt c-pt b)->
   ((∀ c∈T,c≠b->H.fw (pt b-pt c))\/∃ e∈T,e≠b/\H.fw (pt e-pt b)/\mZ n pt T b e/\turn n (pt b) (pt e) (pt p)<=0)->0<turn n (pt b) (pt p) (pt c):=by
  intro b c hb dO kv hf lO;rcases lO with vL|⟨e,he,LJ,PX,hl,ht⟩
  ·exact(jc.IY hf (vL c dO kv)).elim
  ·have xG:0<turn n (pt b) (pt p) (pt e):=by
    rw[Vp,neg_pos];rcases OF.oA ht with h|h
    ·exact h
    ·exact absurd h (hc.PU hn (mm hb) (mm he) pp (kR LJ) (kR (pne b hb)) (kR (pne e he)))
   by_cases hce:c=e
   ·rw[hce];exact xG
   ·have h3:=hl c dO kv hce;exact Vt n H hn (hc.qg b (mm hb) p pp) (hc.qg b (mm hb) e (mm he)) (hc.qg b (mm hb) c (mm dO)) (hp b hb) PX hf xG h3
 intro b st;induction st generalizing b with
 |nil=>
  intro h lO;refine⟨pp,hp b h.1,?_,mm h.1,λc dO kv=>?_⟩
  ·intro c dO kv Gt;have vM:c∈T:=(cC.1 dO).resolve_left Gt;exact front h.1 vM kv (h.2 c vM kv) lO
  ·rcases cC.1 dO with rfl|vM
   ·exact hp b h.1
   ·exact h.2 c vM kv
 |cons a st ih=>
  intro h lO;have ha:a∈T:=fh.mem h.2.2.2 a (aT ..);have hb:b∈T:=h.1;unfold Go.Proofs.YtmocejjfkdcgkaaGreatDoor.pop;split
  ·rename_i PY;have bh:∀ c∈T,c≠b->0<turn n (pt b) (pt p) (pt c):=by
    intro c vM kv;rcases aL1 b hb c vM kv with hf|hf
    ·exact front hb vM kv hf lO
    ·-- c aL2 behind b
     have h1:0<tr n (pt b-pt a) (pt p-pt b):=by rw[<-Vq];exact PY
     rw[aLV];by_cases fA:c=a
     ·rw[fA,Cy (pt b) (pt a),Vr,neg_pos,PT,F1];exact h1
     ·have h2:=h.2.2.1 c vM fA kv;rw[Vq]at h2;rw[Cy (pt b) (pt c),Vr,neg_pos,PT,F1];refine Vt n H hn (hc.qg c (mm vM) b (mm hb)) (hc.qg a (mm ha) b (mm hb)) (hc.qg b (mm hb) p pp) hf h.2.1 (hp b hb) ?_ h1;rw[Cy (pt b) (pt c),Vr,neg_pos,PT,F1]at h2;exact h2
   refine⟨pp,hp b hb,?_,mm hb,h.2.1,?_,?_⟩
   ·intro c dO kv Gt;exact bh c ((cC.1 dO).resolve_left Gt) kv
   ·intro c dO fA kv;rcases cC.1 dO with rfl|vM
    ·exact PY
    ·exact h.2.2.1 c vM fA kv
   ·exact fh.grow hn hc hp hb bh h.2.2.2 (fh.below h)
  ·rename_i PY;exact ih h.2.2.2 (.inr ⟨b,hb,λe=>jc.ne h.2.1 (by rw[e]),h.2.1,h.2.2.1,OF.not_lt.1 PY⟩)
end
section
variable{F:Type}[OF F]{n:V3 F}{ι:Type}{pt:ι->V3 F}{H:jc F}
def yu(pt:ι->V3 F)(H:jc F)(l:List ι):Prop:=l.Pairwise λa b=>H.fw (pt b-pt a)
theorem aCw(p:ι):∀(b:ι) (st:List ι),∃ x fJ,pop n pt p (b::st)=x::fJ
 |b,[]=>⟨b,[],rfl⟩
 |b,a::st=>by
  unfold pop;split
  ·exact⟨_,_,rfl⟩
  ·exact aCw p a st
theorem yu.total{l:List ι}(h:yu pt H l):∀ a∈l,∀ c∈l,c≠a->H.fw (pt c-pt a)\/H.fw (pt a-pt c):=by
 induction l with
 |nil=>intro a ha;cases ha
 |cons x l ih=>
  have h1:=tA.1 h;intro a ha c hc fA;rcases cC.1 ha with e|gV
  ·rcases cC.1 hc with e2|dp
   ·exact absurd (e2.trans e.symm) fA
   ·exact .inl (e▸h1.1 c dp)
  ·rcases cC.1 hc with e2|dp
   ·exact .inr (e2▸h1.1 a gV)
   ·exact ih h1.2 a gV c dp fA
theorem fh.congr{T T':List ι}(h:∀ x,x∈T↔x∈T'):∀{st:List ι},fh n pt H T st->fh n pt H T' st
 |[a],hc=>⟨(h a).1 hc.1,λc hm=>hc.2 c ((h c).2 hm)⟩
 |b::a::st,hc=>⟨(h b).1 hc.1,hc.2.1,λc hm=>hc.2.2.1 c ((h c).2 hm),fh.congr h hc.2.2.2⟩
theorem aCx(hn:n≠0):∀(l T:List ι) (b:ι) (st:List ι),Conv n pt (T++l)->yu pt H (T++l)->b∈T->(∀ c∈T,c≠b->H.fw (pt b-pt c))->
  fh n pt H T (b::st)->∃ x fJ,l.foldl (λst p=>p::pop n pt p st) (b::st)=x::fJ/\fh n pt H (T++l) (x::fJ)/\(∀ c∈T++l,c≠x->H.fw (pt x-pt c))/\(l.getLast?).getD b=x
 |[],T,b,st,_,_,hb,vL,h=>⟨b,st,rfl,by rw[jL];exact h,by rw[jL];exact vL,rfl⟩
 |p::l,T,b,st,hc,hs,hb,vL,h=>by
  have pU:=List.pairwise_append.1 hs;have hp:∀ c∈T,H.fw (pt p-pt c):=λc vM=>pU.2.2 c vM p (aT ..);have mem:∀ x,x∈p::T↔x∈T++[p]:=λx=>by simp[or_comm]
  have h1:=fh.pop hn (hc.sub (T:=p::T) λx hx=>by
   rcases cC.1 hx with rfl|hx
   ·exact eW.2 (.inr (aT ..))
   ·exact eW.2 (.inl hx)) hp (yu.total pU.1) h (.inl vL)
  obtain⟨x,fJ,hx⟩:=aCw (n:=n) (pt:=pt) p b st;rw[hx]at h1;have e:T++[p]++l=T++p::l:=by simp
  obtain⟨y,st2,hf,yv,Vw,hl⟩:=aCx hn l (T++[p]) p (x::fJ) (by rw[e];exact hc) (by rw[e];exact hs) s_
   (λc dO Gt=>by
    rcases eW.1 dO with dO|dO
    ·exact hp c dO
    ·exact absurd (Cz.1 dO) Gt) (fh.congr mem h1)
  refine⟨y,st2,?_,by rw[<-e];exact yv,by rw[<-e];exact Vw,?_⟩
  ·rw[wE,hx];exact hf
  ·rw[<-hl];cases l with
   |nil=>rfl
   |cons z l=>rw[PW,List.getLast?_eq_some_getLast (l:=z::l) s_];rfl
theorem aCy(hn:n≠0){l:List ι}{a:ι}(hc:Conv n pt (a::l))(hs:yu pt H (a::l)):
  ∃ x st,half n pt (a::l)=x::st/\fh n pt H (a::l) (x::st)/\(∀ c∈a::l,c≠x->H.fw (pt x-pt c))/\(l.getLast?).getD a=x:=by
 have pU:=tA.1 hs
 exact aCx hn l [a] a [] (by exact hc) (by exact hs) (aT ..)
  (λc dO fA=>absurd (Cz.1 dO) fA) ⟨aT ..,λc dO fA=>absurd (Cz.1 dO) fA⟩
def mD(R:ι->ι->Prop):List ι->Prop
 |[]=>True
 |[_]=>True
 |a::b::l=>R a b/\mD R (b::l)
theorem Vx{R:ι->ι->Prop}:∀{l:List ι} {a:ι} {m:List ι},mD R (l++[a])->mD R (a::m)->mD R (l++a::m)
 |[],a,m,_,h=>h
 |[x],a,m,h1,h=>⟨h1.1,h⟩
 |x::y::l,a,m,h1,h=>⟨h1.1,Vx (l:=y::l) h1.2 h⟩
theorem aCz{R:ι->ι->Prop}:∀{l:List ι} {a b:ι},mD R (l++[a])->R a b->mD R (l++[a,b])
 |[],a,b,_,h=>⟨h,trivial⟩
 |[x],a,b,h1,h=>⟨h1.1,h,trivial⟩
 |x::y::l,a,b,h1,h=>⟨h1.1,aCz (l:=y::l) h1.2 h⟩
theorem fh.steps{T:List ι}:∀{st:List ι},fh n pt H T st->mD (λa b=>mZ n pt T a b/\H.fw (pt b-pt a)) st.reverse
 |[a],_=>trivial
 |b::a::st,h=>by have ih:=fh.steps h.2.2.2;rw[wU]at ih ⊢;rw[wU,Fo];exact aCz ih ⟨h.2.2.1,h.2.1⟩
theorem mD.imp{R R':ι->ι->Prop}(h:∀ a b,R a b->R' a b):∀{l:List ι},mD R l->mD R' l
 |[],_=>trivial
 |[_],_=>trivial
 |_::b::l,hs=>⟨h _ _ hs.1,mD.imp h (l:=b::l) hs.2⟩
def order(n:V3 F)(pt:ι->V3 F)(l:List ι):List ι:=(half n pt l).tail.reverse++(half n pt l.reverse).tail.reverse
theorem aL3(hn:n≠0){S:List ι}(hc:Conv n pt S){c:ι}(LK:c∈S):∀{l:List ι} {a b:ι},(∀ x∈a::l,x∈S)->c∉a::l->
  mD (λa b=>mZ n pt S a b) (a::l)->(a::l).getLast?=some b->a=b\/0<tr n (pt a-pt c) (pt b-pt c):=by
 obtain⟨m,hm⟩:=hc.yt c LK;intro l;induction l with
 |nil=>intro a b _ _ _ h;left;simpa using h
 |cons x l ih=>
  intro a b hS Ag bP ui;right;have LI:c∉x::l:=λh=>Ag (bF _ h);have fA:c≠a:=λh=>Ag (h▸aT ..);have aCA:c≠x:=λh=>LI (h▸aT ..);have h1:0<tr n (pt a-pt c) (pt x-pt c):=by have:=bP.1 c LK fA aCA;rw[<-Gs]at this;exact this
  have aCB:(x::l).getLast?=some b:=by rw[PW]at ui;exact ui
  have hb:b∈x::l:=List.mem_of_getLast? aCB;have aS:=hS a (aT ..);have xS:=hS x (bF _ (aT ..));have bS:=hS b (bF _ hb);have neg:∀ y∈S,c≠y->0<dot (-m) (pt y-pt c):=by intro y hy Vv;rw[yq,gT,OF.neg_sub];exact OF.sub_pos.2 (hm y hy (kR Vv))
  rcases ih (λy hy=>hS y (bF _ hy)) LI bP.2 aCB with rfl|h2
  ·exact h1
  ·exact aLX n hn (hc.qg c LK a aS) (hc.qg c LK x xS) (hc.qg c LK b bS) (neg a aS fA) (neg x xS aCA) (neg b bS (λh=>LI (h▸hb))) h1 h2
theorem aL4(l:List ι)(a:ι):(l++[a]).getLast?=some a:=by simp
theorem Vy{S:List ι}(hS:∀ a∈S,∀ b∈S,pt a=pt b->a=b){a b c:ι}(hb:b∈S)(hc:c∈S)(ch:b≠a)(PV:c≠a)(h1:mZ n pt S a b)(h2:mZ n pt S a c):b=c:=by apply gR;intro As;have k1:=h1 c hc PV (kR As);have k2:=h2 b hb ch As;rw[Vp]at k2;exact OF.lt_irrefl _ (OF.lt_trans k1 (neg_pos.1 k2))
theorem Vz{T:List ι}:∀{st:List ι},fh n pt H T st->st.Pairwise λa b=>H.fw (pt a-pt b)
 |[_],_=>VA ..
 |b::a::st,h=>tA.2 ⟨fh.below h,Vz h.2.2.2⟩
theorem aCC(hn:n≠0){l:List ι}{a b:ι}(hc:Conv n pt (a::b::l))(hs:yu pt H (a::b::l)):
  ∃ m,order n pt (a::b::l)=a::m/\(a::m).Nodup/\(∀ x,x∈a::m↔x∈a::b::l)/\mD (λx y=>mZ n pt (a::b::l) x y) (a::m++[a]):=by
 generalize hS:a::b::l=S at *
 -- the way there
 obtain⟨z,st,hh,yv,vL,hz⟩:=aCy (H:=H) hn (l:=b::l) (a:=a) (hS▸hc) (hS▸hs);rw[hS]at hh yv vL
 -- the list from VB end on,and the opposite half
 have aL5:∃ w t,S.reverse=w::t:=by
  cases h:S.reverse with
  |nil=>rw[aCD]at h;rw[<-hS]at h;cases h
  |cons w t=>exact⟨w,t,rfl⟩
 obtain⟨w,t,PZ⟩:=aL5;have Au:∀ x,x∈w::t↔x∈S:=λx=>by rw[<-PZ];exact LL
 have Kf:yu pt H.opp (w::t):=by rw[<-PZ];unfold yu at *;rw[aCE];refine hs.imp ?_;intro x y h;show H.fw (-(pt x-pt y));rw[<-Cy];exact h
 have hcr:Conv n pt (w::t):=hc.sub λx hx=>(Au x).1 hx;obtain⟨z',fJ,CA,Ec,aL6,oN⟩:=aCy (H:=H.opp) hn hcr Kf;have aS:a∈S:=by rw[<-hS];exact aT ..
 have bS:b∈S:=by rw[<-hS];exact bF _ (aT ..)
 have VC:∀ c∈S,c≠a->H.fw (pt c-pt a):=by intro c dO fA;rw[<-hS]at dO hs;exact(tA.1 hs).1 c ((cC.1 dO).resolve_left fA)
 -- the ends of both aL7
 have hza:z'=a:=by
  apply gR;intro aQ;have h1:=aL6 a ((Au a).2 aS) (kR aQ);have h2:=VC z' ((Au z').1 (fh.mem Ec z' (aT ..))) aQ;have pj:H.fw (pt a-pt z'):=by rw[Cy (pt z') (pt a)];exact h1
  exact jc.IY h2 pj
 subst hza;obtain⟨a1,eG,aL8,aL9⟩:=fh.least yv;have hra:a1=z':=by apply gR;intro aQ;exact jc.IY (VC a1 aL8 aQ) (aL9 z' aS (kR aQ))
 rw[hra]at eG;obtain⟨w1,Gu,aMa,aMb⟩:=fh.least Ec;have zS:z∈S:=fh.mem yv z (aT ..);have hwz:w1=z:=by
  apply gR;intro aQ;have h1:=vL w1 ((Au w1).1 aMa) aQ;have h2:=aMb z ((Au z).2 zS) (kR aQ);have wM:H.fw (pt w1-pt z):=by rw[Cy (pt z) (pt w1)];exact h2
  exact jc.IY h1 wM
 rw[hwz]at Gu;have haz:z'≠z:=by
  rintro rfl
  rcases Classical.em (b=z')with rfl|qQ
  ·rw[<-hS]at hs;exact jc.ne ((tA.1 hs).1 b (aT ..)) rfl
  ·exact jc.IY (VC b bS qQ) (vL b bS qQ)
 -- the pieces
 have aMc:∃ u,st.reverse=z'::u:=by
  cases st with
  |nil=>simp at eG;exact absurd eG.symm haz
  |cons x st=>
   rw[PW]at eG;cases h:(x::st).reverse with
   |nil=>rw[aCD]at h;cases h
   |cons q u=>
    have:(x::st)=(q::u).reverse:=by rw[<-h,List.reverse_reverse]
    rw[this,wU,List.getLast?_append,List.getLast?_singleton]at eG;simp at eG;exact⟨u,by rw[eG]⟩
 have aMd:∃ u,fJ.reverse=z::u:=by
  cases fJ with
  |nil=>simp at Gu;exact absurd Gu haz
  |cons x fJ=>
   rw[PW]at Gu;cases h:(x::fJ).reverse with
   |nil=>rw[aCD]at h;cases h
   |cons q u=>
    have:(x::fJ)=(q::u).reverse:=by rw[<-h,List.reverse_reverse]
    rw[this,wU,List.getLast?_append,List.getLast?_singleton]at Gu;simp at Gu;exact⟨u,by rw[Gu]⟩
 obtain⟨u,hu⟩:=aMc;obtain⟨u',ki⟩:=aMd;have aMe:order n pt S=z'::(u++z::u'):=by unfold order;rw[hh,PZ,CA];simp only[List.tail_cons];rw[hu,ki];rfl
 refine⟨u++z::u',aMe,?_,?_,?_⟩
 case refine_3=>
  have s1:=(fh.steps yv).imp (R':=λx y=>mZ n pt S x y) λx y h=>h.1;have s2:=(fh.steps Ec).imp (R':=λx y=>mZ n pt S x y) λx y h c dO=>h.1 c ((Au c).2 dO);rw[wU,hu]at s1;rw[wU,ki]at s2;have:=Vx (l:=z'::u) (a:=z) (m:=u'++[z']) s1 s2;simpa using this
 case refine_2=>
  have sub:∀ x,x∈z'::(u++z::u')->x∈S:=by
   intro x hx;have:x∈z'::u\/x∈z::u':=by
    rcases cC.1 hx with h|h
    ·exact .inl (h▸aT ..)
    ·rcases eW.1 h with h|h
     ·exact .inl (bF _ h)
     ·exact .inr h
   rcases this with h|h
   ·rw[<-hu,LL]at h;exact fh.mem yv x (bF _ h)
   ·rw[<-ki,LL]at h;exact(Au x).1 (fh.mem Ec x (bF _ h))
  intro x;refine⟨sub x,λhx=>?_⟩;apply gR;intro fX;have s1:=(fh.steps yv).imp (R':=λx y=>mZ n pt S x y) λx y h=>h.1;have s2:=(fh.steps Ec).imp (R':=λx y=>mZ n pt S x y) λx y h c dO=>h.1 c ((Au c).2 dO);rw[wU,hu]at s1;rw[wU,ki]at s2;have s3:=Vx (l:=z'::u) (a:=z) (m:=u'++[z']) s1 s2;have lC:z'≠x:=λh=>fX (h▸aT ..)
  -- the first step,then the rest back to VB start
  have aMf:∃ y v,u++z::(u'++[z'])=y::v:=by
   cases u with
   |nil=>exact⟨z,_,rfl⟩
   |cons y u=>exact⟨y,_,rfl⟩
  obtain⟨y,v,J7⟩:=aMf;have s3':mD (λx y=>mZ n pt S x y) (z'::y::v):=by rw[<-J7];exact s3
  have bh:∀ q∈y::v,q=z'\/q∈z'::(u++z::u'):=by
   intro q hq;rw[<-J7]at hq;have:q∈u++z::u'\/q=z':=by simpa[or_assoc]using hq
   rcases this with h|h
   ·exact .inr (bF _ h)
   ·exact .inl h
  have KO:x∉y::v:=λh=>by
   rcases bh x h with h|h
   ·exact lC h.symm
   ·exact fX h
  have hyS:∀ q∈y::v,q∈S:=λq hq=>by
   rcases bh q hq with h|h
   ·rw[h];exact aS
   ·exact sub q h
  have ui:(y::v).getLast?=some z':=by rw[<-J7,show u++z::(u'++[z'])=(u++z::u')++[z']by simp];exact aL4 _ _
  have hyx:x≠y:=λh=>KO (h▸aT ..);have h1:0<tr n (pt z'-pt x) (pt y-pt x):=by have:=s3'.1 x hx (kR lC) hyx;rw[<-Gs]at this;exact this
  rcases aL3 hn hc hx hyS KO s3'.2 ui with h2|h2
  ·rw[h2,aLW]at h1;exact OF.lt_irrefl _ h1
  ·rw[PT]at h2;exact OF.lt_irrefl _ (OF.lt_trans h1 (neg_pos.1 h2))
 case refine_1=>
  have d1:=Vz yv;have d2:=Vz Ec;have e1:(z'::u).Pairwise λa b=>H.fw (pt b-pt a):=by rw[<-hu,aCE];exact(tA.1 d1).2
  have e2:(z::u').Pairwise λa b=>H.fw (pt a-pt b):=by rw[<-ki,aCE];refine(tA.1 d2).2.imp ?_;intro x y h;rw[Cy (pt x) (pt y)];exact h
  have inj:∀ x∈S,∀ y∈S,pt x=pt y->x=y:=by
   intro x hx y hy kU;apply gR;intro aQ;rcases yu.total hs y hy x hx aQ with h|h
   ·exact jc.ne h kU.symm
   ·exact jc.ne h kU
  have n1:(z'::u).Nodup:=e1.imp λh=>λe=>jc.ne h (by rw[e]);have n2:(z::u').Nodup:=e2.imp λh=>λe=>jc.ne h (by rw[e]);rw[show z'::(u++z::u')=(z'::u)++(z::u')from rfl,List.nodup_append];refine⟨n1,n2,?_⟩;intro x hx y hy kU;subst kU
  -- x aL2 on both aL7: VB aWM differ
  have aMg:∀{l:List ι} {e x:ι},mD (λa b=>mZ n pt S a b/\H.fw (pt b-pt a)) (l++[e])->x∈l->∃ y∈l++[e],mZ n pt S x y/\H.fw (pt y-pt x):=by
   intro l;induction l with
   |nil=>intro e x _ h;cases h
   |cons p l ih=>
    intro e x bP hx;cases l with
    |nil=>
     rcases cC.1 hx with rfl|h
     ·exact⟨e,by simp,bP.1⟩
     ·cases h
    |cons q l=>
     rcases cC.1 hx with rfl|h
     ·exact⟨q,by simp,bP.1⟩
     ·obtain⟨y,hy,h2⟩:=ih (e:=e) bP.2 h;exact⟨y,bF _ hy,h2⟩
  have s1:=fh.steps yv;rw[wU,hu]at s1;obtain⟨y1,hy1,wo,iI⟩:=aMg s1 hx;have y1S:y1∈S:=by rw[<-hu,<-wU,LL]at hy1;exact fh.mem yv y1 hy1
  have s2:=(fh.steps Ec).imp (R':=λx y=>mZ n pt S x y/\H.fw (pt x-pt y)) λx y h=>⟨λc dO=>h.1 c ((Au c).2 dO),by have:H.fw (-(pt y-pt x)):=h.2;rwa[<-Cy]at this⟩
  rw[wU,ki]at s2;have aMh:∀{l:List ι} {e x:ι},mD (λa b=>mZ n pt S a b/\H.fw (pt a-pt b)) (l++[e])->x∈l->∃ y∈l++[e],mZ n pt S x y/\H.fw (pt x-pt y):=by
   intro l;induction l with
   |nil=>intro e x _ h;cases h
   |cons p l ih=>
    intro e x bP hx;cases l with
    |nil=>
     rcases cC.1 hx with rfl|h
     ·exact⟨e,by simp,bP.1⟩
     ·cases h
    |cons q l=>
     rcases cC.1 hx with rfl|h
     ·exact⟨q,by simp,bP.1⟩
     ·obtain⟨y,hy,h2⟩:=ih (e:=e) bP.2 h;exact⟨y,bF _ hy,h2⟩
  obtain⟨y2,vN,ju,jd⟩:=aMh s2 hy;have y2S:y2∈S:=by rw[<-ki,<-wU,LL]at vN;exact(Au y2).1 (fh.mem Ec y2 vN)
  have:=Vy inj y1S y2S (λe=>jc.ne iI (by rw[e])) (λe=>jc.ne jd (by rw[e])) wo ju;subst this;exact jc.IY iI jd
end
section
variable{F:Type}[OF F]
def Av(v:V3 F):Prop:=0<v.x\/(v.x=0/\(0<v.y\/(v.y=0/\0<v.z)))
theorem aMi(v:V3 F)(k:F):(smul v k).x=v.x*k:=rfl
theorem aMj(v:V3 F)(k:F):(smul v k).y=v.y*k:=rfl
theorem aMk(v:V3 F)(k:F):(smul v k).z=v.z*k:=rfl
theorem aMl(u v:V3 F):(u+v).x=u.x+v.x:=rfl
theorem aMm(u v:V3 F):(u+v).y=u.y+v.y:=rfl
theorem aMn(u v:V3 F):(u+v).z=u.z+v.z:=rfl
theorem aMo(u:V3 F):(-u).x=-u.x:=rfl
theorem aMp(u:V3 F):(-u).y=-u.y:=rfl
theorem aMq(u:V3 F):(-u).z=-u.z:=rfl
def aCF:jc F where
 fw:=Av
 add {x y} hx hy:=by
  unfold Av at *;rw[aMl,aMm,aMn];rcases hx with hx|⟨hx,iv|⟨iv,LM⟩⟩<;>rcases hy with hy|⟨hy,vN|⟨vN,VD⟩⟩
  ·exact .inl (add_pos hx hy)
  ·exact .inl (by rw[hy,CR.add_zero];exact hx)
  ·exact .inl (by rw[hy,CR.add_zero];exact hx)
  ·exact .inl (by rw[hx,CR.zero_add];exact hy)
  ·exact .inr ⟨by rw[hx,hy,CR.add_zero],.inl (add_pos iv vN)⟩
  ·exact .inr ⟨by rw[hx,hy,CR.add_zero],.inl (by rw[vN,CR.add_zero];exact iv)⟩
  ·exact .inl (by rw[hx,CR.zero_add];exact hy)
  ·exact .inr ⟨by rw[hx,hy,CR.add_zero],.inl (by rw[iv,CR.zero_add];exact vN)⟩
  ·exact .inr ⟨by rw[hx,hy,CR.add_zero],.inr ⟨by rw[iv,vN,CR.add_zero],add_pos LM VD⟩⟩
 mul {x k} hx hk:=by
  unfold Av at *;rw[aMi,aMj,aMk];rcases hx with hx|⟨hx,iv|⟨iv,LM⟩⟩
  ·exact .inl (mul_pos hx hk)
  ·exact .inr ⟨by rw[hx,CR.zero_mul],.inl (mul_pos iv hk)⟩
  ·exact .inr ⟨by rw[hx,CR.zero_mul],.inr ⟨by rw[iv,CR.zero_mul],mul_pos LM hk⟩⟩
 asymm {x} hx hy:=by
  unfold Av at *;rw[aMo,aMp,aMq]at hy;have no:∀ a:F,0<a->0 < -a->False:=λa h k=>OF.lt_irrefl _ (OF.lt_trans h (neg_pos.1 k));have nz:∀ a:F,0<a->-a=0->False:=λa h k=>by rw[<-CR.neg_neg a,k,CR.neg_zero]at h;exact OF.lt_irrefl _ h
  have VE:∀ a:F,a=0->0 < -a->False:=λa h k=>by rw[h,CR.neg_zero]at k;exact OF.lt_irrefl _ k
  rcases hx with hx|⟨hx,iv|⟨iv,LM⟩⟩<;>rcases hy with hy|⟨hy,vN|⟨vN,VD⟩⟩
  ·exact no _ hx hy
  ·exact nz _ hx hy
  ·exact nz _ hx hy
  ·exact VE _ hx hy
  ·exact no _ iv vN
  ·exact nz _ iv vN
  ·exact VE _ hx hy
  ·exact VE _ iv vN
  ·exact no _ LM VD
theorem aMr{a b:V3 F}(h:a≠b):Av (b-a)\/Av (a-b):=by
 unfold Av;show(0<b.x-a.x\/(b.x-a.x=0/\(0<b.y-a.y\/(b.y-a.y=0/\0<b.z-a.z))))\/(0<a.x-b.x\/(a.x-b.x=0/\(0<a.y-b.y\/(a.y-b.y=0/\0<a.z-b.z))));simp only[OF.sub_pos,OF.sub_eq_zero];rcases OF.lt_trichotomy a.x b.x with hx|hx|hx
 ·exact .inl (.inl hx)
 ·rcases OF.lt_trichotomy a.y b.y with hy|hy|hy
  ·exact .inl (.inr ⟨hx.symm,.inl hy⟩)
  ·rcases OF.lt_trichotomy a.z b.z with hz|hz|hz
   ·exact .inl (.inr ⟨hx.symm,.inr ⟨hy.symm,hz⟩⟩)
   ·exact absurd (V3.ext hx hy hz) h
   ·exact .inr (.inr ⟨hx,.inr ⟨hy,hz⟩⟩)
  ·exact .inr (.inr ⟨hx,.inl hy⟩)
 ·exact .inr (.inl hx)
theorem j5.yt{ps:List (HS F)}{c:V3 F}(h:j5 ps c):∃ m:V3 F,∀ w,dZ ps w->w≠c->dot m w<dot m c:=by
 obtain⟨_,p,hp,q,hq,r,hr,hd,tp,tq,tr⟩:=h;refine⟨p.n+q.n+r.n,λw hw aQ=>?_⟩;rw[PN,PN,PN,PN,show dot p.n c=p.d from tp,show dot q.n c=q.d from tq,show dot r.n c=r.d from tr];rcases OF.oA (hw p hp)with h1|h1
 ·exact add_lt_add_of_lt_of_le (add_lt_add_of_lt_of_le h1 (hw q hq)) (hw r hr)
 ·rcases OF.oA (hw q hq)with h2|h2
  ·exact add_lt_add_of_lt_of_le (add_lt_add_of_le_of_lt (hw p hp) h2) (hw r hr)
  ·rcases OF.oA (hw r hr)with h3|h3
   ·exact add_lt_add_of_le_of_lt (OF.add_le_add (hw p hp) (hw q hq)) h3
   ·refine absurd (V3.sub_eq_zero.1 (Gn hd ?_ ?_ ?_)) aQ
    ·rw[gT,h1,show dot p.n c=p.d from tp,OF.sub_self]
    ·rw[gT,h2,show dot q.n c=q.d from tq,OF.sub_self]
    ·rw[gT,h3,show dot r.n c=r.d from tr,OF.sub_self]
theorem aMs{ps:List (HS F)}{p:HS F}{ι:Type}{pt:ι->V3 F}{S:List ι}(hS:∀ i∈S,j5 ps (pt i)/\cy p (pt i))
  (VF:∀ i∈S,∀ j∈S,pt i=pt j->i=j):Conv p.n pt S where
 qg a ha b hb:=by rw[gT,show dot p.n (pt a)=p.d from(hS a ha).2,show dot p.n (pt b)=p.d from(hS b hb).2,OF.sub_self]
 yt c hc:=by obtain⟨m,hm⟩:=(hS c hc).1.yt;exact⟨m,λw hw aQ=>hm _ (hS w hw).1.1 λe=>aQ (VF w hw c hc e)⟩
structure fk(F:Type) where
 lo:Option F
 hi:Option F
def CB(s:fk F)(a b:F):Option (fk F):=
 if aG a=0 then(if 0<=b then some s else none)
 else
  let t:=b*a⁻¹
  let s':fk F:=
   if 0<a then(match s.hi with|some h=>if t<h then⟨s.lo,some t⟩else s|none=>⟨s.lo,some t⟩)
   else(match s.lo with|some l=>if l<t then⟨some t,s.hi⟩else s|none=>⟨some t,s.hi⟩)
  match s'.lo,s'.hi with
  |some l,some h=>if l<h then some s' else none
  |_,_=>some s'
def fk.Sat(s:fk F)(t:F):Prop:=(∀ l,s.lo=some l->l<=t)/\(∀ h,s.hi=some h->t<=h)
def fk.Open(s:fk F):Prop:=∀ l h,s.lo=some l->s.hi=some h->l<h
theorem aMt(s:fk F)(a b:F):
  (∀ s',CB s a b=some s'->(s.Open->s'.Open)/\(∀ t,s'.Sat t↔s.Sat t/\a*t<=b)/\(∀ l,s'.lo=some l->s.lo=some l\/(a<0/\a*l=b))/\(∀ h,s'.hi=some h->s.hi=some h\/(0<a/\a*h=b)))/\
  (CB s a b=none->∀ t1 t2,s.Sat t1->a*t1<=b->s.Sat t2->a*t2<=b->t1<t2->False):=by
 unfold CB;by_cases ha:aG a=0
 ·rw[aB ha];have jk:=(fF a).1 ha;by_cases hb:0<=b
  ·rw[aB hb];refine⟨λs' h=>?_,λh=>by cases h⟩;injection h with h;subst h;exact⟨id,λt=>⟨λh=>⟨h,by rw[jk,CR.zero_mul];exact hb⟩,λh=>h.1⟩,λl h=>.inl h,λl h=>.inl h⟩
  ·rw[av hb];refine⟨λs' h=>(by cases h),λ_ t1 t2 _ h1 _ _ _=>hb ?_⟩;rw[jk,CR.zero_mul]at h1;exact h1
 ·rw[av ha];have jk:a≠0:=λe=>ha ((fF a).2 e);have e:a*(b*a⁻¹)=b:=by rw[CR.mul_left_comm,jn _ jk,CR.mul_one]
  generalize b*a⁻¹=t0 at e;dsimp only
  -- the new part,and what it says
  have key:∃ s':fk F,(if 0<a then(match s.hi with|some h=>if t0<h then⟨s.lo,some t0⟩else s|none=>⟨s.lo,some t0⟩)
    else(match s.lo with|some l=>if l<t0 then⟨some t0,s.hi⟩else s|none=>⟨some t0,s.hi⟩):fk F)=s'/\(∀ t,s'.Sat t↔s.Sat t/\a*t<=b)/\(∀ l,s'.lo=some l->s.lo=some l\/(a<0/\a*l=b))/\(∀ h,s'.hi=some h->s.hi=some h\/(0<a/\a*h=b)):=by
   by_cases hp:0<a
   ·rw[aB hp];have le:∀ t,a*t<=b↔t<=t0:=λt=>by rw[<-e,mul_le_mul_left hp]
    cases hh:s.hi with
    |none=>
     refine⟨_,rfl,λt=>?_,λl h=>.inl h,λh k=>.inr ⟨hp,by injection k with k;rw[<-k];exact e⟩⟩;rw[le];exact⟨λh=>⟨⟨h.1,λx hx=>by rw[hh]at hx;cases hx⟩,h.2 t0 rfl⟩,λh=>⟨h.1.1,λx hx=>by injection hx with hx;rw[<-hx];exact h.2⟩⟩
    |some h0=>
     dsimp only;by_cases al:t0<h0
     ·rw[aB al];refine⟨_,rfl,λt=>?_,λl h=>.inl h,λh k=>.inr ⟨hp,by injection k with k;rw[<-k];exact e⟩⟩;rw[le];exact⟨λh=>⟨⟨h.1,λx hx=>by rw[hh]at hx;injection hx with hx;rw[<-hx];exact OF.le_trans (h.2 t0 rfl) (OF.le_of_lt al)⟩,h.2 t0 rfl⟩,λh=>⟨h.1.1,λx hx=>by injection hx with hx;rw[<-hx];exact h.2⟩⟩
     ·rw[av al];refine⟨_,rfl,λt=>?_,λl h=>.inl h,λh k=>.inl (hh.symm.trans k)⟩;rw[le];exact⟨λh=>⟨h,OF.le_trans (h.2 h0 hh) (OF.not_lt.1 al)⟩,λh=>h.1⟩
   ·rw[av hp];have hn:a<0:=by
     rcases OF.oA (OF.not_lt.1 hp)with h|h
     ·exact h
     ·exact absurd h jk
    have le:∀ t,a*t<=b↔t0<=t:=λt=>by rw[<-e,<-mul_le_mul_left (a:=t0) (b:=t) (neg_pos.2 hn),OF.le_def,OF.le_def,show -a*t - -a*t0=a*t0-a*t from ku a t t0 (λa t u=>-a*t - -a*u) (λa t u=>a*u-a*t) d_]
    cases hh:s.lo with
    |none=>
     refine⟨_,rfl,λt=>?_,λl k=>.inr ⟨hn,by injection k with k;rw[<-k];exact e⟩,λh k=>.inl k⟩;rw[le];exact⟨λh=>⟨⟨λx hx=>(by rw[hh]at hx;cases hx),h.2⟩,h.1 t0 rfl⟩,λh=>⟨λx hx=>by injection hx with hx;rw[<-hx];exact h.2,h.1.2⟩⟩
    |some h0=>
     dsimp only;by_cases al:h0<t0
     ·rw[aB al];refine⟨_,rfl,λt=>?_,λl k=>.inr ⟨hn,by injection k with k;rw[<-k];exact e⟩,λh k=>.inl k⟩;rw[le];exact⟨λh=>⟨⟨λx hx=>by rw[hh]at hx;injection hx with hx;rw[<-hx];exact OF.le_trans (OF.le_of_lt al) (h.1 t0 rfl),h.2⟩,h.1 t0 rfl⟩,λh=>⟨λx hx=>by injection hx with hx;rw[<-hx];exact h.2,h.1.2⟩⟩
     ·rw[av al];refine⟨_,rfl,λt=>?_,λl h=>.inl (hh.symm.trans h),λh k=>.inl k⟩;rw[le];exact⟨λh=>⟨h,OF.le_trans (OF.not_lt.1 al) (h.1 h0 hh)⟩,λh=>h.1⟩
  obtain⟨s1,tY,vO,eO,iO⟩:=key;rw[tY];cases hl:s1.lo with
  |none=>
   refine⟨λs' h=>?_,λh=>by cases h⟩;injection h with h;subst h;exact⟨λ_ l h cB=>(by rw[hl]at cB;cases cB),vO,eO,iO⟩
  |some l=>
   cases hh:s1.hi with
   |none=>
    refine⟨λs' h=>?_,λh=>by cases h⟩;injection h with h;subst h;exact⟨λ_ l h _ CA=>(by rw[hh]at CA;cases CA),vO,eO,iO⟩
   |some h=>
    dsimp only;by_cases al:l<h
    ·rw[aB al];refine⟨λs' h=>?_,λh=>by cases h⟩;injection h with h;subst h;refine⟨λ_ l' h' cB CA=>?_,vO,eO,iO⟩;rw[hl]at cB;rw[hh]at CA;injection cB with cB;injection CA with CA;rw[<-cB,<-CA];exact al
    ·rw[av al];refine⟨λs' h=>(by cases h),λ_ t1 t2 h1 k1 h2 k2 VG=>al ?_⟩;have q1:=((vO t1).2 ⟨h1,k1⟩).1 l hl;have q2:=((vO t2).2 ⟨h2,k2⟩).2 h hh;exact OF.lt_of_le_of_lt q1 (OF.lt_of_lt_of_le VG q2)
def Gv:fk F->List (F×F)->Option (fk F)
 |s,[]=>some s
 |s,x::l=>(CB s x.1 x.2).bind λs'=>Gv s' l
theorem VH:∀(l:List (F×F)) (s:fk F),s.Open->
  (∀ s',Gv s l=some s'->s'.Open/\(∀ t,s'.Sat t↔s.Sat t/\∀ x∈l,x.1*t<=x.2)/\(∀ t,s'.lo=some t->s.lo=some t\/∃ x∈l,x.1<0/\x.1*t=x.2)/\(∀ t,s'.hi=some t->s.hi=some t\/∃ x∈l,0<x.1/\x.1*t=x.2))/\
  (Gv s l=none->∀ t1 t2,s.Sat t1->(∀ x∈l,x.1*t1<=x.2)->s.Sat t2->(∀ x∈l,x.1*t2<=x.2)->t1<t2->False)
 |[],s,ho=>⟨λs' h=>by injection h with h;subst h;exact⟨ho,λt=>⟨λh=>⟨h,λx hx=>by cases hx⟩,λh=>h.1⟩,λt h=>.inl h,λt h=>.inl h⟩,λh=>by cases h⟩
 |x::l,s,ho=>by
  obtain⟨h1,h2⟩:=aMt s x.1 x.2;unfold Gv;cases hn:CB s x.1 x.2 with
  |none=>
   refine⟨λs' h=>(by cases h),λ_ t1 t2 a b c d e=>?_⟩;exact h2 hn t1 t2 a (b x (aT ..)) c (d x (aT ..)) e
  |some s1=>
   obtain⟨o1,VI,Aw,hi1⟩:=h1 s1 hn;obtain⟨k1,k2⟩:=VH l s1 (o1 ho);refine⟨λs' h=>?_,λh t1 t2 a b c d e=>?_⟩
   ·obtain⟨o2,aMu,wW,Td⟩:=k1 s' h;refine⟨o2,λt=>?_,λt ht=>?_,λt ht=>?_⟩
    ·rw[aMu,VI];constructor
     ·rintro⟨⟨p,q⟩,r⟩
      exact⟨p,λy hy=>by
       rcases cC.1 hy with rfl|hy
       ·exact q
       ·exact r y hy⟩
     ·rintro⟨p,q⟩
      exact⟨⟨p,q x (aT ..)⟩,λy hy=>q y (bF _ hy)⟩
    ·rcases wW t ht with h|⟨y,hy,h⟩
     ·rcases Aw t h with h|h
      ·exact .inl h
      ·exact .inr ⟨x,aT ..,h⟩
     ·exact .inr ⟨y,bF _ hy,h⟩
    ·rcases Td t ht with h|⟨y,hy,h⟩
     ·rcases hi1 t h with h|h
      ·exact .inl h
      ·exact .inr ⟨x,aT ..,h⟩
     ·exact .inr ⟨y,bF _ hy,h⟩
   ·exact k2 h t1 t2 ((VI t1).2 ⟨a,b x (aT ..)⟩) (λy hy=>b y (bF _ hy)) ((VI t2).2 ⟨c,d x (aT ..)⟩) (λy hy=>d y (bF _ hy)) e
end
section
variable{F:Type}[OF F]
def nh(p q:HS F):V3 F:=
 let d:=af p.n q.n
 smul (smul (af q.n d) p.d+smul (af d p.n) q.d) (dot d d)⁻¹
theorem aCG{p q:HS F}(h:af p.n q.n≠0):cy p (nh p q):=by
 unfold cy nh;dsimp only;have e:dot p.n (smul (af q.n (af p.n q.n)) p.d+smul (af (af p.n q.n) p.n) q.d)=p.d*dot (af p.n q.n) (af p.n q.n):=
  ring [p.n,q.n] [p.d,q.d] (λV S=>dot (V 0) (smul (af (V 1) (af (V 0) (V 1))) (S 0)+smul (af (af (V 0) (V 1)) (V 0)) (S 1))) (λV S=>S 0*dot (af (V 0) (V 1)) (af (V 0) (V 1))) d_
 rw[gC,e,CR.mul_assoc,jn _ (Ap h),CR.mul_one]
theorem aCH{p q:HS F}(h:af p.n q.n≠0):cy q (nh p q):=by
 unfold cy nh;dsimp only;have e:dot q.n (smul (af q.n (af p.n q.n)) p.d+smul (af (af p.n q.n) p.n) q.d)=q.d*dot (af p.n q.n) (af p.n q.n):=
  ring [p.n,q.n] [p.d,q.d] (λV S=>dot (V 1) (smul (af (V 1) (af (V 0) (V 1))) (S 0)+smul (af (af (V 0) (V 1)) (V 0)) (S 1))) (λV S=>S 1*dot (af (V 0) (V 1)) (af (V 0) (V 1))) d_
 rw[gC,e,CR.mul_assoc,jn _ (Ap h),CR.mul_one]
def Ax(ps:List (HS F))(p q:HS F):Option (V3 F×V3 F):=
 let d:=af p.n q.n
 if aG d.x=0/\aG d.y=0/\aG d.z=0 then none
 else match Gv ⟨none,none⟩ (ps.map λr=>(dot r.n d,r.d-dot r.n (nh p q)))with
  |some ⟨some lo,some hi⟩=>some (nh p q+smul d lo,nh p q+smul d hi)
  |_=>none
theorem P0(d:V3 F):(aG d.x=0/\aG d.y=0/\aG d.z=0)↔d=0:=by rw[fF,fF,fF];exact⟨λh=>V3.ext h.1 h.2.1 h.2.2,λh=>by subst h;exact⟨rfl,rfl,rfl⟩⟩
theorem P1{ps:List (HS F)}{b d:V3 F}{t:F}:dZ ps (b+smul d t)↔∀ x∈ps.map λr=>(dot r.n d,r.d-dot r.n b),x.1*t<=x.2:=by
 constructor
 ·intro h x hx;obtain⟨r,hr,rfl⟩:=db.1 hx;have:=h r hr;rw[jq,gC]at this;dsimp only;rw[<-add_le_add_left (dot r.n b),show dot r.n b+(r.d-dot r.n b)=r.d from jN (dot r.n b) r.d (λa d=>a+(d-a)) (λ_ d=>d) d_];exact this
 ·intro h r hr;have:=h _ (db.2 ⟨r,hr,rfl⟩);dsimp only at this;rw[<-add_le_add_left (dot r.n b),show dot r.n b+(r.d-dot r.n b)=r.d from jN (dot r.n b) r.d (λa d=>a+(d-a)) (λ_ d=>d) d_]at this;rw[jq,gC];exact this
theorem aCI:(⟨none,none⟩:fk F).Open:=λl h hl _=>by cases hl
theorem LN(t:F):(⟨none,none⟩:fk F).Sat t:=⟨λl h=>(by cases h),λl h=>(by cases h)⟩
theorem aMv{ps:List (HS F)}{p q:HS F}(hp:p∈ps)(hq:q∈ps){u v:V3 F}(h:Ax ps p q=some (u,v)):j5 ps u/\j5 ps v:=by
 unfold Ax at h;dsimp only at h;split at h
 ·cases h
 ·rename_i hd;rw[P0]at hd;have tp:=aCG hd;have tq:=aCH hd;generalize nh p q=b at *;split at h
  ·rename_i lo hi hn;injection h with h;injection h with h1 h2;obtain⟨ho,vO,eO,iO⟩:=(VH _ _ aCI).1 _ hn;have al:=ho lo hi rfl rfl
   -- a LO of the line on a PR aMw it
   have fin:∀ t:F,lo<=t->t<=hi->(∃ x∈ps.map λr=>(dot r.n (af p.n q.n),r.d-dot r.n b),x.1≠0/\x.1*t=x.2)->j5 ps (b+smul (af p.n q.n) t):=by
    rintro t h1 h2 ⟨x,hx,lC,Aq⟩
    obtain⟨r,hr,rfl⟩:=db.1 hx;refine⟨?_,p,hp,q,hq,r,hr,?_,?_,?_,?_⟩
    ·rw[P1];exact((vO t).1 ⟨λl hl=>by injection hl with hl;rw[<-hl];exact h1,λl hl=>by injection hl with hl;rw[<-hl];exact h2⟩).2
    ·intro e;rw[<-Gm]at e;exact lC e
    ·unfold cy at *;rw[jq,gC,Ea,CR.zero_mul,CR.add_zero,tp]
    ·unfold cy at *;rw[jq,gC,Ao,CR.zero_mul,CR.add_zero,tq]
    ·unfold cy;rw[jq,gC];dsimp only at Aq;rw[Aq];exact jN (dot r.n b) r.d (λa d=>a+(d-a)) (λ_ d=>d) d_
   rw[<-h1,<-h2];constructor
   ·rcases eO lo rfl with k|⟨x,hx,lC,Aq⟩
    ·cases k
    ·exact fin lo (OF.le_refl _) (OF.le_of_lt al) ⟨x,hx,OF.ne_of_lt lC,Aq⟩
   ·rcases iO hi rfl with k|⟨x,hx,lC,Aq⟩
    ·cases k
    ·exact fin hi (OF.le_of_lt al) (OF.le_refl _) ⟨x,hx,OF.ne_of_gt lC,Aq⟩
  ·cases h
theorem aMx{ps:List (HS F)}(hc:Cl ps)(hp:fH ps){v x:V3 F}(hv:j5 ps v)(hx:dZ ps x)(aQ:x≠v):
  ∃ p∈ps,∃ q∈ps,af p.n q.n≠0/\(∃ u w,Ax ps p q=some (u,w)/\(v=u\/v=w))/\(∃ u w,Ax ps q p=some (u,w)/\(v=u\/v=w)):=by
 obtain⟨p,gQ,q,vB,tp,tq,hd,bh⟩:=aLU hp hv hx aQ
 -- one order;c=d or c=-d is the direction aWN the aCJ
 have one:∀ p q:HS F,p∈ps->q∈ps->cy p v->cy q v->af p.n q.n≠0->∀ c:V3 F,(c=af p.n q.n\/c=-af p.n q.n)->(∀ r∈ps,cy r v->dot r.n c<=0)->
   ∃ u w,Ax ps p q=some (u,w)/\(v=u\/v=w):=by
  intro p q gQ vB tp tq hd c VJ bh;have qB:c≠0:=by
   rcases VJ with rfl|rfl
   ·exact hd
   ·exact λe=>hd (neg_eq_zero.1 e)
  have bp:=aCG hd;have bq:=aCH hd
  -- v on the line
  have P2:dot p.n (v-nh p q)=0/\dot q.n (v-nh p q)=0:=by unfold cy at *;rw[gT,gT,tp,tq,bp,bq,OF.sub_self,OF.sub_self];exact⟨rfl,rfl⟩
  obtain⟨t0,wX⟩:∃ t0,v=nh p q+smul (af p.n q.n) t0:=
   ⟨_,by rw[<-LD hd P2.1 P2.2,V3.add_sub_cancel]⟩
  -- a aWO LO of the line
  obtain⟨e,he,⟨r,hr,nK,Gr⟩,cz⟩:=zw hv.1 (hc.bounds hp qB);have aCK:0<e:=by
   rcases OF.oA he with h|h
   ·exact h
   ·rw[<-h,smul_zero,V3.add_zero]at Gr;exact absurd (OF.lt_of_lt_of_le nK (bh r hr Gr)) (OF.lt_irrefl _)
  -- a PR at v aMw the line
  have aCL:=hv.1;obtain⟨_,a1,eG,a2,gV,a3,Cr,VK,t1,t2,t3⟩:=hv;obtain⟨s,hs,ts,VL⟩:∃ s∈ps,cy s v/\dot s.n c<0:=by
   apply gR;intro fX;have z:∀ a∈ps,cy a v->dot a.n c=0:=λa ha ta=>by
    rcases OF.oA (bh a ha ta)with h|h
    ·exact(fX ⟨a,ha,ta,h⟩).elim
    ·exact h
   exact qB (Gn VK (z a1 eG t1) (z a2 gV t2) (z a3 Cr t3))
  have Ar:∀ t:F,v+smul (af p.n q.n) t=nh p q+smul (af p.n q.n) (t0+t):=λt=>by rw[wX];exact hY [nh p q,af p.n q.n] [t0,t] (λV S=>V 0+smul (V 1) (S 0)+smul (V 1) (S 1)) (λV S=>V 0+smul (V 1) (S 0+S 1)) d_
  have aCM:∀ t:F,dZ ps (v+smul (af p.n q.n) t)->∀ x∈ps.map λr=>(dot r.n (af p.n q.n),r.d-dot r.n (nh p q)),x.1*(t0+t)<=x.2:=λt h=>by rw[Ar]at h;exact P1.1 h
  have f0:=aCM 0 (by rw[smul_zero,V3.add_zero];exact aCL);rw[CR.add_zero]at f0
  -- the other LO
  have f1:∃ t1:F,t1≠0/\dZ ps (v+smul (af p.n q.n) t1):=by
   rcases VJ with rfl|rfl
   ·exact⟨e,OF.ne_of_gt aCK,cz⟩
   ·refine⟨-e,OF.ne_of_lt (F1.2 aCK),?_⟩;rw[show smul (af p.n q.n) (-e)=smul (-af p.n q.n) e from hY [af p.n q.n] [e] (λV S=>smul (V 0) (-S 0)) (λV S=>smul (-V 0) (S 0)) d_];exact cz
  obtain⟨t1,kk,f1⟩:=f1;have f1:=aCM t1 f1;unfold Ax;dsimp only;rw[av (by rw[P0];exact hd)];obtain⟨n1,n2⟩:=VH (ps.map λr=>(dot r.n (af p.n q.n),r.d-dot r.n (nh p q))) ⟨none,none⟩ aCI;cases hN:Gv ⟨none,none⟩ (ps.map λr=>(dot r.n (af p.n q.n),r.d-dot r.n (nh p q)))with
  |none=>
   exfalso;rcases OF.lt_trichotomy 0 t1 with h|h|h
   ·exact n2 hN t0 (t0+t1) (LN _) f0 (LN _) f1 (by have:=(add_lt_add_left t0).2 h;rwa[CR.add_zero]at this)
   ·exact kk h.symm
   ·exact n2 hN (t0+t1) t0 (LN _) f1 (LN _) f0 (by have:=(add_lt_add_left t0).2 h;rwa[CR.add_zero]at this)
  |some sg=>
   obtain⟨ho,vO,_,_⟩:=n1 sg hN;have s0:=(vO t0).2 ⟨LN _,f0⟩
   -- beyond a PR
   have beyond:∀ c:V3 F,c≠0->∃ t:F,0<=t/\¬dZ ps (v+smul c t):=by intro c qB;obtain⟨t,ht,⟨r,hr,nK,Gr⟩,_⟩:=zw aCL (hc.bounds hp qB);refine⟨t+1,add_nonneg ht (OF.le_of_lt OF.zero_lt_one),λh=>?_⟩;have h1:=h r hr;rw[show v+smul c (t+1)=v+smul c t+c from hY [v,c] [t] (λV S=>V 0+smul (V 1) (S 0+1)) (λV S=>V 0+smul (V 1) (S 0)+V 1) d_,jq,show dot r.n (v+smul c t)=r.d from Gr]at h1;have:=(add_lt_add_left r.d).2 nK;rw[CR.add_zero]at this;exact OF.lt_irrefl _ (OF.lt_of_lt_of_le this h1)
   obtain⟨lo,hi⟩:=sg;have iO:∃ h,hi=some h:=by
    cases hi with
    |some h=>exact⟨h,rfl⟩
    |none=>
     exfalso;obtain⟨t,ht,fX⟩:=beyond _ hd;apply fX;rw[Ar,P1];refine((vO (t0+t)).1 ⟨λl hl=>?_,λh hh=>(by cases hh)⟩).2;refine OF.le_trans (s0.1 l hl) ?_;have:=(add_le_add_left t0).2 ht;rwa[CR.add_zero]at this
   have eO:∃ l,lo=some l:=by
    cases lo with
    |some h=>exact⟨h,rfl⟩
    |none=>
     exfalso;obtain⟨t,ht,fX⟩:=beyond (-af p.n q.n) (λe=>hd (neg_eq_zero.1 e));apply fX;rw[show smul (-af p.n q.n) t=smul (af p.n q.n) (-t)from hY [af p.n q.n] [t] (λV S=>smul (-V 0) (S 0)) (λV S=>smul (V 0) (-S 0)) d_,Ar,P1];refine((vO (t0+-t)).1 ⟨λh hh=>(by cases hh),λl hl=>?_⟩).2;refine OF.le_trans ?_ (s0.2 l hl);have:=(add_le_add_left t0).2 (DT.2 ht);rwa[CR.add_zero]at this
   obtain⟨hi,rfl⟩:=iO;obtain⟨lo,rfl⟩:=eO;have al:=ho lo hi rfl rfl;have l0:=s0.1 lo rfl;have h0:=s0.2 hi rfl;refine⟨_,_,rfl,?_⟩
   -- the value of s on the line
   have aCN:∀ t:F,(∀ x∈ps.map λr=>(dot r.n (af p.n q.n),r.d-dot r.n (nh p q)),x.1*t<=x.2)->dot s.n (af p.n q.n)*t<=dot s.n (af p.n q.n)*t0:=by
    intro t h;have h1:=h _ (db.2 ⟨s,hs,rfl⟩);dsimp only at h1;have h2:dot s.n (af p.n q.n)*t0=s.d-dot s.n (nh p q):=by have:dot s.n v=s.d:=ts;rw[wX,jq,gC]at this;rw[<-this];exact jN (dot s.n (nh p q)) (dot s.n (af p.n q.n)*t0) (λ_ b=>b) (λa b=>a+b-a) d_
    rw[h2];exact h1
   rcases VJ with rfl|rfl
   ·left;have k:=aCN lo ((vO lo).1 ⟨λl hl=>(by injection hl with hl;rw[hl];exact OF.le_refl _),λh hh=>(by injection hh with hh;rw[<-hh];exact OF.le_of_lt al)⟩).2;have k2:t0<=lo:=by
     rw[<-mul_le_mul_left (neg_pos.2 VL),CR.neg_mul,CR.neg_mul,OF.le_def,show -(dot s.n (af p.n q.n)*lo) - -(dot s.n (af p.n q.n)*t0)=dot s.n (af p.n q.n)*t0-dot s.n (af p.n q.n)*lo from
       jN (dot s.n (af p.n q.n)*lo) (dot s.n (af p.n q.n)*t0) (λa b=>-a - -b) (λa b=>b-a) d_]
     exact k
    rw[OF.le_antisymm l0 k2];exact wX
   ·right;rw[rS,F1]at VL;have k:=aCN hi ((vO hi).1 ⟨λl hl=>(by injection hl with hl;rw[<-hl];exact OF.le_of_lt al),λh hh=>(by injection hh with hh;rw[hh];exact OF.le_refl _)⟩).2;rw[mul_le_mul_left VL]at k;rw[OF.le_antisymm k h0];exact wX
 refine⟨p,gQ,q,vB,hd,one p q gQ vB tp tq hd _ (.inl rfl) bh,one q p vB gQ tq tp (λe=>hd (by rw[Gl,e,V3.neg_zero])) _ (.inr ?_) bh⟩;rw[<-Gl]
def wY(ps:List (HS F))(x:V3 F):Prop:=∀ p∈ps,dot p.n x<p.d
def lD(ps:List (HS F)):Prop:=∃ x,wY ps x
theorem wY.inside{ps:List (HS F)}{x:V3 F}(h:wY ps x):dZ ps x:=λp hp=>OF.le_of_lt (h p hp)
def aCO(l:List (V3 F)):V3 F:=l.foldl (λs v=>s+v) 0
theorem aCP(m:V3 F):∀(l:List (V3 F)) (s:V3 F),dot m (l.foldl (λs v=>s+v) s)=l.foldl (λ(a:F) v=>a+dot m v) (dot m s)
 |[],_=>rfl
 |v::l,s=>by rw[wE,aCP,wE,jq]
theorem P3(f:V3 F->F):∀(l:List (V3 F)) (a:F),l.foldl (λ(a:F) v=>a+f v) a=a+l.foldl (λ(a:F) v=>a+f v) 0
 |[],a=>by rw[aCQ,aCQ,CR.add_zero]
 |v::l,a=>by rw[wE,wE,P3 f l (a+f v),P3 f l (0+f v),CR.zero_add,CR.add_assoc]
theorem aCR{f:V3 F->F}{d:F}:∀{l:List (V3 F)},(∀ v∈l,f v<=d)->l.foldl (λ(a:F) v=>a+f v) 0<=CR.ofNat l.length*d
 |[],_=>by rw[aCQ,List.length_nil,CR.ofNat,CR.zero_mul];exact OF.le_refl _
 |v::l,h=>by rw[wE,P3,CR.zero_add,pS,CR.ofNat,CR.add_mul,CR.one_mul,CR.add_comm];exact OF.add_le_add (aCR λv hv=>h v (bF _ hv)) (h v (aT ..))
theorem aCS{f:V3 F->F}{d:F}:∀{l:List (V3 F)},(∀ v∈l,f v<=d)->(∃ v∈l,f v<d)->l.foldl (λ(a:F) v=>a+f v) 0<CR.ofNat l.length*d
 |[],_,h=>by obtain⟨v,hv,_⟩:=h;cases hv
 |v::l,h,k=>by
  rw[wE,P3,CR.zero_add,pS,CR.ofNat,CR.add_mul,CR.one_mul,CR.add_comm];have hl:∀ v∈l,f v<=d:=λv hv=>h v (bF _ hv);obtain⟨x,hx,yc⟩:=k;rcases cC.1 hx with rfl|hx
  ·exact add_lt_add_of_le_of_lt (aCR hl) yc
  ·exact add_lt_add_of_lt_of_le (aCS hl ⟨x,hx,yc⟩) (h v (aT ..))
theorem LP:∀{n:Nat},0<n->(0:F)<CR.ofNat n
 |n+1,_=>by
  rw[CR.ofNat];rcases oV n with rfl|h
  ·rw[CR.ofNat,CR.zero_add];exact OF.zero_lt_one
  ·exact add_pos (LP h) OF.zero_lt_one
def CC(l:List (V3 F)):V3 F:=smul (aCO l) (CR.ofNat l.length)⁻¹
theorem aMy(m:V3 F)(l:List (V3 F)):dot m (CC l)=l.foldl (λ(a:F) v=>a+dot m v) 0*(CR.ofNat l.length)⁻¹:=by unfold CC aCO;rw[gC,aCP,yr]
theorem aCT{m:V3 F}{d:F}{l:List (V3 F)}(h:∀ v∈l,dot m v<=d)(k:∃ v∈l,dot m v<d):dot m (CC l)<d:=by
 have hl:0<l.length:=by
  obtain⟨v,hv,_⟩:=k;cases l with
  |nil=>cases hv
  |cons a l=>exact T2 _
 have hp:=LP (F:=F) hl;rw[aMy,<-mul_lt_mul_left hp,CR.mul_left_comm,jn _ (OF.ne_of_gt hp),CR.mul_one];exact aCS h k
theorem aCU{ps:List (HS F)}(hc:Cl ps)(hp:fH ps){l:List (V3 F)}(hl:∀ v,v∈l↔j5 ps v)(hf:lD ps):l≠[]/\wY ps (CC l):=by
 obtain⟨x,hx⟩:=hf;have yt:∀ p∈ps,∃ v∈l,dot p.n v<p.d:=by intro p jb;obtain⟨v,hv,hm⟩:=top hc hp (m:=-p.n) hx.inside;refine⟨v,(hl v).2 hv,?_⟩;rw[yq,yq,OF.le_def,show -dot p.n v - -dot p.n x=dot p.n x-dot p.n v from jN (dot p.n v) (dot p.n x) (λa b=>-a - -b) (λa b=>b-a) d_]at hm;exact OF.lt_of_le_of_lt hm (hx p jb)
 obtain⟨⟨p,jb,_⟩,_⟩:=hc;refine⟨λe=>?_,λp jb=>aCT (λv hv=>((hl v).1 hv).1 p jb) (yt p jb)⟩;obtain⟨v,hv,_⟩:=yt p jb;rw[e]at hv;cases hv
theorem aMz{ps:List (HS F)}(hc:Cl ps)(hp:fH ps)(hf:lD ps)(v:V3 F):∃ x,dZ ps x/\x≠v:=by
 obtain⟨x,hx⟩:=hf;by_cases h:x=v
 ·obtain⟨p,jb,_⟩:=hc.1;have jO:=hp p jb;obtain⟨w,hw,hm⟩:=top hc hp (m:=p.n) hx.inside;by_cases hwx:w=x
  ·-- then every aWP is x,which is on a PR
   obtain⟨_,q,hq,_,_,_,_,_,tq,_⟩:=hw;have:=hx q hq;rw[hwx]at tq;rw[show dot q.n x=q.d from tq]at this;exact absurd this (OF.lt_irrefl _)
  ·exact⟨w,hw.1,λe=>hwx (e.trans h.symm)⟩
 ·exact⟨x,hx.inside,h⟩
end
section
variable{F:Type}[OF F]
def VM(l:List (V3 F)):Prop:=∃ o rest,l=o::rest/\∃ a∈rest,∃ b∈rest,∃ c∈rest,aW (a-o) (b-o) (c-o)≠0
theorem aMA{ps:List (HS F)}(hp:fH ps){l:List (V3 F)}(hl:∀ v∈l,dZ ps v)(h:VM l):lD ps:=by
 obtain⟨o,rest,rfl,a,ha,b,hb,c,hc,hd⟩:=h;have io:=hl o (aT ..);have ia:=hl a (bF _ ha);have ib:=hl b (bF _ hb);have ic:=hl c (bF _ hc);refine⟨CC [o,a,b,c],λp jb=>aCT (λv hv=>?_) ?_⟩
 ·simp only[cC,j6,j7]at hv;rcases hv with rfl|rfl|rfl|rfl
  ·exact io p jb
  ·exact ia p jb
  ·exact ib p jb
  ·exact ic p jb
 ·apply gR;intro fX;have tight:∀ v∈[o,a,b,c],dot p.n v=p.d:=by
   intro v hv;have cz:dot p.n v<=p.d:=by
    simp only[cC,j6,j7]at hv;rcases hv with rfl|rfl|rfl|rfl
    ·exact io p jb
    ·exact ia p jb
    ·exact ib p jb
    ·exact ic p jb
   rcases OF.oA cz with h|h
   ·exact(fX ⟨v,hv,h⟩).elim
   ·exact h
  have to:=tight o s_;have z:∀ v∈[o,a,b,c],dot (v-o) p.n=0:=λv hv=>by rw[yp,gT,tight v hv,to,OF.sub_self]
  exact hp p jb (Gn hd (z a s_) (z b s_) (z c s_))
theorem aMB{ps:List (HS F)}(hc:Cl ps)(hp:fH ps){l:List (V3 F)}(hl:∀ v,v∈l↔j5 ps v)(hf:lD ps):VM l:=by
 have aQ:=(aCU hc hp hl hf).1;cases l with
 |nil=>exact absurd rfl aQ
 |cons o rest=>
  apply gR;intro fX;have hz:∀ a∈rest,∀ b∈rest,∀ c∈rest,aW (a-o) (b-o) (c-o)=0:=by intro a ha b hb c hc;apply gR;intro h;exact fX ⟨o,rest,rfl,a,ha,b,hb,c,hc,h⟩
  -- a direction that all points have in NP
  obtain⟨m,hm,P2⟩:∃ m:V3 F,m≠0/\∀ v∈rest,dot m (v-o)=0:=by
   by_cases h2:∃ a∈rest,∃ b∈rest,af (a-o) (b-o)≠0
   ·obtain⟨a,ha,b,hb,h⟩:=h2;refine⟨_,h,λv hv=>?_⟩;rw[yp];exact hz v hv a ha b hb
   ·have wM:∀ a∈rest,∀ b∈rest,af (a-o) (b-o)=0:=λa ha b hb=>gR λh=>h2 ⟨a,ha,b,hb,h⟩;by_cases h1:∃ a∈rest,a-o≠0
    ·obtain⟨a,ha,h⟩:=h1;obtain⟨u,hu,P4⟩:=LF h;exact⟨u,hu,λv hv=>by rw[yp];exact LG h (wM a ha v hv) P4⟩
    ·obtain⟨p,jb,_⟩:=hc.1;exact⟨p.n,hp p jb,λv hv=>by rw[gR (λh=>h1 ⟨v,hv,h⟩:¬¬(v-o=0)),yr]⟩
  have heq:∀ v,j5 ps v->dot m v=dot m o:=by
   intro v hv;rcases cC.1 ((hl v).2 hv)with rfl|h
   ·rfl
   ·have:=P2 v h;rw[gT]at this;exact OF.sub_eq_zero.1 this
  -- so every LO inside has the same product
  have all:∀ y,dZ ps y->dot m y=dot m o:=by intro y hy;obtain⟨v,hv,h1⟩:=top hc hp (m:=m) hy;obtain⟨w,hw,h2⟩:=top hc hp (m:=-m) hy;rw[heq v hv]at h1;rw[yq,yq,heq w hw,OF.le_def,show -dot m o - -dot m y=dot m y-dot m o from jN (dot m o) (dot m y) (λa b=>-a - -b) (λa b=>b-a) d_]at h2;exact OF.le_antisymm h1 h2
  obtain⟨x,hx⟩:=hf;obtain⟨t,ht,⟨q,hq,_,wT⟩,cz⟩:=zw hx.inside (hc.bounds hp hm);have wX:t≠0:=by
   rintro rfl
   rw[smul_zero,V3.add_zero]at wT;have:=hx q hq;rw[show dot q.n x=q.d from wT]at this;exact OF.lt_irrefl _ this
  have h1:=all _ cz;rw[jq,gC,all x hx.inside]at h1;have:dot m m*t=0:=CR.add_left_cancel (a:=dot m o) (by rw[h1,CR.add_zero]);exact mul_ne_zero (Ap hm) wX this
theorem Cl.more{ps qs:List (HS F)}(hc:Cl ps)(hp:fH ps)(h:∀ p∈ps,p∈qs):Cl qs:=by obtain⟨p,jb,q,lW,hd⟩:=hc.1;refine⟨⟨p,h p jb,q,h q lW,hd⟩,λa _ b _ ch=>?_⟩;obtain⟨r,hr,nK⟩:=hc.bounds hp ch;exact⟨r,h r hr,nK⟩
end
end
variable{m k a d:Nat}{ι:Map}{p:HS K}{c:g_}{ps:List (HS K)}
section
open CR OF
section
variable{F:Type}[OF F]
def eD(u v:V3 F):Int:=
 if aG (u.x-v.x)≠0 then aG (u.x-v.x)else if aG (u.y-v.y)≠0 then aG (u.y-v.y)else aG (u.z-v.z)
theorem aMC(u v:V3 F):(u-v).x=u.x-v.x:=rfl
theorem aMD(u v:V3 F):(u-v).y=u.y-v.y:=rfl
theorem aME(u v:V3 F):(u-v).z=u.z-v.z:=rfl
theorem aCV{u v:V3 F}:eD u v=1↔Av (u-v):=by
 unfold eD Av;rw[aMC,aMD,aME,gk,gk,gk];have e:∀ a:F,a=0↔aG a=0:=λa=>(fF a).symm;rw[e (u.x-v.x),e (u.y-v.y)];rcases iY (u.x-v.x)with h|h|h<;>rw[h]<;>simp
 rcases iY (u.y-v.y)with h|h|h<;>rw[h]<;>simp
theorem aCW(u v:V3 F):eD v u=- eD u v:=by
 unfold eD;rw[F0 v.x u.x,F0 v.y u.y,F0 v.z u.z];rcases iY (u.x-v.x)with h|h|h<;>rw[h]<;>simp
 rcases iY (u.y-v.y)with h|h|h<;>rw[h]<;>simp
theorem LQ{u v:V3 F}:eD u v=-1↔Av (v-u):=by rw[<-aCV,aCW u v];omega
theorem LR{u v:V3 F}:eD u v=0↔u=v:=by
 constructor
 ·intro h;apply gR;intro aQ;rcases aMr aQ with k|k
  ·rw[LQ.2 k]at h;cases h
  ·rw[aCV.2 k]at h;cases h
 ·rintro rfl
  unfold eD;rw[OF.sub_self,OF.sub_self,OF.sub_self,(fF (0:F)).2 rfl];simp
theorem IZ(u v:V3 F):eD u v=-1\/eD u v=0\/eD u v=1:=by
 unfold eD;split
 ·exact iY _
 ·split
  ·exact iY _
  ·exact iY _
def j8(u v:V3 F):Prop:=eD u v=-1
theorem LS{u v w:V3 F}(h:j8 u v)(k:j8 v w):j8 u w:=by have h:=LQ.1 h;have k:=LQ.1 k;exact LQ.2 (jc.aCu (H:=aCF) h k)
theorem Ed(u:V3 F):¬j8 u u:=λh=>by have:eD u u=0:=LR.2 rfl;rw[show eD u u=-1 from h]at this;cases this
theorem P5{u v:V3 F}(h:j8 u v)(k:j8 v u):False:=Ed u (LS h k)
theorem LU{u v:V3 F}(h:eD u v=1):j8 v u:=by unfold j8;rw[aCW u v,h]
def ni(v:V3 F):List (V3 F)->List (V3 F)
 |[]=>[v]
 |a::l=>if eD a v=0 then a::l else if eD a v=1 then v::a::l else a::ni v l
theorem P6{v x:V3 F}:∀{l:List (V3 F)},x∈ni v l↔x=v\/x∈l
 |[]=>by simp[ni]
 |a::l=>by
  unfold ni;split
  ·rename_i h;have e:=LR.1 h;subst e;simp
  ·split
   ·simp
   ·rw[cC,P6,cC];constructor
    ·rintro(h|h|h)
     ·exact .inr (.inl h)
     ·exact .inl h
     ·exact .inr (.inr h)
    ·rintro(h|h|h)
     ·exact .inr (.inl h)
     ·exact .inl h
     ·exact .inr (.inr h)
theorem VN{v:V3 F}:∀{l:List (V3 F)},l.Pairwise j8->(ni v l).Pairwise j8
 |[],_=>VA ..
 |a::l,h=>by
  unfold ni;have h':=tA.1 h;split
  ·exact h
  ·rename_i h0;split
   ·rename_i h1;refine tA.2 ⟨λb hb=>?_,h⟩;rcases cC.1 hb with rfl|hb
    ·exact LU h1
    ·exact LS (LU h1) (h'.1 b hb)
   ·rename_i h1;refine tA.2 ⟨λb hb=>?_,VN h'.2⟩;rcases P6.1 hb with rfl|hb
    ·rcases IZ a b with k|k|k
     ·exact k
     ·exact absurd k h0
     ·exact absurd k h1
    ·exact h'.1 b hb
theorem VO:∀{l m:List (V3 F)},l.Pairwise j8->m.Pairwise j8->(∀ x,x∈l↔x∈m)->l=m
 |[],[],_,_,_=>rfl
 |[],b::m,_,_,h=>by have:=(h b).2 (aT ..);cases this
 |a::l,[],_,_,h=>by have:=(h a).1 (aT ..);cases this
 |a::l,b::m,hl,hm,h=>by
  have cB:=tA.1 hl;have bE:=tA.1 hm;have e:a=b:=by
   rcases cC.1 ((h a).1 (aT ..))with e|ha
   ·exact e
   ·rcases cC.1 ((h b).2 (aT ..))with e|hb
    ·exact e.symm
    ·exact(P5 (cB.1 b hb) (bE.1 a ha)).elim
  subst e
  congr 1
  refine VO cB.2 bE.2 λx=>⟨λhx=>?_,λhx=>?_⟩
  ·rcases cC.1 ((h x).1 (bF _ hx))with rfl|sZ
   ·exact(Ed _ (cB.1 _ hx)).elim
   ·exact sZ
  ·rcases cC.1 ((h x).2 (bF _ hx))with rfl|sZ
   ·exact(Ed _ (bE.1 _ hx)).elim
   ·exact sZ
def LV(l:List (V3 F)):List (V3 F):=l.foldl (λs v=>ni v s) []
theorem aCX{x:V3 F}:∀(l s:List (V3 F)),x∈l.foldl (λs v=>ni v s) s↔x∈l\/x∈s
 |[],s=>by simp
 |v::l,s=>by
  rw[wE,aCX l,P6,cC];constructor
  ·rintro(h|h|h)
   ·exact .inl (.inr h)
   ·exact .inl (.inl h)
   ·exact .inr h
  ·rintro((h|h)|h)
   ·exact .inr (.inl h)
   ·exact .inl h
   ·exact .inr (.inr h)
theorem aCY:∀(l s:List (V3 F)),s.Pairwise j8->(l.foldl (λs v=>ni v s) s).Pairwise j8
 |[],_,h=>h
 |v::l,s,h=>by rw[wE];exact aCY l _ (VN h)
theorem VP{x:V3 F}{l:List (V3 F)}:x∈LV l↔x∈l:=by unfold LV;rw[aCX];simp
theorem VQ(l:List (V3 F)):(LV l).Pairwise j8:=aCY l [] aCZ
end
end
section
open V3 (dot af aW smul)
def cK(v:V3 K):RV:=⟨de v.x,de v.y,de v.z⟩
def bZ(v:V3 K):Value:=(cK v).v
theorem P7{u v:V3 K}(h:cK u=cK v):u=v:=by cases u;cases v;have h1:=Lk (cO RV.x h);have h2:=Lk (cO RV.y h);have h3:=Lk (cO RV.z h);dsimp only[cK]at h1 h2 h3;rw[h1,h2,h3]
def aI(n:Nat)(v:V3 K):Prop:=Sz n v.x/\Sz n v.y/\Sz n v.z
theorem aI.mono{n:Nat}(h:m<=n){v:V3 K}(hv:aI m v):aI n v:=⟨hv.1.mono h,hv.2.1.mono h,hv.2.2.mono h⟩
theorem aI.sm{n:Nat}{v:V3 K}(h:aI n v)(hn:n<=aD):(cK v).Sm:=⟨ux h.1 hn,ux h.2.1 hn,ux h.2.2 hn⟩
theorem aI.add{n:Nat}{u v:V3 K}(hu:aI m u)(hv:aI n v):aI (m+n+1) (u+v):=⟨hu.1.add hv.1,hu.2.1.add hv.2.1,hu.2.2.add hv.2.2⟩
theorem aI.sub{n:Nat}{u v:V3 K}(hu:aI m u)(hv:aI n v):aI (m+n+1) (u-v):=⟨hu.1.sub hv.1,hu.2.1.sub hv.2.1,hu.2.2.sub hv.2.2⟩
theorem aI.neg{n:Nat}{v:V3 K}(hv:aI n v):aI n (-v):=⟨hv.1.neg,hv.2.1.neg,hv.2.2.neg⟩
theorem aI.smul{m n:Nat}{v:V3 K}{k:K}(hv:aI m v)(hk:Sz n k):aI (m+n+4) (smul v k):=⟨hv.1.mul hk,hv.2.1.mul hk,hv.2.2.mul hk⟩
theorem aI.dot{m n:Nat}{u v:V3 K}(hu:aI m u)(hv:aI n v):Sz (3*(m+n)+14) (dot u v):=((hu.1.mul hv.1).add (hu.2.1.mul hv.2.1)).add (hu.2.2.mul hv.2.2) |>.mono o_
theorem aI.af{m n:Nat}{u v:V3 K}(hu:aI m u)(hv:aI n v):aI (2*(m+n)+9) (af u v):=
 ⟨((hu.2.1.mul hv.2.2).sub (hu.2.2.mul hv.2.1)).mono o_,((hu.2.2.mul hv.1).sub (hu.1.mul hv.2.2)).mono o_,((hu.1.mul hv.2.1).sub (hu.2.1.mul hv.1)).mono o_⟩
theorem j9{v:V3 K}{n:Nat}(h:aI n v)(hn:n<=aD):aF prog 73 [bZ v] b_:=PJ (r:=cK v) (kZ h.1 hn) (kZ h.2.1 hn) (kZ h.2.2 hn)
theorem yw{a b c:Int}(ha:a.natAbs<9223372036854775808)(hb:b.natAbs<9223372036854775808)(hc:c.natAbs<9223372036854775808):aF prog 55 [.int .i64 a,.int .i64 b,.int .i64 c] (bZ ⟨kI a,kI b,kI c⟩):=
 aN func55 (λ_=>[(rO ha).at 8,(rO hb).at 10,(rO hc).at 12])
def VR(f:FuncId):Value:=.agg #[.func (.func f) #[] #[]]
theorem aMF{u v:RV}{z:RV}(hu:aF prog 73 [u.v] b_)(hv:aF prog 73 [v.v] b_)
  (hx:aF prog 96 [u.x.v,v.x.v] z.x.v) (hy:aF prog 96 [u.y.v,v.y.v] z.y.v) (hz:aF prog 96 [u.z.v,v.z.v] z.z.v):aF prog 113 [VR 96,u.v,v.v] z.v:=
 aN func113 (λ_=>[hu.at 8,hv.at 12,hx.at 22,hy.at 29,hz.at 36])
theorem aMG{u v:RV}{z:RV}(hu:aF prog 73 [u.v] b_)(hv:aF prog 73 [v.v] b_)
  (hx:aF prog 127 [u.x.v,v.x.v] z.x.v) (hy:aF prog 127 [u.y.v,v.y.v] z.y.v) (hz:aF prog 127 [u.z.v,v.z.v] z.z.v):aF prog 113 [VR 127,u.v,v.v] z.v:=
 aN func113 (λ_=>[hu.at 8,hv.at 12,hx.at 22,hy.at 29,hz.at 36])
theorem aC0{u v:RV}{z:RV}(hu:aF prog 73 [u.v] b_)(hv:aF prog 73 [v.v] b_)
  (hx:aF prog 38 [u.x.v,v.x.v] z.x.v) (hy:aF prog 38 [u.y.v,v.y.v] z.y.v) (hz:aF prog 38 [u.z.v,v.z.v] z.z.v):aF prog 113 [VR 38,u.v,v.v] z.v:=
 aN func113 (λ_=>[hu.at 8,hv.at 12,hx.at 22,hy.at 29,hz.at 36])
theorem Gw{u v:V3 K}{n:Nat}(hu:aI m u)(hv:aI n v)(cN:m+n<aD):aF prog 57 [bZ u,bZ v] (bZ (u+v)):=
 aN func57 (λ_=>[(aMF (u:=cK u) (v:=cK v) (z:=cK (u+v)) (j9 hu o_) (j9 hv o_) (ti hu.1 hv.1 cN) (ti hu.2.1 hv.2.1 cN) (ti hu.2.2 hv.2.2 cN)).at 8])
theorem CD{u v:V3 K}{n:Nat}(hu:aI m u)(hv:aI n v)(cN:m+n<aD):aF prog 124 [bZ u,bZ v] (bZ (u-v)):=
 aN func124 (λ_=>[(aMG (u:=cK u) (v:=cK v) (z:=cK (u-v)) (j9 hu o_) (j9 hv o_) (Cp hu.1 hv.1 cN) (Cp hu.2.1 hv.2.1 cN) (Cp hu.2.2 hv.2.2 cN)).at 8])
instance:DecidableEq (V3 K):=λu v=>decidable_of_iff (u.x=v.x/\u.y=v.y/\u.z=v.z) ⟨λh=>V3.ext h.1 h.2.1 h.2.2,λh=>by subst h;exact⟨rfl,rfl,rfl⟩⟩
theorem LW:aI 1 (⟨kI 0,kI 0,kI 0⟩:V3 K):=⟨qe d_ d_,qe d_ d_,qe d_ d_⟩
theorem I0{v:V3 K}{n:Nat}(hv:aI n v)(hn:n+1<aD):aF prog 183 [bZ v] (bZ (-v)):=by
 have e:(⟨kI 0,kI 0,kI 0⟩:V3 K)-v=-v:=by cases v;show(⟨kI 0-_,kI 0-_,kI 0-_⟩:V3 K)=⟨-_,-_,-_⟩;rw[aLo];congr 1<;>(rw[CR.sub_def];exact CR.zero_add _)
 have h:=CD LW hv o_;rw[e]at h;exact aN func183 (λ_=>[(yw (a:=0) (b:=0) (c:=0) d_ d_ d_).at 3,h.at 5])
theorem wZ{v:V3 K}{k:K}{n:Nat}(hv:aI m v)(hk:Sz n k)(cN:m+n+8<=aD):aF prog 58 [bZ v,bI k] (bZ (smul v k)):=
 aN func58 (λ_=>[(aC0 (u:=cK v) (v:=⟨de k,de k,de k⟩) (z:=cK (smul v k)) (j9 hv o_) (j9 (v:=⟨k,k,k⟩) ⟨hk,hk,hk⟩ o_) (nO hv.1 hk cN) (nO hv.2.1 hk cN) (nO hv.2.2 hk cN)).at 11])
theorem uB{u v:V3 K}{n:Nat}(hu:aI m u)(hv:aI n v)(cN:3*(m+n)+16<aD):aF prog 70 [bZ u,bZ v] (bI (dot u v)):=
 aN func70 (λ_=>[(aC0 (u:=cK u) (v:=cK v) (z:=⟨de (u.x*v.x),de (u.y*v.y),de (u.z*v.z)⟩) (j9 hu o_) (j9 hv o_) (nO hu.1 hv.1 o_) (nO hu.2.1 hv.2.1 o_) (nO hu.2.2 hv.2.2 o_)).at 9,(ti (hu.1.mul hv.1) (hu.2.1.mul hv.2.1) o_).at 14,(ti ((hu.1.mul hv.1).add (hu.2.1.mul hv.2.1)) (hu.2.2.mul hv.2.2) o_).at 17])
theorem Gx{a b c d:K}{n:Nat}(ha:Sz m a)(hb:Sz m b)(hc:Sz n c)(hd:Sz n d)(cN:2*(m+n)+16<aD):aF prog 155 [bI a,bI b,bI c,bI d] (bI (a*d-b*c)):=
 aN func155 (λ_=>[(nO ha hd o_).at 11,(nO hb hc o_).at 14,(Cp (ha.mul hd) (hb.mul hc) o_).at 15])
theorem vP{u v:V3 K}{n:Nat}(hu:aI m u)(hv:aI n v)(cN:2*(m+n)+16<aD):aF prog 114 [bZ u,bZ v] (bZ (af u v)):=
 aN func114 (λ_=>[(j9 hu o_).at 6,(j9 hv o_).at 10,(Gx hu.2.1 hu.2.2 hv.2.1 hv.2.2 cN).at 22,(Gx hu.2.2 hu.1 hv.2.2 hv.1 cN).at 31,(Gx hu.1 hu.2.1 hv.1 hv.2.1 cN).at 40])
theorem Ee{v:V3 K}{n:Nat}(hv:aI n v)(hn:n<=aD):aF prog 74 [bZ v] (.bool (decide (v=0))):=by have hz:(⟨kI 0,kI 0,kI 0⟩:V3 K)=0:=rfl;exact aN func74 (λ_=>[(yw (a:=0) (b:=0) (c:=0) d_ d_ d_).at 4,.step 5 (aw f74 5) _ _ _ _ (F8 (neg:=true) k_ (cK v) (cK ⟨kI 0,kI 0,kI 0⟩) (hv.sm hn) (LW.sm d_) (b:=decide (v=0)) (by rw[aB rfl,CE];exact⟨λh=>by rw[h,hz],λh=>P7 h⟩))])
def P8:Int->Int->Int->Int:=λa b c=>if a≠0 then a else if b≠0 then b else c
theorem Gy{l:List aR}{v:i_}(hf:prog.funcs[f]?=some fn)(N:Nat)(rs:∀ w,bM prog (aa.at w) N)(hN:N=(eC 0 l).length+(fn.ntmps-(eC 0 l).length):=by kernel_rfl)(hl:(l.all aR.ok)=true:=by kernel_rfl)(h:∀ w,oq (gv (P:=prog) fn 100 (eC 0 l) (ja 0 l) (jo 0 l) (rs w)) []=ou (gv fn 100 (eC 0 l) (ja 0 l) (jo 0 l) (rs w)) v []:=by intro _;kernel_rfl)(hv:flat v=true:=by kernel_rfl):cE prog f l v:=jC mixed hf hl 100 hN rs h hv
theorem aMH(a b c:Int):cE prog 213 [.r 3 [.int .i64 a,.int .i64 b,.int .i64 c]] (.int .i64 (P8 a b c)):=by
 have bl:∀ z:Int,z≠0->(Value.bool (!(z==0)))=.bool true:=λz h=>by congr 1;simpa using h
 unfold P8;by_cases ha:a=0
 ·rw[av (λh=>h ha)];subst ha;by_cases hb:b=0
  ·rw[av (λh=>h hb)];subst hb;by_cases hc:c=0
   ·subst hc;exact Gy func213 18 (λ_=>[])
   ·exact Gy func213 18 (λ_=>[.rw 14 (.bool (!((0:Int)==0))) a_ rfl,.rw 14 (.bool (!((0:Int)==0))) a_ rfl,.rw 14 _ _ (bl c hc)])
  ·rw[aB hb];exact Gy func213 18 (λ_=>[.rw 14 (.bool (!((0:Int)==0))) a_ rfl,.rw 14 _ _ (bl b hb)])
 ·rw[aB ha];exact Gy func213 18 (λ_=>[.rw 14 _ _ (bl a ha)])
theorem aC1(u v:V3 K):P8 (OF.aG (u.x-v.x)) (OF.aG (u.y-v.y)) (OF.aG (u.z-v.z))=eD u v:=rfl
theorem VT{u v:V3 K}{n:Nat}(hu:aI m u)(hv:aI n v)(cN:4*(m+n)+24<=aD):aF prog 186 [bZ u,bZ v] (.int .i64 (eD u v)):=by rw[<-aC1];refine aN func186 (λ_=>[(j9 hu o_).at 6,(j9 hv o_).at 10,(mX hu.1 hv.1 cN).at 17,(mX hu.2.1 hv.2.1 cN).at 22,(mX hu.2.2 hv.2.2 cN).at 27,.bs f186 28 2 3 3 1 [0,1,2] (.int .i64 0) [.int .i64 (OF.aG (u.x-v.x)),.int .i64 (OF.aG (u.y-v.y)),.int .i64 (OF.aG (u.z-v.z))] #[.int .i64 (OF.aG (u.x-v.x)),.int .i64 (OF.aG (u.y-v.y)),.int .i64 (OF.aG (u.z-v.z))] (.row [.int .i64 (OF.aG (u.x-v.x)),.int .i64 (OF.aG (u.y-v.y)),.int .i64 (OF.aG (u.z-v.z))] 3 1) rfl (bB.1 k_) (bB.1 k_) k_ k_ d_ d_ k_,.step 29 (aw f186 29) _ _ _ _ (dR (aMH _ _ _) (.w (k:=2) (cc:=0) (x:=.row [.int .i64 (OF.aG (u.x-v.x)),.int .i64 (OF.aG (u.y-v.y)),.int .i64 (OF.aG (u.z-v.z))] 3 1) k_ k_ n_ .nil) (x:=.func 213) k_ k_ k_)])
def c9(p:HS K):RP:=⟨cK p.n,de p.d⟩
def dK(p:HS K):Value:=(c9 p).v
theorem P9{q:HS K}(h:c9 p=c9 q):p=q:=HS.ext (P7 (cO RP.n h)) (Lk (cO RP.d h))
def bO(n:Nat)(p:HS K):Prop:=aI n p.n/\Sz n p.d
theorem bO.mono{n:Nat}(h:m<=n)(hp:bO m p):bO n p:=⟨hp.1.mono h,hp.2.mono h⟩
theorem bO.sm{n:Nat}(h:bO n p)(hn:n<=aD):(c9 p).Sm:=⟨h.1.sm hn,ux h.2 hn⟩
instance:DecidableEq (HS K):=λp q=>decidable_of_iff (p.n=q.n/\p.d=q.d) ⟨λh=>HS.ext h.1 h.2,λh=>by subst h;exact⟨rfl,rfl⟩⟩
theorem CF{n:Nat}(hp:bO n p)(hn:n<=aD):aF prog 145 [dK p] (.bool (decide (p.n≠0))):=by
 by_cases h:p.n=0
 ·rw[aP (λe=>e h)];have hz:=Ee hp.1 hn;rw[aH h]at hz;exact aN func145 (λ_=>[(j9 hp.1 hn).at 5,hz.at 9])
 ·rw[aH h];have hz:=Ee hp.1 hn;rw[aP h]at hz;exact aN func145 (λ_=>[(j9 hp.1 hn).at 5,hz.at 9,(kZ hp.2 hn).at 15])
theorem LX{v:V3 K}{n:Nat}(hp:bO m p)(hv:aI n v)(cN:4*(3*(m+n)+14+m)+30<=aD)(h:p.n≠0):aF prog 189 [dK p,bZ v] (.int .i64 (OF.aG (dot p.n v-p.d))):=by have h1:=CF hp o_;rw[aH h]at h1;exact aN func189 (λ_=>[h1.at 6,(j9 hv o_).at 10,(uB hp.1 hv o_).at 16,(mX (hp.1.dot hv) hp.2 o_).at 19])
theorem aMI{x y:K}{n:Nat}(h:y≠0)(hx:Sz m x)(hy:Sz n y)(cN:m+7*n+40<=aD):aF prog 236 [bI x,bI y] (bI (x*y⁻¹)):=
 aN func236 (λ_=>[(IU h hx hy cN).at 10])
theorem Sz.iZ{x:K}{n:Nat}(h:Sz n x):Sz n (iZ x):=by
 unfold _root_.Go.Proofs.YtmocejjfkdcgkaaGreatDoor.iZ;split
 ·exact h.neg
 ·exact h
theorem Qa{x:K}(h:x≠0):iZ x≠0:=by
 unfold iZ;split
 ·intro e;apply h;have:=cO (λz:K=>-z) e;rwa[CR.neg_neg,CR.neg_zero]at this
 ·exact h
def nj(x:K):K:=kI 1*(iZ x)⁻¹
def Ef(p:HS K)(x:K):HS K:=⟨smul p.n (nj x),p.d*nj x⟩
def qR(v:V3 K):K:=if v.x≠0 then v.x else if v.y≠0 then v.y else v.z
def canon(p:HS K):HS K:=Ef p (qR p.n)
theorem Qb{v:V3 K}(h:v≠0):qR v≠0:=by
 unfold qR;by_cases hx:v.x=0
 ·rw[av (λe=>e hx)];by_cases hy:v.y=0
  ·rw[av (λe=>e hy)];exact λhz=>h (V3.ext hx hy hz)
  ·rw[aB hy];exact hy
 ·rw[aB hx];exact hx
theorem Sz.nj{x:K}{n:Nat}(hx:x≠0)(h:Sz n x):Sz (7*n+29) (nj x):=(Sz.div (m:=1) (Qa hx) (qe d_ d_) h.iZ).mono o_
theorem bO.Ef{p:HS K}{n:Nat}(hp:bO n p){x:K}(hx:x≠0)(h:Sz n x):bO (8*n+33) (Ef p x):=⟨(hp.1.smul (h.nj hx)).mono o_,(hp.2.mul (h.nj hx)).mono o_⟩
theorem aMJ{v:V3 K}{n:Nat}(h:aI n v):Sz n (qR v):=by
 unfold qR;split
 ·exact h.1
 ·split
  ·exact h.2.1
  ·exact h.2.2
theorem bO.canon{p:HS K}{n:Nat}(hp:bO n p)(h:p.n≠0):bO (8*n+33) (canon p):=hp.Ef (Qb h) (aMJ hp.1)
theorem aMK{x:m_}(r:RV)(ho:dD o.op=some x):cI prog B o (.func (.func 235) #[] #[]::[r.v]) [(k,none)] (.func (.func 248) #[] #[.pointer (some ⟨k,0,some 7⟩)]) [(k,.aM r.cs 44)]:=
 aCl mixed func235 ho k_ 50 (λ_=>[]) (λ_=>k_) k_ k_
def zI:RI:=⟨false,[]⟩
def zN:RN:=⟨zI,zI,zI,zI,zI⟩
def zV:RV:=⟨zN,zN,zN⟩
def zP:RP:=⟨zV,zN⟩
def vQ(r q:RP):aL:=[(0,.aM r.cs 54),(1,.aM q.cs 54),(2,.aM [.int .i64 0] 35),(3,.aM r.n.cs 44)]
def I1:aX:=[(1,cq 0),(2,cq 1),(3,cq 2),(12,.func (.func 248) #[] #[cq 3])]
theorem aML(r:RP):ai prog B 31 (Ai f214 0) (jh 0 [r.v]) [] 0 ⟨.normal,[(1,cq 0),(2,cq 1),(3,cq 2)],[(0,.aM r.cs 54),(1,.aM zP.cs 54),(2,.aM [.int .i64 0] 35)],3⟩:=
 fD mixed 10 [] k_
def aMM:Code->Code|.seq _ y=>(match y with|.seq x _=>x|c=>c)|c=>c
def aMN(fn:Func):Code:=match fn.body with|some c=>c|none=>.skip
theorem aMO(r:RP)(hv:aF prog 145 [r.v] b_):ai prog B 31 (aMM (aMN f214)) [(1,cq 0),(2,cq 1),(3,cq 2)] [(0,.aM r.cs 54),(1,.aM zP.cs 54),(2,.aM [.int .i64 0] 35)] 3
  ⟨.normal,[(1,cq 0),(2,cq 1),(3,cq 2)],[(0,.aM r.cs 54),(1,.aM zP.cs 54),(2,.aM [.int .i64 0] 35)],3⟩:=
 fD mixed 10 [hv.at 7] k_
theorem aMP(r:RP):ai prog B 31 (Ai f214 3) [(1,cq 0),(2,cq 1),(3,cq 2)] [(0,.aM r.cs 54),(1,.aM zP.cs 54),(2,.aM [.int .i64 0] 35)] 3 ⟨.normal,I1,vQ r zP,4⟩:=
 fD mixed 10 [.step 12 (aw f214 12) _ _ _ _ (aMK (k:=3) (x:=.func 235) r.n k_)] k_
theorem VU{n:Nat}(hp:bO n p){x:K}(hx:Sz n x)(hn:16*n+80<=aD):
  Lp prog 4 31 #[13] (D7 (tz f214)) (D8 (tz f214)) I1 (vQ (c9 p) zP) [] (vQ (c9 p) (if x=0 then zP else c9 (Ef p x))) [bI x] (if x=0 then none else some .ret):=by
 have hs:=nP hx o_;by_cases h:x=0
 ·rw[aB h,aB h];have e:OF.aG x=0:=(OF.fF x).2 h;rw[e]at hs
  exact Lx (rA:=⟨.normal,(4,cq 5)::I1,(5,.aM (de x).cs 34)::vQ (c9 p) zP,6⟩) (rB:=⟨.normal,[],vQ (c9 p) zP,6⟩) k_ k_ k_ k_ k_ k_ k_ k_ rfl (λB=>fD mixed 10 [] k_) rfl k_ rfl
   (λB=>fD mixed 10 [hs.at 15,.rw 16 (.bool (!((0:Int)==0))) a_ rfl] k_) (λk x h=>h) rfl
 ·rw[av h,av h];have e:OF.aG x≠0:=λe=>h ((OF.fF x).1 e)
  exact Lx (rA:=⟨.normal,(4,cq 5)::I1,(5,.aM (de x).cs 34)::vQ (c9 p) zP,6⟩) (rB:=⟨.ret,[],vQ (c9 p) (c9 (Ef p x)),7⟩) k_ k_ k_ k_ k_ k_ k_ k_ rfl (λB=>fD mixed 10 [] k_) rfl k_ rfl
   (λB=>fD mixed 10 [hs.at 15,.rw 16 (.bool (!(OF.aG x==0))) b_ (by congr 1;simpa using e),(rO (z:=1) d_).at 17,(U2 hx o_).at 19,(aMI (Qa h) (qe (z:=1) (n:=1) d_ d_) hx.iZ o_).at 20,(wZ hp.1 (hx.nj h) o_).at 24,(nO hp.2 (hx.nj h) o_).at 28] k_) (λk x h=>h) rfl
theorem aMQ{n:Nat}(hp:bO n p)(hn:16*n+80<=aD)(aQ:p.n≠0){T:p_}{m:Map}{S:Nat->Prop}(fU:Af prog 4 31 I1 (vQ (c9 p) zP) m S T)
  {cS:FuncId} {l D:Nat} {W1 W:h_} {κ:Map} {c:g_} {eh:ak} (hm:aO (k6 W1 l S m) κ c W) (ha:cY c ((4,.fact (fG l (j4 cS T #[13] (D7 (tz f214)) (D8 (tz f214)) D)))::(vQ (c9 p) zP++[]))) (hu:eF c (4+1)) (fA:bW (aK κ) [cq 3] eh) :
  Calls prog 248 (.func (.yield l) #[] #[]::eh).toArray W λe W'=>∃ v qO c',e=.returned v/\Map.le κ qO/\aO (k6 W1 l S m) qO c' W'/\
   cY c' ((4,.fact (fG l (D4 (j4 cS T #[13] (D7 (tz f214)) (D8 (tz f214)) D) (some .ret))))::(vQ (c9 p) (c9 (canon p))++[]))/\∀ k,k<4->c k=none->c' k=none:=by
 have st:=λ(o:Oper) (ho:dD o.op=some (.tmp 3)) (x:K) (hx:Sz n x)=>Lq (W1:=W1) (l:=l) (D:=D) (cS:=cS) (x:=.tmp 3) (o:=o) (VU hp hx hn) ho fU.size fU.jh fU.low fU.set fU.born
 have st2:=λ(o:Oper) (ho:dD o.op=some (.tmp 8)) (x:K) (hx:Sz n x)=>Lq (W1:=W1) (l:=l) (D:=D) (cS:=cS) (x:=.tmp 8) (o:=o) (VU hp hx hn) ho fU.size fU.jh fU.low fU.set fU.born
 have st3:=λ(o:Oper) (ho:dD o.op=some (.tmp 14)) (x:K) (hx:Sz n x)=>Lq (W1:=W1) (l:=l) (D:=D) (cS:=cS) (x:=.tmp 14) (o:=o) (VU hp hx hn) ho fU.size fU.jh fU.low fU.set fU.born
 have s1:=st (aw f248 6) k_ p.n.x hp.1.1;have s2:=st2 (aw f248 11) k_ p.n.y hp.1.2.1;have s3:=st3 (aw f248 17) k_ p.n.z hp.1.2.2;have hc:canon p=Ef p (qR p.n):=rfl;unfold qR at hc;by_cases hx:p.n.x=0
 ·rw[av (λe=>e hx)]at hc;rw[aB hx,aB hx]at s1;by_cases hy:p.n.y=0
  ·rw[av (λe=>e hy)]at hc;rw[aB hy,aB hy]at s2;have hz:p.n.z≠0:=λhz=>aQ (V3.ext hx hy hz);rw[av hz,av hz,<-hc]at s3;exact D9 mixed func248 rfl 100 (v:=.tuple #[]) (rs:=[.step 6 _ _ _ _ _ s1,.step 11 _ _ _ _ _ s2,.step 17 _ _ _ _ _ s3]) hm ha hu fA k_
  ·rw[aB hy]at hc;rw[av hy,av hy,<-hc]at s2;exact D9 mixed func248 rfl 100 (v:=.tuple #[]) (rs:=[.step 6 _ _ _ _ _ s1,.step 11 _ _ _ _ _ s2]) hm ha hu fA k_
 ·rw[aB hx]at hc;rw[av hx,av hx,<-hc]at s1;exact D9 mixed func248 rfl 100 (v:=.tuple #[]) (rs:=[.step 6 _ _ _ _ _ s1]) hm ha hu fA k_
theorem LY{n:Nat}(hp:bO n p)(hn:16*n+80<=aD)(aQ:p.n≠0):aF prog 214 [dK p] (.tuple #[dK (canon p),.int .i64 0]):=by
 have hv:=CF hp o_;rw[aH aQ]at hv;refine aCk (N:=31) func214 rfl rfl k_ λw a hf hm=>?_;refine mR (aML (c9 p) none _ _ a w _ hf hm n_ (λ_ _=>rfl) λuj cc0 a0 w0 aCm BG kC oj zT yn _=>?_);refine mR (aMO (c9 p) hv none _ _ a0 w0 _ BG kC oj zT λbX gG a1 w1 jx iI c8 eG dT iA _=>?_);refine mR (mR (aMP (c9 p) none _ _ a1 w1 _ iI c8 eG dT λdP rF a2 w2 lk jd dH gV e6 fP _=>Kn ?_))
 refine Ve (next:=4) (Os:=vQ (c9 p) zP) (Vs:=[]) (cx:=vQ (c9 p) (c9 (canon p))) (gf:=248) (ca:=[cq 3]) (j:=some .ret) jd dH gV e6 (λk x h=>lT (p:=λp=>p.2.owns) k_ h) n_ k_ k_ k_ (Aj rfl) (λk x h=>lT (p:=λp=>p.2.owns) k_ h) (λk x h=>Ak (lT (p:=mY 4) k_ h))
  (λcS l D W1 S fU κ c W eh hm ha hu fA=>aMQ hp hn aQ fU hm ha hu fA) λD cr w' D5 hDw VV wm Cr Vb=>?_
 refine wpIn_ret (aCj (B:=aa.at w) (fr:=I1) (M:=vQ (c9 p) (c9 (canon p))++[]) (v:=.tuple #[dK (canon p),.int .i64 0]) k_ VV wm Cr rfl (λF h=>h) D5 λaz v' w' hc hG=>⟨?_,hG⟩);rw[hc.eZ rfl]
theorem VW{q:HS K}{n:Nat}(hp:bO m p)(hq:bO n q)(hm:16*m+80<=aD)(hn:16*n+80<=aD)(jO:p.n≠0)(Ay:q.n≠0):aF prog 191 [dK p,dK q] (.bool (decide (canon p=canon q))):=
 aN func191 (λ_=>[(LY hp hm jO).at 11,(LY hq hn Ay).at 16,.step 28 (aw f191 28) _ _ _ _ (UP (neg:=true) k_ (c9 (canon p)) (c9 (canon q)) ((hp.canon jO).sm o_) ((hq.canon Ay).sm o_) (b:=decide (canon p=canon q)) (by rw[aB rfl,CE];exact⟨λh=>by rw[h],λh=>P9 h⟩))])
end
def aa.LZ(w0:h_)(S:Nat->Prop):aa where
 G w:=tV w0 w/\w.tape=w0.tape/\w.output=w0.output/\w0.heap.size<=w.heap.size/\∀ k,k<w0.heap.size->¬S k->w.heap[k]?=w0.heap[k]?
 cU k:=k<w0.heap.size/\¬S k
 lt w k h hk:=cG hk.1 h.2.2.2.1
 dep w w' h h1 h2 h3 h4 h5:=⟨h1.trans h.1,h2.trans h.2.1,h3.trans h.2.2.1,dq h.2.2.2.1 h4,λk hk hS=>(h5 k ⟨hk,hS⟩).trans (h.2.2.2.2 k hk hS)⟩
section
variable{P:j_}{B:aa}{w w4:h_}{K:Nat}{S:Nat->Prop}{ι:Map}{c:g_}
theorem aMR(h:aO B ι c w)(hO:cY c Os)(dX:∀ k x,ag Os k=some x->x.owns=true)(tu:∀ k x,ag cx k=some x->x.owns=true)
  (ko:∀ k,ag cx k=none↔ag Os k=none) (hS:∀ b,S b->∃ k x o cap,ag Os k=some x/\ι k=some (.at b o cap)) (jU:∀ k x,ag cx k=some x->fV K x)
  {az:Map} {c':g_} (hm:aO (aa.LZ w S) az c' w4) (tx:cY c' cx) (dJ:∀ k,k<K->∀ lc,az k=some lc->ι k=some lc)
  (oU:∀ k x,ag cx k=some x->k<K):aO B ι (l9 c cx) w4:=by
 have bH:w.heap.size<=w4.heap.size:=hm.base.2.2.2.1;have aM:∀ b,b<w.heap.size->¬S b->w4.heap[b]?=w.heap[b]?:=hm.base.2.2.2.2;have L0:∀ b,S b->¬B.cU b:=λb hb=>by obtain⟨k,x,o,cap,e1,e2⟩:=hS b hb;exact(h.own k x b o cap (hO k x e1) (dX k x e1) e2).2
 have kinds:∀ k x,l9 c cx k=some x->(ag cx k=some x/\c' k=some x/\x.owns=true)\/(ag Os k=none/\c k=some x):=λk x e=>by
  rw[wB]at e;cases ho:ag cx k with
  |some y=>rw[ho]at e;injection e with e;subst e;exact .inl ⟨rfl,tx k y ho,tu k y ho⟩
  |none=>rw[ho]at e;exact .inr ⟨(ko k).1 ho,e⟩
 have same:∀ k x,ag cx k=some x->az k=ι k:=λk x e=>by obtain⟨lc,q,_⟩:=hm.born k x (tx k x e);rw[q,dJ k (oU k x e) lc q]
 have D2:∀ k x b o cap,ag Os k=none->c k=some x->x.owns=true->ι k=some (.at b o cap)->¬S b:=λk x b o cap hn hc hx hl hs=>by obtain⟨k',x',o',aU,e1,e2⟩:=hS b hs;have:=h.inj k k' x x' b o cap o' aU hc hx (hO k' x' e1) (dX k' x' e1) hl e2;subst this;rw[hn]at e1;cases e1
 have D3:∀ k x b o cap,c k=some x->x.kh=true->ι k=some (.at b o cap)->¬S b:=λk x b o cap hc hx hl hs=>by obtain⟨k',x',o',aU,e1,e2⟩:=hS b hs;exact(h.seen k x b o cap hc hx hl).2 k' x' o' aU (hO k' x' e1) (dX k' x' e1) e2
 have yk:∀ k F v b,c k=some (.fact F)->ι k=some (.val v)->F.cU v w b->¬S b:=λk F v b hc hl hF hs=>by obtain⟨k',x',o',aU,e1,e2⟩:=hS b hs;exact h.apart k' k x' F b o' aU v (hO k' x' e1) (dX k' x' e1) e2 hc hl hF
 have part:∀ k x b o cap j y o' aU,ag cx k=some x->ι k=some (.at b o cap)->ag Os j=none->c j=some y->y.owns=true->ι j=some (.at b o' aU)->False:=λk x b o cap j y o' aU hk hl hj hc hy cB=>by
  rcases e7 b w.heap.size with al|ep
  ·have q:=(hm.own k x b o cap (tx k x hk) (tu k x hk) (by rw[same k x hk];exact hl)).2;exact q ⟨al,D2 j y b o' aU hj hc hy cB⟩
  ·have:=(h.own j y b o' aU hc hy cB).1;omega
 refine⟨B.dep w w4 h.base hm.base.1 hm.base.2.1 hm.base.2.2.1 bH λk hk=>aM k (B.lt w k h.base hk) λhs=>L0 k hs hk,?_,?_,?_,?_,?_,?_,?_,?_,h.pg⟩
 ·intro k hk;rw[wB]at hk;cases ho:ag cx k with
  |some y=>rw[ho]at hk;cases hk
  |none=>rw[ho]at hk;exact h.dF k hk
 ·intro k x hk;rcases kinds k x hk with ⟨h1,h2,h3⟩|⟨h1,h2⟩
  ·obtain⟨lc,q1,q2⟩:=hm.born k x h2;exact⟨lc,by rw[<-same k x h1];exact q1,q2.below dJ (jU k x h1)⟩
  ·obtain⟨lc,q1,q2⟩:=h.born k x h2;refine⟨lc,q1,q2.iu bH (λb o cap hx e=>?_) λF v b e1 e2 hF=>?_⟩
   ·subst e;rcases hx with hx|hx
    ·exact aM b (h.own k x b o cap h2 hx q1).1 (D2 k x b o cap h1 h2 hx q1)
    ·exact aM b (h.seen k x b o cap h2 hx q1).1 (D3 k x b o cap h2 hx q1)
   ·subst e1;subst e2;exact aM b (q2.xu rfl hF) (yk k F v b h2 q1 hF)
 ·intro k x b o cap hk hx hl;rcases kinds k x hk with ⟨h1,h2,h3⟩|⟨h1,h2⟩
  ·have cB:az k=some (.at b o cap):=by rw[same k x h1];exact hl
   obtain⟨q1,q2⟩:=hm.own k x b o cap h2 hx cB;refine⟨q1,λhF=>?_⟩;have gm:=B.lt w b h.base hF;exact q2 ⟨gm,λhs=>L0 b hs hF⟩
  ·obtain⟨q1,q2⟩:=h.own k x b o cap h2 hx hl;exact⟨cG q1 bH,q2⟩
 ·intro k j x y b o cap o' aU hk hx hj hy hl cB;rcases kinds k x hk with ⟨h1,h2,h3⟩|⟨h1,h2⟩
  ·rcases kinds j y hj with ⟨p1,p2,p3⟩|⟨p1,p2⟩
   ·exact hm.inj k j x y b o cap o' aU h2 hx p2 hy (by rw[same k x h1];exact hl) (by rw[same j y p1];exact cB)
   ·exact(part k x b o cap j y o' aU h1 hl p1 p2 hy cB).elim
  ·rcases kinds j y hj with ⟨p1,p2,p3⟩|⟨p1,p2⟩
   ·exact(part j y b o' aU k x o cap p1 cB h1 h2 hx hl).elim
   ·exact h.inj k j x y b o cap o' aU h2 hx p2 hy hl cB
 ·intro k j x F b o cap v hk hx hl hj hv hF;rcases kinds j _ hj with ⟨_,_,p3⟩|⟨p1,p2⟩
  ·cases p3
  have hF:=h.C6 p2 hv bH (λk2 fP jd=>aM k2 fP (yk j F v k2 p2 hv jd)) hF;rcases kinds k x hk with ⟨h1,h2,h3⟩|⟨h1,h2⟩
  ·have cB:az k=some (.at b o cap):=by rw[same k x h1];exact hl
   have hb:b<w.heap.size:=by obtain⟨lc,q1,q2⟩:=h.born j _ p2;rw[hv]at q1;injection q1 with q1;subst q1;exact q2.xu rfl hF
   exact(hm.own k x b o cap h2 hx cB).2 ⟨hb,yk j F v b p2 hv hF⟩
  ·exact h.apart k j x F b o cap v h2 hx hl p2 hv hF
 ·intro k x b o cap hk hx hl;rcases kinds k x hk with ⟨h1,h2,h3⟩|⟨h1,h2⟩
  ·cases x<;>simp[Obj.owns,Obj.kh]at h3 hx
  ·obtain⟨q1,q2⟩:=h.seen k x b o cap h2 hx hl;refine⟨cG q1 bH,λj y o' aU hj hy cB=>?_⟩;rcases kinds j y hj with ⟨p1,p2,p3⟩|⟨p1,p2⟩
   ·have ju:az j=some (.at b o' aU):=by rw[same j y p1];exact cB
    exact(hm.own j y b o' aU p2 hy ju).2 ⟨q1,D3 k x b o cap h2 hx hl⟩
   ·exact q2 j y o' aU p2 hy cB
 ·intro j F hj;rcases kinds j _ hj with ⟨_,_,h3⟩|⟨h1,h2⟩
  ·cases h3
  ·exact h.fa j F h2
 ·intro j k F F' hj hk;rcases kinds j _ hj with ⟨_,_,h3⟩|⟨_,h2⟩
  ·cases h3
  rcases kinds k _ hk with ⟨_,_,h3⟩|⟨_,wM⟩
  ·cases h3
  exact h.one j k F F' h2 wM
def yx(P:j_)(f:FuncId)(K:Nat)(args:ak)(Os Vs:aL)(val:i_)(cx:aL):Prop:=
 ∀ B:aa,B.ds=[]->∀(ι:Map) (c:g_) (w:h_) (args':ak),aO B ι c w->cY c (Os++Vs)->eF c K->bW (aK ι) args args'->
  Calls P f args'.toArray w λe w'=>∃ v' az c',e=.returned v'/\Map.le ι az/\aK az val v'/\aO B az c' w'/\cY c' cx/\∀ k,k<K->ag (Os++Vs) k=none->c' k=c k
theorem o6{val:i_}(gW:P.follows .mixedOrders=true)(hf:P.funcs[f]?=some fn)(n:Nat)(hN:N=args.length+(fn.ntmps-args.length))(rs:∀ B,bM P B N)
  (h:∀ B,oq (gv (P:=P) fn n args (Os++Vs) K (rs B)) cx=ou (gv fn n args (Os++Vs) K (rs B)) val cx):yx P f K args Os Vs val cx:=by
 intro B nD ι c w args' hm ha hu du;exact Ta gW hf hN n (h B) du hm ha hu (λaz cr v' w' hle hc bE dQ hk=>⟨v',az,cr,rfl,hle,hc,bE,λk x e=>dQ (k,x) (kD e),hk⟩) nD
theorem aC2(hm:aO B ι c w)(hL:cY c (Os++Vs))(dJ:∀ k x,ag (Os++Vs) k=some x->k<K/\fV K x)(dX:∀ k x,ag Os k=some x->x.owns=true)(qw:∀ k x,ag Vs k=some x->x.soft=true):
  ∃ S:Nat->Prop,(∀ b,S b->∃ k x o cap,ag Os k=some x/\ι k=some (.at b o cap))/\aO (aa.LZ w S) (wQ ι K) (pI c K (Os++Vs)) w/\cY (pI c K (Os++Vs)) (Os++Vs)/\eF (pI c K (Os++Vs)) K:=by
 refine⟨λb=>∃ k x o cap,ag Os k=some x/\ι k=some (.at b o cap),λb h=>h,?_,λk x e=>?_,λk hk=>by unfold pI;rw[av o_]⟩
 ·refine PA (L:=Os++Vs) hm hL (λk x e=>yj (dJ k x e).1) (λk x lc e _ ho=>ho.below (λk hk l e=>by rw[yj hk];exact e) (dJ k x e).2) ⟨.refl _,rfl,rfl,bC _,λ_ _ _=>rfl⟩ (λk x b o cap e hx hl hF=>?_) (bC _) (λk e=>?_) (λk x e=>?_) (λk F e=>?_) (λ_ _ _ _ _ _ h=>h) n_
  ·refine hF.2 ⟨k,x,o,cap,?_,hl⟩;rw[iH]at e;cases e1:ag Os k with
   |some y=>rw[e1]at e;exact e
   |none=>
    rw[e1]at e;exact(Pw (qw k x e) hx).elim
  ·unfold pI at e;unfold wQ;split at e
   ·rename_i hk;rw[aB hk];split at e
    ·cases e
    ·cases hc:c k with
     |none=>exact hm.dF k hc
     |some x=>rw[hc]at e;cases e
   ·rename_i hk;rw[av hk]
  ·unfold pI at e;split at e
   ·rename_i hk;split at e
    ·rename_i y hy;injection e with e;subst e;exact .inl hy
    ·cases hc:c k with
     |none=>rw[hc]at e;cases e
     |some y=>
      rw[hc]at e;injection e with e;obtain⟨lc,q,_⟩:=hm.born k y hc;exact .inr ⟨e.symm,lc,by rw[yj hk];exact q⟩
   ·cases e
  ·rw[iH]at e;cases e1:ag Os k with
   |some y=>rw[e1]at e;injection e with e;subst e;have:=dX k _ e1;cases this
   |none=>rw[e1]at e;exact λhr=>by rw[Px (qw k _ e)]at hr;cases hr
 ·unfold pI;rw[aB (dJ k x e).1,e]
theorem aC3(hm:aO B ι c w){L:aL}(hL:cY c L){B':aa}{c':g_}(bE:aO B' az c' w4)(hle:Map.le (wQ ι K) az)(gN:∀ k,k<K->ag L k=none->c' k=pI c K L k):
  ∀ k,k<K->∀ lc,az k=some lc->ι k=some lc:=λk hk lc e=>by
 cases rl:ι k with
 |some Ae=>
  have:=hle k Ae (by rw[yj hk];exact rl);rw[e]at this;exact this.symm
 |none=>
  exfalso;have hc:c k=none:=by
   cases hc:c k with
   |none=>rfl
   |some y=>obtain⟨Ae,q,_⟩:=hm.born k y hc;rw[rl]at q;cases q
  have wF:ag L k=none:=by
   cases e1:ag L k with
   |none=>rfl
   |some y=>rw[hL k y e1]at hc;cases hc
  have q1:c' k=none:=by rw[gN k hk wF];unfold pI;rw[aB hk,wF,hc];rfl
  rw[bE.dF k q1]at e;cases e
theorem L3{x:m_}{val:i_}(h:yx P f K (args++ca) Os Vs val cx)(ho:dD o.op=some x)(e8:gO P f=true)(kV:om K val=true)
  (du:(args++ca).all (om K)=true) (dJ:((Os++Vs).all λp=>Nat.blt p.1 K&&mY K p)=true) (Ly:(cx.all (mY K))=true) (dX:(Os.all λp=>p.2.owns)=true) (tu:(cx.all λp=>p.2.owns)=true) (qw:(Vs.all λp=>p.2.soft)=true) (ko:cx.map (·.1)=Os.map (·.1)) :
  cI P B o (.func (.func f) #[] ca.toArray::args) ((Os++Vs).map λp=>(p.1,some p.2)) val cx:=by
 have:=jV (P:=P) (B:=B) (o:=o) (x:=x) (f:=f) (fi:=[]) (args:=args) (ca:=ca) (need:=(Os++Vs).map λp=>(p.1,some p.2)) (val:=val) (cZ:=cx) ho e8 ?_
 ·simpa using this
 ·intro ι c w hm hn args' ha;rw[jg]at ha;have hL:cY c (Os++Vs):=PD hn;have L4:∀ k x,ag (Os++Vs) k=some x->k<K/\fV K x:=λk x e=>by have:=lT dJ e;simp only[dr,BB]at this;exact⟨this.1,Ak this.2⟩
  obtain⟨S,hS,Lr,Lt,vH⟩:=aC2 hm hL L4 (λk x e=>lT dX e) (λk x e=>lT qw e);have ch:bW (aK (wQ ι K)) (args++ca) args':=by
   have key:∀{l l':ak},bW (aK ι) l l'->(∀ v∈l,om K v=true)->bW (aK (wQ ι K)) l l':=by
    intro l l' h hl;induction h with
    |nil=>exact .nil
    |cons h t ih=>exact .cons (h.low (λk hk l e=>by rw[yj hk];exact e) (hl _ (aT ..))) (ih λc hc=>hl c (bF _ hc))
   exact key ha (bB.1 du)
  refine(h (aa.LZ w S) rfl _ _ w args' Lr Lt vH ch).mono ?_
  rintro e w' ⟨v',az,c',rfl,hle,hc,bE,tx,gN⟩
  have Gg:=aC3 hm hL bE hle gN;refine⟨ι,v',rfl,Map.le.refl _,?_,aMR hm (λk x e=>hL k x (by rw[iH,e])) (λk x e=>lT dX e) (λk x e=>lT tu e) (Aj ko) hS (λk x e=>Ak (lT Ly e)) bE tx Gg λk x e=>?_⟩
  ·exact hc.low Gg kV
  ·cases e1:ag Os k with
   |none=>rw[(Aj ko k).2 e1]at e;cases e
   |some y=>exact(L4 k y (by rw[iH,e1])).1
theorem aMS{x:m_}{val:i_}(h:yx P f K (args++ca) Os Vs val Os)(ho:dD o.op=some x)(e8:gO P f=true)(kV:om K val=true)
  (du:(args++ca).all (om K)=true) (dJ:((Os++Vs).all λp=>Nat.blt p.1 K&&mY K p)=true) (Ly:(Os.all (mY K))=true) (dX:(Os.all λp=>p.2.owns)=true) (qw:(Vs.all λp=>p.2.soft)=true) :
  cI P B o (.func (.func f) #[] ca.toArray::args) ((Os++Vs).map λp=>(p.1,some p.2)) val []:=by
 intro R ι c a w hv hm hn Kt Q hK;refine L3 h ho e8 kV du dJ Ly dX dX qw rfl R ι c a w hv hm hn Kt Q λaz v' w' h1 h2 h3=>hK az v' w' h1 h2 ?_;have hL:cY c (Os++Vs):=PD hn;refine h3.ext λk=>?_;show c k=l9 c Os k;rw[wB];cases e:ag Os k with
 |none=>rfl
 |some y=>exact hL k y (by rw[iH,e])
end
section
variable{α:Type}(enc:α->ak)
def dy(l:List α):ak:=l.flatMap enc
structure rT(s:Nat):Prop where
 len:∀ x,(enc x).length=s
 flat:∀ x,∀ v∈enc x,flat v=true
 one:∀ x,∀ v∈enc x,v.oneCell'=true
variable{enc}{s:Nat}
theorem Eg(x:α)(l:List α):dy enc (x::l)=enc x++dy enc l:=rfl
theorem L5(l m:List α):dy enc (l++m)=dy enc l++dy enc m:=by unfold dy;rw[VX]
theorem uC(h:rT enc s):∀ l:List α,(dy enc l).length=l.length*s
 |[]=>by simp[dy]
 |x::l=>by rw[Eg,lh,h.len,uC h l,pS,sS,nG]
theorem L6(h:rT enc s)(l:List α):∀ v∈dy enc l,Go.Proofs.YtmocejjfkdcgkaaGreatDoor.flat v=true:=λv hv=>by unfold dy at hv;rw[w6]at hv;obtain⟨x,_,hx⟩:=hv;exact h.flat x v hx
theorem iT(h:rT enc s)(l:List α):(dy enc l).all Go.Proofs.YtmocejjfkdcgkaaGreatDoor.flat=true:=bB.2 (L6 h l)
theorem VY(h:rT enc s):∀(l:List α) (m:Nat),(dy enc l).drop (m*s)=dy enc (l.drop m)
 |l,0=>by simp
 |[],m+1=>by simp[dy]
 |x::l,m+1=>by rw[Eg,sS,nG,<-Ou,Sv (h.len x),VY h l m,List.drop_succ_cons]
theorem VZ(h:rT enc s):∀(l:List α) (m:Nat),(dy enc l).take (m*s)=dy enc (l.take m)
 |l,0=>by simp[dy]
 |[],m+1=>by simp[dy]
 |x::l,m+1=>by rw[Eg,sS,nG,List.take_succ_cons,Eg,aC4,h.len,FJ,VZ h l m,kT (by rw[h.len];omega)]
theorem Qc(h:rT enc s){l:List α}{i:Nat}{x:α}(hx:l[i]?=some x):((dy enc l).drop (i*s)).take s=enc x:=by
 rw[VY h];have al:=(eA.1 hx).1;have e:l.drop i=x::l.drop (i+1):=by
  rw[Qd al]
  congr 1
  exact(eA.1 hx).2
 rw[e,Eg,Su (h.len x)]
theorem Qe:∀(vs a b:ak) (o:Nat),je (a++b) (a.length+o) vs=a++je b o vs
 |[],a,b,o=>rfl
 |v::vs,a,b,o=>by unfold je;rw[V0 _ _ o_,FJ,u9,Qe vs]
theorem V1:∀(vs a b:ak),a.length=vs.length->je (a++b) 0 vs=vs++b
 |[],a,b,h=>by rw[mf h];rfl
 |v::vs,[],b,h=>by cases h
 |v::vs,u::a,b,h=>by unfold je;rw[BX,List.set_cons_zero];have:=Qe vs [v] (a++b) 0;rw[Qf]at this;rw[kA];have e:je (v::(a++b)) 1 vs=v::je (a++b) 0 vs:=this;rw[e,V1 vs a b (by simpa using h)];rfl
theorem aC5(h:rT enc s):∀{l:List α} {i:Nat} {y:α},i<l.length->je (dy enc l) (i*s) (enc y)=dy enc (l.set i y)
 |x::l,0,y,_=>by rw[lP,Eg,V1 _ _ _ (by rw[h.len,h.len])];rfl
 |x::l,i+1,y,hi=>by rw[sS,nG,Eg];have:=Qe (enc y) (enc x) (dy enc l) (i*s);rw[h.len]at this;rw[this,aC5 h (by simpa using hi),List.set_cons_succ,Eg]
variable{P:j_}
def I2(P:j_)(t:TypeId):Option Nat:=match P.underlying t,P.info? t with
 |some d,some i=>if d.isRow then some i.size else none
 |_,_=>none
theorem aC6(h:rT enc s){t:TypeId}(ht:I2 P t=some s){l:List α}{i:Nat}{x:α}(hx:l[i]?=some x):dI P t (dy enc l) (i*s)=some (.agg (enc x).toArray):=by
 unfold I2 at ht;split at ht
 ·rename_i d inf h1 h2;split at ht
  ·rename_i hr;injection ht with ht;unfold dI;rw[h1,h2];dsimp only;have al:=(eA.1 hx).1;have:(i+1)*s<=l.length*s:=eV s al;rw[sS]at this;rw[aB hr,ht,aB (by rw[Nat.ble_eq,uC h];exact this),Qc h hx]
  ·cases ht
 ·cases ht
theorem aMT(h:rT enc s){t:TypeId}(ht:I2 P t=some s){l:List α}{i:Nat}{y:α}(hi:i<l.length):fo P t (dy enc l) (i*s) (.agg (enc y).toArray)=some (dy enc (l.set i y)):=by
 unfold I2 at ht;split at ht
 ·rename_i d inf h1 h2;split at ht
  ·rename_i hr;injection ht with ht;unfold fo;rw[h2];dsimp only;have hc:(Value.agg (enc y).toArray).cells.toList=enc y:=rfl;have hs:(Value.agg (enc y).toArray).cells.size=s:=by show(enc y).toArray.size=s;rw[NF,h.len]
   have:(i+1)*s<=l.length*s:=eV s hi;rw[sS]at this;rw[aB (by simp only[dr,Nat.ble_eq];refine⟨⟨by rw[hs,ht];simp,by rw[hs,uC h];exact this⟩,bB.2 λv hv=>h.one y v (by rwa[hc]at hv)⟩),hc,aC5 h hi]
  ·cases ht
 ·cases ht
end
variable{len:Nat}
section
open V3 (dot af aW smul)
theorem gL:rT RV.cs 30 where
 len r:=rfl
 flat r:=RV.oB r
 one r v hv:=by simp only[RV.cs,RN.cs,eW,cC,j6,j7]at hv;rcases hv with (h|h|h|h|h|h|h|h|h|h)|(h|h|h|h|h|h|h|h|h|h)|(h|h|h|h|h|h|h|h|h|h)<;>subst h<;>rfl
theorem jP:rT RP.cs 40 where
 len r:=rfl
 flat r v hv:=by
  simp only[RP.cs,eW]at hv;rcases hv with h|h
  ·exact RV.oB _ v h
  ·exact RN.oB _ v h
 one r v hv:=by
  simp only[RP.cs,eW]at hv;rcases hv with h|h
  ·exact gL.one _ v h
  ·simp only[RN.cs,cC,j6,j7]at h;rcases h with (h|h|h|h|h|h|h|h|h|h)<;>subst h<;>rfl
abbrev dx(l:List RP):ak:=dy RP.cs l
abbrev cV(l:List RV):ak:=dy RV.cs l
theorem w7{l:List RP}{i:Nat}{p:RP}(h:l[i]?=some p):dI prog 54 (dx l) (i*40)=some p.v:=aC6 jP k_ h
theorem tB{l:List RV}{i:Nat}{p:RV}(h:l[i]?=some p):dI prog 44 (cV l) (i*30)=some p.v:=aC6 gL k_ h
def yy{α:Type}(b:α->Bool):List α->Nat->Int
 |[],_=>-1
 |x::l,i=>if b x then(i:Int)else yy b l (i+1)
theorem Qg{α:Type}{b:α->Bool}:∀{l:List α} (i:Nat),(∀ x∈l,b x=false)->yy b l i=-1
 |[],_,_=>rfl
 |x::l,i,h=>by unfold yy;rw[h x (aT ..),Qg (i+1) λy hy=>h y (bF _ hy)];rfl
theorem Qh{α:Type}{b:α->Bool}:∀{l:List α} {e:Nat} {x:α} (i:Nat),l[e]?=some x->b x=true->(∀(j:Nat) (y:α),j<e->l[j]?=some y->b y=false)->yy b l i=((i+e:Nat):Int)
 |[],e,x,i,h,_,_=>by simp at h
 |y::l,0,x,i,h,hx,_=>by simp at h;subst h;unfold yy;rw[hx];rfl
 |y::l,e+1,x,i,h,hx,hb=>by unfold yy;rw[hb 0 y o_ rfl,Qh (i+1) (by simpa using h) hx λj z hj hz=>hb (j+1) z o_ (by simpa using hz)];simp;omega
theorem Gz{α:Type}(b:α->Bool):∀(l:List α),(∀ x∈l,b x=false)\/∃(e:Nat) (x:α),l[e]?=some x/\b x=true/\∀(j:Nat) (y:α),j<e->l[j]?=some y->b y=false
 |[]=>.inl n_
 |x::l=>by
  cases hx:b x with
  |true=>exact .inr ⟨0,x,rfl,hx,λj y hj=>by omega⟩
  |false=>
   rcases Gz b l with h|⟨e,y,h1,h2,h3⟩
   ·refine .inl λy hy=>?_;rcases cC.1 hy with rfl|hy
    ·exact hx
    ·exact h y hy
   ·refine .inr ⟨e+1,y,by simpa using h1,h2,λj z hj hz=>?_⟩;cases j with
    |zero=>simp at hz;subst hz;exact hx
    |succ j=>exact h3 j z o_ (by simpa using hz)
theorem aC7{b:α->Bool}{l:List α}:decide (yy b l 0>=0)=l.any b:=by
 rcases Gz b l with h|⟨e,x,h1,h2,h3⟩
 ·rw[Qg 0 h];have:l.any b=false:=by rw[Kk];intro x hx;rw[h x hx];simp
  rw[this];rfl
 ·rw[Qh 0 h1 h2 h3];have:l.any b=true:=rD.2 ⟨x,cL h1,h2⟩;rw[this,CE];omega
section
variable{Bs:aa}{g:FuncId}{ps:List RP}{caps:ak}{b:RP->Bool}
def V2(g:FuncId):Value:=.func (.func g) #[] #[cq 1]
def Az(g:FuncId)(n i:Nat):aX:=[(8,vI i),(6,sl 0 n),(7,vI n),(0,sl 0 n),(1,V2 g)]
def uD(ps:List RP)(caps:ak):aL:=[(0,.view (dx ps)),(1,.view caps)]
noncomputable def ifS{i:Nat}{p:RP}{b:Bool}(hc:gO prog g=true)(jS:caps.all flat=true)(hi:i<ps.length)(hp:ps[i]?=some p)(h:cE prog g [.p p.v,.q caps] (.bool b))(more:bM prog Bs 19):bM prog Bs 19:=
 .lt 9 i ps.length true (aH hi)::.dj f181 14 0 ps.length i 40 hi k_::.ld f181 15 54 0 (i*40) (.view (dx ps)) p.v rfl (w7 hp) k_::
  .step 16 (aw f181 16) [V2 g,p.v] [(1,some (.view caps))] (.bool b) [] (aLO (vs:=[p.v]) (ca:=[cq 1]) (x:=.tmp 11) h (.p rfl (.q (x:=.view caps) rfl jS .nil)) k_ hc rfl)::more
theorem aMU{i:Nat}{p:RP}(hc:gO prog g=true)(jS:caps.all flat=true)(hi:i<ps.length)(hp:ps[i]?=some p)(h:cE prog g [.p p.v,.q caps] a_)(h63:ps.length<9223372036854775807):
  ai prog Bs 19 (aJ (ah f181 0)) (Az g ps.length i) (uD ps caps) 2 ⟨.normal,Az g ps.length (i+1),uD ps caps,2⟩:=
 aE (ifS hc jS hi hp h [.sum 18 i 1 (i+1) rfl o_])
theorem aMV{i:Nat}{p:RP}(hc:gO prog g=true)(jS:caps.all flat=true)(hi:i<ps.length)(hp:ps[i]?=some p)(h:cE prog g [.p p.v,.q caps] b_):
  ai prog Bs 19 (aJ (ah f181 0)) (Az g ps.length i) (uD ps caps) 2 ⟨.ret,[(4,vI i)],uD ps caps,2⟩:=
 aE (ifS hc jS hi hp h [])
theorem aMW:ai prog Bs 19 (aJ (ah f181 0)) (Az g ps.length ps.length) (uD ps caps) 2 ⟨.exit 0,[],uD ps caps,2⟩:=
 aE [.lt 9 ps.length ps.length false s_]
theorem dV{l:List aR}{v:i_}(hf:prog.funcs[f]?=some fn)(hl:(l.all aR.ok)=true)(N:Nat)(rs:∀ w,bM prog (aa.at w) N)(hN:N=(eC 0 l).length+(fn.ntmps-(eC 0 l).length):=by kernel_rfl)(h:∀ w,oq (gv (P:=prog) fn 100 (eC 0 l) (ja 0 l) (jo 0 l) (rs w)) []=ou (gv fn 100 (eC 0 l) (ja 0 l) (jo 0 l) (rs w)) v []:=by intro _;kernel_rfl)(hv:flat v=true:=by kernel_rfl):cE prog f l v:=jC mixed hf hl 100 hN rs h hv
theorem aMX(hc:gO prog g=true)(jS:caps.all flat=true)(h63:ps.length<9223372036854775807)(h:∀ p∈ps,cE prog g [.p p.v,.q caps] (.bool (b p))):cE prog 181 [.r ps.length (dx ps),.f g caps] (.int .i64 (yy b ps 0)):=by
 have aC:([aR.r ps.length (dx ps),.f g caps].all aR.ok)=true:=by simp only[dL,eX,aR.ok,iT jP,jS,AA]
 have uE:∀(B:aa) e,e<=ps.length->(∀ j y,j<e->ps[j]?=some y->b y=false)->∀ i,i<e->ai prog B 19 (aJ (ah f181 0)) (Az g ps.length i) (uD ps caps) 2 ⟨.normal,Az g ps.length (i+1),uD ps caps,2⟩:=λB e he hb i hi=>by
  have al:i<ps.length:=by omega
  have hp:ps[i]?=some ps[i]:=bo al;have hh:=h ps[i] (dB al);rw[hb i ps[i] hi hp]at hh;exact aMU hc jS al hp hh h63
 rcases Gz b ps with hn|⟨e,x,h1,h2,h3⟩
 ·rw[Qg 0 hn];have lo:∀ B:aa,ai prog B 19 (.block 0 (ah f181 0)) (Az g ps.length 0) (uD ps caps) 2 ⟨.normal,[],uD ps caps,2⟩:=λB=>
   cd (id:=0) (cA ps.length (λi=>Az g ps.length i) (λ_=>uD ps caps) (λi k _=>Iff.rfl) (uE B ps.length (bC _) λj y _ hy=>hn y (cL hy)) aMW n_)
  exact dV func181 aC 19 (λw=>[.code 0 _ _ _ _ _ (lo _)])
 ·have al:=(eA.1 h1).1;have hh:=h x (cL h1);rw[h2]at hh;rw[Qh 0 h1 h2 h3,kA];have lo:∀ B:aa,ai prog B 19 (.block 0 (ah f181 0)) (Az g ps.length 0) (uD ps caps) 2 ⟨.ret,[(4,vI e)],uD ps caps,2⟩:=λB=>
   cd (id:=0) (cA e (λi=>Az g ps.length i) (λ_=>uD ps caps) (λi k _=>Iff.rfl) (uE B e o_ h3) (aMV hc jS al h1 hh) n_)
  exact dV func181 aC 19 (λw=>[.code 0 _ _ _ _ _ (lo _)])
theorem aMY(hc:gO prog g=true)(jS:caps.all flat=true)(h63:ps.length<9223372036854775807)(h:∀ p∈ps,cE prog g [.p p.v,.q caps] (.bool (b p))):cE prog 143 [.r ps.length (dx ps),.f g caps] (.bool (ps.any b)):=by
 have aC:([aR.r ps.length (dx ps),.f g caps].all aR.ok)=true:=by simp only[dL,eX,aR.ok,iT jP,jS,AA]
 rw[<-aC7];exact dV func143 aC 9 (λw=>[.step 7 (aw f143 7) [.func (.func 181) #[] #[],sl 0 ps.length,V2 g] [(0,some (.view (dx ps))),(1,some (.view caps))] (.int .i64 (yy b ps 0)) []
  (dR (aMX hc jS h63 h) (.w (x:=.view (dx ps)) rfl (iT jP ps) (λh=>by rw[mf h];rfl) (.f (x:=.view caps) rfl jS .nil)) (x:=.func 181) k_ k_ rfl)])
end
def bt(ps:List (HS K)):ak:=dx (ps.map c9)
def fZ(ps:List (HS K)):aR:=.r ps.length (bt ps)
theorem dC(ps:List (HS K)):(bt ps).all flat=true:=iT jP _
theorem AB{i:Nat}(h:ps[i]?=some p):dI prog 54 (bt ps) (i*40)=some (dK p):=w7 (by rw[vi,h];rfl)
theorem jD(h:ps.length=0):bt ps=[]:=by rw[mf h];rfl
def aV(vs:List (V3 K)):ak:=cV (vs.map cK)
def vR(vs:List (V3 K)):aR:=.r vs.length (aV vs)
theorem ee(vs:List (V3 K)):(aV vs).all flat=true:=iT gL _
theorem mE{vs:List (V3 K)}{i:Nat}{v:V3 K}(h:vs[i]?=some v):dI prog 44 (aV vs) (i*30)=some (bZ v):=tB (by rw[vi,h];rfl)
theorem w9{vs:List (V3 K)}(h:vs.length=0):aV vs=[]:=by rw[mf h];rfl
open Classical in
theorem V4{g:FuncId}{caps:ak}{b:HS K->Bool}(hc:gO prog g=true)(jS:caps.all flat=true)(h63:ps.length<9223372036854775807)(h:∀ p∈ps,cE prog g [.p (dK p),.q caps] (.bool (b p))):
  cE prog 143 [fZ ps,.f g caps] (.bool (ps.any b)):=by
 have:=aMY (g:=g) (caps:=caps) (ps:=ps.map c9) (b:=λr=>if hr:∃ p∈ps,c9 p=r then b hr.choose else false) hc jS (by rw[eH];exact h63) (λr hr=>by obtain⟨p,hp,rfl⟩:=db.1 hr;have hex:∃ q∈ps,c9 q=c9 p:=⟨p,hp,rfl⟩;rw[dif_pos hex];have e:hex.choose=p:=P9 hex.choose_spec.2;rw[e];exact h p hp)
 rw[eH]at this;have e:(ps.map c9).any (λr=>if hr:∃ p∈ps,c9 p=r then b hr.choose else false)=ps.any b:=by
  rw[List.any_map];have:∀ l:List (HS K),(∀ p∈l,p∈ps)->l.any ((λr=>if hr:∃ p∈ps,c9 p=r then b hr.choose else false)∘c9)=l.any b:=by
   intro l;induction l with
   |nil=>intro _;rfl
   |cons p l ih=>
    intro hl;rw[List.any_cons,List.any_cons,ih λq hq=>hl q (bF _ hq)];refine cO (·||l.any b) ?_;have hex:∃ q∈ps,c9 q=c9 p:=⟨p,hl p (aT ..),rfl⟩;show(if hr:∃ q∈ps,c9 q=c9 p then b hr.choose else false)=b p;rw[dif_pos hex,P9 hex.choose_spec.2]
  exact this ps λp hp=>hp
 rw[e]at this;exact this
theorem aMZ{v:V3 K}{n:Nat}(hp:bO m p)(hv:aI n v)(cN:4*(3*(m+n)+14)+20<=aD):cE prog 208 [.p (dK p),.q (cK v).cs] (.bool (decide (OF.aG (dot p.n v)>0))):=by have h1:=uB hp.1 hv (show 3*(m+n)+16<aD by omega);have h2:=nP (hp.1.dot hv) cN;generalize OF.aG (dot p.n v)=z at *;exact Gy func208 10 (λ_=>[h1.at 7,h2.at 8])
theorem aM0{v:V3 K}{n:Nat}(hp:bO m p)(hv:aI n v)(cN:4*(3*(m+n)+14+m)+30<=aD)(h:p.n≠0):cE prog 188 [.p (dK p),.q (cK v).cs] (.bool (decide (OF.aG (dot p.n v-p.d)>=0))):=
 Gy func188 8 (λ_=>[(LX hp hv cN h).at 6])
theorem aM1{q:HS K}{n:Nat}(hp:bO m p)(hq:bO n q)(hm:16*m+80<=aD)(hn:16*n+80<=aD)(jO:p.n≠0)(Ay:q.n≠0):cE prog 190 [.p (dK q),.q (c9 p).cs] (.bool (decide (canon p=canon q))):=
 Gy func190 7 (λ_=>[(VW hp hq hm hn jO Ay).at 6])
def Eh(ps:List (HS K))(v:V3 K):Bool:=!decide (v=0)&&!ps.any λp=>decide (OF.aG (dot p.n v)>0)
theorem aM2{v:V3 K}{n:Nat}(ck:∀ p∈ps,bO m p)(hv:aI n v)(cN:4*(3*(m+n)+14)+20<=aD)(h63:ps.length<9223372036854775807):cE prog 182 [fZ ps,.p (bZ v)] (.bool (Eh ps v)):=by
 have hz:=Ee hv o_;have aC:([fZ ps,.p (bZ v)].all aR.ok)=true:=by simp only[dL,eX,fZ,aR.ok,dC,iJ,kF];rfl
 unfold Eh;by_cases h:v=0
 ·rw[aH h]at hz ⊢;exact dV func182 aC 14 (λ_=>[hz.at 6])
 ·rw[aP h]at hz ⊢;have hc:=V4 (g:=208) (caps:=(cK v).cs) (ps:=ps) (b:=λp=>decide (OF.aG (dot p.n v)>0)) k_ (bB.2 (RV.oB _)) h63 λp hp=>aMZ (ck p hp) hv cN;generalize (ps.any λp=>decide (OF.aG (dot p.n v)>0))=t at *;exact dV func182 aC 14 (λ_=>[hz.at 6,.step 11 (aw f182 11) [.func (.func 143) #[] #[],sl 0 ps.length,.func (.func 208) #[] #[cq 1]] [(0,some (.view (bt ps))),(1,some (.aM (cK v).cs 44))] (.bool t) []
   (dR hc (.w (x:=.view (bt ps)) rfl (dC ps) jD (.f (x:=.aM (cK v).cs 44) rfl (bB.2 (RV.oB _)) .nil)) (x:=.func 143) k_ k_ rfl)])
def qS(ps:List (HS K))(u:V3 K):Bool:=Eh ps u||Eh ps (-u)
def qT(p:HS K)(l:List (HS K)):Bool:=l.any λq=>!decide (af p.n q.n=0)
def uF:List (HS K)->Nat->Bool
 |_,0=>false
 |l,i+1=>match l[i]? with
  |some p=>uF l i||qT p (l.take i)
  |none=>uF l i
section
variable{Bs:aa}{ps:List (HS K)}
def CG(n i:Nat)(s:Bool)(j:Nat):aX:=[(20,vI j),(18,sl 0 i),(19,vI i),(0,sl 0 n),(5,cq 1),(3,.bool s)]
def tC(ps:List (HS K))(p:HS K):aL:=[(0,.view (bt ps)),(1,.aM (c9 p).cs 54)]
theorem aC8(p:HS K)(m:Nat):∀ x∈tC ps p,fV m x.2:=λx hx=>by
 simp only[tC,cC,j6,j7]at hx;rcases hx with rfl|rfl
 ·exact λv hv=>iW (bB.1 (dC ps) v hv)
 ·exact λv hv=>iW (jP.flat _ v hv)
noncomputable def I3{i:Nat}{q:HS K}(hj:j<i)(hq:ps[j]?=some q)(ck:∀ p∈ps,bO m p)(hp:bO m p)(hm:100*m+1000<=aD)(s:Bool)(more:bM prog Bs 47):bM prog Bs 47:=
 .lt 21 j i true (aH hj)::.dj f146 22 0 i j 40 hj k_::.ld f146 23 54 0 (j*40) (.view (bt ps)) (dK q) rfl (AB hq) k_::
  (vP hp.1 (ck q (cL hq)).1 o_).at 28::
  (if s then more else(Ee (hp.1.af (ck q (cL hq)).1) o_).at 32::more)
theorem Qi{u:V3 K}{n:Nat}(ck:∀ p∈ps,bO m p)(hu:aI n u)(cN:4*(3*(m+n)+14)+20<=aD)(h63:ps.length<9223372036854775807){x:m_}(ho:dD o.op=some x):
  cI prog Bs o [.func (.func 182) #[] #[],sl 0 ps.length,bZ u] [(0,some (.view (bt ps)))] (.bool (Eh ps u)) []:=
 dR (aM2 ck hu cN h63) (.w (x:=.view (bt ps)) rfl (dC ps) jD (.p k_ .nil)) ho k_ k_
theorem aM3{i:Nat}{q:HS K}(hj:j<i)(hq:ps[j]?=some q)(ck:∀ p∈ps,bO m p)(hp:bO m p)(hm:100*m+1000<=aD)(h63:ps.length<9223372036854775807)(lX:i<=ps.length)(s:Bool)(hb:qS ps (af p.n q.n)=false):
  ai prog Bs 47 (aJ (ah f146 2)) (CG ps.length i s j) (tC ps p) 2 ⟨.normal,CG ps.length i (s||!decide (af p.n q.n=0)) (j+1),tC ps p,2⟩:=by
 have V5:=ck q (cL hq);have hc:=hp.1.af V5.1;unfold qS at hb;rw[NN]at hb;have o1:=λBs=>Qi (Bs:=Bs) (x:=.func 182) (o:=aw f146 37) ck hc o_ h63 k_;have o2:=λBs=>Qi (Bs:=Bs) (x:=.func 182) (o:=aw f146 42) ck hc.neg o_ h63 k_;rw[hb.1]at o1;rw[hb.2]at o2;have ng:=I0 hc o_;have hs:∀ d:Bool,(s||!d)=(if s then true else !d):=λd=>by cases s<;>rfl
 cases s
 ·exact vn mixed 100 (gH:=4) (I3 hj hq ck hp hm false [.step 37 _ _ _ _ _ (o1 _),ng.at 41,.step 42 _ _ _ _ _ (o2 _),.sum 44 j 1 (j+1) rfl o_]) k_ rfl k_ (aC8 _ 2) k_
 ·exact vn mixed 100 (gH:=4) (I3 hj hq ck hp hm true [.step 37 _ _ _ _ _ (o1 _),ng.at 41,.step 42 _ _ _ _ _ (o2 _),.sum 44 j 1 (j+1) rfl o_]) k_ rfl k_ (aC8 _ 2) k_
theorem aM4{i:Nat}{q:HS K}(hj:j<i)(hq:ps[j]?=some q)(ck:∀ p∈ps,bO m p)(hp:bO m p)(hm:100*m+1000<=aD)(h63:ps.length<9223372036854775807)(s:Bool)(hb:qS ps (af p.n q.n)=true):
  ai prog Bs 47 (aJ (ah f146 2)) (CG ps.length i s j) (tC ps p) 2 ⟨.ret,[(2,.bool false)],tC ps p,4⟩:=by
 have V5:=ck q (cL hq);have hc:=hp.1.af V5.1;unfold qS at hb;have o1:=λBs=>Qi (Bs:=Bs) (x:=.func 182) (o:=aw f146 37) ck hc o_ h63 k_;have o2:=λBs=>Qi (Bs:=Bs) (x:=.func 182) (o:=aw f146 42) ck hc.neg o_ h63 k_;have ng:=I0 hc o_;cases h1:Eh ps (af p.n q.n)with
 |true=>
  rw[h1]at o1;cases s
  ·exact aE (I3 hj hq ck hp hm false [.step 37 _ _ _ _ _ (o1 _)])
  ·exact aE (I3 hj hq ck hp hm true [.step 37 _ _ _ _ _ (o1 _)])
 |false=>
  rw[h1,zM]at hb;rw[h1]at o1;rw[hb]at o2;cases s
  ·exact aE (I3 hj hq ck hp hm false [.step 37 _ _ _ _ _ (o1 _),ng.at 41,.step 42 _ _ _ _ _ (o2 _)])
  ·exact aE (I3 hj hq ck hp hm true [.step 37 _ _ _ _ _ (o1 _),ng.at 41,.step 42 _ _ _ _ _ (o2 _)])
theorem aM5{i:Nat}(s:Bool):ai prog Bs 47 (aJ (ah f146 2)) (CG ps.length i s i) (tC ps p) 2 ⟨.exit 2,[(3,.bool s)],tC ps p,2⟩:=
 aE [.lt 21 i i false s_]
theorem aM6{q:HS K}(hq:ps[j]?=some q):qT p (ps.take (j+1))=(qT p (ps.take j)||!decide (af p.n q.n=0)):=by unfold qT;rw[vS,hq,List.any_append];simp
theorem aC9{i:Nat}(lX:i<=ps.length)(ck:∀ p∈ps,bO m p)(hp:bO m p)(hm:100*m+1000<=aD)(h63:ps.length<9223372036854775807)(s:Bool):
  ai prog Bs 47 (.block 2 (ah f146 2)) (CG ps.length i s 0) (tC ps p) 2 (if(ps.take i).any (λq=>qS ps (af p.n q.n))=true then⟨.ret,[(2,.bool false)],tC ps p,4⟩else⟨.normal,[(3,.bool (s||qT p (ps.take i)))],tC ps p,2⟩):=by
 have at':∀{j:Nat},j<i->(ps.take i)[j]?=ps[j]?:=λhj=>by rw[u4,aB hj]
 have uE:∀ e,e<=i->(∀(j:Nat) y,j<e->(ps.take i)[j]?=some y->qS ps (af p.n y.n)=false)->∀ j,j<e->
   ai prog Bs 47 (aJ (ah f146 2)) (CG ps.length i (s||qT p (ps.take j)) j) (tC ps p) 2 ⟨.normal,CG ps.length i (s||qT p (ps.take (j+1))) (j+1),tC ps p,2⟩:=λe he hb j hj=>by
  have hq:ps[j]?=some ps[j]:=bo o_;have:=aM3 (Bs:=Bs) (p:=p) (show j<i by omega) hq ck hp hm h63 lX (s||qT p (ps.take j)) (hb j _ hj (by rw[at' o_];exact hq));rwa[Bool.or_assoc,<-aM6 hq]at this
 have e0:(s||qT p (ps.take 0))=s:=by simp[qT]
 rcases Gz (λq:HS K=>qS ps (af p.n q.n)) (ps.take i)with hn|⟨e,q,h1,h2,h3⟩
 ·have:¬(ps.take i).any (λq=>qS ps (af p.n q.n))=true:=by rw[Qj,Kk];intro x hx;rw[hn x hx];simp
  rw[av this];have:=cA (P:=prog) (B:=Bs) (N:=47) i (λj=>CG ps.length i (s||qT p (ps.take j)) j) (λ_=>tC ps p) (λi k _=>Iff.rfl) (uE i (bC _) λj y _ hy=>hn y (cL hy)) (aM5 _) n_;rw[e0]at this;exact cd (id:=2) this
 ·have ha:(ps.take i).any (λq=>qS ps (af p.n q.n))=true:=rD.2 ⟨q,cL h1,h2⟩;rw[aB ha];have hei:e<i:=by have:=(eA.1 h1).1;rw[jH]at this;omega
  have:=cA (P:=prog) (B:=Bs) (N:=47) e (λj=>CG ps.length i (s||qT p (ps.take j)) j) (λ_=>tC ps p) (λi k _=>Iff.rfl) (uE e o_ h3) (aM4 hei (by rw[<-at' hei];exact h1) ck hp hm h63 _ h2) n_;rw[e0]at this;exact cd (id:=2) this
def GA(ps:List (HS K))(i:Nat):Bool:=match ps[i]? with
 |some p=>(ps.take i).any λq=>qS ps (af p.n q.n)
 |none=>false
def Qk(ps:List (HS K))(n:Nat):Bool:=(List.range n).any (GA ps)
theorem Ql{i:Nat}(h:ps[i]?=some p):GA ps i=(ps.take i).any λq=>qS ps (af p.n q.n):=by unfold GA;rw[h]
theorem aDa{i:Nat}(h:ps[i]?=some p):uF ps (i+1)=(uF ps i||qT p (ps.take i)):=by show(match ps[i]? with|some p=>uF ps i||qT p (ps.take i)|none=>uF ps i)=_;rw[h]
def uG(ps:List (HS K)):Bool:=!Qk ps ps.length&&uF ps ps.length
def AD(n i:Nat)(s:Bool):aX:=[(11,vI i),(9,sl 0 n),(10,vI n),(0,sl 0 n),(3,.bool s)]
def rU(ps:List (HS K)):aL:=[(0,.view (bt ps))]
theorem aM7(m:Nat):∀ x∈rU ps,fV m x.2:=λx hx=>by simp only[rU,cC,j6,j7]at hx;subst hx;exact λv hv=>iW (bB.1 (dC ps) v hv)
noncomputable def coS{i:Nat}(hi:i<ps.length)(hp:ps[i]?=some p)(more:bM prog Bs 47):bM prog Bs 47:=
 .lt 12 i ps.length true (aH hi)::.dj f146 14 0 ps.length i 40 hi k_::.ld f146 15 54 0 (i*40) (.view (bt ps)) (dK p) rfl (AB hp) k_::.upto f146 18 0 ps.length i 40 o_ k_::more
theorem aM8{i:Nat}(hi:i<ps.length)(hp:ps[i]?=some p)(ck:∀ p∈ps,bO m p)(hm:100*m+1000<=aD)(h63:ps.length<9223372036854775807)(s:Bool)(hb:(ps.take i).any (λq=>qS ps (af p.n q.n))=false):
  ai prog Bs 47 (aJ (ah f146 0)) (AD ps.length i s) (rU ps) 1 ⟨.normal,AD ps.length (i+1) (s||qT p (ps.take i)),rU ps,1⟩:=by
 have lo:=aC9 (Bs:=Bs) (show i<=ps.length by omega) ck (ck p (cL hp)) hm h63 s;rw[hb,av s_]at lo;generalize qT p (ps.take i)=t at *;exact vn mixed 100 (gH:=2) (coS hi hp [.code 2 _ _ _ _ _ lo,.sum 45 i 1 (i+1) rfl o_]) k_ rfl k_ (aM7 1) k_
theorem aM9{i:Nat}(hi:i<ps.length)(hp:ps[i]?=some p)(ck:∀ p∈ps,bO m p)(hm:100*m+1000<=aD)(h63:ps.length<9223372036854775807)(s:Bool)(hb:(ps.take i).any (λq=>qS ps (af p.n q.n))=true):
  ai prog Bs 47 (aJ (ah f146 0)) (AD ps.length i s) (rU ps) 1 ⟨.ret,[(2,.bool false)],rU ps,4⟩:=by
 have lo:=aC9 (Bs:=Bs) (show i<=ps.length by omega) ck (ck p (cL hp)) hm h63 s;rw[aB hb]at lo;exact aE (coS hi hp [.code 2 _ _ _ _ _ lo])
theorem aNa(s:Bool):ai prog Bs 47 (aJ (ah f146 0)) (AD ps.length ps.length s) (rU ps) 1 ⟨.exit 0,[(3,.bool s)],rU ps,1⟩:=
 aE [.lt 12 ps.length ps.length false s_]
theorem aNb(ck:∀ p∈ps,bO m p)(hm:100*m+1000<=aD)(h63:ps.length<9223372036854775807):cE prog 146 [fZ ps] (.bool (uG ps)):=by
 have aC:([fZ ps].all aR.ok)=true:=by simp only[dL,eX,fZ,aR.ok,dC,iJ]
 have uE:∀(B:aa) e,e<=ps.length->(∀(j:Nat) y,j<e->(List.range ps.length)[j]?=some y->GA ps y=false)->∀ i,i<e->
   ai prog B 47 (aJ (ah f146 0)) (AD ps.length i (uF ps i)) (rU ps) 1 ⟨.normal,AD ps.length (i+1) (uF ps (i+1)),rU ps,1⟩:=λB e he hb i hi=>by
  have al:i<ps.length:=by omega
  have hp:ps[i]?=some ps[i]:=bo al;rw[aDa hp];exact aM8 al hp ck hm h63 _ (by rw[<-Ql hp];exact hb i i hi (L7 al))
 unfold uG Qk;rcases Gz (GA ps) (List.range ps.length)with hn|⟨e,y,h1,h2,h3⟩
 ·have ha:(List.range ps.length).any (GA ps)=false:=by rw[Kk];intro x hx;rw[hn x hx];simp
  rw[ha];have lo:∀ B:aa,ai prog B 47 (.block 0 (ah f146 0)) (AD ps.length 0 false) (rU ps) 1 ⟨.normal,[(3,.bool (uF ps ps.length))],rU ps,1⟩:=λB=>
   cd (id:=0) (cA ps.length (λi=>AD ps.length i (uF ps i)) (λ_=>rU ps) (λi k _=>Iff.rfl) (uE B ps.length (bC _) λj y _ hy=>hn y (cL hy)) (aNa _) n_)
  generalize uF ps ps.length=t at *;exact dV func146 aC 47 (λw=>[.code 0 _ _ _ _ _ (lo _)])
 ·have ha:(List.range ps.length).any (GA ps)=true:=rD.2 ⟨y,cL h1,h2⟩;rw[ha];have al:e<ps.length:=by have:=(eA.1 h1).1;rwa[zD]at this
  have hy:y=e:=by rw[L7 al]at h1;injection h1 with h1;exact h1.symm
  subst hy;have hp:ps[y]?=some ps[y]:=bo al;have lo:∀ B:aa,ai prog B 47 (.block 0 (ah f146 0)) (AD ps.length 0 false) (rU ps) 1 ⟨.ret,[(2,.bool false)],rU ps,4⟩:=λB=>
   cd (id:=0) (cA y (λi=>AD ps.length i (uF ps i)) (λ_=>rU ps) (λi k _=>Iff.rfl) (uE B y o_ h3) (aM9 al hp ck hm h63 _ (by rw[<-Ql hp];exact h2)) n_)
  exact dV func146 aC 47 (λw=>[.code 0 _ _ _ _ _ (lo _)])
end
end
section
variable{P:j_}{B:aa}{N:Nat}
def V6(o:Oper):Bool:=match o.op with|.nilCheck _=>true|_=>false
theorem aNc(ho:V6 o=true)(k off:Nat):cI P B o [.pointer (some ⟨k,off,some 7⟩)] [] (.pointer (some ⟨k,off,some 7⟩)) []:=by
 unfold V6 at ho;split at ho
 ·rename_i x cg;refine iN.step λι c ρ w aZ hm hn=>?_;rw[cg]at aZ;obtain⟨u,hu,hc⟩:=ob aZ;have hu:ρ x=u:=by simpa[Op.operands]using hu
  obtain⟨b,oo,cap,hb,he⟩:=hc.xt rfl;refine⟨ι,.pointer (some ⟨b,oo+off,none⟩),w,Map.le.refl _,.ptr hb,hm,.inl ?_⟩;simp only[execOp,cg,hu,he];simp[go_sem]
 ·cases ho
def bd.cD(fn:Func)(key k off:Nat)(ho:V6 (aw fn key)=true):bd P B N:=.step key (aw fn key) [.pointer (some ⟨k,off,some 7⟩)] [] (.pointer (some ⟨k,off,some 7⟩)) [] (aNc ho k off)
end
section
open V3 (dot af aW smul)
def V7:Option K->ak
 |some x=>(de x).cs
 |none=>zN.cs
def rV(s:fk K)(b d:V3 K):ak:=V7 s.lo++(V7 s.hi++(.bool s.lo.isSome::.bool s.hi.isSome::((cK b).cs++(cK d).cs)))
def rW(s:fk K)(a b:K):fk K:=
 if OF.aG a=0 then s
 else if OF.aG a>0 then(match s.hi with|some h=>if OF.aG (b*a⁻¹-h)<0 then⟨s.lo,some (b*a⁻¹)⟩else s|none=>⟨s.lo,some (b*a⁻¹)⟩)
 else(match s.lo with|some l=>if OF.aG (b*a⁻¹-l)>0 then⟨some (b*a⁻¹),s.hi⟩else s|none=>⟨some (b*a⁻¹),s.hi⟩)
def aDb(s:fk K):Bool:=match s.lo,s.hi with
 |some l,some h=>decide (OF.aG (l-h)<0)
 |_,_=>true
def tD(s:fk K)(a b:K):Bool:=if OF.aG a=0 then decide (OF.aG b>=0)else aDb (rW s a b)
def oD(n:Nat)(x:Option K):Prop:=∀ y,x=some y->Sz n y
theorem aNd{s:fk K}{b d:V3 K}{z:Nat}(hp:bO m p)(hb:aI q b)(hd:aI q d)(eO:oD z s.lo)(iO:oD z s.hi)(hn:1000*(m+q)+100*z+10000<=aD):
  yx prog 209 20 [cq 6,dK p] [(6,.aM (rV s b d) 196)] [] (.bool (tD s (dot p.n d) (p.d-dot p.n b))) [(6,.aM (rV (rW s (dot p.n d) (p.d-dot p.n b)) b d) 196)]:=by
 have jk:Sz (3*(m+q)+14) (dot p.n d):=hp.1.dot hd;have jU:Sz (m+(3*(m+q)+14)+1) (p.d-dot p.n b):=hp.2.sub (hp.1.dot hb);have d1:=uB hp.1 hd o_;have d2:=uB hp.1 hb o_;have sb:=Cp hp.2 (hp.1.dot hb) o_;have o7:=nP jk o_;have sgb:=nP jU o_;unfold tD rW;generalize p.d-dot p.n b=y at *;generalize dot p.n d=a at *;obtain⟨lo,hi⟩:=s;dsimp only at eO iO ⊢;by_cases oj:a=0
 ·have e:OF.aG a=0:=(OF.fF a).2 oj;rw[aB e,aB e];have dv:=aLp jU o_;rw[<-oj]at dv;cases lo<;>cases hi<;>exact o6 mixed func209 100 (N:=116) k_ (λ_=>[.cD f209 12 6 0 k_,d1.at 15,.cD f209 21 6 0 k_,d2.at 24,sb.at 25,dv.at 29,sgb.at 36]) (λ_=>k_)
 ·have e:OF.aG a≠0:=λh=>oj ((OF.fF a).1 h);rw[av e,av e];have dv:=IU oj jU jk o_;have ht:=Sz.div oj jU jk;generalize y*a⁻¹=t at *;by_cases h:OF.aG a>0
  ·rw[aB h];rcases lo with _|lo
   ·rcases hi with _|hi
    ·exact o6 mixed func209 100 (N:=116) k_ (λ_=>[.cD f209 12 6 0 k_,d1.at 15,.cD f209 21 6 0 k_,d2.at 24,sb.at 25,dv.at 29,o7.at 40,.rw 41 (.bool (decide (OF.aG a>0))) b_ (by rw[aH h]),.cD f209 44 6 0 k_,.cD f209 61 6 0 k_,.cD f209 63 6 0 k_,.cD f209 93 6 0 k_]) (λ_=>k_)
    ·dsimp only;by_cases hc:OF.aG (t-hi)<0
     ·rw[aB hc];exact o6 mixed func209 100 (N:=116) k_ (λ_=>[.cD f209 12 6 0 k_,d1.at 15,.cD f209 21 6 0 k_,d2.at 24,sb.at 25,dv.at 29,o7.at 40,.rw 41 (.bool (decide (OF.aG a>0))) b_ (by rw[aH h]),.cD f209 44 6 0 k_,.cD f209 51 6 0 k_,(mX ht (iO _ rfl) o_).at 54,.rw 55 (.bool (decide (OF.aG (t-hi)<0))) b_ (by rw[aH hc]),.cD f209 61 6 0 k_,.cD f209 63 6 0 k_,.cD f209 93 6 0 k_]) (λ_=>k_)
     ·rw[av hc];exact o6 mixed func209 100 (N:=116) k_ (λ_=>[.cD f209 12 6 0 k_,d1.at 15,.cD f209 21 6 0 k_,d2.at 24,sb.at 25,dv.at 29,o7.at 40,.rw 41 (.bool (decide (OF.aG a>0))) b_ (by rw[aH h]),.cD f209 44 6 0 k_,.cD f209 51 6 0 k_,(mX ht (iO _ rfl) o_).at 54,.rw 55 (.bool (decide (OF.aG (t-hi)<0))) a_ (by rw[aP hc]),o7.at 67,.rw 68 (.bool (decide (OF.aG a<0))) a_ (by rw[aP o_]),.cD f209 93 6 0 k_]) (λ_=>k_)
   ·rcases hi with _|hi
    ·exact o6 mixed func209 100 (N:=116) k_ (λ_=>[.cD f209 12 6 0 k_,d1.at 15,.cD f209 21 6 0 k_,d2.at 24,sb.at 25,dv.at 29,o7.at 40,.rw 41 (.bool (decide (OF.aG a>0))) b_ (by rw[aH h]),.cD f209 44 6 0 k_,.cD f209 61 6 0 k_,.cD f209 63 6 0 k_,.cD f209 93 6 0 k_,.cD f209 99 6 0 k_,.cD f209 106 6 0 k_,.cD f209 110 6 0 k_,(mX (eO _ rfl) ht o_).at 113]) (λ_=>k_)
    ·dsimp only;by_cases hc:OF.aG (t-hi)<0
     ·rw[aB hc];exact o6 mixed func209 100 (N:=116) k_ (λ_=>[.cD f209 12 6 0 k_,d1.at 15,.cD f209 21 6 0 k_,d2.at 24,sb.at 25,dv.at 29,o7.at 40,.rw 41 (.bool (decide (OF.aG a>0))) b_ (by rw[aH h]),.cD f209 44 6 0 k_,.cD f209 51 6 0 k_,(mX ht (iO _ rfl) o_).at 54,.rw 55 (.bool (decide (OF.aG (t-hi)<0))) b_ (by rw[aH hc]),.cD f209 61 6 0 k_,.cD f209 63 6 0 k_,.cD f209 93 6 0 k_,.cD f209 99 6 0 k_,.cD f209 106 6 0 k_,.cD f209 110 6 0 k_,(mX (eO _ rfl) ht o_).at 113]) (λ_=>k_)
     ·rw[av hc];exact o6 mixed func209 100 (N:=116) k_ (λ_=>[.cD f209 12 6 0 k_,d1.at 15,.cD f209 21 6 0 k_,d2.at 24,sb.at 25,dv.at 29,o7.at 40,.rw 41 (.bool (decide (OF.aG a>0))) b_ (by rw[aH h]),.cD f209 44 6 0 k_,.cD f209 51 6 0 k_,(mX ht (iO _ rfl) o_).at 54,.rw 55 (.bool (decide (OF.aG (t-hi)<0))) a_ (by rw[aP hc]),o7.at 67,.rw 68 (.bool (decide (OF.aG a<0))) a_ (by rw[aP o_]),.cD f209 93 6 0 k_,.cD f209 99 6 0 k_,.cD f209 106 6 0 k_,.cD f209 110 6 0 k_,(mX (eO _ rfl) (iO _ rfl) o_).at 113]) (λ_=>k_)
  ·rw[av h];rcases lo with _|lo
   ·rcases hi with _|hi
    ·exact o6 mixed func209 100 (N:=116) k_ (λ_=>[.cD f209 12 6 0 k_,d1.at 15,.cD f209 21 6 0 k_,d2.at 24,sb.at 25,dv.at 29,o7.at 40,.rw 41 (.bool (decide (OF.aG a>0))) a_ (by rw[aP h]),o7.at 67,.rw 68 (.bool (decide (OF.aG a<0))) b_ (by rw[aH o_]),.cD f209 71 6 0 k_,.cD f209 88 6 0 k_,.cD f209 90 6 0 k_,.cD f209 93 6 0 k_,.cD f209 99 6 0 k_]) (λ_=>k_)
    ·exact o6 mixed func209 100 (N:=116) k_ (λ_=>[.cD f209 12 6 0 k_,d1.at 15,.cD f209 21 6 0 k_,d2.at 24,sb.at 25,dv.at 29,o7.at 40,.rw 41 (.bool (decide (OF.aG a>0))) a_ (by rw[aP h]),o7.at 67,.rw 68 (.bool (decide (OF.aG a<0))) b_ (by rw[aH o_]),.cD f209 71 6 0 k_,.cD f209 88 6 0 k_,.cD f209 90 6 0 k_,.cD f209 93 6 0 k_,.cD f209 99 6 0 k_,.cD f209 106 6 0 k_,.cD f209 110 6 0 k_,(mX ht (iO _ rfl) o_).at 113]) (λ_=>k_)
   ·rcases hi with _|hi
    ·dsimp only;by_cases hc:OF.aG (t-lo)>0
     ·rw[aB hc];exact o6 mixed func209 100 (N:=116) k_ (λ_=>[.cD f209 12 6 0 k_,d1.at 15,.cD f209 21 6 0 k_,d2.at 24,sb.at 25,dv.at 29,o7.at 40,.rw 41 (.bool (decide (OF.aG a>0))) a_ (by rw[aP h]),o7.at 67,.rw 68 (.bool (decide (OF.aG a<0))) b_ (by rw[aH o_]),.cD f209 71 6 0 k_,.cD f209 78 6 0 k_,(mX ht (eO _ rfl) o_).at 81,.rw 82 (.bool (decide (OF.aG (t-lo)>0))) b_ (by rw[aH hc]),.cD f209 88 6 0 k_,.cD f209 90 6 0 k_,.cD f209 93 6 0 k_,.cD f209 99 6 0 k_]) (λ_=>k_)
     ·rw[av hc];exact o6 mixed func209 100 (N:=116) k_ (λ_=>[.cD f209 12 6 0 k_,d1.at 15,.cD f209 21 6 0 k_,d2.at 24,sb.at 25,dv.at 29,o7.at 40,.rw 41 (.bool (decide (OF.aG a>0))) a_ (by rw[aP h]),o7.at 67,.rw 68 (.bool (decide (OF.aG a<0))) b_ (by rw[aH o_]),.cD f209 71 6 0 k_,.cD f209 78 6 0 k_,(mX ht (eO _ rfl) o_).at 81,.rw 82 (.bool (decide (OF.aG (t-lo)>0))) a_ (by rw[aP hc]),.cD f209 93 6 0 k_,.cD f209 99 6 0 k_]) (λ_=>k_)
    ·dsimp only;by_cases hc:OF.aG (t-lo)>0
     ·rw[aB hc];exact o6 mixed func209 100 (N:=116) k_ (λ_=>[.cD f209 12 6 0 k_,d1.at 15,.cD f209 21 6 0 k_,d2.at 24,sb.at 25,dv.at 29,o7.at 40,.rw 41 (.bool (decide (OF.aG a>0))) a_ (by rw[aP h]),o7.at 67,.rw 68 (.bool (decide (OF.aG a<0))) b_ (by rw[aH o_]),.cD f209 71 6 0 k_,.cD f209 78 6 0 k_,(mX ht (eO _ rfl) o_).at 81,.rw 82 (.bool (decide (OF.aG (t-lo)>0))) b_ (by rw[aH hc]),.cD f209 88 6 0 k_,.cD f209 90 6 0 k_,.cD f209 93 6 0 k_,.cD f209 99 6 0 k_,.cD f209 106 6 0 k_,.cD f209 110 6 0 k_,(mX ht (iO _ rfl) o_).at 113]) (λ_=>k_)
     ·rw[av hc];exact o6 mixed func209 100 (N:=116) k_ (λ_=>[.cD f209 12 6 0 k_,d1.at 15,.cD f209 21 6 0 k_,d2.at 24,sb.at 25,dv.at 29,o7.at 40,.rw 41 (.bool (decide (OF.aG a>0))) a_ (by rw[aP h]),o7.at 67,.rw 68 (.bool (decide (OF.aG a<0))) b_ (by rw[aH o_]),.cD f209 71 6 0 k_,.cD f209 78 6 0 k_,(mX ht (eO _ rfl) o_).at 81,.rw 82 (.bool (decide (OF.aG (t-lo)>0))) a_ (by rw[aP hc]),.cD f209 93 6 0 k_,.cD f209 99 6 0 k_,.cD f209 106 6 0 k_,.cD f209 110 6 0 k_,(mX (eO _ rfl) (iO _ rfl) o_).at 113]) (λ_=>k_)
end
def I4(P:j_)(f:FuncId)(l:List aR)(ty:TypeId)(size n:Nat)(xs:ak)(u:i_):Prop:=
 ∀ w vs,uA w l vs->Calls P f vs.toArray w λe w'=>∃ v,e=.returned (.tuple #[v,u])/\w'.ownsRow w.heap.size ty size v n xs/\Below w.heap.size w w'
section
variable{P:j_}{B:aa}{N:Nat}
theorem aNe{l:List aR}{size:Nat}{u:i_}(gW:P.follows .mixedOrders=true)(hf:P.funcs[f]?=some fn)(hl:(l.all aR.ok)=true)(n:Nat){N:Nat}(hN:N=(eC 0 l).length+(fn.ntmps-(eC 0 l).length))
  (rs:∀ w,bM P (aa.at w) N) (h:∀ w,oq (gv (P:=P) fn n (eC 0 l) (ja 0 l) (jo 0 l) (rs w)) [(k,.row xs ty size)]=ou (gv fn n (eC 0 l) (ja 0 l) (jo 0 l) (rs w)) (.tuple #[.slice (some ⟨k,0,some 7⟩) m 0,u]) [(k,.row xs ty size)])
  (hx:(xs.all flat)=true) (hlen:xs.length=m*size) (hu:flat u=true):I4 P f l ty size m xs u:=by
 intro w vs cz;obtain⟨ι,c,h1,h2,h3,h4,h5,h6,h7⟩:=wS cz (bB.1 hl) 0 _ _ (rG w) n_ (λ_ _=>rfl);refine sO gW hf hN n (h w) h6 h2 h4 h3 λaz cr v' w' hle hc hm dQ=>?_;obtain⟨cT,rfl,ht⟩:=hc.uY;have ht:bW (aK az) [.slice (some ⟨k,0,some 7⟩) m 0,u] cT.toList:=ht;cases aZ:cT.toList with
 |nil=>rw[aZ]at ht;cases ht
 |cons a t=>
  rw[aZ]at ht;cases ht with
  |cons q1 q2=>
   cases q2 with
   |cons q3 q4=>
    cases q4;refine⟨a,?_,?_,hm.base⟩
    ·rw[q3.eZ hu]at aZ
     congr 2
     apply E9;rw[aZ]
    ·have:=xI hm (dQ (k,_) (aT ..)) q1 o_ (bB.1 hx);rwa[<-hlen,o5]at this
theorem V8{l:List aR}{size n:Nat}{u:i_}{nd:q_}{x:m_}(h:I4 P f l ty size n xs u)(hs:gB B l vs nd)(ho:dD o.op=some x)(e8:gO P f=true)(hx:(xs.all flat)=true)(hu:flat u=true)(k:Nat):
  cI P B o (.func (.func f) #[] #[]::vs) ((k,none)::nd) (.tuple #[.slice (some ⟨k,0,some 7⟩) n 0,u]) [(k,.row xs ty size)]:=by
 have:=jV (P:=P) (B:=B) (o:=o) (x:=x) (f:=f) (fi:=[]) (args:=vs) (ca:=[]) (need:=(k,none)::nd) (val:=.tuple #[.slice (some ⟨k,0,some 7⟩) n 0,u]) (cZ:=[(k,.row xs ty size)]) ho e8 ?_
 ·simpa using this
 ·intro ι c w hm hn args' ha;rw[jg,jL]at ha;refine(h w args' (Cv hs hm (λp hp=>hn p (bF _ hp)) ha)).mono ?_
  rintro e w' ⟨v,rfl,h1,h2⟩
  obtain⟨az,q1,q2,q3⟩:=Fw hm h2 (k:=k) (hn (k,none) (aT ..)) h1 (bB.1 hx);exact⟨az,_,rfl,q1,.tup (.cons q3 (.cons (.same hu) .nil)),q2⟩
end
section
open V3 (dot af aW smul)
def eE(p q:HS K):V3 K:=af p.n q.n
def xa(p q:HS K):V3 K:=smul (smul (af q.n (eE p q)) p.d+smul (af (eE p q) p.n) q.d) (kI 1*(dot (eE p q) (eE p q))⁻¹)
def o8(s:fk K)(b d:V3 K):List (HS K)->fk K
 |[]=>s
 |p::l=>o8 (rW s (dot p.n d) (p.d-dot p.n b)) b d l
def xb(s:fk K)(b d:V3 K):List (HS K)->Bool
 |[]=>true
 |p::l=>tD s (dot p.n d) (p.d-dot p.n b)&&xb (rW s (dot p.n d) (p.d-dot p.n b)) b d l
theorem aDc{b d:V3 K}{p:HS K}:∀(l:List (HS K)) (s:fk K),o8 s b d (l++[p])=rW (o8 s b d l) (dot p.n d) (p.d-dot p.n b)
 |[],s=>rfl
 |q::l,s=>aDc l _
def L8(ps:List (HS K))(p q:HS K):fk K:=o8 ⟨none,none⟩ (xa p q) (eE p q) ps
def GB(ps:List (HS K))(p q:HS K):Option (V3 K×V3 K):=
 if eE p q=0 then none
 else if xb ⟨none,none⟩ (xa p q) (eE p q) ps then(match (L8 ps p q).lo,(L8 ps p q).hi with
  |some l,some h=>some (xa p q+smul (eE p q) l,xa p q+smul (eE p q) h)
  |_,_=>none)
 else none
theorem V9{q:HS K}(hp:bO m p)(hq:bO m q):aI (4*m+9) (eE p q):=(hp.1.af hq.1).mono o_
theorem aDd{q:HS K}(hp:bO m p)(hq:bO m q)(h:eE p q≠0)(hd:dot (eE p q) (eE p q)≠0):aI (300*m+1000) (xa p q):=by have hc:=V9 hp hq;have h1:=(hq.1.af hc).smul hp.2;have h2:=(hc.af hp.1).smul hq.2;have h3:=Sz.div (m:=1) hd (qe (z:=1) d_ d_) (hc.dot hc);exact((h1.add h2).smul h3).mono o_
theorem aNf{s:fk K}{a b:K}{z C:Nat}(eO:oD z s.lo)(iO:oD z s.hi)(ha:Sz A a)(hb:Sz C b)(hz:C+7*A+28<=z):oD z (rW s a b).lo/\oD z (rW s a b).hi:=by
 unfold rW;by_cases h0:OF.aG a=0
 ·rw[aB h0];exact⟨eO,iO⟩
 ·rw[av h0];have oj:a≠0:=λe=>h0 ((OF.fF a).2 e);have ht:Sz z (b*a⁻¹):=(Sz.div oj hb ha).mono hz;have Qm:oD z (some (b*a⁻¹)):=λy e=>by injection e with e;subst e;exact ht
  obtain⟨lo,hi⟩:=s;dsimp only at eO iO ⊢;split
  ·split
   ·split
    ·exact⟨eO,Qm⟩
    ·exact⟨eO,iO⟩
   ·exact⟨eO,Qm⟩
  ·split
   ·split
    ·exact⟨Qm,iO⟩
    ·exact⟨eO,iO⟩
   ·exact⟨Qm,iO⟩
theorem Qn{b d:V3 K}{m q z:Nat}(hb:aI q b)(hd:aI q d)(hz:m+(3*(m+q)+14)+1+7*(3*(m+q)+14)+28<=z):∀(l:List (HS K)) (s:fk K),(∀ p∈l,bO m p)->oD z s.lo->oD z s.hi->oD z (o8 s b d l).lo/\oD z (o8 s b d l).hi
 |[],s,_,h1,h2=>⟨h1,h2⟩
 |p::l,s,hl,h1,h2=>by have hp:=hl p (aT ..);obtain⟨q1,q2⟩:=aNf h1 h2 (hp.1.dot hd) (hp.2.sub (hp.1.dot hb)) hz;exact Qn hb hd hz l _ (λr hr=>hl r (bF _ hr)) q1 q2
theorem aNg{s:fk K}{b d:V3 K}{t:K}{z:Nat}(hb:aI q b)(hd:aI q d)(ht:Sz z t)(hn:10*q+10*z+100<=aD):
  yx prog 210 20 ([bI t]++[cq 7,cq 3]) [(6,.aM (rV s b d) 196),(7,.aM [cq 6] 194),(3,.aM (cK d).cs 44)] [] (bZ (b+smul d t)) [(6,.aM (rV s b d) 196),(7,.aM [cq 6] 194),(3,.aM (cK d).cs 44)]:=by
 have h1:=wZ hd ht o_;have h2:=Gw hb (hd.smul ht) o_;obtain⟨lo,hi⟩:=s;cases lo<;>cases hi<;>exact o6 mixed func210 100 (N:=13) k_ (λ_=>[.cD f210 6 6 0 k_,h1.at 11,h2.at 12]) (λ_=>k_)
theorem aDe(x:Option K):∀ v∈V7 x,flat v=true:=by
 cases x with
 |none=>exact RN.oB zN
 |some y=>exact RN.oB _
theorem Qo(s:fk K)(b d:V3 K):∀ v∈rV s b d,flat v=true:=λv hv=>by
 simp only[rV,eW,cC]at hv;rcases hv with h|h|rfl|rfl|h|h
 ·exact aDe _ v h
 ·exact aDe _ v h
 ·rfl
 ·rfl
 ·exact RV.oB _ v h
 ·exact RV.oB _ v h
theorem rX{x:Obj}(h:∀ v∈x.cells,flat v=true):mY m (k,x)=true:=bB.2 λv hv=>iW (h v hv)
section
variable{Bs:aa}{ps:List (HS K)}
theorem Wa{b d:V3 K}:∀(l:List (HS K)) (s:fk K),xb s b d l=true↔∀(i:Nat) (p:HS K),l[i]?=some p->tD (o8 s b d (l.take i)) (dot p.n d) (p.d-dot p.n b)=true
 |[],s=>by simp[xb]
 |q::l,s=>by
  unfold xb;rw[dr,Wa l];constructor
  ·rintro⟨h1,h2⟩ i p hp
   cases i with
   |zero=>simp at hp;subst hp;exact h1
   |succ i=>exact h2 i p (by simpa using hp)
  ·intro h;exact⟨h 0 q rfl,λi p hp=>h (i+1) p (by simpa using hp)⟩
def eI(n i:Nat):aX:=[(54,vI i),(52,sl 0 n),(53,vI n),(0,sl 0 n),(12,cq 7),(8,cq 3)]
def eJ(ps:List (HS K))(s:fk K)(b d:V3 K):aL:=[(0,.view (bt ps)),(6,.aM (rV s b d) 196),(7,.aM [cq 6] 194)]
theorem aNh{s:fk K}{b d:V3 K}:∀ x∈eJ ps s b d,fV 8 x.2:=λx hx=>by
 simp only[eJ,cC,j6,j7]at hx;rcases hx with rfl|rfl|rfl
 ·exact λv hv=>iW (bB.1 (dC ps) v hv)
 ·exact λv hv=>iW (Qo _ _ _ v hv)
 ·exact Ak (p:=(7,.aM [cq 6] 194)) k_
theorem aNi{s:fk K}{b d:V3 K}{z:Nat}(hp:bO m p)(hb:aI q b)(hd:aI q d)(eO:oD z s.lo)(iO:oD z s.hi)(hn:1000*(m+q)+100*z+10000<=aD){x:m_}(ho:dD o.op=some x):
  cI prog Bs o [.func (.func 209) #[] #[],cq 6,dK p] [(6,some (.aM (rV s b d) 196))] (.bool (tD s (dot p.n d) (p.d-dot p.n b))) [(6,.aM (rV (rW s (dot p.n d) (p.d-dot p.n b)) b d) 196)]:=
 L3 (K:=20) (args:=[cq 6,dK p]) (ca:=[]) (Os:=[(6,.aM (rV s b d) 196)]) (Vs:=[]) (aNd hp hb hd eO iO hn) ho k_ k_ k_ (by simp only[jL,dL,eX,iJ];rw[rX (x:=.aM (rV s b d) 196) (Qo _ _ _)];rfl)
  (by simp only[dL,eX,iJ];exact rX (x:=.aM (rV (rW s (dot p.n d) (p.d-dot p.n b)) b d) 196) (Qo _ _ _)) rfl rfl rfl rfl
noncomputable def eS{s:fk K}{i:Nat}{b d:V3 K}{z:Nat}(hi:i<ps.length)(jr:ps[i]?=some p)(hp:bO m p)(hb:aI q b)(hd:aI q d)(eO:oD z s.lo)(iO:oD z s.hi)(hn:1000*(m+q)+100*z+10000<=aD)(ht:tD s (dot p.n d) (p.d-dot p.n b)=t)(more:bM prog Bs 89):bM prog Bs 89:=
 .lt 55 i ps.length true (aH hi)::.dj f184 56 0 ps.length i 40 hi k_::.ld f184 57 54 0 (i*40) (.view (bt ps)) (dK p) rfl (AB jr) k_::
  .step 60 (aw f184 60) _ _ (.bool t) _ (ht▸aNi (x:=.func 209) hp hb hd eO iO hn k_)::more
theorem aNj{s:fk K}{i:Nat}{b d:V3 K}{z:Nat}(hi:i<ps.length)(jr:ps[i]?=some p)(hp:bO m p)(hb:aI q b)(hd:aI q d)(eO:oD z s.lo)(iO:oD z s.hi)(hn:1000*(m+q)+100*z+10000<=aD)(h63:ps.length<9223372036854775807)
  (ht:tD s (dot p.n d) (p.d-dot p.n b)=true):ai prog Bs 89 (aJ (ah f184 0)) (eI ps.length i) (eJ ps s b d) 8 ⟨.normal,eI ps.length (i+1),eJ ps (rW s (dot p.n d) (p.d-dot p.n b)) b d,8⟩:=
 vn mixed 100 (gH:=9) (eS hi jr hp hb hd eO iO hn ht [.sum 62 i 1 (i+1) rfl o_]) k_ rfl k_ aNh k_
theorem aNk{s:fk K}{i:Nat}{b d:V3 K}{z:Nat}(hi:i<ps.length)(jr:ps[i]?=some p)(hp:bO m p)(hb:aI q b)(hd:aI q d)(eO:oD z s.lo)(iO:oD z s.hi)(hn:1000*(m+q)+100*z+10000<=aD)
  (ht:tD s (dot p.n d) (p.d-dot p.n b)=false):ai prog Bs 89 (aJ (ah f184 0)) (eI ps.length i) (eJ ps s b d) 8 ⟨.ret,[(6,.slice none 0 0),(7,.bool false)],eJ ps (rW s (dot p.n d) (p.d-dot p.n b)) b d,9⟩:=
 aE (eS hi jr hp hb hd eO iO hn ht [])
theorem aNl{s:fk K}{b d:V3 K}:ai prog Bs 89 (aJ (ah f184 0)) (eI ps.length ps.length) (eJ ps s b d) 8 ⟨.exit 0,[(12,cq 7),(8,cq 3)],eJ ps s b d,8⟩:=
 aE [.lt 55 ps.length ps.length false s_]
theorem aDf{b d:V3 K}(s s':fk K)(k:Nat):ag (eJ ps s b d) k=none↔ag (eJ ps s' b d) k=none:=Aj (L':=eJ ps s b d) (L:=eJ ps s' b d) rfl k
theorem aNm{b d:V3 K}{z:Nat}(ck:∀ p∈ps,bO m p)(hb:aI q b)(hd:aI q d)(hz:m+(3*(m+q)+14)+1+7*(3*(m+q)+14)+28<=z)(hn:1000*(m+q)+100*z+10000<=aD)(h63:ps.length<9223372036854775807):
  (xb ⟨none,none⟩ b d ps=true->ai prog Bs 89 (.block 0 (ah f184 0)) (eI ps.length 0) (eJ ps ⟨none,none⟩ b d) 8 ⟨.normal,[(12,cq 7),(8,cq 3)],eJ ps (o8 ⟨none,none⟩ b d ps) b d,8⟩)/\
  (xb ⟨none,none⟩ b d ps=false->∃ s,ai prog Bs 89 (.block 0 (ah f184 0)) (eI ps.length 0) (eJ ps ⟨none,none⟩ b d) 8 ⟨.ret,[(6,.slice none 0 0),(7,.bool false)],eJ ps s b d,9⟩):=by
 have Qp:∀ i,oD z (o8 ⟨none,none⟩ b d (ps.take i)).lo/\oD z (o8 ⟨none,none⟩ b d (ps.take i)).hi:=λi=>Qn hb hd hz (ps.take i) _ (λp hp=>ck p (I5 hp)) n_ n_;have tk:∀{i:Nat} {p:HS K},ps[i]?=some p->ps.take (i+1)=ps.take i++[p]:=λh=>by rw[vS,h];rfl
 let L9:Nat->Bool:=λi=>match ps[i]? with|some p=>tD (o8 ⟨none,none⟩ b d (ps.take i)) (dot p.n d) (p.d-dot p.n b)|none=>true
 have Qq:∀{i:Nat} {p:HS K},ps[i]?=some p->L9 i=tD (o8 ⟨none,none⟩ b d (ps.take i)) (dot p.n d) (p.d-dot p.n b):=λh=>by simp only[L9,h]
 have uE:∀ e,e<=ps.length->(∀ i,i<e->L9 i=true)->∀ i,i<e->
   ai prog Bs 89 (aJ (ah f184 0)) (eI ps.length i) (eJ ps (o8 ⟨none,none⟩ b d (ps.take i)) b d) 8 ⟨.normal,eI ps.length (i+1),eJ ps (o8 ⟨none,none⟩ b d (ps.take (i+1))) b d,8⟩:=λe he aC i hi=>by
  have al:i<ps.length:=by omega
  have hp:ps[i]?=some ps[i]:=bo al;have h:=aC i hi;rw[Qq hp]at h;rw[tk hp,aDc];exact aNj al hp (ck _ (dB al)) hb hd (Qp i).1 (Qp i).2 hn h63 h
 refine⟨λbh=>?_,λfX=>?_⟩
 ·have aC:∀ i,i<ps.length->L9 i=true:=λi hi=>by have hp:ps[i]?=some ps[i]:=bo hi;rw[Qq hp];exact(Wa ps _).1 bh i _ hp
  have:=cA (P:=prog) (B:=Bs) (N:=89) ps.length (λi=>eI ps.length i) (λi=>eJ ps (o8 ⟨none,none⟩ b d (ps.take i)) b d) (λi k _=>aDf _ _ k) (uE ps.length (bC _) aC) aNl n_;rw[o5]at this;exact cd (id:=0) this
 ·rcases Gz (λi=>!L9 i) (List.range ps.length)with Dg|⟨e,y,h1,h2,h3⟩
  ·exfalso;have:xb ⟨none,none⟩ b d ps=true:=(Wa ps _).2 λi p hp=>by have al:=(eA.1 hp).1;have:=Dg i (jT.2 al);rw[Qq hp]at this;simpa using this
   rw[this]at fX;cases fX
  ·have al:e<ps.length:=by have:=(eA.1 h1).1;rwa[zD]at this
   have hy:y=e:=by rw[L7 al]at h1;injection h1 with h1;exact h1.symm
   subst hy;have hp:ps[y]?=some ps[y]:=bo al;rw[Qq hp]at h2
   have:=cA (P:=prog) (B:=Bs) (N:=89) y (λi=>eI ps.length i) (λi=>eJ ps (o8 ⟨none,none⟩ b d (ps.take i)) b d) (λi k _=>aDf _ _ k)
    (uE y o_ λi hi=>by have:=h3 i i hi (L7 o_);simpa using this) (aNk al hp (ck _ (dB al)) hb hd (Qp y).1 (Qp y).2 hn (by simpa using h2)) n_
   exact⟨_,cd (id:=0) this⟩
end
theorem aDg{s:fk K}{b d:V3 K}{t:K}{z:Nat}(hb:aI q b)(hd:aI q d)(ht:Sz z t)(hn:10*q+10*z+100<=aD){x:m_}(ho:dD o.op=some x):
  cI prog Bs o [.func (.func 210) #[] #[cq 7,cq 3],bI t] [(6,some (.aM (rV s b d) 196)),(7,some (.aM [cq 6] 194)),(3,some (.aM (cK d).cs 44))] (bZ (b+smul d t)) []:=by
 have l6:mY 20 (6,.aM (rV s b d) 196)=true:=rX (x:=.aM (rV s b d) 196) (Qo _ _ _);have l7:mY 20 (7,.aM [cq 6] 194)=true:=k_;have l3:mY 20 (3,.aM (cK d).cs 44)=true:=k_
 exact aMS (K:=20) (args:=[bI t]) (ca:=[cq 7,cq 3]) (Os:=[(6,.aM (rV s b d) 196),(7,.aM [cq 6] 194),(3,.aM (cK d).cs 44)]) (Vs:=[]) (aNg hb hd ht hn) ho k_ k_ k_
  (by simp only[jL,dL,eX,iJ,l6,l7,l3];rfl) (by simp only[dL,eX,iJ,l6,l7,l3]) rfl rfl
set_option maxRecDepth 8000 in
theorem aNn{q:HS K}(ck:∀ p∈ps,bO m p)(hp:bO m p)(hq:bO m q)(hm:10000000*(m+10)<=aD)(h63:ps.length<9223372036854775807)(mA:eE p q≠0->dot (eE p q) (eE p q)≠0):
  match GB ps p q with
  |some (u,v)=>I4 prog 184 [fZ ps,.p (dK p),.p (dK q)] 44 30 2 (aV [u,v]) b_
  |none=>cE prog 184 [fZ ps,.p (dK p),.p (dK q)] (.tuple #[.slice none 0 0,.bool false]):=by
 have aC:([fZ ps,.p (dK p),.p (dK q)].all aR.ok)=true:=by simp only[dL,eX,fZ,aR.ok,dC,iJ,kF];rfl
 have c1:aF prog 114 [bZ p.n,bZ q.n] (bZ (eE p q)):=vP hp.1 hq.1 o_;have hD:=V9 hp hq;have z1:=Ee hD o_;unfold GB;by_cases h0:eE p q=0
 ·rw[aB h0];rw[aH h0]at z1;exact dV func184 aC 89 (λ_=>[c1.at 20,z1.at 22])
 ·rw[av h0];rw[aP h0]at z1;have kQ:=mA h0;obtain⟨r,hr⟩:∃ r,r=300*m+1000:=⟨_,rfl⟩;obtain⟨z,hz⟩:∃ z,z=30*(m+r)+500:=⟨_,rfl⟩;have hB:aI r (xa p q):=hr▸aDd hp hq h0 kQ;have GC:aI r (eE p q):=hD.mono o_;have c2:=vP hq.1 hD o_;have s2:=wZ (hq.1.af hD) hp.2 o_;have c3:=vP hD hp.1 o_;have s3:=wZ (hD.af hp.1) hq.2 o_;have a1:=Gw ((hq.1.af hD).smul hp.2) ((hD.af hp.1).smul hq.2) o_;have o1:=rO (z:=1) d_;have dd:=uB hD hD o_;have one:Sz 1 (kI 1):=qe d_ d_;have hDD:=hD.dot hD;have dv:=IU kQ one hDD o_;have nJ:=Sz.div kQ one hDD;have s4:=wZ (((hq.1.af hD).smul hp.2).add ((hD.af hp.1).smul hq.2)) nJ o_;have lo:=λBs=>aNm (Bs:=Bs) (ps:=ps) (m:=m) (q:=r) (z:=z) ck hB GC o_ o_ h63;have zs:=Qn (m:=m) (q:=r) (z:=z) hB GC o_ ps ⟨none,none⟩ ck n_ n_;unfold L8;have e1:smul (smul (af q.n (eE p q)) p.d+smul (af (eE p q) p.n) q.d) (kI 1*(dot (eE p q) (eE p q))⁻¹)=xa p q:=rfl;rw[e1]at s4;generalize xa p q=eb at *;generalize eE p q=ed at *;by_cases hs:xb ⟨none,none⟩ eb ed ps=true
  ·rw[aB hs];have Dj:=λBs=>(lo Bs).1 hs;clear lo;obtain⟨zl,zh⟩:=zs;generalize o8 ⟨none,none⟩ eb ed ps=sg at *;obtain⟨l,h⟩:=sg;rcases l with _|l
   ·cases h<;>exact dV func184 aC 89 (λw=>[c1.at 20,z1.at 22,c2.at 26,s2.at 29,c3.at 33,s3.at 36,a1.at 37,o1.at 39,dd.at 42,dv.at 43,s4.at 48,.code 0 _ _ _ _ _ (Dj _),.cD f184 64 6 0 k_])
   ·rcases h with _|h
    ·exact dV func184 aC 89 (λw=>[c1.at 20,z1.at 22,c2.at 26,s2.at 29,c3.at 33,s3.at 36,a1.at 37,o1.at 39,dd.at 42,dv.at 43,s4.at 48,.code 0 _ _ _ _ _ (Dj _),.cD f184 64 6 0 k_,.cD f184 70 6 0 k_])
    ·exact aNe (k:=8) mixed func184 aC 100 (N:=89) k_ (λw=>[c1.at 20,z1.at 22,c2.at 26,s2.at 29,c3.at 33,s3.at 36,a1.at 37,o1.at 39,dd.at 42,dv.at 43,s4.at 48,.code 0 _ _ _ _ _ (Dj _),.cD f184 64 6 0 k_,.cD f184 70 6 0 k_,.cD f184 78 6 0 k_,.step 81 (aw f184 81) _ _ _ _ (aDg (s:=⟨some l,some h⟩) (x:=.tmp 76) hB GC (zl l rfl) o_ k_),.cD f184 84 6 0 k_,.step 87 (aw f184 87) _ _ _ _ (aDg (s:=⟨some l,some h⟩) (x:=.tmp 82) hB GC (zh h rfl) o_ k_),.bs f184 88 8 2 44 30 [0,1] zV.v [bZ (eb+smul ed l),bZ (eb+smul ed h)] (aV [eb+smul ed l,eb+smul ed h]).toArray (.row (aV [eb+smul ed l,eb+smul ed h]) 44 30) rfl (bB.1 k_) (bB.1 (ee _)) k_ k_ d_ d_ k_]) (λ_=>k_) (ee _) k_ k_
  ·rw[av hs];have Dj:=λBs=>(lo Bs).2 (by simpa using hs);exact dV func184 aC 89 (λw=>[c1.at 20,z1.at 22,c2.at 26,s2.at 29,c3.at 33,s3.at 36,a1.at 37,o1.at 39,dd.at 42,dv.at 43,s4.at 48,.code 0 _ _ _ _ _ (Dj _).choose_spec])
def fK(p q:Int):K:=(Fr.mk p 0 0 0 q).val
theorem Qr{p q:Int}(hq:q≠0):bI (fK p q)=iE (Fr.mk p 0 0 0 q).low:=by show(th (bT (Fr.mk p 0 0 0 q).val)).v=(th _).v;rw[F4 (x:=Fr.mk p 0 0 0 q) hq]
theorem GD{p q:Int}{n:Nat}(hq:q≠0)(h1:p.natAbs<2^n)(h2:q.natAbs<2^n):Sz n (fK p q):=by unfold Sz fK;rw[F4 (x:=Fr.mk p 0 0 0 q) hq];have hp:0<2^n:=cP d_;exact dU.low ⟨h1,hp,hp,hp,h2⟩ hq
def CH(l:List (V3 K)):V3 K:=l.foldl (·+·) ⟨kI 0,kI 0,kI 0⟩
def CI(l:List (V3 K)):V3 K:=smul (CH l) (fK 1 l.length)
theorem aNo(l:List (V3 K))(v:V3 K):CH (l++[v])=CH l+v:=by unfold CH;rw[aDh];rfl
theorem aDi(l:List (V3 K))(hl:∀ v∈l,aI m v):aI (1+l.length*(m+1)) (CH l):=by
 have key:∀(l:List (V3 K)) (u:V3 K) (n:Nat),(∀ v∈l,aI m v)->aI n u->aI (n+l.length*(m+1)) (l.foldl (·+·) u):=by
  intro l;induction l with
  |nil=>intro u n _ h;exact h.mono o_
  |cons v l ih=>
   intro u n hl h;have:=ih (u+v) (n+m+1) (λx hx=>hl x (bF _ hx)) (h.add (hl v (aT ..)));refine this.mono ?_;rw[pS,sS];omega
 exact key l _ 1 hl LW
def yz(ps:List (HS K))(vs:List (V3 K)):Bool:=!decide (vs.length=0)&&!ps.any λp=>decide (OF.aG (dot p.n (CI vs)-p.d)>=0)
section
variable{Bs:aa}{ps:List (HS K)}{vs:List (V3 K)}
def Ma(n i:Nat):aX:=[(17,vI i),(15,sl 1 n),(16,vI n),(5,cq 2)]
def uH(vs:List (V3 K))(s:V3 K):aL:=[(1,.view (aV vs)),(2,.aM (cK s).cs 44)]
theorem aNp{s:V3 K}:∀ x∈uH vs s,fV 3 x.2:=λx hx=>by
 simp only[uH,cC,j6,j7]at hx;rcases hx with rfl|rfl
 ·exact λv hv=>iW (bB.1 (ee vs) v hv)
 ·exact λv hv=>iW (RV.oB _ v hv)
theorem aNq{i:Nat}{v s:V3 K}{n:Nat}(hi:i<vs.length)(hv:vs[i]?=some v)(hs:aI n s)(hm:aI m v)(cN:m+n<aD)(h63:vs.length<9223372036854775807):
  ai prog Bs 38 (aJ (ah f148 0)) (Ma vs.length i) (uH vs s) 3 ⟨.normal,Ma vs.length (i+1),uH vs (s+v),3⟩:=
 vn mixed 100 (gH:=4) [.lt 18 i vs.length true (aH hi),.dj f148 19 1 vs.length i 30 hi k_,.ld f148 20 44 1 (i*30) (.view (aV vs)) (bZ v) rfl (mE hv) k_,(Gw hs hm o_).at 23,.sum 24 i 1 (i+1) rfl o_] k_ rfl k_ aNp k_
theorem aNr{s:V3 K}:ai prog Bs 38 (aJ (ah f148 0)) (Ma vs.length vs.length) (uH vs s) 3 ⟨.exit 0,[(5,cq 2)],uH vs s,3⟩:=
 aE [.lt 18 vs.length vs.length false s_]
theorem aNs(s s':V3 K)(k:Nat):ag (uH vs s) k=none↔ag (uH vs s') k=none:=Aj (L':=uH vs s) (L:=uH vs s') rfl k
theorem aNt(aZ:∀ v∈vs,aI m v)(hm:m+(1+vs.length*(m+1))<aD)(h63:vs.length<9223372036854775807):
  ai prog Bs 38 (.block 0 (ah f148 0)) (Ma vs.length 0) (uH vs ⟨kI 0,kI 0,kI 0⟩) 3 ⟨.normal,[(5,cq 2)],uH vs (CH vs),3⟩:=by
 have:=cA (P:=prog) (B:=Bs) (N:=38) vs.length (λi=>Ma vs.length i) (λi=>uH vs (CH (vs.take i))) (λi k _=>aNs _ _ k) (λi hi=>by have hv:vs[i]?=some vs[i]:=bo hi;have hs:=aDi (m:=m) (vs.take i) λv hv=>aZ v (I5 hv);have hle:(vs.take i).length*(m+1)<=vs.length*(m+1):=eV _ (by rw[jH];omega);rw[vS,hv];show ai _ _ _ _ _ _ _ ⟨_,_,uH vs (CH (vs.take i++[vs[i]])),_⟩;rw[aNo];exact aNq hi hv hs (aZ _ (dB hi)) o_ h63) (by rw[o5];exact aNr) n_
 exact cd (id:=0) this
theorem aNu(ck:∀ p∈ps,bO m p/\p.n≠0)(aZ:∀ v∈vs,aI q v)(hm:100*(m+vs.length*(q+1))+10000<=aD)(h63:vs.length<2^40)(aNv:ps.length<9223372036854775807):cE prog 148 [fZ ps,vR vs] (.bool (yz ps vs)):=by
 have aC:([fZ ps,vR vs].all aR.ok)=true:=by simp only[dL,eX,fZ,vR,aR.ok,dC,ee,iJ]
 unfold yz;by_cases h0:vs.length=0
 ·rw[aH h0];exact dV func148 aC 38 (λw=>[.fN 13 vs.length 0 true (by simp[h0])])
 ·rw[aP h0];have vB:q+1<=vs.length*(q+1):=Wb _ o_;have lo:=λBs=>aNt (Bs:=Bs) aZ o_ o_;have aQ:(vs.length:Int)≠0:=by omega
  have rt:=aBT (p:=1) (q:=(vs.length:Int)) (n:=40) aQ d_ (by simpa using h63) d_;rw[<-Qr aQ]at rt;have hr:=GD (p:=1) (q:=(vs.length:Int)) (n:=40) aQ d_ (by simpa using h63);have hs:=aDi vs aZ;have sc:=wZ hs hr o_;have Ei:aI (1+vs.length*(q+1)+40+4) (CI vs):=hs.smul hr;have hc:=V4 (g:=188) (caps:=(cK (CI vs)).cs) (ps:=ps) (b:=λp=>decide (OF.aG (dot p.n (CI vs)-p.d)>=0)) k_ (bB.2 (RV.oB _)) aNv λp hp=>aM0 (ck p hp).1 Ei o_ (ck p hp).2;have e:smul (CH vs) (fK 1 (vs.length:Int))=CI vs:=rfl;rw[e]at sc;generalize (ps.any λp=>decide (OF.aG (dot p.n (CI vs)-p.d)>=0))=t at *;generalize CI vs=mv at *;exact dV func148 aC 38 (λw=>[.fN 13 vs.length 0 false (by simp[h0]),(yw (a:=0) (b:=0) (c:=0) d_ d_ d_).at 14,.code 0 _ _ _ _ _ (lo _),rt.at 28,sc.at 33,.step 36 (aw f148 36) [.func (.func 143) #[] #[],sl 0 ps.length,.func (.func 188) #[] #[cq 4]] [(0,some (.view (bt ps))),(4,some (.aM (cK mv).cs 44))] (.bool t) []
   (dR hc (.w (x:=.view (bt ps)) rfl (dC ps) jD (.f (x:=.aM (cK mv).cs 44) rfl (bB.2 (RV.oB _)) .nil)) (x:=.func 143) k_ k_ rfl)])
end
def rY(ps:List (HS K))(p q:HS K):List (V3 K):=match GB ps p q with|some (u,v)=>[u,v]|none=>[]
def lY(ps:List (HS K))(p:HS K)(l:List (HS K)):List (V3 K):=l.flatMap (rY ps p)
theorem aNw{q:HS K}(l:List (HS K)):lY ps p (l++[q])=lY ps p l++rY ps p q:=by unfold lY;rw[VX];simp
theorem aNx(ps:List (HS K))(p q:HS K):(rY ps p q).length<=2:=by
 unfold rY;split
 ·exact bC _
 ·exact lM _
theorem Wc(ps:List (HS K))(p:HS K):∀ l:List (HS K),(lY ps p l).length<=2*l.length
 |[]=>lM _
 |q::l=>by have h1:=Wc ps p l;have h2:=aNx ps p q;show(rY ps p q++lY ps p l).length<=_;rw[lh,pS];omega
theorem rZ(l:List (V3 K)):(aV l).length=l.length*30:=by unfold aV;rw[uC gL,eH]
theorem Qs(l m:List (V3 K)):aV l++aV m=aV (l++m):=by unfold aV cV;rw[vf,L5]
theorem Mb(l:List (V3 K)):∀ v∈aV l,v.oneCell'=true:=λv hv=>by unfold aV cV dy at hv;rw[w6]at hv;obtain⟨x,_,hx⟩:=hv;exact gL.one x v hx
section
variable{Bs:aa}{ps:List (HS K)}
def Mc(n i j L:Nat):aX:=[(21,vI j),(19,sl 0 i),(20,vI i),(0,sl 0 n),(5,cq 2),(3,sl 3 L)]
def AE(ps:List (HS K))(p:HS K):aL:=[(0,.view (bt ps)),(2,.aM (c9 p).cs 54)]
def nQ(acc:List (V3 K)):List Obj:=[.row (aV acc) 44 30]
theorem aNy{i:Nat}{q:HS K}(hj:j<i)(lX:i<=ps.length)(hq:ps[j]?=some q)(ck:∀ p∈ps,bO m p)(hp:bO m p)(hm:10000000*(m+10)<=aD)(h63:ps.length<1000)(Wd:acc.length<=1000000)(mA:eE p q≠0->dot (eE p q) (eE p q)≠0):
  ∃ σ gH,(∀ CJ:List (V3 K),DI (AE ps p++dY [some 1] (nQ CJ)) 3 σ (Mc ps.length i (j+1) (acc++rY ps p q).length) (AE ps p) (nQ (acc++rY ps p q))=true)/\
   ai prog Bs 42 (aJ (ah f147 2)) (Mc ps.length i j acc.length) (AE ps p++marks 3 (nQ acc)) 4 ⟨.normal,gZ 3 σ (Mc ps.length i (j+1) (acc++rY ps p q).length),AE ps p++dY σ (nQ (acc++rY ps p q)),gH⟩:=by
 have he:=aNn ck hp (ck q (cL hq)) hm o_ mA;unfold rY;cases hk:GB ps p q with
 |none=>
  rw[hk]at he;dsimp only at he ⊢;rw[jL];refine⟨[some 3],5,λCJ=>k_,?_⟩;exact aE [.lt 22 j i true (aH hj),.dj f147 23 0 i j 40 hj k_,.ld f147 24 54 0 (j*40) (.view (bt ps)) (dK q) rfl (AB hq) k_,.step 29 (aw f147 29) [.func (.func 184) #[] #[],sl 0 ps.length,dK p,dK q] [(0,some (.view (bt ps)))] (.tuple #[.slice none 0 0,.bool false]) []
    (dR he (.w (x:=.view (bt ps)) rfl (dC ps) jD (.p k_ (.p k_ .nil))) (x:=.func 184) k_ k_ k_),.sum 36 j 1 (j+1) rfl o_]
 |some uv=>
  obtain⟨u,v⟩:=uv;rw[hk]at he;dsimp only at he ⊢;have hl:(acc++[u,v]).length=acc.length+2:=by simp
  rw[hl];refine⟨[some 6],7,λCJ=>k_,?_⟩;exact aE [.lt 22 j i true (aH hj),.dj f147 23 0 i j 40 hj k_,.ld f147 24 54 0 (j*40) (.view (bt ps)) (dK q) rfl (AB hq) k_,.step 29 (aw f147 29) [.func (.func 184) #[] #[],sl 0 ps.length,dK p,dK q] [(5,none),(0,some (.view (bt ps)))] (.tuple #[sl 5 2,.bool true]) [(5,.row (aV [u,v]) 44 30)]
    (V8 he (.w (x:=.view (bt ps)) rfl (dC ps) jD (.p k_ (.p k_ .nil))) (x:=.func 184) k_ k_ (ee _) k_ 5),
   .qH f147 35 6 3 acc.length 2 (acc.length+2) 44 30 360 (aV acc) 5 (.row (aV [u,v]) 44 30) (aV (acc++[u,v])) rfl rfl (rZ _) (rZ _) (Qs _ _) (Mb _) d_ (by simp[maxLen];omega) o_ k_,
   .sum 36 j 1 (j+1) rfl o_]
theorem aNz:∀ x∈AE ps p,fV 3 x.2:=λx hx=>by
 simp only[AE,cC,j6,j7]at hx;rcases hx with rfl|rfl
 ·exact λv hv=>iW (bB.1 (dC ps) v hv)
 ·exact λv hv=>iW (jP.flat _ v hv)
theorem We:∀ x∈nQ acc,fV m x:=λx hx=>by simp only[nQ,cC,j6,j7]at hx;subst hx;exact λv hv=>iW (bB.1 (ee acc) v hv)
theorem aNA{i:Nat}(lX:i<=ps.length)(ck:∀ p∈ps,bO m p)(hp:bO m p)(hm:10000000*(m+10)<=aD)(h63:ps.length<=500)(Wd:acc.length+2*i<=1000000)
  (mA:∀ p q:HS K,eE p q≠0->dot (eE p q) (eE p q)≠0) :
  ai prog Bs 42 (.block 2 (ah f147 2)) (gZ 3 [some 1] (Mc ps.length i 0 acc.length)) (AE ps p++dY [some 1] (nQ acc)) 3
   ⟨.normal,[(3,sl 3 (acc++lY ps p (ps.take i)).length)],AE ps p++marks 3 (nQ (acc++lY ps p (ps.take i))),4⟩:=by
 have hlen:∀ j,j<=i->(acc++lY ps p (ps.take j)).length<=1000000:=λj hj=>by have:=Wc ps p (ps.take j);rw[jH]at this;rw[lh];omega
 have:=rJ (P:=prog) (B:=Bs) (N:=42) (b:=aJ (ah f147 2)) (next:=3) (p:=1) (r:=⟨.exit 2,[(3,sl 3 (acc++lY ps p (ps.take i)).length)],AE ps p++marks 3 (nQ (acc++lY ps p (ps.take i))),4⟩) i
  (λj=>Mc ps.length i j (acc++lY ps p (ps.take j)).length) (λ_=>AE ps p) (λj=>nQ (acc++lY ps p (ps.take j))) [some 1] (λ_ _=>rfl) (λj _=>⟨aNz,We⟩) k_ k_
  (λj hj=>by
   have hq:ps[j]?=some ps[j]:=bo o_;have e:acc++lY ps p (ps.take (j+1))=(acc++lY ps p (ps.take j))++rY ps p ps[j]:=by
    rw[vS,hq,Fo]
    congr 1
    exact aNw _
   obtain⟨σ,gH,h1,h2⟩:=aNy (Bs:=Bs) (acc:=acc++lY ps p (ps.take j)) hj lX hq ck hp hm o_ (hlen j o_) (mA p ps[j]);rw[e];exact⟨σ,gH,h1 _,h2⟩)
  (by generalize acc++lY ps p (ps.take i)=a;exact aE [.lt 22 i i false s_]) n_
 have e0:acc++lY ps p (ps.take 0)=acc:=by simp[lY]
 rw[e0]at this;exact cd (id:=2) this
def Md(ps:List (HS K))(i:Nat):List (V3 K):=match ps[i]? with|some p=>lY ps p (ps.take i)|none=>[]
def nR(ps:List (HS K))(n:Nat):List (V3 K):=(List.range n).flatMap (Md ps)
theorem Qt{i:Nat}(h:ps[i]?=some p):Md ps i=lY ps p (ps.take i):=by unfold Md;rw[h]
theorem aDj(n:Nat):nR ps (n+1)=nR ps n++Md ps n:=by unfold nR;rw[Li,VX];simp
theorem Qu:∀ n,n<=ps.length->(nR ps n).length<=n*(2*ps.length)
 |0,_=>by simp[nR]
 |n+1,h=>by have h1:=Qu n o_;have hp:ps[n]?=some ps[n]:=bo o_;have h2:=Wc ps ps[n] (ps.take n);rw[jH]at h2;rw[aDj,Qt hp,lh,sS];omega
def Qv(n i L:Nat):aX:=[(12,vI i),(10,sl 0 n),(11,vI n),(0,sl 0 n),(3,sl 1 L)]
def Ej(ps:List (HS K)):aL:=[(0,.view (bt ps))]
theorem aNB:∀ x∈Ej ps,fV m x.2:=λx hx=>by simp only[Ej,cC,j6,j7]at hx;subst hx;exact λv hv=>iW (bB.1 (dC ps) v hv)
theorem aNC{i:Nat}(hi:i<ps.length)(jr:ps[i]?=some p)(ck:∀ p∈ps,bO m p)(hm:10000000*(m+10)<=aD)(h63:ps.length<=500)(Wd:acc.length+2*i<=1000000)
  (mA:∀ p q:HS K,eE p q≠0->dot (eE p q) (eE p q)≠0) :
  ai prog Bs 42 (aJ (ah f147 0)) (Qv ps.length i acc.length) (Ej ps++marks 1 (nQ acc)) 2
   ⟨.normal,gZ 1 [some 3] (Qv ps.length (i+1) (acc++lY ps p (ps.take i)).length),Ej ps++dY [some 3] (nQ (acc++lY ps p (ps.take i))),4⟩:=by
 have lo:=aNA (Bs:=Bs) (acc:=acc) (p:=p) (show i<=ps.length by omega) ck (ck p (cL jr)) hm h63 Wd mA;generalize acc++lY ps p (ps.take i)=a at *;exact aE [.lt 13 i ps.length true (aH hi),.dj f147 15 0 ps.length i 40 hi k_,.ld f147 16 54 0 (i*40) (.view (bt ps)) (dK p) rfl (AB jr) k_,.upto f147 19 0 ps.length i 40 o_ k_,.code 2 _ _ _ _ _ lo,.sum 37 i 1 (i+1) rfl o_]
theorem aND(ck:∀ p∈ps,bO m p)(hm:10000000*(m+10)<=aD)(h63:ps.length<=500)(mA:∀ p q:HS K,eE p q≠0->dot (eE p q) (eE p q)≠0):
  ai prog Bs 42 (.block 0 (ah f147 0)) (gZ 1 [none] (Qv ps.length 0 0)) (Ej ps++dY [none] (nQ [])) 1 ⟨.normal,[(3,sl 1 (nR ps ps.length).length)],Ej ps++marks 1 (nQ (nR ps ps.length)),2⟩:=by
 have:=rJ (P:=prog) (B:=Bs) (N:=42) (b:=aJ (ah f147 0)) (next:=1) (p:=1) (r:=⟨.exit 0,[(3,sl 1 (nR ps ps.length).length)],Ej ps++marks 1 (nQ (nR ps ps.length)),2⟩) ps.length
  (λi=>Qv ps.length i (nR ps i).length) (λ_=>Ej ps) (λi=>nQ (nR ps i)) [none] (λ_ _=>rfl) (λj _=>⟨aNB,We⟩) k_ k_
  (λi hi=>by have hp:ps[i]?=some ps[i]:=bo hi;have hl:=Qu i (by omega:i<=ps.length);have ju:i*(2*ps.length)<=500*1000:=qG o_ o_;refine⟨[some 3],4,k_,?_⟩;rw[aDj,Qt hp];exact aNC hi hp ck hm h63 o_ mA)
  (by generalize nR ps ps.length=a;exact aE [.lt 13 ps.length ps.length false s_]) n_
 exact cd (id:=0) this
end
end
section
open Go Go.RowKit
deriving instance DecidableEq for RI
deriving instance DecidableEq for RN
deriving instance DecidableEq for RV
deriving instance DecidableEq for RP
theorem Ek{α:Type}[DecidableEq α]:∀(a b:List α),a.length=b.length->a=b\/∃(e:Nat) (x y:α),a[e]?=some x/\b[e]?=some y/\x≠y/\∀(j:Nat) (u v:α),j<e->a[j]?=some u->b[j]?=some v->u=v
 |[],[],_=>.inl rfl
 |[],_::_,h=>by cases h
 |_::_,[],h=>by cases h
 |x::a,y::b,h=>by
  by_cases kU:x=y
  ·subst kU;rcases Ek a b (by simpa using h)with h|⟨e,u,v,h1,h2,h3,h4⟩
   ·exact .inl (by rw[h])
   ·refine .inr ⟨e+1,u,v,by simpa using h1,by simpa using h2,h3,λj p q hj hp hq=>?_⟩;cases j with
    |zero=>simp at hp hq;rw[<-hp,<-hq]
    |succ j=>exact h4 j p q o_ (by simpa using hp) (by simpa using hq)
  ·exact .inr ⟨0,x,y,rfl,rfl,kU,λj u v hj=>by omega⟩
section
variable{Bs:aa}{a b:List RV}
def El(n i:Nat):aX:=[(13,vI i),(11,sl 0 n),(12,vI n),(0,sl 0 n),(1,sl 1 n)]
def xc(a b:List RV):aL:=[(0,.view (cV a)),(1,.view (cV b))]
noncomputable def aDk{n i:Nat}{x y:RV}(hi:i<n)(hx:a[i]?=some x)(hy:b[i]?=some y)(oE:x.Sm)(yA:y.Sm)(ht:(!t)=true↔x=y)(more:bM prog Bs 26):bM prog Bs 26:=
 .lt 14 i n true (aH hi)::.dj f92 18 0 n i 30 hi k_::.ld f92 19 44 0 (i*30) (.view (cV a)) x.v rfl (tB hx) k_::.dj f92 22 1 n i 30 hi k_::.ld f92 23 44 1 (i*30) (.view (cV b)) y.v rfl (tB hy) k_::
  .step 24 (aw f92 24) [x.v,y.v] [] (.bool t) [] (F8 (neg:=false) k_ x y oE yA ht)::more
theorem aDl{n i:Nat}{x:RV}(hi:i<n)(hx:a[i]?=some x)(hy:b[i]?=some x)(oE:x.Sm)(h63:n<9223372036854775807):
  ai prog Bs 26 (aJ (ah f92 0)) (El n i) (xc a b) 2 ⟨.normal,El n (i+1),xc a b,2⟩:=
 aE (aDk (t:=false) hi hx hy oE oE s_ [.sum 25 i 1 (i+1) rfl o_])
theorem aNE{n i:Nat}{x y:RV}(hi:i<n)(hx:a[i]?=some x)(hy:b[i]?=some y)(oE:x.Sm)(yA:y.Sm)(aQ:x≠y):
  ai prog Bs 26 (aJ (ah f92 0)) (El n i) (xc a b) 2 ⟨.ret,[(4,.bool false)],xc a b,2⟩:=
 aE (aDk (t:=true) hi hx hy oE yA (by simp[aQ]) [])
theorem aNF{n:Nat}:ai prog Bs 26 (aJ (ah f92 0)) (El n n) (xc a b) 2 ⟨.exit 0,[],xc a b,2⟩:=
 aE [.lt 14 n n false s_]
theorem aNG(ha:∀ x∈a,x.Sm)(hb:∀ x∈b,x.Sm)(h63:a.length<9223372036854775807):cE prog 92 [.r a.length (cV a),.r b.length (cV b)] (.bool (decide (a=b))):=by
 have aC:([aR.r a.length (cV a),.r b.length (cV b)].all aR.ok)=true:=by simp only[dL,eX,aR.ok,iT gL,iJ]
 by_cases hl:a.length=b.length
 ·have aQ:(Value.bool (!((a.length:Int)==(b.length:Int))))=.bool false:=by rw[hl];simp
  rcases Ek a b hl with h|⟨e,x,y,h1,h2,h3,h4⟩
  ·rw[aH h];subst h;have lo:∀ B:aa,ai prog B 26 (.block 0 (ah f92 0)) (El a.length 0) (xc a a) 2 ⟨.normal,[],xc a a,2⟩:=λB=>
    cd (id:=0) (cA a.length (λi=>El a.length i) (λ_=>xc a a) (λi k _=>Iff.rfl) (λi hi=>by have hx:a[i]?=some a[i]:=bo hi;exact aDl hi hx hx (ha _ (dB hi)) h63) aNF n_)
   exact dV func92 aC 26 (λw=>[.rw 10 _ _ aQ,.code 0 _ _ _ _ _ (lo _)])
  ·have ch:a≠b:=λh=>by subst h;rw[h1]at h2;injection h2 with h2;exact h3 h2
   rw[aP ch];have al:=(eA.1 h1).1;have lo:∀ B:aa,ai prog B 26 (.block 0 (ah f92 0)) (El a.length 0) (xc a b) 2 ⟨.ret,[(4,.bool false)],xc a b,2⟩:=λB=>
    cd (id:=0) (cA e (λi=>El a.length i) (λ_=>xc a b) (λi k _=>Iff.rfl) (λi hi=>by have hx:a[i]?=some a[i]:=bo o_;have hy:b[i]?=some b[i]:=bo o_;have:=h4 i _ _ hi hx hy;rw[<-this]at hy;exact aDl o_ hx hy (ha _ (dB _)) h63) (aNE al h1 h2 (ha _ (cL h1)) (hb _ (cL h2)) h3) n_)
   have Cu:([aR.r a.length (cV a),.r a.length (cV b)].all aR.ok)=true:=by simp only[dL,eX,aR.ok,iT gL,iJ]
   rw[<-hl]at aQ ⊢;exact dV func92 Cu 26 (λw=>[.rw 10 _ _ aQ,.code 0 _ _ _ _ _ (lo _)])
 ·have ch:a≠b:=λh=>hl (by rw[h]);rw[aP ch];exact dV func92 aC 26 (λw=>[.rw 10 (.bool (!((a.length:Int)==(b.length:Int)))) b_ (by congr 1;simp;omega)])
end
end
section
variable{P:j_}{B:aa}{N:Nat}
theorem aDm{ι:Map}{off:Nat}:∀{l l':ak},bW (aK ι) l l'->∀(k:Nat) {cs bL:p_},bW (aK ι) cs.toList bL.toList->
  bW (aK ι) ((l.zipIdx k).foldl (λ(cs:p_) p=>cs.setIfInBounds (off+p.2) p.1) cs).toList ((l'.zipIdx k).foldl (λ(cs:p_) p=>cs.setIfInBounds (off+p.2) p.1) bL).toList
 |_,_,.nil,k,cs,bL,h=>h
 |_,_,.cons (a:=a) (b:=b) ch ht,k,cs,bL,h=>by simp only[List.zipIdx_cons,wE];refine aDm ht (k+1) ?_;simp only[aIh];exact h.set ch _
theorem Qw{ι:Map}{place:Nat->Option (Nat×Nat)}:∀(idx:l_) {vs cT:ak} {cs bL r:p_},bW (aK ι) vs cT->bW (aK ι) cs.toList bL.toList->Instr.fill place cs (idx.zip vs)=some r->
  ∃ r',Instr.fill place bL (idx.zip cT)=some r'/\bW (aK ι) r.toList r'.toList
 |[],vs,cT,cs,bL,r,_,hc,h=>by simp only[List.zip_nil_left,Instr.fill]at h ⊢;injection h with h;subst h;exact⟨bL,rfl,hc⟩
 |i::idx,_,_,cs,bL,r,.nil,hc,h=>by simp only[List.zip_nil_right,Instr.fill]at h ⊢;injection h with h;subst h;exact⟨bL,rfl,hc⟩
 |i::idx,_,_,cs,bL,r,.cons (a:=v) (b:=v') hv ht,hc,h=>by
  simp only[List.zip_cons_cons,Instr.fill]at h ⊢;split at h
  ·cases h
  ·rename_i off size hp;have jw:=hv.cells;have bH:v'.cells.size=v.cells.size:=by have:=jw.length;simpa using this.symm
   have gh:bL.size=cs.size:=by have:=hc.length;simpa using this.symm
   split at h
   ·cases h
   ·rename_i qA;rw[bH,gh,av qA];refine Qw idx ht ?_ h;have:=aDm (off:=off) jw 0 hc;rw[<-aB7,<-aB7,Array.toList_zipIdx,Array.toList_zipIdx];exact this
def aDn(o:Oper):Option (TypeId×List Nat):=match o.op with
 |.build t parts=>some (t,parts.toList.map (·.1))
 |_=>none
theorem Qx{t:TypeId}{idx:l_}(ho:aDn o=some (t,idx)){cells:p_}(hz:∀ it z,P.info? t=some it->it.zero=some z->∀ v∈z.cells.toList,flat v=true)(h:P.built t (idx.zip vs)=some cells):
  cI P B o vs [] (.agg cells) []:=by
 unfold aDn at ho;split at ho
 ·rename_i t' parts cg;injection ho with ho;injection ho with h1 h2;subst h1;subst h2;refine iN.step λι c ρ w aZ hm hn=>?_;rw[cg]at aZ;have aZ:bW (aK ι) vs ((parts.toList.map (·.2)).map ρ):=by simpa[Op.operands]using aZ
  have hex:∃ cells',P.built t' ((parts.toList.map (·.1)).zip ((parts.toList.map (·.2)).map ρ))=some cells'/\bW (aK ι) cells.toList cells'.toList:=by
   unfold Program.built at h ⊢;split at h
   ·rename_i it n e hi hu;split at h
    ·rename_i z ie Wf hz2;exact Qw _ aZ (kO (hz it z hi Wf)) h
    ·cases h
   ·rename_i it fields hi hu;split at h
    ·rename_i z places Wf hz2;exact Qw _ aZ (kO (hz it z hi Wf)) h
    ·cases h
   ·cases h
  obtain⟨cells',e1,e2⟩:=hex;refine⟨ι,.agg cells',w,Map.le.refl _,?_,hm,.inl ?_⟩
  ·have:=aK.agg (ι:=ι) e2;simpa using this
  ·have ck:(parts.map λ(i,x)=>(i,ρ x)).toList=(parts.toList.map (·.1)).zip ((parts.toList.map (·.2)).map ρ):=by rw[<-Oy parts.toList rfl];simp
   have:=run_build (P:=P) w t' (parts.map λ(i,x)=>(i,ρ x)) cells' (by rw[ck];exact e1);simp only[execOp,cg];simp[this]
 ·cases ho
end
def iU:Value->Option Nat
 |.slice (some a) _ _=>some a.block
 |_=>none
def yB(w w':h_)(b:Nat):Prop:=∀ cs ty f,w.heap[b]?=some (Go.Obj.cells cs ty f)->w'.heap[b]?=some (Go.Obj.cells cs ty f)
theorem Wg{w w':h_}{b o:Nat}{u:i_}(h:yB w w' b)(hc:w.cell? ⟨b,o,none⟩=some u):w'.cell? ⟨b,o,none⟩=some u:=by
 unfold World.cell? at hc ⊢;dsimp only at hc ⊢;split at hc
 ·rename_i cs ty f he;rw[h _ _ _ he];exact hc
 ·cases hc
theorem cW.kept{w w':h_}{v:i_}{n:Nat}(h:cW w v n xs)(hs:w.heap.size<=w'.heap.size)(hk:∀ b,iU v=some b->yB w w' b):cW w' v n xs:=by
 rcases h with h|⟨b,o,c,h1,h2,h3,h4⟩
 ·exact .inl h
 ·exact .inr ⟨b,o,c,h1,h2,cG h3 hs,λj u hj=>Wg (hk b (by rw[h1];rfl)) (h4 j u hj)⟩
theorem cW.lt{w:h_}{v:i_}{n:Nat}(h:cW w v n xs){b:Nat}(hb:iU v=some b):b<w.heap.size:=by
 rcases h with ⟨h,_⟩|⟨b',o,c,h1,h2,h3,h4⟩
 ·rw[h]at hb;cases hb
 ·rw[h1]at hb;injection hb with hb;subst hb;exact h3
def au(l:l_):ak:=l.map vI
def iV(z:Int):Value:=.int .i64 z
def eK(l:List Int):ak:=l.map iV
inductive k7(w:h_):f_->ak->Prop
 |nil:k7 w [] []
 |cons {i:Int} {l:List Int} {u:i_} {fs:f_} {cs:ak}:cW w u l.length (eK l)->flat u=true->k7 w fs cs->k7 w ((i,l)::fs) (iV i::u::cs)
theorem k7.length{w:h_}{fs:f_}{cs:ak}(h:k7 w fs cs):cs.length=fs.length*2:=by
 induction h with
 |nil=>rfl
 |cons _ _ _ ih=>simp only[pS,ih];omega
variable{i:Nat}{u:i_}{l:List aR}{fs:f_}
theorem k7.flat{w:h_}{cs:ak}(h:k7 w fs cs):∀ v∈cs,Go.Proofs.YtmocejjfkdcgkaaGreatDoor.flat v=true:=by
 induction h with
 |nil=>intro v hv;cases hv
 |cons _ hu _ ih=>
  intro v hv;rcases cC.1 hv with rfl|hv
  ·rfl
  ·rcases cC.1 hv with rfl|hv
   ·exact hu
   ·exact ih v hv
theorem k7.kept{w w':h_}{cs:ak}(h:k7 w fs cs)(hs:w.heap.size<=w'.heap.size)(hk:∀ u∈cs,∀ b,iU u=some b->yB w w' b):k7 w' fs cs:=by
 induction h with
 |nil=>exact .nil
 |cons h1 h2 _ ih=>exact .cons (h1.kept hs (hk _ (bF _ (aT ..)))) h2 (ih λu hu=>hk u (bF _ (bF _ hu)))
theorem k7.lt{w:h_}{cs:ak}(h:k7 w fs cs):∀ u∈cs,∀ b,iU u=some b->b<w.heap.size:=by
 induction h with
 |nil=>intro u hu;cases hu
 |cons h1 _ _ ih=>
  intro u hu b hb;rcases cC.1 hu with rfl|hu
  ·cases hb
  ·rcases cC.1 hu with rfl|hu
   ·exact h1.lt hb
   ·exact ih u hu b hb
def Me(w:h_)(v:i_)(fs:f_):Prop:=∃ cs,cW w v fs.length cs/\k7 w fs cs
def Qy(n:Nat)(v:i_)(w:h_)(k:Nat):Prop:=
 iU v=some k\/∃ b o c j u,v=.slice (some ⟨b,o,none⟩) n c/\j<n*2/\w.cell? ⟨b,o+j,none⟩=some u/\iU u=some k
theorem Qz{w:h_}{v:i_}{cs:ak}(h1:cW w v fs.length cs)(h2:k7 w fs cs){b o c:Nat}(hv:v=.slice (some ⟨b,o,none⟩) fs.length c)(hj:j<fs.length*2)(hu:w.cell? ⟨b,o+j,none⟩=some u):u∈cs:=by
 rcases h1 with ⟨h,_⟩|⟨b',o',c',e,_,_,h4⟩
 ·rw[h]at hv;cases hv
 ·rw[e]at hv;injection hv with hv _ _;injection hv with hv;injection hv with e1 e2 _;subst e1;subst e2;have al:j<cs.length:=by rw[h2.length];exact hj
  have oC:cs[j]?=some cs[j]:=bo al;have:=h4 j _ oC;rw[hu]at this;injection this with this;rw[this];exact dB al
theorem aDo{w w':h_}{v:i_}(h:Me w v fs)(hs:w.heap.size<=w'.heap.size)(hk:∀ k,Qy fs.length v w k->yB w w' k):
  Me w' v fs/\∀ k,Qy fs.length v w' k->Qy fs.length v w k:=by
 obtain⟨cs,h1,h2⟩:=h;have I6:∀ b,iU v=some b->yB w w' b:=λb hb=>hk b (.inl hb);have QA:∀ u∈cs,∀ b,iU u=some b->yB w w' b:=λu hu b hb=>by
  rcases h1 with ⟨_,_,h⟩|⟨b',o',c',e,_,_,h4⟩
  ·rw[h]at hu;cases hu
  ·obtain⟨j,hj,rfl⟩:=k8 hu;refine hk b (.inr ⟨b',o',c',j,_,e,by rw[<-h2.length];exact hj,h4 j _ (bo hj),hb⟩)
 refine⟨⟨cs,h1.kept hs I6,h2.kept hs QA⟩,λk hF=>?_⟩;rcases hF with hF|⟨b,o,c,j,u,e,hj,hc,hb⟩
 ·exact .inl hF
 ·have:=Qz (h1.kept hs I6) (h2.kept hs QA) e hj hc;rcases h1 with ⟨h,_⟩|⟨b',o',c',e',_,_,h4⟩
  ·rw[h]at e;cases e
  ·rw[e']at e;injection e with e1 _ e3;injection e1 with e1;injection e1 with e1 e2 _;subst e1;subst e2;subst e3;have al:j<cs.length:=by rw[h2.length];exact hj
   have h5:=h4 j _ (bo al);have h6:=Wg (I6 b' (by rw[e'];rfl)) h5;rw[hc]at h6;injection h6 with h6;exact .inr ⟨b',o',c',j,u,e',hj,by rw[h6];exact h5,hb⟩
def jE(fs:f_):Fact where
 G v w:=Me w v fs
 cU v w k:=Qy fs.length v w k
 lt v w k h hF:=by
  obtain⟨cs,h1,h2⟩:=h;rcases hF with hF|⟨b,o,c,j,u,e,hj,hc,hb⟩
  ·exact h1.lt hF
  ·exact h2.lt u (Qz h1 h2 e hj hc) k hb
 dep v w w' h hs hk:=aDo h hs λk hF cs ty f hc=>(hk k hF).trans hc
 soft _ v w w' h hs hk:=aDo h hs hk
theorem aDp(l:List Int):(eK l).all flat=true:=by rw[bB];intro v hv;obtain⟨z,_,rfl⟩:=db.1 hv;rfl
theorem GF(cells:ak)(i:Nat):dI prog 3 cells i=cells[i]?:=by kernel_rfl
theorem QB{l:List Int}(h:l[i]?=some z):dI prog 3 (eK l) i=some (iV z):=by rw[GF];show(l.map iV)[i]?=_;rw[vi,h];rfl
section
variable{Bs:aa}{a b:List Int}
def Em(n i:Nat):aX:=[(13,vI i),(11,sl 0 n),(12,vI n),(0,sl 0 n),(1,sl 1 n)]
def xd(a b:List Int):aL:=[(0,.view (eK a)),(1,.view (eK b))]
noncomputable def aDq{n:Nat}{x y:Int}(hi:i<n)(hx:a[i]?=some x)(hy:b[i]?=some y)(ht:(!(x==y))=t)(more:bM prog Bs 26):bM prog Bs 26:=
 .lt 14 i n true (aH hi)::.ix f91 18 0 n i hi k_::.ld f91 19 3 0 i (.view (eK a)) (iV x) rfl (QB hx) k_::.ix f91 22 1 n i hi k_::.ld f91 23 3 1 i (.view (eK b)) (iV y) rfl (QB hy) k_::
  .rw 24 (.bool (!(x==y))) (.bool t) (by rw[ht])::more
theorem aDr{n:Nat}{x:Int}(hi:i<n)(hx:a[i]?=some x)(hy:b[i]?=some x)(h63:n<9223372036854775807):
  ai prog Bs 26 (aJ (ah f91 0)) (Em n i) (xd a b) 2 ⟨.normal,Em n (i+1),xd a b,2⟩:=
 aE (aDq (t:=false) hi hx hy s_ [.sum 25 i 1 (i+1) rfl o_])
theorem aNH{n:Nat}{x y:Int}(hi:i<n)(hx:a[i]?=some x)(hy:b[i]?=some y)(aQ:x≠y):
  ai prog Bs 26 (aJ (ah f91 0)) (Em n i) (xd a b) 2 ⟨.ret,[(4,.bool false)],xd a b,2⟩:=
 aE (aDq (t:=true) hi hx hy (by simp[aQ]) [])
theorem aNI{n:Nat}:ai prog Bs 26 (aJ (ah f91 0)) (Em n n) (xd a b) 2 ⟨.exit 0,[],xd a b,2⟩:=
 aE [.lt 14 n n false s_]
theorem aNJ(h63:a.length<9223372036854775807):cE prog 91 [.r a.length (eK a),.r b.length (eK b)] (.bool (decide (a=b))):=by
 have aC:([aR.r a.length (eK a),.r b.length (eK b)].all aR.ok)=true:=by simp only[dL,eX,aR.ok,aDp,iJ]
 by_cases hl:a.length=b.length
 ·have aQ:(Value.bool (!((a.length:Int)==(b.length:Int))))=.bool false:=by rw[hl];simp
  rcases Ek a b hl with h|⟨e,x,y,h1,h2,h3,h4⟩
  ·rw[aH h];subst h;have lo:∀ B:aa,ai prog B 26 (.block 0 (ah f91 0)) (Em a.length 0) (xd a a) 2 ⟨.normal,[],xd a a,2⟩:=λB=>
    cd (id:=0) (cA a.length (λi=>Em a.length i) (λ_=>xd a a) (λi k _=>Iff.rfl) (λi hi=>by have hx:a[i]?=some a[i]:=bo hi;exact aDr hi hx hx h63) aNI n_)
   exact dV func91 aC 26 (λw=>[.rw 10 _ _ aQ,.code 0 _ _ _ _ _ (lo _)])
  ·have ch:a≠b:=λh=>by subst h;rw[h1]at h2;injection h2 with h2;exact h3 h2
   rw[aP ch];have al:=(eA.1 h1).1;have lo:∀ B:aa,ai prog B 26 (.block 0 (ah f91 0)) (Em a.length 0) (xd a b) 2 ⟨.ret,[(4,.bool false)],xd a b,2⟩:=λB=>
    cd (id:=0) (cA e (λi=>Em a.length i) (λ_=>xd a b) (λi k _=>Iff.rfl) (λi hi=>by have hx:a[i]?=some a[i]:=bo o_;have hy:b[i]?=some b[i]:=bo o_;have:=h4 i _ _ hi hx hy;rw[<-this]at hy;exact aDr o_ hx hy h63) (aNH al h1 h2 h3) n_)
   have Cu:([aR.r a.length (eK a),.r a.length (eK b)].all aR.ok)=true:=by simp only[dL,eX,aR.ok,aDp,iJ]
   rw[<-hl]at aQ ⊢;exact dV func91 Cu 26 (λw=>[.rw 10 _ _ aQ,.code 0 _ _ _ _ _ (lo _)])
 ·have ch:a≠b:=λh=>hl (by rw[h]);rw[aP ch];exact dV func91 aC 26 (λw=>[.rw 10 (.bool (!((a.length:Int)==(b.length:Int)))) b_ (by congr 1;simp;omega)])
end
section
variable{P:j_}{B:aa}{N:Nat}
def aDs(P:j_)(o:Oper):Bool:=match o.op with
 |.binOp .eql t _ _ _=>(match P.underlying t with|some (.slice _)=>true|_=>false)
 |_=>false
theorem aDt(ho:aDs P o=true){n:Nat}(kQ:0<n):cI P B o [.slice (some ⟨k,off,some 7⟩) n cc,.slice none 0 0] [] a_ []:=by
 unfold aDs at ho;split at ho
 ·rename_i t x y ty cg;split at ho
  ·rename_i e ht;refine iN.step λι c ρ w aZ hm hn=>?_;rw[cg]at aZ;obtain⟨u,v,QC,hu,hv⟩:=jv aZ;have QC:ρ x=u/\ρ y=v:=by simpa[Op.operands]using QC
   have rq:=hv.eZ rfl;rcases hu.iF rfl with ⟨_,h0,_⟩|⟨b,oo,cap,c',hb,lg,nA,he⟩
   ·omega
   ·refine⟨ι,.bool false,w,Map.le.refl _,.same rfl,hm,.inl ?_⟩;simp only[execOp,cg,QC.1,QC.2,he,rq];have h2:=Lib.run_eql_slice_nil (P:=P) w t e (some ⟨b,oo+off,none⟩) n c' 0 0 ht;simp only[Option.isNone_some]at h2;simp[eqGuard,h2]
  ·cases ho
 ·cases ho
end
abbrev bz:Nat:=16777216
theorem nk(l:l_):∀ u∈au l,flat u=true:=λu hu=>by obtain⟨x,_,rfl⟩:=db.1 hu;rfl
theorem iK(l:l_):(au l).all flat=true:=bB.2 (nk l)
theorem oF(l:l_):(au l).length=l.length:=by simp[au]
theorem ev{l:l_}{x:Nat}(h:l[i]?=some x):dI prog 3 (au l) i=some (vI x):=by rw[GF];simp[au,h]
theorem QD(cells:ak)(i:Nat)(z:Int)(h:i<cells.length):fo prog 3 cells i (.int .i64 z)=some (cells.set i (.int .i64 z)):=by
 have e:fo prog 3 cells i (.int .i64 z)=if(Nat.ble (i+1) cells.length&&true)then some (je cells i [.int .i64 z])else none:=by kernel_rfl
 rw[e,NM h];rfl
theorem QE(l:l_)(i d:Nat):(au l).set i (vI d)=au (l.set i d):=by simp[au,List.map_set]
theorem xe{l:l_}(h:i<l.length):fo prog 3 (au l) i (vI d)=some (au (l.set i d)):=by rw[<-QE];exact QD _ _ _ (by rw[oF];exact h)
theorem Mf(n:Nat):List.replicate n (vI 0)=au (List.replicate n 0):=by simp[au]
def cJ(a:Nat):ak:=au (ae bz (nd bz a) a)
def jQ(a:Nat):aR:=.r (nd bz a) (cJ a)
theorem Wh(a:Nat):(cJ a).length=nd bz a:=by unfold cJ;rw[oF,pq]
theorem tE(a:Nat):(cJ a).all flat=true:=iK _
theorem aNK(h:nd bz a=0):cJ a=[]:=mf (by rw[Wh,h])
theorem aNL{n:Nat}:a/bz^n%bz<bz:=cM _ d_
theorem aNM{n:Nat}(hm:m+1<=n)(ha:a<bz^m)(h63:n<=9223372036854775807):
  ai prog Bs 21 (aJ (ah f137 0)) [(0,sl 0 (m+1))] [(0,.view (au (ae bz n a)))] 1 ⟨.normal,[(0,sl 0 m)],[(0,.view (au (ae bz n a)))],1⟩:=by
 have hd:a/bz^m%bz=0:=(HN d_ (cG ha (df d_ (zq m)))).2 ha;exact aE [.gt 5 (m+1) 0 true s_,.fp 10 (m+1) 1 m rfl o_,.ix f137 11 0 (m+1) m o_ k_,.ld f137 12 3 0 m (.view (au (ae bz n a))) (vI (a/bz^m%bz)) rfl (ev (eP o_)) k_,.fN 13 (a/bz^m%bz) 0 true (by simp[hd]),.fp 18 (m+1) 1 m rfl o_,.upto f137 19 0 (m+1) m 1 o_ k_]
theorem aNN{n:Nat}(hm:m<=n)(ha:a<bz^m)(hl:m=nd bz a)(h63:n<=9223372036854775807):
  ai prog Bs 21 (aJ (ah f137 0)) [(0,sl 0 m)] [(0,.view (au (ae bz n a)))] 1 ⟨.exit 0,[(0,sl 0 m)],[(0,.view (au (ae bz n a)))],1⟩:=by
 cases m with
 |zero=>exact aE [.gt 5 0 0 false s_]
 |succ m=>
  have hd:a/bz^m%bz≠0:=λe=>by have:=jy (B:=bz) d_ ((HN d_ ha).1 e);omega
  exact aE [.gt 5 (m+1) 0 true s_,.fp 10 (m+1) 1 m rfl o_,.ix f137 11 0 (m+1) m o_ k_,.ld f137 12 3 0 m (.view (au (ae bz n a))) (vI (a/bz^m%bz)) rfl (ev (eP o_)) k_,.fN 13 (a/bz^m%bz) 0 false (by simp[hd])]
theorem aNO{n:Nat}(ha:a<bz^n)(h63:n<=9223372036854775807):
  ai prog Bs 21 (.block 0 (ah f137 0)) [(0,sl 0 n)] [(0,.view (au (ae bz n a)))] 1 ⟨.normal,[(0,sl 0 (nd bz a))],[(0,.view (au (ae bz n a)))],1⟩:=by
 have hle:=jy (B:=bz) d_ ha;have al:=ew (B:=bz) d_ a
 have:=cA (P:=prog) (B:=Bs) (N:=21) (b:=aJ (ah f137 0)) (next:=1) (n-nd bz a) (λi=>[(0,sl 0 (n-i))]) (λ_=>[(0,.view (au (ae bz n a)))])
  (r:=⟨.exit 0,[(0,sl 0 (nd bz a))],[(0,.view (au (ae bz n a)))],1⟩) (λ_ _ _=>Iff.rfl)
  (λi hi=>by
   have e:n-i=(n-(i+1))+1:=by omega
   simp only[e];exact aNM o_ (cG al (df d_ o_)) h63)
  (by
   have e:n-(n-nd bz a)=nd bz a:=by omega
   simp only[e];exact aNN hle al rfl h63) n_
 exact cd this
theorem aDu{w:h_}{v:i_}{n:Nat}(hv:cW w v n (au (ae bz n a)))(ha:a<bz^n)(h63:n<=9223372036854775807):
  Calls prog 137 #[v] w λe w'=>e=.returned (Oj v (nd bz a))/\Below w.heap.size w w':=by
 refine mh (Q:=λe w'=>e=.returned (Oj v (nd bz a))/\Below w.heap.size w w') mixed func137 [.row v n (au (ae bz n a))] (λs hs=>by simp at hs;subst hs;exact⟨hv,nk _⟩) 100 (N:=21) k_
  (rs:=[.code 0 _ _ _ _ _ (aNO ha h63)]) (v:=sl 0 (nd bz a)) (ms:=[]) k_ λaz cr v' w' hc hm _ du=>⟨?_,hm.base⟩
 cases du with
 |cons h1 _=>
 congr 1
 rcases hc.iF rfl with ⟨q1,q2,_,_,q5⟩|⟨b,o,cap,c',q1,q2,q3,q5⟩<;>rcases h1.iF rfl with ⟨p1,p2,_,_,p5⟩|⟨b2,o2,qx,c2,p1,p2,p3,p5⟩
 ·have p5:v=.slice none 0 0:=p5;rw[q5,p5,q2];rfl
 ·rw[q1]at p1;cases p1
 ·rw[q1]at p1;cases p1
 ·rw[q1]at p1;injection p1 with p1;injection p1 with e1 e2 e3;subst e1;subst e2;subst e3;have p5:v=_:=p5;rw[q5,p5,show c'=c2 by omega];rfl
theorem aDv{y:m_}(ho:dD o.op=some y){n:Nat}{x:Obj}(hx:x.reads=true)(cR:(x.cells.all flat)=true)(hc:(x.cells.drop off).take n=au (ae bz n a))(ha:a<bz^n)(h63:n<=9223372036854775807)(zo:n=0->off=0\/True):
  cI prog Bs o [.func (.func 137) #[] #[],.slice (some ⟨k,off,some 7⟩) n 0] [(k,some x)] (.slice (some ⟨k,off,some 7⟩) (nd bz a) 0) []:=by
 refine jV (fi:=[]) (ca:=[]) ho k_ λι c w hm hn args' du=>?_;obtain⟨v,rfl,h1⟩:=ob du;have hk:c k=some x:=hn _ (aT ..);have hr:=po (len:=n) hm hk hx (bB.1 cR) (λh=>h) h1;rw[hc]at hr;refine(aDu hr ha h63).mono ?_
 rintro e w' ⟨rfl,hb⟩
 refine⟨ι,_,rfl,Map.le.refl _,?_,hm.call hb⟩;have fv:=jy (B:=bz) d_ ha;rcases h1.iF rfl with ⟨q1,q2,_,q4,q5⟩|⟨b,oo,cap,c',q1,q2,q3,q5⟩
 ·rw[q5];have:nd bz a=0:=by omega
  dsimp only at q4;rw[this,q4];exact .slcN q1
 ·rw[q5];exact .slc q1 o_ q3
def bd.En(fn:Func)(key k n a:Nat)(x:Obj)(hx:x.reads=true)(hc:x.cells=au (ae bz n a))(ha:a<bz^n)(h63:n<=9223372036854775807)(ho:dD (aw fn key).op=some (.func 137)):bd prog Bs N:=
 .step key (aw fn key) [.func (.func 137) #[] #[],sl k n] [(k,some x)] (sl k (nd bz a)) [] (aDv ho hx (by rw[hc];exact iK _) (by rw[hc,mT,kT (by simp[au,pq])]) ha h63 (λ_=>.inr trivial))
section
open Go.Sort (flatK putRowK HoldsK putRow putCells Holds mapBlock grow ahead PermIn SortedIn SWO swp)
section
variable{α:Type}[Inhabited α]{enc:α->ak}{s:Nat}
omit [Inhabited α] in
theorem aDw(h:rT enc s){l:List α}{x:α}(hx:l[i]?=some x)(hr:r<s):(dy enc l)[i*s+r]?=(enc x)[r]?:=by have e:=Qc h hx;rw[<-e,u4,aB hr,E5]
theorem aDx(h:rT enc s)(hs:0<s)(d:Array α):(flatK enc s d).toList=dy enc d.toList:=by
 apply TR;intro t;by_cases ht:t<d.size*s
 ·have hi:t/s<d.size:=(iP hs).2 ht;have hr:t%s<s:=cM _ hs;have hx:d.toList[t/s]?=some d[t/s]:=by simp[hi]
  have e:=aDw h hx hr;rw[cX,jz]at e;rw[e];have hl:t%s<(enc d[t/s]).length:=by rw[h.len];exact hr
  have e2:=Go.Sort.get_flatK enc s d t ht;have bH:t<(flatK enc s d).size:=by rw[Wi];exact ht
  rw[CK (flatK enc s d) t bH,CK d (t/s) hi,CK (enc d[t/s]) (t%s) hl]at e2;rw[Array.getElem?_toList,zt bH,e2,bo hl]
 ·rw[Br (by simp;omega),Br (by rw[uC h];simp;omega)]
def aDy(P:j_)(f:FuncId)(g:i_)(enc:α->ak)(s:Nat)(lt:α->α->Bool)(l:List α):Prop:=
 ∀(aM cap:Nat) (w:h_),HoldsK enc s w aM 0 l.toArray->aM<w.heap.size->Calls P f #[.slice (some ⟨aM,0,none⟩) l.length cap,g] w λe w'=>
  e=.returned (.tuple #[])/\∃ d' n os,PermIn 0 l.length l.toArray d'/\SortedIn lt 0 l.length d'/\w'=Go.Proofs.sortWorldK enc s w aM 0 n d' os
theorem aNP{g:FuncId}{cf:α->α->Int}(h:∀ x y:α,aF P g [.agg (enc x).toArray,.agg (enc y).toArray] (.int .i64 (cf x y)))(aM off size:Nat)(w:h_):Go.Proofs.CmpLays P g #[] enc s cf aM off size w:=by
 intro m os dk _ x y;refine(h x y _).mono ?_
 rintro e w' ⟨rfl,hb⟩
 generalize Go.Proofs.sortWorldK enc s w aM off m dk os=W at *;refine⟨rfl,w'.drawn-W.drawn,w'.heap.extract W.heap.size w'.heap.size,?_⟩;obtain⟨heap,tape,drawn,osW,out⟩:=W;obtain⟨aNQ,aWQ,aWR,os',aWS⟩:=w';obtain⟨⟨h1,h2⟩,h3,h4,h5,h6⟩:=hb;dsimp only at h1 h2 h3 h4 h5 h6;subst h1;subst h3;subst h4;unfold grow World.drewN;dsimp only
 congr 1
 ·apply Array.ext_getElem?;intro k;by_cases hk:k<heap.size
  ·rw[h6 k hk,aDz hk]
  ·rw[Array.getElem?_append_right o_,Array.getElem?_extract];by_cases fP:k<aNQ.size
   ·rw[aB o_];congr 1;omega
   ·rw[av o_,Zs o_]
 ·omega
theorem aNR{g:i_}{lt:α->α->Bool}{l l':List α}{x:m_}(h:rT enc s)(hs:0<s)(hso:aDy P f g enc s lt l)(hg:flat g=true)(ho:dD o.op=some x)(e8:gO P f=true)(k:Nat)
  (aNS:l=[]->aF P f [.slice none 0 0,g] (.tuple #[])) (cB:∀ d:List α,d.Perm l->(∀ i j,i<j->j<d.length->∀ x y,d[i]?=some x->d[j]?=some y->lt y x=false)->d=l') :
  cI P B o [.func (.func f) #[] #[],.slice (some ⟨k,0,some 7⟩) l.length 0,g] [(k,some (.row (dy enc l) ty s))] (.tuple #[]) [(k,.row (dy enc l') ty s)]:=by
 refine jV (fi:=[]) (ca:=[]) ho e8 λι c w hm hn args' du=>?_;obtain⟨v,u,rfl,h1,h2⟩:=jv (by simpa using du);have hu:=h2.eZ hg;subst hu;have hk:=hn (k,_) (aT ..);rcases h1.iF rfl with ⟨q1,q2,_,_,q5⟩|⟨b,oo,cap,c',q1,q2,q3,q5⟩
 ·have hl:l=[]:=mf q2;subst hl;have e:l'=[]:=(cB [] (.refl _) λi j _ hj=>by simp at hj).symm;subst e;rw[q5];refine(aNS rfl w).mono ?_
  rintro e w' ⟨rfl,hb⟩
  refine⟨ι,_,rfl,Map.le.refl _,.same rfl,((hm.call hb).ext λj=>?_)⟩;show bA c k _ j=c j;unfold bA;by_cases hj:j=k
  ·rw[aB hj,hj];exact hk.symm
  ·rw[av hj]
 ·obtain⟨lo,p1,p2⟩:=hm.born k _ hk;dsimp only at q1;rw[q1]at p1;injection p1 with p1;subst p1;rcases p2 with p2|⟨b',aU,cur,e1,mN,dO,gh,jw⟩
  ·cases p2.1
  injection e1 with e1 e2 e3;subst e1;subst e2;subst e3;have gm:=(hm.own k _ b 0 cap hk rfl q1).1;have aDA:cur.toList.take (dy enc l).length=dy enc l:=oc jw (L6 h l);have hlen:(dy enc l).length=l.length*s:=uC h l;have hle:l.length*s<=cur.size:=by have:=cO List.length aDA;rw[jH,hlen]at this;simp at this;omega
  have nC:(flatK enc s l.toArray).toList=dy enc l:=aDx h hs l.toArray;have hold:HoldsK enc s w b 0 l.toArray:=by
   intro j hj;rw[Wi]at hj;simp only[NF]at hj;have QF:j<cur.size:=by omega
   have bH:j<(flatK enc s l.toArray).size:=by rw[Wi];simpa using hj
   have e:cur[j]=(flatK enc s l.toArray)[j]:=by
    have e1:(cur.toList.take (dy enc l).length)[j]?=(dy enc l)[j]?:=by rw[aDA]
    rw[u4,aB (by rw[hlen];exact hj),<-nC]at e1;rw[Array.getElem?_toList,Array.getElem?_toList,zt QF,zt bH]at e1;injection e1
   refine⟨?_,?_⟩
   ·rw[CK _ j bH];simp[World.cell?,mN,QF,e]
   ·simp[World.frozen?,mN]
  rw[q5];refine(hso b c' w hold gm).mono ?_
  rintro e w' ⟨rfl,d',n,os,hp,Wj,rfl⟩
  obtain⟨gQ,xB,I7⟩:=hp;have Pl:d'.toList=l':=by
   refine cB _ ?_ λi j kP hj x y hx hy=>?_
   ·have e1:d'.extract 0 l.length=d':=by rw[<-NF,<-gQ];exact Array.extract_size
    have e2:l.toArray.extract 0 l.length=l.toArray:=by rw[<-NF];exact Array.extract_size
    rw[e1,e2]at I7;simpa using I7
   ·have gM:j<d'.size:=by simpa using hj
    have hz:d'.size=l.length:=by rw[gQ];simp
    have:=Wj i j (lM _) kP o_;rw[CK d' i o_,CK d' j gM]at this;rw[Array.getElem?_toList,zt o_]at hx;rw[Array.getElem?_toList,zt gM]at hy;injection hx with hx;injection hy with hy;rw[hx,hy]at this;exact this
  have hz:d'.size=l.length:=by rw[gQ];simp
  have B8:l'.length=l.length:=by rw[<-Pl];simpa using hz
  refine⟨ι,_,rfl,Map.le.refl _,.same rfl,?_⟩;have BM:(flatK enc s d').toList=dy enc l':=by rw[aDx h hs,Pl]
  have hF:(flatK enc s d').size=l.length*s:=by rw[Wi,hz]
  show aO B ι (bA c k (.row (dy enc l') ty s)) _;have hW:(Go.Proofs.sortWorldK enc s w b 0 n d' os).heap=w.heap.modify b (Go.Sort.onCells (putCells id 0 (flatK enc s d')))++os:=rfl;have aNT:(Go.Proofs.sortWorldK enc s w b 0 n d' os).heap[b]?=some (.cells (putCells id 0 (flatK enc s d') cur) ty (0,0)):=by rw[hW,aDz (by simpa using gm),YX,aB rfl,mN];rfl
  have hcz:(putCells id 0 (flatK enc s d') cur).size=cur.size:=by simp[putCells]
  refine hm.write hk rfl q1 ⟨rfl,KJ _ _⟩ rfl rfl ?_ (λj hj FC=>?_) (.inr ⟨b,cap,_,rfl,aNT,dO,by rw[hcz,gh],?_⟩) n_ rfl
  ·rw[hW];simp
  ·rw[hW,aDz (by simpa using hj),YX,av (λe=>FC e.symm)]
  ·have e:(putCells id 0 (flatK enc s d') cur).toList.take (dy enc l').length=dy enc l':=by
    rw[uC h,B8,<-BM];apply TR;intro j;rw[u4];by_cases hj:j<l.length*s
    ·rw[aB hj];have QF:j<cur.size:=by omega
     have bH:j<(flatK enc s d').size:=by rw[hF];exact hj
     rw[Array.getElem?_toList,Array.getElem?_toList,zt bH];unfold putCells;rw[Array.getElem?_mapIdx,zt QF];simp only[Sp,HL,id_eq];rw[aB ⟨lM _,by rw[hF];omega⟩,CK _ j bH]
    ·rw[av hj,Br (by simp[hF];omega)]
   rw[e];exact kO (L6 h l')
end
end
section
variable{P:j_}{B:aa}{N:Nat}
def QG(P:j_)(o:Oper):Option (TypeId×Nat×Value):=match o.op with
 |.call c=>match c.callee,c.args.toList,c.argTypes.toList with
  |.builtin .clear,[_],[t]=>(match P.underlying t with
   |some (.slice e)=>(match P.info? e with|some i=>(match i.zero with|some z=>some (e,i.size,z)|none=>none)|none=>none)
   |_=>none)
  |_,_,_=>none
 |_=>none
theorem aNU{s:Nat}{z:i_}(ho:QG P o=some (e,s,z)):∃ x t i,o.op=.call { callee:=.builtin .clear,args:=#[x],argTypes:=#[t]}/\P.underlying t=some (.slice e)/\P.info? e=some i/\i.zero=some z/\i.size=s:=by
 unfold QG at ho;split at ho
 ·rename_i c cg;split at ho
  ·rename_i x t h1 h2 h3;split at ho
   ·rename_i e' ht;split at ho
    ·rename_i i hi;split at ho
     ·rename_i z' hz;injection ho with ho;injection ho with q1 ho;injection ho with q2 q3;subst q1;subst q2;subst q3;refine⟨x,t,i,?_,ht,hi,hz,rfl⟩;rw[cg];obtain⟨ce,ar,at'⟩:=c;dsimp only at h1 h2 h3;subst h1;have e1:ar=#[x]:=by rw[<-An (xs:=ar),h2]
      have e2:at'=#[t]:=by rw[<-An (xs:=at'),h3]
      rw[e1,e2]
     ·cases ho
    ·cases ho
   ·cases ho
  ·cases ho
 ·cases ho
theorem aNV{s:Nat}{z:i_}(ho:QG P o=some (e,s,z))(h1:∀ v∈z.cells.toList,v.oneCell'=true/\flat v=true){n:Nat}{cells new:ak}(hn:0<n)(hlen:off+n*z.cells.size<=cells.length)
  (lL:je cells off (Builtin.zeroCells z.cells n).toList=new):cI P B o [.slice (some ⟨k,off,some 7⟩) n cc] [(k,some (.row cells e s))] (.tuple #[]) [(k,.row new e s)]:=by
 subst lL;obtain⟨x,t,i,cg,ht,hi,hz,rfl⟩:=aNU ho;refine iN.step λι c ρ w aZ hm pk=>?_;have hk:c k=some (.row cells e i.size):=pk _ (aT ..);rw[cg]at aZ;obtain⟨u,hu,hc⟩:=ob aZ;have hu:ρ x=u:=by simpa[Op.operands,Call.operands]using hu
 rcases hc.iF rfl with ⟨_,q2,_⟩|⟨b,oo,cap,c',hb,lg,nA,he⟩
 ·omega
 dsimp only at hb he;have B8:((Builtin.zeroCells z.cells n).toList).length=n*z.cells.size:=by rw[zj,NA]
 have I8:∀ v∈(Builtin.zeroCells z.cells n).toList,v.oneCell'=true/\flat v=true:=by
  intro v hv;unfold Builtin.zeroCells at hv;rw[Array.toList_map,db]at hv;obtain⟨j,hj,rfl⟩:=hv;have hjs:j<n*z.cells.size:=by simpa using hj
  have h0:0<z.cells.size:=by
   rcases oV z.cells.size with h|h
   ·rw[h]at hjs;omega
   ·exact h
  rw[CK z.cells _ (cM _ h0)];exact h1 _ s_
 obtain⟨h0,bP,bL,ty,mN,u7⟩:=hm.store hk rfl hb (kO λv hv=>(I8 v hv).2) (o:=off) (by rw[B8];exact hlen);subst h0;rw[kA]at he;refine⟨ι,.tuple #[],_,Map.le.refl _,.same rfl,bP,.inl ?_⟩
 have run:=run_storeCells_cells (P:=P) b off (Builtin.zeroCells z.cells n).toList 0 w
  (λj hj=>by
   have:j+off<bL.length:=by omega
   simp[World.cell?,mN];omega)
  (λj hj=>by simp[World.frozen?,mN]) λv hv=>(I8 v hv).1
 simp only[jf]at run;obtain⟨m,rfl⟩:∃ m,n=m+1:=⟨n-1,by omega⟩;have iG:(Builtin.clear_ #[t] o.type #[.slice (some ⟨b,off,none⟩) (m+1) c']).run P w=.ok (.tuple #[]) (w.setCells b off (Builtin.zeroCells z.cells (m+1)).toList):=by simp[Builtin.clear_,jJ ht,zeroValue,typeInfo,hi,hz,run]
 simp[execOp,cg,resolve,invoke,builtin,hu,he,iG]
theorem aNW{enc:α->ak}{s:Nat}(h:rT enc s){x:α}{z:p_}(hz:z.toList=enc x)(hs:0<s)(n:Nat):(Builtin.zeroCells z n).toList=dy enc (List.replicate n x):=by
 have bH:z.size=s:=by rw[<-zj,hz,h.len]
 apply TR;intro t;by_cases ht:t<n*s
 ·have hi:t/s<n:=(iP hs).2 ht;have hr:t%s<s:=cM _ hs;have e:=aDw h (l:=List.replicate n x) (i:=t/s) (x:=x) (by simp[hi]) hr;rw[cX,jz]at e;rw[e,<-hz];unfold Builtin.zeroCells;rw[Array.toList_map,vi];have:(Array.range (n*z.size)).toList[t]?=some t:=by rw[bH];simp[ht]
  rw[this,Sp,bH,CK z _ o_,Array.getElem?_toList,zt o_]
 ·rw[Br (by rw[zj,NA,bH];omega),Br (by rw[uC h];simp;omega)]
def bd.qh(fn:Func)(key k a n cc i j s:Nat)(hi:i<n)(hj:a+i=j)(ho:xJ P (aw fn key)=some s):bd P B N:=
 .step key (aw fn key) [.slice (some ⟨k,a*s,some 7⟩) n cc,vI i] [] (.pointer (some ⟨k,j*s,some 7⟩)) [] (by have:=N6 (B:=B) ho (k:=k) (off:=a*s) (cc:=cc) (kd:=.i64) hi;rw[<-fQ,hj]at this;exact this)
def bd.behind(fn:Func)(key k n a m s:Nat)(hm:a+m=n)(h0:0<m)(ho:sR P (aw fn key)=some (true,false,s)):bd P B N:=
 .step key (aw fn key) [.slice (some ⟨k,0,some 7⟩) n 0,vI a] [] (.slice (some ⟨k,a*s,some 7⟩) m a) [] (by have:=HM (B:=B) ho (k:=k) (off:=0) (n:=n) (cc:=0) (l:=a) (h:=n) n_ (λ_=>rfl) o_ (bC _) (.inl o_);rw[show n-a=m by omega]at this;simpa using this)
def bd.clear(fn:Func)(key k off n cc e s:Nat)(z:i_)(cells new:ak)(h1:∀ v∈z.cells.toList,v.oneCell'=true/\flat v=true)(hn:0<n)(hlen:off+n*z.cells.size<=cells.length)(lL:je cells off (Builtin.zeroCells z.cells n).toList=new)
  (ho:QG P (aw fn key)=some (e,s,z)):bd P B N:=
 .step key (aw fn key) [.slice (some ⟨k,off,some 7⟩) n cc] [(k,some (.row cells e s))] (.tuple #[]) [(k,.row new e s)] (aNV ho h1 hn hlen lL)
end
def aa.iu(B:aa)(ks:List (Value×ak)):aa where
 G w:=B.G w/\∀ p∈ks,cW w p.1 p.2.length p.2
 cU k:=B.cU k\/∃ p∈ks,iU p.1=some k
 ds:=B.ds
 Fa:=B.Fa
 mp:=B.mp
 lt w k h hk:=by
  rcases hk with hk|⟨p,hp,hb⟩
  ·exact B.lt w k h.1 hk
  ·exact(h.2 p hp).lt hb
 dep w w' h h1 h2 h3 h4 h5:=⟨B.dep w w' h.1 h1 h2 h3 h4 λk hk=>h5 k (.inl hk),λp hp=>(h.2 p hp).kept h4 λb hb _ _ _ e=>(h5 b (.inr ⟨p,hp,hb⟩)).trans e⟩
theorem aDB{w:h_}(h:aO B ι c w):aO (B.iu []) ι c w:=
 ⟨⟨h.base,λp hp=>by cases hp⟩,h.dF,h.born,λk x b o cap e hx hl=>⟨(h.own k x b o cap e hx hl).1,λhF=>by
  rcases hF with hF|⟨p,hp,_⟩
  ·exact(h.own k x b o cap e hx hl).2 hF
  ·cases hp⟩,h.inj,h.apart,h.seen,h.fa,h.one,h.pg⟩
theorem QH{w:h_}(h:aO (B.iu ks) ι c w)(hm:c m=some (.row xs ty 1))(cR:∀ v∈xs,flat v=true)
  (hu:aK ι (.slice (some ⟨m,0,some 7⟩) xs.length 0) u):aO (B.iu ((u,xs)::ks)) ι (bA c m .dead) w/\flat u=true/\∀ b,iU u=some b->¬B.cU b:=by
 have jI:=po (len:=xs.length) h hm rfl cR (λe=>e) hu;have jI:cW w u xs.length xs:=by
  have e:((Obj.row xs ty 1).cells.drop 0).take xs.length=xs:=by rw[mT];exact o5
  rwa[e]at jI
 have hk:=h.kill m (by rw[hm];exact n_);have hb:∀ b,iU u=some b->∃ o cap,ι m=some (.at b o cap):=by
  intro b hb;rcases hu.iF rfl with ⟨_,_,_,_,q5⟩|⟨b',oo,cap,c',q1,_,_,q5⟩
  ·rw[q5]at hb;cases hb
  ·rw[q5]at hb;injection hb with hb;subst hb;exact⟨oo,cap,q1⟩
 have da:∀ j z,j≠m->bA c m .dead j=some z->c j=some z:=λj z hj e=>by unfold bA at e;rwa[av hj]at e
 refine⟨⟨⟨h.base.1,λp hp=>?_⟩,hk.dF,hk.born,λk x b o cap e hx hl=>⟨(hk.own k x b o cap e hx hl).1,λhF=>?_⟩,hk.inj,hk.apart,hk.seen,hk.fa,hk.one,hk.pg⟩,?_,λb hbu hF=>?_⟩
 ·rcases cC.1 hp with rfl|hp
  ·exact jI
  ·exact h.base.2 p hp
 ·rcases hF with hF|⟨p,hp,KV⟩
  ·exact(hk.own k x b o cap e hx hl).2 (.inl hF)
  ·rcases cC.1 hp with rfl|hp
   ·obtain⟨o',aU,cB⟩:=hb b KV;by_cases I9:k=m
    ·subst I9;unfold bA at e;rw[aB rfl]at e;injection e with e;subst e;cases hx
    ·exact I9 (h.inj k m x _ b o cap o' aU (da k x I9 e) hx hm rfl hl cB)
   ·exact(hk.own k x b o cap e hx hl).2 (.inr ⟨p,hp,KV⟩)
 ·rcases hu.iF rfl with ⟨_,_,_,_,q5⟩|⟨b',oo,cap,c',q1,_,_,q5⟩
  ·rw[q5];rfl
  ·rw[q5];rfl
 ·obtain⟨o,cap,hl⟩:=hb b hbu;exact(h.own m _ b o cap hm rfl hl).2 (.inl hF)
def k9:List (Nat×Nat)->Nat->Option Nat
 |[],_=>none
 |(j,m)::l,k=>if Nat.beq j k then some m else k9 l k
def r5(ι:Map)(r:List (Nat×Nat)):Map:=λj=>(k9 r j).bind ι
def Mg:List (Nat×Nat)->Bool
 |[]=>true
 |(_,m)::l=>(l.all λp=>!Nat.beq m p.2)&&Mg l
theorem Wk:∀{r:List (Nat×Nat)} {j m:Nat},k9 r j=some m->(j,m)∈r
 |(i,q)::l,j,m,h=>by
  unfold k9 at h;split at h
  ·rename_i hb;injection h with h;subst h;rw[lj hb];exact aT ..
  ·exact bF _ (Wk h)
theorem Wl:∀{r:List (Nat×Nat)},Mg r=true->∀ i j m:Nat,k9 r i=some m->k9 r j=some m->i=j
 |(a,q)::l,h,i,j,m,h1,h2=>by
  unfold Mg at h;rw[dr,bB]at h;have ih:=Wl h.2;have no:∀ k,k9 l k=some q->False:=λk hk=>by have:=h.1 _ (Wk hk);simp at this
  unfold k9 at h1 h2;split at h1<;>split at h2
  ·rename_i e1 e2;rw[<-lj e1,<-lj e2]
  ·injection h1 with h1;subst h1;exact(no j h2).elim
  ·injection h2 with h2;subst h2;exact(no i h1).elim
  ·exact ih i j m h1 h2
 |[],_,i,j,m,h,_=>by cases h
def Ja(a:Addr):Bool:=match a.spot with|some s=>Nat.beq s 7||Nat.beq s 9|none=>false
def yC(r:List (Nat×Nat)):Value->Value
 |.slice (some ad) n c=>if nu ad then(match k9 r ad.block with|some m=>.slice (some ⟨m,ad.off,some 7⟩) n c|none=>.slice (some ad) n c)else .slice (some ad) n c
 |.pointer (some ad)=>if Ja ad then(match k9 r ad.block with|some m=>.pointer (some ⟨m,ad.off,ad.spot⟩)|none=>.pointer (some ad))else .pointer (some ad)
 |v=>v
def AF(r:List (Nat×Nat)):Value->Value
 |.func f fi ca=>.func f (fi.toList.map (yC r)).toArray (ca.toList.map (yC r)).toArray
 |v=>yC r v
def GG(r:List (Nat×Nat)):Value->Bool
 |.slice (some ad) _ _=>if nu ad then(k9 r ad.block).isSome else nt ad
 |.pointer (some ad)=>if Ja ad then(k9 r ad.block).isSome else nt ad
 |v=>flat v&&!mK v
def AG(r:List (Nat×Nat)):Value->Bool
 |.func _ fi ca=>fi.toList.all (GG r)&&ca.toList.all (GG r)
 |v=>GG r v
theorem aDC{a:Addr}(h:Ja a=true):nt a=false:=by
 unfold Ja at h;unfold nt;cases hs:a.spot with
 |none=>rw[hs]at h;cases h
 |some s=>rfl
theorem aNX{r:List (Nat×Nat)}{v:i_}(h:flat v=true):yC r v=v:=by
 unfold yC;split
 ·rename_i ad n c;split
  ·rename_i ho;have:nt ad=true:=h;rw[Sk ho]at this;cases this
  ·rfl
 ·rename_i ad;split
  ·rename_i ho;have:nt ad=true:=h;rw[aDC ho]at this;cases this
  ·rfl
 ·rfl
theorem aDD{r:List (Nat×Nat)}{v:i_}(aC:GG r v=true)(h:aK ι (yC r v) v'):aK (r5 ι r) v v':=by
 have fl:∀ v:Value,flat v=true->aK ι (yC r v) v'->aK (r5 ι r) v v':=λv hv hc=>by rw[aNX hv]at hc;rw[hc.eZ hv];exact .same hv
 unfold GG at aC;split at aC
 ·rename_i ad n c;split at aC
  ·rename_i ho;cases hr:k9 r ad.block with
   |none=>rw[hr]at aC;cases aC
   |some m=>
    have uI:yC r (.slice (some ad) n c)=.slice (some ⟨m,ad.off,some 7⟩) n c:=by show(if nu ad=true then(match k9 r ad.block with|some m=>Value.slice (some ⟨m,ad.off,some 7⟩) n c|none=>.slice (some ad) n c)else .slice (some ad) n c)=_;rw[aB ho,hr]
    rw[uI]at h;have hm:r5 ι r ad.block=ι m:=by unfold r5;rw[hr];rfl
    obtain⟨bl,off,sp⟩:=ad;have vT:=Hx ho;dsimp only at vT;subst vT;rcases h.iF rfl with ⟨q1,q2,q3,q4,q5⟩|⟨b,oo,cap,c',q1,q2,q3,q5⟩
    ·dsimp only at q1 q4 hm;rw[q5,q2,q3,q4];exact .slcN (hm.trans q1)
    ·dsimp only at q1 hm q5;rw[q5];exact .slc (hm.trans q1) q2 q3
  ·exact fl _ aC h
 ·rename_i ad;split at aC
  ·rename_i ho;cases hr:k9 r ad.block with
   |none=>rw[hr]at aC;cases aC
   |some m=>
    have uI:yC r (.pointer (some ad))=.pointer (some ⟨m,ad.off,ad.spot⟩):=by show(if Ja ad=true then(match k9 r ad.block with|some m=>Value.pointer (some ⟨m,ad.off,ad.spot⟩)|none=>.pointer (some ad))else .pointer (some ad))=_;rw[aB ho,hr]
    rw[uI]at h;have hm:r5 ι r ad.block=ι m:=by unfold r5;rw[hr];rfl
    obtain⟨bl,off,sp⟩:=ad;dsimp only at hm h;generalize hp:Value.pointer (some ⟨m,off,sp⟩)=p at h;cases h with
    |same hf=>subst hp;have:nt ⟨m,off,sp⟩=true:=hf;rw[aDC (a:=⟨m,off,sp⟩) ho]at this;cases this
    |ptr q=>injection hp with hp;injection hp with hp;injection hp with h1 h2 h3;subst h1;subst h2;subst h3;exact .ptr (hm.trans q)
    |slc q=>cases hp
    |slcN q=>cases hp
    |opq q1 q2 q3=>injection hp with hp;injection hp with hp;injection hp with h1 h2 h3;subst h1;subst h2;subst h3;exact .opq (hm.trans q1) q2 q3
    |fn=>cases hp
    |agg=>cases hp
    |tup=>cases hp
  ·exact fl _ aC h
 ·rw[dr]at aC;exact fl _ aC.1 h
theorem Wm{ι:Map}{r:List (Nat×Nat)}:∀{l l':ak},(l.all (GG r))=true->bW (aK ι) (l.map (yC r)) l'->bW (aK (r5 ι r)) l l'
 |[],_,_,h=>by cases h;exact .nil
 |v::l,_,aC,h=>by
  rw[dL,dr]at aC;cases h with
  |cons h1 h2=>exact .cons (aDD aC.1 h1) (Wm aC.2 h2)
theorem aDE{r:List (Nat×Nat)}{v:i_}(aC:AG r v=true)(h:aK ι (AF r v) v'):aK (r5 ι r) v v':=by
 unfold AG at aC;split at aC
 ·rename_i f fi ca;rw[dr]at aC;obtain⟨kg,eh,rfl,h1,h2⟩:=h.Bo;have g1:=Wm aC.1 h1;have g2:=Wm aC.2 h2;have:=aK.fn (f:=f) g1 g2;simpa using this
 ·rename_i hn;have:AF r v=yC r v:=by
   unfold AF;split
   ·exact absurd rfl (hn _ _ _)
   ·rfl
  rw[this]at h;exact aDD aC h
theorem aNY(r:List (Nat×Nat)){v:i_}(h:mK v=false):mK (AF r v)=false:=by
 cases v with
 |slice a n c=>
  cases a with
  |none=>rfl
  |some ad=>
   show mK (if nu ad=true then(match k9 r ad.block with|some m=>Value.slice (some ⟨m,ad.off,some 7⟩) n c|none=>.slice (some ad) n c)else .slice (some ad) n c)=false;split
   ·split<;>rfl
   ·rfl
 |pointer a=>
  cases a with
  |none=>rfl
  |some ad=>
   show mK (if Ja ad=true then(match k9 r ad.block with|some m=>Value.pointer (some ⟨m,ad.off,ad.spot⟩)|none=>.pointer (some ad))else .pointer (some ad))=false;split
   ·split<;>rfl
   ·rfl
 |func f fi ca=>rfl
 |_=>exact h
theorem aDF{ι:Map}{r:List (Nat×Nat)}:∀{l l':ak},(l.all (AG r))=true->bW (aK ι) (l.map (AF r)) l'->bW (aK (r5 ι r)) l l'
 |[],_,_,h=>by cases h;exact .nil
 |v::l,_,aC,h=>by
  rw[dL,dr]at aC;cases h with
  |cons h1 h2=>exact .cons (aDE aC.1 h1) (aDF aC.2 h2)
def Eo(r:List (Nat×Nat)):Obj->Obj
 |.aM cs ty=>.aM (cs.map (AF r)) ty
 |x=>x
def Jb(r:List (Nat×Nat)):Obj->Prop
 |.aM cs _=>(cs.all (AG r))=true
 |.fact _=>True
 |.dead=>True
 |x=>∀ v∈x.cells,flat v=true
theorem Jc(r:List (Nat×Nat))(x:Obj):(Eo r x).owns=x.owns/\(Eo r x).kh=x.kh:=by cases x<;>exact⟨rfl,rfl⟩
theorem aNZ{w:h_}{l:pR}{r:List (Nat×Nat)}{x:Obj}(aC:Jb r x)(h:jR ι w l (Eo r x)):jR (r5 ι r) w l x:=by
 have fl:∀{cs bL:ak},(∀ v∈cs,flat v=true)->bW (aK ι) cs bL->bW (aK (r5 ι r)) cs bL:=λhf h=>by rw[oc h hf];exact kO hf
 cases x with
 |aM cells ty=>
  obtain⟨b,bL,e1,e2,e3⟩:=h;exact⟨b,bL,e1,aDF aC e2,e3⟩
 |row cells ty size=>
  rcases h with h|⟨b,cap,cur,e1,e2,e3,e4,e5⟩
  ·exact .inl h
  ·exact .inr ⟨b,cap,cur,e1,e2,e3,e4,fl aC e5⟩
 |view cells=>
  rcases h with h|⟨b,o,cap,cs,e1,e2,e3⟩
  ·exact .inl h
  ·exact .inr ⟨b,o,cap,cs,e1,fl aC e2,e3⟩
 |fact F=>exact h
 |dead=>trivial
theorem aN0{w:h_}(h:aO B ι c w)(rM:∀ k,B.mp k=none){r:List (Nat×Nat)}{L:aL}(fv:Mg r=true)(ko:∀ j,ag L j=none↔k9 r j=none)
  (hL:∀ j x m,ag L j=some x->k9 r j=some m->Jb r x/\c m=some (Eo r x)):aO B (r5 ι r) (ag L) w:=by
 have src:∀ j x,ag L j=some x->∃ m,k9 r j=some m/\Jb r x/\c m=some (Eo r x)/\r5 ι r j=ι m:=λj x e=>by
  cases hr:k9 r j with
  |none=>rw[(ko j).2 hr]at e;cases e
  |some m=>
   obtain⟨h1,h2⟩:=hL j x m e hr;exact⟨m,rfl,h1,h2,by unfold r5;rw[hr];rfl⟩
 refine⟨h.base,λk e=>?_,λk x e=>?_,λk x b o cap e hx hl=>?_,λk j x y b o cap o' aU e hx e' hy hl cB=>?_,λk j x F b o cap v e hx hl e' hv=>?_,λk x b o cap e hx hl=>?_,λj F e=>?_,λj k F F' e e' h1 h2=>?_,λk l e=>?_⟩
 ·unfold r5;rw[(ko k).1 e];rfl
 ·obtain⟨m,_,h2,h3,h4⟩:=src k x e;obtain⟨l,q1,q2⟩:=h.born m _ h3;exact⟨l,h4.trans q1,aNZ h2 q2⟩
 ·obtain⟨m,_,_,h3,h4⟩:=src k x e;exact h.own m _ b o cap h3 ((Jc r x).1.trans hx) (h4▸hl)
 ·obtain⟨m,h1,_,h3,h4⟩:=src k x e;obtain⟨m',pj,_,GH,Mh⟩:=src j y e';have:=h.inj m m' _ _ b o cap o' aU h3 ((Jc r x).1.trans hx) GH ((Jc r y).1.trans hy) (h4▸hl) (Mh▸cB);subst this;exact Wl fv k j m h1 pj
 ·obtain⟨m,_,_,h3,h4⟩:=src k x e;obtain⟨m',_,_,GH,Mh⟩:=src j _ e';exact h.apart m m' _ F b o cap v h3 ((Jc r x).1.trans hx) (h4▸hl) GH (Mh▸hv)
 ·obtain⟨m,_,_,h3,h4⟩:=src k x e;obtain⟨p1,p2⟩:=h.seen m _ b o cap h3 ((Jc r x).2.trans hx) (h4▸hl);refine⟨p1,λj y o' aU e' hy cB=>?_⟩;obtain⟨m',_,_,GH,Mh⟩:=src j y e';exact p2 m' _ o' aU GH ((Jc r y).1.trans hy) (Mh▸cB)
 ·obtain⟨m,_,_,h3,_⟩:=src j _ e;exact h.fa m F h3
 ·obtain⟨m,q1,_,h3,_⟩:=src j _ e;obtain⟨m',rp,_,GH,_⟩:=src k _ e';have:=h.one m m' F F' h3 GH h1 h2;subst this;exact Wl fv j k m q1 rp
 ·rw[rM k]at e;cases e
def St(B:aa)(N:Nat)(fr:aX)(M:aL)(next:Nat)(a:Act)(w:h_):Prop:=∃ ι cc,fR B ι (bJ fr) N a/\aO B ι cc w/\cY cc M/\eF cc next
section
variable{P:j_}{B:aa}{N:Nat}
theorem qU{c:Code}{next:Nat}{r:mQ}{a:Act}{w:h_}{Q:Exit->Act->World->Prop}(g:ai P B N c fr M next r)(h:St B N fr M next a w)
  (hQ:∀ a' w',St B N r.fr r.M r.next a' w'->Q r.ex.Bx a' w'):c.wpIn (FW none) 0 P Q a w:=by
 obtain⟨ι,cc,h1,h2,h3,h4⟩:=h;exact g none ι cc a w Q h1 h2 h3 h4 λaz cr a' w' _ q2 q3 q4 q5 _ _=>hQ a' w' ⟨az,cr,q2,q3,q4,q5⟩
theorem aDG{b:Code}{Q:Exit->Act->World->Prop}{a:Act}{w:h_}(n:Nat)(Inv:Nat->Act->World->Prop)(h0:Inv 0 a w)
  (body:∀ i,i<n->∀ a w,Inv i a w->∀ K:Act->World->Prop,(∀ a' w',Inv (i+1) a' w'->K a' w')->b.wpIn (FW none) 0 P (Exit.then K Q) a w)
  (last:∀ a w,Inv n a w->b.wpIn (FW none) 0 P (Exit.then (λ_ _=>False) Q) a w):(Code.loop b).wpIn (FW none) 0 P Q a w:=by
 refine S5 (n+1) ?_;have key:∀ d i,i+d=n->∀ a w,Inv i a w->Code.roundsIn (FW none) 0 P b Q (d+1) a w:=by
  intro d;induction d with
  |zero=>
   intro i hi a w h;have:i=n:=by omega
   subst this;rw[Fp];exact last a w h
  |succ d ih=>
   intro i hi a w h;rw[Fp];exact body i o_ a w h _ λa' w' h'=>ih (i+1) o_ a' w' h'
 exact key n 0 o_ a w h0
theorem St.Mi{tF:aX}{L:aL}{next n2:Nat}{a:Act}{w:h_}(h:St B N fr M next a w)(rM:∀ k,B.mp k=none)(r:List (Nat×Nat))(fv:Mg r=true)(ko:L.map (·.1)=r.map (·.1))
  (aC:∀ p∈L,Jb r p.2) (hL:(r.map λp=>ag M p.2)=L.map λp=>some (Eo r p.2)) (ZQ:(L.map λp=>ag L p.1)=L.map λp=>some p.2) (nC:(tF.all λp=>AG r p.2)=true) (hs:(tF.map λp=>bJ fr p.1)=tF.map λp=>AF r p.2) (hn:(r.all λp=>Nat.blt p.1 n2)=true):St B N tF L n2 a w:=by
 obtain⟨ι,cc,h1,h2,h3,h4⟩:=h;have hk:∀{L:aL} {r:List (Nat×Nat)},L.map (·.1)=r.map (·.1)->∀ j,ag L j=none↔k9 r j=none:=by
  intro L;induction L with
  |nil=>intro r e j;cases r with
   |nil=>exact⟨λ_=>rfl,λ_=>rfl⟩
   |cons p r=>cases e
  |cons q L ih=>intro r e j;cases r with
   |nil=>cases e
   |cons p r=>
    injection e with e1 e2;obtain⟨q1,q2⟩:=q;obtain⟨p1,p2⟩:=p;dsimp only at e1;subst e1;unfold ag k9;cases Nat.beq q1 j with
    |true=>simp
    |false=>simpa using ih e2 j
 have aN1:∀{L:aL} {r':List (Nat×Nat)},L.map (·.1)=r'.map (·.1)->(r'.map λp=>ag M p.2)=L.map (λp=>some (Eo r p.2))->∀ j x m,ag L j=some x->k9 r' j=some m->ag M m=some (Eo r x):=by
  intro L;induction L with
  |nil=>intro r' _ _ j x m e;cases e
  |cons q L ih=>intro r' e e' j x m hx hm;cases r' with
   |nil=>cases e
   |cons p r'=>
    injection e with e1 e2;injection e' with e3 e4;obtain⟨q1,q2⟩:=q;obtain⟨p1,p2⟩:=p;dsimp only at e1 e3;subst e1;unfold ag at hx;unfold k9 at hm;cases hb:Nat.beq q1 j with
    |true=>
     rw[hb]at hx hm;simp only[rm]at hx hm;injection hx with hx;injection hm with hm;subst hx;subst hm;exact e3
    |false=>
     rw[hb]at hx hm;simp only[vy,vz]at hx hm;exact ih e2 e4 j x m hx hm
 refine⟨r5 ι r,ag L,⟨h1.defers,h1.size,λt=>?_⟩,aN0 h2 rM fv (hk ko) (λj x m e hr=>⟨aC _ (kD e),h3 m _ (aN1 ko hL j x m e hr)⟩),λk x e=>e,λk oU=>?_⟩
 ·have bh:∀{tF:aX},(tF.all λp=>AG r p.2)=true->(tF.map λp=>bJ fr p.1)=(tF.map λp=>AF r p.2)->(mK (bJ tF t)=true)\/(AG r (bJ tF t)=true/\bJ fr t=AF r (bJ tF t)):=by
   intro tF;induction tF with
   |nil=>exact λ_ _=>.inl rfl
   |cons p l ih=>
    intro ho he;rw[dL,dr]at ho;injection he with e1 e2;obtain⟨p1,p2⟩:=p;rw[show bJ ((p1,p2)::l) t=if Nat.beq p1 t=true then p2 else bJ l t from rfl];by_cases hb:Nat.beq p1 t=true
    ·have:=lj hb;subst this;rw[aB hb];exact .inr ⟨ho.1,e1⟩
    ·rw[av hb];exact ih ho.2 e2
  rcases bh nC hs with h|⟨q1,q2⟩
  ·exact .inl h
  ·have tW:=h1.slot t;rw[q2]at tW;have Ce:mK (AF r (bJ tF t))=false:=by
    refine aNY r ?_;generalize bJ tF t=v at *;unfold AG at q1;split at q1
    ·rfl
    ·unfold GG at q1;split at q1
     ·rfl
     ·rfl
     ·rw[dr]at q1;simpa using q1.2
   exact .inr (aDE q1 (tW.Bp Ce))
 ·refine(hk ko k).2 ?_;cases e:k9 r k with
  |none=>rfl
  |some m=>
   have:=bB.1 hn _ (Wk e);simp at this;omega
theorem aDI{c:Code}{next:Nat}{cc:g_}{w:h_}
  (hf:P.funcs[f]?=some fn) (hb:fn.body=some c) (hN:N=args.length+(fn.ntmps-args.length)) (du:bW (aK ι) args args') (hm:aO B ι cc w) (ha:cY cc M) (hu:eF cc next) (nD:B.ds=[])
  (h:∀ a,St B N (jh 0 args) M next a w->c.wpIn (FW none) 0 P (bodyPost P fn Q) a w):Calls P f args'.toArray w Q:=by
 refine calls_of_wp hf hb (Z1 (h _ ⟨ι,cc,⟨nD.symm,by simp[hN,du.length],λt=>?_⟩,hm,ha,hu⟩));rcases N2 du 0 t (List.replicate (fn.ntmps-args'.length) undef)with h|h
 ·simp only[lM,rm,HL]at h;have e:(args'.toArray++Array.replicate (fn.ntmps-args'.toArray.size) undef).getD t undef=(args'++List.replicate (fn.ntmps-args'.length) undef).getD t undef:=by simp[qC,Ff,<-Array.getElem?_toList]
  dsimp only;rw[e];exact h
 ·exact .inl h
theorem aDJ{next:Nat}{v:i_}{a:Act}{w:h_}(h:St B N fr M next a w)(nD:B.ds=[])(hv:BI P fn fr M=some v)
  (hQ:∀ ι cc v',aO B ι cc w->cY cc M->aK ι v v'->Q (.returned v') w):bodyPost P fn Q .ret a w/\bodyPost P fn Q .normal a w:=by
 obtain⟨ι,cc,h1,h2,h3,_⟩:=h;obtain⟨v',hc,qy⟩:=N1 (fn:=fn) h1 h2 h3 hv;have:=hQ ι cc v' h2 h3 hc;exact⟨⟨h1.defers.trans nD,v',qy,this⟩,⟨h1.defers.trans nD,v',qy,this⟩⟩
end
section
variable{P:j_}{B:aa}{N:Nat}
theorem aN2{size:Nat}{z:i_}(ho:BR P o=some (0,[],e,size,z))(k:Nat):cI P B o [] [(k,none)] (.slice (some ⟨k,0,some 7⟩) 0 0) [(k,.row [] e size)]:=by
 unfold BR at ho;split at ho
 ·rename_i t mn parts cg;split at ho
  ·rename_i e' ht;split at ho
   ·rename_i i hi;split at ho
    ·rename_i z' hz;injection ho with ho;injection ho with h1 ho;injection ho with h2 ho;injection ho with h3 ho;injection ho with h4 h5;subst h1;subst h3;subst h4;subst h5;refine iN.step λι c ρ w aZ hm hn=>?_;have hk:c k=none:=hn _ (aT ..);have hp:parts=#[]:=by
      have:parts.toList=[]:=by simpa using h2
      exact IX.1 this
     subst hp;have u7:Map.le ι _:=ij (l:=.at w.heap.size 0 0) (hm.dF k hk);have lL:=HC (ty:=e') (size:=i.size) (cap:=0) (rest:=#[]) hm hk (.nil:bW (aK ι) [] []) (lM _) s_;refine⟨_,.slice (some ⟨w.heap.size,0,none⟩) 0 0,_,u7,.slc (o:=0) (off:=0) (gg _ _ _) (bC _) rfl,lL,.inl ?_⟩;simp only[execOp,cg];simp[Instr.buildSlice,jJ ht,sizeOf,typeInfo,hi,newRow,Instr.fill,newObj,Sem.run];have e0:∀ f:Nat->Value,Array.map f (Array.range 0)=#[]:=λf=>IX.1 (by rw[Array.toList_map,Array.toList_range];rfl);rw[e0]
    ·cases ho
   ·cases ho
  ·cases ho
 ·cases ho
theorem aN3{size:Nat}{idx:l_}{z:i_}(ho:BR P o=some (len,idx,e,size,z)){cells:p_}(I8:∀ v∈z.cells.toList,flat v=true)(xx:0<z.cells.size)
  (DB:KL size len z (idx.zip vs)=some cells) (bH:cells.size=len*size) (zR:0<len*size) (hle:len*size<=16777216) (k:Nat) :
  cI P B o vs [(k,none)] (.slice (some ⟨k,0,some 7⟩) len 0) [(k,.row cells.toList e size)]:=by
 unfold BR at ho;split at ho
 ·rename_i t mn parts cg;split at ho
  ·rename_i e' ht;split at ho
   ·rename_i i hi;split at ho
    ·rename_i z' hz;injection ho with ho;injection ho with h1 ho;injection ho with h2 ho;injection ho with h3 ho;injection ho with h4 h5;subst h1;subst h2;subst h3;subst h4;subst h5;refine iN.step λι c ρ w aZ hm hn=>?_;have hk:c k=none:=hn _ (aT ..);rw[cg]at aZ;obtain⟨cT,aDK⟩:∃ cT,List.map ρ (parts.toList.map (·.2))=cT:=⟨_,rfl⟩;have tW:bW (aK ι) vs cT:=by rw[<-aDK];simpa[Op.operands]using aZ
     have ck:List.map (λx=>(x.fst,ρ x.snd)) parts.toList=(parts.toList.map (·.1)).zip cT:=Oy parts.toList aDK;have h0z:bW (aK ι) ((Array.range (mn*i.size)).map (z'.cells[·%z'.cells.size]!)).toList ((Array.range (mn*i.size)).map (z'.cells[·%z'.cells.size]!)).toList:=kO λv hv=>by rw[Array.toList_map,db]at hv;obtain⟨j,_,rfl⟩:=hv;rw[CK z'.cells _ (cM _ xx)];exact I8 _ s_
     obtain⟨cells',aN4,jw⟩:=Qw (ι:=ι) (place:=λj=>some (j*i.size,i.size)) (parts.toList.map λp:Nat×Operand=>p.1) tW h0z DB;have aN5:cells'.size=mn*i.size:=by rw[<-zj,<-jw.length,zj,bH]
     have Oz:mn<=maxLen:=by have:mn<=mn*i.size:=FG _ (Nat.pos_of_mul_pos_left zR);simp[maxLen];omega
     have u7:Map.le ι _:=ij (l:=.at w.heap.size 0 mn) (hm.dF k hk);have lL:=HC (ty:=e') (size:=i.size) (cap:=mn) (rest:=#[]) hm hk jw Oz (by simpa using aN5);refine⟨_,.slice (some ⟨w.heap.size,0,none⟩) mn mn,_,u7,.slc (o:=0) (off:=0) (gg _ _ _) (bC _) o_,lL,.inl ?_⟩;have h0:¬(mn*i.size=0):=by omega
     have h1:¬(16777216<mn*i.size):=by omega
     simp only[execOp,cg];simp[Instr.buildSlice,jJ ht,sizeOf,typeInfo,hi,zeroValue,hz,h0,h1,newRow];rw[ck,aN4];simp[newObj,Sem.run]
    ·cases ho
   ·cases ho
  ·cases ho
 ·cases ho
def bd.Mj(fn:Func)(key k e size:Nat)(z:i_)(ho:BR P (aw fn key)=some (0,[],e,size,z)):bd P B N:=
 .step key (aw fn key) [] [(k,none)] (.slice (some ⟨k,0,some 7⟩) 0 0) [(k,.row [] e size)] (aN2 ho k)
def bd.bsM(fn:Func)(key k len e size:Nat)(idx:l_)(z:i_)(vs:ak)(cells:p_)(x:Obj)(hx:Obj.row cells.toList e size=x)(I8:∀ v∈z.cells.toList,flat v=true)(xx:0<z.cells.size)
  (DB:KL size len z (idx.zip vs)=some cells) (bH:cells.size=len*size) (zR:0<len*size) (hle:len*size<=16777216) (ho:BR P (aw fn key)=some (len,idx,e,size,z)):bd P B N:=
 .step key (aw fn key) vs [(k,none)] (.slice (some ⟨k,0,some 7⟩) len 0) [(k,x)] (by subst hx;exact aN3 ho I8 xx DB bH zR hle k)
def bd.ap0(fn:Func)(key k m e size bytes q:Nat)(x:Obj)(new:ak)(hx:x.reads=true)(hlen:x.cells.length=m*size)(lL:x.cells=new)
  (bH:0<size) (h63:m<=maxLen) (hb:m*bytes<=140737488355328) (ho:FH P (aw fn key)=some (e,size,bytes,size,true)):bd P B N:=
 .step key (aw fn key) [.slice none 0 0,.slice (some ⟨q,0,some 7⟩) m 0] [(k,none),(q,some x)] (.slice (some ⟨k,0,some 7⟩) m 0) [(k,.row new e size)] (by
  subst lL;have hs:C9 B (.slice (some ⟨q,0,some 7⟩) m 0) m x.cells [(q,some x)]:=by have:=Ny (B:=B) (k:=q) (off:=0) (m:=m) (cc:=0) hx (len:=m*size) (λh=>by rw[h,lP]);rw[mT,kT (u5 hlen)]at this;exact this
  exact aJx (B:=B) ho bH hs hlen h63 hb k)
theorem aDL{size n:Nat}{nd:q_}{x:m_}(h:lV P f l ty size n xs)(hs:gB B l (vs++ca) nd)(ho:dD o.op=some x)(e8:gO P f=true)(hx:(xs.all flat)=true)(k:Nat):
  cI P B o (.func (.func f) #[] ca.toArray::vs) ((k,none)::nd) (.slice (some ⟨k,0,some 7⟩) n 0) [(k,.row xs ty size)]:=by
 have:=jV (P:=P) (B:=B) (o:=o) (x:=x) (f:=f) (fi:=[]) (args:=vs) (ca:=ca) (need:=(k,none)::nd) (val:=.slice (some ⟨k,0,some 7⟩) n 0) (cZ:=[(k,.row xs ty size)]) ho e8 ?_
 ·simpa using this
 ·intro ι c w hm hn args' ha;rw[jg]at ha;refine(h w args' (Cv hs hm (λp hp=>hn p (bF _ hp)) ha)).mono ?_
  rintro e w' ⟨v,rfl,h1,h2⟩
  obtain⟨az,q1,q2,q3⟩:=Fw hm h2 (k:=k) (hn (k,none) (aT ..)) h1 (bB.1 hx);exact⟨az,v,rfl,q1,q3,q2⟩
def Mk(P:j_)(o:Oper):Bool:=match o.op with
 |.call c=>match c.callee,c.args.toList,c.argTypes.toList with
  |.builtin .len,[_],[t]=>(match P.underlying t with|some (.slice _)=>true|_=>false)
  |_,_,_=>false
 |_=>false
theorem aDM(ho:Mk P o=true):∃ x t e,o.op=.call { callee:=.builtin .len,args:=#[x],argTypes:=#[t]}/\P.underlying t=some (.slice e):=by
 unfold Mk at ho;split at ho
 ·rename_i c cg;split at ho
  ·rename_i x t h1 h2 h3;split at ho
   ·rename_i e ht;refine⟨x,t,e,?_,ht⟩;rw[cg];obtain⟨ce,ar,at'⟩:=c;dsimp only at h1 h2 h3;subst h1;have e1:ar=#[x]:=by rw[<-An (xs:=ar),h2]
    have e2:at'=#[t]:=by rw[<-An (xs:=at'),h3]
    rw[e1,e2]
   ·cases ho
  ·cases ho
 ·cases ho
theorem aO.less{w:h_}(hm:aO B ι c w){s:Nat}{cells:ak}(hk:c k=some (.row cells ty s))(m:Nat):aO B ι (bA c k (.row (cells.take m) ty s)) w:=by
 obtain⟨l,h1,h2⟩:=hm.born k _ hk;rcases h2 with ⟨h2,h3⟩|⟨b,cap,cur,e1,e2,e3,e4,e5⟩
 ·subst h3;refine hm.ext λj=>?_;unfold bA;by_cases hj:j=k
  ·rw[aB hj,hj,hk,List.take_nil]
  ·rw[av hj]
 ·subst e1;refine hm.write hk rfl h1 (.refl w) rfl rfl (bC _) (λ_ _ _=>rfl) (.inr ⟨b,cap,cur,rfl,e2,e3,e4,?_⟩) n_ rfl;have:=e5.take m;rw[NC]at this;rw[jH];exact this
theorem aN6{s:Nat}(ho:sR P o=some (false,true,s)){n h sz:Nat}{cells:ak}(hh:h<=n):
  cI P B o [.slice (some ⟨k,0,some 7⟩) n 0,vI h] [(k,some (.row cells ty sz))] (.slice (some ⟨k,0,some 7⟩) h 0) [(k,.row (cells.take m) ty sz)]:=by
 have:=HM (B:=B) ho (k:=k) (off:=0) (n:=n) (cc:=0) (l:=0) (h:=h) (λ_=>rfl) n_ (lM _) hh (.inr rfl);have h0:cI P B o [.slice (some ⟨k,0,some 7⟩) n 0,vI h] [] (.slice (some ⟨k,0,some 7⟩) h 0) []:=by simpa using this
 intro R ι c a w hv hm hn K Q hK;refine h0 R ι c a w hv hm n_ K Q λaz v' w' h1 h2 h3=>hK az v' w' h1 h2 ?_;exact aO.less h3 (hn (k,_) (aT ..)) m
def bd.cut(fn:Func)(key k n h m s sz ty:Nat)(cells new:ak)(hh:h<=n)(lL:cells.take m=new)(ho:sR P (aw fn key)=some (false,true,s)):bd P B N:=
 .step key (aw fn key) [.slice (some ⟨k,0,some 7⟩) n 0,vI h] [(k,some (.row cells ty sz))] (.slice (some ⟨k,0,some 7⟩) h 0) [(k,.row new ty sz)] (by subst lL;exact aN6 ho hh)
end
def AH:Code->Code|.seq a _=>a|c=>c
def xf:Code->Code|.seq _ b=>b|c=>c
def fY(fn:Func):Code:=match fn.body with|some c=>c|none=>.skip
theorem aN7(l:l_):au l=eK (l.map λx:Nat=>(x:Int)):=by simp[au,eK];intro _ _;rfl
theorem k7.snoc{w:h_}{cs:ak}{i:Int}{l:List Int}(h:k7 w fs cs)(hr:cW w u l.length (eK l))(hu:Go.Proofs.YtmocejjfkdcgkaaGreatDoor.flat u=true):k7 w (fs++[(i,l)]) (cs++[iV i,u]):=by
 induction h with
 |nil=>exact .cons hr hu .nil
 |cons h1 h2 _ ih=>exact .cons h1 h2 ih
section
variable{P:j_}{B:aa}{N:Nat}
theorem aO.aN8{w:h_}(hm:aO B ι c w){s:Nat}{cells:ak}(hk:c k=some (.row cells ty s))(hl:cells'.length=cells.length)(h:∀ bL,bW (aK ι) cells bL->bW (aK ι) cells' bL):aO B ι (bA c k (.row cells' ty s)) w:=by
 obtain⟨l,h1,h2⟩:=hm.born k _ hk;rcases h2 with ⟨h2,h3⟩|⟨b,cap,cur,e1,e2,e3,e4,e5⟩
 ·subst h3;have:cells'=[]:=mf hl;subst this;refine hm.ext λj=>?_;unfold bA;by_cases hj:j=k
  ·rw[aB hj,hj,hk]
  ·rw[av hj]
 ·subst e1;refine hm.write hk rfl h1 (.refl w) rfl rfl (bC _) (λ_ _ _=>rfl) (.inr ⟨b,cap,cur,rfl,e2,e3,e4,?_⟩) n_ rfl;rw[hl];exact h _ e5
theorem aN9{w:h_}(hm:aO B ι c w){cells:ak}(hk:c k=some (.row cells ty 1)):∃ u,aK ι (.slice (some ⟨k,0,some 7⟩) cells.length 0) u:=by
 obtain⟨l,h1,h2⟩:=hm.born k _ hk;rcases h2 with ⟨h2,h3⟩|⟨b,cap,cur,e1,e2,e3,e4,e5⟩
 ·subst h2;subst h3;exact⟨_,.slcN h1⟩
 ·subst e1;have hl:=e5.length;simp only[jH,zj,gS]at hl e4;exact⟨_,.slc (c:=0) (c':=cap) h1 o_ o_⟩
theorem St.nil{fr:aX}{M:aL}{next:Nat}{a:Act}{w:h_}(h:St B N fr M next a w)(t:Nat)(ht:bJ fr t=.slice none 0 0)(ty:TypeId)(s:Nat):
  St B N ((t,.slice (some ⟨next,0,some 7⟩) 0 0)::fr) ((next,.row [] ty s)::M) (next+1) a w:=by
 obtain⟨ι,cc,h1,h2,h3,h4⟩:=h;have hn:=h4 next (bC _);have hle:Map.le ι (dS ι next .nil):=ij (h2.dF next hn);refine⟨dS ι next .nil,bA cc next (.row [] ty s),⟨h1.defers,h1.size,λt'=>?_⟩,h2.add hn (.inl ⟨rfl,rfl⟩) n_ n_ n_,λk x e=>?_,λk hk=>?_⟩
 ·have h0:=h1.slot t';rw[show bJ ((t,Value.slice (some ⟨next,0,some 7⟩) 0 0)::fr) t'=if Nat.beq t t'=true then .slice (some ⟨next,0,some 7⟩) 0 0 else bJ fr t' from rfl];by_cases hb:Nat.beq t t'=true
  ·rw[aB hb];have:=lj hb;subst this;rw[ht]at h0;rw[(h0.Bp rfl).eZ rfl];exact .inr (.slcN (gg _ _ _))
  ·rw[av hb];exact h0.mono hle
 ·unfold ag at e;split at e
  ·rename_i hb;injection e with e;subst e;unfold bA;rw[aB (lj hb).symm]
  ·have:=h3 k x e;have aQ:k≠next:=λe'=>by subst e';rw[hn]at this;cases this
   unfold bA;rw[av aQ];exact this
 ·unfold bA;rw[av o_];exact h4 k o_
theorem St.QH{next:Nat}{a:Act}{w:h_}{Wn:TypeId}(h:St (B.iu ks) N fr M next a w)
  (hm:ag M m=some (.row xs ty 1)) (cR:(xs.all flat)=true) (hk:ag M k=some (.row (pre++[u',.slice (some ⟨m,0,some 7⟩) xs.length 0]) Wn 2)) (hmk:m≠k) :
  ∃ u,flat u=true/\(∀ b,iU u=some b->¬B.cU b)/\St (B.iu ((u,xs)::ks)) N fr ((k,.row (pre++[u',u]) Wn 2)::(m,.dead)::M) next a w:=by
 obtain⟨ι,cc,h1,h2,h3,h4⟩:=h;obtain⟨u,hu⟩:=aN9 h2 (h3 m _ hm);obtain⟨g1,g2,g3⟩:=Go.Proofs.YtmocejjfkdcgkaaGreatDoor.QH h2 (h3 m _ hm) (bB.1 cR) hu;have GI:bA cc m .dead k=some (.row (pre++[u',.slice (some ⟨m,0,some 7⟩) xs.length 0]) Wn 2):=by unfold bA;rw[av (λe=>hmk e.symm)];exact h3 k _ hk
 have g4:=g1.aN8 (cells':=pre++[u',u]) GI s_ λbL hc=>by
  have hl:(pre++[u',Value.slice (some ⟨m,0,some 7⟩) xs.length 0]).length=bL.length:=hc.length;have c1:=hc.take (pre.length+1);have c2:=hc.drop (pre.length+1);rw[lh]at hl;have e1:(pre++[u',Value.slice (some ⟨m,0,some 7⟩) xs.length 0]).take (pre.length+1)=pre++[u']:=by rw[aC4];simp[kT]
  have e2:(pre++[u',Value.slice (some ⟨m,0,some 7⟩) xs.length 0]).drop (pre.length+1)=[.slice (some ⟨m,0,some 7⟩) xs.length 0]:=by rw[List.drop_append];simp[List.drop_eq_nil_of_le]
  rw[e1]at c1;rw[e2]at c2;obtain⟨x,hx,hxc⟩:=ob c2;have:=Ko hxc hu;subst this;rw[<-Ml (pre.length+1) bL,hx,show pre++[u',x]=(pre++[u'])++[x]by simp];exact c1.append (.cons (.same g2) .nil)
 refine⟨u,g2,g3,ι,_,⟨h1.defers,h1.size,h1.slot⟩,g4,λj x e=>?_,λj hj=>?_⟩
 ·unfold ag at e;split at e
  ·rename_i hb;injection e with e;subst e;unfold bA;rw[aB (lj hb).symm]
  ·rename_i hb;have b9:j≠k:=λe'=>hb (by rw[e'];exact HJ k);unfold ag at e;split at e
   ·rename_i gF;injection e with e;subst e;unfold bA;rw[av b9,aB (lj gF).symm]
   ·rename_i gF;have hjm:j≠m:=λe'=>gF (by rw[e'];exact HJ m);unfold bA;rw[av b9,av hjm];exact h3 j x e
 ·have oU:k<next:=by
   rcases e7 k next with h|h
   ·exact h
   ·have:=h4 k h;rw[h3 k _ hk]at this;cases this
  have cN:m<next:=by
   rcases e7 m next with h|h
   ·exact h
   ·have:=h4 m h;rw[h3 m _ hm]at this;cases this
  unfold bA;rw[av o_,av o_];exact h4 j hj
def aDN(P:j_)(f:FuncId)(l:List aR)(F:Fact):Prop:=
 ∀ w vs,uA w l vs->Calls P f vs.toArray w λe w'=>∃ v,e=.returned v/\Ct w' v F/\(∀ b,F.cU v w' b->w.heap.size<=b)/\Below w.heap.size w w'
end
def Fact.nq(F:Fact)(S:Nat):Fact where
 G v w:=F.G v w/\∀ b,F.cU v w b->S<=b
 cU:=F.cU
 lt v w k h hk:=F.lt v w k h.1 hk
 dep v w w' h hs hk:=by obtain⟨h1,h2⟩:=F.dep v w w' h.1 hs hk;exact⟨⟨h1,λb hb=>h.2 b (h2 b hb)⟩,h2⟩
 rc:=F.rc
 soft hr v w w' h hs hk:=by obtain⟨h1,h2⟩:=F.soft hr v w w' h.1 hs hk;exact⟨⟨h1,λb hb=>h.2 b (h2 b hb)⟩,h2⟩
section
variable{P:j_}{B:aa}{N:Nat}
theorem aOa{F:Fact}{nd:q_}{x:m_}{S:Nat}(h:aDN P f l F)(hs:gB B l vs nd)(ho:dD o.op=some x)(e8:gO P f=true)(xw:F.rc=false)(hS:∀ w,B.G w->S<=w.heap.size)(k:Nat):
  cI P B o (.func (.func f) #[] #[]::vs) ((k,none)::nd) (.pointer (some ⟨k,0,some 9⟩)) [(k,.fact (F.nq S))]:=by
 have:=jV (P:=P) (B:=B) (o:=o) (x:=x) (f:=f) (fi:=[]) (args:=vs) (ca:=[]) (need:=(k,none)::nd) (val:=.pointer (some ⟨k,0,some 9⟩)) (cZ:=[(k,.fact (F.nq S))]) ho e8 ?_
 ·simpa using this
 ·intro ι c w hm hn args' ha;rw[jg,jL]at ha;refine(h w args' (Cv hs hm (λp hp=>hn p (bF _ hp)) ha)).mono ?_
  rintro e w' ⟨v,rfl,⟨h1,h2,h3⟩,h4,h5⟩
  have Mm:=hS w hm.base;refine⟨dS ι k (.val v),v,rfl,ij (hm.dF k (hn (k,none) (aT ..))),.opq (gg _ _ _) h2 h3,hm.new h5 (hn (k,none) (aT ..)) ⟨v,rfl,h1,λb hb=>dq Mm (h4 b hb)⟩ n_ (λF' v' b e1 e2 hF=>?_) rfl λF' e hr=>?_⟩
  ·injection e1 with e1;subst e1;injection e2 with e2;subst e2;exact .inl (h4 b hF)
  ·injection e with e;subst e;have:F.rc=true:=hr;rw[xw]at this;cases this
structure aOb(w w':h_)(lE s1 n1:Nat)(iS:ak)(vU s2 n2:Nat)(jB:ak)(F:Fact)(v1 v2 v3:i_):Prop where
 r1:w'.ownsRow w.heap.size lE s1 v1 n1 iS
 r2:w'.ownsRow w.heap.size vU s2 v2 n2 jB
 r3:Ct w' v3 F
 f3:∀ b,F.cU v3 w' b->w.heap.size<=b
 a12:∀ b,iU v1=some b->iU v2≠some b
 QI:∀ b,iU v1=some b->¬F.cU v3 w' b
 a23:∀ b,iU v2=some b->¬F.cU v3 w' b
def CL(P:j_)(f:FuncId)(l:List aR)(lE s1 n1:Nat)(iS:ak)(vU s2 n2:Nat)(jB:ak)(F:Fact)(us:ak):Prop:=
 ∀ w vs,uA w l vs->Calls P f vs.toArray w λe w'=>∃ v1 v2 v3,e=.returned (.tuple (.agg #[v1,v2,v3]::us).toArray)/\aOb w w' lE s1 n1 iS vU s2 n2 jB F v1 v2 v3/\Below w.heap.size w w'
theorem Jd{w:h_}(hm:aO B ι c w){n b:Nat}{v:i_}(hc:aK ι (.slice (some ⟨k,0,some 7⟩) n cc) v)(hb:iU v=some b):∃ o cap,ι k=some (.at b o cap):=by
 rcases hc.iF rfl with ⟨_,_,_,_,q5⟩|⟨b',oo,cap,c',q1,_,_,q5⟩
 ·rw[q5]at hb;cases hb
 ·rw[q5]at hb;injection hb with hb;subst hb;exact⟨oo,cap,q1⟩
theorem Wo{n1 n2 k3:Nat}{jB us:ak}{F:Fact}(gW:P.follows .mixedOrders=true)(hf:P.funcs[f]?=some fn)(hl:(l.all aR.ok)=true)(n:Nat){N:Nat}(hN:N=(eC 0 l).length+(fn.ntmps-(eC 0 l).length))
  (rs:∀ w,bM P (aa.at w) N) (h:∀ w,oq (gv (P:=P) fn n (eC 0 l) (ja 0 l) (jo 0 l) (rs w)) [(k1,.row eU A U),(k2,.row jB a1 m1),(k3,.fact (F.nq w.heap.size))] =
   ou (gv fn n (eC 0 l) (ja 0 l) (jo 0 l) (rs w)) (.tuple (.agg #[.slice (some ⟨k1,0,some 7⟩) n1 0,.slice (some ⟨k2,0,some 7⟩) n2 0,.pointer (some ⟨k3,0,some 9⟩)]::us).toArray) [(k1,.row eU A U),(k2,.row jB a1 m1),(k3,.fact (F.nq w.heap.size))])
  (VG:k1≠k2) (vC:(eU.all flat)=true) (wo:eU.length=n1*U) (iv:(jB.all flat)=true) (ju:jB.length=n2*m1) (hu:(us.all flat)=true):CL P f l A U n1 eU a1 m1 n2 jB F us:=by
 intro w vs cz;obtain⟨ι,c,h1,h2,h3,h4,h5,h6,h7⟩:=wS cz (bB.1 hl) 0 _ _ (rG w) n_ (λ_ _=>rfl);refine sO gW hf hN n (h w) h6 h2 h4 h3 λaz cr v' w' hle hc hm dQ=>?_;obtain⟨cT,rfl,qB⟩:=hc.uY;have hc:bW (aK az) (.agg #[.slice (some ⟨k1,0,some 7⟩) n1 0,.slice (some ⟨k2,0,some 7⟩) n2 0,.pointer (some ⟨k3,0,some 9⟩)]::us) cT.toList:=qB;cases aZ:cT.toList with
 |nil=>rw[aZ]at hc;cases hc
 |cons a t=>
  rw[aZ]at hc;cases hc with
  |cons ha ht=>
   obtain⟨ags,rfl,gV⟩:=ha.Hy;have Cr:bW (aK az) [.slice (some ⟨k1,0,some 7⟩) n1 0,.slice (some ⟨k2,0,some 7⟩) n2 0,.pointer (some ⟨k3,0,some 9⟩)] ags.toList:=gV;obtain⟨v1,v2,v3,e3,c1,c2,c3⟩:=J9 Cr;have et:=oc ht (bB.1 hu);have g1:=dQ (k1,_) (aT ..);have g2:=dQ (k2,_) (bF _ (aT ..));have g3:=dQ (k3,_) (bF _ (bF _ (aT ..)));have o1:=xI hm g1 c1 o_ (bB.1 vC);have o2:=xI hm g2 c2 o_ (bB.1 iv);rw[<-wo,o5]at o1;rw[<-ju,o5]at o2;have o3:=Am hm g3 c3;have aDO:az k3=some (.val v3):=by
    obtain⟨lc,q1,u,q2,q3⟩:=hm.born k3 _ g3;subst q2;generalize hp:Value.pointer (some ⟨k3,0,some 9⟩)=p at c3;cases c3 with
    |same h=>subst hp;cases h
    |ptr h=>injection hp with hp;injection hp with hp;injection hp with _ _ hp;cases hp
    |slc h=>cases hp
    |slcN h=>cases hp
    |opq h4 h5 h6=>injection hp with hp;injection hp with hp;injection hp with gQ;subst gQ;exact h4
    |fn=>cases hp
    |agg=>cases hp
    |tup=>cases hp
   refine⟨v1,v2,v3,?_,⟨o1,o2,⟨o3.1.1,o3.2⟩,o3.1.2,λb nB gF=>?_,λb hb hF=>?_,λb hb hF=>?_⟩,hm.base⟩
   ·congr 2
    rw[<-An (xs:=cT),aZ,et]
    congr 2
    congr 1
    rw[<-An (xs:=ags),e3]
   ·obtain⟨o,cap,q1⟩:=Jd hm c1 nB;obtain⟨o',aU,q2⟩:=Jd hm c2 gF;exact VG (hm.inj k1 k2 _ _ b o cap o' aU g1 rfl g2 rfl q1 q2)
   ·obtain⟨o,cap,q1⟩:=Jd hm c1 hb;exact hm.apart k1 k3 _ _ b o cap v3 g1 rfl q1 g3 aDO hF
   ·obtain⟨o,cap,q1⟩:=Jd hm c2 hb;exact hm.apart k2 k3 _ _ b o cap v3 g2 rfl q1 g3 aDO hF
theorem Wp{w':h_}{S n s:Nat}{v:i_}(hm:aO B ι c w')(hk:c k=none)(hr:w'.ownsRow S ty s v n xs)(cR:(xs.all flat)=true)(hB:∀ b,B.cU b->b<S)
  (hold:∀ j y b o cap,c j=some y->ι j=some (.at b o cap)->y.owns=true\/y.kh=true->iU v≠some b) (aOc:∀ j F u b,c j=some (.fact F)->ι j=some (.val u)->iU v=some b->¬F.cU u w' b) :
  ∃ az,Map.le ι az/\aO B az (bA c k (.row xs ty s)) w'/\aK az (.slice (some ⟨k,0,some 7⟩) n 0) v/\∀ b o cap,az k=some (.at b o cap)->iU v=some b:=by
 have hle:∀ l,Map.le ι (dS ι k l):=λl=>ij (hm.dF k hk);rcases hr.2 with ⟨h1,h2⟩|⟨g,cap,cur,h1,h2,h3,h4,h5,h6,h7⟩
 ·have hl:=hr.1;rw[h2,lP]at hl;have hx:xs=[]:=mf hl;subst h1;subst h2;subst hx;exact⟨dS ι k .nil,hle _,hm.add hk (.inl ⟨rfl,rfl⟩) n_ n_ n_,.slcN (gg _ _ _),λb o cap e=>by rw[gg]at e;cases e⟩
 ·subst h1;refine⟨dS ι k (.at g 0 cap),hle _,hm.add hk (.inr ⟨g,cap,cur,rfl,h3,h5,h6,?_⟩) (λb1 o1 l8 _ e=>?_) n_ n_,.slc (o:=0) (off:=0) (gg _ _ _) h4 o_,λb1 o1 l8 e=>?_⟩
  ·rw[hr.1,h7];exact kO (bB.1 cR)
  ·injection e with e;subst e;refine⟨(zx.1 h3).1,λhF=>by have:=hB _ hF;omega,λj y o' aU hj hy he=>hold j y g o' aU hj he (.inl hy) rfl,λj F u hj hu hF=>aOc j F u g hj hu rfl hF,λj y o' aU hj hy he=>hold j y g o' aU hj he (.inr hy) rfl⟩
  ·rw[gg]at e;injection e with e;injection e with e;subst e;rfl
theorem Mn{n1 n2:Nat}{jB:ak}{F:Fact}{us:ak}{nd:q_}{x:m_}{S:Nat}(h:CL P f l A U n1 eU a1 n' n2 jB F us)(hs:gB B l vs nd)(ho:dD o.op=some x)(e8:gO P f=true)(xw:F.rc=false)
  (f1:(eU.all flat)=true) (f2:(jB.all flat)=true) (fu:(us.all flat)=true) (hS:∀ w,B.G w->S<=w.heap.size) (k:Nat) :
  cI P B o (.func (.func f) #[] #[]::vs) ((k,none)::(k+1,none)::(k+2,none)::nd) (.tuple (.agg #[.slice (some ⟨k,0,some 7⟩) n1 0,.slice (some ⟨k+1,0,some 7⟩) n2 0,.pointer (some ⟨k+2,0,some 9⟩)]::us).toArray)
   [(k+2,.fact (F.nq S)),(k+1,.row jB a1 n'),(k,.row eU A U)]:=by
 have:=jV (P:=P) (B:=B) (o:=o) (x:=x) (f:=f) (fi:=[]) (args:=vs) (ca:=[]) (need:=(k,none)::(k+1,none)::(k+2,none)::nd)
  (val:=.tuple (.agg #[.slice (some ⟨k,0,some 7⟩) n1 0,.slice (some ⟨k+1,0,some 7⟩) n2 0,.pointer (some ⟨k+2,0,some 9⟩)]::us).toArray) (cZ:=[(k+2,.fact (F.nq S)),(k+1,.row jB a1 n'),(k,.row eU A U)]) ho e8 ?_
 ·simpa using this
 ·intro ι c w hm hn args' ha;rw[jg,jL]at ha;have k0:c k=none:=hn (k,none) s_;have k1:c (k+1)=none:=hn (k+1,none) s_;have k2:c (k+2)=none:=hn (k+2,none) s_;refine(h w args' (Cv hs hm (λp hp=>hn p (by simp[hp])) ha)).mono ?_
  rintro e w' ⟨v1,v2,v3,rfl,⟨r1,r2,r3,f3,a12,QI,a23⟩,hb⟩
  have Mm:=hS w hm.base;have vV:=hm.call hb
  -- where aWT lie
  have da:∀ j y b o cap,c j=some y->ι j=some (.at b o cap)->y.owns=true\/y.kh=true->b<w.heap.size:=λj y b o cap hj hl hy=>by
   rcases hy with hy|hy
   ·exact(hm.own j y b o cap hj hy hl).1
   ·exact(hm.seen j y b o cap hj hy hl).1
  have QJ:∀ j F u b,c j=some (.fact F)->ι j=some (.val u)->F.cU u w' b->b<w.heap.size:=λj F u b hj hu hF=>by have hF:=hm.C6 hj hu hb.size (λk hk _=>hb.block k hk) hF;obtain⟨l,q1,q2⟩:=hm.born j _ hj;rw[hu]at q1;injection q1 with q1;exact q2.xu q1.symm hF
  have Mo:∀ b,iU v1=some b->w.heap.size<=b:=λb hb=>by
   rcases r1.2 with ⟨h1,_⟩|⟨g,cap,cur,h1,h2,_⟩
   ·rw[h1]at hb;cases hb
   ·rw[h1]at hb;injection hb with hb;subst hb;exact h2
  have aDP:∀ b,iU v2=some b->w.heap.size<=b:=λb hb=>by
   rcases r2.2 with ⟨h1,_⟩|⟨g,cap,cur,h1,h2,_⟩
   ·rw[h1]at hb;cases hb
   ·rw[h1]at hb;injection hb with hb;subst hb;exact h2
  have QK:∀ b,B.cU b->b<w.heap.size:=λb hF=>B.lt w b hm.base hF;obtain⟨bX,l1,m1,c1,p1⟩:=Wp vV k0 r1 f1 QK (λj y b o cap hj hl hy e=>by have a:=da j y b o cap hj hl hy;have b:=Mo b e;omega) (λj F u b hj hu e hF=>by have a:=QJ j F u b hj hu hF;have b:=Mo b e;omega);have bn:∀{ι:Map} {c:g_},aO B ι c w'->∀ j y,c j=some y->∃ l,ι j=some l:=λh j y hj=>by obtain⟨l,q,_⟩:=h.born j y hj;exact⟨l,q⟩
  have back:∀{ι bX:Map} {c:g_},aO B ι c w'->Map.le ι bX->∀ j y l,c j=some y->bX j=some l->ι j=some l:=λh hle j y l hj hl=>by obtain⟨l',cB⟩:=bn h j y hj;have:=hle j l' cB;rw[hl]at this;injection this with this;rw[this];exact cB
  have QL:bA c k (.row eU A U) (k+1)=none:=by unfold bA;rw[av o_];exact k1
  have Mp:∀ j y,bA c k (.row eU A U) j=some y->(j=k/\y=.row eU A U)\/(j≠k/\c j=some y):=λj y hj=>by
   unfold bA at hj;by_cases b9:j=k
   ·rw[aB b9]at hj;injection hj with hj;exact .inl ⟨b9,hj.symm⟩
   ·rw[av b9]at hj;exact .inr ⟨b9,hj⟩
  obtain⟨dP,l2,m2,c2,p2⟩:=Wp m1 QL r2 f2 QK (λj y b o cap hj hl hy e=>by
   rcases Mp j y hj with ⟨rfl,rfl⟩|⟨_,hj⟩
   ·exact a12 b (p1 b o cap hl) e
   ·have a:=da j y b o cap hj (back vV l1 j y _ hj hl) hy;have b:=aDP b e;omega) (λj F u b hj hu e hF=>by
   rcases Mp j _ hj with ⟨_,h⟩|⟨_,hj⟩
   ·cases h
   ·have a:=QJ j F u b hj (back vV l1 j _ _ hj hu) hF;have b:=aDP b e;omega)
  have k2':bA (bA c k (.row eU A U)) (k+1) (.row jB a1 n') (k+2)=none:=by unfold bA;rw[av o_,av o_];exact k2
  have m3:aO B (dS dP (k+2) (.val v3)) (bA (bA (bA c k (.row eU A U)) (k+1) (.row jB a1 n')) (k+2) (.fact (F.nq S))) w':=
   m2.add k2' ⟨v3,rfl,r3.1,λb hF=>dq Mm (f3 b hF)⟩ n_ (λF' v b e1 e2 hF j y o' aU hj hy he=>by
    injection e1 with e1;subst e1;injection e2 with e2;subst e2;have hF:F.cU v3 w' b:=hF;have B0:=hj;unfold bA at hj;by_cases b9:j=k+1
    ·subst b9;exact a23 b (p2 b o' aU he) hF
    ·rw[av b9]at hj;have he1:=back m1 l2 j y _ hj he;rcases Mp j y hj with ⟨rfl,rfl⟩|⟨_,hj⟩
     ·exact QI b (p1 b o' aU he1) hF
     ·have h1:=da j y b o' aU hj (back vV l1 j y _ hj he1) (.inl hy);have h2:=f3 b hF;omega) n_ λF' e hr=>by
    injection e with e;subst e;have:F.rc=true:=hr;rw[xw]at this;cases this
  have l3:Map.le dP (dS dP (k+2) (.val v3)):=ij (m2.dF _ k2');refine⟨_,_,rfl,l1.trans (l2.trans l3),.tup ?_,m3⟩;refine .cons (.agg (.cons (c1.mono (l2.trans l3)) (.cons (c2.mono l3) (.cons (.opq (gg _ _ _) r3.2.1 r3.2.2) .nil)))) (kO λv hv=>bB.1 fu v hv)
end
variable{size:Nat}{w:h_}
def mL(ι az:Map)(ns:l_):Map:=λk=>if ns.contains k then az k else ι k
def inN(ns:l_):Value->Bool
 |.slice (some ad) _ _=>nu ad&&ns.contains ad.block
 |.pointer (some ad)=>nu ad&&ns.contains ad.block
 |.func _ fi ca=>match fi.toList,ca.toList with|[],[.pointer (some ad)]=>nu ad&&ns.contains ad.block|_,_=>false
 |_=>false
def GJ(K:Nat)(ns:l_)(v:i_):Bool:=om K v||inN ns v
theorem aDQ{K:Nat}{ns:l_}(dJ:∀ k,k<K->∀ lc,az k=some lc->ι k=some lc){v:i_}(aC:GJ K ns v=true)(h:aK az v v'):aK (mL ι az ns) v v':=by
 unfold GJ at aC;rw[vl]at aC;rcases aC with aC|aC
 ·refine h.low (λk hk l e=>?_) aC;unfold mL;by_cases hc:ns.contains k=true
  ·rw[aB hc];exact e
  ·rw[av hc];exact dJ k hk l e
 ·have key:∀{k:Nat} {l:pR},ns.contains k=true->az k=some l->mL ι az ns k=some l:=λhk e=>by unfold mL;rw[aB hk];exact e
  unfold inN at aC;split at aC
  ·rename_i ad n c;rw[dr]at aC;obtain⟨bl,off,sp⟩:=ad;have vT:=Hx aC.1;have cz:=aC.2;dsimp only at vT cz;subst vT;rcases h.iF rfl with ⟨q1,q2,q3,q4,q5⟩|⟨b,oo,cap,c',q1,q2,q3,q5⟩
   ·dsimp only at q1 q4;rw[q5,q2,q3,q4];exact .slcN (key cz q1)
   ·dsimp only at q1 q5;rw[q5];exact .slc (key cz q1) q2 q3
  ·rename_i ad;rw[dr]at aC;obtain⟨bl,off,sp⟩:=ad;have vT:=Hx aC.1;have cz:=aC.2;dsimp only at vT cz;subst vT;obtain⟨b,o,cap,q1,q2⟩:=h.xt rfl;dsimp only at q1 q2;rw[q2];exact .ptr (key cz q1)
  ·obtain⟨kg,eh,rfl,h1,h2⟩:=h.Bo;split at aC
   ·rename_i ad e1 e2;rw[dr]at aC;obtain⟨bl,off,sp⟩:=ad;have vT:=Hx aC.1;have cz:=aC.2;dsimp only at vT cz;subst vT;rw[e2]at h2;obtain⟨u,e3,h3⟩:=ob h2;obtain⟨b,o,cap,q1,q2⟩:=h3.xt rfl;dsimp only at q1 q2;refine .fn ?_ ?_
    ·rw[e1]at h1 ⊢;cases pj:kg.toList with
     |nil=>exact .nil
     |cons _ _=>rw[pj]at h1;cases h1
    ·rw[e2,e3,q2];exact .cons (.ptr (key cz q1)) .nil
   ·cases aC
  ·cases aC
theorem QM{K:Nat}{ns:l_}{ι az:Map}(dJ:∀ k,k<K->∀ lc,az k=some lc->ι k=some lc):∀{l l':ak},(∀ v∈l,GJ K ns v=true)->bW (aK az) l l'->bW (aK (mL ι az ns)) l l'
 |_,_,_,.nil=>.nil
 |_,_,aC,.cons h1 h2=>.cons (aDQ dJ (aC _ (aT ..)) h1) (QM dJ (λv hv=>aC v (bF _ hv)) h2)
theorem aOd{K:Nat}{ns:l_}(dJ:∀ k,k<K->∀ lc,az k=some lc->ι k=some lc){x:Obj}(aC:∀ v∈x.cells,GJ K ns v=true){l:pR}(h:jR az w l x):jR (mL ι az ns) w l x:=by
 cases x with
 |aM cells ty=>obtain⟨b,bL,e1,e2,e3⟩:=h;exact⟨b,bL,e1,QM dJ aC e2,e3⟩
 |row cells ty size=>
  rcases h with h|⟨b,cap,cur,e1,e2,e3,e4,e5⟩
  ·exact .inl h
  ·exact .inr ⟨b,cap,cur,e1,e2,e3,e4,QM dJ aC e5⟩
 |view cells=>
  rcases h with h|⟨b,o,cap,cs,e1,e2,e3⟩
  ·exact .inl h
  ·exact .inr ⟨b,o,cap,cs,e1,QM dJ aC e2,e3⟩
 |fact F=>exact h
 |dead=>trivial
section
variable{P:j_}{B:aa}{w w4:h_}{K:Nat}{S:Nat->Prop}{ι:Map}{c:g_}{ns:l_}
theorem aOe(h:aO B ι c w)(hO:cY c Os)(dX:∀ k x,ag Os k=some x->x.owns=true)(tu:∀ k x,ag cx k=some x->x.owns=true\/x=.dead)
  (ko:∀ k,ag cx k=none↔(ag Os k=none/\ns.contains k=false)) (E7:∀ k,ns.contains k=true->c k=none) (hS:∀ b,S b->∃ k x o cap,ag Os k=some x/\ι k=some (.at b o cap))
  {az:Map} {c':g_} (hm:aO (aa.LZ w S) az c' w4) (tx:cY c' cx) (dJ:∀ k,k<K->∀ lc,az k=some lc->ι k=some lc) (aC:∀ k x,ag cx k=some x->∀ v∈x.cells,GJ K ns v=true)
  (oU:∀ k x,ag Os k=some x->k<K):Map.le ι (mL ι az ns)/\aO B (mL ι az ns) (l9 c cx) w4:=by
 have hle:Map.le ι (mL ι az ns):=λk l e=>by
  unfold mL;by_cases hc:ns.contains k=true
  ·rw[h.dF k (E7 k hc)]at e;cases e
  ·rw[av hc];exact e
 have bH:w.heap.size<=w4.heap.size:=hm.base.2.2.2.1;have aM:∀ b,b<w.heap.size->¬S b->w4.heap[b]?=w.heap[b]?:=hm.base.2.2.2.2;have L0:∀ b,S b->¬B.cU b:=λb hb=>by obtain⟨k,x,o,cap,e1,e2⟩:=hS b hb;exact(h.own k x b o cap (hO k x e1) (dX k x e1) e2).2
 have da:∀ k,ns.contains k=false->mL ι az ns k=ι k:=λk e=>by unfold mL;rw[e];rfl
 have kinds:∀ k x,l9 c cx k=some x->(ag cx k=some x/\c' k=some x/\(x.owns=true\/x=.dead))\/(ag Os k=none/\ns.contains k=false/\c k=some x):=λk x e=>by
  rw[wB]at e;cases ho:ag cx k with
  |some y=>rw[ho]at e;injection e with e;subst e;exact .inl ⟨rfl,tx k y ho,tu k y ho⟩
  |none=>rw[ho]at e;exact .inr ⟨((ko k).1 ho).1,((ko k).1 ho).2,e⟩
 have same:∀ k x,ag cx k=some x->mL ι az ns k=az k:=λk x e=>by
  unfold mL;by_cases hc:ns.contains k=true
  ·rw[aB hc]
  ·rw[av hc];obtain⟨lc,q,_⟩:=hm.born k x (tx k x e);have:ag Os k≠none:=λhn=>by have:=(ko k).2 ⟨hn,by simpa using hc⟩;rw[e]at this;cases this
   cases hk:ag Os k with
   |none=>exact absurd hk this
   |some y=>rw[q,dJ k (oU k y hk) lc q]
 have D2:∀ k x b o cap,ag Os k=none->c k=some x->x.owns=true->ι k=some (.at b o cap)->¬S b:=λk x b o cap hn hc hx hl hs=>by obtain⟨k',x',o',aU,e1,e2⟩:=hS b hs;have:=h.inj k k' x x' b o cap o' aU hc hx (hO k' x' e1) (dX k' x' e1) hl e2;subst this;rw[hn]at e1;cases e1
 have D3:∀ k x b o cap,c k=some x->x.kh=true->ι k=some (.at b o cap)->¬S b:=λk x b o cap hc hx hl hs=>by obtain⟨k',x',o',aU,e1,e2⟩:=hS b hs;exact(h.seen k x b o cap hc hx hl).2 k' x' o' aU (hO k' x' e1) (dX k' x' e1) e2
 have yk:∀ k F v b,c k=some (.fact F)->ι k=some (.val v)->F.cU v w b->¬S b:=λk F v b hc hl hF hs=>by obtain⟨k',x',o',aU,e1,e2⟩:=hS b hs;exact h.apart k' k x' F b o' aU v (hO k' x' e1) (dX k' x' e1) e2 hc hl hF
 have part:∀ k x b o cap j y o' aU,ag cx k=some x->x.owns=true->mL ι az ns k=some (.at b o cap)->ag Os j=none->c j=some y->y.owns=true->ι j=some (.at b o' aU)->False:=λk x b o cap j y o' aU hk hx hl hj hc hy cB=>by
  rcases e7 b w.heap.size with al|ep
  ·have q:=(hm.own k x b o cap (tx k x hk) hx (by rw[<-same k x hk];exact hl)).2;exact q ⟨al,D2 j y b o' aU hj hc hy cB⟩
  ·have:=(h.own j y b o' aU hc hy cB).1;omega
 refine⟨hle,B.dep w w4 h.base hm.base.1 hm.base.2.1 hm.base.2.2.1 bH λk hk=>aM k (B.lt w k h.base hk) λhs=>L0 k hs hk,?_,?_,?_,?_,?_,?_,?_,?_,h.pg.trans hle⟩
 ·intro k hk;rw[wB]at hk;cases ho:ag cx k with
  |some y=>rw[ho]at hk;cases hk
  |none=>
   rw[ho]at hk;rw[da k ((ko k).1 ho).2];exact h.dF k hk
 ·intro k x hk;rcases kinds k x hk with ⟨h1,h2,h3⟩|⟨h1,hc,h2⟩
  ·obtain⟨lc,q1,q2⟩:=hm.born k x h2;exact⟨lc,by rw[same k x h1];exact q1,aOd dJ (aC k x h1) q2⟩
  ·obtain⟨lc,q1,q2⟩:=h.born k x h2;refine⟨lc,by rw[da k hc];exact q1,(q2.mono hle).iu bH (λb o cap hx e=>?_) λF v b e1 e2 hF=>?_⟩
   ·subst e;rcases hx with hx|hx
    ·exact aM b (h.own k x b o cap h2 hx q1).1 (D2 k x b o cap h1 h2 hx q1)
    ·exact aM b (h.seen k x b o cap h2 hx q1).1 (D3 k x b o cap h2 hx q1)
   ·subst e1;subst e2;exact aM b (q2.xu rfl hF) (yk k F v b h2 q1 hF)
 ·intro k x b o cap hk hx hl;rcases kinds k x hk with ⟨h1,h2,h3⟩|⟨h1,hc,h2⟩
  ·have cB:az k=some (.at b o cap):=by rw[<-same k x h1];exact hl
   obtain⟨q1,q2⟩:=hm.own k x b o cap h2 hx cB;refine⟨q1,λhF=>?_⟩;have gm:=B.lt w b h.base hF;exact q2 ⟨gm,λhs=>L0 b hs hF⟩
  ·rw[da k hc]at hl;obtain⟨q1,q2⟩:=h.own k x b o cap h2 hx hl;exact⟨cG q1 bH,q2⟩
 ·intro k j x y b o cap o' aU hk hx hj hy hl cB;rcases kinds k x hk with ⟨h1,h2,h3⟩|⟨h1,hc,h2⟩
  ·rcases kinds j y hj with ⟨p1,p2,p3⟩|⟨p1,kS,p2⟩
   ·exact hm.inj k j x y b o cap o' aU h2 hx p2 hy (by rw[<-same k x h1];exact hl) (by rw[<-same j y p1];exact cB)
   ·rw[da j kS]at cB;exact(part k x b o cap j y o' aU h1 hx hl p1 p2 hy cB).elim
  ·rw[da k hc]at hl;rcases kinds j y hj with ⟨p1,p2,p3⟩|⟨p1,kS,p2⟩
   ·exact(part j y b o' aU k x o cap p1 hy cB h1 h2 hx hl).elim
   ·rw[da j kS]at cB;exact h.inj k j x y b o cap o' aU h2 hx p2 hy hl cB
 ·intro k j x F b o cap v hk hx hl hj hv hF;rcases kinds j _ hj with ⟨_,_,p3⟩|⟨p1,oC,p2⟩
  ·rcases p3 with p3|p3<;>cases p3
  rw[da j oC]at hv;have hF:=h.C6 p2 hv bH (λk2 fP jd=>aM k2 fP (yk j F v k2 p2 hv jd)) hF;rcases kinds k x hk with ⟨h1,h2,h3⟩|⟨h1,hc,h2⟩
  ·have cB:az k=some (.at b o cap):=by rw[<-same k x h1];exact hl
   have hb:b<w.heap.size:=by obtain⟨lc,q1,q2⟩:=h.born j _ p2;rw[hv]at q1;injection q1 with q1;subst q1;exact q2.xu rfl hF
   exact(hm.own k x b o cap h2 hx cB).2 ⟨hb,yk j F v b p2 hv hF⟩
  ·rw[da k hc]at hl;exact h.apart k j x F b o cap v h2 hx hl p2 hv hF
 ·intro k x b o cap hk hx hl;rcases kinds k x hk with ⟨h1,h2,h3⟩|⟨h1,hc,h2⟩
  ·rcases h3 with h3|h3
   ·cases x<;>simp[Obj.owns,Obj.kh]at h3 hx
   ·subst h3;cases hx
  ·rw[da k hc]at hl;obtain⟨q1,q2⟩:=h.seen k x b o cap h2 hx hl;refine⟨cG q1 bH,λj y o' aU hj hy cB=>?_⟩;rcases kinds j y hj with ⟨p1,p2,p3⟩|⟨p1,kS,p2⟩
   ·have ju:az j=some (.at b o' aU):=by rw[<-same j y p1];exact cB
    exact(hm.own j y b o' aU p2 hy ju).2 ⟨q1,D3 k x b o cap h2 hx hl⟩
   ·rw[da j kS]at cB;exact q2 j y o' aU p2 hy cB
 ·intro j F hj;rcases kinds j _ hj with ⟨_,_,h3⟩|⟨h1,_,h2⟩
  ·rcases h3 with h3|h3<;>cases h3
  ·exact h.fa j F h2
 ·intro j k F F' hj hk;rcases kinds j _ hj with ⟨_,_,h3⟩|⟨_,_,h2⟩
  ·rcases h3 with h3|h3<;>cases h3
  rcases kinds k _ hk with ⟨_,_,h3⟩|⟨_,_,wM⟩
  ·rcases h3 with h3|h3<;>cases h3
  exact h.one j k F F' h2 wM
theorem aOf{x:m_}{val:i_}(h:yx P f K (args++ca) Os Vs val cx)(ho:dD o.op=some x)(e8:gO P f=true)(kV:GJ K ns val=true)
  (du:(args++ca).all (om K)=true) (dJ:((Os++Vs).all λp=>Nat.blt p.1 K&&mY K p)=true) (aC:∀ p∈cx,∀ v∈p.2.cells,GJ K ns v=true) (dX:(Os.all λp=>p.2.owns)=true) (tu:∀ p∈cx,p.2.owns=true\/p.2=.dead) (qw:(Vs.all λp=>p.2.soft)=true)
  (ko:∀ k,ag cx k=none↔(ag Os k=none/\ns.contains k=false)) :
  cI P B o (.func (.func f) #[] ca.toArray::args) (((Os++Vs).map λp=>(p.1,some p.2))++ns.map λk=>(k,none)) val cx:=by
 have:=jV (P:=P) (B:=B) (o:=o) (x:=x) (f:=f) (fi:=[]) (args:=args) (ca:=ca) (need:=((Os++Vs).map λp=>(p.1,some p.2))++ns.map λk=>(k,none)) (val:=val) (cZ:=cx) ho e8 ?_
 ·simpa using this
 ·intro ι c w hm hn args' ha;rw[jg]at ha;have hL:cY c (Os++Vs):=PD λp hp=>hn p (eW.2 (.inl hp));have ND:∀ k,ns.contains k=true->c k=none:=λk hk=>hn (k,none) (eW.2 (.inr (db.2 ⟨k,by simpa using hk,rfl⟩)));have L4:∀ k x,ag (Os++Vs) k=some x->k<K/\fV K x:=λk x e=>by have:=lT dJ e;simp only[dr,BB]at this;exact⟨this.1,Ak this.2⟩
  obtain⟨S,hS,Lr,Lt,vH⟩:=aC2 hm hL L4 (λk x e=>lT dX e) (λk x e=>lT qw e);have ch:bW (aK (wQ ι K)) (args++ca) args':=by
   have key:∀{l l':ak},bW (aK ι) l l'->(∀ v∈l,om K v=true)->bW (aK (wQ ι K)) l l':=by
    intro l l' h hl;induction h with
    |nil=>exact .nil
    |cons h t ih=>exact .cons (h.low (λk hk l e=>by rw[yj hk];exact e) (hl _ (aT ..))) (ih λc hc=>hl c (bF _ hc))
   exact key ha (bB.1 du)
  refine(h (aa.LZ w S) rfl _ _ w args' Lr Lt vH ch).mono ?_
  rintro e w' ⟨v',az,c',rfl,hle,hc,bE,tx,gN⟩
  have Gg:=aC3 hm hL bE hle gN;obtain⟨g1,g2⟩:=aOe (ns:=ns) hm (λk x e=>hL k x (by rw[iH,e])) (λk x e=>lT dX e) (λk x e=>tu _ (kD e)) ko ND hS bE tx Gg (λk x e=>aC _ (kD e)) λk x e=>(L4 k x (by rw[iH,e])).1;exact⟨_,v',rfl,g1,aDQ Gg kV hc,g2⟩
end
section
variable{P:j_}{B:aa}{N:Nat}
def bd.tG(key i j p:Nat)(h:p=i*j)(hp:p<9223372036854775808):bd P B N:=
 .rw key (.int .i64 (IntKind.i64.wrap ((i:Int)*(j:Int)))) (vI p) (by
  have e:((i:Int)*(j:Int))=((i*j:Nat):Int):=by simp
  rw[e,<-h];have e:IntKind.i64.wrap (p:Int)=(p:Int):=by rw[dh];omega
  rw[e];rfl)
def bd.GK(key a b r:Nat)(h:r=a%b):bd P B N:=
 .rw key (.int .i64 (Int.tmod (a:Int) (b:Int))) (vI r) (by rw[wH o_,h];rfl)
def bd.GL(key a b q:Nat)(h:q=a/b)(ha:a<9223372036854775808):bd P B N:=
 .rw key (.int .i64 (IntKind.i64.wrap (Int.tdiv (a:Int) (b:Int)))) (vI q) (by
  rw[BP o_,h];have e:((a:Int)/(b:Int))=((a/b:Nat):Int):=by simp
  have hq:a/b<=a:=uh _ _;rw[e];have e:IntKind.i64.wrap ((a/b:Nat):Int)=((a/b:Nat):Int):=by rw[dh];omega
  rw[e];rfl)
theorem Mq{cells:ak}(gW:P.follows .mixedOrders=true)(hf:P.funcs[f]?=some fn)(hl:(l.all aR.ok)=true)(n:Nat){N:Nat}(hN:N=(eC 0 l).length+(fn.ntmps-(eC 0 l).length))
  (rs:∀ w,bM P (aa.at w) N) (h:∀ w,oq (gv (P:=P) fn n (eC 0 l) (ja 0 l) (jo 0 l) (rs w)) [(k,.row cells ty size)]=ou (gv fn n (eC 0 l) (ja 0 l) (jo 0 l) (rs w)) (.slice (some ⟨k,0,some 7⟩) m 0) [(k,.row cells ty size)])
  (hx:(cells.all flat)=true) (hlen:m*size<=cells.length) (oE:cells.take (m*size)=xs):lV P f l ty size m xs:=by
 intro w vs cz;obtain⟨ι,c,h1,h2,h3,h4,h5,h6,h7⟩:=wS cz (bB.1 hl) 0 _ _ (rG w) n_ (λ_ _=>rfl);refine sO gW hf hN n (h w) h6 h2 h4 h3 λaz cr v' w' hle hc hm dQ=>⟨v',rfl,?_,hm.base⟩;have:=xI hm (dQ (k,_) (aT ..)) hc hlen (bB.1 hx);rwa[oE]at this
end
theorem CM{n:Nat}(h:a<bz^n):(au (ae bz n a)).take (nd bz a*1)=cJ a:=by have hle:=jy (B:=bz) d_ h;unfold cJ au;rw[gS,<-Dk,Kv hle]
theorem GM{n:Nat}(h:a<bz^n):nd bz a*1<=(au (ae bz n a)).length:=by have hle:=jy (B:=bz) d_ h;rw[oF,pq];omega
theorem Je(a:Nat):(jQ a).ok=true:=tE a
theorem Jf:(16777216:Nat)=256^3:=by decide
theorem aOg:(a%256^i/bz^(i/3)%bz)+(a/256^i%256*2^(8*(i%3)))=a%256^(i+1)/bz^(i/3)%bz:=by
 have e1:bz^(i/3)=256^(3*(i/3)):=by rw[show bz=256^3 from Jf,<-sV]
 have e2:(2:Nat)^(8*(i%3))=256^(i%3):=by rw[sV]
 have e3:256^i=256^(3*(i/3))*256^(i%3):=by rw[<-eR];congr 1;omega
 have hr:256^(i%3)*256<=bz:=by rw[show bz=256^3 from Jf,<-dG];exact df d_ o_
 rw[e1,e2];have m1:a%256^i/256^(3*(i/3))=a/256^(3*(i/3))%256^(i%3):=by rw[e3,BO]
 have m2:a%256^(i+1)/256^(3*(i/3))=a/256^(3*(i/3))%(256^(i%3)*256):=by rw[dG,e3,gi,BO]
 have m3:a/256^i%256=a/256^(3*(i/3))/256^(i%3)%256:=by rw[e3,ll]
 rw[m1,m2,m3];generalize a/256^(3*(i/3))=c;have hp:0<256^(i%3):=cP d_;have h1:=cM c hp;have h3:c%(256^(i%3)*256)=c%256^(i%3)+256^(i%3)*(c/256^(i%3)%256):=Oa;have h4:c%(256^(i%3)*256)<256^(i%3)*256:=cM _ o_;rw[dW (cG h4 hr),h3,dW (cG h1 (dq (FG _ d_) hr)),cX (c/256^(i%3)%256)]
theorem aOh(h:j≠i/3):a%256^i/bz^j%bz=a%256^(i+1)/bz^j%bz:=by
 have e1:bz^j=256^(3*j):=by rw[show bz=256^3 from Jf,<-sV]
 rw[e1];rcases Fj h with h1|h1
 ·have k:∀ i,3*j+3<=i->a%256^i/256^(3*j)%bz=a/256^(3*j)%bz:=by
   intro i hi;have e3:256^i=256^(3*j)*(bz*256^(i-3*j-3)):=by rw[show bz=256^3 from Jf,<-eR,<-eR];congr 1;omega
   rw[e3,BO,KG]
  rw[k i o_,k (i+1) o_]
 ·have hp:∀ i,i<=3*j->a%256^i/256^(3*j)=0:=by intro i hi;exact mS (cG (cM _ (cP d_)) (df d_ hi))
  rw[hp i o_,hp (i+1) o_]
theorem aOi{n:Nat}(hi:i/3<n):(ae bz n (a%256^i)).set (i/3) (a%256^(i+1)/bz^(i/3)%bz)=ae bz n (a%256^(i+1)):=by
 apply xL
 ·simp[ae]
 ·intro j h1 h2;simp only[ae,eH,zD]at h2;rw[HP];simp only[ae,Dl,Dm];by_cases hj:i/3=j
  ·rw[aB hj,hj]
  ·rw[av hj];exact aOh (kR hj)
section
variable{Bs:aa}{N a:Nat}{s:ByteArray}
def aXD(s:ByteArray)(N i:Nat):aX:=[(4,vI i),(0,.string s),(3,sl 0 N)]
def aXS(N a i:Nat):aL:=[(0,.row (au (ae bz N (a%256^i))) 3 1)]
theorem aOj(hN:N=(s.size+2)/3)(ha:a=kW s)(hi:i<s.size)(h63:s.size<35184372088832):
  ai prog Bs 38 (aJ (ah f100 0)) (aXD s N i) (aXS N a i) 1 ⟨.normal,aXD s N (i+1),aXS N a (i+1),1⟩:=by
 obtain⟨c,gP,dp⟩:=Tu s hi;rw[<-ha]at dp;have xR:i/3<N:=by omega
 have hb:=aOg (a:=a) (i:=i);have h1:a%256^(i+1)/bz^(i/3)%bz<bz:=aNL;have h3:c.toNat*2^(8*(i%3))<=bz:=by rw[dp];omega
 have bP:=xe (l:=ae bz N (a%256^i)) (i:=i/3) (d:=a%256^(i+1)/bz^(i/3)%bz) (by rw[pq];exact xR);rw[aOi xR]at bP;have hg:(ae bz N (a%256^i))[i/3]?=some (a%256^i/bz^(i/3)%bz):=eP xR;have vW:IntKind.i64.wrap ((c.toNat:Int)*2^(min (8*(i%3)) IntKind.i64.bits))=((c.toNat*2^(8*(i%3)):Nat):Int):=by
  have e:(c.toNat:Int)*2^(8*(i%3))=((c.toNat*2^(8*(i%3)):Nat):Int):=by simp
  rw[show min (8*(i%3)) IntKind.i64.bits=8*(i%3)from oP (show 8*(i%3)<=64 by omega),dh,e];unfold bz at h3;omega
 rw[<-dp]at hb;unfold aXS;generalize au (ae bz N (a%256^(i+1)))=r1 at *;generalize nK:au (ae bz N (a%256^i))=r0 at *;have jm:=ev hg;rw[nK]at jm;generalize a%256^i/bz^(i/3)%bz=x at *;generalize a%256^(i+1)/bz^(i/3)%bz=y at *;generalize hp:c.toNat*2^(8*(i%3))=p at *;exact aE [.rw 13 (.int .i64 (s.size:Int)) (vI s.size) rfl,.lt 14 i s.size true (aH hi),.rw 18 (.int .i64 (s.size:Int)) (vI s.size) rfl,.fp 19 s.size 1 (s.size-1) o_ o_,.fp 21 (s.size-1) i (s.size-1-i) o_ o_,.GL 24 i 3 (i/3) rfl o_,.ix f100 25 0 N (i/3) xR k_,.ld f100 26 3 0 (i/3) (.row r0 3 1) (vI x) rfl jm k_,.sx f100 29 s (s.size-1-i) c gP k_,.wr 30 .i64 (c.toNat:Int) (c.toNat:Int) (by rw[dh];have:=c.toNat_lt;omega),.GK 32 i 3 (i%3) rfl,.tG 33 8 (i%3) (8*(i%3)) rfl o_,.shl f100 34 .i64 (c.toNat:Int) (p:Int) (8*(i%3)) vW k_,.sum 35 x p y hb.symm (by unfold bz at h1;omega),.ix f100 36 0 N (i/3) xR k_,.st f100 100036 3 0 (i/3) (.row r0 3 1) (vI y) (.row r1 3 1) rfl bP rfl k_,.sum 16 i 1 (i+1) rfl o_]
theorem aOk(hN:N=(s.size+2)/3)(ha:a=kW s)(h63:s.size<35184372088832):
  ai prog Bs 38 (.block 0 (ah f100 0)) (aXD s N 0) (aXS N a 0) 1 ⟨.normal,[(3,sl 0 N)],aXS N a s.size,1⟩:=
 cd (id:=0) (cA (b:=aJ (ah f100 0)) (r:=⟨.exit 0,[(3,sl 0 N)],aXS N a s.size,1⟩) s.size (aXD s N) (aXS N a)
  (λi k _=>km (l:=aXS N a i) (m:=aXS N a 0) rfl k) (λi hi=>aOj hN ha hi h63) (aE [.rw 13 (.int .i64 (s.size:Int)) (vI s.size) rfl,.lt 14 s.size s.size false s_]) n_)
end
theorem aOl{s:ByteArray}(h63:s.size<35184372088832):lV prog 100 [.p (.string s)] 3 1 ((s.size+2)/3) (au (ae bz ((s.size+2)/3) (kW s))):=by
 have lo:=λBs=>aOk (Bs:=Bs) (N:=(s.size+2)/3) (a:=kW s) rfl rfl h63;have h0:au (ae bz ((s.size+2)/3) (kW s%256^0))=List.replicate ((s.size+2)/3) (vI 0):=by
  rw[sU,uf,Mf]
  congr 1
  unfold ae;rw[List.eq_replicate_iff];simp
 have h1:kW s%256^s.size=kW s:=dW (aAt s);unfold aXS at lo;rw[h0,h1]at lo;have fl:=iK (ae bz ((s.size+2)/3) (kW s));have hl:(au (ae bz ((s.size+2)/3) (kW s))).length=(s.size+2)/3*1:=by rw[oF,pq];omega
 generalize au (ae bz ((s.size+2)/3) (kW s))=r1 at *;exact yo (k:=0) mixed func100 k_ 100 (N:=38) k_ (λ_=>[.rw 7 (.int .i64 (s.size:Int)) (vI s.size) rfl,.sum 8 s.size 2 (s.size+2) rfl o_,.GL 9 (s.size+2) 3 ((s.size+2)/3) rfl o_,.qD f100 10 0 ((s.size+2)/3) 3 8 (vI 0) (List.replicate ((s.size+2)/3) (vI 0)) rfl rfl rfl o_ (by simp[maxLen];omega) k_,.code 0 _ _ _ _ _ (lo _)]) (λ_=>k_) fl hl
section
variable{P:j_}{B:aa}{N:Nat}
def bd.next(fn:Func)(key k z n s:Nat)(h0:0<n)(ho:sR P (aw fn key)=some (true,false,s)):bd P B N:=
 .step key (aw fn key) [.slice (some ⟨k,z*s,some 7⟩) (n+1) z,vI 1] [] (.slice (some ⟨k,(z+1)*s,some 7⟩) n (z+1)) [] (by have:=HM (B:=B) ho (k:=k) (off:=z*s) (n:=n+1) (cc:=z) (l:=1) (h:=n+1) n_ (λ_=>rfl) o_ (bC _) (.inl o_);rw[<-fQ,OG]at this;simpa using this)
theorem aOm{s:Nat}(ho:sR P o=some (true,false,s)){n:Nat}{x:Obj}(hx:x.owns=true)(j:Nat):
  cI P B o [.slice (some ⟨k,off,some 7⟩) n cc,vI n] [(j,none),(k,some x)] (.slice (some ⟨j,0,some 7⟩) 0 0) [(j,.view []),(k,.dead)]:=by
 unfold sR at ho;split at ho
 ·rename_i t y lo hi cg;split at ho
  ·rename_i e ht;split at ho
   ·rename_i i gu;injection ho with ho;injection ho with h1 ho;injection ho with h2 h3;cases lo with
    |none=>cases h1
    |some yl=>
    cases hi with
    |some yh=>cases h2
    |none=>
    refine iN.step λι c ρ w aZ hm hn=>?_;have hj:c j=none:=hn (j,none) s_;have hk:c k=some x:=hn (k,some x) s_;rw[cg]at aZ;obtain⟨u,u2,hu,hc,dp⟩:=jv aZ;have dT:ρ y=u:=by simp[Op.operands]at hu;exact hu.1
    have e6:ρ yl=u2:=by simp[Op.operands]at hu;exact hu.2
    have dp:=dp.eZ rfl;have HD:=hm.kill k (by rw[hk];exact n_);have gM:bA c k .dead j=none:=by unfold bA;rw[av (λe=>by subst e;rw[hj]at hk;cases hk)];exact hj
    have Mr:∀ y code,n<=y->(Instr.sliceBound (.int .i64 n) y code).run P w=.ok n w:=by intro y code hq;have:(0:Int)<=n/\(n:Int)<=y:=⟨by omega,by omega⟩;simp[Instr.sliceBound,asIntOf,this]
    rcases hc.iF rfl with ⟨hb,kQ,qB,zo,he⟩|⟨b,oo,cap,c',hb,lg,nA,he⟩
    ·refine⟨dS ι j .nil,.slice none 0 0,w,ij (hm.dF j hj),.slcN (gg _ _ _),HD.add gM (.inl ⟨rfl,rfl⟩) n_ n_ n_,.inl ?_⟩;subst kQ;have lB:∀ code,(Instr.sliceBound (.int .i64 0) 0 code).run P w=.ok 0 w:=λcode=>by simp[Instr.sliceBound,asIntOf]
     simp only[execOp,cg];simp[Instr.sliceAt,jJ ht,Instr.slice,dT,e6,dp,he,vI,Instr.sliceBounds,lB,sizeOf,typeInfo,gu]
    ·dsimp only at hb he;obtain⟨o1,xV⟩:∃ o1,o1=(if c'=n then oo+off else oo+off+n*i.size):=⟨_,rfl⟩;have gm:=hm.own k x b oo cap hk hx hb;refine⟨dS ι j (.at b o1 (c'-n)),.slice (some ⟨b,o1+0,none⟩) 0 (c'-n),w,ij (hm.dF j hj),.slc (gg _ _ _) (lM _) (kA _),HD.add gM (.inr ⟨b,o1,c'-n,[],rfl,.nil,λj u h=>by simp at h⟩) n_ n_ (λb1 o2 l8 _ e=>?_),.inl ?_⟩
     ·injection e with e1 e2 e3;subst e1;refine⟨gm.1,λq y o' aU hq hy Bu=>?_⟩;unfold bA at hq;by_cases xC:q=k
      ·rw[aB xC]at hq;injection hq with hq;subst hq;cases hy
      ·rw[av xC]at hq;exact xC (hm.inj q k y x b o' aU oo cap hq hy hk hx Bu hb)
     ·simp only[execOp,cg];by_cases iG:c'=n
      ·rw[aB iG]at xV;subst xV;subst iG;simp[Instr.sliceAt,jJ ht,Instr.slice,dT,e6,dp,he,vI,Instr.sliceBounds,Mr c' _ (bC _),sizeOf,typeInfo,gu]
      ·rw[av iG]at xV;subst xV;simp[Instr.sliceAt,jJ ht,Instr.slice,dT,e6,dp,he,vI,Instr.sliceBounds,Mr n _ (bC _),sizeOf,typeInfo,gu,iG,zn]
   ·cases ho
  ·cases ho
 ·cases ho
def bd.aOn(fn:Func)(key k off n cc s j:Nat)(x:Obj)(hx:x.owns=true)(ho:sR P (aw fn key)=some (true,false,s)):bd P B N:=
 .step key (aw fn key) [.slice (some ⟨k,off,some 7⟩) n cc,vI n] [(j,none),(k,some x)] (.slice (some ⟨j,0,some 7⟩) 0 0) [(j,.view []),(k,.dead)] (aOm ho hx j)
def bd.aOo(fn:Func)(key k off n cc:Nat)(l:List UInt8)(x:Obj)(hx:x.reads=true)(hc:(x.cells.drop off).take n=ik l)(hn:l.length=n)(ho:OD P (aw fn key)=true):bd P B N:=
 .step key (aw fn key) [.slice (some ⟨k,off,some 7⟩) n cc] [(k,some x)] (.string (BA l)) [] (by
  unfold OD at ho;split at ho
  ·rename_i src dst y cg;split at ho
   ·rename_i e hs hd;split at ho
    ·rename_i he;have:=Zb (P:=P) (B:=B) cg hs he hd (k:=k) (off:=off) (n:=n) (cc:=cc) (y:=x) (ns:=l.map λc=>(c.toNat:Int)) hx (by rw[hc];simp[ik,Function.comp_def]) (by simpa using hn)
     have e2:=aAM l [];rw[jg]at e2;rw[show ByteArray.empty=BA []from rfl,e2]at this;exact this.step
    ·cases ho
   ·cases ho
  ·cases ho)
end
end Go.Proofs.YtmocejjfkdcgkaaGreatDoor
