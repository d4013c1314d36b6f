/- Points of a cut set: the proof of CutPointsCardSaid (the law's function answers true at every set it can be given; theorem cutPoints_card, last part), part 6 of 7; no condition. -/
import Derived.Test.YtjjefbkbljlgdaaGreatDoorC5
namespace Go.Proofs.YtjjefbkbljlgdaaGreatDoor
open Go Go.RowKit Tryz
section
open CR OF
open V3 (dot ax cL smul)
section
variable{ps:List (HS K)}{vs:List RV}{fs:List (Int×List Int)}{p:HS K}
theorem aF0(hc:Cl ps)(hp:gA ps)(hf:kt ps):sQ ps (aM ps):=⟨by unfold aM;exact UD _,λ_=>aFt hc hp hf⟩
theorem QR(hp:gA ps):Av ps=true↔Cl ps/\kt ps:=by
 unfold Av;rw[da,QA,QB];constructor
 ·rintro⟨h1,_,h3⟩
  exact⟨h1,_,h3⟩
 ·rintro⟨h1,h2⟩
  exact⟨h1,aBW h1 hp (λv=>aFt h1 hp h2) h2⟩
theorem Xn(hc:Cl ps)(hp:gA ps)(hf:kt ps):∀ p∈ps,¬(cz p (aM ps) (aM ps).length).length<3->IL p (aM ps):=λp iL hl=>by obtain⟨h1,h2,h3⟩:=(aF0 hc hp hf).loop (hp p iL) hl;exact⟨h1,h2,h3⟩
theorem aF1(hp:gA ps)(h:vf (eT ps)=false):kt ps:=
 aLr hp (λv hv=>(QE.1 hv).1) (QF.1 h)
theorem Xo(hc:Cl ps)(hp:gA ps)(hf:kt ps):vf (eT ps)=false:=
 QF.2 (aLs hc hp (λv=>QE) hf)
theorem aF2{l:List (V3 K)}(h:OQ l):4<=l.length:=by
 obtain⟨o,rest,rfl,a,ha,b,hb,c,hc,hd⟩:=h;have ab:a≠b:=λe=>by subst e;exact hd (WU _ _)
 have bc:b≠c:=λe=>by subst e;exact hd (WV _ _)
 have ac:a≠c:=λe=>by subst e;exact hd (WW _ _)
 match rest,ha,hb,hc with
 |[],ha,_,_=>cases ha
 |[x],ha,hb,_=>simp at ha hb;exact absurd (ha.trans hb.symm) ab
 |[x,y],ha,hb,hc=>
  simp at ha hb hc;rcases ha with rfl|rfl<;>rcases hb with rfl|rfl<;>rcases hc with rfl|rfl<;>first|exact absurd rfl ab|exact absurd rfl bc|exact absurd rfl ac
 |_::_::_::_,_,_,_=>simp only[oA];omega
theorem Xp(hc:Cl ps)(hp:gA ps)(hf:kt ps):yi ps=dE ps:=by unfold yi dE;rw[sP hc hp hf]
theorem aTI(hp:gA ps)(h:D6 ps vs fs=true):Cl ps/\kt ps/\vs=(aM ps).map cD/\fs=dE ps:=by unfold D6 at h;simp only[da,AH,sZ]at h;obtain⟨_,_,h3,h4,h5,h6⟩:=h;have hc:=QD.1 h3;have hf:=aF1 hp h4;exact⟨hc,hf,by rw[sP hc hp hf];exact h5,by rw[<-Xp hc hp hf];exact h6⟩
theorem aTJ(hc:Cl ps)(hp:gA ps)(hf:kt ps):D6 ps ((aM ps).map cD) (dE ps)=true:=by
 unfold D6;have h1:4<=(dE ps).length:=by unfold dE;rw[eY];exact aSA hc hp (aF0 hc hp hf) hf
 have hs:=Xo hc hp hf;have h2:4<=((aM ps).map cD).length:=by rw[eY,sP hc hp hf];exact aF2 (QF.1 hs)
 rw[aN o_,aN o_,QD.2 hc,hs,Xp hc hp hf,<-sP hc hp hf,aC rfl,aC rfl];rfl
theorem Xq(hc:Cl ps)(hp:gA ps)(hf:kt ps):4<=(aM ps).length:=by rw[sP hc hp hf];exact aF2 (QF.1 (Xo hc hp hf))
theorem aF3(v:V3 K):∀(l:List (HS K)) (z:Int),l.foldl (Gj v) z<=0↔z<=0/\∀ p∈l,OF.az (dot p.n v-p.d)<=0
 |[],z=>⟨λh=>⟨h,λp hp=>(by cases hp)⟩,λh=>h.1⟩
 |p::l,z=>by
  rw[uu,aF3 v l];have e:Gj v z p<=0↔z<=0/\OF.az (dot p.n v-p.d)<=0:=by unfold Gj;split<;>omega
  rw[e];constructor
  ·rintro⟨⟨h1,h2⟩,h3⟩
   refine⟨h1,λq hq=>?_⟩;rcases cx.1 hq with rfl|hq
   ·exact h2
   ·exact h3 q hq
  ·rintro⟨h1,h2⟩
   exact⟨⟨h1,h2 p (aV ..)⟩,λq hq=>h2 q (bF _ hq)⟩
theorem aF4{v:V3 K}:sR ps v<=0↔∀ p∈ps,OF.az (dot p.n v-p.d)<=0:=by unfold sR;rw[aF3];exact⟨λh=>h.2,λh=>⟨by decide,h⟩⟩
theorem aTK{v:V3 K}:sR (ps++[p]) v<=0↔sR ps v<=0/\OF.az (dot p.n v-p.d)<=0:=by
 rw[aF4,aF4];constructor
 ·intro h;exact⟨λq hq=>h q (sO _ hq),h p s_⟩
 ·rintro⟨h1,h2⟩ q hq
  rcases ee.1 hq with hq|hq
  ·exact h1 q hq
  ·simp at hq;subst hq;exact h2
theorem LU(hc:Cl ps)(hp:gA ps):Cl (ps++[p]):=Cl.more hc hp λ_ hq=>sO _ hq
theorem aF5(hp:gA ps)(hn:p.n≠0):gA (ps++[p]):=λq hq=>by
 rcases ee.1 hq with hq|hq
 ·exact hp q hq
 ·simp at hq;subst hq;exact hn
theorem aF6(hc:Cl ps)(hp:gA ps):qc ps (aM ps)=true↔kt ps:=by
 constructor
 ·intro h;exact⟨_,(QB.1 h).2⟩
 ·intro h;have:=(QR hp).2 ⟨hc,h⟩;unfold Av at this;rw[da]at this;exact this.2
theorem aTL(hc:Cl ps)(hp:gA ps)(hf:kt ps)(hn:p.n≠0)(h:qc (ps++[p]) (aM (ps++[p]))=false):0<=OF.az (dot p.n (tL (aM ps))-p.d):=by
 have hs:=(QR hp).2 ⟨hc,hf⟩;unfold Av at hs;rw[da]at hs;obtain⟨aU,ct⟩:=QB.1 hs.2;rw[WS aU];apply gN;intro ak;have ak:dot p.n (xA (aM ps))<p.d:=by rw[OF.lt_def,OF.CY];rcases OF.iy (dot p.n (xA (aM ps))-p.d)with h|h|h<;>rw[h]at ak ⊢<;>simp at ak ⊢
 have hF:kt (ps++[p]):=⟨xA (aM ps),λq hq=>by
  rcases ee.1 hq with hq|hq
  ·exact ct q hq
  ·simp at hq;subst hq;exact ak⟩
 have:=(aF6 (LU hc hp) (aF5 hp hn)).2 hF;rw[h]at this;cases this
end
def gg:List (HS K):=B7 ⟨kI 1,kI 0,kI 0⟩ ⟨kI (-1),kI 0,kI 0⟩ ⟨kI 0,kI 1,kI 0⟩ ⟨kI 0,kI (-1),kI 0⟩ ⟨kI 0,kI 0,kI 1⟩ ⟨kI 0,kI 0,kI (-1)⟩ (kI 1)
def kR:HS K:=⟨⟨kI 1,kI 1,kI 1⟩,kI 2⟩
def pF(a b c:Int):V3 K:=⟨kI a,kI b,kI c⟩
def QS:List (V3 K):=[pF (-1) (-1) (-1),pF (-1) (-1) 1,pF (-1) 1 (-1),pF (-1) 1 1,pF 1 (-1) (-1),pF 1 (-1) 1,pF 1 1 (-1),pF 1 1 1]
def QT:List (V3 K):=[pF (-1) (-1) (-1),pF (-1) (-1) 1,pF (-1) 1 (-1),pF (-1) 1 1,pF 0 1 1,pF 1 (-1) (-1),pF 1 (-1) 1,pF 1 0 1,pF 1 1 (-1),pF 1 1 0]
theorem aTM:qK gg=true:=by kernel_rfl
theorem aTN:eT gg=QS:=by kernel_rfl
theorem aTO:eT (gg++[kR])=QT:=by kernel_rfl
theorem aTP:(ft (gg++[kR]) QT 7).length=7:=by kernel_rfl
theorem aTQ:((ft (gg++[kR]) QT 7).map λf=>f.2.length).sum=30:=by kernel_rfl
theorem aTR:(ll kR QS 8).length=1:=by kernel_rfl
theorem Xr{p:HS K}(h:p∈gg++[kR]):∃ a b c d:Int,p=⟨⟨kI a,kI b,kI c⟩,kI d⟩/\(a.natAbs<=1/\b.natAbs<=1/\c.natAbs<=1)/\(0<d/\d<=2)/\(a≠0\/b≠0\/c≠0):=by
 simp only[gg,B7,ee,cx,jg,jh]at h;rcases h with (rfl|rfl|rfl|rfl|rfl|rfl)|rfl
 ·exact⟨1,0,0,1,rfl,by decide,by decide,by decide⟩
 ·exact⟨-1,0,0,1,rfl,by decide,by decide,by decide⟩
 ·exact⟨0,1,0,1,rfl,by decide,by decide,by decide⟩
 ·exact⟨0,-1,0,1,rfl,by decide,by decide,by decide⟩
 ·exact⟨0,0,1,1,rfl,by decide,by decide,by decide⟩
 ·exact⟨0,0,-1,1,rfl,by decide,by decide,by decide⟩
 ·exact⟨1,1,1,2,rfl,by decide,by decide,by decide⟩
theorem aF7{p:HS K}(h:p∈gg++[kR]):bt 2 p:=by obtain⟨a,b,c,d,rfl,⟨h1,h2,h3⟩,⟨h4,h5⟩,_⟩:=Xr h;exact⟨⟨qE o_ d_,qE o_ d_,qE o_ d_⟩,qE o_ d_⟩
theorem Xs{a b:Int}(h:kI a=kI b):a=b:=by
 have h1:((a:Rat))=(b:Rat):=cI (λx:K=>x.re.re) h
 exact_mod_cast h1
theorem QU{p:HS K}(h:p∈gg++[kR]):p.n≠0:=by
 obtain⟨a,b,c,d,rfl,_,_,h6⟩:=Xr h;intro e;have e1:kI a=kI 0:=cI V3.x e;have e2:kI b=kI 0:=cI V3.y e;have e3:kI c=kI 0:=cI V3.z e;rcases h6 with h|h|h
 ·exact h (Xs e1)
 ·exact h (Xs e2)
 ·exact h (Xs e3)
theorem aF8{p:HS K}(h:p∈gg++[kR]):dot p.n 0<p.d:=by
 obtain⟨a,b,c,d,rfl,_,⟨h4,h5⟩,_⟩:=Xr h;rw[V3.Dd];have hd:d=1\/d=2:=by omega
 rcases hd with rfl|rfl
 ·show OF.az (kI 1-0)=1;kernel_rfl
 ·show OF.az (kI 2-0)=1;kernel_rfl
theorem aTS:gA (gg++[kR]):=λ_ h=>QU h
theorem Xt:gA gg:=λ_ h=>QU (sO _ h)
theorem aF9:kt (gg++[kR]):=⟨0,λ_ h=>aF8 h⟩
theorem Xu:kt gg:=⟨0,λ_ h=>aF8 (sO _ h)⟩
theorem QV:Cl gg:=QA.1 aTM
theorem aTT:Cl (gg++[kR]):=LU QV Xt
theorem Xv:(gg++[kR]).length=7:=rfl
theorem aTU:pB (gg++[kR]) 2:=⟨by rw[Xv];decide,λ_ h=>aF7 h,λ_ h=>QU h,by decide⟩
theorem aTV:pD gg 2 1000:=⟨by decide,λp h=>⟨aF7 (sO _ h),QU (sO _ h)⟩,by decide,by decide⟩
theorem aTW{ps:List (HS K)}{m M:Nat}(h:pD ps m M)(hc:Cl ps)(hp:gA ps)(hf:kt ps):
  tQ prog 37 [fC ps] 35 40 ps.length (aK ps) 33 30 (aM ps).length (aL (aM ps)) (dq (dE ps)) [iN 0]:=by
 have dQ:=Xn hc hp hf;rw[sP hc hp hf]at dQ;have:=aFO h (QD.2 hc) (Xo hc hp hf) dQ;rw[Xp hc hp hf]at this;rw[sP hc hp hf];exact this
theorem aTX:tQ prog 26 [.p (vI 1)] 35 40 6 (aK gg) 33 30 (aM gg).length (aL (aM gg)) (dq (dE gg)) [iN 0]:=by
 have mz:=aTW aTV QV Xt Xu
 exact aTH ⟨aV6 d_ d_ d_,aV6 d_ d_ d_,aV6 d_ d_ d_,aV6 d_ d_ d_,aV6 d_ d_ d_,aV6 d_ d_ d_,aVF d_⟩
  (dJ _) (sk _) rfl mz
theorem Xw:(aM (gg++[kR]))=QT:=(sP aTT aTS aF9).trans aTO
theorem Xx:aM gg=QS:=(sP QV Xt Xu).trans aTN
theorem aGa:(dE (gg++[kR])).length=7:=by unfold dE;rw[eY,Xw,Xv];exact aTP
theorem aGb:oX (dE (gg++[kR]))=30:=by
 unfold dE oX;rw[Su,Xw,Xv];have e:((λf:Int×List Int=>f.2.length)∘qY)=λf:Nat×List Nat=>f.2.length:=by funext f;simp[qY]
 rw[e];exact aTQ
theorem aGc{ps:List (HS K)}{p:HS K}{m:Nat}(h:pB (ps++[p]) m)(hc:Cl ps)(hf:kt ps)(uz:kt (ps++[p])):
  tQ prog 12 [Au ps,.p (cC p)] 35 40 (ps.length+1) (aK (ps++[p])) 33 30 (aM (ps++[p])).length (aL (aM (ps++[p]))) (dq (dE (ps++[p]))) [.bool (decide (0<(ll p (aM ps) (aM ps).length).length)),iN 0]:=by
 have hp:gA ps:=λq hq=>h.ne q (sO _ hq);have hn:p.n≠0:=h.ne p s_;exact aSX h ((QR hp).2 ⟨hc,hf⟩) (QA.2 (LU hc hp)) ((aF6 (LU hc hp) (aF5 hp hn)).2 uz)
theorem aTY:tQ prog 12 [.s 6 (aK gg) (aM gg).length (aL (aM gg)) (dq (dE gg)),.p (cC kR)] 35 40 7 (aK (gg++[kR])) 33 30 10 (aL (aM (gg++[kR]))) (dq (dE (gg++[kR]))) [.bool true,iN 0]:=by have:=aGc aTU QV Xu aF9;unfold Au D4 at this;rw[eY,show(aM gg).length=8 by rw[Xx];rfl,show ll kR (aM gg) 8=ll kR QS 8 by rw[Xx],aTR,show(aM (gg++[kR])).length=10 by rw[Xw];rfl]at this;rw[show(aM gg).length=8 by rw[Xx];rfl];exact this
theorem aTZ{np nv vh:Nat}{xp xv Gl I0:aj}{F:Fact}{gs:List (Int×List Int)}{n:V3 K}{q:K}(hF:F.rc=false)(f1:xp.all flat=true)(f2:xv.all flat=true)(f3:Gl.all flat=true)(f4:I0.all flat=true)(z1:np=0->xp=[])(z2:nv=0->xv=[])(z3:vh=0->Gl=[])
  (hB:tQ prog 26 [.p (vI 1)] 35 40 np xp 33 30 nv xv F [iN 0]) (hn:aE prog 27 [.int .i64 1,.int .i64 1,.int .i64 1] (bB n)) (hq:aE prog 28 [.int .i64 2] (bZ q))
  (hC:tQ prog 12 [.s np xp nv xv F,.p (cC ⟨n,q⟩)] 35 40 vh Gl 33 30 10 I0 (dq gs) [.bool true,iN 0]) (hg:gs.length=7) (hE:cy prog 29 [.s vh Gl 10 I0 (dq gs)] (vI 15)) :
  cy prog 7 [] (.bool true):=
 gz mixed func7 rfl 200 (N:=41) k_ (λw=>[
  .step 7 (av f7 7) [.func (.func 26) #[] #[],vI 1] [(0,none),(1,none),(2,none)] (.tuple #[.agg #[sl 0 np,sl 1 nv,eE 2],iN 0]) [(2,.fact (F.jT w.heap.size)),(1,.row xv 33 30),(0,.row xp 35 40)]
   (Du (B:=aa.at w) (S:=w.heap.size) hB (.p rfl .nil) (x:=.func 26) k_ k_ hF f1 f2 rfl (λw' hb=>Below.size hb) 0),
  hn.at 12,hq.at 13,
  .step 15 (av f7 15) [.func (.func 12) #[] #[],.agg #[sl 0 np,sl 1 nv,eE 2],cC ⟨n,q⟩] [(4,none),(5,none),(6,none),(0,some (.row xp 35 40)),(1,some (.row xv 33 30)),(2,some (.fact (F.jT w.heap.size)))]
   (.tuple #[.agg #[sl 4 vh,sl 5 10,eE 6],.bool true,iN 0]) [(6,.fact ((dq gs).jT w.heap.size)),(5,.row I0 33 30),(4,.row Gl 35 40)]
   (Du (B:=aa.at w) (S:=w.heap.size) hC (.si (IJ _ _) (x1:=.row xp 35 40) (x2:=.row xv 33 30) rfl f1 z1 rfl f2 z2 (.p k_ .nil)) (x:=.func 12) k_ k_ rfl f3 f4 rfl (λw' hb=>Below.size hb) 4),
  .step 33 (av f7 33) [eE 6] [(6,some (.fact ((dq gs).jT w.heap.size)))] (vI 7) [] (hg▸aTe k_ (IJ _ _)),
  .step 38 (av f7 38) [.func (.func 29) #[] #[],.agg #[sl 4 vh,sl 5 10,eE 6]] [(4,some (.row Gl 35 40)),(5,some (.row I0 33 30)),(6,some (.fact ((dq gs).jT w.heap.size)))] (vI 15) []
   (dz hE (.si (IJ _ _) (x1:=.row Gl 35 40) (x2:=.row I0 33 30) rfl f3 z3 rfl f4 n_ .nil) (x:=.func 29) k_ k_ rfl)]) (λw=>k_) k_
theorem aGd:cy prog 7 [] (.bool true):=by have hE:=aTE (n1:=7) (n2:=10) (x1:=aK (gg++[kR])) (x2:=aL (aM (gg++[kR]))) (fs:=dE (gg++[kR])) (cU _) (dJ _) (by rw[aGa];decide) (by rw[aGb];decide);rw[aGb]at hE;exact aTZ rfl (cU _) (dJ _) (cU _) (dJ _) n_ vV n_ aTX (aV6 d_ d_ d_) (aVF d_) aTY aGa hE
theorem LV{q:RI}{k:Nat}(h:decide (sE q<=k)=true)(hk:k<=maxLen):q.Sm:=by have h:=kH h;unfold RI.Sm;unfold sE at h;exact de h hk
theorem Xy{r:RN}{k:Nat}(h:sF r k=true)(hk:k<=maxLen):r.Sm:=by unfold sF at h;simp only[da]at h;exact⟨LV h.1 hk,LV h.2.1 hk,LV h.2.2.1 hk,LV h.2.2.2.1 hk,LV h.2.2.2.2 hk⟩
theorem aT0{r:RV}{k:Nat}(h:qi r k=true)(hk:k<=maxLen):r.Sm:=by unfold qi at h;simp only[da]at h;exact⟨Xy h.1 hk,Xy h.2.1 hk,Xy h.2.2 hk⟩
structure Good(ps:List (HS K))(p:HS K):Prop where
 len:ps.length<=8
 pl:∀ q∈ps,bt 24 q/\q.n≠0
 new:bt 24 p/\p.n≠0
 cl:Cl ps
 full:kt ps
section
variable{ps:List (HS K)}{p:HS K}
theorem Good.proper(h:Good ps p):gA ps:=λq hq=>(h.pl q hq).2
theorem Good.all(h:Good ps p):∀ q∈ps++[p],bt 24 q/\q.n≠0:=λq hq=>by
 rcases ee.1 hq with hq|hq
 ·exact h.pl q hq
 ·simp at hq;subst hq;exact h.new
theorem Good.aT1(h:Good ps p):gA (ps++[p]):=λq hq=>(h.all q hq).2
theorem Good.cl'(h:Good ps p):Cl (ps++[p]):=LU h.cl h.proper
theorem Good.ref(h:Good ps p):pD ps 24 4000:=⟨by have:=h.len;omega,h.pl,by decide,by decide⟩
theorem Good.aT2(h:Good ps p):pD (ps++[p]) 24 4000:=⟨by rw[iZ,zC];have:=h.len;omega,h.all,by decide,by decide⟩
theorem Good.aGe(h:Good ps p):pB (ps++[p]) 24:=⟨by rw[iZ,zC];have:=h.len;omega,λq hq=>(h.all q hq).1,λq hq=>(h.all q hq).2,by decide⟩
theorem Good.Xz(h:Good ps p):(∀ v∈aM ps,aD 4000 v)/\(aM ps).length<=81*9:=by rw[sP h.cl h.proper h.full];exact h.ref.sz
theorem aGf{m M:Nat}(h:pD ps m M)(hc:Cl ps)(hp:gA ps)(hf:kt ps):cy prog 11 [.s ps.length (aK ps) (aM ps).length (aL (aM ps)) (dq (dE ps))] (.bool true):=by
 have dQ:=Xn hc hp hf;have h9:=h.len;rw[sP hc hp hf]at dQ;have:=aFW (ps:=ps) (vs:=(aM ps).map cD) (fs:=dE ps) h (λ_ _=>dQ) (λx hx=>by
   obtain⟨v,hv,rfl⟩:=dj.1 hx;rw[sP hc hp hf]at hv;exact(h.sz.1 v hv).sm h.rp.2.2.2.2.2.2) (by
   rw[eY,sP hc hp hf];have:=h.sz.2;omega) (by have:=aFG ps;omega) λf hf=>eL (aFH o_ f hf) d_
 rw[aTJ hc hp hf]at this;unfold jk at this;rw[eY,eY]at this;exact cy.Xg this (B6.full _).G
end
section
variable{ps:List (HS K)}{p:HS K}{a b c:Nat}
def wC(a b c:Nat):Value:=.agg #[.int .u8 a,.int .u8 b,.int .u8 c]
def sA(n nv:Nat):Value:=.agg #[sl 0 n,sl 1 nv,eE 2]
def Gm(ps:List (HS K)):List (Nat×Option Obj):=[(0,some (.view (aK ps))),(1,some (.view (aL (aM ps)))),(2,some (.fact (dq (dE ps))))]
theorem I1{Bs:aa}{l:List aR}{xs:aj}(h:fH Bs l xs []):fH Bs (.s ps.length (aK ps) (aM ps).length (aL (aM ps)) (dq (dE ps))::l) (sA ps.length (aM ps).length::xs) (Gm ps):=
 .s (x1:=.view (aK ps)) (x2:=.view (aL (aM ps))) rfl (cU ps) iD rfl (dJ _) vV h
noncomputable def cpS{Bs:aa}(h:Good ps p)(h7:ps.length<=7)(nR:cy prog 8 [.s ps.length (aK ps) (aM ps).length (aL (aM ps)) (dq (dE ps))] (.bool true))(sS:aE prog 9 [cC p,vI 3] (.bool true))(more:bA prog Bs 118):bA prog Bs 118:=
 .step 17 (av Tryz.f3 17) [.func (.func 7) #[] #[]] [] (.bool true) [] (dz aGd .nil (x:=.func 7) k_ k_ rfl)::
 .step 20 (av Tryz.f3 20) [.func (.func 8) #[] #[],sA ps.length (aM ps).length] (Gm ps) (.bool true) [] (dz nR (I1 .nil) (x:=.func 8) k_ k_ rfl)::
 .gt 26 ps.length 7 false (aN o_)::sS.at 30::
 .call 35 10 [cC p] (.bool true) (λw' _=>by have:=aVR h.new.1 d_;rw[aC h.new.2]at this;exact this w')::
 .step 40 (av Tryz.f3 40) [.func (.func 11) #[] #[],sA ps.length (aM ps).length] (Gm ps) (.bool true) [] (dz (aGf h.ref h.cl h.proper h.full) (I1 .nil) (x:=.func 11) k_ k_ rfl)::more
end
section
variable{ps:List (HS K)}{p:HS K}{a b c i j r:Nat}{z z1 z2:Int}{va vb d e v:V3 K}{k:K}
structure LW(ps:List (HS K))(p:HS K)(a b c i j r:Nat)(z z1 z2:Int)(va vb d e v:V3 K)(k:K):Prop where
 la:a<256
 lb:b<256
 lc:c<256
 ne:((aM ps).length:Int)≠0
 ri:(a:Int).tmod (aM ps).length=(i:Int)
 rj:(b:Int).tmod (aM ps).length=(j:Int)
 rc:(c:Int).tmod 7=(r:Int)
 hz:IntKind.i64.wrap ((r:Int)-1)=z
 hi:(aM ps)[i]?=some va
 hj:(aM ps)[j]?=some vb
 rat:aE prog 13 [.int .i64 z,.int .i64 4] (.tuple #[bZ k,.int .i64 0])
 sub:aE prog 16 [bB vb,bB va] (bB d)
 scl:aE prog 15 [bB d,bZ k] (bB e)
 add:aE prog 14 [bB va,bB e] (bB v)
 ins:cy prog 17 [.s ps.length (aK ps) (aM ps).length (aL (aM ps)) (dq (dE ps)),.p (bB v)] (.int .i64 z1)
 sid:aE prog 18 [cC p,bB v] (.int .i64 z2)
theorem XA{x:Nat}(h:x<256):IntKind.i64.wrap (x:Int)=(x:Int):=by rw[c8];omega
noncomputable def cpU{Bs:aa}{t1:Bool}(h:LW ps p a b c i j r z z1 z2 va vb d e v k)(h1:decide (z1<=0)=t1)(more:bA prog Bs 118):bA prog Bs 118:=
 .wr 57 .i64 (a:Int) (a:Int) (XA h.la)::.th Tryz.f3 59 .i64 (a:Int) ((aM ps).length:Int) (i:Int) h.ne h.ri k_::.cY Tryz.f3 60 1 (aM ps).length i 30 (ew.1 h.hi).1 k_::.ld Tryz.f3 61 33 1 (i*30) (.view (aL (aM ps))) (bB va) rfl (lf h.hi) k_::
 .wr 66 .i64 (b:Int) (b:Int) (XA h.lb)::.th Tryz.f3 68 .i64 (b:Int) ((aM ps).length:Int) (j:Int) h.ne h.rj k_::.cY Tryz.f3 69 1 (aM ps).length j 30 (ew.1 h.hj).1 k_::.ld Tryz.f3 70 33 1 (j*30) (.view (aL (aM ps))) (bB vb) rfl (lf h.hj) k_::
 .wr 74 .i64 (c:Int) (c:Int) (XA h.lc)::.th Tryz.f3 75 .i64 (c:Int) 7 (r:Int) d_ h.rc k_::.wr 76 .i64 ((r:Int)-1) z h.hz::h.rat.at 77::h.sub.at 83::h.scl.at 85::h.add.at 86::
 .step 89 (av Tryz.f3 89) [.func (.func 17) #[] #[],sA ps.length (aM ps).length,bB v] (Gm ps) (.int .i64 z1) [] (dz h.ins (I1 (.p rfl .nil)) (x:=.func 17) k_ k_ rfl)::
 .rw 90 (.bool (decide (z1<=0))) (.bool t1) (by rw[h1])::more
noncomputable def cpT{Bs:aa}{t1 t2:Bool}(h:LW ps p a b c i j r z z1 z2 va vb d e v k)(h1:decide (z1<=0)=t1)(h2:decide (z2<=0)=t2)(more:bA prog Bs 118):bA prog Bs 118:=
 cpU h h1 (match t1 with|true=>h.sid.at 94::.rw 95 (.bool (decide (z2<=0))) (.bool t2) (by rw[h2])::more|false=>more)
theorem aGg(ps:List (HS K))(p:HS K)(a b c:Nat):([.s ps.length (aK ps) (aM ps).length (aL (aM ps)) (dq (dE ps)),.p (cC p),.p (wC a b c)].all aR.ok)=true:=by
 have e:(aR.s ps.length (aK ps) (aM ps).length (aL (aM ps)) (dq (dE ps))).ok=true:=by show((aK ps).all flat&&((aL (aM ps)).all flat&&true))=true;rw[cU,dJ];rfl
 simp only[dH,fp,e,Ws,kD,iU];rfl
theorem aT3{m:V3 K}{z3:Int}(h:Good ps p)(h7:ps.length<=7)(nR:cy prog 8 [.s ps.length (aK ps) (aM ps).length (aL (aM ps)) (dq (dE ps))] (.bool true))(sS:aE prog 9 [cC p,vI 3] (.bool true))
  (hc:LW ps p a b c i j r z z1 z2 va vb d e v k) (oR:cy prog 12 [.s ps.length (aK ps) (aM ps).length (aL (aM ps)) (dq (dE ps)),.p (cC p)] (.tuple #[qZ,.bool false,iN 12]))
  (vY:cy prog 19 [.s ps.length (aK ps) (aM ps).length (aL (aM ps)) (dq (dE ps))] (bB m)) (aT4:aE prog 18 [cC p,bB m] (.int .i64 z3)) (h3:0<=z3) :
  cy prog 3 [.s ps.length (aK ps) (aM ps).length (aL (aM ps)) (dq (dE ps)),.p (cC p),.p (wC a b c)] (.bool true):=by
 have ay:=aGg ps p a b c;have key:∀ t1 t2,decide (z1<=0)=t1->decide (z2<=0)=t2->cy prog 3 [.s ps.length (aK ps) (aM ps).length (aL (aM ps)) (dq (dE ps)),.p (cC p),.p (wC a b c)] (.bool true):=by
  intro t1 t2 h1 h2;rcases t1 with _|_<;>rcases t2 with _|_<;>
   exact gz mixed func3 ay 300 (N:=118) k_ (λw=>cpS h h7 nR sS (.step 46 (av Tryz.f3 46) [.func (.func 12) #[] #[],sA ps.length (aM ps).length,cC p] (Gm ps) (.tuple #[qZ,.bool false,iN 12]) []
    (dz oR (I1 (.p k_ .nil)) (x:=.func 12) k_ k_ k_)::cpT hc h1 h2 [
    .step 104 (av Tryz.f3 104) [.func (.func 19) #[] #[],sA ps.length (aM ps).length] (Gm ps) (bB m) [] (dz vY (I1 .nil) (x:=.func 19) k_ k_ rfl),
    aT4.at 105,.rw 106 (.bool (decide (z3>=0))) (.bool true) (by rw[aC h3])])) (λw=>k_) k_
 exact key _ _ rfl rfl
theorem aT5{vh Gn:Nat}{xp xv:aj}{gs:List (Int×List Int)}{z3:Int}{t:Bool}(h:Good ps p)(h7:ps.length<=7)(nR:cy prog 8 [.s ps.length (aK ps) (aM ps).length (aL (aM ps)) (dq (dE ps))] (.bool true))(sS:aE prog 9 [cC p,vI 3] (.bool true))
  (hc:LW ps p a b c i j r z z1 z2 va vb d e v k) (f1:xp.all flat=true) (f2:xv.all flat=true) (n1:vh=0->xp=[]) (n2:Gn=0->xv=[])
  (oR:tQ prog 12 [.s ps.length (aK ps) (aM ps).length (aL (aM ps)) (dq (dE ps)),.p (cC p)] 35 40 vh xp 33 30 Gn xv (dq gs) [.bool t,iN 0])
  (kE:cy prog 11 [.s vh xp Gn xv (dq gs)] (.bool true)) (LX:cy prog 17 [.s vh xp Gn xv (dq gs),.p (bB v)] (.int .i64 z3)) (h3:z3<=0↔z1<=0/\z2<=0) :
  cy prog 3 [.s ps.length (aK ps) (aM ps).length (aL (aM ps)) (dq (dE ps)),.p (cC p),.p (wC a b c)] (.bool true):=by
 have ay:=aGg ps p a b c;have key:∀ t1 t2,decide (z1<=0)=t1->decide (z2<=0)=t2->cy prog 3 [.s ps.length (aK ps) (aM ps).length (aL (aM ps)) (dq (dE ps)),.p (cC p),.p (wC a b c)] (.bool true):=by
  intro t1 t2 h1 h2;have e3:decide (z3<=0)=(t1&&t2):=by rw[<-h1,<-h2,<-Bool.decide_and,rI];exact h3
  rcases t1 with _|_<;>rcases t2 with _|_<;>
   exact gz mixed func3 ay 300 (N:=118) k_ (λw=>cpS h h7 nR sS (.step 46 (av Tryz.f3 46) [.func (.func 12) #[] #[],sA ps.length (aM ps).length,cC p] ((6,none)::(7,none)::(8,none)::Gm ps) (.tuple #[.agg #[sl 6 vh,sl 7 Gn,eE 8],.bool t,iN 0])
     [(8,.fact ((dq gs).jT w.heap.size)),(7,.row xv 33 30),(6,.row xp 35 40)]
    (Du (B:=aa.at w) (S:=w.heap.size) oR (I1 (.p k_ .nil)) (x:=.func 12) k_ k_ rfl f1 f2 rfl (λw' hb=>Below.size hb) 6)::cpT hc h1 h2 [
    .step 109 (av Tryz.f3 109) [.func (.func 11) #[] #[],.agg #[sl 6 vh,sl 7 Gn,eE 8]] [(6,some (.row xp 35 40)),(7,some (.row xv 33 30)),(8,some (.fact ((dq gs).jT w.heap.size)))] (.bool true) []
     (dz kE (.si (IJ _ _) (x1:=.row xp 35 40) (x2:=.row xv 33 30) rfl f1 n1 rfl f2 n2 .nil) (x:=.func 11) k_ k_ rfl),
    .step 114 (av Tryz.f3 114) [.func (.func 17) #[] #[],.agg #[sl 6 vh,sl 7 Gn,eE 8],bB v] [(6,some (.row xp 35 40)),(7,some (.row xv 33 30)),(8,some (.fact ((dq gs).jT w.heap.size)))] (.int .i64 z3) []
     (dz LX (.si (IJ _ _) (x1:=.row xp 35 40) (x2:=.row xv 33 30) rfl f1 n1 rfl f2 n2 (.p rfl .nil)) (x:=.func 17) k_ k_ rfl),
    .rw 115 (.bool (decide (z3<=0))) (.bool _) (by rw[e3])])) (λw=>k_) k_
 exact key _ _ rfl rfl
end
theorem aT6{rs:List RP}(h:rs.all pz=true):rs=(rs.map pZ).map cH/\∀ q∈rs.map pZ,q.n≠0:=by
 rw[bh]at h;constructor
 ·rw[Su]
  conv=>lhs;rw[<-List.map_id rs]
  exact yA λr hr=>(Wg (h r hr)).1
 ·intro q hq;obtain⟨r,hr,rfl⟩:=dj.1 hq;exact(Wg (h r hr)).2
noncomputable def LY(ps:List (HS K))(a b c:Nat):V3 K:=
 aJ (aM ps) (a%(aM ps).length)+smul (aJ (aM ps) (b%(aM ps).length)-aJ (aM ps) (a%(aM ps).length)) (pq (((c%7:Nat):Int)-1) 4)
section
variable{ps:List (HS K)}{p:HS K}{a b c:Nat}
theorem XB(h:Good ps p):aD 13000 (LY ps a b c):=by have h4:=Xq h.cl h.proper h.full;have hv:=h.Xz.1;have s:∀ x:Nat,aD 4000 (aJ (aM ps) (x%(aM ps).length)):=λx=>hv _ (W7 (cE _ o_));have hk:Sz 3 (pq (((c%7:Nat):Int)-1) 4):=KR d_ (by have:c%7<7:=cE _ d_;omega) d_;exact((s a).add (((s b).sub (s a)).smul hk)).mono o_
theorem cpc(h:Good ps p)(la:a<256)(lb:b<256)(lc:c<256):
  LW ps p a b c (a%(aM ps).length) (b%(aM ps).length) (c%7) (((c%7:Nat):Int)-1) (sR ps (LY ps a b c)) (OF.az (dot p.n (LY ps a b c)-p.d)) (aJ (aM ps) (a%(aM ps).length)) (aJ (aM ps) (b%(aM ps).length))
   (aJ (aM ps) (b%(aM ps).length)-aJ (aM ps) (a%(aM ps).length)) (smul (aJ (aM ps) (b%(aM ps).length)-aJ (aM ps) (a%(aM ps).length)) (pq (((c%7:Nat):Int)-1) 4)) (LY ps a b c) (pq (((c%7:Nat):Int)-1) 4):=by
 have h4:=Xq h.cl h.proper h.full;have hv:=h.Xz.1;have ak:∀ x:Nat,x%(aM ps).length<(aM ps).length:=λx=>cE _ o_;have s:∀ x:Nat,aD 4000 (aJ (aM ps) (x%(aM ps).length)):=λx=>hv _ (W7 (ak x));have h7:c%7<7:=cE _ d_;have hk:Sz 3 (pq (((c%7:Nat):Int)-1) 4):=KR d_ o_ d_;have aGh:=aVk (p:=((c%7:Nat):Int)-1) (q:=4) (n:=3) d_ o_ d_ d_;rw[<-UW d_]at aGh;have tg:aD 8001 (aJ (aM ps) (b%(aM ps).length)-aJ (aM ps) (a%(aM ps).length)):=((s b).sub (s a)).mono o_;have aT7:aD 8008 (smul (aJ (aM ps) (b%(aM ps).length)-aJ (aM ps) (a%(aM ps).length)) (pq (((c%7:Nat):Int)-1) 4)):=(tg.smul hk).mono o_;exact⟨la,lb,lc,by omega,(aGi a (aM ps).length).symm,(aGi b (aM ps).length).symm,(aGi c 7).symm,by rw[c8];omega,jV (ak a),jV (ak b),aGh,aVy (s b) (s a) d_,aVx tg hk d_,aVT (s a) aT7 d_,aFX (n2:=(aM ps).length) (x2:=aL (aM ps)) (F:=dq (dE ps)) (dJ _) rfl h.pl (XB h) d_ (by have:=h.len;omega),aVm h.new.1 (XB h) d_ h.new.2⟩
theorem aT8(h:Good ps p)(h7:ps.length<=7)(nR:cy prog 8 [.s ps.length (aK ps) (aM ps).length (aL (aM ps)) (dq (dE ps))] (.bool true))(sS:aE prog 9 [cC p,vI 3] (.bool true))(la:a<256)(lb:b<256)(lc:c<256):
  cy prog 3 [.s ps.length (aK ps) (aM ps).length (aL (aM ps)) (dq (dE ps)),.p (cC p),.p (wC a b c)] (.bool true):=by
 have zr:=cpc h la lb lc;have h4:=Xq h.cl h.proper h.full;by_cases hf:kt (ps++[p])
 ·have oR:=aGc h.aGe h.cl h.full hf;unfold Au D4 at oR;rw[eY]at oR;have kE:=aGf h.aT2 h.cl' h.aT1 hf;have LX:=aFX (ps:=ps++[p]) (v:=LY ps a b c) (n2:=(aM (ps++[p])).length) (x2:=aL (aM (ps++[p]))) (F:=dq (dE (ps++[p]))) (dJ _) rfl h.all (XB h) d_ (by rw[iZ,zC];have:=h.len;omega);unfold LO at LX;have hl:(ps++[p]).length=ps.length+1:=by rw[iZ,zC]
  rw[hl]at kE LX;exact aT5 h h7 nR sS zr (cU _) (dJ _) (λe=>by omega) vV oR kE LX aTK
 ·have hi:qc (ps++[p]) (aM (ps++[p]))=false:=by
   cases e:qc (ps++[p]) (aM (ps++[p]))with
   |false=>rfl
   |true=>exact absurd ⟨_,(QB.1 e).2⟩ hf
  have oR:=aSW h.aGe ((QR h.proper).2 ⟨h.cl,h.full⟩) (QA.2 h.cl') hi;unfold Au D4 at oR;rw[eY]at oR;have hv:=h.Xz;have hmul:(aM ps).length*(4000+1)<=729*4001:=wY hv.2 (bj _);have vY:=aTB (n1:=ps.length) (x1:=aK ps) (F:=dq (dE ps)) (vs:=aM ps) (m:=4000) (cU ps) rfl hv.1 (de (Ix (jc 100 hmul) 10000) d_) (by have:=hv.2;omega) o_;have aU:((aM ps).length:Int)≠0:=by omega
  have hr:Sz 40 (pq 1 ((aM ps).length:Int)):=KR aU d_ (by have:=hv.2;rw[Bn];exact eL this d_);have dy:aD 3000000 (tL (aM ps)):=((KS _ hv.1).smul hr).mono o_;exact aT3 h h7 nR sS zr oR vY (aVm h.new.1 dy d_ h.new.2) (aTL h.cl h.proper h.full h.new.2 hi)
end
theorem aT9(ps:List (HS K)):∀ f∈dE ps,0<f.2.length:=by
 intro f hf;unfold dE at hf;obtain⟨g,hg,rfl⟩:=dj.1 hf;unfold ft at hg;rw[BM]at hg;obtain⟨i,_,hg⟩:=hg;unfold lQ at hg;split at hg
 ·unfold qX at hg;split at hg
  ·cases hg
  ·split at hg
   ·cases hg
   ·split at hg
    ·rename_i ak;simp at hg;subst hg;show 0<(List.map _ _).length;rw[eY];exact mf d_ ak
    ·cases hg
 ·cases hg
theorem cy.aUa{P:Program}{f:FuncId}{n1 n2:Nat}{x1 x2:aj}{fs:List (Int×List Int)}{l:List aR}{res:Value}(h:cy P f (.s n1 x1 n2 x2 (dq fs)::l) res)(hl:∀ f∈fs,0<f.2.length):cy P f (.s n1 x1 n2 x2 (nj fs)::l) res:=
 cy.Xg h λ_ _ hG=>aTi hG hl
section
variable{rs:List RP}{vs:List RV}{fs:List (Int×List Int)}{r:RP}{a b c:Nat}
def XC(rs:List RP)(vs:List RV)(fs:List (Int×List Int)):List (Nat×Option Obj):=[(0,some (.view (db rs))),(1,some (.view (cF vs))),(2,some (.fact (nj fs)))]
theorem aGj{Bs:aa}{l:List aR}{xs:aj}(h:fH Bs l xs []):fH Bs (.s rs.length (db rs) vs.length (cF vs) (nj fs)::l) (sA rs.length vs.length::xs) (XC rs vs fs):=
 .s (x1:=.view (db rs)) (x2:=.view (cF vs)) rfl (gT iC rs) Xi rfl (gT ga _) wz h
theorem aUb(rs:List RP)(vs:List RV)(fs:List (Int×List Int))(r:RP)(a b c:Nat):([.s rs.length (db rs) vs.length (cF vs) (nj fs),.p r.v,.p (wC a b c)].all aR.ok)=true:=by have e:(aR.s rs.length (db rs) vs.length (cF vs) (nj fs)).ok=true:=Xh rs vs fs;have e2:flat r.v=true:=k_;simp only[dH,fp,e,kD,iU];show(flat r.v&&flat (wC a b c))=true;rw[e2];rfl
noncomputable def LZ{Bs:aa}{t:Bool}(nR:cy prog 8 [jk rs vs fs] (.bool t))(more:bA prog Bs 118):bA prog Bs 118:=
 .step 17 (av Tryz.f3 17) [.func (.func 7) #[] #[]] [] (.bool true) [] (dz aGd .nil (x:=.func 7) k_ k_ rfl)::
 .step 20 (av Tryz.f3 20) [.func (.func 8) #[] #[],sA rs.length vs.length] (XC rs vs fs) (.bool t) [] (dz nR (aGj .nil) (x:=.func 8) k_ k_ rfl)::more
theorem aUc(QP:rs.length<9223372036854775807)(ik:vs.length<9223372036854775807)(wA:fs.length<9223372036854775807)(la:a<256)(lb:b<256)(lc:c<256):
  cy prog 3 [jk rs vs fs,.p r.v,.p (wC a b c)] (.bool true):=by
 have ay:=aUb rs vs fs r a b c;have nR:=aTw (rs:=rs) (vs:=vs) (fs:=fs) QP ik wA;have sS:=Wh r 3;by_cases hb:LQ rs vs fs=true;rotate_left
 ·have hb:LQ rs vs fs=false:=by simpa using hb
  rw[hb]at nR;unfold jk at *;exact gz mixed func3 ay 300 (N:=118) k_ (λw=>LZ nR []) (λw=>k_) k_
 rw[hb]at nR;by_cases h7:rs.length>7
 ·unfold jk at *;exact gz mixed func3 ay 300 (N:=118) k_ (λw=>LZ nR [.gt 26 rs.length 7 true (aC h7)]) (λw=>k_) k_
 have g7:decide (7<rs.length)=false:=aN h7;by_cases hw:xX r 3=true;rotate_left
 ·have hw:xX r 3=false:=by simpa using hw
  rw[hw]at sS;unfold jk at *;exact gz mixed func3 ay 300 (N:=118) k_ (λw=>LZ nR [.gt 26 rs.length 7 false g7,sS.at 30]) (λw=>k_) k_
 have QW:=P2 (Wi (n:=24) hw d_) d_;rw[hw]at sS;by_cases hv:pz r=true;rotate_left
 ·have hv:pz r=false:=by simpa using hv
  rw[hv]at QW;unfold jk at *;exact gz mixed func3 ay 300 (N:=118) k_ (λw=>LZ nR [.gt 26 rs.length 7 false g7,sS.at 30,QW.at 35]) (λw=>k_) k_
 rw[hv]at QW
 -- what a small record aU7
 have jz:=hb;unfold LQ LA at jz;simp only[da]at jz;obtain⟨cN,⟨hrp,_,_⟩,⟨hvw,aU8⟩,aU9⟩:=jz;rw[bh]at cN hrp hvw;have bH:∀ x∈rs,Ae 24 x:=λx hx=>Wi (hrp x hx) d_;have aO:∀ x∈vs,x.Sm:=λx hx=>aT0 (hvw x hx) d_;have qW:∀ f∈fs,f.2.length<9223372036854775807:=λf hf=>eL (kH (cN f hf)) d_;have bad:cy prog 11 [jk rs vs fs] (.bool false)->cy prog 3 [jk rs vs fs,.p r.v,.p (wC a b c)] (.bool true):=λkE=>by unfold jk at *;exact gz mixed func3 ay 300 (N:=118) k_ (λw=>LZ nR [.gt 26 rs.length 7 false g7,sS.at 30,QW.at 35,.step 40 (av Tryz.f3 40) [.func (.func 11) #[] #[],sA rs.length vs.length] (XC rs vs fs) (.bool false) [] (dz kE (aGj .nil) (x:=.func 11) k_ k_ rfl)]) (λw=>k_) k_
 by_cases bd:rs.all pz=true;rotate_left
 ·exact bad (aTq bH d_ QP (by simpa using bd))
 obtain⟨ers,fT⟩:=aT6 bd;have bW:∀ q∈rs.map pZ,bt 24 q/\q.n≠0:=λq hq=>by refine⟨?_,fT q hq⟩;obtain⟨x,hx,rfl⟩:=dj.1 hq;exact aDM (bh.1 bd x hx) (bH x hx)
 have hlen:(rs.map pZ).length=rs.length:=eY ..;obtain⟨er,K0⟩:=Wg hv;have EC:=aDM hv (Wi (n:=24) hw d_);generalize hP:rs.map pZ=ps at *;generalize hQ:pZ r=p at *;subst ers;subst er;have QX:gA ps:=λq hq=>(bW q hq).2;have aUd:pD ps 24 4000:=⟨by omega,bW,by decide,by decide⟩;have kE:=aFW (vs:=vs) (fs:=fs) aUd (λhc hs=>by have hc:=QD.1 hc;have hf:=aF1 QX hs;have:=Xn hc QX hf;rw[sP hc QX hf]at this;exact this) aO ik wA qW
 by_cases hvalid:D6 ps vs fs=true;rotate_left
 ·have hvalid:D6 ps vs fs=false:=by simpa using hvalid
  rw[hvalid]at kE;exact bad kE
 obtain⟨hc,hf,e1,e2⟩:=aTI QX hvalid;subst e1;subst e2;have aUe:Good ps p:=⟨by omega,bW,⟨EC,K0⟩,hc,hf⟩;unfold jk at nR ⊢;rw[eY,eY]at nR ⊢;exact cy.aUa (aT8 aUe o_ (cy.Xg nR (B6.full _).G) sS la lb lc) (aT9 ps)
end
end
section
variable{H:Type}{enc:TypeId×Value->H}{P:Program}{w:World}{base:Nat}{spare:Nat->Bool}{held:Bool}{fuel:Nat}{t:TypeId}{cs:aj}{x:DataW H×List MemPlace}
def I2(P:Program)(t:TypeId)(i:Nat):Option (TypeId×Nat):=match P.underlying t with
 |some (.struct fs)=>(fs[i]?).map λf=>(f.type,f.offset)
 |_=>none
def aGk(P:Program)(t:TypeId):Option (Nat×TypeId):=match P.underlying t with
 |some (.array n e)=>some (n,e)
 |_=>none
theorem L0{i u o:Nat}(hf:I2 P t i=some (u,o))(h:DataW.trod enc P w base spare held fuel t cs=some x):cs.length=P.cellsOf t:=by
 unfold I2 at hf;split at hf
 ·rename_i fs ht;obtain⟨_,_,_,_,hl,_⟩:=aGl ht h;exact hl
 ·cases hf
theorem yn{i u o:Nat}(hf:I2 P t i=some (u,o))(h:DataW.trod enc P w base spare held fuel t cs=some x):∃ n y,DataW.trod enc P w base spare held n u ((cs.drop o).take (P.cellsOf u))=some y:=by
 unfold I2 at hf;split at hf
 ·rename_i fs ht;obtain⟨xs,n,_,_,_,hlen,bd⟩:=aGl ht h;rw[Option.map_eq_some_iff]at hf;obtain⟨f,j6,he⟩:=hf;injection he with e1 e2;subst e1;subst e2;have:=bd i f j6;have hi:i<xs.length:=by rw[hlen];exact(yC.1 j6).1
  rw[bf hi]at this;exact⟨n,_,this⟩
 ·cases hf
theorem aGm{u k:Nat}{d:DataW H}:∀{ts:List TypeId} {ds:List (DataW H)} {i:Nat},ts[i]?=some u->ds[i]?=some d->k∈d.weights P u->k∈DataW.weightsEach P ts ds
 |[],_,i,h,_,_=>by simp at h
 |_::_,[],i,_,h,_=>by simp at h
 |t::ts,e::ds,0,h1,h2,h3=>by simp at h1 h2;subst h1;subst h2;unfold DataW.weightsEach;exact sO _ h3
 |t::ts,e::ds,i+1,h1,h2,h3=>by unfold DataW.weightsEach;exact yf _ (aGm (by simpa using h1) (by simpa using h2) h3)
theorem XD{i u o:Nat}(hf:I2 P t i=some (u,o))(h:DataW.trod enc P w base spare held fuel t cs=some x):∃ n y,DataW.trod enc P w base spare held n u ((cs.drop o).take (P.cellsOf u))=some y/\∀ k∈y.1.weights P u,k∈x.1.weights P t:=by
 unfold I2 at hf;split at hf
 ·rename_i fs ht;obtain⟨xs,n,_,hx,_,hlen,bd⟩:=aGl ht h;rw[Option.map_eq_some_iff]at hf;obtain⟨f,j6,he⟩:=hf;injection he with e1 e2;subst e1;subst e2;have:=bd i f j6;have hi:i<xs.length:=by rw[hlen];exact(yC.1 j6).1
  have hxi:=bf hi;rw[hxi]at this;refine⟨n,_,this,λk hk=>?_⟩;rw[hx];show k∈(DataW.agg (xs.map (·.1))).weights P t;unfold DataW.weights;rw[ht];refine aGm (i:=i) (u:=f.type) (d:=xs[i].1) ?_ ?_ hk
  ·rw[Ce,show fs.toList[i]?=some f by rw[Array.getElem?_toList];exact j6];rfl
  ·rw[Ce,hxi];rfl
 ·cases hf
theorem aUf{e:TypeId}{a:Addr}{len cap:Nat}(ht:P.underlying t=some (.slice e))(hb:0<P.bytesOf e)(h:DataW.trod enc P w base spare held fuel t [.slice (some a) len cap]=some x)(hw:∀ k∈x.1.weights P t,k<=reachBytes):len<=reachBytes:=by
 rcases DataW.trod_slice ht h with ⟨h1,_⟩|⟨a',lE,aT,elems,rest,n,_,h1,hx,_,_,_,hlen,_⟩
 ·cases h1
 ·injection h1 with h1;injection h1 with _ e2 _;subst e2;have:=hw ((elems.length+rest.length)*P.bytesOf e) (by rw[hx];show _∈(DataW.slice (elems.map (·.1)) (rest.map (·.1))).weights P t;unfold DataW.weights;rw[ht];simp)
  have h2:elems.length+rest.length<=(elems.length+rest.length)*P.bytesOf e:=EK _ hb;omega
theorem aGn{n e:Nat}(he:aGk P t=some (n,e))(h:DataW.trod enc P w base spare held fuel t cs=some x):cs.length=P.cellsOf t/\∀ i,i<n->∃ m y,DataW.trod enc P w base spare held m e ((cs.drop (i*P.cellsOf e)).take (P.cellsOf e))=some y:=by
 unfold aGk at he;split at he
 ·rename_i n' e' ht;injection he with he;injection he with e1 e2;subst e1;subst e2;obtain⟨xs,m,_,_,hl,hlen,bd⟩:=DataW.trod_array ht h;refine⟨hl,λi hi=>?_⟩;have:=bd i hi;rw[bf o_]at this;exact⟨m,_,this⟩
 ·cases he
theorem aGo{α:Type}{p:Nat->α->Prop}:∀ n,(∀ i,i<n->∃ r,p i r)->∃ rs:List α,rs.length=n/\∀ i r,rs[i]?=some r->p i r
 |0,_=>⟨[],rfl,λi r h=>by simp at h⟩
 |n+1,h=>by
  obtain⟨rs,h1,h2⟩:=aGo n λi hi=>h i o_;obtain⟨r,hr⟩:=h n o_;refine⟨rs++[r],by rw[iZ,h1];rfl,λi r' hi=>?_⟩;rcases eF i rs.length with ak|dR
  ·rw[Ji ak]at hi;exact h2 i r' hi
  ·rw[Eh dR]at hi;have hi0:i-rs.length=0:=by have:=(ew.1 hi).1;simp at this;omega
   rw[hi0]at hi;simp at hi;subst hi;have:i=n:=by omega
   subst this;exact hr
theorem aGp{α:Type}{f:α->aj}{s:Nat}(hE:∀ x,(f x).length=s)(pV:0<s){e:TypeId}(ht:P.underlying t=some (.slice e))(hs:P.cellsOf e=s)(XE:∀ n cs y,DataW.trod enc P w 0 (λ_=>true) true n e cs=some y->∃ r,cs=f r)
  {v:Value} (h:DataW.trod enc P w 0 (λ_=>true) true fuel t [v]=some x) :
  v=.slice none 0 0\/∃ a len cap,∃ rs:List α,v=.slice (some a) len cap/\len<=cap/\cap<=maxLen/\rs.length=len/\(∀ i r j u,rs[i]?=some r->(f r)[j]?=some u->w.cell? ((a.add (i*s)).add j)=some u)/\(0<cap->∃ u,w.cell? (a.add 0)=some u):=by
 rcases DataW.trod_slice ht h with ⟨h1,_⟩|⟨a,len,cap,elems,rest,n,_,h1,_,hb,hl,hc,hlen,tz,zJ,_⟩
 ·injection h1 with h1;exact .inl h1
 ·injection h1 with h1;subst h1;refine .inr ⟨a,len,cap,?_⟩;have key:∀ i,i<len->∃ r:α,∀ j u,(f r)[j]?=some u->w.cell? ((a.add (i*s)).add j)=some u:=by intro i hi;have:=tz i hi;rw[bf o_,aGq]at this;obtain⟨bC,h2,h3⟩:=this;obtain⟨r,rfl⟩:=XE _ _ _ h3;refine⟨r,λj u hj=>?_⟩;rw[hs]at h2;obtain⟨_,jv,bd⟩:=World.cells?_some h2;have Qx:=(ew.1 hj).1;rw[bd j o_];exact hj
  obtain⟨rs,q1,q2⟩:=aGo len key;refine⟨rs,rfl,hl,hc,q1,λi r j u hi hj=>q2 i r hi j u hj,λyU=>?_⟩;have any:∃ bC,w.cells? 0 (a.add (0*s)) s=some bC:=by
   rcases ob len with h0|h0
   ·obtain⟨Ag,hr⟩:=zJ rfl;have:=hr 0 o_;rw[bf o_,aGq]at this;obtain⟨bC,h2,_⟩:=this;rw[h0,hs]at h2;exact⟨bC,h2⟩
   ·have:=tz 0 h0;rw[bf o_,aGq]at this;obtain⟨bC,h2,_⟩:=this;rw[hs]at h2;exact⟨bC,h2⟩
  obtain⟨bC,h2⟩:=any;obtain⟨_,jv,bd⟩:=World.cells?_some h2;have:=bd 0 pV;rw[bf (by rw[jv];exact pV),lC]at this;exact⟨_,this⟩
theorem aGr{α:Type}{f:α->aj}{s:Nat}(hE:∀ x,(f x).length=s):∀{l:List α} {k:Nat} {u:Value},(dc f l)[k]?=some u->∃ i r j,l[i]?=some r/\(f r)[j]?=some u/\k=i*s+j
 |[],k,u,h=>by simp[dc]at h
 |x::l,k,u,h=>by
  rw[show dc f (x::l)=f x++dc f l from rfl]at h;rcases eF k (f x).length with ak|dR
  ·rw[Ji ak]at h;exact⟨0,x,k,rfl,h,by rw[lC,jY]⟩
  ·rw[Eh dR]at h;obtain⟨i,r,j,h1,h2,h3⟩:=aGr hE h;refine⟨i+1,r,j,by simpa using h1,h2,?_⟩;rw[hE]at h3 dR;rw[yH];omega
theorem aUg(b o i j:Nat):((⟨b,o,none⟩:Addr).add i).add j=⟨b,o+(i+j),none⟩:=by unfold Addr.add;by_cases hi:i=0<;>by_cases hj:j=0<;>simp[hi,hj,uk]
def isAgg(P:Program)(T:TypeId):Bool:=match P.underlying T with|some (.struct _)=>true|some (.array _ _)=>true|_=>false
theorem XF{T:TypeId}{v:Value}{r:Reach}(hs:isAgg P T=true)(hv:Value.okWide P w r base T v):∃ cs,v=.agg cs/\cs.size=P.cellsOf T/\Row.okWide P w r base T cs:=by
 unfold Value.okWide at hv;unfold isAgg at hs;split at hs
 ·rename_i e;rw[e]at hv;exact hv
 ·rename_i e;rw[e]at hv;exact hv
 ·cases hs
theorem aUh{T e:TypeId}{a:Addr}{len cap:Nat}{r:Reach}(ht:P.underlying T=some (.slice e))(h:Cell.okWide P w r base T (.slice (some a) len cap)):a.spot=none/\a.block<w.heap.size:=by
 unfold Cell.okWide at h;rw[ht]at h;have h:Cell.ok P w r base T (.slice (some a) len cap):=h;unfold Cell.ok at h;rw[ht]at h;obtain⟨_,_,_,h1,row,cells,h2,_⟩:=h;refine⟨h1,?_⟩;unfold World.shape? at h2;split at h2
 ·rename_i c t f he;exact(yC.1 he).1
 ·cases h2
theorem aGs{α:Type}{f:α->aj}{s:Nat}(hE:∀ x,(f x).length=s){b o len cap:Nat}{rs:List α}(hl:len<=cap)(hb:b<w.heap.size)(hlen:rs.length=len)(h:∀ i r j u,rs[i]?=some r->(f r)[j]?=some u->w.cell? (((⟨b,o,none⟩:Addr).add (i*s)).add j)=some u):
  cK w (.slice (some ⟨b,o,none⟩) len cap) rs.length (dc f rs):=by
 refine .inr ⟨b,o,cap,by rw[hlen],by omega,hb,λk u hk=>?_⟩;obtain⟨i,r,j,h1,h2,rfl⟩:=aGr hE hk;have:=h i r j u h1 h2;rwa[aUg]at this
end
section
variable{H:Type}{enc:TypeId×Value->H}{w:World}{base:Nat}{spare:Nat->Bool}{held:Bool}{fuel:Nat}{cs:aj}{x:DataW H×List MemPlace}
theorem aGt{cs:aj}(h:cs.length=2):∃ a b,cs=[a,b]:=by
 match cs,h with
 |[a,b],_=>exact⟨a,b,rfl⟩
theorem aUi(h:DataW.trod enc prog w base spare held fuel 4 cs=some x):∃ b,cs=[.bool b]:=by obtain⟨b,h1,_⟩:=DataW.trod_bool (P:=prog) k_ h;exact⟨b,h1⟩
theorem aUj(h:DataW.trod enc prog w base spare held fuel 9 cs=some x):∃ l:List UInt8,cs=[.string (BA l)]:=by obtain⟨s,h1,_⟩:=DataW.trod_string (P:=prog) k_ h;exact⟨s.data.toList,by rw[h1];rfl⟩
theorem aGu(h:DataW.trod enc prog w base spare held fuel 3 cs=some x):∃ z,cs=[iV z]:=by obtain⟨z,h1,_⟩:=DataW.trod_int (P:=prog) (k:=.i64) k_ h;exact⟨z,h1⟩
theorem XG(h:DataW.trod enc prog w base spare held fuel 5 cs=some x):∃ n:Nat,n<256/\cs=[.int .u8 n]:=by obtain⟨z,h1,_,h3⟩:=DataW.trod_int (P:=prog) (k:=.u8) k_ h;simp[Lit.wf,IntKind.min,IntKind.max,IntKind.signed,IntKind.bits]at h3;obtain⟨n,rfl⟩:∃ n:Nat,z=n:=⟨z.toNat,by omega⟩;exact⟨n,by omega,h1⟩
theorem L3(h:DataW.trod enc prog w base spare held fuel 28 cs=some x):∃ q:RI,cs=q.cs:=by have hl:=L0 (P:=prog) (i:=0) (u:=4) (o:=0) k_ h;rw[show prog.cellsOf 28=2 from k_]at hl;obtain⟨_,_,h0⟩:=yn (P:=prog) (i:=0) (u:=4) (o:=0) k_ h;obtain⟨_,_,h1⟩:=yn (P:=prog) (i:=1) (u:=9) (o:=1) k_ h;rw[show prog.cellsOf 4=1 from k_]at h0;rw[show prog.cellsOf 9=1 from k_]at h1;obtain⟨a,b,rfl⟩:=aGt hl;obtain⟨b0,e0⟩:=aUi h0;obtain⟨l,e1⟩:=aUj h1;simp at e0 e1;subst e0;subst e1;exact⟨⟨b0,l⟩,rfl⟩
theorem aUk(h:DataW.trod enc prog w base spare held fuel 29 cs=some x):∃ a b c e:RI,cs=a.cs++(b.cs++(c.cs++e.cs)):=by
 obtain⟨hl,bd⟩:=aGn (P:=prog) (n:=4) (e:=28) k_ h;rw[show prog.cellsOf 29=8 from k_]at hl;rw[show prog.cellsOf 28=2 from k_]at bd;obtain⟨_,_,h0⟩:=bd 0 d_;obtain⟨_,_,h1⟩:=bd 1 d_;obtain⟨_,_,h2⟩:=bd 2 d_;obtain⟨_,_,h3⟩:=bd 3 d_;obtain⟨a,e0⟩:=L3 h0;obtain⟨b,e1⟩:=L3 h1;obtain⟨c,e2⟩:=L3 h2;obtain⟨e,e3⟩:=L3 h3;refine⟨a,b,c,e,?_⟩;rw[<-e0,<-e1,<-e2,<-e3]
 match cs,hl with
 |[_,_,_,_,_,_,_,_],_=>rfl
theorem QY(h:DataW.trod enc prog w base spare held fuel 31 cs=some x):∃ r:RN,cs=r.cs:=by
 have hl:=L0 (P:=prog) (i:=0) (u:=29) (o:=0) k_ h;rw[show prog.cellsOf 31=10 from k_]at hl;obtain⟨_,_,h0⟩:=yn (P:=prog) (i:=0) (u:=29) (o:=0) k_ h;obtain⟨_,_,h1⟩:=yn (P:=prog) (i:=1) (u:=28) (o:=8) k_ h;rw[show prog.cellsOf 29=8 from k_]at h0;rw[show prog.cellsOf 28=2 from k_]at h1;obtain⟨a,b,c,e,e0⟩:=aUk h0;obtain⟨d,e1⟩:=L3 h1;have:cs=(cs.drop 0).take 8++(cs.drop 8).take 2:=by
  match cs,hl with
  |[_,_,_,_,_,_,_,_,_,_],_=>rfl
 refine⟨⟨a,b,c,e,d⟩,?_⟩;rw[this,e0,e1];rfl
theorem aGv(h:DataW.trod enc prog w base spare held fuel 33 cs=some x):∃ r:RV,cs=r.cs:=by
 have hl:=L0 (P:=prog) (i:=0) (u:=31) (o:=0) k_ h;rw[show prog.cellsOf 33=30 from k_]at hl;obtain⟨_,_,h0⟩:=yn (P:=prog) (i:=0) (u:=31) (o:=0) k_ h;obtain⟨_,_,h1⟩:=yn (P:=prog) (i:=1) (u:=31) (o:=10) k_ h;obtain⟨_,_,h2⟩:=yn (P:=prog) (i:=2) (u:=31) (o:=20) k_ h;rw[show prog.cellsOf 31=10 from k_]at h0 h1 h2;obtain⟨a,e0⟩:=QY h0;obtain⟨b,e1⟩:=QY h1;obtain⟨c,e2⟩:=QY h2;have:cs=(cs.drop 0).take 10++((cs.drop 10).take 10++(cs.drop 20).take 10):=by
  have t2:(cs.drop 20).take 10=cs.drop 20:=ki (by rw[vl];omega);have t1:(cs.drop 10).take 10++cs.drop 20=cs.drop 10:=by have:=H5 10 (cs.drop 10);rwa[M7]at this
  rw[t2,t1,l9,H5]
 refine⟨⟨a,b,c⟩,?_⟩;rw[this,e0,e1,e2];rfl
theorem aGw(h:DataW.trod enc prog w base spare held fuel 35 cs=some x):∃ r:RP,cs=r.cs:=by
 have hl:=L0 (P:=prog) (i:=0) (u:=33) (o:=0) k_ h;rw[show prog.cellsOf 35=40 from k_]at hl;obtain⟨_,_,h0⟩:=yn (P:=prog) (i:=0) (u:=33) (o:=0) k_ h;obtain⟨_,_,h1⟩:=yn (P:=prog) (i:=1) (u:=31) (o:=30) k_ h;rw[show prog.cellsOf 33=30 from k_]at h0;rw[show prog.cellsOf 31=10 from k_]at h1;obtain⟨a,e0⟩:=aGv h0;obtain⟨b,e1⟩:=QY h1;have:cs=(cs.drop 0).take 30++(cs.drop 30).take 10:=by have t2:(cs.drop 30).take 10=cs.drop 30:=ki (by rw[vl];omega);rw[t2,l9,H5]
 refine⟨⟨a,b⟩,?_⟩;rw[this,e0,e1];rfl
def QZ(z:Int):aj:=[iV z]
theorem aUl(l:List Int):dc QZ l=eD l:=by
 induction l with
 |nil=>rfl
 |cons z l ih=>show[iV z]++dc QZ l=_;rw[ih];rfl
theorem aUm{w:World}{a:Addr}{u:Value}(h:w.cell? a=some u):a.spot=none/\a.block<w.heap.size:=by
 unfold World.cell? at h;split at h
 ·rename_i c t f he;refine⟨?_,(yC.1 he).1⟩;cases hs:a.spot with
  |none=>rfl
  |some s=>rw[hs]at h;simp at h
 ·cases h
theorem aUn{v:Value}(h:DataW.trod enc prog w 0 (λ_=>true) true fuel 56 [v]=some x):∃ l:List Int,pE w v l.length (eD l):=by
 rcases aGp (P:=prog) (f:=QZ) (s:=1) (λ_=>rfl) d_ (e:=3) k_ k_ (λn cs y hy=>aGu hy) h with h1|⟨a,len,cap,rs,h1,hl,hc,hlen,lX,A4⟩
 ·exact⟨[],.inl (.inl ⟨h1,rfl,rfl⟩)⟩
 ·refine⟨rs,?_⟩;subst h1;rcases ob cap with h0|h0
  ·refine .inr ⟨by omega,a,?_⟩;rw[show len=0 by omega,h0]
  ·obtain⟨u,hu⟩:=A4 h0;have e0:a.add 0=a:=rfl;rw[e0]at hu;obtain⟨hs,hb⟩:=aUm hu;obtain⟨b,o,sp⟩:=a;dsimp only at hs hb;subst hs;have:=aGs (f:=QZ) (s:=1) (λ_=>rfl) hl hb hlen lX;rw[aUl]at this;exact .inl this
def XH(w:World):Type:={ r:(Int×List Int)×Value // pE w r.2 r.1.2.length (eD r.1.2)}
def L4{w:World}(r:XH w):aj:=[iV r.1.1.1,r.1.2]
theorem aUo{n:Nat}{cs:aj}{y:DataW H×List MemPlace}(h:DataW.trod enc prog w 0 (λ_=>true) true n 63 cs=some y):∃ r:XH w,cs=L4 r:=by have hl:=L0 (P:=prog) (i:=0) (u:=3) (o:=0) k_ h;rw[show prog.cellsOf 63=2 from k_]at hl;obtain⟨_,_,h0⟩:=yn (P:=prog) (i:=0) (u:=3) (o:=0) k_ h;obtain⟨_,_,h1⟩:=yn (P:=prog) (i:=1) (u:=56) (o:=1) k_ h;rw[show prog.cellsOf 3=1 from k_]at h0;rw[show prog.cellsOf 56=1 from k_]at h1;obtain⟨a,b,rfl⟩:=aGt hl;obtain⟨z,e0⟩:=aGu h0;obtain⟨l,hw⟩:=aUn h1;simp at e0;subst e0;exact⟨⟨((z,l),b),hw⟩,rfl⟩
theorem aGx{w:World}:∀ rs:List (XH w),rh w (rs.map λr=>r.1.1) (dc L4 rs)
 |[]=>.nil
 |r::rs=>by show rh w (r.1.1::rs.map λr=>r.1.1) (L4 r++dc L4 rs);obtain⟨⟨⟨z,l⟩,u⟩,hw⟩:=r;exact .cons hw (aGx rs)
set_option maxRecDepth 100000 in
theorem XI{α:Type}{f:α->aj}{s:Nat}(hE:∀ x,(f x).length=s)(pV:0<s){T e:TypeId}(ht:prog.underlying T=some (.slice e))(hs:prog.cellsOf e=s)(hb:0<prog.bytesOf e)(XE:∀ n cs (y:DataW H×List MemPlace),DataW.trod enc prog w 0 (λ_=>true) true n e cs=some y->∃ r,cs=f r)
  {v:Value} {r:Reach} (ay:Cell.okWide prog w r base T v) (h:DataW.trod enc prog w 0 (λ_=>true) true fuel T [v]=some x) (hw:∀ k∈x.1.weights prog T,k<=reachBytes):∃ rs:List α,cK w v rs.length (dc f rs)/\rs.length<=reachBytes:=by
 rcases aGp hE pV ht hs XE h with h1|⟨a,len,cap,rs,h1,hl,hc,hlen,lX,_⟩
 ·exact⟨[],.inl ⟨h1,rfl,rfl⟩,kT _⟩
 ·subst h1;obtain⟨q1,q2⟩:=aUh ht ay;have OL:=aUf ht hb h hw;obtain⟨b,o,sp⟩:=a;dsimp only at q1 q2;subst q1;exact⟨rs,aGs hE hl q2 hlen lX,by omega⟩
set_option maxRecDepth 100000 in
theorem aUp{v:Value}{d:DataW H}{p:List MemPlace}(hv:Value.okWide prog w .any base 26 v)(h:DataW.Trod enc prog w 0 (λ_=>true) true 26 v d p)(hw:∀ k∈d.weights prog 26,k<=reachBytes):
  ∃ rs vs fs,(jk rs vs fs).In w v/\rs.length<=reachBytes/\vs.length<=reachBytes/\fs.length<=reachBytes:=by
 obtain⟨fuel,h⟩:=h;obtain⟨cs,rfl,bH,jm⟩:=XF k_ hv;rw[show prog.cellsOf 26=3 from k_]at bH;obtain⟨c0,c1,c2,rfl⟩:∃ a b c,cs=#[a,b,c]:=by
  obtain⟨l⟩:=cs
  match l,bH with
  |[a,b,c],_=>exact⟨a,b,c,rfl⟩
 obtain⟨ts,hts,_,iY⟩:=jm;have Q0:prog.cellTypes prog.depth 26=some [22,23,24]:=k_;rw[hts]at Q0;injection Q0 with Q0;subst Q0;have k0:Cell.okWide prog w .any base 22 c0:=by obtain⟨u,hu,ay⟩:=iY 0 c0 rfl;simp at hu;subst hu;exact ay
 have k1:Cell.okWide prog w .any base 23 c1:=by obtain⟨u,hu,ay⟩:=iY 1 c1 rfl;simp at hu;subst hu;exact ay
 have k2:Cell.okWide prog w .any base 24 c2:=by obtain⟨u,hu,ay⟩:=iY 2 c2 rfl;simp at hu;subst hu;exact ay
 have h:DataW.trod enc prog w 0 (λ_=>true) true fuel 26 [c0,c1,c2]=some (d,p):=h;obtain⟨_,_,h0,w0⟩:=XD (P:=prog) (i:=0) (u:=22) (o:=0) k_ h;obtain⟨_,_,h1,w1⟩:=XD (P:=prog) (i:=1) (u:=23) (o:=1) k_ h;obtain⟨_,_,h2,w2⟩:=XD (P:=prog) (i:=2) (u:=24) (o:=2) k_ h;rw[show prog.cellsOf 22=1 from k_]at h0;rw[show prog.cellsOf 23=1 from k_]at h1;rw[show prog.cellsOf 24=1 from k_]at h2;obtain⟨rs,q0,l0⟩:=XI (f:=RP.cs) (s:=40) iC.len d_ (e:=35) k_ k_ (kH k_) (λn cs y hy=>aGw hy) k0 h0 (λk hk=>hw k (w0 k hk));obtain⟨vs,q1,l1⟩:=XI (f:=RV.cs) (s:=30) ga.len d_ (e:=33) k_ k_ (kH k_) (λn cs y hy=>aGv hy) k1 h1 (λk hk=>hw k (w1 k hk));obtain⟨fs,q2,l2⟩:=XI (f:=L4 (w:=w)) (s:=2) (λ_=>rfl) d_ (e:=63) k_ k_ (kH k_) (λn cs y hy=>aUo hy) k2 h2 (λk hk=>hw k (w2 k hk));refine⟨rs,vs,fs.map λr=>r.1.1,⟨c0,c1,c2,rfl,q0,q1,⟨_,by rw[eY];exact q2,aGx fs⟩,?_⟩,l0,l1,by rw[eY];exact l2⟩;rcases q2 with ⟨e,_⟩|⟨_,_,_,e,_⟩<;>rw[e]<;>exact⟨rfl,rfl⟩
set_option maxRecDepth 100000 in
theorem aUq{v:Value}{d:DataW H}{p:List MemPlace}(hv:Value.okWide prog w .any base 35 v)(h:DataW.Trod enc prog w 0 (λ_=>true) true 35 v d p):∃ r:RP,v=r.v:=by obtain⟨cs,rfl,_,_⟩:=XF k_ hv;obtain⟨fuel,h⟩:=h;obtain⟨r,hr⟩:=aGw (cs:=cs.toList) h;refine⟨r,?_⟩;show Value.agg cs=.agg r.cs.toArray;rw[<-hr]
set_option maxRecDepth 100000 in
theorem aUr{v:Value}{d:DataW H}{p:List MemPlace}(hv:Value.okWide prog w .any base 36 v)(h:DataW.Trod enc prog w 0 (λ_=>true) true 36 v d p):∃ a b c:Nat,a<256/\b<256/\c<256/\v=wC a b c:=by
 obtain⟨cs,rfl,_,_⟩:=XF k_ hv;obtain⟨fuel,h⟩:=h;have h:DataW.trod enc prog w 0 (λ_=>true) true fuel 36 cs.toList=some (d,p):=h;obtain⟨hl,bd⟩:=aGn (P:=prog) (n:=3) (e:=5) k_ h;rw[show prog.cellsOf 36=3 from k_]at hl;rw[show prog.cellsOf 5=1 from k_]at bd;obtain⟨_,_,h0⟩:=bd 0 d_;obtain⟨_,_,h1⟩:=bd 1 d_;obtain⟨_,_,h2⟩:=bd 2 d_;obtain⟨a,la,e0⟩:=XG h0;obtain⟨b,lb,e1⟩:=XG h1;obtain⟨c,lc,e2⟩:=XG h2;obtain⟨l⟩:=cs;refine⟨a,b,c,la,lb,lc,?_⟩
 match l,hl with
 |[x,y,z],_=>
  simp at e0 e1 e2;subst e0;subst e1;subst e2;rfl
end
end Go.Proofs.YtjjefbkbljlgdaaGreatDoor
