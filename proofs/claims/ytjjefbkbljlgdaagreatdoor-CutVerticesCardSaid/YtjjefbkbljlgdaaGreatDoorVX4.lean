/- Vertices after a cut: the proof of CutVerticesCardSaid (the law's function answers true at every record and plane it can be given; theorem cutVertices_card, last part), part 4 of 7; no condition. -/
import Derived.Test.YtjjefbkbljlgdaaGreatDoorVX3
namespace Go.Proofs.YtjjefbkbljlgdaaGreatDoor
open Go Go.RowKit Tryz
theorem aWO{a b n:Nat}(ha:a<bz^n)(hb:b<bz^n):a+b<bz^(n+1):=by have h1:bz^n*2<=bz^n*bz:=jz _ d_;rw[dy];omega
theorem Lw{n i s:Nat}(hi:i<n){d:Nat}(hd:d=s/bz^i%bz):e6 prog 3 (ai (eC bz n i s)) i (vI d)=some (ai (eC bz n (i+1) s)):=by rw[wx (by rw[Nd];exact hi),Nf hi hd]
theorem VC(n s:Nat):List.replicate n (vI 0)=ai (eC bz n 0 s):=by rw[SC,Ln]
section
variable{Bs:aa}{ka kb n m a b:Nat}
def Gc(ka kb n m a b i:Nat):aR:=[(7,vI i),(0,sl ka n),(1,sl kb m),(5,sl 2 (n+1)),(6,vI (eR bz a b i))]
def B6(ka kb n m a b i:Nat):aH:=[(ka,.view (ai (ae bz n a))),(kb,.view (ai (ae bz m b))),(2,.row (ai (eC bz (n+1) i (a+b))) 3 1)]
theorem aNV{i:Nat}(hk:(ka=0/\kb=1)\/(ka=1/\kb=0))(hi:i<n)(hb:b<bz^m)(h63:n<35184372088832):
  ag prog Bs 55 (aF (af f94 0)) (Gc ka kb n m a b i) (B6 ka kb n m a b i) 3 ⟨.normal,Gc ka kb n m a b (i+1),B6 ka kb n m a b (i+1),3⟩:=by
 have hx:=hZ (B:=bz) d_ a i;have hy:=hZ (B:=bz) d_ b i;have hc:=A9 (B:=bz) d_ a b i;have hs:=G4 (B:=bz) d_ a b i;have dp:=EW (B:=bz) d_ a b i;have bM:=Lw (n:=n+1) (i:=i) (s:=a+b) o_ rfl;have k7:dw prog 3 (ai (ae bz n a)) i=some (vI (a/bz^i%bz)):=dQ (eB hi);have lq:i<m->dw prog 3 (ai (ae bz m b)) i=some (vI (b/bz^i%bz)):=λjN=>dQ (eB jN);have kU:¬i<m->b/bz^i%bz=0:=λjN=>qQ hb o_ d_;unfold Gc B6;generalize ai (eC bz (n+1) (i+1) (a+b))=r1 at *;generalize ai (eC bz (n+1) i (a+b))=r0 at *;generalize ai (ae bz n a)=ra at *;generalize ai (ae bz m b)=rb at *;generalize eR bz a b (i+1)=c' at *;generalize eR bz a b i=c at *;generalize (a+b)/bz^i%bz=z at *;generalize a/bz^i%bz=x at *;generalize b/bz^i%bz=y at *;have e0:x+y+c=c+x+y:=by omega
 have e1:z=(c+x+y)%bz:=by rw[<-hs,e0]
 have e2:c'=(c+x+y)/bz:=by rw[<-dp,e0]
 have jW:bz=16777216:=rfl;by_cases jN:i<m
 ·have lq:=lq jN
  let S:Nat->Nat->bI prog Bs 55:=λka kb=>[.lt 22 i n true (by simp[hi]),.ix f94 28 ka n i hi k_,.ld f94 29 3 ka i (.view ra) (vI x) rfl k7 k_,.sum 30 c x (c+x) rfl o_,.lt 34 i m true (by simp[jN]),.ix f94 38 kb m i jN k_,.ld f94 39 3 kb i (.view rb) (vI y) rfl lq k_,.sum 40 (c+x) y (c+x+y) rfl o_,.F9 44 (c+x+y) bz z e1,.ix f94 45 2 (n+1) i o_ k_,.st f94 100045 3 2 i (.row r0 3 1) (vI z) (.row r1 3 1) rfl bM rfl k_,.Ga 47 (c+x+y) bz c' e2 o_,.sum 24 i 1 (i+1) rfl o_]
  rcases hk with ⟨rfl,rfl⟩|⟨rfl,rfl⟩
  ·exact aC (S 0 1)
  ·exact aC (S 1 0)
 ·have xe:=kU jN;rw[xe,jv]at e1 e2
  let S:Nat->Nat->bI prog Bs 55:=λka kb=>[.lt 22 i n true (by simp[hi]),.ix f94 28 ka n i hi k_,.ld f94 29 3 ka i (.view ra) (vI x) rfl k7 k_,.sum 30 c x (c+x) rfl o_,.lt 34 i m false (by simp[jN]),.F9 44 (c+x) bz z e1,.ix f94 45 2 (n+1) i o_ k_,.st f94 100045 3 2 i (.row r0 3 1) (vI z) (.row r1 3 1) rfl bM rfl k_,.Ga 47 (c+x) bz c' e2 o_,.sum 24 i 1 (i+1) rfl o_]
  rcases hk with ⟨rfl,rfl⟩|⟨rfl,rfl⟩
  ·exact aC (S 0 1)
  ·exact aC (S 1 0)
theorem aNW(hk:(ka=0/\kb=1)\/(ka=1/\kb=0))(hb:b<bz^m)(h63:n<35184372088832):
  ag prog Bs 55 (.block 0 (af f94 0)) (Gc ka kb n m a b 0) (B6 ka kb n m a b 0) 3 ⟨.normal,Gc ka kb n m a b n,B6 ka kb n m a b n,3⟩:=
 bT (cd (b:=aF (af f94 0)) (r:=⟨.exit 0,Gc ka kb n m a b n,B6 ka kb n m a b n,3⟩) n (Gc ka kb n m a b) (B6 ka kb n m a b) (λi k _=>j0 (l:=B6 ka kb n m a b i) (m:=B6 ka kb n m a b 0) rfl k) (λi hi=>aNV hk hi hb h63)
  (by rcases hk with ⟨rfl,rfl⟩|⟨rfl,rfl⟩<;>exact aC [.lt 22 n n false s_]) n_)
noncomputable def aDi(hk:(ka=0/\kb=1)\/(ka=1/\kb=0))(hb:b<bz^m)(h63:n<35184372088832)(hs:a+b<bz^(n+1))
  (bM:e6 prog 3 (ai (eC bz (n+1) n (a+b))) n (vI (eR bz a b n))=some (ai (ae bz (n+1) (a+b)))):bI prog Bs 55:=
 [.sum 17 n 1 (n+1) rfl o_,.qd f94 18 2 (n+1) 3 8 (vI 0) (ai (eC bz (n+1) 0 (a+b))) (VC _ _) rfl rfl o_ (by simp[maxLen];omega) k_,.rw 6 (.int .i64 0) (vI (eR bz a b 0)) (by rw[Nh];rfl),.code 0 _ _ _ _ _ (aNW (ka:=ka) (kb:=kb) (a:=a) hk hb o_),.ix f94 52 2 (n+1) n o_ k_,.st f94 100052 3 2 n (.row (ai (eC bz (n+1) n (a+b))) 3 1) (vI (eR bz a b n)) (.row (ai (ae bz (n+1) (a+b))) 3 1) rfl bM rfl k_,.DM f94 54 2 (n+1) (a+b) (.row (ai (ae bz (n+1) (a+b))) 3 1) rfl rfl hs o_ k_]
end
theorem aWT{a b n:Nat}(ha:a<bz^n)(hb:b<bz^n):e6 prog 3 (ai (eC bz (n+1) n (a+b))) n (vI (eR bz a b n))=some (ai (ae bz (n+1) (a+b))):=by have h1:=A9 (B:=bz) d_ a b n;have h2:=SD ha hb;rw[Lw (Bo n) (by rw[<-h2];exact(dK (e8 h1 d_)).symm),G2]
theorem aDj{a b:Nat}(h1:nd bz a<35184372088832)(h2:nd bz b<35184372088832):lX prog 94 [jE a,jE b] 3 1 (nd bz (a+b)) (cN (a+b)):=by
 have ha:=dU (B:=bz) d_ a;have hb:=dU (B:=bz) d_ b;have jd:=sT a;have jK:=sT b;have az:([jE a,jE b].all aT.ok)=true:=by simp[IB]
 unfold jE cN at az ⊢;change lX _ _ _ _ _ _ (cN (a+b));generalize nd bz a=n at *;generalize nd bz b=m at *;by_cases lL:n<m
 ·have iA:=cC ha (c9 (n:=bz) d_ (show n<=m by omega));have hs:=aWO hb iA;rw[mW a b]
  exact Lu (k:=2) mixed func94 az 100 (N:=55) k_ (λw=>(aX.lt 12 n m true (by simp[lL]):aX prog (aa.at w) 55)::aDi (ka:=1) (kb:=0) (a:=b) (b:=a) (.inr ⟨rfl,rfl⟩) ha h2 hs (aWT hb iA))
   (λw=>k_) (gJ _) (Gb hs) (B5 hs)
 ·have gm:=cC hb (c9 (n:=bz) d_ (show m<=n by omega));have hs:=aWO ha gm
  exact Lu (k:=2) mixed func94 az 100 (N:=55) k_ (λw=>(aX.lt 12 n m false (by simp[lL]):aX prog (aa.at w) 55)::aDi (ka:=0) (kb:=1) (a:=a) (b:=b) (.inl ⟨rfl,rfl⟩) hb h1 hs (aWT ha gm))
   (λw=>k_) (gJ _) (Gb hs) (B5 hs)
section
variable{B:Nat}
def qy(B q V c i:Nat):Nat:=(q*(V%B^i)+c)/B^i
theorem aNX(q V c:Nat):qy B q V c 0=c:=by simp[qy,tB]
theorem aDk(hB:0<B)(q V c i:Nat):qy B q V c i+q*(V/B^i%B)=(q*(V%B^(i+1))+c)/B^i:=by unfold qy;rw[pz,oS,<-fO,Nat.add_right_comm,pA _ _ (cK hB)]
theorem aNY(hB:0<B)(q V c i:Nat):(qy B q V c i+q*(V/B^i%B))/B=qy B q V c (i+1):=by rw[aDk hB,kQ,<-dy];rfl
theorem aNZ(hB:0<B)(q V c i:Nat):(qy B q V c i+q*(V/B^i%B))%B=(q*V+c)/B^i%B:=by
 rw[aDk hB];have h1:=jm V (B^(i+1));have h2:q*V+c=(q*(V%B^(i+1))+c)+q*(V/B^(i+1))*B*B^i:=by
  have e:q*(V/B^(i+1))*B*B^i=q*(B^(i+1)*(V/B^(i+1))):=by rw[dy];simp only[cS,mX,fO]
  rw[e];have h3:q*V=q*(B^(i+1)*(V/B^(i+1)))+q*(V%B^(i+1)):=by rw[<-oS,h1]
  omega
 conv=>rhs;rw[h2]
 rw[pA _ _ (cK hB),C0]
theorem aDl(hB:0<B){q c:Nat}(hq:q<B)(hc:c<=q)(V i:Nat):qy B q V c i<=q:=by
 unfold qy;have hp:0<B^i:=cK hB;have h1:V%B^i<B^i:=cL _ hp;have h2:=jz q (show V%B^i+1<=B^i from h1);rw[oS,fX]at h2;have h3:q*(V%B^i)+c<(q+1)*B^i:=by rw[fE,qf];omega
 have:=(iK hp).2 h3;omega
theorem aN0{q c V n:Nat}(hV:V<B^n):qy B q V c n=(q*V+c)/B^n:=by unfold qy;rw[dK hV]
theorem aN1(hB:0<B){a b:Nat}(b9:b<=a)(i:Nat):
  (a-b)/B^i%B=if a/B^i%B<b/B^i%B+kR B a b i then a/B^i%B+B-b/B^i%B-kR B a b i else a/B^i%B-b/B^i%B-kR B a b i:=by
 rw[<-SG hB b9 i];have hx:=hZ hB a i;have hy:=hZ hB b i;have hc:=Ni (B:=B) a b i;generalize a/B^i%B=x at *;generalize b/B^i%B=y at *;generalize kR B a b i=c at *;by_cases h:x<y+c
 ·rw[ax h,show x+2*B-y-c=(x+B-y-c)+B by omega,Kg,dK o_]
 ·rw[au h,show x+2*B-y-c=(x-y-c)+B+B by omega,Kg,Kg,dK o_]
def rE(B p x b i k:Nat):Nat:=(p%B^(i+k)+x*(b%B^k)*B^i)/B^(i+k)
theorem aN2{p x b i:Nat}(hB:0<B):rE B p x b i 0=0:=by unfold rE;rw[r7,tB,Nat.mul_zero,lN,jv,jv];exact mA (cL _ (cK hB))
theorem aDm(hB:0<B)(p x b i k:Nat):rE B p x b i k+(p/B^(i+k)%B+x*(b/B^k%B))=(p%B^(i+k+1)+x*(b%B^(k+1))*B^i)/B^(i+k):=by
 unfold rE;rw[<-pA _ _ (cK hB),pz p,pz b]
 congr 1
 rw[oS,fE,fE,eD];have:x*(b/B^k%B*B^k)*B^i=x*(b/B^k%B)*(B^i*B^k):=by simp only[cS,mX]
 omega
theorem aN3(hB:0<B)(p x b i k:Nat):(rE B p x b i k+(p/B^(i+k)%B+x*(b/B^k%B)))/B=rE B p x b i (k+1):=by rw[aDm hB,kQ,<-dy];rfl
theorem aN4(hB:0<B)(p x b i k:Nat):(rE B p x b i k+(p/B^(i+k)%B+x*(b/B^k%B)))%B=(p+x*b*B^i)/B^(i+k)%B:=by
 rw[aDm hB];have h1:=jm p (B^(i+k+1));have h2:=jm b (B^(k+1));have h3:p+x*b*B^i=(p%B^(i+k+1)+x*(b%B^(k+1))*B^i)+(p/B^(i+k+1)+x*(b/B^(k+1)))*B*B^(i+k):=by
  have e1:(p/B^(i+k+1)+x*(b/B^(k+1)))*B*B^(i+k)=B^(i+k+1)*(p/B^(i+k+1))+x*(B^(k+1)*(b/B^(k+1)))*B^i:=by
   rw[fE,fE]
   congr 1
   ·rw[dy];simp only[cS,mX,fO]
   ·rw[dy,eD];simp only[cS,mX,fO]
  have e2:x*b*B^i=x*(B^(k+1)*(b/B^(k+1)))*B^i+x*(b%B^(k+1))*B^i:=by rw[<-fE,<-oS,h2]
  rw[e1];omega
 conv=>rhs;rw[h3]
 rw[pA _ _ (cK hB),C0]
theorem aDn(hB:0<B){x:Nat}(hx:x<B)(p b i k:Nat):rE B p x b i k<B:=by
 unfold rE;have hp:0<B^(i+k):=cK hB;rw[iK hp];have h1:p%B^(i+k)<B^(i+k):=cL _ hp;have h2:b%B^k<B^k:=cL _ (cK hB);have h3:x*(b%B^k)*B^i<=x*B^(i+k):=by rw[fO,eD];refine jz _ ?_;rw[cS];exact jz _ (je h2)
 have h4:=fo (B^(i+k)) (show x+1<=B from hx);rw[fE,qf]at h4;omega
theorem aN5{p x b i m:Nat}(hp:p<B^(i+m))(hb:b<B^m):rE B p x b i m=(p+x*b*B^i)/B^(i+m):=by unfold rE;rw[dK hp,dK hb]
end
section
variable{Bs:aa}{n m a b:Nat}
def Gd(n m a b i:Nat):aR:=[(7,vI i),(0,sl 0 n),(1,sl 1 m),(5,sl 2 n),(6,vI (kR bz a b i))]
def Aa(n m a b i:Nat):aH:=[(0,.view (ai (ae bz n a))),(1,.view (ai (ae bz m b))),(2,.row (ai (eC bz n i (a-b))) 3 1)]
theorem aDo{x y:Int}(h:-4611686018427387904<=x)(h2:x<=4611686018427387903)(h3:-4611686018427387904<=y)(h4:y<=4611686018427387904):IntKind.i64.wrap (x-y)=x-y:=by rw[db];omega
theorem aN6{x y:Int}(h:-4611686018427387904<=x)(h2:x<=4611686018427387903)(h3:-4611686018427387904<=y)(h4:y<=4611686018427387904):IntKind.i64.wrap (x+y)=x+y:=by rw[db];omega
theorem aN7{i:Nat}(b9:b<=a)(hi:i<n)(hb:b<bz^m)(h63:n<35184372088832):
  ag prog Bs 44 (aF (af f97 0)) (Gd n m a b i) (Aa n m a b i) 3 ⟨.normal,Gd n m a b (i+1),Aa n m a b (i+1),3⟩:=by
 have hx:=hZ (B:=bz) d_ a i;have hy:=hZ (B:=bz) d_ b i;have hc:=Ni (B:=bz) a b i;have hs:=aN1 (B:=bz) d_ b9 i;have dp:=SF (B:=bz) d_ a b i;have bM:=Lw (n:=n) (i:=i) (s:=a-b) hi rfl;have k7:dw prog 3 (ai (ae bz n a)) i=some (vI (a/bz^i%bz)):=dQ (eB hi);have lq:i<m->dw prog 3 (ai (ae bz m b)) i=some (vI (b/bz^i%bz)):=λjN=>dQ (eB jN);have kU:¬i<m->b/bz^i%bz=0:=λjN=>qQ hb o_ d_;have jW:bz=16777216:=rfl;unfold Gd Aa;generalize ai (eC bz n (i+1) (a-b))=r1 at *;generalize ai (eC bz n i (a-b))=r0 at *;generalize ai (ae bz n a)=ra at *;generalize ai (ae bz m b)=rb at *;generalize kR bz a b (i+1)=c' at *;generalize kR bz a b i=c at *;generalize (a-b)/bz^i%bz=z at *;generalize a/bz^i%bz=x at *;generalize b/bz^i%bz=y at *;have w1:IntKind.i64.wrap ((x:Int)-(c:Int))=(x:Int)-(c:Int):=aDo o_ o_ o_ o_;have w2:IntKind.i64.wrap (((x:Int)-(c:Int))-(y:Int))=(x:Int)-(c:Int)-(y:Int):=aDo o_ o_ o_ o_;have tail:∀ d:Int,d=(x:Int)-c-y->(∃ t,decide (d<0)=t/\(t=true->IntKind.i64.wrap (d+16777216)=(z:Int)/\c'=1)/\(t=false->d=(z:Int)/\c'=0)):=by
  intro d hd;by_cases h:x<y+c
  ·rw[ax h]at hs dp;refine⟨true,aB o_,λ_=>⟨?_,dp.symm⟩,λe=>by cases e⟩;rw[aN6 o_ o_ o_ o_];omega
  ·rw[au h]at hs dp;exact⟨false,aJ o_,n_,λ_=>⟨by omega,dp.symm⟩⟩
 by_cases jN:i<m
 ·have lq:=lq jN;obtain⟨t,ht,h1,h2⟩:=tail _ rfl;cases t with
  |true=>
   obtain⟨q1,q2⟩:=h1 rfl;subst q2;exact aC [.lt 15 i n true (by simp[hi]),.ix f97 20 0 n i hi k_,.ld f97 21 3 0 i (.view ra) (vI x) rfl k7 k_,.wr 23 .i64 ((x:Int)-(c:Int)) _ w1,.lt 27 i m true (by simp[jN]),.ix f97 31 1 m i jN k_,.ld f97 32 3 1 i (.view rb) (vI y) rfl lq k_,.wr 33 .i64 ((x:Int)-(c:Int)-(y:Int)) _ w2,.rw 35 (.bool (decide ((x:Int)-(c:Int)-(y:Int)<0))) (.bool true) (by rw[ht]),.wr 37 .i64 _ (z:Int) q1,.ix f97 41 2 n i hi k_,.st f97 100041 3 2 i (.row r0 3 1) (vI z) (.row r1 3 1) rfl bM rfl k_,.sum 17 i 1 (i+1) rfl o_]
  |false=>
   obtain⟨q1,q2⟩:=h2 rfl;subst q2;exact aC [.lt 15 i n true (by simp[hi]),.ix f97 20 0 n i hi k_,.ld f97 21 3 0 i (.view ra) (vI x) rfl k7 k_,.wr 23 .i64 ((x:Int)-(c:Int)) _ w1,.lt 27 i m true (by simp[jN]),.ix f97 31 1 m i jN k_,.ld f97 32 3 1 i (.view rb) (vI y) rfl lq k_,.wr 33 .i64 ((x:Int)-(c:Int)-(y:Int)) (z:Int) (w2.trans q1),.rw 35 (.bool (decide ((z:Int)<0))) (.bool false) (by rw[<-q1,ht]),.ix f97 41 2 n i hi k_,.st f97 100041 3 2 i (.row r0 3 1) (vI z) (.row r1 3 1) rfl bM rfl k_,.sum 17 i 1 (i+1) rfl o_]
 ·have xe:=kU jN;subst xe;obtain⟨t,ht,h1,h2⟩:=tail ((x:Int)-c) o_;cases t with
  |true=>
   obtain⟨q1,q2⟩:=h1 rfl;subst q2;exact aC [.lt 15 i n true (by simp[hi]),.ix f97 20 0 n i hi k_,.ld f97 21 3 0 i (.view ra) (vI x) rfl k7 k_,.wr 23 .i64 ((x:Int)-(c:Int)) _ w1,.lt 27 i m false (by simp[jN]),.rw 35 (.bool (decide ((x:Int)-(c:Int)<0))) (.bool true) (by rw[ht]),.wr 37 .i64 _ (z:Int) q1,.ix f97 41 2 n i hi k_,.st f97 100041 3 2 i (.row r0 3 1) (vI z) (.row r1 3 1) rfl bM rfl k_,.sum 17 i 1 (i+1) rfl o_]
  |false=>
   obtain⟨q1,q2⟩:=h2 rfl;subst q2;exact aC [.lt 15 i n true (by simp[hi]),.ix f97 20 0 n i hi k_,.ld f97 21 3 0 i (.view ra) (vI x) rfl k7 k_,.wr 23 .i64 ((x:Int)-(c:Int)) (z:Int) (w1.trans q1),.lt 27 i m false (by simp[jN]),.rw 35 (.bool (decide ((z:Int)<0))) (.bool false) (by rw[<-q1,ht]),.ix f97 41 2 n i hi k_,.st f97 100041 3 2 i (.row r0 3 1) (vI z) (.row r1 3 1) rfl bM rfl k_,.sum 17 i 1 (i+1) rfl o_]
theorem aN8(b9:b<=a)(hb:b<bz^m)(h63:n<35184372088832):
  ag prog Bs 44 (.block 0 (af f97 0)) (Gd n m a b 0) (Aa n m a b 0) 3 ⟨.normal,Gd n m a b n,Aa n m a b n,3⟩:=
 bT (cd (b:=aF (af f97 0)) (r:=⟨.exit 0,Gd n m a b n,Aa n m a b n,3⟩) n (Gd n m a b) (Aa n m a b) (λi k _=>j0 (l:=Aa n m a b i) (m:=Aa n m a b 0) rfl k) (λi hi=>aN7 b9 hi hb h63)
  (aC [.lt 15 n n false s_]) n_)
end
theorem aN9{a b:Nat}(b9:b<=a)(h1:nd bz a<35184372088832):lX prog 97 [jE a,jE b] 3 1 (nd bz (a-b)) (cN (a-b)):=by
 have ha:=dU (B:=bz) d_ a;have hb:=dU (B:=bz) d_ b;have az:([jE a,jE b].all aT.ok)=true:=by simp[IB]
 unfold jE cN at az ⊢;change lX _ _ _ _ _ _ (cN (a-b));generalize nd bz a=n at *;generalize nd bz b=m at *;have hs:a-b<bz^n:=e8 (BB _ _) ha;have lo:=λBs=>aN8 (Bs:=Bs) (n:=n) (m:=m) b9 hb h1;unfold Aa at lo;rw[G2]at lo;exact Lu (k:=2) mixed func97 az 100 (N:=44) k_ (λw=>[.qd f97 11 2 n 3 8 (vI 0) (ai (eC bz n 0 (a-b))) (VC _ _) rfl rfl o_ (by simp[maxLen];omega) k_,.rw 6 (.int .i64 0) (vI (kR bz a b 0)) (by rw[SE];rfl),.code 0 _ _ _ _ _ (lo _),.DM f97 43 2 n (a-b) (.row (ai (ae bz n (a-b))) 3 1) rfl rfl hs o_ k_])
   (λw=>k_) (gJ _) (Gb hs) (B5 hs)
section
variable{Bs:aa}{n a c:Nat}
def Ge(n a c i:Nat):aR:=[(7,vI i),(0,sl 0 n),(5,sl 1 (n+1)),(6,vI (qy bz 2 a c i))]
def B7(n a c i:Nat):aH:=[(0,.view (ai (ae bz n a))),(1,.row (ai (eC bz (n+1) i (2*a+c))) 3 1)]
theorem aOa{i:Nat}(hc:c<=2)(hi:i<n)(h63:n<35184372088832):
  ag prog Bs 40 (aF (af f98 0)) (Ge n a c i) (B7 n a c i) 2 ⟨.normal,Ge n a c (i+1),B7 n a c (i+1),2⟩:=by
 have hx:=hZ (B:=bz) d_ a i;have gA:=aDl (B:=bz) d_ (q:=2) d_ hc a i;have hs:=aNZ (B:=bz) d_ 2 a c i;have dp:=aNY (B:=bz) d_ 2 a c i;have bM:=Lw (n:=n+1) (i:=i) (s:=2*a+c) o_ rfl;have k7:dw prog 3 (ai (ae bz n a)) i=some (vI (a/bz^i%bz)):=dQ (eB hi);have jW:bz=16777216:=rfl;unfold Ge B7;generalize ai (eC bz (n+1) (i+1) (2*a+c))=r1 at *;generalize ai (eC bz (n+1) i (2*a+c))=r0 at *;generalize ai (ae bz n a)=ra at *;generalize qy bz 2 a c (i+1)=c' at *;generalize qy bz 2 a c i=g at *;generalize (2*a+c)/bz^i%bz=z at *;generalize a/bz^i%bz=x at *;exact aC [.lt 16 i n true (by simp[hi]),.ix f98 22 0 n i hi k_,.ld f98 23 3 0 i (.view ra) (vI x) rfl k7 k_,.sV 24 2 x (2*x) rfl o_,.sum 25 g (2*x) (g+2*x) rfl o_,.F9 29 (g+2*x) bz z hs.symm,.ix f98 30 1 (n+1) i o_ k_,.st f98 100030 3 1 i (.row r0 3 1) (vI z) (.row r1 3 1) rfl bM rfl k_,.Ga 32 (g+2*x) bz c' dp.symm o_,.sum 18 i 1 (i+1) rfl o_]
theorem aOb(hc:c<=2)(h63:n<35184372088832):
  ag prog Bs 40 (.block 0 (af f98 0)) (Ge n a c 0) (B7 n a c 0) 2 ⟨.normal,Ge n a c n,B7 n a c n,2⟩:=
 bT (cd (b:=aF (af f98 0)) (r:=⟨.exit 0,Ge n a c n,B7 n a c n,2⟩) n (Ge n a c) (B7 n a c) (λi k _=>j0 (l:=B7 n a c i) (m:=B7 n a c 0) rfl k) (λi hi=>aOa hc hi h63)
  (aC [.lt 16 n n false s_]) n_)
end
theorem aOc{a c:Nat}(hc:c<=1)(h1:nd bz a<35184372088832):lX prog 98 [jE a,.p (vI c)] 3 1 (nd bz (2*a+c)) (cN (2*a+c)):=by
 have ha:=dU (B:=bz) d_ a;have az:([jE a,aT.p (vI c)].all aT.ok)=true:=by simp[IB];rfl
 unfold jE cN at az ⊢;change lX _ _ _ _ _ _ (cN (2*a+c));generalize nd bz a=n at *;have hs:2*a+c<bz^(n+1):=by have h1:bz^n*2<=bz^n*bz:=jz _ d_;rw[dy];omega
 have bM:e6 prog 3 (ai (eC bz (n+1) n (2*a+c))) n (vI (qy bz 2 a c n))=some (ai (ae bz (n+1) (2*a+c))):=by have h1:=aDl (B:=bz) d_ (q:=2) d_ (show c<=2 by omega) a n;have h2:=aN0 (B:=bz) (q:=2) (c:=c) ha;have jW:bz=16777216:=rfl;rw[Lw (Bo n) (by rw[<-h2];exact(dK o_).symm),G2]
 exact Lu (k:=1) mixed func98 az 100 (N:=40) k_ (λw=>[.sum 10 n 1 (n+1) rfl o_,.qd f98 11 1 (n+1) 3 8 (vI 0) (ai (eC bz (n+1) 0 (2*a+c))) (VC _ _) rfl rfl o_ (by simp[maxLen];omega) k_,.rw 6 (vI c) (vI (qy bz 2 a c 0)) (by rw[aNX]),.code 0 _ _ _ _ _ (aOb (a:=a) (c:=c) o_ h1),.ix f98 37 1 (n+1) n o_ k_,.st f98 100037 3 1 n (.row (ai (eC bz (n+1) n (2*a+c))) 3 1) (vI (qy bz 2 a c n)) (.row (ai (ae bz (n+1) (2*a+c))) 3 1) rfl bM rfl k_,.DM f98 39 1 (n+1) (2*a+c) (.row (ai (ae bz (n+1) (2*a+c))) 3 1) rfl rfl hs o_ k_])
   (λw=>k_) (gJ _) (Gb hs) (B5 hs)
section
variable{Bs:aa}{n m a b:Nat}
def wz(n m a b i k:Nat):aj:=ai (c8 bz (n+m) (i+k) (part bz a b (i+1) 0) (part bz a b i 0))
def DP(n m a b i k:Nat):aR:=[(8,vI k),(7,vI (rE bz (part bz a b i 0) (a/bz^i%bz) b i k)),(6,vI i),(0,sl 0 n),(1,sl 1 m),(5,sl 2 (n+m))]
def Ab(n m a b i k:Nat):aH:=[(0,.view (ai (ae bz n a))),(1,.view (ai (ae bz m b))),(2,.row (wz n m a b i k) 3 1)]
theorem VD(i:Nat):part bz a b (i+1) 0=part bz a b i 0+a/bz^i%bz*b*bz^i:=by
 rw[CH,CH,pz,fE]
 congr 1
 simp only[cS,mX]
theorem aDp{i:Nat}(hb:b<bz^m):part bz a b i 0<bz^(i+m):=by rw[CH,eD];exact qe (cL _ (cK d_)) hb
theorem aOd{i k:Nat}(hi:i<n)(hk:k<m)(h63:n+m<35184372088832):
  ag prog Bs 63 (aF (af f132 2)) (DP n m a b i k) (Ab n m a b i k) 3 ⟨.normal,DP n m a b i (k+1),Ab n m a b i (k+1),3⟩:=by
 have hx:=hZ (B:=bz) d_ a i;have hy:=hZ (B:=bz) d_ b k;have hr:=hZ (B:=bz) d_ (part bz a b i 0) (i+k);have gA:=aDn (B:=bz) d_ hx (part bz a b i 0) b i k;have hs:=aN4 (B:=bz) d_ (part bz a b i 0) (a/bz^i%bz) b i k;rw[<-VD]at hs;have dp:=aN3 (B:=bz) d_ (part bz a b i 0) (a/bz^i%bz) b i k;have k7:dw prog 3 (ai (ae bz n a)) i=some (vI (a/bz^i%bz)):=dQ (eB hi);have lq:dw prog 3 (ai (ae bz m b)) k=some (vI (b/bz^k%bz)):=dQ (eB hk);have hlr:dw prog 3 (wz n m a b i k) (i+k)=some (vI (part bz a b i 0/bz^(i+k)%bz)):=dQ (CG o_ (bt _));have bM:e6 prog 3 (wz n m a b i k) (i+k) (vI (part bz a b (i+1) 0/bz^(i+k)%bz))=some (wz n m a b i (k+1)):=by unfold wz;rw[wx (by rw[xc];omega),yU o_ rfl];rfl
 have jW:bz=16777216:=rfl;unfold DP Ab;generalize wz n m a b i (k+1)=r1 at *;generalize wz n m a b i k=r0 at *;generalize ai (ae bz n a)=ra at *;generalize ai (ae bz m b)=rb at *;generalize rE bz (part bz a b i 0) (a/bz^i%bz) b i (k+1)=c' at *;generalize rE bz (part bz a b i 0) (a/bz^i%bz) b i k=g at *;generalize part bz a b (i+1) 0/bz^(i+k)%bz=z at *;generalize part bz a b i 0/bz^(i+k)%bz=r at *;generalize a/bz^i%bz=x at *;generalize b/bz^k%bz=y at *;have kC:x*y<bz*bz:=qe hx hy;rw[jW]at kC;generalize hp:x*y=p at *;exact aC [.lt 24 k m true (by simp[hk]),.sum 31 i k (i+k) rfl o_,.ix f132 32 2 (n+m) (i+k) o_ k_,.ld f132 33 3 2 (i+k) (.row r0 3 1) (vI r) rfl hlr k_,.ix f132 36 0 n i hi k_,.ld f132 37 3 0 i (.view ra) (vI x) rfl k7 k_,.ix f132 40 1 m k hk k_,.ld f132 41 3 1 k (.view rb) (vI y) rfl lq k_,.sV 42 x y p hp.symm o_,.sum 43 r p (r+p) rfl o_,.sum 44 g (r+p) (g+(r+p)) rfl o_,.sum 48 i k (i+k) rfl o_,.F9 50 (g+(r+p)) bz z hs.symm,.ix f132 51 2 (n+m) (i+k) o_ k_,.st f132 100051 3 2 (i+k) (.row r0 3 1) (vI z) (.row r1 3 1) rfl bM rfl k_,.Ga 53 (g+(r+p)) bz c' dp.symm o_,.sum 26 k 1 (k+1) rfl o_]
theorem aOe{i:Nat}(hi:i<n)(h63:n+m<35184372088832):
  ag prog Bs 63 (.block 2 (af f132 2)) (DP n m a b i 0) (Ab n m a b i 0) 3 ⟨.normal,DP n m a b i m,Ab n m a b i m,3⟩:=
 bT (id:=2) (cd (b:=aF (af f132 2)) (r:=⟨.exit 2,DP n m a b i m,Ab n m a b i m,3⟩) m (DP n m a b i) (Ab n m a b i) (λk j _=>j0 (l:=Ab n m a b i k) (m:=Ab n m a b i 0) rfl j) (λk hk=>aOd hi hk h63)
  (aC [.lt 24 m m false s_]) n_)
def DQ(n m a b i:Nat):aj:=ai (ae bz (n+m) (part bz a b i 0))
def Gf(n m i:Nat):aR:=[(6,vI i),(0,sl 0 n),(1,sl 1 m),(5,sl 2 (n+m))]
def Ac(n m a b i:Nat):aH:=[(0,.view (ai (ae bz n a))),(1,.view (ai (ae bz m b))),(2,.row (DQ n m a b i) 3 1)]
theorem aOf(i:Nat):wz n m a b i 0=DQ n m a b i:=by unfold wz DQ;rw[VD,jv,Zr d_]
theorem aOg{i:Nat}(hi:i<n)(hb:b<bz^m)(h63:n+m<35184372088832):
  ag prog Bs 63 (aF (af f132 0)) (Gf n m i) (Ac n m a b i) 3 ⟨.normal,Gf n m (i+1),Ac n m a b (i+1),3⟩:=by
 have lo:=aOe (Bs:=Bs) (a:=a) (b:=b) hi h63;unfold DP Ab at lo;rw[aOf,aN2 d_]at lo;have hp:=aDp (a:=a) (i:=i) hb;have iz:=aDp (a:=a) (i:=i+1) hb;have he:=aN5 (x:=a/bz^i%bz) hp hb;rw[<-VD]at he;have hc:=aDn (B:=bz) d_ (hZ (B:=bz) d_ a i) (part bz a b i 0) b i m;have bM:e6 prog 3 (wz n m a b i m) (i+m) (vI (rE bz (part bz a b i 0) (a/bz^i%bz) b i m))=some (DQ n m a b (i+1)):=by
  unfold wz DQ;have e:i+1+m=i+m+1:=by omega
  rw[e]at iz;rw[wx (by rw[xc];omega),yU o_ (by rw[he];rw[he]at hc;exact(dK hc).symm),Fg d_ (cC hp (c9 d_ (yI _))) iz]
 unfold Gf Ac;generalize DQ n m a b (i+1)=r1 at *;generalize DQ n m a b i=r0 at *;generalize wz n m a b i m=r2 at *;generalize rE bz (part bz a b i 0) (a/bz^i%bz) b i m=c at *;generalize ai (ae bz n a)=ra at *;generalize ai (ae bz m b)=rb at *;exact aC [.lt 18 i n true (by simp[hi]),.code 2 _ _ _ _ _ lo,.sum 58 i m (i+m) rfl o_,.ix f132 60 2 (n+m) (i+m) o_ k_,.st f132 100060 3 2 (i+m) (.row r2 3 1) (vI c) (.row r1 3 1) rfl bM rfl k_,.sum 20 i 1 (i+1) rfl o_]
theorem aOh(hb:b<bz^m)(h63:n+m<35184372088832):
  ag prog Bs 63 (.block 0 (af f132 0)) (Gf n m 0) (Ac n m a b 0) 3 ⟨.normal,Gf n m n,Ac n m a b n,3⟩:=
 bT (cd (b:=aF (af f132 0)) (r:=⟨.exit 0,Gf n m n,Ac n m a b n,3⟩) n (Gf n m) (Ac n m a b) (λk j _=>j0 (l:=Ac n m a b k) (m:=Ac n m a b 0) rfl j) (λk hk=>aOg hk hb h63)
  (aC [.lt 18 n n false s_]) n_)
end
theorem VE{a b:Nat}(h63:nd bz a+nd bz b<35184372088832):lX prog 132 [jE a,jE b] 3 1 (nd bz (a*b)) (cN (a*b)):=by
 have ha:=dU (B:=bz) d_ a;have hb:=dU (B:=bz) d_ b;have az:([jE a,jE b].all aT.ok)=true:=by simp[IB]
 unfold jE cN at az ⊢;change lX _ _ _ _ _ _ (cN (a*b));generalize nd bz a=n at *;generalize nd bz b=m at *;have hs:a*b<bz^(n+m):=by rw[eD];exact qe ha hb
 have lo:=λBs=>aOh (Bs:=Bs) (n:=n) (a:=a) hb h63;unfold Ac DQ at lo;rw[CH,CH,dK ha,r7,tB,lN]at lo;have hz:List.replicate (n+m) (vI 0)=ai (ae bz (n+m) 0):=by
  rw[Ln]
  congr 1
  unfold ae;symm;rw[List.eq_replicate_iff];simp
 exact Lu (k:=2) mixed func132 az 100 (N:=63) k_ (λw=>[.sum 13 n m (n+m) rfl o_,.qd f132 14 2 (n+m) 3 8 (vI 0) (ai (ae bz (n+m) 0)) hz rfl rfl o_ (by simp[maxLen];omega) k_,.code 0 _ _ _ _ _ (lo _),.DM f132 62 2 (n+m) (a*b) (.row (ai (ae bz (n+m) (a*b))) 3 1) rfl rfl hs o_ k_])
   (λw=>k_) (gJ _) (Gb hs) (B5 hs)
theorem xV(cells:aj)(i:Nat){z:Int}(h:cells[i]?=some (.int .u8 z)):dw prog 5 cells i=some (.int .u8 z):=by
 have e:dw prog 5 cells i=cells[i+0]?:=by kernel_rfl
 rw[e,jv,h]
theorem aOi(cells:aj)(i:Nat)(z:Int)(h:i<cells.length):e6 prog 5 cells i (.int .u8 z)=some (cells.set i (.int .u8 z)):=by
 have e:e6 prog 5 cells i (.int .u8 z)=if(Nat.ble (i+1) cells.length&&true)then some (jb cells i [.int .u8 z])else none:=by kernel_rfl
 rw[e,MO h];rfl
section
variable{Bs:aa}{n a:Nat}
def tX(n a i:Nat):aj:=gS (List.replicate (3*n-i) 0++gH i a)
def Gg(n i:Nat):aR:=[(4,vI i),(0,sl 0 n),(3,sl 1 (3*n))]
def Ad(n a i:Nat):aH:=[(0,.view (ai (ae bz n a))),(1,.row (tX n a i) 5 1)]
theorem aOj{i:Nat}(hi:i<3*n):(tX n a i).set (3*n-1-i) (vb (a/256^i%256))=tX n a (i+1):=by
 unfold tX;rw[xl,show 3*n-i=(3*n-1-i)+1 by omega,show 3*n-(i+1)=3*n-1-i by omega,List.replicate_succ',EL];generalize 3*n-1-i=k;unfold gS;rw[rO,rO,Ve _ _ s_];simp only[eO,ID,vG,rO,qO,NI,E9,jw,List.set_cons_zero]
 congr 2
 rw[NF,dK (cL _ d_)];rfl
theorem aOk(i:Nat)(hi:i<=3*n):(tX n a i).length=3*n:=by unfold tX;rw[Fc,jx,ID,Ke];omega
theorem aOl{i:Nat}:a/bz^(i/3)%bz/2^(8*(i%3))%256=a/256^i%256:=by
 have e1:bz^(i/3)=256^(3*(i/3)):=by rw[show bz=256^3 from IC,<-r8]
 have e2:(2:Nat)^(8*(i%3))=256^(i%3):=by rw[r8]
 have e3:256^i=256^(3*(i/3))*256^(i%3):=by rw[<-eD];congr 1;omega
 rw[e1,e2,e3,<-kQ];generalize a/256^(3*(i/3))=c;have e4:bz=256^(i%3)*(256*256^(2-i%3)):=by rw[show bz=256^3 from IC,<-Nat.pow_succ',<-eD];congr 1;omega
 rw[e4,Bd,J5]
theorem aOm{i:Nat}(hi:i<3*n)(h63:n<35184372088832):
  ag prog Bs 45 (aF (af f131 0)) (Gg n i) (Ad n a i) 2 ⟨.normal,Gg n (i+1),Ad n a (i+1),2⟩:=by
 have hx:=hZ (B:=bz) d_ a (i/3);have hb:=aOl (a:=a) (i:=i);have k7:dw prog 3 (ai (ae bz n a)) (i/3)=some (vI (a/bz^(i/3)%bz)):=dQ (eB o_);have bM:e6 prog 5 (tX n a i) (3*n-1-i) (vb (a/256^i%256))=some (tX n a (i+1)):=by unfold vb;rw[aOi _ _ _ (by rw[aOk _ o_];omega)];exact cM some (aOj hi)
 unfold Gg Ad;generalize tX n a (i+1)=r1 at *;generalize tX n a i=r0 at *;generalize ai (ae bz n a)=ra at *;generalize a/256^i%256=z at *;generalize a/bz^(i/3)%bz=x at *;have vf:(x:Int).fdiv (2^(min (8*(i%3)) IntKind.i64.bits))=((x/2^(8*(i%3)):Nat):Int):=by rw[show min (8*(i%3)) IntKind.i64.bits=8*(i%3)from oq (show 8*(i%3)<=64 by omega),r6 _ (Hm d_),tC,Hn];rfl
 generalize x/2^(8*(i%3))=y at *;exact aC [.lt 12 i (3*n) true (by simp[hi]),.e7 18 (3*n) 1 (3*n-1) o_ o_,.e7 20 (3*n-1) i (3*n-1-i) o_ o_,.Ga 23 i 3 (i/3) rfl o_,.ix f131 24 0 n (i/3) o_ k_,.ld f131 25 3 0 (i/3) (.view ra) (vI x) rfl k7 k_,.F9 27 i 3 (i%3) rfl,.sV 28 8 (i%3) (8*(i%3)) rfl o_,.shr f131 29 .i64 (x:Int) (y:Int) (8*(i%3)) vf k_,.wr 30 .u8 (y:Int) (z:Int) (by rw[aAe];omega),.ix f131 31 1 (3*n) (3*n-1-i) o_ k_,.st f131 100031 5 1 (3*n-1-i) (.row r0 5 1) (vb z) (.row r1 5 1) rfl bM rfl k_,.sum 14 i 1 (i+1) rfl o_]
theorem VF(h63:n<35184372088832):ag prog Bs 45 (.block 0 (af f131 0)) (Gg n 0) (Ad n a 0) 2 ⟨.normal,Gg n (3*n),Ad n a (3*n),2⟩:=
 bT (id:=0) (cd (b:=aF (af f131 0)) (r:=⟨.exit 0,Gg n (3*n),Ad n a (3*n),2⟩) (3*n) (Gg n) (Ad n a) (λk j _=>j0 (l:=Ad n a k) (m:=Ad n a 0) rfl j) (λk hk=>aOm hk h63)
  (aC [.lt 12 (3*n) (3*n) false s_]) n_)
def xW(L i:Nat):aR:=[(3,.slice (some ⟨1,i*1,some 7⟩) (L-i) i)]
def xX(L a:Nat):aH:=[(1,.row (gS (gH L a)) 5 1)]
theorem VG{L a:Nat}(h:a<256^L):gH L a=List.replicate (L-nd 256 a) 0++cq a:=by have hle:=jl (B:=256) d_ h;have:=Z5 (n:=nd 256 a) (k:=L-nd 256 a) (dU (B:=256) d_ a);rw[show L-nd 256 a+nd 256 a=L by omega]at this;exact this
theorem aOn{L i:Nat}(h:a<256^L)(h0:a≠0)(hi:i<L-nd 256 a)(h63:L<9223372036854775807):
  ag prog Bs 45 (aF (af f131 2)) (xW L i) (xX L a) 2 ⟨.normal,xW L (i+1),xX L a,2⟩:=by
 have hp:=uF (B:=256) d_ h0;have jf:dw prog 5 (gS (gH L a)) i=some (vb 0):=xV _ _ (by rw[VG h,NJ,JI (by rw[Fc];simpa using hi)];simp[gS,hi])
 unfold xW xX;generalize gS (gH L a)=r0 at *;obtain⟨m,hm⟩:∃ m,L-i=m+1:=⟨L-i-1,by omega⟩;have dC:L-(i+1)=m:=by omega
 rw[hm,dC];have e1:i*1=i:=fX i;exact aC [.gt 34 (m+1) 0 true s_,.pL f131 37 1 i (m+1) i 0 i 1 o_ (jv i) k_,.ld f131 38 5 1 (i*1) (.row r0 5 1) (vb 0) rfl (by rw[e1];exact jf) k_,.fv 39 0 0 true rfl,.next f131 42 1 i m 1 o_ k_]
theorem aOo{L i:Nat}(h:a<256^L)(h0:a≠0)(hi:i=L-nd 256 a)(h63:L<9223372036854775807):
  ag prog Bs 45 (aF (af f131 2)) (xW L i) (xX L a) 2 ⟨.exit 2,xW L i,xX L a,2⟩:=by
 have hp:=uF (B:=256) d_ h0;have hle:=jl (B:=256) d_ h;obtain⟨c,l,hc,qb⟩:=NG h0;have jf:dw prog 5 (gS (gH L a)) i=some (vb c.toNat):=xV _ _ (by rw[VG h,NJ,ED (by rw[Fc];simp;omega),Fc,hc,hi];simp[gS])
 have aV:c.toNat≠0:=λe=>qb (Ny.1 e);unfold xW xX;generalize gS (gH L a)=r0 at *;obtain⟨m,hm⟩:∃ m,L-i=m+1:=⟨L-i-1,by omega⟩;rw[hm];have e1:i*1=i:=fX i;generalize c.toNat=d at *;exact aC [.gt 34 (m+1) 0 true s_,.pL f131 37 1 i (m+1) i 0 i 1 o_ (jv i) k_,.ld f131 38 5 1 (i*1) (.row r0 5 1) (vb d) rfl (by rw[e1];exact jf) k_,.fv 39 d 0 false (aJ aV)]
theorem aOp{L:Nat}(h:a<256^L)(h0:a≠0)(h63:L<9223372036854775807):
  ag prog Bs 45 (.block 2 (af f131 2)) (xW L 0) (xX L a) 2 ⟨.normal,xW L (L-nd 256 a),xX L a,2⟩:=
 bT (id:=2) (cd (b:=aF (af f131 2)) (r:=⟨.exit 2,xW L (L-nd 256 a),xX L a,2⟩) (L-nd 256 a) (xW L) (λ_=>xX L a) (λ_ _ _=>Iff.rfl) (λk hk=>aOn h h0 hk h63)
  (aOo h h0 rfl h63) n_)
end
theorem aOq{n a:Nat}(ha:a<bz^n)(h0:a≠0)(h63:n<35184372088832):cI prog 131 [.r n (ai (ae bz n a))] (.string (BA (cq a))):=by
 have hL:a<256^(3*n):=by rw[r8];exact ha
 have zL:=λBs=>VF (Bs:=Bs) (a:=a) h63;have vW:=λBs=>aOp (Bs:=Bs) hL h0 o_;have e0:List.replicate (3*n) (vb 0)=tX n a 0:=by unfold tX gS;simp[ND,vb]
 have e1:tX n a (3*n)=gS (gH (3*n) a):=by unfold tX;rw[vG];rfl
 have hle:=jl (B:=256) d_ hL;have ht:((gS (gH (3*n) a)).drop ((3*n-nd 256 a)*1)).take (nd 256 a)=gS (cq a):=by rw[VG hL,NJ,fX,RL (by rw[Fc];simp),kB (by rw[Fc,tE];exact bt _)]
 unfold Ad at zL;rw[e1]at zL;rw[<-e0]at zL;unfold xX at vW;have hl:3*n-(3*n-nd 256 a)=nd 256 a:=by omega
 unfold xW at vW;rw[hl]at vW;exact gT mixed func131 (by simp[aT.ok,gJ]) 100 (N:=45) k_ (λw=>[.sV 7 3 n (3*n) rfl o_,.qd f131 8 1 (3*n) 5 1 (vb 0) (List.replicate (3*n) (vb 0)) rfl rfl rfl o_ (by simp[maxLen];omega) k_,.code 0 _ _ _ _ _ (zL _),.code 2 _ _ _ _ _ (vW _),.aNU f131 44 1 ((3*n-nd 256 a)*1) (nd 256 a) (3*n-nd 256 a) (cq a) (.row (gS (gH (3*n) a)) 5 1) rfl ht (tE a) k_]) (λw=>k_) rfl
theorem aOr:cI prog 131 [.r 0 (ai (ae bz 0 0))] (.string (BA (cq 0))):=by have zL:=λBs=>VF (Bs:=Bs) (a:=0) (n:=0) o_;rw[CZ];exact gT mixed func131 (by simp[aT.ok,gJ]) 100 (N:=45) k_ (λw=>[.sV 7 3 0 0 rfl o_,.qd f131 8 1 0 5 1 (vb 0) [] rfl rfl rfl o_ (by simp[maxLen]) k_,.code 0 _ _ _ _ _ (zL _),.gt 34 0 0 false rfl,.S7 f131 44 1 0 [] (.row [] 5 1) rfl rfl rfl k_]) (λw=>k_) rfl
noncomputable def DR(Bs:aa)(i m:Nat)(h:0<m)(hl:dw prog 5 (gS (List.replicate 9 0)) (i*1)=some (vb 0)):bI prog Bs 45:=[.gt 34 (m+1) 0 true s_,.pL f131 37 1 i (m+1) i 0 i 1 o_ (jv i) k_,.ld f131 38 5 1 (i*1) (.row (gS (List.replicate 9 0)) 5 1) (vb 0) rfl hl k_,.fv 39 0 0 true rfl,.next f131 42 1 i m 1 h k_]
theorem aOs:cI prog 131 [.r 3 (ai (ae bz 3 0))] (.string (BA (cq 0))):=by
 have zL:=λBs=>VF (Bs:=Bs) (a:=0) (n:=3) o_;rw[CZ];exact gT mixed func131 (by simp[aT.ok,gJ]) 300 (N:=45) k_ (λw=>[.sV 7 3 3 9 rfl o_,.qd f131 8 1 9 5 1 (vb 0) (List.replicate 9 (vb 0)) rfl rfl rfl o_ (by simp[maxLen]) k_,.code 0 _ _ _ _ _ (zL _)]++(DR _ 0 8 o_ (xV _ _ rfl)++(DR _ 1 7 o_ (xV _ _ rfl)++(DR _ 2 6 o_ (xV _ _ rfl)++(DR _ 3 5 o_ (xV _ _ rfl)++(DR _ 4 4 o_ (xV _ _ rfl)++(DR _ 5 3 o_ (xV _ _ rfl)++(DR _ 6 2 o_ (xV _ _ rfl)++(DR _ 7 1 o_ (xV _ _ rfl)++
  [.gt 34 1 0 true rfl,.pL f131 37 1 8 1 8 0 8 1 o_ rfl k_,.ld f131 38 5 1 8 (.row (gS (List.replicate 9 0)) 5 1) (vb 0) rfl (xV _ _ rfl) k_,.fv 39 0 0 true rfl,.aNT f131 42 1 8 1 8 1 2 (.row (gS (List.replicate 9 0)) 5 1) rfl k_,.gt 34 0 0 false rfl,.S7 f131 44 2 0 [] (.view []) rfl rfl rfl k_]))))))))) (λw=>k_) rfl
structure P2(n a:Nat):Prop where
 lt:a<bz^n
 z:a=0->n=0\/n=3
 h63:n<35184372088832
theorem aDq{n a:Nat}(h:P2 n a):cI prog 131 [.r n (ai (ae bz n a))] (.string (BA (cq a))):=by
 by_cases h0:a=0
 ·subst h0;rcases h.z rfl with rfl|rfl
  ·exact aOr
  ·exact aOs
 ·exact aOq h.lt h0 h.h63
theorem aOt{a:Nat}(h:nd bz a<35184372088832):P2 (nd bz a) a:=⟨dU d_ a,λe=>.inl (by rw[e,pw]),h⟩
theorem aDr{n a:Nat}(neg:Bool)(h:P2 n a):cI prog 79 [.p (.bool neg),.r n (ai (ae bz n a))] (bN (sg neg a)):=by
 rw[<-uO];have e:(!((BA (cq a)).toList==(ByteArray.mk #[]).toList))=decide (a≠0):=by rw[qT];simp
 cases neg
 ·exact gT mixed func79 (by simp[aT.ok,gJ];rfl) 100 (N:=15) k_ (λw=>[.step 7 (av f79 7) _ _ _ _ (dL (aDq h) (.w (k:=0) (cc:=0) (x:=.view (ai (ae bz n a))) rfl (gJ _) (λe=>by subst e;rfl) .nil) (x:=.func 131) k_ k_ rfl)]) (λw=>k_) rfl
 ·exact gT mixed func79 (by simp[aT.ok,gJ];rfl) 100 (N:=15) k_ (λw=>[.step 7 (av f79 7) _ _ _ _ (dL (aDq h) (.w (k:=0) (cc:=0) (x:=.view (ai (ae bz n a))) rfl (gJ _) (λe=>by subst e;rfl) .nil) (x:=.func 131) k_ k_ rfl),.rw 11 (.bool (!((BA (cq a)).toList==(ByteArray.mk #[]).toList))) (.bool (decide (a≠0))) (by rw[e])]) (λw=>k_) rfl
theorem aWm(neg:Bool)(l:List UInt8):aE prog 55 [.agg #[.bool neg,.string (BA l)]] (.bool (xw neg l)):=by
 cases l with
 |nil=>exact aM func55 (λ_=>[.rw 5 (.bool ((BA []).toList==(ByteArray.mk #[]).toList)) (.bool true) (by rw[E2];rfl)])
 |cons c l=>
  have e:(((c.toNat:Nat):Int)!=0)=decide (c≠0):=by
   by_cases h:c=0
   ·subst h;rfl
   ·rw[aB h,uG];intro h2;exact h (Ny.1 (by simpa using h2))
  exact aM func55 (λ_=>[.rw 5 (.bool ((BA (c::l)).toList==(ByteArray.mk #[]).toList)) (.bool false) (by rw[E2];rfl),.sx f55 11 (BA (c::l)) 0 c (by rw[J6];rfl) k_,.rw 12 (.bool (((c.toNat:Nat):Int)!=0)) (.bool (decide (c≠0))) (by rw[e])])
theorem aDs(neg:Bool){m:Nat}(h:neg=true->m≠0):xw neg (cq m)=true:=by
 by_cases hm:m=0
 ·subst hm;rw[CZ];cases neg
  ·rfl
  ·exact absurd rfl (h rfl)
 ·obtain⟨c,l,h1,h2⟩:=NG hm;rw[h1];exact aB h2
theorem aWg(neg:Bool){m:Nat}(h:neg=true->m≠0):aE prog 55 [sv neg m] (.bool true):=by have:=aWm neg (cq m);rw[aDs neg h]at this;exact this
theorem aWa(z:Int):aE prog 55 [bN z] (.bool true):=
 sC (C:=λ_ v=>aE prog 55 [v] (.bool true)) (λ_=>aWg false n_) (λ_ hm=>aWg true λ_=>hm) z
theorem aWb{z:Int}(h:z.natAbs<=9223372036854775808)(PJ:z<9223372036854775808):aE prog 44 [.int .i64 z] (bN z):=by
 obtain⟨m,hm⟩:∃ m,m=z.natAbs:=⟨_,rfl⟩;have aVV:m<18446744073709551616:=by omega
 have hb:P2 3 m:=⟨by
  have e:bz^3=4722366482869645213696:=by decide
  rw[e];omega,λ_=>.inr rfl,by omega⟩
 have ju:ai (ae bz 3 m)=[vI (m/bz^0%bz),vI (m/bz^1%bz),vI (m/bz^2%bz)]:=rfl;have hs:=λneg=>aDr neg hb;obtain⟨x0,kY⟩:∃ x,x=m/bz^0%bz:=⟨_,rfl⟩;obtain⟨x1,uN⟩:∃ x,x=m/bz^1%bz:=⟨_,rfl⟩;obtain⟨x2,hJ⟩:∃ x,x=m/bz^2%bz:=⟨_,rfl⟩;rw[<-kY,<-uN,<-hJ]at ju;rw[ju]at hs;have kY:m%16777216=x0:=by rw[kY,r7,E4]
 have uN:m/16777216%16777216=x1:=by rw[uN,CV]
 have hJ:m/16777216/16777216=x2:=by rw[hJ,show bz^2=16777216*16777216 by decide,<-kQ];exact(dK (by show _<16777216;omega)).symm
 have u0:Int.tmod (m:Int) 16777216=(x0:Int):=by rw[zf o_];omega
 obtain⟨q,hq⟩:∃ q,q=m/16777216:=⟨_,rfl⟩;rw[<-hq]at uN hJ;have uq:IntKind.u64.wrap (Int.tdiv (m:Int) 16777216)=(q:Int):=by rw[y9 o_,j5];omega
 have u1:Int.tmod (q:Int) 16777216=(x1:Int):=by rw[zf o_];omega
 have u2:IntKind.u64.wrap (Int.tdiv (q:Int) 16777216)=(x2:Int):=by rw[y9 o_,j5];omega
 have w0:IntKind.i64.wrap (x0:Int)=(x0:Int):=by rw[db];omega
 have w1:IntKind.i64.wrap (x1:Int)=(x1:Int):=by rw[db];omega
 have w2:IntKind.i64.wrap (x2:Int)=(x2:Int):=by rw[db];omega
 have cQ:∀ v∈[vI x0,vI x1,vI x2],flat v=true:=λv hv=>by simp at hv;rcases hv with rfl|rfl|rfl<;>rfl
 let tl:∀(Bs:aa) (t:Bool),bI prog Bs 25:=λBs t=>[.rw 11 (.bool (decide (z<0))) (.bool (decide (z<0))) rfl,.rw 13 (.int .u64 (Int.tmod (m:Int) 16777216)) (.int .u64 (x0:Int)) (by rw[u0]),.wr 14 .i64 (x0:Int) (x0:Int) w0,.wr 16 .u64 (Int.tdiv (m:Int) 16777216) (q:Int) uq,.rw 17 (.int .u64 (Int.tmod (q:Int) 16777216)) (.int .u64 (x1:Int)) (by rw[u1]),.wr 18 .i64 (x1:Int) (x1:Int) w1,.wr 20 .u64 (Int.tdiv (m:Int) 16777216) (q:Int) uq,.wr 21 .u64 (Int.tdiv (q:Int) 16777216) (x2:Int) u2,.wr 22 .i64 (x2:Int) (x2:Int) w2,.bs f44 23 1 3 3 1 [0,1,2] (vI 0) [vI x0,vI x1,vI x2] #[vI x0,vI x1,vI x2] (.row [vI x0,vI x1,vI x2] 3 1) rfl cQ cQ k_ rfl o_ o_ k_,.step 24 (av f44 24) _ _ _ _ (dL (hs t) (.p rfl (.w (k:=1) (cc:=0) (x:=.row [vI x0,vI x1,vI x2] 3 1) rfl rfl n_ .nil)) (x:=.func 79) k_ k_ rfl)]
 by_cases hz:z<0
 ·have e2:sg true m=z:=by show -(m:Int)=z;omega
  rw[<-show bN (sg true m)=bN z by rw[e2]];exact aM func44 (λ_=>.wr 5 .u64 z (z+18446744073709551616) (by rw[j5];omega)::.rw 7 (.bool (decide (z<0))) (.bool true) (by rw[aB hz])::
   .wr 9 .u64 (0-(z+18446744073709551616)) (m:Int) (by rw[j5];omega)::.rw 11 (.bool (decide (z<0))) (.bool true) (by rw[aB hz])::(tl _ true).tail)
 ·have e2:sg false m=z:=by show(m:Int)=z;omega
  rw[<-show bN (sg false m)=bN z by rw[e2]];exact aM func44 (λ_=>.wr 5 .u64 z (m:Int) (by rw[j5];omega)::.rw 7 (.bool (decide (z<0))) (.bool false) (by rw[aJ hz])::
   .rw 11 (.bool (decide (z<0))) (.bool false) (by rw[aJ hz])::(tl _ false).tail)
theorem aXa(z:Int):aE prog 57 [bN z] (.int .i64 z.sign):=by
 refine sC (C:=λz v=>aE prog 57 [v] (.int .i64 z.sign)) (λm=>?_) (λm hm=>?_) z
 ·by_cases h:m=0
  ·subst h;exact aM func57 (λ_=>[(aWg false (m:=0) n_).at 5,.rw 10 (.bool ((BA (cq 0)).toList==(ByteArray.mk #[]).toList)) (.bool true) (by rw[qT];rfl)])
  ·have e:((m:Nat):Int).sign=1:=Bz o_;rw[e];exact aM func57 (λ_=>[(aWg false (m:=m) n_).at 5,.rw 10 (.bool ((BA (cq m)).toList==(ByteArray.mk #[]).toList)) (.bool false) (by rw[qT,aJ h])])
 ·have e:(-(m:Int)).sign=-1:=Fl o_;rw[e];exact aM func57 (λ_=>[(aWg true (m:=m) (λ_=>hm)).at 5,.rw 10 (.bool ((BA (cq m)).toList==(ByteArray.mk #[]).toList)) (.bool false) (by rw[qT,aJ hm])])
theorem aW2(z:Int):aE prog 129 [bN z] (bN (-z)):=by
 refine sC (C:=λz v=>aE prog 129 [v] (bN (-z))) (λm=>?_) (λm hm=>?_) z
 ·by_cases h:m=0
  ·subst h;have e:bN (-((0:Nat):Int))=.agg #[.bool false,.string ⟨#[]⟩]:=by show Value.agg #[.bool false,.string (BA (cq 0))]=_;rw[CZ];rfl
   rw[e];exact aM func129 (λ_=>[(aWg false (m:=0) n_).at 4,.rw 9 (.bool ((BA (cq 0)).toList==(ByteArray.mk #[]).toList)) (.bool true) (by rw[qT];rfl)])
  ·have e:=uO true m;rw[<-show sg true m=-(m:Int)from rfl,<-e];unfold Fh;rw[aB h];exact aM func129 (λ_=>[(aWg false (m:=m) n_).at 4,.rw 9 (.bool ((BA (cq m)).toList==(ByteArray.mk #[]).toList)) (.bool false) (by rw[qT,aJ h])])
 ·have e:=uO false m;rw[Kn,<-show sg false m=(m:Int)from rfl,<-e];exact aM func129 (λ_=>[(aWg true (m:=m) (λ_=>hm)).at 4,.rw 9 (.bool ((BA (cq m)).toList==(ByteArray.mk #[]).toList)) (.bool false) (by rw[qT,aJ hm])])
theorem aOu(z:Int):aE prog 128 [bN z] (bN (z.natAbs:Int)):=by
 refine sC (C:=λz v=>aE prog 128 [v] (bN (z.natAbs:Int))) (λm=>?_) (λm hm=>?_) z
 ·exact aM func128 (λ_=>[(aWg false (m:=m) n_).at 4])
 ·rw[Km];exact aM func128 (λ_=>[(aWg true (m:=m) (λ_=>hm)).at 4])
section
variable{Bs:aa}{n a b:Nat}
def B8(n i:Nat):aR:=[(5,dq i),(0,sl 0 n),(1,sl 1 n)]
def sW(n a b:Nat):aH:=[(0,.view (ai (ae bz n a))),(1,.view (ai (ae bz n b)))]
theorem tY{x y:Nat}{t:Bool}(h:decide (x≠y)=t):Value.bool ((x:Int)!=(y:Int))=.bool t:=by
 rw[<-h];congr 1
 by_cases e:x=y
 ·subst e;simp
 ·rw[aB e,uG];omega
noncomputable def VH(n a b j:Nat)(hj:j<n)(t:Bool)(h:decide (a/bz^j%bz≠b/bz^j%bz)=t)(more:bI prog Bs 41):bI prog Bs 41:=
 .rw 19 (dq (j+1)) (vI j) (dY j)::.ge 20 j 0 true s_::.rw 24 (dq (j+1)) (vI j) (dY j)::.ix f96 25 0 n j hj k_::.ld f96 26 3 0 j (.view (ai (ae bz n a))) (vI (a/bz^j%bz)) rfl (dQ (eB hj)) k_::
  .rw 28 (dq (j+1)) (vI j) (dY j)::.ix f96 29 1 n j hj k_::.ld f96 30 3 1 j (.view (ai (ae bz n b))) (vI (b/bz^j%bz)) rfl (dQ (eB hj)) k_::.rw 31 _ (.bool t) (tY h)::more
noncomputable def aDt(n a b j:Nat)(hj:j<n)(t:Bool)(h:decide (a/bz^j%bz<b/bz^j%bz)=t):bI prog Bs 41:=
 [.rw 33 (dq (j+1)) (vI j) (dY j),.ix f96 34 0 n j hj k_,.ld f96 35 3 0 j (.view (ai (ae bz n a))) (vI (a/bz^j%bz)) rfl (dQ (eB hj)) k_,.rw 37 (dq (j+1)) (vI j) (dY j),.ix f96 38 1 n j hj k_,.ld f96 39 3 1 j (.view (ai (ae bz n b))) (vI (b/bz^j%bz)) rfl (dQ (eB hj)) k_,.lt 40 (a/bz^j%bz) (b/bz^j%bz) t h]
theorem aOv{j:Nat}(hj:j<n)(he:a/bz^j%bz=b/bz^j%bz)(h63:n<35184372088832):
  ag prog Bs 41 (aF (af f96 0)) (B8 n (j+1)) (sW n a b) 2 ⟨.normal,B8 n j,sW n a b,2⟩:=
 aC (VH n a b j hj false (by simp[he]) [.rw 21 (dq (j+1)) (vI j) (dY j),.wr 22 .i64 ((j:Int)-1) ((j:Int)-1) (oU o_)])
theorem aOw{j:Nat}(hj:j<n)(ak:a/bz^j%bz<b/bz^j%bz):
  ag prog Bs 41 (aF (af f96 0)) (B8 n (j+1)) (sW n a b) 2 ⟨.ret,[(4,.int .i64 (-1))],sW n a b,2⟩:=
 aC (VH n a b j hj true (aB o_) (aDt n a b j hj true (aB ak)))
theorem aOx{j:Nat}(hj:j<n)(ak:b/bz^j%bz<a/bz^j%bz):
  ag prog Bs 41 (aF (af f96 0)) (B8 n (j+1)) (sW n a b) 2 ⟨.ret,[(4,.int .i64 1)],sW n a b,2⟩:=
 aC (VH n a b j hj true (aB o_) (aDt n a b j hj false (aJ o_)))
theorem aOy:ag prog Bs 41 (aF (af f96 0)) (B8 n 0) (sW n a b) 2 ⟨.exit 0,[],sW n a b,2⟩:=
 aC [.rw 20 (.bool (decide (((0:Nat):Int)-1>=0))) (.bool false) rfl]
theorem aOz(ha:a<bz^n)(hb:b<bz^n)(h63:n<35184372088832):
  ag prog Bs 41 (.block 0 (af f96 0)) (B8 n n) (sW n a b) 2 (if a=b then⟨.normal,[],sW n a b,2⟩else⟨.ret,[(4,.int .i64 (ig a b))],sW n a b,2⟩):=by
 obtain⟨e,h1,h2,h3⟩:=yT (λt=>¬(t<n/\a/bz^(n-1-t)%bz=b/bz^(n-1-t)%bz)) n o_;have xj:=Zy ha hb e h1 λs hs=>(E3.1 (h3 s hs)).2;have go:∀(r:mz),r.ex≠.normal->ag prog Bs 41 (aF (af f96 0)) (B8 n (n-e)) (sW n a b) 2 r->ag prog Bs 41 (.loop (aF (af f96 0))) (B8 n n) (sW n a b) 2 r:=by
  intro r hr vF
  exact cd (P:=prog) (B:=Bs) (N:=41) (b:=aF (af f96 0)) (next:=2) (r:=r) e (λi=>B8 n (n-i)) (λ_=>sW n a b) (λi k _=>Iff.rfl)
   (λi hi=>by
    have q:=E3.1 (h3 i hi);have e1:n-i=(n-(i+1))+1:=by omega
    have e2:n-1-i=n-(i+1):=by omega
    simp only[e1];exact aOv o_ (by rw[<-e2];exact q.2) h63) vF hr
 by_cases CT:e=n
 ·have b9:a=b:=by rw[CT,vG,r7,E4,E4]at xj;exact xj
  rw[ax b9];have:=go ⟨.exit 0,[],sW n a b,2⟩ n_ (by rw[CT,vG];exact aOy);exact bT (id:=0) this
 ·have hj:n-e=(n-1-e)+1:=by omega
  have aV:a/bz^(n-1-e)%bz≠b/bz^(n-1-e)%bz:=λh=>h2 ⟨by omega,h⟩;rw[hj]at xj go;have b9:a≠b:=λh=>aV (by rw[h]);rw[au b9];rcases EG aV with ak|tw
  ·have hl:=Nq xj ak;have e1:ig a b=-1:=by unfold ig;rw[ax hl]
   rw[e1];exact bT (id:=0) (go _ n_ (aOw o_ ak))
  ·have hl:=Nq xj.symm tw;have e1:ig a b=1:=by unfold ig;rw[au o_,ax hl]
   rw[e1];exact bT (id:=0) (go _ n_ (aOx o_ tw))
end
theorem VI{a b:Nat}(h1:nd bz a<35184372088832)(h2:nd bz b<35184372088832):cI prog 96 [jE a,jE b] (.int .i64 (ig a b)):=by
 have ha:=dU (B:=bz) d_ a;have hb:=dU (B:=bz) d_ b;have c7:nd bz a<nd bz b->a<b:=λh=>by
  rcases eL a b with h1|h1
  ·exact h1
  ·have:=iU (B:=bz) d_ h1;omega
 have dC:nd bz b<nd bz a->b<a:=λh=>by
  rcases eL b a with h1|h1
  ·exact h1
  ·have:=iU (B:=bz) d_ h1;omega
 have az:([jE a,jE b].all aT.ok)=true:=by simp[IB]
 unfold jE cN at az ⊢;generalize nd bz a=n at *;generalize nd bz b=m at *;by_cases lL:n=m
 ·subst lL;have lo:=λBs=>aOz (Bs:=Bs) ha hb h1;by_cases b9:a=b
  ·simp only[ax b9]at lo;have e1:ig a b=0:=by unfold ig;rw[au o_,au o_]
   rw[e1];exact gT mixed func96 az 100 (N:=41) k_ (λw=>[.rw 10 _ (.bool false) (tY (x:=n) (y:=n) s_),.wr 18 .i64 ((n:Int)-1) ((n:Int)-1) (oU o_),.code 0 _ _ _ _ _ (lo _)]) (λw=>k_) rfl
  ·simp only[au b9]at lo;exact gT mixed func96 az 100 (N:=41) k_ (λw=>[.rw 10 _ (.bool false) (tY (x:=n) (y:=n) s_),.wr 18 .i64 ((n:Int)-1) ((n:Int)-1) (oU o_),.code 0 _ _ _ _ _ (lo _)]) (λw=>k_) rfl
 ·rcases EG lL with ak|tw
  ·have e1:ig a b=-1:=by unfold ig;rw[ax (c7 ak)]
   rw[e1];exact gT mixed func96 az 100 (N:=41) k_ (λw=>[.rw 10 _ (.bool true) (tY (x:=n) (y:=m) (aB lL)),.lt 15 n m true (aB ak)]) (λw=>k_) rfl
  ·have e1:ig a b=1:=by unfold ig;rw[au (by have:=dC tw;omega),ax (dC tw)]
   rw[e1];exact gT mixed func96 az 100 (N:=41) k_ (λw=>[.rw 10 _ (.bool true) (tY (x:=n) (y:=m) (aB lL)),.lt 15 n m false (aJ o_)]) (λw=>k_) rfl
section
variable{Bs:aa}{m:Nat}{neg:Bool}
def DS(m i:Nat):aR:=[(5,vI i),(1,ptr 0),(4,.int .u64 ((m/256^(nd 256 m-i):Nat):Int))]
def DT(neg:Bool)(m:Nat):aH:=[(0,.aI [.bool neg,.string (BA (cq m))] 28)]
theorem aOA{m i:Nat}(h:i<nd 256 m):∃ c,(BA (cq m))[nd 256 m-1-i]?=some c/\c.toNat=m/256^i%256:=by
 obtain⟨c,h1,h2⟩:=SR (BA (cq m)) (i:=i) (by rw[oT,tE];exact h);rw[oT,tE]at h1;refine⟨c,h1,?_⟩;rw[h2]
 congr 2
 show fY (BA (cq m)).data.toList=m;exact Fb m
theorem aOB{i:Nat}(hi:i<nd 256 m)(hm:nd 256 m<=7):
  ag prog Bs 52 (aF (af f138 0)) (DS m i) (DT neg m) 1 ⟨.normal,DS m (i+1),DT neg m,1⟩:=by
 have ak:m<256^7:=cC (dU (B:=256) d_ m) (c9 d_ hm);obtain⟨c,gA,dp⟩:=aOA (m:=m) (i:=nd 256 m-1-i) o_;have bw:(((BA (cq m)).size:Nat):Int)=(nd 256 m:Int):=by rw[oT,tE]
 unfold DS DT;generalize BA (cq m)=s at *;generalize nd 256 m=L at *;rw[show L-1-(L-1-i)=i by omega]at gA;obtain⟨j,hj⟩:∃ j,j=L-1-i:=⟨_,rfl⟩;have e1:L-i=j+1:=by omega
 have e2:L-(i+1)=j:=by omega
 rw[e1,e2];rw[<-hj]at dp;have hd:m/256^j=m/256^(j+1)*256+m/256^j%256:=xd m j;rw[<-dp]at hd;have hq:m/256^(j+1)<=m:=tD _ _;have nL:m/256^(j+1)*256<=m:=by rw[dy,<-kQ];exact dh (C5 _ _) (tD _ _)
 generalize m/256^(j+1)=x at *;generalize m/256^j=y at *;have hc3:=c.toNat_lt;have VJ:(256:Nat)^7=72057594037927936:=by decide
 rw[VJ]at ak;have ws:IntKind.u64.wrap ((x:Int)*2^8)=((x*256:Nat):Int):=by rw[show((x:Int)*2^8)=((x*256:Nat):Int)by simp,j5];omega
 have wc:IntKind.u64.wrap (c.toNat:Int)=(c.toNat:Int):=by rw[j5];omega
 have wa:IntKind.u64.wrap (((x*256:Nat):Int)+(c.toNat:Int))=(y:Int):=by rw[j5];omega
 exact aC [.rw 18 (.int .i64 (s.size:Int)) (vI L) (by rw[bw];rfl),.lt 19 i L true (aB hi),.wr 23 .u64 ((x:Int)*2^8) _ ws,.sx f138 27 s i c gA k_,.wr 28 .u64 (c.toNat:Int) _ wc,.wr 29 .u64 _ _ wa,.sum 21 i 1 (i+1) rfl o_]
theorem aOC(hm:nd 256 m<=7):ag prog Bs 52 (.block 0 (af f138 0)) (DS m 0) (DT neg m) 1 ⟨.normal,DS m (nd 256 m),DT neg m,1⟩:=
 bT (id:=0) (cd (b:=aF (af f138 0)) (r:=⟨.exit 0,DS m (nd 256 m),DT neg m,1⟩) (nd 256 m) (DS m) (λ_=>DT neg m) (λ_ _ _=>Iff.rfl) (λk hk=>aOB hk hm)
  (aC [.rw 18 (.int .i64 ((BA (cq m)).size:Int)) (vI (nd 256 m)) (by rw[oT,tE];rfl),.lt 19 (nd 256 m) (nd 256 m) false s_]) n_)
end
theorem aOD{m:Nat}{neg:Bool}(hv:neg=true->m≠0)(hm:nd 256 m<=7):aE prog 138 [sv neg m] (.tuple #[.int .i64 (sg neg m),.bool true]):=by
 have lo:=λBs=>aOC (Bs:=Bs) (neg:=neg) hm;have ak:m<256^7:=cC (dU (B:=256) d_ m) (c9 d_ hm);have VJ:(256:Nat)^7=72057594037927936:=by decide
 rw[VJ]at ak;have e0:m/256^(nd 256 m-0)=0:=mA (dU (B:=256) d_ m);have e1:m/256^(nd 256 m-nd 256 m)=m:=by rw[vG,r7,E4]
 unfold DS at lo;simp only[e0,e1]at lo;have bw:(((BA (cq m)).size:Nat):Int)=(nd 256 m:Int):=by rw[oT,tE]
 have lE:=aWg neg hv;unfold DT at lo;unfold sv pC at lE ⊢;generalize BA (cq m)=s at *;generalize nd 256 m=L at *;have hle:decide ((L:Int)>8)=false:=aJ o_;cases neg
 ·have w:IntKind.i64.wrap (m:Int)=(m:Int):=by rw[db];omega
  exact aM func138 (λ_=>[lE.at 7,.rw 12 (.int .i64 (s.size:Int)) (vI L) (by rw[bw];rfl),.rw 13 (.bool (decide ((L:Int)>8))) (.bool false) (by rw[hle]),.code 0 _ _ _ _ _ (lo _),.rw 48 (.bool (decide ((m:Int)<9223372036854775808))) (.bool true) (by rw[aB o_]),.wr 51 .i64 (m:Int) (m:Int) w])
 ·have w0:IntKind.u64.wrap ((m:Int)-1)=(m:Int)-1:=by have:=hv rfl;rw[j5];omega
  have w1:IntKind.i64.wrap ((m:Int)-1)=(m:Int)-1:=by rw[db];omega
  have w2:IntKind.i64.wrap (0-((m:Int)-1))=1-(m:Int):=by rw[db];omega
  have w3:IntKind.i64.wrap (1-(m:Int)-1)=sg true m:=by rw[db];show _=-(m:Int);omega
  exact aM func138 (λ_=>[lE.at 7,.rw 12 (.int .i64 (s.size:Int)) (vI L) (by rw[bw];rfl),.rw 13 (.bool (decide ((L:Int)>8))) (.bool false) (by rw[hle]),.code 0 _ _ _ _ _ (lo _),.rw 35 (.bool (decide ((m:Int)<=9223372036854775808))) (.bool true) (by rw[aB o_]),.wr 38 .u64 _ _ w0,.wr 39 .i64 _ _ w1,.wr 40 .i64 _ _ w2,.wr 41 .i64 _ _ w3])
theorem sY{m:Nat}{neg:Bool}(hv:neg=true->m≠0)(hm:nd 256 m<=7):aE prog 92 [sv neg m] (.tuple #[.int .i64 (sg neg m),.bool true]):=by
 have h:=aOD hv hm;have bw:(((BA (cq m)).size:Nat):Int)=(nd 256 m:Int):=by rw[oT,tE]
 unfold sv pC at h ⊢;generalize BA (cq m)=s at *;generalize nd 256 m=L at *;exact aM func92 (λ_=>[.rw 8 (.int .i64 (s.size:Int)) (vI L) (by rw[bw];rfl),.rw 9 (.bool (decide ((L:Int)>7))) (.bool false) (by rw[aJ o_]),h.at 12])
theorem vg{m:Nat}{neg:Bool}(hm:¬nd 256 m<=7):aE prog 92 [sv neg m] (.tuple #[.int .i64 0,.bool false]):=by
 have bw:(((BA (cq m)).size:Nat):Int)=(nd 256 m:Int):=by rw[oT,tE]
 unfold sv pC;generalize BA (cq m)=s at *;generalize nd 256 m=L at *;exact aM func92 (λ_=>[.rw 8 (.int .i64 (s.size:Int)) (vI L) (by rw[bw];rfl),.rw 9 (.bool (decide ((L:Int)>7))) (.bool true) (by rw[aB o_])])
section
variable{Bs:aa}{N:Nat}
theorem aOE(m:Nat):(nd 256 m+2)/3=nd bz m:=by
 have e:bz=256^3:=by decide
 have h1:nd bz m<=(nd 256 m+2)/3:=jl d_ (by rw[e,<-r8];exact cC (dU (B:=256) d_ m) (c9 d_ o_))
 have h2:nd 256 m<=3*nd bz m:=jl d_ (by have:=dU (B:=bz) d_ m;rw[e,<-r8]at this;rw[e];exact this)
 omega
theorem aDu{m:Nat}(h:nd 256 m<35184372088832):lX prog 93 [.p (pC m)] 3 1 (nd bz m) (cN m):=by
 have hs:(BA (cq m)).size=nd 256 m:=by rw[oT,tE]
 have hv:kD (BA (cq m))=m:=by show fY (BA (cq m)).data.toList=m;exact Fb m
 have:=aNR (s:=BA (cq m)) (by rw[hs];exact h);rw[hs,hv,aOE]at this;exact this
theorem nY{x:Obj}{a k:Nat}(hr:x.reads=true)(hc:x.cells=cN a){l:List aT}{vs:aj}{nd':List (Nat×Option Obj)}(h:fR Bs l vs nd'):fR Bs (jE a::l) (sl k (nd bz a)::vs) ((k,some x)::nd'):=by unfold jE;rw[<-hc];exact .w hr (by rw[hc];exact sT a) (λe=>by rw[hc];exact aNe e) h
def cA(a:Nat):Obj:=.row (cN a) 3 1
def aX.eP(fn:Func)(key k m:Nat)(h:nd 256 m<35184372088832)(ho:dx (av fn key).op=some (.func 93)):aX prog Bs N:=
 .step key (av fn key) [.func (.func 93) #[] #[],pC m] [(k,none)] (sl k (nd bz m)) [(k,cA m)] (qo (aDu h) (.p rfl .nil) ho k_ (sT m) k)
def aX.DU(fn:Func)(key k k1 k2 a b:Nat)(x1 x2:Obj)(tZ:x1.reads=true)(gA:x1.cells=cN a)(nQ:x2.reads=true)(dp:x2.cells=cN b)(h1:nd bz a<35184372088832)(h2:nd bz b<35184372088832)
  (ho:dx (av fn key).op=some (.func 94)):aX prog Bs N:=
 .step key (av fn key) [.func (.func 94) #[] #[],sl k1 (nd bz a),sl k2 (nd bz b)] [(k,none),(k1,some x1),(k2,some x2)] (sl k (nd bz (a+b))) [(k,cA (a+b))] (qo (aDj h1 h2) (nY tZ gA (nY nQ dp .nil)) ho k_ (sT _) k)
def aX.ua(fn:Func)(key k k1 k2 a b:Nat)(x1 x2:Obj)(tZ:x1.reads=true)(gA:x1.cells=cN a)(nQ:x2.reads=true)(dp:x2.cells=cN b)(b9:b<=a)(h1:nd bz a<35184372088832)
  (ho:dx (av fn key).op=some (.func 97)):aX prog Bs N:=
 .step key (av fn key) [.func (.func 97) #[] #[],sl k1 (nd bz a),sl k2 (nd bz b)] [(k,none),(k1,some x1),(k2,some x2)] (sl k (nd bz (a-b))) [(k,cA (a-b))] (qo (aN9 b9 h1) (nY tZ gA (nY nQ dp .nil)) ho k_ (sT _) k)
def aX.P3(fn:Func)(key k k1 k2 a b:Nat)(x1 x2:Obj)(tZ:x1.reads=true)(gA:x1.cells=cN a)(nQ:x2.reads=true)(dp:x2.cells=cN b)(h:nd bz a+nd bz b<35184372088832)
  (ho:dx (av fn key).op=some (.func 132)):aX prog Bs N:=
 .step key (av fn key) [.func (.func 132) #[] #[],sl k1 (nd bz a),sl k2 (nd bz b)] [(k,none),(k1,some x1),(k2,some x2)] (sl k (nd bz (a*b))) [(k,cA (a*b))] (qo (VE h) (nY tZ gA (nY nQ dp .nil)) ho k_ (sT _) k)
def aX.vh(fn:Func)(key k1 k2 a b:Nat)(x1 x2:Obj)(tZ:x1.reads=true)(gA:x1.cells=cN a)(nQ:x2.reads=true)(dp:x2.cells=cN b)(h1:nd bz a<35184372088832)(h2:nd bz b<35184372088832)
  (ho:dx (av fn key).op=some (.func 96)):aX prog Bs N:=
 .step key (av fn key) [.func (.func 96) #[] #[],sl k1 (nd bz a),sl k2 (nd bz b)] [(k1,some x1),(k2,some x2)] (.int .i64 (ig a b)) [] (dL (VI h1 h2) (nY tZ gA (nY nQ dp .nil)) ho k_ rfl)
def aX.fC(fn:Func)(key k1 a:Nat)(neg:Bool)(x1:Obj)(tZ:x1.reads=true)(gA:x1.cells=cN a)(h1:nd bz a<35184372088832)
  (ho:dx (av fn key).op=some (.func 79)):aX prog Bs N:=
 .step key (av fn key) [.func (.func 79) #[] #[],.bool neg,sl k1 (nd bz a)] [(k1,some x1)] (bN (sg neg a)) [] (dL (aDr neg (aOt h1)) (.p rfl (nY tZ gA .nil)) ho k_ rfl)
theorem ub{m n:Nat}(h:m<2^n):nd bz m<=n:=jl d_ (cC h (aAG d_ n))
end
theorem DW{a b:Nat}{t:Bool}(h:decide (b<=a)=t):Value.bool (decide (ig a b>=0))=.bool t:=by
 rw[<-h];congr 1;rw[oQ];unfold ig
 by_cases h1:a<b
 ·rw[ax h1];omega
 ·rw[au h1];by_cases h2:b<a
  ·rw[ax h2];omega
  ·rw[au h2];omega
theorem IE{m:Nat}(h:nd 256 m<=7):m<72057594037927936:=by have ak:m<256^7:=cC (dU (B:=256) d_ m) (c9 d_ h);rwa[show(256:Nat)^7=72057594037927936 by decide]at ak
theorem DX(n:Bool)(m:Nat):-(m:Int)<=sg n m/\sg n m<=m:=by cases n<;>simp[sg]<;>omega
theorem aWq{n1 n2:Bool}{m1 m2 p q:Nat}(v1:n1=true->m1≠0)(v2:n2=true->m2≠0)(h1:m1<2^p)(h2:m2<2^q)(hp:p<=1099511627776)(hq:q<=1099511627776):
  aE prog 81 [sv n1 m1,sv n2 m2] (bN (sg n1 m1+sg n2 m2)):=by
 have b1:=ub h1;have b2:=ub h2;have c1:=vK h1;have c2:=vK h2;by_cases s1:nd 256 m1<=7/\nd 256 m2<=7
 ·obtain⟨s1,s2⟩:=s1;have g1:=DX n1 m1;have g2:=DX n2 m2;have l1:=IE s1;have l2:=IE s2;exact aM func81 (λ_=>[(aWg _ v1).at 12,(aWg _ v2).at 16,(sY v1 s1).at 22,(sY v2 s2).at 28,.wr 34 .i64 (sg n1 m1+sg n2 m2) (sg n1 m1+sg n2 m2) (by rw[db];omega),(aWb (z:=sg n1 m1+sg n2 m2) o_ o_).at 35])
 by_cases s1:nd 256 m1<=7
 ·have s2:¬nd 256 m2<=7:=λh=>(by assumption:¬(nd 256 m1<=7/\nd 256 m2<=7)) ⟨s1,h⟩;have same:∀ n:Bool,n1=n->n2=n->aE prog 81 [sv n1 m1,sv n2 m2] (bN (sg n1 m1+sg n2 m2)):=by
   rintro n rfl rfl
   have bs:nd bz (m1+m2)<35184372088832:=by
    have:=ub (m:=m1+m2) (n:=p+q+1) (by have e1:=c9 (show 0<2 by decide) (show p<=p+q by omega);have e2:=c9 (show 0<2 by decide) (show q<=p+q by omega);rw[dy];omega)
    omega
   have e:sg n2 m1+sg n2 m2=sg n2 (m1+m2):=by cases n2<;>simp[sg]<;>omega
   rw[e];cases n2
   ·exact aM func81 (λ_=>[(aWg _ v1).at 12,(aWg _ v2).at 16,(sY v1 s1).at 22,(vg (neg:=false) s2).at 28,.eP f81 38 3 m1 o_ k_,.eP f81 41 4 m2 o_ k_,.DU f81 52 5 3 4 m1 m2 (cA m1) (cA m2) rfl rfl rfl rfl o_ o_ k_,.fC f81 53 5 (m1+m2) false (cA (m1+m2)) rfl rfl bs k_])
   ·exact aM func81 (λ_=>[(aWg _ v1).at 12,(aWg _ v2).at 16,(sY v1 s1).at 22,(vg (neg:=true) s2).at 28,.eP f81 38 3 m1 o_ k_,.eP f81 41 4 m2 o_ k_,.DU f81 52 5 3 4 m1 m2 (cA m1) (cA m2) rfl rfl rfl rfl o_ o_ k_,.fC f81 53 5 (m1+m2) true (cA (m1+m2)) rfl rfl bs k_])
  have diff:n1≠n2->aE prog 81 [sv n1 m1,sv n2 m2] (bN (sg n1 m1+sg n2 m2)):=by
   intro aV;by_cases dT:m2<=m1
   ·have bs:nd bz (m1-m2)<35184372088832:=by have:=iU (B:=bz) d_ (BB m1 m2);omega
    have e:sg n1 m1+sg n2 m2=sg n1 (m1-m2):=by cases n1<;>cases n2<;>simp[sg]at aV ⊢<;>omega
    rw[e];cases n1<;>cases n2<;>first|exact absurd rfl aV|skip
    ·exact aM func81 (λ_=>[(aWg _ v1).at 12,(aWg _ v2).at 16,(sY v1 s1).at 22,(vg (neg:=true) s2).at 28,.eP f81 38 3 m1 o_ k_,.eP f81 41 4 m2 o_ k_,.vh f81 57 3 4 m1 m2 (cA m1) (cA m2) rfl rfl rfl rfl o_ o_ k_,.rw 58 _ (.bool true) (DW (aB dT)),.ua f81 63 5 3 4 m1 m2 (cA m1) (cA m2) rfl rfl rfl rfl dT o_ k_,.fC f81 64 5 (m1-m2) false (cA (m1-m2)) rfl rfl bs k_])
    ·exact aM func81 (λ_=>[(aWg _ v1).at 12,(aWg _ v2).at 16,(sY v1 s1).at 22,(vg (neg:=false) s2).at 28,.eP f81 38 3 m1 o_ k_,.eP f81 41 4 m2 o_ k_,.vh f81 57 3 4 m1 m2 (cA m1) (cA m2) rfl rfl rfl rfl o_ o_ k_,.rw 58 _ (.bool true) (DW (aB dT)),.ua f81 63 5 3 4 m1 m2 (cA m1) (cA m2) rfl rfl rfl rfl dT o_ k_,.fC f81 64 5 (m1-m2) true (cA (m1-m2)) rfl rfl bs k_])
   ·have bs:nd bz (m2-m1)<35184372088832:=by have:=iU (B:=bz) d_ (BB m2 m1);omega
    have e:sg n1 m1+sg n2 m2=sg n2 (m2-m1):=by cases n1<;>cases n2<;>simp[sg]at aV ⊢<;>omega
    rw[e];cases n1<;>cases n2<;>first|exact absurd rfl aV|skip
    ·exact aM func81 (λ_=>[(aWg _ v1).at 12,(aWg _ v2).at 16,(sY v1 s1).at 22,(vg (neg:=true) s2).at 28,.eP f81 38 3 m1 o_ k_,.eP f81 41 4 m2 o_ k_,.vh f81 57 3 4 m1 m2 (cA m1) (cA m2) rfl rfl rfl rfl o_ o_ k_,.rw 58 _ (.bool false) (DW (aJ dT)),.ua f81 69 5 4 3 m2 m1 (cA m2) (cA m1) rfl rfl rfl rfl o_ o_ k_,.fC f81 70 5 (m2-m1) true (cA (m2-m1)) rfl rfl bs k_])
    ·exact aM func81 (λ_=>[(aWg _ v1).at 12,(aWg _ v2).at 16,(sY v1 s1).at 22,(vg (neg:=false) s2).at 28,.eP f81 38 3 m1 o_ k_,.eP f81 41 4 m2 o_ k_,.vh f81 57 3 4 m1 m2 (cA m1) (cA m2) rfl rfl rfl rfl o_ o_ k_,.rw 58 _ (.bool false) (DW (aJ dT)),.ua f81 69 5 4 3 m2 m1 (cA m2) (cA m1) rfl rfl rfl rfl o_ o_ k_,.fC f81 70 5 (m2-m1) false (cA (m2-m1)) rfl rfl bs k_])
  by_cases h:n1=n2
  ·exact same n2 h rfl
  ·exact diff h
 ·have same:∀ n:Bool,n1=n->n2=n->aE prog 81 [sv n1 m1,sv n2 m2] (bN (sg n1 m1+sg n2 m2)):=by
   rintro n rfl rfl
   have bs:nd bz (m1+m2)<35184372088832:=by
    have:=ub (m:=m1+m2) (n:=p+q+1) (by have e1:=c9 (show 0<2 by decide) (show p<=p+q by omega);have e2:=c9 (show 0<2 by decide) (show q<=p+q by omega);rw[dy];omega)
    omega
   have e:sg n2 m1+sg n2 m2=sg n2 (m1+m2):=by cases n2<;>simp[sg]<;>omega
   rw[e];cases n2
   ·exact aM func81 (λ_=>[(aWg _ v1).at 12,(aWg _ v2).at 16,(vg (neg:=false) s1).at 22,.eP f81 38 3 m1 o_ k_,.eP f81 41 4 m2 o_ k_,.DU f81 52 5 3 4 m1 m2 (cA m1) (cA m2) rfl rfl rfl rfl o_ o_ k_,.fC f81 53 5 (m1+m2) false (cA (m1+m2)) rfl rfl bs k_])
   ·exact aM func81 (λ_=>[(aWg _ v1).at 12,(aWg _ v2).at 16,(vg (neg:=true) s1).at 22,.eP f81 38 3 m1 o_ k_,.eP f81 41 4 m2 o_ k_,.DU f81 52 5 3 4 m1 m2 (cA m1) (cA m2) rfl rfl rfl rfl o_ o_ k_,.fC f81 53 5 (m1+m2) true (cA (m1+m2)) rfl rfl bs k_])
  have diff:n1≠n2->aE prog 81 [sv n1 m1,sv n2 m2] (bN (sg n1 m1+sg n2 m2)):=by
   intro aV;by_cases dT:m2<=m1
   ·have bs:nd bz (m1-m2)<35184372088832:=by have:=iU (B:=bz) d_ (BB m1 m2);omega
    have e:sg n1 m1+sg n2 m2=sg n1 (m1-m2):=by cases n1<;>cases n2<;>simp[sg]at aV ⊢<;>omega
    rw[e];cases n1<;>cases n2<;>first|exact absurd rfl aV|skip
    ·exact aM func81 (λ_=>[(aWg _ v1).at 12,(aWg _ v2).at 16,(vg (neg:=false) s1).at 22,.eP f81 38 3 m1 o_ k_,.eP f81 41 4 m2 o_ k_,.vh f81 57 3 4 m1 m2 (cA m1) (cA m2) rfl rfl rfl rfl o_ o_ k_,.rw 58 _ (.bool true) (DW (aB dT)),.ua f81 63 5 3 4 m1 m2 (cA m1) (cA m2) rfl rfl rfl rfl dT o_ k_,.fC f81 64 5 (m1-m2) false (cA (m1-m2)) rfl rfl bs k_])
    ·exact aM func81 (λ_=>[(aWg _ v1).at 12,(aWg _ v2).at 16,(vg (neg:=true) s1).at 22,.eP f81 38 3 m1 o_ k_,.eP f81 41 4 m2 o_ k_,.vh f81 57 3 4 m1 m2 (cA m1) (cA m2) rfl rfl rfl rfl o_ o_ k_,.rw 58 _ (.bool true) (DW (aB dT)),.ua f81 63 5 3 4 m1 m2 (cA m1) (cA m2) rfl rfl rfl rfl dT o_ k_,.fC f81 64 5 (m1-m2) true (cA (m1-m2)) rfl rfl bs k_])
   ·have bs:nd bz (m2-m1)<35184372088832:=by have:=iU (B:=bz) d_ (BB m2 m1);omega
    have e:sg n1 m1+sg n2 m2=sg n2 (m2-m1):=by cases n1<;>cases n2<;>simp[sg]at aV ⊢<;>omega
    rw[e];cases n1<;>cases n2<;>first|exact absurd rfl aV|skip
    ·exact aM func81 (λ_=>[(aWg _ v1).at 12,(aWg _ v2).at 16,(vg (neg:=false) s1).at 22,.eP f81 38 3 m1 o_ k_,.eP f81 41 4 m2 o_ k_,.vh f81 57 3 4 m1 m2 (cA m1) (cA m2) rfl rfl rfl rfl o_ o_ k_,.rw 58 _ (.bool false) (DW (aJ dT)),.ua f81 69 5 4 3 m2 m1 (cA m2) (cA m1) rfl rfl rfl rfl o_ o_ k_,.fC f81 70 5 (m2-m1) true (cA (m2-m1)) rfl rfl bs k_])
    ·exact aM func81 (λ_=>[(aWg _ v1).at 12,(aWg _ v2).at 16,(vg (neg:=true) s1).at 22,.eP f81 38 3 m1 o_ k_,.eP f81 41 4 m2 o_ k_,.vh f81 57 3 4 m1 m2 (cA m1) (cA m2) rfl rfl rfl rfl o_ o_ k_,.rw 58 _ (.bool false) (DW (aJ dT)),.ua f81 69 5 4 3 m2 m1 (cA m2) (cA m1) rfl rfl rfl rfl o_ o_ k_,.fC f81 70 5 (m2-m1) false (cA (m2-m1)) rfl rfl bs k_])
  by_cases h:n1=n2
  ·exact same n2 h rfl
  ·exact diff h
theorem aW1{x y:Int}{p q:Nat}(h1:x.natAbs<2^p)(h2:y.natAbs<2^q)(hp:p<=1099511627776)(hq:q<=1099511627776):aE prog 81 [bN x,bN y] (bN (x+y)):=by revert h1 h2;refine Fm (C:=λx y v u=>x.natAbs<2^p->y.natAbs<2^q->aE prog 81 [v,u] (bN (x+y))) (λn1 n2 m1 m2 v1 v2 h1 h2=>?_) x y;rw[ql]at h1 h2;exact aWq v1 v2 h1 h2 hp hq
theorem aWc{x y:Int}{p q:Nat}(h1:x.natAbs<2^p)(h2:y.natAbs<2^q)(hp:p<=1099511627776)(hq:q<=1099511627776):aE prog 134 [bN x,bN y] (bN (x-y)):=
 aM func134 (λ_=>[(aWa x).at 6,(aWa y).at 10,(aW2 y).at 16,(aW1 h1 (by rw[Km];exact h2) hp hq).at 17])
theorem Lx(m:Nat):Value.int .i64 ((BA (cq m)).size:Int)=vI (nd 256 m):=by rw[oT,tE];rfl
theorem aWH{x y:Int}{p q:Nat}(h1:x.natAbs<2^p)(h2:y.natAbs<2^q)(hp:p<=1099511627776)(hq:q<=1099511627776):aE prog 82 [bN x,bN y] (bN (x*y)):=by
 revert h1 h2;refine Fm (C:=λx y v u=>x.natAbs<2^p->y.natAbs<2^q->aE prog 82 [v,u] (bN (x*y))) (λn1 n2 m1 m2 v1 v2 h1 h2=>?_) x y;rw[ql]at h1 h2;have b1:=ub h1;have b2:=ub h2;have c1:=vK h1;have c2:=vK h2;have k1:=dU (B:=256) d_ m1;have k2:=dU (B:=256) d_ m2;have r1:=Lx m1;have r2:=Lx m2;have e:sg n1 m1*sg n2 m2=sg (n1 !=n2) (m1*m2):=by cases n1<;>cases n2<;>simp[sg,HA,HB]
 by_cases hs:nd 256 m1+nd 256 m2<=7
 ·have s1:=sY v1 (show nd 256 m1<=7 by omega);have s2:=sY v2 (show nd 256 m2<=7 by omega);have hb:m1*m2<72057594037927936:=by
   have h:m1*m2<256^(nd 256 m1+nd 256 m2):=by rw[eD];exact qe k1 k2
   have h7:=c9 (n:=256) d_ hs;rw[show(256:Nat)^7=72057594037927936 by decide]at h7;omega
  have g:=DX (n1 !=n2) (m1*m2);rw[<-e]at g;have w:=aWg n1 v1;have w2:=aWg n2 v2;unfold sv pC at s1 s2 w w2 ⊢;generalize nd 256 m1=L1 at *;generalize nd 256 m2=L2 at *;exact aM func82 (λ_=>[w.at 10,w2.at 14,.rw 20 _ (vI L1) r1,.rw 23 _ (vI L2) r2,.sum 24 L1 L2 (L1+L2) rfl o_,.rw 25 (.bool (decide (((L1+L2:Nat):Int)<=7))) (.bool true) (by rw[aB o_]),s1.at 28,s2.at 33,.wr 38 .i64 (sg n1 m1*sg n2 m2) (sg n1 m1*sg n2 m2) (by rw[db];omega),(aWb (z:=sg n1 m1*sg n2 m2) o_ o_).at 39])
 ·have bs:nd bz (m1*m2)<35184372088832:=by have:=ub (m:=m1*m2) (n:=p+q) (by rw[eD];exact qe h1 h2);omega
  rw[e];have w:=aWg n1 v1;have w2:=aWg n2 v2;cases n1<;>cases n2
  ·exact aM func82 (λ_=>[w.at 10,w2.at 14,.rw 20 _ (vI (nd 256 m1)) r1,.rw 23 _ (vI (nd 256 m2)) r2,.sum 24 (nd 256 m1) (nd 256 m2) (nd 256 m1+nd 256 m2) rfl o_,.rw 25 (.bool (decide (((nd 256 m1+nd 256 m2:Nat):Int)<=7))) (.bool false) (by rw[aJ o_]),.eP f82 47 3 m1 o_ k_,.eP f82 50 4 m2 o_ k_,.P3 f82 51 5 3 4 m1 m2 (cA m1) (cA m2) rfl rfl rfl rfl o_ k_,.fC f82 52 5 (m1*m2) false (cA (m1*m2)) rfl rfl bs k_])
  ·exact aM func82 (λ_=>[w.at 10,w2.at 14,.rw 20 _ (vI (nd 256 m1)) r1,.rw 23 _ (vI (nd 256 m2)) r2,.sum 24 (nd 256 m1) (nd 256 m2) (nd 256 m1+nd 256 m2) rfl o_,.rw 25 (.bool (decide (((nd 256 m1+nd 256 m2:Nat):Int)<=7))) (.bool false) (by rw[aJ o_]),.eP f82 47 3 m1 o_ k_,.eP f82 50 4 m2 o_ k_,.P3 f82 51 5 3 4 m1 m2 (cA m1) (cA m2) rfl rfl rfl rfl o_ k_,.fC f82 52 5 (m1*m2) true (cA (m1*m2)) rfl rfl bs k_])
  ·exact aM func82 (λ_=>[w.at 10,w2.at 14,.rw 20 _ (vI (nd 256 m1)) r1,.rw 23 _ (vI (nd 256 m2)) r2,.sum 24 (nd 256 m1) (nd 256 m2) (nd 256 m1+nd 256 m2) rfl o_,.rw 25 (.bool (decide (((nd 256 m1+nd 256 m2:Nat):Int)<=7))) (.bool false) (by rw[aJ o_]),.eP f82 47 3 m1 o_ k_,.eP f82 50 4 m2 o_ k_,.P3 f82 51 5 3 4 m1 m2 (cA m1) (cA m2) rfl rfl rfl rfl o_ k_,.fC f82 52 5 (m1*m2) true (cA (m1*m2)) rfl rfl bs k_])
  ·exact aM func82 (λ_=>[w.at 10,w2.at 14,.rw 20 _ (vI (nd 256 m1)) r1,.rw 23 _ (vI (nd 256 m2)) r2,.sum 24 (nd 256 m1) (nd 256 m2) (nd 256 m1+nd 256 m2) rfl o_,.rw 25 (.bool (decide (((nd 256 m1+nd 256 m2:Nat):Int)<=7))) (.bool false) (by rw[aJ o_]),.eP f82 47 3 m1 o_ k_,.eP f82 50 4 m2 o_ k_,.P3 f82 51 5 3 4 m1 m2 (cA m1) (cA m2) rfl rfl rfl rfl o_ k_,.fC f82 52 5 (m1*m2) false (cA (m1*m2)) rfl rfl bs k_])
theorem aW5{x y:Int}{p q:Nat}(h1:x.natAbs<2^p)(h2:y.natAbs<2^q)(hp:p<=1099511627776)(hq:q<=1099511627776):aE prog 170 [bN x,bN y] (.int .i64 (x-y).sign):=by
 have w1:=aWa x;have w2:=aWa y;have s1:=aXa x;have s2:=aXa y;have DY:∀ z:Int,z.sign=-1/\z<0\/z.sign=0/\z=0\/z.sign=1/\0<z:=λz=>by
  rcases Oe z 0 with h|h|h
  ·exact .inl ⟨Fl h,h⟩
  ·exact .inr (.inl ⟨by rw[h];rfl,h⟩)
  ·exact .inr (.inr ⟨Bz h,h⟩)
 have b1:=ub h1;have b2:=ub h2;have c1:=vK h1;have c2:=vK h2;by_cases hs:x.sign=y.sign
 ·have ho:x.sign*ig x.natAbs y.natAbs=(x-y).sign:=by unfold ig;rcases DY x with ⟨a1,a2⟩|⟨a1,a2⟩|⟨a1,a2⟩<;>rcases DY y with ⟨d1,d2⟩|⟨d1,d2⟩|⟨d1,d2⟩<;>rcases DY (x-y)with ⟨f1,f2⟩|⟨f1,f2⟩|⟨f1,f2⟩<;>rw[a1,f1]<;>rw[a1,d1]at hs<;>first|(exfalso;omega)|(split<;>first|omega|(split<;>omega))
  have hw:IntKind.i64.wrap (x.sign*ig x.natAbs y.natAbs)=(x-y).sign:=by rw[ho,db];rcases DY (x-y)with ⟨f1,f2⟩|⟨f1,f2⟩|⟨f1,f2⟩<;>rw[f1]<;>rfl
  rw[<-hs]at s2;exact aM func170 (λ_=>[w1.at 8,w2.at 12,s1.at 16,s2.at 18,.rw 21 (.bool (x.sign !=x.sign)) (.bool false) s_,.eP f170 28 2 x.natAbs o_ k_,.eP f170 31 3 y.natAbs o_ k_,.vh f170 32 2 3 x.natAbs y.natAbs (cA x.natAbs) (cA y.natAbs) rfl rfl rfl rfl o_ o_ k_,.wr 33 .i64 _ _ hw])
 ·have aV:(x.sign !=y.sign)=true:=uG.2 hs;by_cases ak:x.sign<y.sign
  ·have e:(x-y).sign=-1:=by rcases DY x with ⟨a1,a2⟩|⟨a1,a2⟩|⟨a1,a2⟩<;>rcases DY y with ⟨d1,d2⟩|⟨d1,d2⟩|⟨d1,d2⟩<;>rw[a1,d1]at ak<;>first|omega|exact Fl o_
   rw[e];exact aM func170 (λ_=>[w1.at 8,w2.at 12,s1.at 16,s2.at 18,.rw 21 (.bool (x.sign !=y.sign)) (.bool true) (by rw[aV]),.rw 24 (.bool (decide (x.sign<y.sign))) (.bool true) (by rw[aB ak])])
  ·have e:(x-y).sign=1:=by rcases DY x with ⟨a1,a2⟩|⟨a1,a2⟩|⟨a1,a2⟩<;>rcases DY y with ⟨d1,d2⟩|⟨d1,d2⟩|⟨d1,d2⟩<;>rw[a1,d1]at ak hs<;>first|omega|exact Bz o_
   rw[e];exact aM func170 (λ_=>[w1.at 8,w2.at 12,s1.at 16,s2.at 18,.rw 21 (.bool (x.sign !=y.sign)) (.bool true) (by rw[aV]),.rw 24 (.bool (decide (x.sign<y.sign))) (.bool false) (by rw[aJ ak])])

section
variable{P:Program}{B:aa}{N:Nat}
def VK(o:Oper):Bool:=match o.op with
 |.call c=>match c.callee,c.args.toList with
  |.builtin .min,[_,_]=>true
  |_,_=>false
 |_=>false
theorem aOF{o:Oper}(ho:VK o=true){a b r:Nat}(hr:r=min a b):cD P B o [vI a,vI b] [] (vI r) []:=by
 unfold VK at ho;split at ho
 ·rename_i c bW;split at ho
  ·rename_i p q h1 h2;refine(Cq (λu hu=>by simp at hu;rcases hu with rfl|rfl<;>rfl) rfl λρ fV w _=>?_).step;obtain⟨ce,ar,at'⟩:=c;dsimp only at h1 h2;subst h1;have e1:ar=#[p,q]:=by rw[<-zC (xs:=ar),h2]
   subst e1;rw[bW]at fV;simp[Op.operands,Call.operands]at fV;simp[execOp,bW,resolve,invoke,builtin,Builtin.min_,Builtin.min2,fV.1,fV.2,vI,hr];split<;>omega
  ·cases ho
 ·cases ho
def aX.P4(fn:Func)(key a b r:Nat)(hr:r=min a b)(ho:VK (av fn key)=true):aX P B N:=
 .step key (av fn key) [vI a,vI b] [] (vI r) [] (aOF ho hr)
theorem aOG{f:FuncId}{fn:Func}{l:List aT}{ty:TypeId}{size m:Nat}{xs cells:aj}{u:Value}{k:Nat}(gF:P.follows .mixedOrders=true)(hf:P.funcs[f]?=some fn)(hl:(l.all aT.ok)=true)(n:Nat){N:Nat}(hN:N=(eU 0 l).length+(fn.ntmps-(eU 0 l).length))
  (rs:∀ w,bI P (aa.at w) N) (h:∀ w,nN (fW (P:=P) fn n (eU 0 l) (jC 0 l) (jR 0 l) (rs w)) [(k,.row cells ty size)]=nO (fW fn n (eU 0 l) (jC 0 l) (jR 0 l) (rs w)) (.tuple #[.slice (some ⟨k,0,some 7⟩) m 0,u]) [(k,.row cells ty size)])
  (hx:(cells.all flat)=true) (hlen:m*size<=cells.length) (kZ:cells.take (m*size)=xs) (hu:flat u=true):zW P f l ty size m xs u:=by
 intro w vs ct;obtain⟨ι,c,h1,h2,h3,h4,h5,h6,h7⟩:=vT ct (bh.1 hl) 0 _ _ (qP w) n_ (λ_ _=>rfl);refine rY gF hf hN n (h w) h6 h2 h4 h3 λaw bZ v' w' hle hc hm dE=>?_;obtain⟨cP,rfl,aY⟩:=hc.um;obtain⟨p,q,hp,h8,h9⟩:=jI aY;have e:cP=#[p,q]:=vu.1 (by rw[hp]);subst e;rw[h9.eY hu];have:=vC hm (dE (k,_) (aU ..)) h8 hlen (bh.1 hx);rw[kZ]at this;exact⟨p,rfl,this,hm.base⟩
theorem aOH{o:Oper}{x:Operand}{f:FuncId}{k j n m:Nat}{ty:TypeId}{cells xs:aj}{u:Value}(ho:dx o.op=some x)(eQ:gz P f=true)(hn:0<n)(cQ:∀ v∈cells,flat v=true)(Bb:∀ v∈xs,flat v=true)(hu:flat u=true)(kP:0<m)
  (h:∀ w g cap cur,w.heap[g]?=some (.cells cur ty (0,0))->n<=cap->cap<=maxLen->cur.size=cap*1->cur.toList.take cells.length=cells->Calls P f #[.slice (some ⟨g,0,none⟩) n cap] w λe w'=>∃ z c',e=.returned (.tuple #[.slice (some ⟨g,z,none⟩) m c',u])/\Ba g w w'/\(∃ fU,w'.heap[g]?=some (.cells fU ty (0,0))/\fU.size=cap*1)/\cO w' (.slice (some ⟨g,z,none⟩) m c') m xs) :
  cD P B o [.func (.func f) #[] #[],.slice (some ⟨k,0,some 7⟩) n 0] [(k,some (.row cells ty 1)),(j,none)] (.tuple #[.slice (some ⟨j,0,some 7⟩) m 0,u]) [(j,.view xs),(k,.dead)]:=by
 refine jM (fi:=[]) (ca:=[]) ho eQ λι c w hm iD args' aY=>?_;rw[jw,jn]at aY;obtain⟨v,rfl,hv⟩:=ml aY;have hk:c k=some (.row cells ty 1):=iD (k,_) s_;have hj:c j=none:=iD (j,none) s_;rcases hv.iw rfl with ⟨_,h0,_⟩|⟨g,oo,cap,c',hb,lJ,mO,he⟩
 ·omega
 ·dsimp only at hb he;have kz:c'=cap:=by omega
  subst kz;obtain⟨l,q1,q2⟩:=hm.born k _ hk;rw[hb]at q1;injection q1 with q1;subst q1;rcases q2 with q2|⟨b,aQ,cur,e1,mo,dD,gj,jk⟩
  ·cases q2.1
  ·injection e1 with e1 e2 e3;subst e1;subst e2;subst e3;rw[he];refine(h w g c' cur mo lJ dD gj (nJ jk cQ)).mono ?_
   rintro e w' ⟨z,c2,rfl,qg,⟨fU,p1,p2⟩,ju⟩
   have m1:=hm.write (y:=.row [] ty 1) hk rfl hb qg.os qg.tape qg.output qg.size (λj hj E1=>qg.block j hj E1) (.inr ⟨g,c',fU,rfl,p1,dD,p2,.nil⟩) n_ rfl;have m2:=m1.kill k (by unfold aZ;rw[ax rfl];exact n_);have bO:j≠k:=λe=>by rw[e,hk]at hj;cases hj
   have hj2:aZ (aZ c k (.row [] ty 1)) k .dead j=none:=by unfold aZ;rw[au bO,au bO];exact hj
   obtain⟨aw,q1,q2,q3⟩:=yP m2 hj2 ju Bb (λb o c3 e j' y o' aQ iH hy uB=>by
    injection e with e _ _;injection e with e;injection e with e _ _;subst e;unfold aZ at iH;by_cases P5:j'=k
    ·rw[ax P5]at iH;injection iH with iH;subst iH;cases hy
    ·rw[au P5,au P5]at iH;exact P5 (hm.inj j' k y _ _ _ _ _ _ iH hy hk rfl uB hb))
   refine⟨aw,_,rfl,q1,.tup (.cons q3 (.cons (.same hu) .nil)),?_⟩;refine q2.ext λi=>?_;show aZ (aZ c k .dead) j (.view xs) i=_;unfold aZ;by_cases h1:i=j
   ·rw[ax h1,ax h1]
   ·rw[au h1,au h1];by_cases h2:i=k
    ·rw[ax h2,ax h2]
    ·rw[au h2,au h2,au h2]
theorem aDv(x:Int)(k:Nat)(hk:k<=62):IntKind.i64.wrap (((BitVec.ofInt IntKind.i64.bits x)&&& (BitVec.ofInt IntKind.i64.bits (((2^k-1:Nat)):Int))).toNat:Int)=x%((2^k:Nat):Int):=by
 show IntKind.i64.wrap (((BitVec.ofInt 64 x)&&& (BitVec.ofInt 64 (((2^k-1:Nat)):Int))).toNat:Int)=_;have h2:2^k<=2^62:=c9 d_ hk;have h62:(2:Nat)^62=4611686018427387904:=by decide
 have hp:0<2^k:=cK d_;have e1:(BitVec.ofInt 64 (((2^k-1:Nat)):Int)).toNat=2^k-1:=by rw[BitVec.toNat_ofInt];omega
 have e2:((BitVec.ofInt 64 x).toNat:Int)=x%18446744073709551616:=by rw[BitVec.toNat_ofInt];omega
 rw[BitVec.toNat_and,e1,Nat.and_two_pow_sub_one_eq_mod,db];have hd:((2^k:Nat):Int) ∣ 18446744073709551616:=by refine⟨((2^(64-k):Nat):Int),?_⟩;rw[<-om,<-eD,show k+(64-k)=64 by omega];rfl
 have e3:(((BitVec.ofInt 64 x).toNat%2^k:Nat):Int)=x%((2^k:Nat):Int):=by rw[VL,e2,Int.emod_emod_of_dvd _ hd]
 have h3:(BitVec.ofInt 64 x).toNat%2^k<2^k:=cL _ hp;rw[<-e3];omega
end
section
variable{Bs:aa}{n a d:Nat}
def aW6(n a d i:Nat):aR:=[(8,dq i),(6,sl 1 n),(7,vI (a/bz^i%d)),(0,sl 0 n),(1,vI d)]
def aWe(n a d i:Nat):aH:=[(0,.view (ai (ae bz n a))),(1,.row (ai (gG bz n i (a/d))) 3 1)]
theorem aWP{j:Nat}(hj:j<n)(hd:0<d)(mY:d<bz)(h63:n<35184372088832):
  ag prog Bs 38 (aF (af f219 0)) (aW6 n a d (j+1)) (aWe n a d (j+1)) 2 ⟨.normal,aW6 n a d j,aWe n a d j,2⟩:=by
 have bM:e6 prog 3 (ai (gG bz n (j+1) (a/d))) j (vI (a/d/bz^j%bz))=some (ai (gG bz n j (a/d))):=by rw[wx (by rw[Nl];exact hj),Np hj rfl]
 have k7:dw prog 3 (ai (ae bz n a)) j=some (vI (a/bz^j%bz)):=dQ (eB hj);have hr:a/bz^(j+1)%d<d:=cL _ hd;have hx:=hZ (B:=bz) d_ a j;obtain⟨q1,q2⟩:=Zx (B:=bz) d_ hd (je mY) a j;have jW:bz=16777216:=rfl;unfold aW6 aWe;generalize ai (gG bz n (j+1) (a/d))=r0 at *;generalize ai (gG bz n j (a/d))=r1 at *;generalize ai (ae bz n a)=ra at *;generalize a/d/bz^j%bz=z at *;generalize a/bz^(j+1)%d=r at *;generalize a/bz^j%d=r' at *;generalize a/bz^j%bz=x at *;have nQ:r<16777216:=by omega
 have hp:r*bz<281474976710656:=by rw[jW];omega
 generalize hpe:r*bz=p at *;have C9:(d:Int)≠0:=by omega
 have w1:IntKind.i64.wrap (Int.tdiv ((p+x:Nat):Int) (d:Int))=(z:Int):=by have hq:(p+x)/d<=p+x:=tD _ _;rw[y9 o_,<-tC,q1,db];omega
 have w2:Int.tmod ((p+x:Nat):Int) (d:Int)=(r':Int):=by rw[zf o_,<-VL,q2]
 exact aC [.rw 15 (dq (j+1)) (vI j) (dY j),.ge 16 j 0 true s_,.sV 20 r bz p hpe.symm o_,.rw 22 (dq (j+1)) (vI j) (dY j),.ix f219 23 0 n j hj k_,.ld f219 24 3 0 j (.view ra) (vI x) rfl k7 k_,.sum 25 p x (p+x) rfl o_,.rw 27 (dq (j+1)) (vI j) (dY j),.qh f219 30 .i64 ((p+x:Nat):Int) (d:Int) (z:Int) C9 w1 k_,.ix f219 31 1 n j hj k_,.st f219 100031 3 1 j (.row r0 3 1) (vI z) (.row r1 3 1) rfl bM rfl k_,.xh f219 34 .i64 ((p+x:Nat):Int) (d:Int) (r':Int) C9 w2 k_,.rw 17 (dq (j+1)) (vI j) (dY j),.wr 18 .i64 ((j:Int)-1) ((j:Int)-1) (oU o_)]
theorem aWV(hd:0<d)(mY:d<bz)(h63:n<35184372088832):
  ag prog Bs 38 (.block 0 (af f219 0)) (aW6 n a d n) (aWe n a d n) 2 ⟨.normal,aW6 n a d 0,aWe n a d 0,2⟩:=by
 have:=cd (P:=prog) (B:=Bs) (N:=38) (b:=aF (af f219 0)) (next:=2) (r:=⟨.exit 0,aW6 n a d 0,aWe n a d 0,2⟩) n (λi=>aW6 n a d (n-i)) (λi=>aWe n a d (n-i))
  (λi k _=>j0 (l:=aWe n a d (n-i)) (m:=aWe n a d (n-0)) rfl k)
  (λi hi=>by
   have e:n-i=(n-(i+1))+1:=by omega
   simp only[e];exact aWP o_ hd mY h63)
  (by
   have e:n-n=0:=by omega
   simp only[e];exact aC [.rw 16 (.bool (decide (((0:Nat):Int)-1>=0))) (.bool false) rfl]) n_
 exact bT this
end
theorem aDw{a d:Nat}(hd:0<d)(mY:d<bz)(h1:nd bz a<35184372088832):zW prog 219 [jE a,.p (vI d)] 3 1 (nd bz (a/d)) (cN (a/d)) (vI (a%d)):=by
 have ha:=dU (B:=bz) d_ a;have az:([jE a,aT.p (vI d)].all aT.ok)=true:=by simp[IB];rfl
 unfold jE cN at az ⊢;change zW _ _ _ _ _ _ (cN (a/d)) _;generalize nd bz a=n at *;have hs:a/d<bz^n:=e8 (tD _ _) ha;have e0:a/bz^n%d=0:=by rw[mA ha];exact Nat.zero_mod _
 have e1:a/bz^0%d=a%d:=by rw[r7,E4]
 have lo:=λBs=>aWV (Bs:=Bs) (n:=n) (a:=a) hd mY h1;have ez:List.replicate n (vI 0)=ai (gG bz n n (a/d)):=by rw[Nn,Ln]
 unfold aW6 aWe at lo;rw[e0,e1,<-ez,JY]at lo;generalize a%d=r at *;exact aOG (k:=1) mixed func219 az 100 (N:=38) k_ (λw=>[.qd f219 11 1 n 3 8 (vI 0) (List.replicate n (vI 0)) rfl rfl rfl o_ (by simp[maxLen];omega) k_,.wr 14 .i64 ((n:Int)-1) ((n:Int)-1) (oU o_),.code 0 _ _ _ _ _ (lo _),.DM f219 36 1 n (a/d) (.row (ai (ae bz n (a/d))) 3 1) rfl rfl hs o_ k_])
   (λw=>k_) (gJ _) (Gb hs) (B5 hs) rfl
section
variable{B:Nat}
def sX(B U V q i:Nat):Int:=((U%B^i:Nat):Int)-(q:Int)*((V%B^i:Nat):Int)
def rF(B U V q i:Nat):Int:=sX B U V q i/((B^i:Nat):Int)
theorem aOI(U V q:Nat):rF B U V q 0=0:=by simp[rF,sX,tB]
theorem aOJ(U V q i:Nat):sX B U V q (i+1)=sX B U V q i+(((U/B^i%B:Nat):Int)-(q:Int)*((V/B^i%B:Nat):Int))*((B^i:Nat):Int):=by unfold sX;rw[pz U i,pz V i];simp only[vJ,om,Int.sub_mul,Int.mul_add,Int.mul_assoc];omega
theorem VM(hB:0<B)(U V q i:Nat):rF B U V q i+(((U/B^i%B:Nat):Int)-(q:Int)*((V/B^i%B:Nat):Int))=sX B U V q (i+1)/((B^i:Nat):Int):=by
 have hp:((B^i:Nat):Int)≠0:=by have:=cK (n:=i) hB;omega
 rw[aOJ,aAL _ _ hp];rfl
theorem aOK(hB:0<B)(U V q i:Nat):(rF B U V q i+(((U/B^i%B:Nat):Int)-(q:Int)*((V/B^i%B:Nat):Int)))/(B:Int)=rF B U V q (i+1):=by
 have hp:(0:Int)<=((B^i:Nat):Int):=by omega
 rw[VM hB,Int.ediv_ediv_of_nonneg hp];unfold rF
 congr 1
theorem aOL(hB:0<B)(U V q i:Nat):(sX B U V q i)%((B^i:Nat):Int)=((U:Int)-(q:Int)*(V:Int))%((B^i:Nat):Int):=by
 unfold sX;have e1:(U:Int)=((U%B^i:Nat):Int)+((B^i:Nat):Int)*((U/B^i:Nat):Int):=by rw[<-om,<-vJ,Nat.mod_add_div]
 have e2:(V:Int)=((V%B^i:Nat):Int)+((B^i:Nat):Int)*((V/B^i:Nat):Int):=by rw[<-om,<-vJ,Nat.mod_add_div]
 have e3:(U:Int)-(q:Int)*(V:Int)=(((U%B^i:Nat):Int)-(q:Int)*((V%B^i:Nat):Int))+((B^i:Nat):Int)*(((U/B^i:Nat):Int)-(q:Int)*((V/B^i:Nat):Int)):=by
  conv=>lhs;rw[e1,e2]
  rw[Int.mul_add,Int.mul_sub,Int.mul_left_comm (q:Int) ((B^i:Nat):Int)];omega
 rw[e3,aOM]
theorem aON(hB:0<B){m U V q:Nat}(hq:q*V<=U+B^(m+1)):((fZ B m U V q:Nat):Int)=((U:Int)-(q:Int)*(V:Int))%((B^(m+1):Nat):Int):=by
 unfold fZ;rw[VL,Int.natCast_sub hq,vJ,om];have:(U:Int)+((B^(m+1):Nat):Int)-(q:Int)*(V:Int)=((U:Int)-(q:Int)*(V:Int))+((B^(m+1):Nat):Int):=by omega
 rw[this,Int.add_emod_right]
theorem aOO(hB:0<B){m U V q i:Nat}(hq:q*V<=U+B^(m+1))(hi:i<=m):
  (rF B U V q i+(((U/B^i%B:Nat):Int)-(q:Int)*((V/B^i%B:Nat):Int)))%(B:Int)=((fZ B m U V q/B^i%B:Nat):Int):=by
 rw[VM hB];have hp:(0:Int)<=((B^i:Nat):Int):=by omega
 have fQ:0<((B^i:Nat):Int):=by have:=cK (n:=i) hB;omega
 -- both are the same digit of the number aVW B^(i+1)
 have key:∀ x y:Int,x%((B^(i+1):Nat):Int)=y%((B^(i+1):Nat):Int)->x/((B^i:Nat):Int)%(B:Int)=y/((B^i:Nat):Int)%(B:Int):=by
  intro x y h;have one:∀ z:Int,z/((B^i:Nat):Int)%(B:Int)=z%((B^(i+1):Nat):Int)/((B^i:Nat):Int):=by
   intro z;have e:=Int.emod_add_mul_ediv z ((B^(i+1):Nat):Int);have hs:((B^(i+1):Nat):Int)=((B^i:Nat):Int)*(B:Int):=by rw[dy,om]
   have e2:z/((B^i:Nat):Int)=z%((B^(i+1):Nat):Int)/((B^i:Nat):Int)+(B:Int)*(z/((B^(i+1):Nat):Int)):=by
    have h3:z=z%((B^(i+1):Nat):Int)+((B^i:Nat):Int)*((B:Int)*(z/((B^(i+1):Nat):Int))):=by rw[<-Int.mul_assoc,<-hs];exact e.symm
    conv=>lhs;rw[h3]
    rw[Int.add_mul_ediv_left _ _ o_]
   rw[e2,aOM];refine Int.emod_eq_of_lt (Int.ediv_nonneg (Int.emod_nonneg _ (by have:=cK (n:=i+1) hB;omega)) hp) ?_;have h4:z%((B^(i+1):Nat):Int)<((B^(i+1):Nat):Int):=Int.emod_lt_of_pos _ (by have:=cK (n:=i+1) hB;omega);rw[hs]at h4;exact Int.ediv_lt_of_lt_mul fQ (by rw[TF];exact h4)
  rw[one,one,h]
 have h1:=key (sX B U V q (i+1)) ((fZ B m U V q:Nat):Int) (by
  rw[aOL hB,aON hB hq];have hd:((B^(i+1):Nat):Int) ∣ ((B^(m+1):Nat):Int):=by refine⟨((B^(m-i):Nat):Int),?_⟩;rw[<-om,<-eD];congr 2;omega
  rw[Int.emod_emod_of_dvd _ hd])
 rw[h1];simp only[VL,tC]
theorem aOP(hB:0<B){m U V q:Nat}(hV:V<B^m)(hU:U<V*B)(hb:q*V<U+V):
  rF B U V q m+((U/B^m%B:Nat):Int)=if U<q*V then -1 else((fZ B m U V q/B^m%B:Nat):Int):=by
 have C6:U<B^(m+1):=by rw[dy];exact cC hU (fo _ (je hV))
 have Td:V<=B^(m+1):=dh (je hV) (c9 hB o_);have hp:0<B^m:=cK hB;have h0:V/B^m%B=0:=qQ hV (bt _) hB;have h1:=VM hB U V q m;rw[h0,Int.natCast_zero,Int.mul_zero,Int.sub_zero]at h1;rw[h1];unfold sX;rw[dK C6,dK (cC hV (c9 hB o_))];by_cases h:U<q*V
 ·rw[ax h];have e:(U:Int)-(q:Int)*(V:Int)=((U+B^m-q*V:Nat):Int)+((B^m:Nat):Int)*(-1):=by have:((q*V:Nat):Int)=(q:Int)*(V:Int):=om ..;omega
  rw[e,Int.add_mul_ediv_left _ _ o_,<-tC,mA o_];rfl
 ·rw[au h];have e:(U:Int)-(q:Int)*(V:Int)=((U-q*V:Nat):Int):=by have:((q*V:Nat):Int)=(q:Int)*(V:Int):=om ..;omega
  have e2:fZ B m U V q=U-q*V:=by
   unfold fZ;have:U+B^(m+1)-q*V=(U-q*V)+B^(m+1):=by omega
   rw[this,Kg,dK o_]
  have ak:(U-q*V)/B^m<B:=by rw[iK hp,cS B,<-dy];show U-q*V<B^(m+1);omega
  rw[e,e2,dK ak,<-tC]
theorem aOQ(hB:0<B){m U V q:Nat}(hV:V<B^m)(hU:U<V*B)(hb:q*V<U+V)(h:U<q*V):eR B (fZ B m U V q) V m=1:=by
 have Td:V<=B^m:=je hV;have hp:0<B^m:=cK hB;have hs:B^(m+1)=B^m*B:=dy ..;have C6:U<B^(m+1):=by rw[hs];exact cC hU (fo _ Td)
 have hBm:B^m<=B^(m+1):=c9 hB o_;obtain⟨t,ht⟩:∃ t,t=q*V-U:=⟨_,rfl⟩;have e1:fZ B m U V q=B^(m+1)-t:=by unfold fZ;rw[dK o_];omega
 have e2:(B^(m+1)-t)%B^m=B^m-t:=by
  obtain⟨c,hc⟩:∃ c,B=c+1:=⟨B-1,by omega⟩;have:B^(m+1)-t=(B^m-t)+B^m*c:=by
   have e3:B^m*B=B^m*c+B^m:=by rw[<-Nj,Nat.succ_eq_add_one,<-hc]
   rw[hs,e3];omega
  rw[this,EY,dK o_]
 unfold eR;rw[e1,e2,dK hV];have:B^m-t+V=(V-t)+1*B^m:=by omega
 rw[this,pA _ _ hp,mA o_]
end
theorem aDx{B:Nat}(hB:0<B)(U V q i:Nat):-(q:Int)<=rF B U V q i/\rF B U V q i<=0:=by
 unfold rF sX;have hp:0<B^i:=cK hB;have h1:U%B^i<B^i:=cL _ hp;have h2:V%B^i<B^i:=cL _ hp;have h3:=jz q (je h2);generalize U%B^i=u at *;generalize V%B^i=v at *;have e1:(q:Int)*(v:Int)=((q*v:Nat):Int):=by simp
 rw[e1];generalize q*v=s at *;generalize B^i=b at *;constructor
 ·rw[Int.le_ediv_iff_mul_le o_];have:-(q:Int)*(b:Int)=-((q*b:Nat):Int):=by simp[HA]
  rw[this];omega
 ·have:((u:Int)-(s:Int))/(b:Int)<1:=Int.ediv_lt_of_lt_mul o_ o_;omega
section
variable{Bs:aa}{e L j T v1 v2 u2:Nat}{ru rv:aj}
def xY(e L j T q:Nat):aR:=[(15,vI q),(9,sl 3 (e+2)),(10,vI (e+2)),(14,vI T),(11,sl 8 L),(13,dq (j+1))]
def xZ(ru rv:aj):aH:=[(8,.row ru 3 1),(3,.row rv 3 1)]
structure GU(e L j T v1 v2 u2:Nat)(ru rv:aj):Prop where
 hL:j+(e+2)+1<=L
 l1:dw prog 3 rv (e+1)=some (vI v1)
 l0:dw prog 3 rv e=some (vI v2)
 lu:dw prog 3 ru (j+e)=some (vI u2)
 b1:v1<bz
 b0:v2<bz
 bu:u2<bz
 h63:L<35184372088832
noncomputable def VN(g:GU e L j T v1 v2 u2 ru rv)(q r:Nat)(hq:q<bz)(hr:q*v1+r=T)(nQ:r<2*bz)(t:Bool)(ht:decide (r*bz+u2<q*v2)=t)(more:bI prog Bs 238):bI prog Bs 238:=
 .e7 102 (e+2) 2 e o_ (by have:=g.hL;have:=g.h63;omega)::.ix f200 103 3 (e+2) e o_ k_::.ld f200 104 3 3 e (.row rv 3 1) (vI v2) rfl g.l0 k_::
 .sV 105 q v2 (q*v2) rfl (by
  have:=qe hq g.b0;have jW:bz*bz=281474976710656:=by decide
  omega)::.e7 110 (e+2) 1 (e+1) o_ (by have:=g.hL;have:=g.h63;omega)::.ix f200 111 3 (e+2) (e+1) o_ k_::.ld f200 112 3 3 (e+1) (.row rv 3 1) (vI v1) rfl g.l1 k_::
 .sV 113 q v1 (q*v1) rfl (by
  have:=qe hq g.b1;have jW:bz*bz=281474976710656:=by decide
  omega)::.e7 114 T (q*v1) r o_ (by
  have:=qe hq g.b1;have jW:bz*bz=281474976710656:=by decide
  have jW:bz=16777216:=rfl;omega)::.sV 115 r bz (r*bz) rfl (by
  have jW:bz=16777216:=rfl;rw[jW];omega)::.rw 117 (dq (j+1)) (vI j) (dY j)::.sum 119 j (e+2) (j+(e+2)) rfl (by have:=g.hL;have:=g.h63;omega)::.e7 120 (j+(e+2)) 2 (j+e) o_ (by have:=g.hL;have:=g.h63;omega)::
 .ix f200 121 8 L (j+e) (by have:=g.hL;omega) k_::.ld f200 122 3 8 (j+e) (.row ru 3 1) (vI u2) rfl g.lu k_::.sum 123 (r*bz) u2 (r*bz+u2) rfl (by have:=g.bu;have jW:bz=16777216:=rfl;rw[jW];omega)::.gt 124 (q*v2) (r*bz+u2) t ht::more
noncomputable def aDy(g:GU e L j T v1 v2 u2 ru rv)(q r:Nat)(hq:q<bz)(hr:q*v1+r=T)(nQ:r<2*bz)(t:Bool)(ht:decide (r<bz)=t)(more:bI prog Bs 238):bI prog Bs 238:=
 .e7 130 (e+2) 1 (e+1) o_ (by have:=g.hL;have:=g.h63;omega)::.ix f200 131 3 (e+2) (e+1) o_ k_::.ld f200 132 3 3 (e+1) (.row rv 3 1) (vI v1) rfl g.l1 k_::
 .sV 133 q v1 (q*v1) rfl (by
  have:=qe hq g.b1;have jW:bz*bz=281474976710656:=by decide
  omega)::.e7 134 T (q*v1) r o_ (by
  have:=qe hq g.b1;have jW:bz*bz=281474976710656:=by decide
  have jW:bz=16777216:=rfl;omega)::.lt 135 r bz t ht::more
theorem aOR(g:GU e L j T v1 v2 u2 ru rv){q r:Nat}(hq:q+1<bz)(hr:(q+1)*v1+r=T)(nQ:r<bz)(ht:r*bz+u2<(q+1)*v2):
  ag prog Bs 238 (aF (af f200 2)) (xY e L j T (q+1)) (xZ ru rv) 10 ⟨.normal,xY e L j T q,xZ ru rv,10⟩:=
 fq mixed 200 (VN g (q+1) r hq hr o_ true (aB ht) (aDy g (q+1) r hq hr o_ true (aB nQ) [.e7 138 (q+1) 1 q rfl (by have jW:bz=16777216:=rfl;omega)])) k_
theorem aOS(g:GU e L j T v1 v2 u2 ru rv){q r:Nat}(hq:q<bz)(hr:q*v1+r=T)(nQ:r<2*bz)(ht:¬r*bz+u2<q*v2):
  ag prog Bs 238 (aF (af f200 2)) (xY e L j T q) (xZ ru rv) 10 ⟨.exit 2,xY e L j T q,xZ ru rv,10⟩:=
 fq mixed 200 (VN g q r hq hr nQ false (aJ ht) []) k_
theorem aOT(g:GU e L j T v1 v2 u2 ru rv){q r:Nat}(hq:q<bz)(hr:q*v1+r=T)(nQ:r<2*bz)(ht:r*bz+u2<q*v2)(hr3:¬r<bz):
  ag prog Bs 238 (aF (af f200 2)) (xY e L j T q) (xZ ru rv) 10 ⟨.exit 2,xY e L j T q,xZ ru rv,10⟩:=
 fq mixed 200 (VN g q r hq hr nQ true (aB ht) (aDy g q r hq hr nQ false (aJ hr3) [])) k_
theorem aOU(g:GU e L j T v1 v2 u2 ru rv){U V q0:Nat}(h:mD bz e U V T u2 v1 v2)(mZ:q0=min (T/v1) (bz-1)):
  ∃ q,q<bz/\q*V<U+V/\U/V<=q/\∀ Bs,ag prog Bs 238 (.block 2 (af f200 2)) (xY e L j T q0) (xZ ru rv) 10 ⟨.normal,xY e L j T q,xZ ru rv,10⟩:=by
 have jW:bz=16777216:=rfl;have kO:0<v1:=by have:=h.top;omega
 have qz:=h.small;have bM:=h.start;have aVX:q0<bz:=by rw[mZ];exact e8 (Nat.min_le_right _ _) o_
 have aVY:q0*v1<=T:=by
  have h1:q0<=T/v1:=by rw[mZ];exact Nat.min_le_left _ _
  exact dh (fo _ h1) (C5 _ _)
 obtain⟨r0,nh⟩:∃ r0,r0=T-q0*v1:=⟨_,rfl⟩;have g0:Bm U V T v1 q0 r0:=⟨by omega,by rw[mZ];exact Nat.le_min.2 ⟨bM.le,by omega⟩⟩
 have aOV:r0<2*bz:=by
  have hTb:T<v1*bz+bz:=by
   have h1:U<V*bz:=h.hU;rw[h.hT,iK (cK d_)];have h2:V<(v1+1)*bz^(e+1):=by rw[h.kO];exact(iK (cK d_)).1 (Bo _)
   have h3:=Bn h2 (show 0<bz by decide);have h4:(v1+1)*bz^(e+1)*bz=(v1*bz+bz)*bz^(e+1):=by rw[Bq,fE v1 1 bz,qf]
   omega
  by_cases hc:T/v1<=bz-1
  ·have e1:q0=T/v1:=by rw[mZ];exact oq hc
   have e2:r0=T%v1:=by have:=jm T v1;rw[nh,e1,cS];omega
   have:=cL T kO;have:=h.C3;omega
  ·have e1:q0=bz-1:=by rw[mZ];exact VO o_
   obtain⟨k,hk⟩:∃ k,bz=k+1:=⟨bz-1,by omega⟩;have e2:q0*v1+v1=v1*bz:=by rw[e1,hk,NK,cS v1,fE,qf]
   have:=h.C3;omega
 obtain⟨c,c1,c2,c3⟩:=yT (λi=>¬((r0+i*v1)*bz+u2<(q0-i)*v2/\r0+i*v1<bz)) q0 (by rw[vG,lN];omega)
 have inv:∀ i,i<=c->Bm U V T v1 (q0-i) (r0+i*v1)/\r0+i*v1<2*bz/\i<=q0:=by
  intro i;induction i with
  |zero=>intro _;rw[GY,lN,jv];exact⟨g0,aOV,lh _⟩
  |succ i ih=>
   intro hi;obtain⟨i1,i2,i3⟩:=ih o_;obtain⟨k1,k2⟩:=E3.1 (c3 i o_);obtain⟨l1,l2⟩:=h.less i1 (.inr k1);have e1:r0+(i+1)*v1=r0+i*v1+v1:=by rw[fE,qf];omega
   have e2:q0-(i+1)=q0-i-1:=by omega
   have:=h.C3;rw[e1,e2];exact⟨l2,by omega,by omega⟩
 obtain⟨gc,gb,gq⟩:=inv c (bt _);have DZ:=h.fin gc (by
  by_cases k1:(r0+c*v1)*bz+u2<(q0-c)*v2
  ·exact .inr (OS λk2=>c2 ⟨k1,k2⟩)
  ·exact .inl ⟨by omega,by omega⟩)
 refine⟨q0-c,DZ.1,DZ.2,gc.le,λBs=>?_⟩
 have:=cd (P:=prog) (B:=Bs) (N:=238) (b:=aF (af f200 2)) (next:=10) (r:=⟨.exit 2,xY e L j T (q0-c),xZ ru rv,10⟩) c (λi=>xY e L j T (q0-i)) (λ_=>xZ ru rv) (λ_ _ _=>Iff.rfl)
  (λi hi=>by
   obtain⟨i1,i2,i3⟩:=inv i o_;obtain⟨j1,j2,j3⟩:=inv (i+1) o_;obtain⟨k1,k2⟩:=E3.1 (c3 i hi);obtain⟨q,hq⟩:∃ q,q0-i=q+1:=⟨q0-i-1,by omega⟩;have o9:q0-(i+1)=q:=by omega
   simp only[hq,o9]at i1 k1 ⊢;exact aOR g o_ i1.eq k2 k1)
  (by
   by_cases k1:(r0+c*v1)*bz+u2<(q0-c)*v2
   ·exact aOT g o_ gc.eq gb k1 (λk2=>c2 ⟨k1,k2⟩)
   ·exact aOS g o_ gc.eq gb k1) n_
 exact bT (id:=2) this
end
theorem aDz(x:Int):IntKind.i64.wrap (((BitVec.ofInt IntKind.i64.bits x)&&& (BitVec.ofInt IntKind.i64.bits 16777215)).toNat:Int)=x%16777216:=aDv x 24 d_
theorem aDA(x:Int):x.fdiv ((2:Int)^24)=x/16777216:=r6 _ d_
section
variable{Bs:aa}{e L j U V q R D:Nat}{rv:aj}
def D0(e L j U V q i:Nat):aR:=[(16,.int .i64 (rF bz U V q i)),(17,vI i),(10,vI (e+2)),(11,sl 8 L),(13,dq (j+1)),(15,vI q),(9,sl 3 (e+2))]
def pM(L j R D i:Nat):aj:=ai (c8 bz L (j+i) (gp bz j R D) R)
def Ae(L j R D i:Nat)(rv:aj):aH:=[(8,.row (pM L j R D i) 3 1),(3,.row rv 3 1)]
structure SU(e L j U V q R D:Nat)(rv:aj):Prop where
 hL:j+(e+2)+1<=L
 hU:U=R/bz^j
 x6:rv=ai (ae bz (e+2) V)
 hq:q<bz
 hD:D=fZ bz (e+2) U V q
 Ly:q*V<=U+bz^(e+2+1)
 h63:L<35184372088832
theorem aOW(g:SU e L j U V q R D rv){i:Nat}(hi:i<e+2):
  ag prog Bs 238 (aF (af f200 4)) (D0 e L j U V q i) (Ae L j R D i rv) 10 ⟨.normal,D0 e L j U V q (i+1),Ae L j R D (i+1) rv,10⟩:=by
 have h63:=g.h63;have hL:=g.hL;have hq:=g.hq;have hc:=aDx (B:=bz) d_ U V q i;have hs:=aOO (B:=bz) d_ (i:=i) g.Ly o_;rw[<-g.hD]at hs;have dp:=aOK (B:=bz) d_ U V q i;have VP:dw prog 3 (pM L j R D i) (j+i)=some (vI (U/bz^i%bz)):=by have:=dQ (CG (B:=bz) (n:=L) (i:=j+i) (s:=gp bz j R D) (p:=R) (j:=j+i) o_ (bt _));rw[Hq,<-g.hU]at this;exact this
 have VQ:dw prog 3 rv i=some (vI (V/bz^i%bz)):=by rw[g.x6];exact dQ (eB hi)
 have bM:e6 prog 3 (pM L j R D i) (j+i) (vI (D/bz^i%bz))=some (pM L j R D (i+1)):=by unfold pM;rw[wx (by rw[xc];omega),yU o_ (xo d_ j R D i).symm];rfl
 have hu:=hZ (B:=bz) d_ U i;have hv:=hZ (B:=bz) d_ V i;have jW:bz=16777216:=rfl;have aOX:((bz:Nat):Int)=16777216:=rfl;rw[aOX]at hs dp;unfold D0 Ae;generalize pM L j R D (i+1)=r1 at *;generalize pM L j R D i=r0 at *;generalize rF bz U V q (i+1)=c' at *;generalize rF bz U V q i=c at *;generalize D/bz^i%bz=z at *;generalize U/bz^i%bz=u at *;generalize V/bz^i%bz=v at *;have hp:=qe hq hv;rw[show bz*bz=281474976710656 by decide]at hp;have e1:(q:Int)*(v:Int)=((q*v:Nat):Int):=by simp
 rw[e1]at hs dp;generalize VR:q*v=p at *;have w1:IntKind.i64.wrap ((u:Int)-(p:Int))=(u:Int)-(p:Int):=by rw[db];omega
 have w2:IntKind.i64.wrap (c+((u:Int)-(p:Int)))=c+((u:Int)-(p:Int)):=by rw[db];omega
 generalize hx:c+((u:Int)-(p:Int))=x at *;have w3:=aDz x;rw[hs]at w3;have w4:=aDA x;rw[dp]at w4;exact fq mixed 200 [.lt 141 i (e+2) true (by simp[hi]),.rw 146 (dq (j+1)) (vI j) (dY j),.sum 148 j i (j+i) rfl o_,.ix f200 149 8 L (j+i) o_ k_,.ld f200 150 3 8 (j+i) (.row r0 3 1) (vI u) rfl VP k_,.ix f200 154 3 (e+2) i hi k_,.ld f200 155 3 3 i (.row rv 3 1) (vI v) rfl VQ k_,.sV 156 q v p VR.symm o_,.wr 157 .i64 _ _ w1,.wr 158 .i64 (c+((u:Int)-(p:Int))) x (by rw[hx];exact w2),.rw 160 (dq (j+1)) (vI j) (dY j),.sum 162 j i (j+i) rfl o_,.wr 164 .i64 _ (z:Int) w3,.ix f200 165 8 L (j+i) o_ k_,.st f200 100165 3 8 (j+i) (.row r0 3 1) (vI z) (.row r1 3 1) rfl bM rfl k_,.quo 167 .i64 _ c' w4,.sum 143 i 1 (i+1) rfl o_] k_
theorem aOY(g:SU e L j U V q R D rv):ag prog Bs 238 (.block 4 (af f200 4)) (D0 e L j U V q 0) (Ae L j R D 0 rv) 10 ⟨.normal,D0 e L j U V q (e+2),Ae L j R D (e+2) rv,10⟩:=
 bT (id:=4) (cd (b:=aF (af f200 4)) (r:=⟨.exit 4,D0 e L j U V q (e+2),Ae L j R D (e+2) rv,10⟩) (e+2) (D0 e L j U V q) (λi=>Ae L j R D i rv) (λk t _=>j0 (l:=Ae L j R D k rv) (m:=Ae L j R D 0 rv) rfl t) (λk hk=>aOW g hk)
  (fq mixed 200 [.lt 141 (e+2) (e+2) false s_] k_) n_)
def D1(e L j V D q i:Nat):aR:=[(16,vI (eR bz D V i)),(18,vI i),(10,vI (e+2)),(11,sl 8 L),(13,dq (j+1)),(15,vI q),(9,sl 3 (e+2))]
def qA(L j R D E m i:Nat):aj:=(ai (c8 bz L (j+i) (gp bz j R E) (gp bz j R D))).set (j+m) (.int .i64 (-1))
def Af(L j R D E m i:Nat)(rv:aj):aH:=[(8,.row (qA L j R D E m i) 3 1),(3,.row rv 3 1)]
theorem aOZ{E:Nat}(hL:j+(e+2)+1<=L)(x6:rv=ai (ae bz (e+2) V))(hE:E=(D+V)%bz^(e+2+1))(h63:L<35184372088832){i:Nat}(hi:i<e+2):
  ag prog Bs 238 (aF (af f200 6)) (D1 e L j V D q i) (Af L j R D E (e+2) i rv) 10 ⟨.normal,D1 e L j V D q (i+1),Af L j R D E (e+2) (i+1) rv,10⟩:=by
 have hc:=A9 (B:=bz) d_ D V i;have hs:=Te (B:=bz) (V:=V) d_ (D:=D) (show i<=e+2 by omega);rw[<-hE]at hs;have dp:=EW (B:=bz) d_ D V i;have VP:dw prog 3 (qA L j R D E (e+2) i) (j+i)=some (vI (D/bz^i%bz)):=by unfold qA;rw[F2,List.getElem?_set_ne o_,<-F2,dQ (CG o_ (bt _)),xo d_]
 have VQ:dw prog 3 rv i=some (vI (V/bz^i%bz)):=by rw[x6];exact dQ (eB hi)
 have bM:e6 prog 3 (qA L j R D E (e+2) i) (j+i) (vI (E/bz^i%bz))=some (qA L j R D E (e+2) (i+1)):=by unfold qA;unfold vI;rw[PQ _ _ _ (by rw[VT,lC,xc];omega),List.set_comm _ _ o_];have:=PR (c8 bz L (j+i) (gp bz j R E) (gp bz j R D)) (j+i) (E/bz^i%bz);unfold vI at this;rw[this,yU o_ (xo d_ j R E i).symm];rfl
 have hu:=hZ (B:=bz) d_ D i;have hv:=hZ (B:=bz) d_ V i;have jW:bz=16777216:=rfl;unfold D1 Af;generalize qA L j R D E (e+2) (i+1)=r1 at *;generalize qA L j R D E (e+2) i=r0 at *;generalize eR bz D V (i+1)=c' at *;generalize eR bz D V i=c at *;generalize E/bz^i%bz=z at *;generalize D/bz^i%bz=u at *;generalize V/bz^i%bz=v at *;rw[show u+v+c=c+(u+v)by omega]at hs dp;have w3:=aDz ((c+(u+v):Nat):Int);have w4:=aDA ((c+(u+v):Nat):Int);rw[show((c+(u+v):Nat):Int)%16777216=(z:Int)by rw[<-hs];rfl]at w3;rw[show((c+(u+v):Nat):Int)/16777216=(c':Int)by rw[<-dp];rfl]at w4;exact fq mixed 200 [.lt 188 i (e+2) true (by simp[hi]),.rw 193 (dq (j+1)) (vI j) (dY j),.sum 195 j i (j+i) rfl o_,.ix f200 196 8 L (j+i) o_ k_,.ld f200 197 3 8 (j+i) (.row r0 3 1) (vI u) rfl VP k_,.ix f200 200 3 (e+2) i hi k_,.ld f200 201 3 3 i (.row rv 3 1) (vI v) rfl VQ k_,.sum 202 u v (u+v) rfl o_,.sum 203 c (u+v) (c+(u+v)) rfl o_,.rw 205 (dq (j+1)) (vI j) (dY j),.sum 207 j i (j+i) rfl o_,.wr 209 .i64 _ (z:Int) w3,.ix f200 210 8 L (j+i) o_ k_,.st f200 100210 3 8 (j+i) (.row r0 3 1) (vI z) (.row r1 3 1) rfl bM rfl k_,.quo 212 .i64 _ (c':Int) w4,.sum 190 i 1 (i+1) rfl o_] k_
theorem aO0{E:Nat}(hL:j+(e+2)+1<=L)(x6:rv=ai (ae bz (e+2) V))(hE:E=(D+V)%bz^(e+2+1))(h63:L<35184372088832):
  ag prog Bs 238 (.block 6 (af f200 6)) (D1 e L j V D q 0) (Af L j R D E (e+2) 0 rv) 10 ⟨.normal,D1 e L j V D q (e+2),Af L j R D E (e+2) (e+2) rv,10⟩:=
 bT (id:=6) (cd (b:=aF (af f200 6)) (r:=⟨.exit 6,D1 e L j V D q (e+2),Af L j R D E (e+2) (e+2) rv,10⟩) (e+2) (D1 e L j V D q) (λi=>Af L j R D E (e+2) i rv) (λk t _=>j0 (l:=Af L j R D E (e+2) k rv) (m:=Af L j R D E (e+2) 0 rv) rfl t) (λk hk=>aOZ hL x6 hE h63 hk)
  (fq mixed 200 [.lt 188 (e+2) (e+2) false s_] k_) n_)
end
theorem aO1{B L i S R:Nat}(hi:i<L)(hR:R<B^(i+1))(hS:S<B^(i+1))(hB:0<B)(x:Value):(ai (c8 B L i S R)).set i x=(ai (ae B L S)).set i x:=by have h:=yU (B:=B) (n:=L) (i:=i) (s:=S) (p:=R) hi rfl;rw[Fg hB hR hS]at h;rw[<-h,<-PR,List.set_set]
structure Lz(e L A V:Nat):Prop where
 hV:V<bz^(e+2)
 top:bz<=2*(V/bz^(e+1))
 hL:e+3<=L
 hA:A<V*bz^(L-(e+2))
 h63:L<35184372088832
theorem Lz.pos{e L A V:Nat}(h:Lz e L A V):0<V:=by
 rcases oy V with e1|e1
 ·have:=h.hA;rw[e1,lN]at this;omega
 ·exact e1
section
variable{Bs:aa}{e L A V p:Nat}
def D2(e L p j:Nat):aR:=[(13,dq j),(12,sl 9 p),(10,vI (e+2)),(9,sl 3 (e+2)),(11,sl 8 L)]
def Ag(e L A V p j:Nat):aH:=[(8,.row (ai (ae bz L (A%(V*bz^j)))) 3 1),(9,.row (ai (gG bz p j (A/V))) 3 1),(3,.row (ai (ae bz (e+2) V)) 3 1)]
theorem aO2(h:Lz e L A V){j:Nat}(hp:p+(e+2)=L)(hj:j<p):
  ag prog Bs 238 (aF (af f200 0)) (D2 e L p (j+1)) (Ag e L A V p (j+1)) 10 ⟨.normal,D2 e L p j,Ag e L A V p j,10⟩:=by
 have h63:=h.h63;have qR:=h.pos;have hV:=h.hV;have A4:j+(e+2)+1<=L:=by omega
 obtain⟨R,hR⟩:∃ R,R=A%(V*bz^(j+1)):=⟨_,rfl⟩;obtain⟨U,hU⟩:∃ U,U=R/bz^j:=⟨_,rfl⟩;have IF:U<V*bz:=by rw[hU,hR];exact aAr d_ qR A j
 have rP:=aAp (B:=bz) d_ A V j;have aDB:=aAq (B:=bz) A V j;rw[<-hR,<-hU]at rP aDB;have zp:R<bz^(j+(e+2)+1):=by
  have h1:R<V*bz^(j+1):=by rw[hR];exact cL _ (qS qR (cK d_))
  have h2:V*bz^(j+1)<=bz^(e+2)*bz^(j+1):=fo _ (je hV);rw[<-eD,show e+2+(j+1)=j+(e+2)+1 by omega]at h2;omega
 have aO3:U<bz^(e+2+1):=by rw[dy];exact cC IF (fo _ (je hV))
 obtain⟨T,hT⟩:∃ T,T=U/bz^(e+1):=⟨_,rfl⟩;obtain⟨v1,kO⟩:∃ v1,v1=V/bz^(e+1):=⟨_,rfl⟩;have aDC:V/bz^(e+1)%bz=v1:=by rw[kO];exact EV hV
 have aDD:v1<bz:=by rw[<-aDC];exact cL _ d_
 have ds:mD bz e U V T (U/bz^e%bz) v1 (V/bz^e%bz):={ hB:=by decide,hU:=IF,hT:=hT,hu:=rfl,kO:=kO,iJ:=rfl,top:=by rw[kO];exact h.top,C3:=aDD };have lU:∀ i,i<=e+2->dw prog 3 (ai (ae bz L R)) (j+i)=some (vI (U/bz^i%bz)):=λi hi=>by have:=dQ (eB (B:=bz) (n:=L) (a:=R) (i:=j+i) o_);rw[Hq,<-hU]at this;exact this
 obtain⟨rv,x6⟩:∃ rv,rv=ai (ae bz (e+2) V):=⟨_,rfl⟩;have VU:dw prog 3 rv (e+1)=some (vI v1):=by rw[x6,<-aDC];exact dQ (eB o_)
 have lV0:dw prog 3 rv e=some (vI (V/bz^e%bz)):=by rw[x6];exact dQ (eB o_)
 have g:GU e L j T v1 (V/bz^e%bz) (U/bz^e%bz) (ai (ae bz L R)) rv:=⟨A4,VU,lV0,lU e o_,aDD,cL _ d_,cL _ d_,h63⟩;obtain⟨q0,mZ⟩:∃ q0,q0=min (T/v1) (bz-1):=⟨_,rfl⟩;obtain⟨q,Hu,Ly,aO4,gl⟩:=aOU g ds mZ;obtain⟨D,hD⟩:∃ D,D=fZ bz (e+2) U V q:=⟨_,rfl⟩;have aO5:D<bz^(e+2+1):=by rw[hD];exact Tc d_
 have aVZ:V<=bz^(e+2+1):=dh (je hV) (c9 d_ o_);have sg:SU e L j U V q R D rv:=⟨A4,hU,x6,Hu,hD,by omega,h63⟩;have sl:=aOY (Bs:=Bs) sg;have VV:gp bz j R D<bz^(j+(e+2)+1):=by have:=Hp (B:=bz) d_ (j:=j) R aO5;rwa[show j+(e+2+1)=j+(e+2)+1 by omega]at this
 have qm:pM L j R D 0=ai (ae bz L R):=by unfold pM;rw[jv,NL d_]
 have jf:dw prog 3 (pM L j R D (e+2)) (j+(e+2))=some (vI (U/bz^(e+2)%bz)):=by have:=dQ (CG (B:=bz) (n:=L) (i:=j+(e+2)) (s:=gp bz j R D) (p:=R) (j:=j+(e+2)) o_ (bt _));rw[Hq,<-hU]at this;exact this
 have xt:=aOP (B:=bz) d_ hV IF Ly;have hsb:=aDx (B:=bz) d_ U V q (e+2);have LA:U/bz^(e+2)%bz*bz+U/bz^(e+1)%bz=T:=by have h1:=xd (B:=bz) U (e+1);have h2:U/bz^(e+2)%bz=U/bz^(e+2):=EV aO3;rw[h2,hT];exact h1.symm
 have jZ:U/bz^(e+2)%bz<bz:=cL _ d_;have vX:U/bz^(e+1)%bz<bz:=cL _ d_;have jH:=lU (e+2) (bt _);have vm:=lU (e+1) o_;have VW:e6 prog 3 (ai (gG bz p (j+1) (A/V))) j (vI (U/V))=some (ai (gG bz p j (A/V))):=by rw[wx (by rw[Nl];exact hj),Np hj aDB]
 have hTb:T<281474976710656+16777216:=by have jW:bz=16777216:=rfl;rw[jW]at jZ vX LA;omega
 have Fi:(v1:Int)≠0:=by have:=ds.top;have jW:bz=16777216:=rfl;omega
 have wq:IntKind.i64.wrap (Int.tdiv (T:Int) (v1:Int))=((T/v1:Nat):Int):=by have hq:T/v1<=T:=tD _ _;rw[y9 o_,<-tC,db];omega
 unfold D2 Ag;rw[<-hR,<-x6];unfold D0 Ae at sl;rw[qm,aOI]at sl;unfold xY xZ at gl;have gl:=gl Bs;have jW:bz=16777216:=rfl;rw[<-hD]at xt;by_cases hb:U<q*V
 ·-- the aV0 Zi too aV1
  obtain⟨g1,g2⟩:=aAo (B:=bz) d_ hV IF Ly hb;have Kj:=aOQ (B:=bz) d_ hV IF Ly hb;rw[<-hD]at g2 Kj;obtain⟨E,hE⟩:∃ E,E=(D+V)%bz^(e+2+1):=⟨_,rfl⟩;have bl:=aO0 (Bs:=Bs) (q:=U/V) (R:=R) (D:=D) A4 x6 hE h63;rw[<-hE]at g2;rw[<-g2]at rP;have aDE:E<bz^(e+2):=by rw[g2];exact mC (cL _ qR) hV
  have hS2:gp bz j R E<bz^(j+(e+2)+1):=by have:=Hp (B:=bz) d_ (j:=j) R (cC aDE (c9 (n:=bz) d_ (yI _)));rwa[show j+(e+2).succ=j+(e+2)+1 by omega]at this
  have kU:qA L j R D E (e+2) 0=(pM L j R D (e+2)).set (j+(e+2)) (.int .i64 (-1)):=by unfold qA pM;rw[aO1 o_ zp VV d_,jv,<-aAl d_ j R D E,NL d_]
  have Kh:e6 prog 3 (pM L j R D (e+2)) (j+(e+2)) (.int .i64 (-1))=some (qA L j R D E (e+2) 0):=by rw[kU];exact PQ _ _ _ (by unfold pM;rw[lC,xc];omega)
  have D3:∀ i,dw prog 3 (qA L j R D E (e+2) i) (j+(e+2))=some (.int .i64 (-1)):=λi=>by unfold qA;rw[F2,List.getElem?_set_self (by rw[lC,xc];omega)]
  have aO6:=D3 0;have aO7:=D3 (e+2);have Th:e6 prog 3 (qA L j R D E (e+2) (e+2)) (j+(e+2)) (.int .i64 0)=some (ai (ae bz L (A%(V*bz^j)))):=by unfold qA;rw[PQ _ _ _ (by rw[VT,lC,xc];omega),List.set_set];have h1:=yU (B:=bz) (n:=L) (i:=j+(e+2)) (s:=gp bz j R E) (p:=gp bz j R D) (d:=0) o_ (by rw[xo d_,qQ aDE (bt _) d_]);rw[Fg d_ VV hS2]at h1;have h2:=PR (c8 bz L (j+(e+2)) (gp bz j R E) (gp bz j R D)) (j+(e+2)) 0;rw[h1]at h2;exact cM some (h2.trans (by rw[rP]))
  rw[ax hb]at xt;unfold D1 Af at bl;rw[Nh,Kj]at bl;generalize ai (ae bz L (A%(V*bz^j)))=r9 at *;generalize ai (ae bz L R)=r0 at *;generalize pM L j R D (e+2)=r1 at *;generalize qA L j R D E (e+2) 0=r2 at *;generalize qA L j R D E (e+2) (e+2)=r3 at *;generalize ai (gG bz p (j+1) (A/V))=p0 at *;generalize ai (gG bz p j (A/V))=p1 at *;generalize rF bz U V q (e+2)=c at *;generalize U/bz^(e+2)%bz=t1 at *;generalize U/bz^(e+1)%bz=t0 at *;generalize U/V=qq at *;have VX:IntKind.i64.wrap ((t1:Int)+c)=-1:=by rw[db];omega
  have m1:t1*bz<281474976710656:=by rw[jW];omega
  obtain⟨x1,iz⟩:∃ x1,x1=t1*bz:=⟨_,rfl⟩;rw[<-iz]at LA m1;exact fq mixed 400 [.rw 72 (dq (j+1)) (vI j) (dY j),.ge 73 j 0 true s_,.rw 77 (dq (j+1)) (vI j) (dY j),.sum 79 j (e+2) (j+(e+2)) rfl o_,.ix f200 80 8 L (j+(e+2)) o_ k_,.ld f200 81 3 8 (j+(e+2)) (.row r0 3 1) (vI t1) rfl jH k_,.sV 82 t1 bz x1 iz o_,.rw 84 (dq (j+1)) (vI j) (dY j),.sum 86 j (e+2) (j+(e+2)) rfl o_,.e7 87 (j+(e+2)) 1 (j+(e+1)) o_ o_,.ix f200 88 8 L (j+(e+1)) o_ k_,.ld f200 89 3 8 (j+(e+1)) (.row r0 3 1) (vI t0) rfl vm k_,.sum 90 x1 t0 T LA.symm o_,.e7 94 (e+2) 1 (e+1) o_ o_,.ix f200 95 3 (e+2) (e+1) o_ k_,.ld f200 96 3 3 (e+1) (.row rv 3 1) (vI v1) rfl VU k_,.qh f200 97 .i64 (T:Int) (v1:Int) ((T/v1:Nat):Int) Fi wq k_,.P4 f200 98 (T/v1) (bz-1) q0 mZ k_,.code 2 _ _ _ _ _ gl,.code 4 _ _ _ _ _ sl,.rw 169 (dq (j+1)) (vI j) (dY j),.sum 171 j (e+2) (j+(e+2)) rfl o_,.ix f200 172 8 L (j+(e+2)) o_ k_,.ld f200 173 3 8 (j+(e+2)) (.row r1 3 1) (vI t1) rfl jf k_,.wr 175 .i64 ((t1:Int)+c) (-1) VX,.ix f200 176 8 L (j+(e+2)) o_ k_,.st f200 100176 3 8 (j+(e+2)) (.row r1 3 1) (.int .i64 (-1)) (.row r2 3 1) rfl Kh rfl k_,.rw 178 (dq (j+1)) (vI j) (dY j),.sum 180 j (e+2) (j+(e+2)) rfl o_,.ix f200 181 8 L (j+(e+2)) o_ k_,.ld f200 182 3 8 (j+(e+2)) (.row r2 3 1) (.int .i64 (-1)) rfl aO6 k_,.e7 185 q 1 qq o_ o_,.code 6 _ _ _ _ _ bl,.rw 214 (dq (j+1)) (vI j) (dY j),.sum 216 j (e+2) (j+(e+2)) rfl o_,.ix f200 217 8 L (j+(e+2)) o_ k_,.ld f200 218 3 8 (j+(e+2)) (.row r3 3 1) (.int .i64 (-1)) rfl aO7 k_,.wr 220 .i64 (-1+((1:Nat):Int)) 0 d_,.ix f200 221 8 L (j+(e+2)) o_ k_,.st f200 100221 3 8 (j+(e+2)) (.row r3 3 1) (.int .i64 0) (.row r9 3 1) rfl Th rfl k_,
   .rw 223 (dq (j+1)) (vI j) (dY j),.ix f200 225 9 p j hj k_,.st f200 100225 3 9 j (.row p0 3 1) (vI qq) (.row p1 3 1) rfl VW rfl k_,.rw 74 (dq (j+1)) (vI j) (dY j),.wr 75 .i64 ((j:Int)-1) ((j:Int)-1) (oU o_)] k_
 ·obtain⟨g1,g2⟩:=aAn (B:=bz) d_ hV IF aO4 hb;rw[<-hD]at g2;rw[<-g2]at rP;have Kh:e6 prog 3 (pM L j R D (e+2)) (j+(e+2)) (vI (D/bz^(e+2)%bz))=some (ai (ae bz L (A%(V*bz^j)))):=by unfold pM;rw[wx (by rw[xc];omega),yU o_ (xo d_ j R D (e+2)).symm,Fg d_ zp VV,rP]
  have D3:dw prog 3 (ai (ae bz L (A%(V*bz^j)))) (j+(e+2))=some (vI (D/bz^(e+2)%bz)):=by rw[<-rP,dQ (eB o_),xo d_]
  rw[au hb]at xt;have FN:D/bz^(e+2)%bz<bz:=cL _ d_;rw[<-g1]at VW;generalize ai (ae bz L (A%(V*bz^j)))=r9 at *;generalize ai (ae bz L R)=r0 at *;generalize pM L j R D (e+2)=r1 at *;generalize ai (gG bz p (j+1) (A/V))=p0 at *;generalize ai (gG bz p j (A/V))=p1 at *;generalize rF bz U V q (e+2)=c at *;generalize U/bz^(e+2)%bz=t1 at *;generalize U/bz^(e+1)%bz=t0 at *;generalize D/bz^(e+2)%bz=d at *;have VX:IntKind.i64.wrap ((t1:Int)+c)=(d:Int):=by rw[db];omega
  have m1:t1*bz<281474976710656:=by rw[jW];omega
  obtain⟨x1,iz⟩:∃ x1,x1=t1*bz:=⟨_,rfl⟩;rw[<-iz]at LA m1;exact fq mixed 400 [.rw 72 (dq (j+1)) (vI j) (dY j),.ge 73 j 0 true s_,.rw 77 (dq (j+1)) (vI j) (dY j),.sum 79 j (e+2) (j+(e+2)) rfl o_,.ix f200 80 8 L (j+(e+2)) o_ k_,.ld f200 81 3 8 (j+(e+2)) (.row r0 3 1) (vI t1) rfl jH k_,.sV 82 t1 bz x1 iz o_,.rw 84 (dq (j+1)) (vI j) (dY j),.sum 86 j (e+2) (j+(e+2)) rfl o_,.e7 87 (j+(e+2)) 1 (j+(e+1)) o_ o_,.ix f200 88 8 L (j+(e+1)) o_ k_,.ld f200 89 3 8 (j+(e+1)) (.row r0 3 1) (vI t0) rfl vm k_,.sum 90 x1 t0 T LA.symm o_,.e7 94 (e+2) 1 (e+1) o_ o_,.ix f200 95 3 (e+2) (e+1) o_ k_,.ld f200 96 3 3 (e+1) (.row rv 3 1) (vI v1) rfl VU k_,.qh f200 97 .i64 (T:Int) (v1:Int) ((T/v1:Nat):Int) Fi wq k_,.P4 f200 98 (T/v1) (bz-1) q0 mZ k_,.code 2 _ _ _ _ _ gl,.code 4 _ _ _ _ _ sl,.rw 169 (dq (j+1)) (vI j) (dY j),.sum 171 j (e+2) (j+(e+2)) rfl o_,.ix f200 172 8 L (j+(e+2)) o_ k_,.ld f200 173 3 8 (j+(e+2)) (.row r1 3 1) (vI t1) rfl jf k_,.wr 175 .i64 ((t1:Int)+c) (d:Int) VX,.ix f200 176 8 L (j+(e+2)) o_ k_,.st f200 100176 3 8 (j+(e+2)) (.row r1 3 1) (vI d) (.row r9 3 1) rfl Kh rfl k_,.rw 178 (dq (j+1)) (vI j) (dY j),.sum 180 j (e+2) (j+(e+2)) rfl o_,.ix f200 181 8 L (j+(e+2)) o_ k_,.ld f200 182 3 8 (j+(e+2)) (.row r9 3 1) (vI d) rfl D3 k_,.lt 183 d 0 false s_,.rw 223 (dq (j+1)) (vI j) (dY j),.ix f200 225 9 p j hj k_,.st f200 100225 3 9 j (.row p0 3 1) (vI q) (.row p1 3 1) rfl VW rfl k_,.rw 74 (dq (j+1)) (vI j) (dY j),.wr 75 .i64 ((j:Int)-1) ((j:Int)-1) (oU o_)] k_
theorem aO8(h:Lz e L A V)(hp:p+(e+2)=L):
  ag prog Bs 238 (.block 0 (af f200 0)) (D2 e L p p) (Ag e L A V p p) 10 ⟨.normal,D2 e L p 0,Ag e L A V p 0,10⟩:=by
 have:=cd (P:=prog) (B:=Bs) (N:=238) (b:=aF (af f200 0)) (next:=10) (r:=⟨.exit 0,D2 e L p 0,Ag e L A V p 0,10⟩) p (λi=>D2 e L p (p-i)) (λi=>Ag e L A V p (p-i)) (λi t _=>j0 (l:=Ag e L A V p (p-i)) (m:=Ag e L A V p (p-0)) rfl t)
  (λi hi=>by
   have e1:p-i=(p-(i+1))+1:=by omega
   simp only[e1];exact aO2 h hp o_)
  (by simp only[vG];exact aC [.rw 73 (.bool (decide (((0:Nat):Int)-1>=0))) (.bool false) rfl]) n_
 exact bT (id:=0) this
end
def B9(w:World)(v:Value)(a:Nat):Prop:=cO w v (nd bz a) (cN a)
def vi(w w':World)(v:Value)(a:Nat):Prop:=w'.ownsRow w.heap.size 3 1 v (nd bz a) (cN a)
theorem P6{w w':World}{ι:Map}{c:Nat->Option Obj}(hm:aO (aa.at w) ι c w'){k n a:Nat}{v:Value}(hk:c k=some (.row (ai (ae bz n a)) 3 1))(ha:a<bz^n)(hv:aG ι (sl k (nd bz a)) v):vi w w' v a:=by have:=vC hm hk hv (Gb ha) (kJ _);rw[B5 ha]at this;exact this
theorem P7{s:Nat}(h:s<bz):ae bz 1 s=[s]:=by simp[ae,dK h]
theorem VY{s:Nat}(h:s<bz)(h0:s≠0):nd bz s=1:=by have h3:=jl (B:=bz) (n:=1) d_ (by rw[CV];exact h);have h4:=uF (B:=bz) d_ h0;omega
theorem aO9{A n:Nat}(h:A<bz^n):ae bz (n+2) A=ae bz n A++[0,0]:=by unfold ae;rw[show n+2=n+1+1 from rfl,H0,H0,rO,rO,EL];simp only[qO,NI,E9,jw];rw[qQ h (bt _) d_,qQ h (yI _) d_]
theorem aPa{B d:Nat}(hd:0<d)(mY:d<B)(he:B%2=0):B<=2*(d*(B/(d+1))):=by
 obtain⟨s,hs⟩:∃ s,s=B/(d+1):=⟨_,rfl⟩;rw[<-hs];have hdm:=jm B (d+1);have NC:=cL B (show 0<d+1 by omega);rw[<-hs]at hdm;have wX:0<s:=by rw[hs];exact NP mY (Tq d)
 rcases eL (2*d) B with h|h
 ·apply OS;intro ak;have ak:2*(d*s)+2<=B:=by omega
  obtain⟨X,hX⟩:∃ X,X=(d+1)*s:=⟨_,rfl⟩;rw[<-hX]at hdm;have h1:=fo (d+1) ak;rw[fE,fO,fO d s,cS s,<-hX,oS B,fX]at h1;have h2:=jz d (show B<=X+d by omega);rw[oS]at h2;obtain⟨k,hk⟩:∃ k,d=k+1:=⟨d-1,by omega⟩;have h3:=jz k (je h);have h4:d*B=k*B+B:=by rw[hk,fE,qf]
  have h5:k*(2*d)+2*d=2*(d*d):=by
   have:d*d=k*d+d:=by conv=>lhs;rw[hk,fE,qf,<-hk]
   rw[this,mX];omega
  rw[cS B d]at h1;omega
 ·have:=jz d wX;rw[fX]at this;have:d*1<=d*s:=jz d wX;omega
theorem VZ{a b:Nat}{t:Bool}(h:decide (a<b)=t):Value.bool (decide (ig a b<0))=.bool t:=by
 rw[<-h];congr 1;rw[oQ];unfold ig
 by_cases h1:a<b
 ·rw[ax h1];omega
 ·rw[au h1];by_cases h2:b<a
  ·rw[ax h2];omega
  ·rw[au h2];omega
theorem aWi{w:World}{va vb:Value}{a b:Nat}(gn:B9 w va a)(lp:B9 w vb b)(b9:a<b)(h1:nd bz a<35184372088832)(h2:nd bz b<35184372088832):
  Calls prog 200 #[va,vb] w λe w'=>e=.returned (.tuple #[.slice none 0 0,va])/\Below w.heap.size w w':=by
 have hl:∀ s∈[cE.row va (nd bz a) (cN a),cE.row vb (nd bz b) (cN b)],s.OK w:=by
  intro s hs;simp at hs;rcases hs with rfl|rfl
  ·exact⟨gn,kJ _⟩
  ·exact⟨lp,kJ _⟩
 refine lO (Q:=λe w'=>e=.returned (.tuple #[.slice none 0 0,va])/\Below w.heap.size w w') mixed func200 [cE.row va (nd bz a) (cN a),cE.row vb (nd bz b) (cN b)] hl 200 (N:=238) k_
  (rs:=[(.vh f200 23 0 1 a b (.view (cN a)) (.view (cN b)) rfl rfl rfl rfl h1 h2 k_:aX prog (aa.at w) 238),.rw 24 _ (.bool true) (VZ (a:=a) (b:=b) (aB b9))])
  (v:=.tuple #[.slice none 0 0,sl 0 (nd bz a)]) (ms:=[]) k_ λaw bZ v' w' kg bj _ dj=>⟨?_,bj.base⟩
 obtain⟨cP,rfl,aY⟩:=kg.um;obtain⟨p,q,hp,h3,h4⟩:=jI aY;cases dj with
 |cons h5 _=>
 have:q=va:=JO h4 h5;have e:cP=#[p,q]:=vu.1 (by rw[hp]);rw[e,h3.eY rfl,this]
theorem aWB{w:World}{va vb:Value}{a b:Nat}(gn:B9 w va a)(lp:B9 w vb b)(b9:b<=a)(kU:b≠0)(hb:b<bz)(h1:nd bz a<35184372088832):
  Calls prog 200 #[va,vb] w λe w'=>∃ vq vr,e=.returned (.tuple #[vq,vr])/\vi w w' vq (a/b)/\vi w w' vr (a%b)/\Below w.heap.size w w':=by
 have c7:=VY hb kU;have nq:cN b=[vI b]:=by unfold cN;rw[c7,P7 hb];rfl
 have Fj:cO w vb 1 [vI b]:=by have:=lp;unfold B9 at this;rw[c7,nq]at this;exact this
 have hl:∀ s∈[cE.row va (nd bz a) (cN a),cE.row vb 1 [vI b]],s.OK w:=by
  intro s hs;simp at hs;rcases hs with rfl|rfl
  ·exact⟨gn,kJ _⟩
  ·exact⟨Fj,λv hv=>by simp at hv;subst hv;rfl⟩
 have hr:a%b<bz:=mC (cL _ (tA kU)) hb;have tZ:a%b<bz^1:=by rw[CV];exact hr
 have ll:cD prog (aa.at w) (av f200 23) [.func (.func 96) #[] #[],sl 0 (nd bz a),sl 1 1] [(0,some (.view (cN a))),(1,some (.view [vI b]))] (.int .i64 (ig a b)) []:=by have:=dL (B:=aa.at w) (o:=av f200 23) (x:=.func 96) (VI (a:=a) (b:=b) h1 o_) (nY (k:=0) (x:=.view (cN a)) rfl rfl (nY (k:=1) (x:=.view (cN b)) rfl rfl .nil)) k_ k_ rfl;rw[c7,nq]at this;exact this
 refine lO (Q:=λe w'=>∃ vq vr,e=.returned (.tuple #[vq,vr])/\vi w w' vq (a/b)/\vi w w' vr (a%b)/\Below w.heap.size w w') mixed func200 [cE.row va (nd bz a) (cN a),cE.row vb 1 [vI b]] hl 200 (N:=238) k_
  (rs:=[(.step 23 (av f200 23) _ _ _ _ ll:aX prog (aa.at w) 238),.rw 24 _ (.bool false) (VZ (a:=a) (b:=b) (aJ o_)),.ld f200 33 3 1 0 (.view [vI b]) (vI b) rfl (by rw[F2];rfl) k_,.step 34 (av f200 34) _ _ _ _ (Py (x:=.func 219) (aDw (tA kU) hb h1) (nY (k:=0) (x:=.view (cN a)) rfl rfl (.p (v:=vI b) rfl .nil)) k_ k_ (sT _) rfl 2),.bs f200 39 3 1 3 1 [0] (vI 0) [vI (a%b)] #[vI (a%b)] (.row (ai (ae bz 1 (a%b))) 3 1) (by rw[P7 hr];rfl) (λv hv=>by simp at hv;subst hv;rfl) (λv hv=>by simp at hv;subst hv;rfl) k_ rfl o_ o_ k_,.DM f200 40 3 1 (a%b) (.row (ai (ae bz 1 (a%b))) 3 1) rfl rfl tZ o_ k_])
  (v:=.tuple #[sl 2 (nd bz (a/b)),sl 3 (nd bz (a%b))]) (ms:=[(2,cA (a/b)),(3,.row (ai (ae bz 1 (a%b))) 3 1)]) k_ λaw bZ v' w' kg bj dE _=>?_
 obtain⟨cP,rfl,aY⟩:=kg.um;obtain⟨p,q,hp,h3,h4⟩:=jI aY;have e:cP=#[p,q]:=vu.1 (by rw[hp]);subst e;exact⟨p,q,rfl,P6 bj (dE _ (aU ..)) (dU d_ _) h3,P6 bj (dE _ (bE _ (aU ..))) tZ h4,bj.base⟩
theorem aWj{w:World}{va vb:Value}{a b e:Nat}(gn:B9 w va a)(lp:B9 w vb b)(b9:b<=a)(hb:nd bz b=e+2)(h1:nd bz a<17592186044000):
  Calls prog 200 #[va,vb] w λe w'=>∃ vq vr,e=.returned (.tuple #[vq,vr])/\vi w w' vq (a/b)/\vi w w' vr (a%b)/\Below w.heap.size w w':=by
 have jW:bz=16777216:=rfl;have ak:=dU (B:=bz) d_ b;rw[hb]at ak;have hp:0<bz^(e+1):=cK d_;have dT:bz^(e+1)<=b:=Zq d_ o_;have kU:0<b:=cC hp dT;obtain⟨d,hd⟩:∃ d,d=b/bz^(e+1):=⟨_,rfl⟩;have lT:b/bz^(e+1)%bz=d:=by rw[hd];exact EV ak
 have mY:d<bz:=by rw[<-lT];exact cL _ d_
 have C9:0<d:=by rw[hd];exact NP dT hp
 obtain⟨s,hs⟩:∃ s,s=bz/(d+1):=⟨_,rfl⟩;have bM:=aPa C9 mY d_;rw[<-hs]at bM;have qm:0<s:=by rw[hs];exact NP mY (Tq d)
 have F3:s*(d+1)<=bz:=by rw[hs];exact C5 _ _
 have P8:s<bz:=by have:=jz s (show 2<=d+1 by omega);omega
 have xn:b*s<bz^(e+2):=by
  have h3:b<(d+1)*bz^(e+1):=by rw[hd];exact(iK hp).1 (Bo _)
  have h5:=Bn h3 qm;have h6:=fo (bz^(e+1)) F3;rw[cS bz,<-dy]at h6;have e1:(d+1)*bz^(e+1)*s=s*(d+1)*bz^(e+1):=by rw[cS _ s,fO]
  rw[e1]at h5;exact cC h5 h6
 have aDF:b<=b*s:=E5 _ qm;have NT:nd bz (b*s)=e+2:=Z7 (jl d_ xn) (by rw[<-hb];exact iU d_ aDF);have xt:bz<=2*(b*s/bz^(e+1)):=by
  have:d*s<=b*s/bz^(e+1):=by rw[C4 hp,Bq];refine fo _ ?_;rw[hd];exact C5 _ _
  omega
 obtain⟨n,hn⟩:∃ n,n=nd bz (a*s):=⟨_,rfl⟩;have hA:=dU (B:=bz) d_ (a*s);rw[<-hn]at hA;have hnb:n<=nd bz a+1:=by rw[hn];refine jl d_ ?_;rw[dy];exact qe (dU (B:=bz) d_ a) P8
 have aV2:e+2<=n:=by rw[hn,<-hb];exact iU d_ (dh b9 (E5 _ qm))
 obtain⟨p,VR⟩:∃ p,p+(e+2)=n+2:=⟨n+2-(e+2),by omega⟩;have V0:a*s<b*s*bz^p:=by have h3:bz^(e+1)*bz^p<=b*s*bz^p:=fo _ (dh dT aDF);rw[<-eD,show e+1+p=n+1 by omega]at h3;have h4:bz^n<=bz^(n+1):=c9 d_ (yI _);omega
 have dv:Lz e (n+2) (a*s) (b*s):=⟨xn,xt,by omega,by rw[show n+2-(e+2)=p by omega];exact V0,by omega⟩;have lo:=λBs=>aO8 (Bs:=Bs) dv VR;have hQ:a*s/(b*s)=a/b:=aAv _ _ qm;have Tw:a*s%(b*s*bz^0)=a%b*s:=by rw[r7,fX,aAu]
 have Tv:a*s%(b*s*bz^p)=a*s:=dK V0;have Kl:a/b<bz^p:=by rw[<-hQ,iK dv.pos,cS (bz^p)];exact V0
 have Hz:a%b*s<bz^(n+2):=by have h3:a%b*s<=a*s:=fo _ (JX _ _);have h4:bz^n<=bz^(n+2):=c9 d_ o_;omega
 have hnr:nd bz (a%b*s)<35184372088832:=by have:=jl (B:=bz) d_ Hz;omega
 unfold Ag at lo;rw[Tv,Tw,hQ,Nn,JY,<-Ln]at lo;have hcA:cN (a*s)++[vI 0,vI 0]=ai (ae bz (n+2) (a*s)):=by unfold cN ai;rw[<-hn,aO9 hA,rO];rfl
 have Ew:=VY P8 o_;have gj:cN s=[vI s]:=by unfold cN;rw[Ew,P7 P8];rfl
 have nq:cN b=ai (ae bz (e+2) b):=by unfold cN;rw[hb]
 have hcV:cN (b*s)=ai (ae bz (e+2) (b*s)):=by unfold cN;rw[NT]
 have Fj:cO w vb (e+2) (ai (ae bz (e+2) b)):=by have:=lp;unfold B9 at this;rw[hb,nq]at this;exact this
 have hl:∀ s∈[cE.row va (nd bz a) (cN a),cE.row vb (e+2) (ai (ae bz (e+2) b))],s.OK w:=by
  intro s hs;simp at hs;rcases hs with rfl|rfl
  ·exact⟨gn,kJ _⟩
  ·exact⟨Fj,kJ _⟩
 have ll:cD prog (aa.at w) (av f200 23) [.func (.func 96) #[] #[],sl 0 (nd bz a),sl 1 (e+2)] [(0,some (.view (cN a))),(1,some (.view (ai (ae bz (e+2) b))))] (.int .i64 (ig a b)) []:=by have:=dL (B:=aa.at w) (o:=av f200 23) (x:=.func 96) (VI (a:=a) (b:=b) o_ o_) (nY (k:=0) (x:=.view (cN a)) rfl rfl (nY (k:=1) (x:=.view (cN b)) rfl rfl .nil)) k_ k_ rfl;rw[hb,nq]at this;exact this
 have c7:cD prog (aa.at w) (av f200 52) [.func (.func 132) #[] #[],sl 1 (e+2),sl 2 1] [(3,none),(1,some (.view (ai (ae bz (e+2) b)))),(2,some (.row [vI s] 3 1))] (sl 3 (e+2)) [(3,.row (ai (ae bz (e+2) (b*s))) 3 1)]:=by have:=qo (B:=aa.at w) (o:=av f200 52) (x:=.func 132) (VE (a:=b) (b:=s) o_) (nY (k:=1) (x:=.view (cN b)) rfl rfl (nY (k:=2) (x:=.row (cN s) 3 1) rfl rfl .nil)) k_ k_ (sT _) 3;rw[hb,nq,Ew,gj,NT,hcV]at this;exact this
 have dC:cD prog (aa.at w) (av f200 58) [.func (.func 132) #[] #[],sl 0 (nd bz a),sl 2 1] [(5,none),(0,some (.view (cN a))),(2,some (.row [vI s] 3 1))] (sl 5 n) [(5,.row (cN (a*s)) 3 1)]:=by have:=qo (B:=aa.at w) (o:=av f200 58) (x:=.func 132) (VE (a:=a) (b:=s) o_) (nY (k:=0) (x:=.view (cN a)) rfl rfl (nY (k:=2) (x:=.row (cN s) 3 1) rfl rfl .nil)) k_ k_ (sT _) 5;rw[Ew,gj,<-hn]at this;exact this
 have vf:∀(xr:aj),xr=ai (ae bz (n+2) (a%b*s))->cD prog (aa.at w) (av f200 232) [.func (.func 219) #[] #[],sl 8 (nd bz (a%b*s)),vI s] [(10,none),(8,some (.row xr 3 1))] (.tuple #[sl 10 (nd bz (a%b)),vI 0]) [(10,cA (a%b))]:=by
  rintro xr rfl
  have hq:a%b*s/s=a%b:=SH _ qm;have hz:a%b*s%s=0:=Zs _ _;have bX:=aDw (a:=a%b*s) qm P8 hnr;rw[hq,hz]at bX;have C8:((Obj.row (ai (ae bz (n+2) (a%b*s))) 3 1).cells.drop 0).take (nd bz (a%b*s))=cN (a%b*s):=by rw[mB];have:=B5 Hz;rwa[fX]at this
  have yH:fR (aa.at w) [jE (a%b*s),.p (vI s)] [sl 8 (nd bz (a%b*s)),vI s] [(8,some (.row (ai (ae bz (n+2) (a%b*s))) 3 1))]:=by unfold jE;rw[<-C8];exact .r (k:=8) (off:=0) (cc:=0) rfl (gJ _) (λh=>h) (.p rfl .nil)
  exact Py (x:=.func 219) bX yH k_ k_ (sT _) rfl 10
 have w48:IntKind.i64.wrap (Int.tdiv ((bz:Nat):Int) ((d+1:Nat):Int))=(s:Int):=by rw[y9 o_,<-tC,<-hs,db];omega
 have aPb:∀ v∈cN (a*s),v.oneCell'=true:=λv hv=>by unfold cN ai at hv;obtain⟨x,_,rfl⟩:=di.1 hv;rfl
 have hlen:(cN (a*s)).length=n:=by rw[Vt,hn]
 have lo:=lo (aa.at w);unfold D2 at lo;have hxr:=vf _ rfl;have lq:dw prog 3 (ai (ae bz (e+2) b)) (e+1)=some (vI d):=by rw[<-lT];exact dQ (eB o_)
 have FP:nd bz (a%b*s)=nd bz (a%b*s):=rfl
 refine lO (Q:=λe w'=>∃ vq vr,e=.returned (.tuple #[vq,vr])/\vi w w' vq (a/b)/\vi w w' vr (a%b)/\Below w.heap.size w w') mixed func200 [cE.row va (nd bz a) (cN a),cE.row vb (e+2) (ai (ae bz (e+2) b))] hl 400 (N:=238) k_
  (rs:=[(.step 23 (av f200 23) _ _ _ _ ll:aX prog (aa.at w) 238),.rw 24 _ (.bool false) (VZ (a:=a) (b:=b) (aJ o_)),.fv 28 (e+2) 1 false s_,.e7 44 (e+2) 1 (e+1) rfl o_,.ix f200 45 1 (e+2) (e+1) o_ k_,.ld f200 46 3 1 (e+1) (.view (ai (ae bz (e+2) b))) (vI d) rfl lq k_,.sum 47 d 1 (d+1) rfl o_,.qh f200 48 .i64 ((bz:Nat):Int) ((d+1:Nat):Int) (s:Int) o_ w48 k_,.bs f200 49 2 1 3 1 [0] (vI 0) [vI s] #[vI s] (.row [vI s] 3 1) rfl (λv hv=>by simp at hv;subst hv;rfl) (λv hv=>by simp at hv;subst hv;rfl) k_ rfl o_ o_ k_,.step 52 (av f200 52) _ _ _ _ c7,.Lq f200 55 4 3 1 (vI 0) k_,.step 58 (av f200 58) _ _ _ _ dC,.pB f200 59 6 4 0 n n 3 1 8 [] 5 (.row (cN (a*s)) 3 1) (cN (a*s)) (kh n) rfl (by rw[fX];exact hlen) rfl rfl aPb o_ (by simp[maxLen];omega) o_ k_,.bs f200 60 7 2 3 1 [0,1] (vI 0) [vI 0,vI 0] #[vI 0,vI 0] (.row [vI 0,vI 0] 3 1) rfl (λv hv=>by simp at hv;subst hv;rfl) (λv hv=>by simp at hv;subst hv;rfl) k_ rfl o_ o_ k_,.pB f200 61 8 6 n 2 (n+2) 3 1 8 (cN (a*s)) 7 (.row [vI 0,vI 0] 3 1) (ai (ae bz (n+2) (a*s))) rfl rfl rfl (by rw[fX];exact hlen) hcA (λv hv=>by simp[Obj.cells]at hv;subst hv;rfl) o_ (by simp[maxLen];omega) o_ k_,.e7 65 (n+2) (e+2) p o_ o_,.qd f200 66 9 p 3 8 (vI 0) (List.replicate p (vI 0)) rfl rfl rfl o_ (by simp[maxLen];omega) k_,.e7 70 (n+2) (e+2) p o_ o_,.wr 71 .i64 ((p:Int)-1) ((p:Int)-1) (oU o_),.code 0 _ _ _ _ _ lo,.DM f200 228 8 (n+2) (a%b*s) (.row (ai (ae bz (n+2) (a%b*s))) 3 1) rfl rfl Hz o_ k_,.ld f200 231 3 2 0 (.row [vI s] 3 1) (vI s) rfl (by rw[F2];rfl) k_,.step 232 (av f200 232) _ _ _ _ hxr,.DM f200 236 9 p (a/b) (.row (ai (ae bz p (a/b))) 3 1) rfl rfl Kl o_ k_])
  (v:=.tuple #[sl 9 (nd bz (a/b)),sl 10 (nd bz (a%b))]) (ms:=[(9,.row (ai (ae bz p (a/b))) 3 1),(10,cA (a%b))]) k_ λaw bZ v' w' kg bj dE _=>?_
 obtain⟨cP,rfl,aY⟩:=kg.um;obtain⟨p,q,hp,h3,h4⟩:=jI aY;have e:cP=#[p,q]:=vu.1 (by rw[hp]);subst e;exact⟨p,q,rfl,P6 bj (dE _ (aU ..)) Kl h3,P6 bj (dE _ (bE _ (aU ..))) (dU d_ _) h4,bj.base⟩
section
variable{P:Program}{Bs B:aa}{N:Nat}
theorem aDG{f:FuncId}{l:List aT}{ty:TypeId}{size n:Nat}{xs:aj}{vs:aj}{nd:List (Nat×Option Obj)}{o:Oper}{x:Operand}(h:lX P f l ty size n xs)(hs:fR B l vs nd)(ho:dx o.op=some x)(eQ:gz P f=true)(hx:(xs.all flat)=true)(k:Nat):
  cD P B o (.func (.func f) #[] #[]::vs) ((k,none)::nd) (.slice (some ⟨k,0,some 7⟩) n 0) [(k,.view xs)]:=by
 have:=jM (P:=P) (B:=B) (o:=o) (x:=x) (f:=f) (fi:=[]) (args:=vs) (ca:=[]) (need:=(k,none)::nd) (val:=.slice (some ⟨k,0,some 7⟩) n 0) (cU:=[(k,.view xs)]) ho eQ ?_
 ·simpa using this
 ·intro ι c w hm hn args' ha;rw[jw,jn]at ha;refine(h w args' (BO hs hm (λp hp=>hn p (bE _ hp)) ha)).mono ?_
  rintro e w' ⟨v,rfl,h1,h2⟩
  obtain⟨aw,q1,q2,q3⟩:=Zn hm h2 (k:=k) (hn (k,none) (aU ..)) h1 (bh.1 hx);exact⟨aw,v,rfl,q1,q3,q2⟩
def da(a:Nat):Obj:=.view (cN a)
def aX.lZ(fn:Func)(key k m:Nat)(h:nd 256 m<35184372088832)(ho:dx (av fn key).op=some (.func 93)):aX prog Bs N:=
 .step key (av fn key) [.func (.func 93) #[] #[],pC m] [(k,none)] (sl k (nd bz m)) [(k,da m)] (aDG (aDu h) (.p rfl .nil) ho k_ (sT m) k)
end
theorem aWL{Bs:aa}{o:Oper}{y:Operand}(ho:dx o.op=some y){k1 k2 kq kr a b:Nat}(hk:kr≠kq)(kU:b≠0)(h1:nd bz a<17592186044000)(h2:nd bz b<35184372088831):
  cD prog Bs o [.func (.func 200) #[] #[],sl k1 (nd bz a),sl k2 (nd bz b)] [(k1,some (da a)),(k2,some (da b)),(kq,none),(kr,none)] (.tuple #[sl kq (nd bz (a/b)),sl kr (nd bz (a%b))]) [(kr,da (a%b)),(kq,da (a/b))]:=by
 refine jM (fi:=[]) (ca:=[]) ho k_ λι c w hm hn args' aY=>?_;rw[jw,jn]at aY;obtain⟨va,vb,rfl,hv,iJ⟩:=jI aY;have iC:c k1=some (da a):=hn (k1,_) s_;have fN:c k2=some (da b):=hn (k2,_) s_;have Ko:c kq=none:=hn (kq,none) s_;have Tz:c kr=none:=hn (kr,none) s_;have nin:∀{k a v},c k=some (da a)->aG ι (sl k (nd bz a)) v->B9 w v a:=λ{k a v} hk hv=>by have:=oP (len:=nd bz a) hm hk rfl (kJ _) (λh=>h) hv;rwa[mB,kB (by show(cN a).length<=_;rw[Vt];exact bt _)]at this
 have ha:=nin iC hv;have hb:=nin fN iJ;have fin:∀(w':World) (vq vr:Value),Below w.heap.size w w'->(∃ bP,Map.le ι bP/\aO Bs bP (aZ c kq (da (a/b))) w'/\aG bP (sl kq (nd bz (a/b))) vq/\∃ dH,Map.le bP dH/\aO Bs dH (aZ (aZ c kq (da (a/b))) kr (da (a%b))) w'/\aG dH (sl kr (nd bz (a%b))) vr)->
   ∃ aw v',Ending.returned (.tuple #[vq,vr])=.returned v'/\Map.le ι aw/\aG aw (.tuple #[sl kq (nd bz (a/b)),sl kr (nd bz (a%b))]) v'/\aO Bs aw (lI c [(kr,da (a%b)),(kq,da (a/b))]) w':=by
  rintro w' vq vr fT ⟨bP,q1,q2,q3,dH,s1,s2,s3⟩
  exact⟨dH,_,rfl,q1.trans s1,.tup (.cons (q3.mono s1) (.cons s3 .nil)),s2⟩
 have Kp:∀ x,aZ c kq x kr=none:=λx=>by unfold aZ;rw[au hk];exact Tz
 have new:∀(w':World) (vq vr:Value),Below w.heap.size w w'->vi w w' vq (a/b)->vi w w' vr (a%b)->(∃ bP,Map.le ι bP/\aO Bs bP (aZ c kq (da (a/b))) w'/\aG bP (sl kq (nd bz (a/b))) vq/\∃ dH,Map.le bP dH/\aO Bs dH (aZ (aZ c kq (da (a/b))) kr (da (a%b))) w'/\aG dH (sl kr (nd bz (a%b))) vr):=by intro w' vq vr fT h3 h4;have bj:=hm.call fT;obtain⟨bP,q1,q2,q3⟩:=NV bj Ko h3 (kJ _) (NW hm);obtain⟨dH,s1,s2,s3⟩:=NV q2 (Kp _) h4 (kJ _) (aAI bj q1 (NW hm));exact⟨bP,q1,q2,q3,dH,s1,s2,s3⟩
 by_cases b9:a<b
 ·have e1:a/b=0:=mA b9;have e2:a%b=a:=dK b9;refine(aWi ha hb b9 o_ o_).mono ?_
  rintro e w' ⟨rfl,fT⟩
  refine fin w' _ _ fT ?_;have bj:=hm.call fT;obtain⟨bP,q1,q2,q3⟩:=yP (xs:=[]) (n:=0) (v:=.slice none 0 0) bj Ko (.inl ⟨rfl,rfl,rfl⟩) n_ n_;have ez:da (a/b)=.view []:=by unfold da cN;rw[e1,pw];rfl
  have en:nd bz (a/b)=0:=by rw[e1,pw]
  rw[ez,en,e2];have TA:cO w' va (nd bz a) (cN a):=cO.gM ha fT;obtain⟨dH,s1,s2,s3⟩:=yP q2 (Kp _) TA (kJ _) (λb o c' e j y o' aQ hj hy he=>by
   have Bl:c j=some y:=by
    unfold aZ at hj;by_cases bO:j=kq
    ·rw[ax bO]at hj;injection hj with hj;subst hj;cases hy
    ·rw[au bO]at hj;exact hj
   obtain⟨l,e1,_⟩:=hm.born j y Bl;have e2:=q1 j l e1;rw[he]at e2;injection e2 with e2;subst e2;subst e;rcases hv.iw rfl with ⟨_,_,_,_,e⟩|⟨b',o2,rM,c2,gm,_,_,e⟩
   ·cases e
   ·injection e with e _ _;injection e with e;injection e with e _ _;subst e;exact(hm.seen k1 _ _ _ _ iC rfl gm).2 j y _ _ Bl hy e1)
  exact⟨bP,q1,q2,q3,dH,s1,s2,s3⟩
 ·have Kq:b<=a:=Kf.1 b9;have go:Calls prog 200 #[va,vb] w λe w'=>∃ vq vr,e=.returned (.tuple #[vq,vr])/\vi w w' vq (a/b)/\vi w w' vr (a%b)/\Below w.heap.size w w':=by
   by_cases ak:b<bz
   ·exact aWB ha hb Kq kU ak o_
   ·have h3:2<=nd bz b:=by
     rcases eL (nd bz b) 2 with h|h
     ·have h4:=dU (B:=bz) d_ b;have h5:bz^nd bz b<=bz^1:=c9 d_ o_;rw[CV]at h5;omega
     ·exact h
    exact aWj (e:=nd bz b-2) ha hb Kq o_ h1
  refine go.mono ?_
  rintro e w' ⟨vq,vr,rfl,h3,h4,fT⟩
  exact fin w' _ _ fT (new w' vq vr fT h3 h4)
theorem aPc(n1 n2:Bool)(a b:Nat):(sg n1 a).tdiv (sg n2 b)=sg (n1 !=n2) (a/b):=by cases n1<;>cases n2<;>simp[sg,Int.neg_tdiv,Int.tdiv_neg]
theorem aPd(n1 n2:Bool)(a b:Nat):(sg n1 a).tmod (sg n2 b)=sg n1 (a%b):=by cases n1<;>cases n2<;>simp[sg,Int.neg_tmod,Int.tmod_neg]<;>exact zf o_
theorem aPe{x:Int}(h1:-4611686018427387904<=x)(h2:x<=4611686018427387903):IntKind.i64.wrap x=x:=by rw[db];omega
theorem V1:nd bz 1=1/\cN 1=[vI 1]:=by have h:=VY (s:=1) d_ d_;exact⟨h,by unfold cN;rw[h,P7 d_];rfl⟩
theorem V2{n:Bool}{m:Nat}(h:n=true->m≠0):decide (sg n m<0)=n:=by
 cases n
 ·exact aJ (by simp[sg])
 ·exact aB (by have:=h rfl;simp[sg];omega)
theorem aPf(n:Bool)(m:Nat):(sg n m !=0)=decide (m≠0):=by
 by_cases h:m=0
 ·subst h;cases n<;>rfl
 ·rw[aB h,uG];cases n<;>simp[sg]<;>omega
theorem aW7{x y:Int}{p q:Nat}(hy:y≠0)(h1:x.natAbs<2^p)(h2:y.natAbs<2^q)(hp:p<=1099511627774)(hq:q<=1099511627774):
  aE prog 169 [bN x,bN y] (.tuple #[bN (x.fdiv y),bN (x.fmod y),.int .i64 0]):=by
 revert hy h1 h2;refine Fm (C:=λx y v u=>y≠0->x.natAbs<2^p->y.natAbs<2^q->aE prog 169 [v,u] (.tuple #[bN (x.fdiv y),bN (x.fmod y),.int .i64 0])) (λn1 n2 m1 m2 v1 v2 hy h1 h2=>?_) x y;rw[ql]at h1 h2;have HF:m2≠0:=by intro e;rw[e]at hy;cases n2<;>exact hy rfl
 have b1:=ub h1;have b2:=ub h2;have c1:=vK h1;have c2:=vK h2;obtain⟨Q,hQ⟩:∃ Q,Q=m1/m2:=⟨_,rfl⟩;obtain⟨R,hR⟩:∃ R,R=m1%m2:=⟨_,rfl⟩;have Ku:m1=Q*m2+R:=by rw[hQ,hR,cS];exact(jm _ _).symm
 have zp:R<m2:=by rw[hR];exact cL _ (tA HF)
 have TH:Q<=m1:=by rw[hQ];exact tD _ _
 have fQ:((Q*m2:Nat):Int)=(Q:Int)*m2:=om ..;have fix:R≠0->n1≠n2->(sg n1 m1).fdiv (sg n2 m2)=sg true (Q+1)/\(sg n1 m1).fmod (sg n2 m2)=sg n2 (m2-R):=λjA aV=>by
  refine N1 ?_ ?_
  ·rw[Ku];have e:((m2-R:Nat):Int)=(m2:Int)-R:=by omega
   cases n1<;>cases n2<;>first|exact absurd rfl aV|(simp only[sg,qG,uJ,uI,vJ,fQ,e,HA,HB,Kn,Int.add_mul];omega)
  ·cases n2
   ·left;simp only[sg,uJ,uI];omega
   ·right;simp only[sg,qG];omega
 have V4:¬(R≠0/\n1≠n2)->(sg n1 m1).fdiv (sg n2 m2)=sg (n1 !=n2) Q/\(sg n1 m1).fmod (sg n2 m2)=sg n2 R:=λh=>by
  have h0:n1≠n2->R=0:=λaV=>gP λh3=>h ⟨h3,aV⟩;refine N1 ?_ ?_
  ·rw[Ku];cases n1<;>cases n2<;>simp only[sg,Bool.bne_false,Bool.bne_true,J2,Ns,qG,uJ,uI,vJ,fQ,HA,HB,Kn]<;>first|omega|(have:=h0 n_;omega)
  ·cases n2
   ·left;simp only[sg,uJ,uI];omega
   ·right;simp only[sg,qG];omega
 have w1:=aWg n1 v1;have w2:=aWg n2 v2;have qB:((BA (cq m2)).toList==(ByteArray.mk #[]).toList)=false:=by rw[qT,aJ HF]
 have r2:=Lx m2;by_cases hs:nd 256 m1<=7/\nd 256 m2<=7
 ·obtain⟨s1,s2⟩:=hs;have l1:=IE s1;have l2:=IE s2;have td:=aPc n1 n2 m1 m2;have tm:=aPd n1 n2 m1 m2;rw[<-hQ]at td;rw[<-hR]at tm;have q1:=sY v1 s1;have q2:=sY v2 s2;have gx:=DX n1 m1;have gy:=DX n2 m2;have gq:=DX (n1 !=n2) Q;have gr:=DX n2 R;have gr2:=DX n2 (m2-R);have t52:=aPf n1 R;have t55:=V2 v1;have t57:=V2 v2;have wq:IntKind.i64.wrap ((sg n1 m1).tdiv (sg n2 m2))=sg (n1 !=n2) Q:=by rw[td,db];omega
  have back:∀ qq rr:Int,(sg n1 m1).fdiv (sg n2 m2)=qq->(sg n1 m1).fmod (sg n2 m2)=rr->sg n1 m1-qq*sg n2 m2=rr:=λqq rr e1 e2=>by have:=Int.mul_fdiv_add_fmod (sg n1 m1) (sg n2 m2);rw[e1,e2,TF]at this;omega
  by_cases hf:R≠0/\n1≠n2
  ·obtain⟨jA,aV⟩:=hf;obtain⟨f1,f2⟩:=fix jA aV;have bk:=back _ _ f1 f2;rw[f1,f2];rw[aB jA]at t52;have e1:sg (n1 !=n2) Q-1=sg true (Q+1):=by cases n1<;>cases n2<;>first|exact absurd rfl aV|(simp[sg];omega)
   have gq1:sg true (Q+1)=-((Q+1:Nat):Int):=rfl;have o1:=aWb (z:=sg true (Q+1)) o_ o_;have o2:=aWb (z:=sg n2 (m2-R)) o_ o_;have g1b:-4611686018427387904<=sg true (Q+1):=by rw[gq1];omega
   have g2b:sg true (Q+1)<=4611686018427387903:=by rw[gq1];omega
   have w61:IntKind.i64.wrap (sg (n1 !=n2) Q-1)=sg true (Q+1):=by rw[e1];exact aPe g1b g2b
   generalize hqq:sg true (Q+1)=qq at *;generalize hrr:sg n2 (m2-R)=rr at *;generalize sg n1 m1=X at *;generalize sg n2 m2=Y at *;have Gh:IntKind.i64.wrap (qq*Y)=qq*Y:=by
    have:qq*Y=X-rr:=by omega
    rw[this,db];omega
   have Gi:IntKind.i64.wrap (X-qq*Y)=rr:=by rw[bk,db];omega
   cases n1<;>cases n2<;>first|exact absurd rfl aV|skip
   ·exact aM func169 (λw=>[w1.at 15,w2.at 19,.rw 26 (.bool ((BA (cq m2)).toList==(ByteArray.mk #[]).toList)) (.bool false) (by rw[qB]),q1.at 31,.rw 38 _ (vI (nd 256 m2)) r2,.rw 39 (.bool (decide (((nd 256 m2:Nat):Int)<=7))) (.bool true) (by rw[aB o_]),q2.at 43,.qh f169 48 .i64 X Y _ hy wq k_,.xh f169 51 .i64 X Y _ hy tm k_,.rw 52 (.bool (sg false R !=0)) (.bool true) (by rw[t52]),.rw 55 (.bool (decide (X<0))) (.bool false) (by rw[t55]),.rw 57 (.bool (decide (Y<0))) (.bool true) (by rw[t57]),.wr 61 .i64 _ qq w61,o1.at 63,.wr 67 .i64 (qq*Y) (qq*Y) Gh,.wr 68 .i64 (X-qq*Y) rr Gi,o2.at 69])
   ·exact aM func169 (λw=>[w1.at 15,w2.at 19,.rw 26 (.bool ((BA (cq m2)).toList==(ByteArray.mk #[]).toList)) (.bool false) (by rw[qB]),q1.at 31,.rw 38 _ (vI (nd 256 m2)) r2,.rw 39 (.bool (decide (((nd 256 m2:Nat):Int)<=7))) (.bool true) (by rw[aB o_]),q2.at 43,.qh f169 48 .i64 X Y _ hy wq k_,.xh f169 51 .i64 X Y _ hy tm k_,.rw 52 (.bool (sg true R !=0)) (.bool true) (by rw[t52]),.rw 55 (.bool (decide (X<0))) (.bool true) (by rw[t55]),.rw 57 (.bool (decide (Y<0))) (.bool false) (by rw[t57]),.wr 61 .i64 _ qq w61,o1.at 63,.wr 67 .i64 (qq*Y) (qq*Y) Gh,.wr 68 .i64 (X-qq*Y) rr Gi,o2.at 69])
  ·obtain⟨f1,f2⟩:=V4 hf;have bk:=back _ _ f1 f2;rw[f1,f2];have o1:=aWb (z:=sg (n1 !=n2) Q) o_ o_;have o2:=aWb (z:=sg n2 R) o_ o_;by_cases jA:R=0
   ·rw[aJ (λh=>h jA)]at t52;generalize hqq:sg (n1 !=n2) Q=qq at *;generalize hrr:sg n2 R=rr at *;generalize sg n1 m1=X at *;generalize sg n2 m2=Y at *;have Gh:IntKind.i64.wrap (qq*Y)=qq*Y:=by
     have:qq*Y=X-rr:=by omega
     rw[this,db];omega
    have Gi:IntKind.i64.wrap (X-qq*Y)=rr:=by rw[bk,db];omega
    exact aM func169 (λw=>[w1.at 15,w2.at 19,.rw 26 (.bool ((BA (cq m2)).toList==(ByteArray.mk #[]).toList)) (.bool false) (by rw[qB]),q1.at 31,.rw 38 _ (vI (nd 256 m2)) r2,.rw 39 (.bool (decide (((nd 256 m2:Nat):Int)<=7))) (.bool true) (by rw[aB o_]),q2.at 43,.qh f169 48 .i64 X Y _ hy wq k_,.xh f169 51 .i64 X Y _ hy tm k_,.rw 52 (.bool (sg n1 R !=0)) (.bool false) (by rw[t52]),o1.at 63,.wr 67 .i64 (qq*Y) (qq*Y) Gh,.wr 68 .i64 (X-qq*Y) rr Gi,o2.at 69])
   ·have aV:n1=n2:=gP λh=>hf ⟨jA,h⟩;subst aV;rw[aB jA]at t52;generalize hqq:sg (n1 !=n1) Q=qq at *;generalize hrr:sg n1 R=rr at *;generalize sg n1 m1=X at *;generalize sg n1 m2=Y at *;have Gh:IntKind.i64.wrap (qq*Y)=qq*Y:=by
     have:qq*Y=X-rr:=by omega
     rw[this,db];omega
    have Gi:IntKind.i64.wrap (X-qq*Y)=rr:=by rw[bk,db];omega
    cases n1
    ·exact aM func169 (λw=>[w1.at 15,w2.at 19,.rw 26 (.bool ((BA (cq m2)).toList==(ByteArray.mk #[]).toList)) (.bool false) (by rw[qB]),q1.at 31,.rw 38 _ (vI (nd 256 m2)) r2,.rw 39 (.bool (decide (((nd 256 m2:Nat):Int)<=7))) (.bool true) (by rw[aB o_]),q2.at 43,.qh f169 48 .i64 X Y _ hy wq k_,.xh f169 51 .i64 X Y _ hy tm k_,.rw 52 (.bool (rr !=0)) (.bool true) (by rw[t52]),.rw 55 (.bool (decide (X<0))) (.bool false) (by rw[t55]),.rw 57 (.bool (decide (Y<0))) (.bool false) (by rw[t57]),o1.at 63,.wr 67 .i64 (qq*Y) (qq*Y) Gh,.wr 68 .i64 (X-qq*Y) rr Gi,o2.at 69])
    ·exact aM func169 (λw=>[w1.at 15,w2.at 19,.rw 26 (.bool ((BA (cq m2)).toList==(ByteArray.mk #[]).toList)) (.bool false) (by rw[qB]),q1.at 31,.rw 38 _ (vI (nd 256 m2)) r2,.rw 39 (.bool (decide (((nd 256 m2:Nat):Int)<=7))) (.bool true) (by rw[aB o_]),q2.at 43,.qh f169 48 .i64 X Y _ hy wq k_,.xh f169 51 .i64 X Y _ hy tm k_,.rw 52 (.bool (rr !=0)) (.bool true) (by rw[t52]),.rw 55 (.bool (decide (X<0))) (.bool true) (by rw[t55]),.rw 57 (.bool (decide (Y<0))) (.bool true) (by rw[t57]),o1.at 63,.wr 67 .i64 (qq*Y) (qq*Y) Gh,.wr 68 .i64 (X-qq*Y) rr Gi,o2.at 69])
 ·have bQ:nd bz Q<1099511627776:=by have:=iU (B:=bz) d_ TH;omega
  have bR:nd bz R<1099511627776:=by have:=iU (B:=bz) d_ (je zp);omega
  have bD:nd bz (m2-R)<1099511627776:=by have:=iU (B:=bz) d_ (BB m2 R);omega
  have bQ1:nd bz (Q+1)<1099511627776:=by have:=ub (m:=Q+1) (n:=p+1) (by rw[dy];omega);omega
  have qk:∀ w,cD prog (aa.at w) (av f169 77) [.func (.func 200) #[] #[],sl 4 (nd bz m1),sl 5 (nd bz m2)] [(4,some (da m1)),(5,some (da m2)),(6,none),(7,none)] (.tuple #[sl 6 (nd bz Q),sl 7 (nd bz R)]) [(7,da R),(6,da Q)]:=λw=>by rw[hQ,hR];exact aWL (Bs:=aa.at w) (o:=av f169 77) (y:=.func 200) k_ (k1:=4) (k2:=5) (kq:=6) (kr:=7) d_ HF o_ o_
  have x7:∀ w,cD prog (aa.at w) (av f169 92) [.func (.func 94) #[] #[],sl 6 (nd bz Q),sl 8 1] [(9,none),(6,some (da Q)),(8,some (.row [vI 1] 3 1))] (sl 9 (nd bz (Q+1))) [(9,cA (Q+1))]:=λw=>by have:=qo (B:=aa.at w) (o:=av f169 92) (x:=.func 94) (aDj (a:=Q) (b:=1) o_ (by rw[V1.1];omega)) (nY (k:=6) (x:=da Q) rfl rfl (nY (k:=8) (x:=.row (cN 1) 3 1) rfl rfl .nil)) k_ k_ (sT _) 9;rw[V1.1,V1.2]at this;exact this
  have uK:∀ t:Bool,decide (0<nd bz R)=t↔decide (R≠0)=t:=λt=>by have:(0<nd bz R)↔R≠0:=⟨λh e=>by rw[e,pw]at h;omega,λh=>uF d_ h⟩;rw[oQ.2 this]
  by_cases s1:nd 256 m1<=7
  ·have s2:¬nd 256 m2<=7:=λh=>hs ⟨s1,h⟩;have q1:=sY v1 s1;by_cases hf:R≠0/\n1≠n2
   ·obtain⟨jA,aV⟩:=hf;obtain⟨f1,f2⟩:=fix jA aV;rw[f1,f2];cases n1<;>cases n2<;>first|exact absurd rfl aV|skip
    ·exact aM func169 (λw=>[w1.at 15,w2.at 19,.rw 26 (.bool ((BA (cq m2)).toList==(ByteArray.mk #[]).toList)) (.bool false) (by rw[qB]),q1.at 31,.rw 38 _ (vI (nd 256 m2)) r2,.rw 39 (.bool (decide (((nd 256 m2:Nat):Int)<=7))) (.bool false) (by rw[aJ o_]),.lZ f169 73 4 m1 o_ k_,.lZ f169 76 5 m2 o_ k_,.step 77 _ _ _ _ _ (qk w),.gt 88 (nd bz R) 0 true ((uK _).2 (aB jA)),.bs f169 91 8 1 3 1 [0] (vI 0) [vI 1] #[vI 1] (.row [vI 1] 3 1) rfl (λv hv=>by simp at hv;subst hv;rfl) (λv hv=>by simp at hv;subst hv;rfl) k_ rfl o_ o_ k_,.step 92 (av f169 92) _ _ _ _ (x7 w),.eP f169 95 10 m2 o_ k_,.ua f169 97 11 10 7 m2 R (cA m2) (da R) rfl rfl rfl rfl (je zp) o_ k_,.fC f169 104 9 (Q+1) true (cA (Q+1)) rfl rfl o_ k_,.fC f169 108 11 (m2-R) true (cA (m2-R)) rfl rfl o_ k_])
    ·exact aM func169 (λw=>[w1.at 15,w2.at 19,.rw 26 (.bool ((BA (cq m2)).toList==(ByteArray.mk #[]).toList)) (.bool false) (by rw[qB]),q1.at 31,.rw 38 _ (vI (nd 256 m2)) r2,.rw 39 (.bool (decide (((nd 256 m2:Nat):Int)<=7))) (.bool false) (by rw[aJ o_]),.lZ f169 73 4 m1 o_ k_,.lZ f169 76 5 m2 o_ k_,.step 77 _ _ _ _ _ (qk w),.gt 88 (nd bz R) 0 true ((uK _).2 (aB jA)),.bs f169 91 8 1 3 1 [0] (vI 0) [vI 1] #[vI 1] (.row [vI 1] 3 1) rfl (λv hv=>by simp at hv;subst hv;rfl) (λv hv=>by simp at hv;subst hv;rfl) k_ rfl o_ o_ k_,.step 92 (av f169 92) _ _ _ _ (x7 w),.eP f169 95 10 m2 o_ k_,.ua f169 97 11 10 7 m2 R (cA m2) (da R) rfl rfl rfl rfl (je zp) o_ k_,.fC f169 104 9 (Q+1) true (cA (Q+1)) rfl rfl o_ k_,.fC f169 108 11 (m2-R) false (cA (m2-R)) rfl rfl o_ k_])
   ·obtain⟨f1,f2⟩:=V4 hf;rw[f1,f2];cases n1<;>cases n2
    ·exact aM func169 (λw=>[w1.at 15,w2.at 19,.rw 26 (.bool ((BA (cq m2)).toList==(ByteArray.mk #[]).toList)) (.bool false) (by rw[qB]),q1.at 31,.rw 38 _ (vI (nd 256 m2)) r2,.rw 39 (.bool (decide (((nd 256 m2:Nat):Int)<=7))) (.bool false) (by rw[aJ o_]),.lZ f169 73 4 m1 o_ k_,.lZ f169 76 5 m2 o_ k_,.step 77 _ _ _ _ _ (qk w),.fC f169 104 6 Q false (da Q) rfl rfl o_ k_,.fC f169 108 7 R false (da R) rfl rfl o_ k_])
    ·have jA:R=0:=gP λh3=>hf ⟨h3,λe=>by cases e⟩;exact aM func169 (λw=>[w1.at 15,w2.at 19,.rw 26 (.bool ((BA (cq m2)).toList==(ByteArray.mk #[]).toList)) (.bool false) (by rw[qB]),q1.at 31,.rw 38 _ (vI (nd 256 m2)) r2,.rw 39 (.bool (decide (((nd 256 m2:Nat):Int)<=7))) (.bool false) (by rw[aJ o_]),.lZ f169 73 4 m1 o_ k_,.lZ f169 76 5 m2 o_ k_,.step 77 _ _ _ _ _ (qk w),.gt 88 (nd bz R) 0 false ((uK _).2 (aJ (λh=>h jA))),.fC f169 104 6 Q true (da Q) rfl rfl o_ k_,.fC f169 108 7 R true (da R) rfl rfl o_ k_])
    ·have jA:R=0:=gP λh3=>hf ⟨h3,λe=>by cases e⟩;exact aM func169 (λw=>[w1.at 15,w2.at 19,.rw 26 (.bool ((BA (cq m2)).toList==(ByteArray.mk #[]).toList)) (.bool false) (by rw[qB]),q1.at 31,.rw 38 _ (vI (nd 256 m2)) r2,.rw 39 (.bool (decide (((nd 256 m2:Nat):Int)<=7))) (.bool false) (by rw[aJ o_]),.lZ f169 73 4 m1 o_ k_,.lZ f169 76 5 m2 o_ k_,.step 77 _ _ _ _ _ (qk w),.gt 88 (nd bz R) 0 false ((uK _).2 (aJ (λh=>h jA))),.fC f169 104 6 Q true (da Q) rfl rfl o_ k_,.fC f169 108 7 R false (da R) rfl rfl o_ k_])
    ·exact aM func169 (λw=>[w1.at 15,w2.at 19,.rw 26 (.bool ((BA (cq m2)).toList==(ByteArray.mk #[]).toList)) (.bool false) (by rw[qB]),q1.at 31,.rw 38 _ (vI (nd 256 m2)) r2,.rw 39 (.bool (decide (((nd 256 m2:Nat):Int)<=7))) (.bool false) (by rw[aJ o_]),.lZ f169 73 4 m1 o_ k_,.lZ f169 76 5 m2 o_ k_,.step 77 _ _ _ _ _ (qk w),.fC f169 104 6 Q false (da Q) rfl rfl o_ k_,.fC f169 108 7 R true (da R) rfl rfl o_ k_])
  ·have q1:=vg (neg:=n1) s1;by_cases hf:R≠0/\n1≠n2
   ·obtain⟨jA,aV⟩:=hf;obtain⟨f1,f2⟩:=fix jA aV;rw[f1,f2];cases n1<;>cases n2<;>first|exact absurd rfl aV|skip
    ·exact aM func169 (λw=>[w1.at 15,w2.at 19,.rw 26 (.bool ((BA (cq m2)).toList==(ByteArray.mk #[]).toList)) (.bool false) (by rw[qB]),q1.at 31,.lZ f169 73 4 m1 o_ k_,.lZ f169 76 5 m2 o_ k_,.step 77 _ _ _ _ _ (qk w),.gt 88 (nd bz R) 0 true ((uK _).2 (aB jA)),.bs f169 91 8 1 3 1 [0] (vI 0) [vI 1] #[vI 1] (.row [vI 1] 3 1) rfl (λv hv=>by simp at hv;subst hv;rfl) (λv hv=>by simp at hv;subst hv;rfl) k_ rfl o_ o_ k_,.step 92 (av f169 92) _ _ _ _ (x7 w),.eP f169 95 10 m2 o_ k_,.ua f169 97 11 10 7 m2 R (cA m2) (da R) rfl rfl rfl rfl (je zp) o_ k_,.fC f169 104 9 (Q+1) true (cA (Q+1)) rfl rfl o_ k_,.fC f169 108 11 (m2-R) true (cA (m2-R)) rfl rfl o_ k_])
    ·exact aM func169 (λw=>[w1.at 15,w2.at 19,.rw 26 (.bool ((BA (cq m2)).toList==(ByteArray.mk #[]).toList)) (.bool false) (by rw[qB]),q1.at 31,.lZ f169 73 4 m1 o_ k_,.lZ f169 76 5 m2 o_ k_,.step 77 _ _ _ _ _ (qk w),.gt 88 (nd bz R) 0 true ((uK _).2 (aB jA)),.bs f169 91 8 1 3 1 [0] (vI 0) [vI 1] #[vI 1] (.row [vI 1] 3 1) rfl (λv hv=>by simp at hv;subst hv;rfl) (λv hv=>by simp at hv;subst hv;rfl) k_ rfl o_ o_ k_,.step 92 (av f169 92) _ _ _ _ (x7 w),.eP f169 95 10 m2 o_ k_,.ua f169 97 11 10 7 m2 R (cA m2) (da R) rfl rfl rfl rfl (je zp) o_ k_,.fC f169 104 9 (Q+1) true (cA (Q+1)) rfl rfl o_ k_,.fC f169 108 11 (m2-R) false (cA (m2-R)) rfl rfl o_ k_])
   ·obtain⟨f1,f2⟩:=V4 hf;rw[f1,f2];cases n1<;>cases n2
    ·exact aM func169 (λw=>[w1.at 15,w2.at 19,.rw 26 (.bool ((BA (cq m2)).toList==(ByteArray.mk #[]).toList)) (.bool false) (by rw[qB]),q1.at 31,.lZ f169 73 4 m1 o_ k_,.lZ f169 76 5 m2 o_ k_,.step 77 _ _ _ _ _ (qk w),.fC f169 104 6 Q false (da Q) rfl rfl o_ k_,.fC f169 108 7 R false (da R) rfl rfl o_ k_])
    ·have jA:R=0:=gP λh3=>hf ⟨h3,λe=>by cases e⟩;exact aM func169 (λw=>[w1.at 15,w2.at 19,.rw 26 (.bool ((BA (cq m2)).toList==(ByteArray.mk #[]).toList)) (.bool false) (by rw[qB]),q1.at 31,.lZ f169 73 4 m1 o_ k_,.lZ f169 76 5 m2 o_ k_,.step 77 _ _ _ _ _ (qk w),.gt 88 (nd bz R) 0 false ((uK _).2 (aJ (λh=>h jA))),.fC f169 104 6 Q true (da Q) rfl rfl o_ k_,.fC f169 108 7 R true (da R) rfl rfl o_ k_])
    ·have jA:R=0:=gP λh3=>hf ⟨h3,λe=>by cases e⟩;exact aM func169 (λw=>[w1.at 15,w2.at 19,.rw 26 (.bool ((BA (cq m2)).toList==(ByteArray.mk #[]).toList)) (.bool false) (by rw[qB]),q1.at 31,.lZ f169 73 4 m1 o_ k_,.lZ f169 76 5 m2 o_ k_,.step 77 _ _ _ _ _ (qk w),.gt 88 (nd bz R) 0 false ((uK _).2 (aJ (λh=>h jA))),.fC f169 104 6 Q true (da Q) rfl rfl o_ k_,.fC f169 108 7 R false (da R) rfl rfl o_ k_])
    ·exact aM func169 (λw=>[w1.at 15,w2.at 19,.rw 26 (.bool ((BA (cq m2)).toList==(ByteArray.mk #[]).toList)) (.bool false) (by rw[qB]),q1.at 31,.lZ f169 73 4 m1 o_ k_,.lZ f169 76 5 m2 o_ k_,.step 77 _ _ _ _ _ (qk w),.fC f169 104 6 Q false (da Q) rfl rfl o_ k_,.fC f169 108 7 R true (da R) rfl rfl o_ k_])

theorem aPg{Bs:aa}{o:Oper}{y:Operand}(ho:dx o.op=some y){k off n a cc:Nat}{x:Obj}(hx:x.reads=true)(cQ:(x.cells.all flat)=true)(hc:(x.cells.drop off).take n=ai (ae bz n a))(ha:a<bz^n)(h63:n<=9223372036854775807):
  cD prog Bs o [.func (.func 139) #[] #[],.slice (some ⟨k,off,some 7⟩) n cc] [(k,some x)] (.slice (some ⟨k,off,some 7⟩) (nd bz a) cc) []:=by
 refine jM (fi:=[]) (ca:=[]) ho k_ λι c w hm hn args' dj=>?_;obtain⟨v,rfl,h1⟩:=ml dj;have hk:c k=some x:=hn _ (aU ..);have hr:=oP (len:=n) hm hk hx (bh.1 cQ) (λh=>h) h1;rw[hc]at hr;refine(aCZ hr ha h63).mono ?_
 rintro e w' ⟨rfl,hb⟩
 refine⟨ι,_,rfl,Map.le.refl _,?_,hm.call hb⟩;have iD:=jl (B:=bz) d_ ha;rcases h1.iw rfl with ⟨q1,q2,q3,q4,q5⟩|⟨b,oo,cap,c',q1,q2,q3,q5⟩
 ·rw[q5];have:nd bz a=0:=by omega
  dsimp only at q4;rw[this,q4,q3];exact .slcN q1
 ·rw[q5];exact .slc q1 o_ q3
theorem aPh(x:Int):IntKind.i64.wrap (((BitVec.ofInt IntKind.i64.bits x)&&& (BitVec.ofInt IntKind.i64.bits 1)).toNat:Int)=x%2:=aDv x 1 d_
theorem aDH(x:Nat):IntKind.i64.wrap (((BitVec.ofInt IntKind.i64.bits (x:Int))&&& (BitVec.ofInt IntKind.i64.bits 1)).toNat:Int)=((x%2:Nat):Int):=by rw[aPh];rfl
theorem aPi{n z a:Nat}(hz:z<=n)(h0:∀ i,i<z->a/bz^i%bz=0):ae bz n a=List.replicate z 0++ae bz (n-z) (a/bz^z):=by
 apply xa
 ·simp[oR];omega
 ·intro i h1 h2;rw[oR]at h1;by_cases hi:i<z
  ·rw[List.getElem_append_left (by simpa using hi)];simp only[ae,CE,CF,List.getElem_replicate];exact h0 i hi
  ·rw[List.getElem_append_right (by simp;omega)];simp only[ae,CE,CF,ID];rw[kQ,<-eD,show z+(i-z)=i by omega]
theorem aDI{a:Nat}:∀ z,(∀ i,i<z->a/bz^i%bz=0)->a%bz^z=0
 |0,_=>by rw[r7,tB]
 |z+1,h=>by rw[pz,aDI z (λi hi=>h i o_),h z o_];simp
theorem V5{d:Nat}:∀ r,(∀ i,i<r->d/2^i%2=0)->d%2^r=0
 |0,_=>by rw[r7,tB]
 |r+1,h=>by have e:=pz (B:=2) d r;rw[V5 r (λi hi=>h i o_),h r o_]at e;rw[e];simp
theorem aPj{x y r:Nat}(hr:r<=24)(hx:x<bz)(hy:y<bz):x/2^r+y*2^(24-r)%bz=(y*bz+x)/2^r%bz:=by
 have hb:bz=2^(24-r)*2^r:=by rw[<-eD,show 24-r+r=24 by omega]
 have h2:0<2^r:=cK d_;obtain⟨c,hc⟩:∃ c,c=2^(24-r):=⟨_,rfl⟩;obtain⟨q,hq⟩:∃ q,q=2^r:=⟨_,rfl⟩;rw[<-hc,<-hq]at hb;rw[<-hc,<-hq];rw[<-hq]at h2;have h3:x/q<c:=by rw[iK h2,<-hb];exact hx
 have e1:(y*bz+x)/q=y*c+x/q:=by rw[hb,<-fO,mW,pA _ _ h2,mW]
 have e2:y*c%bz=c*(y%q):=by rw[hb,cS y c,Nat.mul_mod_mul_left]
 have e3:y*c=c*(y%q)+bz*(y/q):=by have:=jm y q;rw[hb,fO,<-oS,mW,this,cS]
 have h4:y%q<q:=cL _ h2;have h5:c*(y%q)+c<=bz:=by rw[hb,<-Nj];exact jz _ h4
 have h6:c*(y%q)+x/q<bz:=by omega
 rw[e1,e2,e3,show c*(y%q)+bz*(y/q)+x/q=(c*(y%q)+x/q)+bz*(y/q)by omega,EY,dK h6];omega
section
variable{Bs:aa}{n a z r:Nat}
def x8(k n z:Nat):Value:=.slice (some ⟨k,z*1,some 7⟩) n z
def x9(n i:Nat):aR:=[(0,x8 0 (n-i) i),(4,vI (24*i))]
def nw(n a:Nat):aH:=[(0,.row (ai (ae bz n a)) 3 1)]
theorem aPk{i:Nat}(hi:i+1<n)(h0:a/bz^i%bz=0)(h63:n<35184372088832):
  ag prog Bs 62 (aF (af f95 0)) (x9 n i) (nw n a) 1 ⟨.normal,x9 n (i+1),nw n a,1⟩:=by
 have jf:dw prog 3 (ai (ae bz n a)) (i*1)=some (vI 0):=by rw[fX,dQ (eB o_),h0]
 unfold x9 nw x8;generalize ai (ae bz n a)=r0 at *;obtain⟨m,hm⟩:∃ m,n-i=m+1:=⟨n-i-1,by omega⟩;have dC:n-(i+1)=m:=by omega
 rw[hm,dC];exact aC [.pL f95 8 0 i (m+1) i 0 i 1 o_ (jv i) k_,.ld f95 9 3 0 (i*1) (.row r0 3 1) (vI 0) rfl jf k_,.fv 10 0 0 true rfl,.next f95 12 0 i m 1 o_ k_,.sum 14 (24*i) 24 (24*(i+1)) o_ o_]
theorem aPl{i:Nat}(hi:i<n)(h0:a/bz^i%bz≠0):
  ag prog Bs 62 (aF (af f95 0)) (x9 n i) (nw n a) 1 ⟨.exit 0,x9 n i,nw n a,1⟩:=by
 have jf:dw prog 3 (ai (ae bz n a)) (i*1)=some (vI (a/bz^i%bz)):=by rw[fX,dQ (eB o_)]
 unfold x9 nw x8;generalize ai (ae bz n a)=r0 at *;generalize a/bz^i%bz=d at *;exact aC [.pL f95 8 0 i (n-i) i 0 i 1 o_ (jv i) k_,.ld f95 9 3 0 (i*1) (.row r0 3 1) (vI d) rfl jf k_,.fv 10 d 0 false (aJ h0)]
theorem aPm(hz:z<n)(h0:∀ i,i<z->a/bz^i%bz=0)(h1:a/bz^z%bz≠0)(h63:n<35184372088832):
  ag prog Bs 62 (.block 0 (af f95 0)) (x9 n 0) (nw n a) 1 ⟨.normal,x9 n z,nw n a,1⟩:=
 bT (id:=0) (cd (b:=aF (af f95 0)) (r:=⟨.exit 0,x9 n z,nw n a,1⟩) z (x9 n) (λ_=>nw n a) (λ_ _ _=>Iff.rfl) (λi hi=>aPk o_ (h0 i hi) h63) (aPl hz h1) n_)
def ya(n z i:Nat):aR:=[(0,x8 0 (n-z) z),(5,vI i)]
theorem aPn{i d:Nat}(hz:z<n)(hd:a/bz^z%bz=d)(D4:d<bz)(hi:i<24)(h0:d/2^i%2=0):
  ag prog Bs 62 (aF (af f95 2)) (ya n z i) (nw n a) 1 ⟨.normal,ya n z (i+1),nw n a,1⟩:=by
 have jf:dw prog 3 (ai (ae bz n a)) (z*1)=some (vI d):=by rw[fX,dQ (eB o_),hd]
 unfold ya nw x8;generalize ai (ae bz n a)=r0 at *;exact aC [.pL f95 16 0 z (n-z) z 0 z 1 o_ (jv z) k_,.ld f95 17 3 0 (z*1) (.row r0 3 1) (vI d) rfl jf k_,.shr f95 19 .i64 (d:Int) ((d/2^i:Nat):Int) i (by rw[show min i IntKind.i64.bits=i from oq (show i<=64 by omega),r6 _ (Hm d_),tC,Hn];rfl) k_,.wr 20 .i64 _ ((d/2^i%2:Nat):Int) (aDH _),.fv 21 (d/2^i%2) 0 true (aB h0),.sum 23 i 1 (i+1) rfl o_]
theorem aPo{i d:Nat}(hz:z<n)(hd:a/bz^z%bz=d)(D4:d<bz)(hi:i<24)(h0:d/2^i%2≠0):
  ag prog Bs 62 (aF (af f95 2)) (ya n z i) (nw n a) 1 ⟨.exit 2,ya n z i,nw n a,1⟩:=by
 have jf:dw prog 3 (ai (ae bz n a)) (z*1)=some (vI d):=by rw[fX,dQ (eB o_),hd]
 unfold ya nw x8;generalize ai (ae bz n a)=r0 at *;exact aC [.pL f95 16 0 z (n-z) z 0 z 1 o_ (jv z) k_,.ld f95 17 3 0 (z*1) (.row r0 3 1) (vI d) rfl jf k_,.shr f95 19 .i64 (d:Int) ((d/2^i:Nat):Int) i (by rw[show min i IntKind.i64.bits=i from oq (show i<=64 by omega),r6 _ (Hm d_),tC,Hn];rfl) k_,.wr 20 .i64 _ ((d/2^i%2:Nat):Int) (aDH _),.fv 21 (d/2^i%2) 0 false (aJ h0)]
theorem aPp{d:Nat}(hz:z<n)(hd:a/bz^z%bz=d)(D4:d<bz)(hr:r<24)(h0:∀ i,i<r->d/2^i%2=0)(h1:d/2^r%2≠0):
  ag prog Bs 62 (.block 2 (af f95 2)) (ya n z 0) (nw n a) 1 ⟨.normal,ya n z r,nw n a,1⟩:=
 bT (id:=2) (cd (b:=aF (af f95 2)) (r:=⟨.exit 2,ya n z r,nw n a,1⟩) r (ya n z) (λ_=>nw n a) (λ_ _ _=>Iff.rfl) (λi hi=>aPn hz hd D4 o_ (h0 i hi)) (aPo hz hd D4 hr h1) n_)
def D5(l z r i:Nat):aR:=[(0,x8 0 l z),(5,vI r),(6,vI i)]
def pb(l z r a1 i:Nat):List Nat:=List.replicate z 0++c8 bz l i (a1/2^r) a1
def Ah(l z r a1 i:Nat):aH:=[(0,.row (ai (pb l z r a1 i)) 3 1)]
theorem aDJ{l a1 i j:Nat}(hj:j<l)(h:i<=j):(pb l z r a1 i)[z+j]?=some (a1/bz^j%bz):=by unfold pb;rw[ED s_,ID,E8];exact CG hj h
theorem aDK{l a1 i d:Nat}(hi:i<l)(hd:d=a1/2^r/bz^i%bz):(pb l z r a1 i).set (z+i) d=pb l z r a1 (i+1):=by unfold pb;rw[Ve _ _ s_,ID,E8,yU hi hd]
theorem V6{l a1 i:Nat}:(pb l z r a1 i).length=z+l:=by unfold pb;rw[jx,ID,xc]
theorem aPq{l a1 i:Nat}(hr:r<24)(hi:i<l)(ha:a1<bz^l)(h63:z+l<35184372088832):
  ag prog Bs 62 (aF (af f95 4)) (D5 l z r i) (Ah l z r a1 i) 1 ⟨.normal,D5 l z r (i+1),Ah l z r a1 (i+1),1⟩:=by
 have hx:=hZ (B:=bz) d_ a1 i;have hy:=hZ (B:=bz) d_ a1 (i+1);have vf:=aPj (r:=r) o_ hx hy;rw[aAs (B:=bz) (k:=r) (X:=a1) (i:=i) d_ ⟨2^(24-r),by rw[<-eD,show r+(24-r)=24 by omega]⟩]at vf;have hw:=hZ (B:=bz) d_ (a1/2^r) i;have hlx:dw prog 3 (ai (pb l z r a1 i)) ((z+i)*1)=some (vI (a1/bz^i%bz)):=by rw[fX];exact dQ (aDJ hi (bt _))
 obtain⟨D6,DH⟩:∃ D6,D6=(pb l z r a1 i).set (z+i) (a1/bz^i%bz/2^r):=⟨_,rfl⟩;have wX:e6 prog 3 (ai (pb l z r a1 i)) ((z+i)*1) (vI (a1/bz^i%bz/2^r))=some (ai D6):=by rw[fX,wx (by rw[V6];omega),DH]
 have D3:dw prog 3 (ai D6) ((z+i)*1)=some (vI (a1/bz^i%bz/2^r)):=by rw[fX];refine dQ ?_;rw[DH,List.getElem?_set_self (by rw[V6];omega)]
 have V7:i+1<l->dw prog 3 (ai D6) ((z+(i+1))*1)=some (vI (a1/bz^(i+1)%bz)):=λh=>by rw[fX];refine dQ ?_;rw[DH,List.getElem?_set_ne o_];exact aDJ h o_
 have uA:e6 prog 3 (ai D6) ((z+i)*1) (vI (a1/2^r/bz^i%bz))=some (ai (pb l z r a1 (i+1))):=by rw[fX,wx (by rw[DH,VT,V6];omega),DH,List.set_set,aDK hi rfl]
 have vF:¬i+1<l->ai D6=ai (pb l z r a1 (i+1))/\True:=λh=>by have h0:a1/bz^(i+1)%bz=0:=qQ ha o_ d_;rw[h0,lN,Nat.zero_mod,jv]at vf;refine⟨?_,trivial⟩;rw[DH,vf,aDK hi rfl]
 have jW:bz=16777216:=rfl;unfold D5 Ah x8;generalize ai (pb l z r a1 (i+1))=r2 at *;generalize ai (pb l z r a1 i)=r0 at *;generalize ai D6=r1 at *;generalize a1/2^r/bz^i%bz=w at *;generalize a1/bz^(i+1)%bz=y at *;generalize a1/bz^i%bz=x at *;have hq:(x:Int).fdiv (2^(min r IntKind.i64.bits))=((x/2^r:Nat):Int):=by rw[show min r IntKind.i64.bits=r from oq (show r<=64 by omega),r6 _ (Hm d_),tC,Hn];rfl
 have hxq:x/2^r<=x:=tD _ _;by_cases hl:i+1<l
 ·have V7:=V7 hl;have h24:y*2^(24-r)<281474976710656:=by have h1:2^(24-r)<=2^24:=c9 d_ o_;have h2:=aAw hy h1 d_;rw[show bz*2^24=281474976710656 by decide]at h2;exact h2
  have aDL:IntKind.i64.wrap ((y:Int)*2^(min (24-r) IntKind.i64.bits))=((y*2^(24-r):Nat):Int):=by
   have e:(y:Int)*2^(24-r)=((y*2^(24-r):Nat):Int):=by simp
   rw[show min (24-r) IntKind.i64.bits=24-r from oq (show 24-r<=64 by omega),db,e];omega
  obtain⟨g,hg⟩:∃ g,g=y*2^(24-r):=⟨_,rfl⟩;rw[<-hg]at vf aDL h24;obtain⟨v,hv⟩:∃ v,v=x/2^r:=⟨_,rfl⟩;rw[<-hv]at vf hq hxq wX D3;exact fq mixed 200 [.lt 27 i l true (by simp[hi]),.pL f95 32 0 z l z i (z+i) 1 hi rfl k_,.ld f95 33 3 0 ((z+i)*1) (.row r0 3 1) (vI x) rfl hlx k_,.shr f95 35 .i64 (x:Int) (v:Int) r hq k_,.pL f95 36 0 z l z i (z+i) 1 hi rfl k_,.st f95 100036 3 0 ((z+i)*1) (.row r0 3 1) (vI v) (.row r1 3 1) rfl wX rfl k_,.sum 38 i 1 (i+1) rfl o_,.lt 41 (i+1) l true (by simp[hl]),.pL f95 44 0 z l z i (z+i) 1 hi rfl k_,.ld f95 45 3 0 ((z+i)*1) (.row r1 3 1) (vI v) rfl D3 k_,.sum 48 i 1 (i+1) rfl o_,.pL f95 49 0 z l z (i+1) (z+(i+1)) 1 hl rfl k_,.ld f95 50 3 0 ((z+(i+1))*1) (.row r1 3 1) (vI y) rfl V7 k_,.e7 52 24 r (24-r) o_ o_,.shl f95 53 .i64 (y:Int) (g:Int) (24-r) aDL k_,.F9 54 g bz (g%bz) rfl,.sum 55 v (g%bz) w vf.symm o_,.pL f95 56 0 z l z i (z+i) 1 hi rfl k_,.st f95 100056 3 0 ((z+i)*1) (.row r1 3 1) (vI w) (.row r2 3 1) rfl uA rfl k_,.sum 29 i 1 (i+1) rfl o_] k_
 ·obtain⟨e1,_⟩:=vF hl;subst e1;obtain⟨v,hv⟩:∃ v,v=x/2^r:=⟨_,rfl⟩;rw[<-hv]at vf hq hxq wX D3;exact fq mixed 200 [.lt 27 i l true (by simp[hi]),.pL f95 32 0 z l z i (z+i) 1 hi rfl k_,.ld f95 33 3 0 ((z+i)*1) (.row r0 3 1) (vI x) rfl hlx k_,.shr f95 35 .i64 (x:Int) (v:Int) r hq k_,.pL f95 36 0 z l z i (z+i) 1 hi rfl k_,.st f95 100036 3 0 ((z+i)*1) (.row r0 3 1) (vI v) (.row r1 3 1) rfl wX rfl k_,.sum 38 i 1 (i+1) rfl o_,.lt 41 (i+1) l false (by simp[hl]),.sum 29 i 1 (i+1) rfl o_] k_
theorem aPr{l a1:Nat}(hr:r<24)(ha:a1<bz^l)(h63:z+l<35184372088832):
  ag prog Bs 62 (.block 4 (af f95 4)) (D5 l z r 0) (Ah l z r a1 0) 1 ⟨.normal,D5 l z r l,Ah l z r a1 l,1⟩:=
 bT (id:=4) (cd (b:=aF (af f95 4)) (r:=⟨.exit 4,D5 l z r l,Ah l z r a1 l,1⟩) l (D5 l z r) (Ah l z r a1) (λk j _=>j0 (l:=Ah l z r a1 k) (m:=Ah l z r a1 0) rfl j) (λi hi=>aPq hr hi ha h63)
  (aC [.lt 27 l l false s_]) n_)
end

theorem aDM{a:Nat}(h0:a≠0):∃ z r,z<nd bz a/\r<24/\(∀ i,i<z->a/bz^i%bz=0)/\a/bz^z%bz≠0/\(∀ i,i<r->a/bz^z%bz/2^i%2=0)/\a/bz^z%bz/2^r%2≠0/\
  a=a/bz^z/2^r*2^(24*z+r)/\a/bz^z/2^r%2=1:=by
 have hnp:=uF (B:=bz) d_ h0;have xt:¬a/bz^(nd bz a-1)%bz=0:=λh=>by have h1:=dU (B:=bz) d_ a;rw[show nd bz a=nd bz a-1+1 by omega]at h1;have h2:=(G1 (B:=bz) d_ h1).1 h;have h3:=jl (B:=bz) d_ h2;omega
 obtain⟨z,z1,z2,z3⟩:=yT (λi=>¬a/bz^i%bz=0) _ xt;have z3':∀ i,i<z->a/bz^i%bz=0:=λi hi=>E3.1 (z3 i hi);obtain⟨d,hd⟩:∃ d,d=a/bz^z%bz:=⟨_,rfl⟩;have D4:d<bz:=by rw[hd];exact cL _ d_
 have C9:d≠0:=by rw[hd];exact z2
 have aPs:∃ i,i<24/\¬d/2^i%2=0:=gP λgC=>C9 (by have h:=V5 (d:=d) 24 (λi hi=>gP λh=>gC ⟨i,hi,h⟩);rw[dK (show d<2^24 from D4)]at h;exact h)
 obtain⟨i0,hi0,kU⟩:=aPs;obtain⟨r,r1,r2,r3⟩:=yT (λi=>¬d/2^i%2=0) _ kU;have V8:∀ i,i<r->d/2^i%2=0:=λi hi=>E3.1 (r3 i hi);have e1:a%bz^z=0:=aDI z z3';have e2:d%2^r=0:=V5 r V8;obtain⟨a1,eG⟩:∃ a1,a1=a/bz^z:=⟨_,rfl⟩;have ea:a=a1*bz^z:=by have:=jm a (bz^z);rw[e1,<-eG,cS]at this;omega
 have hb:bz=2^(24-r)*2^r:=by rw[<-eD,show 24-r+r=24 by omega]
 have ed:a1=bz*(a1/bz)+d:=by rw[hd,<-eG];exact(jm _ _).symm
 have e3:a1%2^r=0:=by
  rw[ed]
  conv=>lhs;rw[hb]
  rw[Bq,cS _ (2^r),Nat.mul_add_mod,e2]
 have ea1:a1=a1/2^r*2^r:=by have:=jm a1 (2^r);rw[e3,cS]at this;omega
 have e4:a1/2^r%2=d/2^r%2:=by
  have h2:0<2^r:=cK d_;have h3:a1/2^r=2^(24-r)*(a1/bz)+d/2^r:=by
   conv=>lhs;rw[ed,hb]
   rw[Bq,mW,pA _ _ h2,mW];rw[<-hb]
  rw[h3,show 24-r=(23-r)+1 by omega,dy,Bq,mW,C0]
 rw[hd]at r2 V8;refine⟨z,r,by omega,by omega,z3',z2,V8,r2,?_,?_⟩
 ·rw[<-eG];have e5:bz^z=2^(24*z):=by rw[r8]
  rw[eD,cS (2^(24*z)),<-fO,<-ea1,<-e5];exact ea
 ·rw[<-eG,e4,hd];omega
theorem aPt{a:Nat}(h0:a≠0)(h63:nd bz a<1099511627776):∃ s a2,a=a2*2^s/\a2%2=1/\s<35184372088832/\∀(Bs:aa) (o:Oper) (k j:Nat),dx o.op=some (.func 95)->
  cD prog Bs o [.func (.func 95) #[] #[],sl k (nd bz a)] [(k,some (cA a)),(j,none)] (.tuple #[sl j (nd bz a2),vI s]) [(j,da a2),(k,.dead)]:=by
 obtain⟨z,r,hz,hr,z3,z2,r3,r2,aDN,P9⟩:=aDM h0;have ak:=dU (B:=bz) d_ a;obtain⟨a1,eG⟩:∃ a1,a1=a/bz^z:=⟨_,rfl⟩;obtain⟨a2,iA⟩:∃ a2,a2=a1/2^r:=⟨_,rfl⟩;have D4:a/bz^z%bz<bz:=cL _ d_;rw[<-eG,<-iA]at aDN P9;refine⟨24*z+r,a2,aDN,P9,by omega,λBs o k j ho=>?_⟩;have h20:a2≠0:=λe=>by rw[e]at P9;cases P9
 have nA:=aPi (n:=nd bz a) (z:=z) (a:=a) o_ z3;rw[<-eG]at nA;have ju:cA a=.row (ai (ae bz (nd bz a) a)) 3 1:=rfl;obtain⟨n,hn⟩:∃ n,n=nd bz a:=⟨_,rfl⟩;rw[ju];rw[<-hn]at hz ak nA h63 ⊢;have aDO:a1<bz^(n-z):=by rw[eG,iK (cK d_),<-eD,show n-z+z=n by omega];exact ak
 have V9:a2<bz^(n-z):=e8 (by rw[iA];exact tD _ _) aDO;have l1:=λBs=>aPm (Bs:=Bs) hz z3 z2 o_;have l2:=λBs=>aPp (Bs:=Bs) (r:=r) hz rfl D4 hr r3 r2;have l3:=λBs=>aPr (Bs:=Bs) (z:=z) (l:=n-z) hr aDO o_;have e0:pb (n-z) z r a1 0=ae bz n a:=by unfold pb;rw[nA];unfold c8 ae;simp
 have e1:pb (n-z) z r a1 (n-z)=List.replicate z 0++ae bz (n-z) a2:=by
  unfold pb;rw[<-iA]
  congr 1
  unfold c8 ae;refine yM λi hi=>?_;rw[ax (kA.1 hi)]
 obtain⟨fin,DZ⟩:∃ fin,fin=ai (List.replicate z 0++ae bz (n-z) a2):=⟨_,rfl⟩;have aDP:(fin.drop (z*1)).take (n-z)=ai (ae bz (n-z) a2):=by rw[DZ,fX];unfold ai;rw[rO,RL s_,kB (by simp[oR])]
 unfold Ah at l3;rw[e0,e1,<-DZ]at l3;have aPu:nd bz a2<=n-z:=jl d_ V9;have C2:fin.all flat=true:=by rw[DZ];exact gJ _
 have C8:(fin.drop (z*1)).take (nd bz a2)=cN a2:=by
  have h1:(ai (ae bz (n-z) a2)).take (nd bz a2)=cN a2:=by have:=B5 V9;rwa[fX]at this
  rw[<-aDP,ME,oq aPu]at h1;exact h1
 have kP:=uF (B:=bz) d_ h20;have htr:∀ Bs,cD prog Bs (av f95 58) [.func (.func 139) #[] #[],x8 0 (n-z) z] [(0,some (.row fin 3 1))] (x8 0 (nd bz a2) z) []:=λBs=>
  aPg (Bs:=Bs) (y:=.func 139) (k:=0) (off:=z*1) (cc:=z) (x:=.row fin 3 1) k_ rfl C2 aDP V9 o_
 unfold x9 nw at l1;unfold ya nw at l2;unfold D5 at l3;refine aOH (x:=.func 95) ho k_ o_ (kJ _) (kJ _) rfl kP λw g cap cur hg lJ jJ bw hc=>?_;have hm:=SJ hg jJ bw hc (kJ _)
 refine rY (M:=[(0,.row (ai (ae bz n a)) 3 1)]) (next:=1) (args:=[sl 0 n]) (args':=[.slice (some ⟨g,0,none⟩) n cap]) (v:=.tuple #[x8 0 (nd bz a2) z,vI (24*z+r)])
  (ms:=[(0,.row fin 3 1)]) (N:=62) mixed func95 k_ 200
  (rs:=[(.code 0 _ _ _ _ _ (l1 _):aX prog (aa.vE w g) 62),.code 2 _ _ _ _ _ (l2 _),.code 4 _ _ _ _ _ (l3 _),.step 58 (av f95 58) _ _ _ _ (htr _),.sum 61 (24*z) r (24*z+r) rfl o_]) k_ ?_ hm ?_ ?_ ?_
 ·exact .cons (.slc (off:=0) (fK _ _ _) lJ o_) .nil
 ·exact ZH _ _ _
 ·intro k hk;unfold aZ;rw[au o_]
 ·intro aw bZ v' w' hle tt bj dE;have Du:=dE _ (aU ..);have qF:=hle 0 _ (fK _ _ _);obtain⟨q1,fU,q2,q3,q4⟩:=SK bj qF Du (bh.1 C2);obtain⟨cP,rfl,aY⟩:=tt.um;obtain⟨p,q,hp,h3,h4⟩:=jI aY;have e:cP=#[p,q]:=vu.1 (by rw[hp]);subst e;rw[h4.eY rfl];have ct:=oP (len:=nd bz a2) bj Du rfl (bh.1 C2) (λh=>h) h3;have Ca:cO w' p (nd bz a2) ((fin.drop (z*1)).take (nd bz a2)):=ct;rw[C8]at Ca;rcases h3.iw rfl with ⟨_,JC,_⟩|⟨b,oo,rM,c2,gm,_,_,he⟩
  ·omega
  ·dsimp only at gm he;rw[qF]at gm;injection gm with gm;injection gm with gm hb3 hb4;subst gm;subst hb3;rw[he]at Ca ⊢;exact⟨_,_,rfl,q1,⟨fU,q2,q3⟩,Ca⟩
theorem aDQ{m:Nat}(h:m%2=1)(s:Nat):Nat.Coprime (2^s) m:=by refine Nat.Coprime.pow_left s ?_;show Nat.gcd 2 m=1;rw[Nat.gcd_rec,h];rfl
theorem aDR{x y s t:Nat}(h:x*2^s=y*2^t)(hx:x%2=1)(bM:s<=t):x=y/\s=t:=by
 obtain⟨d,rfl⟩:∃ d,t=s+d:=⟨t-s,by omega⟩;have h2:0<2^s:=cK d_;rw[eD,cS (2^s),<-fO]at h;have h3:=aKr h2 h;cases d with
 |zero=>exact⟨by rw[h3];simp,rfl⟩
 |succ d=>
  exfalso;rw[dy,<-fO]at h3;rw[h3,Zs]at hx;cases hx
theorem aPv{x y s t:Nat}(h:x*2^s=y*2^t)(hx:x%2=1)(hy:y%2=1):x=y/\s=t:=by
 rcases NZ s t with h1|h1
 ·exact aDR h hx h1
 ·obtain⟨e1,e2⟩:=aDR h.symm hy h1;exact⟨e1.symm,e2.symm⟩
noncomputable def gW(a:Nat):Nat:=by
 classical
 exact if h:∃ x s,a=x*2^s/\x%2=1 then h.choose else 1
theorem aDS{a x s:Nat}(h:a=x*2^s)(hx:x%2=1):gW a=x:=by have hex:∃ x s,a=x*2^s/\x%2=1:=⟨x,s,h,hx⟩;unfold gW;rw[dif_pos hex];obtain⟨t,h1,h2⟩:=hex.choose_spec;exact(aPv (h1.symm.trans h) h2 hx).1
theorem Wa{a:Nat}(h0:a≠0):∃ s,a=gW a*2^s/\gW a%2=1/\gW a<=a:=by obtain⟨z,r,_,_,_,_,_,_,h1,h2⟩:=aDM h0;have e:=aDS h1 h2;rw[e];exact⟨_,h1,h2,dh (E5 _ (cK d_)) (vn h1.symm)⟩
noncomputable def gs(a b:Nat):Nat->Nat×Nat
 |0=>(a,b)
 |i+1=>(min (gs a b i).1 (gs a b i).2,gW (max (gs a b i).1 (gs a b i).2-min (gs a b i).1 (gs a b i).2))
theorem aPw{u v:Nat}(hu:u%2=1)(hv:v%2=1)(aV:u≠v):min u v%2=1/\gW (max u v-min u v)%2=1/\Nat.gcd (min u v) (gW (max u v-min u v))=Nat.gcd u v/\min u v+gW (max u v-min u v)<u+v/\max (min u v) (gW (max u v-min u v))<=max u v:=by
 have go:∀ u v,u%2=1->u<v->gW (v-u)%2=1/\Nat.gcd u (gW (v-u))=Nat.gcd u v/\u+gW (v-u)<u+v/\max u (gW (v-u))<=v:=by intro u v hu ak;obtain⟨s,h1,h2,h3⟩:=Wa (show v-u≠0 by omega);refine⟨h2,?_,by omega,Nat.max_le.2 ⟨by omega,by omega⟩⟩;have h4:=(aDQ hu s).gcd_mul_right_cancel_right (gW (v-u));rw[<-h1]at h4;rw[<-h4,Nat.gcd_sub_self_right o_]
 rcases EG aV with h|h
 ·rw[oq o_,aDT o_];obtain⟨h1,h2,h3,h4⟩:=go u v hu h;exact⟨hu,h1,h2,h3,h4⟩
 ·rw[VO o_,aDU o_];obtain⟨h1,h2,h3,h4⟩:=go v u hv h;exact⟨hv,h1,by rw[h2,HC],by omega,h4⟩
theorem Qa{a b:Nat}(ha:a%2=1)(hb:b%2=1):∀ i,(∀ j,j<i->(gs a b j).1≠(gs a b j).2)->(gs a b i).1%2=1/\(gs a b i).2%2=1/\Nat.gcd (gs a b i).1 (gs a b i).2=Nat.gcd a b/\(gs a b i).1+(gs a b i).2+i<=a+b/\max (gs a b i).1 (gs a b i).2<=max a b
 |0,_=>⟨ha,hb,rfl,bt _,bt _⟩
 |i+1,h=>by obtain⟨h1,h2,h3,h4,h5⟩:=Qa ha hb i λj hj=>h j o_;obtain⟨k1,k2,k3,k4,k5⟩:=aPw h1 h2 (h i o_);exact⟨k1,k2,k3.trans h3,by show min _ _+gW _+(i+1)<=a+b;omega,dh k5 h5⟩
theorem aPx{a b:Nat}(ha:a%2=1)(hb:b%2=1):∃ n,(gs a b n).1=(gs a b n).2/\∀ i,i<n->(gs a b i).1≠(gs a b i).2:=by
 have key:∃ n,(gs a b n).1=(gs a b n).2:=gP λgC=>by have:=Qa ha hb (a+b+1) λj _ h=>gC ⟨j,h⟩;omega
 obtain⟨n,hn⟩:=key;obtain⟨e,h1,h2,h3⟩:=yT (λi=>(gs a b i).1=(gs a b i).2) n hn;exact⟨e,h2,h3⟩
theorem aPy{x y s t:Nat}(hx:x%2=1)(hy:y%2=1):Nat.gcd (x*2^s) (y*2^t)=Nat.gcd x y*2^(min s t):=by
 have go:∀ x y s t,x%2=1->s<=t->Nat.gcd (x*2^s) (y*2^t)=Nat.gcd x y*2^s:=by intro x y s t hx bM;obtain⟨d,rfl⟩:∃ d,t=s+d:=⟨t-s,by omega⟩;rw[eD,cS (2^s),<-fO,Nat.gcd_mul_right,(aDQ hx d).gcd_mul_right_cancel_right]
 rcases NZ s t with h|h
 ·rw[oq h,go x y s t hx h]
 ·rw[VO h,HC,go y x t s hy h,HC]
theorem Wb{a b:Nat}{t:Bool}(h:decide (a=b)=t):Value.bool (ig a b==0)=.bool t:=by
 rw[<-h];congr 1;unfold ig
 by_cases h1:a<b
 ·rw[ax h1,aJ o_];rfl
 ·rw[au h1];by_cases h2:b<a
  ·rw[ax h2,aJ o_];rfl
  ·rw[au h2,aB o_];rfl
theorem aDV{a b:Nat}{t:Bool}(h:decide (b<a)=t):Value.bool (decide (ig a b>0))=.bool t:=by
 rw[<-h];congr 1;rw[oQ];unfold ig
 by_cases h1:a<b
 ·rw[ax h1];omega
 ·rw[au h1];by_cases h2:b<a
  ·rw[ax h2];omega
  ·rw[au h2];omega
theorem Qb{a:Nat}(h0:a≠0)(h63:nd bz a<1099511627776):∃ s,a=gW a*2^s/\s<35184372088832/\∀(Bs:aa) (o:Oper) (k j:Nat),dx o.op=some (.func 95)->
  cD prog Bs o [.func (.func 95) #[] #[],sl k (nd bz a)] [(k,some (cA a)),(j,none)] (.tuple #[sl j (nd bz (gW a)),vI s]) [(j,da (gW a)),(k,.dead)]:=by
 obtain⟨s,a2,h1,h2,h3,h4⟩:=aPt h0 h63;have e:=aDS h1 h2;rw[e];exact⟨s,h1,h3,h4⟩
section
variable{Bs:aa}
def gI(u v:Nat):aR:=[(9,sl 7 (nd bz u)),(10,sl 8 (nd bz v))]
def gX(u v:Nat):List Obj:=[da u,da v]
theorem aPz{u v:Nat}(ak:u<v)(hu:nd bz u<1099511627776)(hv:nd bz v<1099511627776):
  ag prog Bs 111 (aF (af f56 2)) (gI u v) ([]++marks 7 (gX u v)) 9 ⟨.normal,ij 7 [some 7,some 10] (gI u (gW (v-u))),[]++dV [some 7,some 10] (gX u (gW (v-u))),11⟩:=by
 have hd:nd bz (v-u)<1099511627776:=e8 (iU d_ (BB _ _)) hv;obtain⟨s,_,_,ho⟩:=Qb (show v-u≠0 by omega) hd;exact aC [.vh f56 86 7 8 u v (da u) (da v) rfl rfl rfl rfl o_ o_ k_,.rw 88 _ (.bool false) (Wb (a:=u) (b:=v) (aJ o_)),.rw 90 _ (.bool false) (aDV (a:=u) (b:=v) (aJ o_)),.ua f56 96 9 8 7 v u (da v) (da u) rfl rfl rfl rfl o_ o_ k_,.step 97 _ _ _ _ _ (ho Bs (av f56 97) 9 10 k_)]
theorem aPA{u v:Nat}(ak:v<u)(hu:nd bz u<1099511627776)(hv:nd bz v<1099511627776):
  ag prog Bs 111 (aF (af f56 2)) (gI u v) ([]++marks 7 (gX u v)) 9 ⟨.normal,ij 7 [some 8,some 10] (gI v (gW (u-v))),[]++dV [some 8,some 10] (gX v (gW (u-v))),11⟩:=by
 have hd:nd bz (u-v)<1099511627776:=e8 (iU d_ (BB _ _)) hu;obtain⟨s,_,_,ho⟩:=Qb (show u-v≠0 by omega) hd;exact aC [.vh f56 86 7 8 u v (da u) (da v) rfl rfl rfl rfl o_ o_ k_,.rw 88 _ (.bool false) (Wb (a:=u) (b:=v) (aJ o_)),.rw 90 _ (.bool true) (aDV (a:=u) (b:=v) (aB o_)),.ua f56 96 9 7 8 u v (da u) (da v) rfl rfl rfl rfl o_ o_ k_,.step 97 _ _ _ _ _ (ho Bs (av f56 97) 9 10 k_)]
theorem aPB{u:Nat}(hu:nd bz u<1099511627776):
  ag prog Bs 111 (aF (af f56 2)) (gI u u) ([]++marks 7 (gX u u)) 9 ⟨.exit 2,[(9,sl 7 (nd bz u))],[(7,da u)],9⟩:=
 aC [.vh f56 86 7 8 u u (da u) (da u) rfl rfl rfl rfl o_ o_ k_,.rw 88 _ (.bool true) (Wb (a:=u) (b:=u) (aB rfl))]
theorem aPC{a b:Nat}(ha:a%2=1)(hb:b%2=1)(hm:nd bz (max a b)<1099511627776):
  ag prog Bs 111 (.block 2 (af f56 2)) [(9,sl 5 (nd bz a)),(10,sl 6 (nd bz b))] [(5,da a),(6,da b)] 7 ⟨.normal,[(9,sl 7 (nd bz (Nat.gcd a b)))],[(7,da (Nat.gcd a b))],9⟩:=by
 obtain⟨n,hn,hi⟩:=aPx ha hb;have uV:=(Qa ha hb n hi).2.2.1;rw[hn,Nat.gcd_self]at uV;have EH:∀ i,i<=n->nd bz (gs a b i).1<1099511627776/\nd bz (gs a b i).2<1099511627776:=λi ct=>by have h:=(Qa ha hb i λj hj=>hi j o_).2.2.2.2;have h1:=iU (B:=bz) d_ (dh (Nat.le_max_left _ _) h);have h2:=iU (B:=bz) d_ (dh (Nat.le_max_right _ _) h);omega
 have vF:ag prog Bs 111 (aF (af f56 2)) (gI (gs a b n).1 (gs a b n).2) ([]++marks 7 (gX (gs a b n).1 (gs a b n).2)) 9 ⟨.exit 2,[(9,sl 7 (nd bz (Nat.gcd a b)))],[(7,da (Nat.gcd a b))],9⟩:=by have gm:=(EH n (bt _)).2;rw[hn,uV]at *;exact aPB gm
 have:=su (P:=prog) (B:=Bs) (N:=111) (b:=aF (af f56 2)) (next:=7) (p:=2) (r:=⟨.exit 2,[(9,sl 7 (nd bz (Nat.gcd a b)))],[(7,da (Nat.gcd a b))],9⟩) n (λi=>gI (gs a b i).1 (gs a b i).2) (λ_=>[]) (λi=>gX (gs a b i).1 (gs a b i).2) [some 5,some 6] (λ_ _=>rfl)
  (λi _=>⟨λq hq=>(by cases hq),λz hz=>by simp[gX]at hz;rcases hz with rfl|rfl<;>exact Hi (kJ _)⟩) k_ k_
  (λi ak=>by
   have aV:=hi i ak;obtain⟨b1,b2⟩:=EH i o_;have e1:(gs a b (i+1)).1=min (gs a b i).1 (gs a b i).2:=rfl;have e2:(gs a b (i+1)).2=gW (max (gs a b i).1 (gs a b i).2-min (gs a b i).1 (gs a b i).2):=rfl;simp only[e1,e2];generalize (gs a b i).1=u at *;generalize (gs a b i).2=v at *;rcases EG aV with h|h
   ·rw[oq o_,aDT o_];exact⟨[some 7,some 10],11,k_,aPz h b1 b2⟩
   ·rw[VO o_,aDU o_];exact⟨[some 8,some 10],11,k_,aPA h b1 b2⟩) vF n_
 exact bT (id:=2) this
def tI(g s t i:Nat):aR:=[(14,vI i),(9,sl 9 (nd bz (g*2^i))),(11,vI s),(12,vI t)]
theorem aPD{g s t i:Nat}(hi:i<min s t)(hg:nd bz (g*2^i)<35184372088832)(hs:s<35184372088832):
  ag prog Bs 111 (aF (af f56 4)) (tI g s t i) ([]++marks 9 [da (g*2^i)]) 10 ⟨.normal,ij 9 [some 10] (tI g s t (i+1)),[]++dV [some 10] [da (g*2^(i+1))],11⟩:=by
 have ht:=aDG (B:=Bs) (o:=av f56 108) (x:=.func 98) (aOc (a:=g*2^i) (c:=0) o_ hg) (nY (k:=9) (x:=da (g*2^i)) rfl rfl (.p (v:=vI 0) rfl .nil)) k_ k_ (sT _) 10;have e:2*(g*2^i)+0=g*2^(i+1):=by rw[dy,jv,mX,cS 2]
 rw[e]at ht;obtain⟨m,hm⟩:∃ m,m=min s t:=⟨_,rfl⟩;rw[<-hm]at hi;have dE:m<=s:=by rw[hm];exact Nat.min_le_left _ _
 unfold tI;generalize g*2^(i+1)=y at *;generalize g*2^i=x at *;exact aC [.P4 f56 103 s t m hm k_,.lt 104 i m true (aB hi),.step 108 _ _ _ _ _ ht,.sum 106 i 1 (i+1) rfl o_]
theorem aPE{g s t:Nat}(hg:∀ i,i<=min s t->nd bz (g*2^i)<35184372088832)(hs:s<35184372088832):
  ag prog Bs 111 (.block 4 (af f56 4)) [(14,vI 0),(9,sl 7 (nd bz g)),(11,vI s),(12,vI t)] [(7,da g)] 9 ⟨.normal,[(9,sl 9 (nd bz (g*2^min s t)))],[(9,da (g*2^min s t))],10⟩:=by
 have:=su (P:=prog) (B:=Bs) (N:=111) (b:=aF (af f56 4)) (next:=9) (p:=1) (r:=⟨.exit 4,[(9,sl 9 (nd bz (g*2^min s t)))],[(9,da (g*2^min s t))],10⟩) (min s t) (tI g s t) (λ_=>[]) (λi=>[da (g*2^i)]) [some 7] (λ_ _=>rfl)
  (λi _=>⟨λq hq=>(by cases hq),λz hz=>by simp at hz;subst hz;exact Hi (kJ _)⟩) k_ k_
  (λi ak=>⟨[some 10],11,k_,aPD ak (hg i o_) hs⟩)
  (by unfold tI;obtain⟨m,hm⟩:∃ m,m=min s t:=⟨_,rfl⟩;rw[<-hm];generalize g*2^m=x at *;exact aC [.P4 f56 103 s t m hm k_,.lt 104 m m false s_]) n_
 have e0:g*2^0=g:=by simp
 unfold tI at this;rw[e0]at this;exact bT (id:=4) this
def aWy(u v:Nat):aR:=[(5,vI u),(7,vI v)]
theorem aWJ{x y:Nat}:ag prog Bs 111 (.block 0 (af f56 0)) (aWy x y) [] 3 ⟨.normal,[(5,vI (Nat.gcd x y))],[],3⟩:=by
 obtain⟨n,hn,hi⟩:=NY x y (λ_ v=>decide (v≠0)) (λu v h=>kW h);have hz:(eu x y n).2=0:=by have:=HD hn;omega
 have hg:=Kr x y n;rw[hz,TD]at hg;rw[<-hg];refine bT (id:=0) (cd (P:=prog) (B:=Bs) (N:=111) (b:=aF (af f56 0)) (next:=3) (r:=⟨.exit 0,[(5,vI (eu x y n).1)],[],3⟩) n (λi=>aWy (eu x y i).1 (eu x y i).2) (λ_=>[]) (λ_ _ _=>Iff.rfl) (λi ak=>?_) ?_ n_)
 ·have h0:(eu x y i).2≠0:=kW (hi i ak);show ag _ _ _ _ (aWy (eu x y i).1 (eu x y i).2) [] 3 ⟨.normal,aWy (eu x y i).2 ((eu x y i).1%(eu x y i).2),[],3⟩;generalize (eu x y i).1=u at *;generalize (eu x y i).2=v at *;exact aC [.rw 49 (.bool ((v:Int)!=0)) (.bool true) (by congr 1;rw[uG];omega),.xh f56 53 .i64 (u:Int) v ((u%v:Nat):Int) o_ (by rw[zf o_];rfl) k_]
 ·rw[hz];exact aC [.rw 49 (.bool (((0:Nat):Int)!=0)) (.bool false) rfl]
end
theorem aWf{n1 n2:Bool}{m1 m2 p q:Nat}(v1:n1=true->m1≠0)(v2:n2=true->m2≠0)(h1:m1<2^p)(h2:m2<2^q)(hp:p<=1099511627774)(hq:q<=1099511627774):
  aE prog 56 [sv n1 m1,sv n2 m2] (bN (Nat.gcd m1 m2:Nat)):=by
 have b1:=ub h1;have b2:=ub h2;have c1:=vK h1;have c2:=vK h2;have w1:=aWg n1 v1;have w2:=aWg n2 v2;have r1:=Lx m1;have r2:=Lx m2;by_cases hs:nd 256 m1<=7/\nd 256 m2<=7
 ·obtain⟨s1,s2⟩:=hs;have q1:=sY (neg:=false) (m:=m1) n_ s1;have q2:=sY (neg:=false) (m:=m2) n_ s2;have l1:=IE s1;have l2:=IE s2;have N0:Nat.gcd m1 m2<72057594037927936:=by
   by_cases h0:m1=0
   ·rw[h0,Ue];exact l2
   ·exact e8 (aBf _ (tA h0)) l1
  exact aM func56 (λw=>[w1.at 16,w2.at 20,.rw 26 _ (vI (nd 256 m1)) r1,.rw 27 (.bool (decide (((nd 256 m1:Nat):Int)<=7))) (.bool true) (by rw[aB o_]),.rw 31 _ (vI (nd 256 m2)) r2,.rw 32 (.bool (decide (((nd 256 m2:Nat):Int)<=7))) (.bool true) (by rw[aB o_]),q1.at 38,q2.at 45,.code 0 _ _ _ _ _ (aWJ (x:=m1) (y:=m2)),(aWb (z:=((Nat.gcd m1 m2:Nat):Int)) o_ o_).at 55])
 ·by_cases hz:m1=0\/m2=0
  ·have e:Nat.gcd m1 m2=m1+m2:=by rcases hz with h|h<;>rw[h]<;>simp
   have bs:nd bz (m1+m2)<35184372088832:=by rcases hz with h|h<;>rw[h]<;>simp<;>omega
   rw[e];by_cases hL:nd 256 m1<=7
   ·by_cases h0:m1=0
    ·exact aM func56 (λw=>[w1.at 16,w2.at 20,.rw 26 _ (vI (nd 256 m1)) r1,.rw 27 (.bool (decide (((nd 256 m1:Nat):Int)<=7))) (.bool true) (by rw[aB o_]),.rw 31 _ (vI (nd 256 m2)) r2,.rw 32 (.bool (decide (((nd 256 m2:Nat):Int)<=7))) (.bool false) (by rw[aJ o_]),.eP f56 58 3 m1 o_ k_,.eP f56 61 4 m2 o_ k_,.fv 64 (nd bz m1) 0 true (aB (by rw[h0,pw])),.DU f56 72 5 3 4 m1 m2 (cA m1) (cA m2) rfl rfl rfl rfl o_ o_ k_,.fC f56 73 5 (m1+m2) false (cA (m1+m2)) rfl rfl bs k_])
    ·have h3:m2=0:=by omega
     have h4:=uF (B:=bz) d_ h0;exact aM func56 (λw=>[w1.at 16,w2.at 20,.rw 26 _ (vI (nd 256 m1)) r1,.rw 27 (.bool (decide (((nd 256 m1:Nat):Int)<=7))) (.bool true) (by rw[aB o_]),.rw 31 _ (vI (nd 256 m2)) r2,.rw 32 (.bool (decide (((nd 256 m2:Nat):Int)<=7))) (.bool false) (by rw[aJ o_]),.eP f56 58 3 m1 o_ k_,.eP f56 61 4 m2 o_ k_,.fv 64 (nd bz m1) 0 false (aJ o_),.fv 68 (nd bz m2) 0 true (aB (by rw[h3,pw])),.DU f56 72 5 3 4 m1 m2 (cA m1) (cA m2) rfl rfl rfl rfl o_ o_ k_,.fC f56 73 5 (m1+m2) false (cA (m1+m2)) rfl rfl bs k_])
   ·by_cases h0:m1=0
    ·exact aM func56 (λw=>[w1.at 16,w2.at 20,.rw 26 _ (vI (nd 256 m1)) r1,.rw 27 (.bool (decide (((nd 256 m1:Nat):Int)<=7))) (.bool false) (by rw[aJ o_]),.eP f56 58 3 m1 o_ k_,.eP f56 61 4 m2 o_ k_,.fv 64 (nd bz m1) 0 true (aB (by rw[h0,pw])),.DU f56 72 5 3 4 m1 m2 (cA m1) (cA m2) rfl rfl rfl rfl o_ o_ k_,.fC f56 73 5 (m1+m2) false (cA (m1+m2)) rfl rfl bs k_])
    ·have h3:m2=0:=by omega
     have h4:=uF (B:=bz) d_ h0;exact aM func56 (λw=>[w1.at 16,w2.at 20,.rw 26 _ (vI (nd 256 m1)) r1,.rw 27 (.bool (decide (((nd 256 m1:Nat):Int)<=7))) (.bool false) (by rw[aJ o_]),.eP f56 58 3 m1 o_ k_,.eP f56 61 4 m2 o_ k_,.fv 64 (nd bz m1) 0 false (aJ o_),.fv 68 (nd bz m2) 0 true (aB (by rw[h3,pw])),.DU f56 72 5 3 4 m1 m2 (cA m1) (cA m2) rfl rfl rfl rfl o_ o_ k_,.fC f56 73 5 (m1+m2) false (cA (m1+m2)) rfl rfl bs k_])
  ·have vH:m1≠0:=λe=>hz (.inl e);have E7:m2≠0:=λe=>hz (.inr e);have h41:=uF (B:=bz) d_ vH;have h42:=uF (B:=bz) d_ E7;obtain⟨s,es,hsb,os⟩:=Qb vH o_;obtain⟨t,et,htb,ot⟩:=Qb E7 o_;obtain⟨_,_,o1,xE⟩:=Wa vH;obtain⟨_,_,o2,Wc⟩:=Wa E7;have tw:=aPy (s:=s) (t:=t) o1 o2;rw[<-es,<-et]at tw;have UO:nd bz (max (gW m1) (gW m2))<1099511627776:=by
    have k1:=iU (B:=bz) d_ xE;have k2:=iU (B:=bz) d_ Wc;rcases NZ (gW m1) (gW m2)with h|h
    ·rw[aDT h];omega
    ·rw[aDU h];omega
   have gl:=λBs=>aPC (Bs:=Bs) o1 o2 UO;have OP:Nat.gcd m1 m2<=m1:=aBf _ (tA vH);have tb:∀ i,i<=min s t->nd bz (Nat.gcd (gW m1) (gW m2)*2^i)<35184372088832:=λi hi=>by
    have k1:Nat.gcd (gW m1) (gW m2)*2^i<=Nat.gcd m1 m2:=by rw[tw];exact jz _ (c9 d_ hi)
    have k2:=iU (B:=bz) d_ (dh k1 OP);omega
   have tl:=λBs=>aPE (Bs:=Bs) (g:=Nat.gcd (gW m1) (gW m2)) (s:=s) (t:=t) tb hsb;rw[<-tw]at tl;have bg:nd bz (Nat.gcd m1 m2)<35184372088832:=by have:=iU (B:=bz) d_ OP;omega
   generalize Nat.gcd m1 m2=G at *;generalize Nat.gcd (gW m1) (gW m2)=G0 at *;generalize gW m1=x1 at *;generalize gW m2=x2 at *;by_cases hL:nd 256 m1<=7
   ·exact gR mixed func56 200 (λw=>[w1.at 16,w2.at 20,.rw 26 _ (vI (nd 256 m1)) r1,.rw 27 (.bool (decide (((nd 256 m1:Nat):Int)<=7))) (.bool true) (by rw[aB o_]),.rw 31 _ (vI (nd 256 m2)) r2,.rw 32 (.bool (decide (((nd 256 m2:Nat):Int)<=7))) (.bool false) (by rw[aJ o_]),.eP f56 58 3 m1 o_ k_,.eP f56 61 4 m2 o_ k_,.fv 64 (nd bz m1) 0 false (aJ o_),.fv 68 (nd bz m2) 0 false (aJ o_),.step 76 _ _ _ _ _ (os _ (av f56 76) 3 5 k_),.step 81 _ _ _ _ _ (ot _ (av f56 81) 4 6 k_),.code 2 _ _ _ _ _ (gl _),.code 4 _ _ _ _ _ (tl _),.fC f56 110 9 G false (da G) rfl rfl bg k_]) (λ_=>k_) k_ k_
   ·exact gR mixed func56 200 (λw=>[w1.at 16,w2.at 20,.rw 26 _ (vI (nd 256 m1)) r1,.rw 27 (.bool (decide (((nd 256 m1:Nat):Int)<=7))) (.bool false) (by rw[aJ o_]),.eP f56 58 3 m1 o_ k_,.eP f56 61 4 m2 o_ k_,.fv 64 (nd bz m1) 0 false (aJ o_),.fv 68 (nd bz m2) 0 false (aJ o_),.step 76 _ _ _ _ _ (os _ (av f56 76) 3 5 k_),.step 81 _ _ _ _ _ (ot _ (av f56 81) 4 6 k_),.code 2 _ _ _ _ _ (gl _),.code 4 _ _ _ _ _ (tl _),.fC f56 110 9 G false (da G) rfl rfl bg k_]) (λ_=>k_) k_ k_
theorem aWN{x y:Int}{p q:Nat}(h1:x.natAbs<2^p)(h2:y.natAbs<2^q)(hp:p<=1099511627774)(hq:q<=1099511627774):aE prog 56 [bN x,bN y] (bN (Nat.gcd x.natAbs y.natAbs:Nat)):=by revert h1 h2;refine Fm (C:=λx y v u=>x.natAbs<2^p->y.natAbs<2^q->aE prog 56 [v,u] (bN (Nat.gcd x.natAbs y.natAbs:Nat))) (λn1 n2 m1 m2 v1 v2 h1 h2=>?_) x y;rw[ql]at h1 h2;rw[ql,ql];exact aWf v1 v2 h1 h2 hp hq
theorem aWo{g:Nat}{x:Int}{p q:Nat}(h1:g<2^p)(h2:x.natAbs<2^q)(hp:p<=aA)(hq:q<=aA):aE prog 56 [bN g,bN x] (bN (Nat.gcd g x.natAbs:Nat)):=by have:=aWN (x:=(g:Int)) (y:=x) (by rw[Df];exact h1) h2 hp hq;rw[Df]at this;exact this
theorem aWr{x y:Int}{n:Nat}(hy:y≠0)(h1:x.natAbs<2^n)(h2:y.natAbs<2^n)(hn:n<=aA):aE prog 130 [bN x,bN y] (bN (x.fdiv y)):=
 aM func130 (λ_=>[(aW7 hy h1 h2 hn hn).at 11])
theorem aW9{c:Nat->Int}{d:Int}{n:Nat}(hd:d≠0)(h:dJ n (o6 c d))(hn:n<=aA):aE prog 78 [pH c,bN d] (iE (o6 c d).low):=by
 obtain⟨h0,h1,h2,h3,h4⟩:=h;have g1:=aWN h4 h0 hn hn;have s1:=zt h4 h0;have g2:=aWo s1 h1 hn hn;have s2:=zt s1 h1;have g3:=aWo s2 h2 hn hn;have s3:=zt s2 h2;have g4:=aWo s3 h3 hn hn;obtain⟨f,hf⟩:∃ f,f=o6 c d:=⟨_,rfl⟩;have vo:f.d≠0:=by rw[hf];exact hd
 have qm:=T3 vo;have Ug:=Oj f;have hg:f.g<2^n:=by
  have h5:f.d.natAbs<2^n:=by rw[hf];exact h4
  exact e8 (Nat.le_of_dvd o_ (Ft f)) h5
 have bw:f.s.natAbs<2^n:=by rw[Ug];exact hg
 have ov:∀ u:Int,f.g ∣ u.natAbs->u.natAbs<2^n->aE prog 130 [bN u,bN f.s] (bN (u/f.s)):=λu hu uT=>by have:=aWr qm uT bw hn;rw[Int.fdiv_eq_ediv_of_dvd (Dg hu)]at this;exact this
 have o0:=ov f.a (Of f) (by rw[hf];exact h0);have o1:=ov f.b (Og f) (by rw[hf];exact h1);have o2:=ov f.c (Oh f) (by rw[hf];exact h2);have o3:=ov f.e (Oi f) (by rw[hf];exact h3);have o4:=ov f.d (Ft f) (by rw[hf];exact h4);have BH:=aWb (z:=1) d_ d_;have ay:=aXa d;have Wd:Nat.gcd (Nat.gcd (Nat.gcd (Nat.gcd (o6 c d).d.natAbs (o6 c d).a.natAbs) (o6 c d).b.natAbs) (o6 c d).c.natAbs) (o6 c d).e.natAbs=f.g:=by rw[hf];rfl
 rw[Wd]at g4;have ab:=aOu (f.g:Int);rw[Df]at ab;rw[<-hf];have e0:f.a=c 0:=by rw[hf];rfl
 have e1:f.b=c 1:=by rw[hf];rfl
 have e2:f.c=c 2:=by rw[hf];rfl
 have e3:f.e=c 3:=by rw[hf];rfl
 have e4:f.d=d:=by rw[hf];rfl
 have one:(bJ 1).Sm:=vO (n:=1) d_ d_;have sm:(bJ f.s).Sm:=vO bw hn;by_cases Fz:d<0
 ·have hs:f.s=-(f.g:Int):=by unfold Fr.s;rw[e4,ax Fz]
  have aV:bJ f.s≠bJ 1:=λe=>by have:=zr e;omega
  have ng:=aW2 (f.g:Int);rw[<-hs]at ng;rw[e0]at o0;rw[e1]at o1;rw[e2]at o2;rw[e3]at o3;rw[e4]at o4;have dr:f.low=⟨c 0/f.s,c 1/f.s,c 2/f.s,c 3/f.s,d/f.s⟩:=by unfold Fr.low;rw[e0,e1,e2,e3,e4]
  rw[dr];have BI:decide (d.sign<0)=true:=aB (by rw[Fl Fz];decide);generalize f.s=s at *;exact gR mixed func78 200 (λ_=>[g1.at 18,g2.at 18,g3.at 18,g4.at 18,ab.at 20,ay.at 22,.rw 23 (.bool (decide (d.sign<0))) (.bool true) (by rw[BI]),ng.at 25,BH.at 30,.step 31 (av f78 31) _ _ _ _ (Di (neg:=false) k_ (bJ s) (bJ 1) sm one (b:=true) (by simp;exact aV)),o0.at 41,o1.at 41,o2.at 41,o3.at 41,o4.at 46]) (λ_=>k_) k_ k_
 ·have hs:f.s=(f.g:Int):=by unfold Fr.s;rw[e4,au Fz]
  have BI:decide (d.sign<0)=false:=aJ (by rw[Bz o_];decide);by_cases tJ:f.g=1
  ·have dr:f.low=f:=by unfold Fr.low;rw[hs,tJ];simp
   rw[dr,hf];rw[tJ]at g4 ab;exact gR mixed func78 200 (λ_=>[g1.at 18,g2.at 18,g3.at 18,g4.at 18,ab.at 20,ay.at 22,.rw 23 (.bool (decide (d.sign<0))) (.bool false) (by rw[BI]),BH.at 30,.step 31 (av f78 31) _ _ _ _ (Di (neg:=false) k_ (bJ 1) (bJ 1) one one (b:=false) s_)]) (λ_=>k_) k_ k_
  ·have aV:bJ f.s≠bJ 1:=λe=>by have:=zr e;omega
   rw[e0]at o0;rw[e1]at o1;rw[e2]at o2;rw[e3]at o3;rw[e4]at o4;have dr:f.low=⟨c 0/f.s,c 1/f.s,c 2/f.s,c 3/f.s,d/f.s⟩:=by unfold Fr.low;rw[e0,e1,e2,e3,e4]
   rw[dr];rw[<-hs]at g4 ab;generalize f.s=s at *;exact gR mixed func78 200 (λ_=>[g1.at 18,g2.at 18,g3.at 18,g4.at 18,ab.at 20,ay.at 22,.rw 23 (.bool (decide (d.sign<0))) (.bool false) (by rw[BI]),BH.at 30,.step 31 (av f78 31) _ _ _ _ (Di (neg:=false) k_ (bJ s) (bJ 1) sm one (b:=true) (by simp;exact aV)),o0.at 41,o1.at 41,o2.at 41,o3.at 41,o4.at 46]) (λ_=>k_) k_ k_
theorem aWR{z:Int}(h:z.natAbs<9223372036854775808):aE prog 28 [.int .i64 z] (cg (kI z)):=by
 rw[aBh];have e:iE ⟨z,0,0,0,1⟩=(RN.mk (bJ z) ⟨false,[]⟩ ⟨false,[]⟩ ⟨false,[]⟩ (bJ 1)).v:=by unfold iE sH;rw[Dn]
 rw[e];exact aM func28 (λ_=>[(aWb (z:=z) o_ o_).at 4,(aWb (z:=1) d_ d_).at 6])
section
variable{P:Program}{B:aa}{N:Nat}
def We(o:Oper):Bool:=match o.op with
 |.call c=>match c.callee,c.args.toList with
  |.builtin .max,[_,_]=>true
  |_,_=>false
 |_=>false
theorem aPF{o:Oper}(ho:We o=true){x:Int}:cD P B o [.int .i64 x,.int .i64 (-x)] [] (vI x.natAbs) []:=by
 unfold We at ho;split at ho
 ·rename_i c bW;split at ho
  ·rename_i p q h1 h2;refine(Cq (λu hu=>by simp at hu;rcases hu with rfl|rfl<;>rfl) rfl λρ fV w _=>?_).step;obtain⟨ce,ar,at'⟩:=c;dsimp only at h1 h2;subst h1;have e1:ar=#[p,q]:=by rw[<-zC (xs:=ar),h2]
   subst e1;rw[bW]at fV;simp[Op.operands,Call.operands]at fV;simp[execOp,bW,resolve,invoke,builtin,Builtin.max_,Builtin.max2,fV.1,fV.2,vI];split<;>omega
  ·cases ho
 ·cases ho
def aX.LB(fn:Func)(key:Nat)(x:Int)(ho:We (av fn key)=true):aX P B N:=
 .step key (av fn key) [.int .i64 x,.int .i64 (-x)] [] (vI x.natAbs) [] (aPF ho)
end
theorem aPG(l:List UInt8)(c:UInt8):fY (l++[c])=fY l*256+c.toNat:=by unfold fY;rw[aCL];rfl
def gi(r:RN):Nat->RI
 |0=>r.a
 |1=>r.b
 |2=>r.c
 |3=>r.e
 |_=>r.d
def ep(r:RI):Int:=sg r.neg (fY r.ba)
def w5(W:Nat->Int):aj:=[.int .i64 (W 0),.int .i64 (W 1),.int .i64 (W 2),.int .i64 (W 3),.int .i64 (W 4)]
def wv(r:RN)(i:Nat):Nat->Int:=λj=>match Nat.blt j i with|true=>ep (gi r j)|false=>0
def aPH(W:Nat->Int)(i:Nat)(x:Int):Nat->Int:=λj=>match Nat.beq j i with|true=>x|false=>W j
section
variable{Bs:aa}{W:Nat->Int}{q:RI}
def Cb(i k:Nat):aR:=[(5,vI i),(4,ptr 2),(6,ptr (3+i)),(7,vI k)]
def yb(W:Nat->Int)(q:RI)(i k:Nat):aH:=[(2,.aI (w5 (aPH W i (fY (q.ba.take k):Nat))) 87),(3+i,.aI q.cs 28)]
theorem aPI{i k:Nat}(hi:i<5)(hk:k<q.ba.length)(h3:q.ba.length<=3):
  ag prog Bs 58 (aF (af f53 2)) (Cb i k) (yb W q i k) (4+i) ⟨.normal,Cb i (k+1),yb W q i (k+1),4+i⟩:=by
 obtain⟨c,hc⟩:∃ c,q.ba[k]?=some c:=⟨q.ba[k],bd hk⟩;have hv:fY (q.ba.take (k+1))=fY (q.ba.take k)*256+c.toNat:=by rw[sQ,hc];exact aPG _ _
 have hb:(BA q.ba)[k]?=some c:=by rw[J6];exact hc
 have bw:Value.int .i64 ((BA q.ba).size:Int)=vI q.ba.length:=by rw[oT];rfl
 have ak:fY (q.ba.take k)<65536:=by have h1:=Bc (q.ba.take k);have h2:(256:Nat)^(q.ba.take k).length<=256^2:=c9 d_ (by rw[ji];omega);exact cC h1 (dh h2 d_)
 have hc3:=c.toNat_lt;unfold Cb yb;rw[hv];generalize fY (q.ba.take k)=x at *;have w1:IntKind.i64.wrap ((x:Int)*2^8)=((x*256:Nat):Int):=by rw[show((x:Int)*2^8)=((x*256:Nat):Int)by simp,db];omega
 have w2:IntKind.i64.wrap (c.toNat:Int)=(c.toNat:Int):=by rw[db];omega
 have w3:IntKind.i64.wrap (((x*256:Nat):Int)+(c.toNat:Int))=((x*256+c.toNat:Nat):Int):=by rw[db];omega
 generalize x*256+c.toNat=y at *;generalize x*256=z at *;generalize q.ba.length=L at *;rcases i with _|_|_|_|_|i
 all_goals first|omega|exact aC [.rw 33 _ (vI L) bw,.lt 34 k L true (aB hk),.wr 41 .i64 ((x:Int)*2^8) _ w1,.sx f53 45 (BA q.ba) k c hb k_,.wr 46 .i64 (c.toNat:Int) _ w2,.wr 47 .i64 _ _ w3,.sum 36 k 1 (k+1) rfl o_]
theorem aPJ{i:Nat}(hi:i<5)(h3:q.ba.length<=3):
  ag prog Bs 58 (.block 2 (af f53 2)) (Cb i 0) (yb W q i 0) (4+i) ⟨.normal,Cb i q.ba.length,yb W q i q.ba.length,4+i⟩:=by
 have bw:Value.int .i64 ((BA q.ba).size:Int)=vI q.ba.length:=by rw[oT];rfl
 refine bT (id:=2) (cd (b:=aF (af f53 2)) (r:=⟨.exit 2,Cb i q.ba.length,yb W q i q.ba.length,4+i⟩) q.ba.length (Cb i) (yb W q i) (λk t _=>j0 (l:=yb W q i k) (m:=yb W q i 0) rfl t) (λk hk=>aPI hi hk h3) ?_ n_);unfold Cb yb;generalize fY (q.ba.take q.ba.length)=x at *;generalize q.ba.length=L at *;rcases i with _|_|_|_|_|i
 all_goals first|omega|exact aC [.rw 33 _ (vI L) bw,.lt 34 L L false s_]
def Gj(i:Nat):aR:=[(5,vI i),(1,ptr 0),(2,ptr 1),(4,ptr 2)]
def Gk(r:RN)(W:Nat->Int):aH:=[(0,.aI r.cs 31),(1,.aI (w5 λ_=>0) 87),(2,.aI (w5 W) 87)]
theorem aPK{r:RN}{i:Nat}(hi:i<5)(h3:(gi r i).ba.length<=3)(hv:xw (gi r i).neg (gi r i).ba=true):
  ag prog Bs 58 (.block 1 (af f53 1)) (Gj i) (Gk r (wv r i)) (3+i) ⟨.normal,Gj i,Gk r (wv r (i+1)),4+i⟩:=by
 have lo:=aPJ (Bs:=Bs) (W:=wv r i) (q:=gi r i) hi h3;have lE:=aWm (gi r i).neg (gi r i).ba;rw[hv]at lE;have bw:Value.int .i64 ((BA (gi r i).ba).size:Int)=vI (gi r i).ba.length:=by rw[oT];rfl
 have lF:Value.bool (decide (((gi r i).ba.length:Int)>3))=.bool false:=by rw[aJ o_]
 unfold yb Cb at lo;rw[Z8,lY]at lo;have e0:fY []=0:=rfl;rw[e0]at lo;have ak:fY (gi r i).ba<16777216:=by have h1:=Bc (gi r i).ba;have h2:(256:Nat)^(gi r i).ba.length<=256^3:=c9 d_ h3;exact cC h1 (dh h2 d_)
 have wn:IntKind.i64.wrap (0-(fY (gi r i).ba:Int))=-(fY (gi r i).ba:Int):=by rw[db];omega
 rcases r with ⟨⟨an,am⟩,⟨bn,bm⟩,⟨cn,cm⟩,⟨en,em⟩,⟨dn,dm⟩⟩;rcases i with _|_|_|_|_|i
 ·cases an
  ·exact aC [.rw 22 _ (vI am.length) bw,.rw 23 _ (.bool false) lF,lE.at 26,.code 2 _ _ _ _ _ lo]
  ·exact aC [.rw 22 _ (vI am.length) bw,.rw 23 _ (.bool false) lF,lE.at 26,.code 2 _ _ _ _ _ lo,.wr 55 .i64 _ _ wn]
 ·cases bn
  ·exact aC [.rw 22 _ (vI bm.length) bw,.rw 23 _ (.bool false) lF,lE.at 26,.code 2 _ _ _ _ _ lo]
  ·exact aC [.rw 22 _ (vI bm.length) bw,.rw 23 _ (.bool false) lF,lE.at 26,.code 2 _ _ _ _ _ lo,.wr 55 .i64 _ _ wn]
 ·cases cn
  ·exact aC [.rw 22 _ (vI cm.length) bw,.rw 23 _ (.bool false) lF,lE.at 26,.code 2 _ _ _ _ _ lo]
  ·exact aC [.rw 22 _ (vI cm.length) bw,.rw 23 _ (.bool false) lF,lE.at 26,.code 2 _ _ _ _ _ lo,.wr 55 .i64 _ _ wn]
 ·cases en
  ·exact aC [.rw 22 _ (vI em.length) bw,.rw 23 _ (.bool false) lF,lE.at 26,.code 2 _ _ _ _ _ lo]
  ·exact aC [.rw 22 _ (vI em.length) bw,.rw 23 _ (.bool false) lF,lE.at 26,.code 2 _ _ _ _ _ lo,.wr 55 .i64 _ _ wn]
 ·cases dn
  ·exact aC [.rw 22 _ (vI dm.length) bw,.rw 23 _ (.bool false) lF,lE.at 26,.code 2 _ _ _ _ _ lo]
  ·exact aC [.rw 22 _ (vI dm.length) bw,.rw 23 _ (.bool false) lF,lE.at 26,.code 2 _ _ _ _ _ lo,.wr 55 .i64 _ _ wn]
 ·omega
theorem aPL{r:RN}{i:Nat}(hi:i<5)(h3:¬(gi r i).ba.length<=3):
  ag prog Bs 58 (.block 1 (af f53 1)) (Gj i) (Gk r (wv r i)) (3+i) ⟨.ret,[(2,ptr 1),(3,.bool false)],[(1,.aI (w5 (wv r i)) 87)],4+i⟩:=by
 have bw:Value.int .i64 ((BA (gi r i).ba).size:Int)=vI (gi r i).ba.length:=by rw[oT];rfl
 have lF:Value.bool (decide (((gi r i).ba.length:Int)>3))=.bool true:=by rw[aB o_]
 rcases r with ⟨⟨an,am⟩,⟨bn,bm⟩,⟨cn,cm⟩,⟨en,em⟩,⟨dn,dm⟩⟩;rcases i with _|_|_|_|_|i
 ·exact aC [.rw 22 _ (vI am.length) bw,.rw 23 _ (.bool true) lF]
 ·exact aC [.rw 22 _ (vI bm.length) bw,.rw 23 _ (.bool true) lF]
 ·exact aC [.rw 22 _ (vI cm.length) bw,.rw 23 _ (.bool true) lF]
 ·exact aC [.rw 22 _ (vI em.length) bw,.rw 23 _ (.bool true) lF]
 ·exact aC [.rw 22 _ (vI dm.length) bw,.rw 23 _ (.bool true) lF]
 ·omega
theorem aPM{r:RN}{i:Nat}(hi:i<5)(h3:(gi r i).ba.length<=3)(hv:xw (gi r i).neg (gi r i).ba=false):
  ag prog Bs 58 (.block 1 (af f53 1)) (Gj i) (Gk r (wv r i)) (3+i) ⟨.ret,[(2,ptr 1),(3,.bool false)],[(1,.aI (w5 (wv r i)) 87)],4+i⟩:=by
 have lE:=aWm (gi r i).neg (gi r i).ba;rw[hv]at lE;have bw:Value.int .i64 ((BA (gi r i).ba).size:Int)=vI (gi r i).ba.length:=by rw[oT];rfl
 have lF:Value.bool (decide (((gi r i).ba.length:Int)>3))=.bool false:=by rw[aJ o_]
 rcases r with ⟨⟨an,am⟩,⟨bn,bm⟩,⟨cn,cm⟩,⟨en,em⟩,⟨dn,dm⟩⟩;rcases i with _|_|_|_|_|i
 ·exact aC [.rw 22 _ (vI am.length) bw,.rw 23 _ (.bool false) lF,lE.at 26]
 ·exact aC [.rw 22 _ (vI bm.length) bw,.rw 23 _ (.bool false) lF,lE.at 26]
 ·exact aC [.rw 22 _ (vI cm.length) bw,.rw 23 _ (.bool false) lF,lE.at 26]
 ·exact aC [.rw 22 _ (vI em.length) bw,.rw 23 _ (.bool false) lF,lE.at 26]
 ·exact aC [.rw 22 _ (vI dm.length) bw,.rw 23 _ (.bool false) lF,lE.at 26]
 ·omega
end
def qC(q:RI):Bool:=decide (q.ba.length<=3)&&xw q.neg q.ba
theorem aPN{Bs:aa}{r:RN}{i:Nat}(hi:i<5)(h:qC (gi r i)=false):
  ag prog Bs 58 (.block 1 (af f53 1)) (Gj i) (Gk r (wv r i)) (3+i) ⟨.ret,[(2,ptr 1),(3,.bool false)],[(1,.aI (w5 (wv r i)) 87)],4+i⟩:=by
 unfold qC at h;by_cases h3:(gi r i).ba.length<=3
 ·rw[aB h3,lP]at h;exact aPM hi h3 h
 ·exact aPL hi h3
theorem IG{Bs:aa}{r:RN}{i:Nat}(hi:i<5)(h:qC (gi r i)=true):
  ag prog Bs 58 (.block 1 (af f53 1)) (Gj i) (Gk r (wv r i)) (3+i) ⟨.normal,Gj i,Gk r (wv r (i+1)),4+i⟩:=by
 unfold qC at h;simp at h;exact aPK hi h.1 h.2
theorem aDW{r:RN}(h:∀ i,i<5->qC (gi r i)=true):aE prog 53 [r.v] (.tuple #[.agg (w5 (wv r 5)).toArray,.bool true]):=
 gR mixed func53 200 (λw=>[.code 1 _ _ _ _ _ (IG o_ (h 0 o_)),.code 1 _ _ _ _ _ (IG o_ (h 1 o_)),.code 1 _ _ _ _ _ (IG o_ (h 2 o_)),.code 1 _ _ _ _ _ (IG o_ (h 3 o_)),.code 1 _ _ _ _ _ (IG o_ (h 4 o_))]) (λ_=>k_) k_ k_
theorem aDX{r:RN}(h:¬∀ i,i<5->qC (gi r i)=true):∃ n,aE prog 53 [r.v] (.tuple #[.agg (w5 (wv r n)).toArray,.bool false]):=by
 have hex:∃ n,n<5/\qC (gi r n)=false:=gP λgC=>h λi hi=>by
  cases hb:qC (gi r i)with
  |true=>rfl
  |false=>exact absurd ⟨i,hi,hb⟩ gC
 obtain⟨n0,ky,kU⟩:=hex;obtain⟨n,h1,h2,h3⟩:=yT (λi=>qC (gi r i)=false) n0 kU;have az:∀ i,i<n->qC (gi r i)=true:=λi hi=>by
  cases hb:qC (gi r i)with
  |true=>rfl
  |false=>exact absurd hb (h3 i hi)
 refine⟨n,?_⟩;have no:=λBs=>aPN (Bs:=Bs) (show n<5 by omega) h2;have yes:=λBs i (hi:i<n)=>IG (Bs:=Bs) (show i<5 by omega) (az i hi)
 rcases n with _|_|_|_|_|n
 ·exact gR mixed func53 200 (λw=>[.code 1 _ _ _ _ _ (no _)]) (λ_=>k_) k_ k_
 ·exact gR mixed func53 200 (λw=>[.code 1 _ _ _ _ _ (yes _ 0 o_),.code 1 _ _ _ _ _ (no _)]) (λ_=>k_) k_ k_
 ·exact gR mixed func53 200 (λw=>[.code 1 _ _ _ _ _ (yes _ 0 o_),.code 1 _ _ _ _ _ (yes _ 1 o_),.code 1 _ _ _ _ _ (no _)]) (λ_=>k_) k_ k_
 ·exact gR mixed func53 200 (λw=>[.code 1 _ _ _ _ _ (yes _ 0 o_),.code 1 _ _ _ _ _ (yes _ 1 o_),.code 1 _ _ _ _ _ (yes _ 2 o_),.code 1 _ _ _ _ _ (no _)]) (λ_=>k_) k_ k_
 ·exact gR mixed func53 200 (λw=>[.code 1 _ _ _ _ _ (yes _ 0 o_),.code 1 _ _ _ _ _ (yes _ 1 o_),.code 1 _ _ _ _ _ (yes _ 2 o_),.code 1 _ _ _ _ _ (yes _ 3 o_),.code 1 _ _ _ _ _ (no _)]) (λ_=>k_) k_ k_
 ·omega
def G5(W:Nat->Int):Nat:=Nat.gcd (Nat.gcd (Nat.gcd (Nat.gcd (Nat.gcd 0 (W 0).natAbs) (W 1).natAbs) (W 2).natAbs) (W 3).natAbs) (W 4).natAbs
theorem LC{Bs:aa}(x y:Nat):ag prog Bs 28 (.block 2 (af f54 2)) [(5,vI x),(6,vI y)] [] 1 ⟨.normal,[(5,vI (Nat.gcd x y))],[],1⟩:=by
 obtain⟨n,hn,hi⟩:=NY x y (λ_ v=>decide (v≠0)) (λu v h=>kW h);have hz:(eu x y n).2=0:=by have:=HD hn;omega
 have hg:=Kr x y n;rw[hz,TD]at hg;rw[<-hg];refine bT (id:=2) (cd (P:=prog) (B:=Bs) (N:=28) (b:=aF (af f54 2)) (next:=1) (r:=⟨.exit 2,[(5,vI (eu x y n).1)],[],1⟩) n (λi=>[(5,vI (eu x y i).1),(6,vI (eu x y i).2)]) (λ_=>[]) (λ_ _ _=>Iff.rfl) (λi ak=>?_) ?_ n_)
 ·have h0:(eu x y i).2≠0:=kW (hi i ak);show ag _ _ _ _ [(5,vI (eu x y i).1),(6,vI (eu x y i).2)] [] 1 ⟨.normal,[(5,vI (eu x y i).2),(6,vI ((eu x y i).1%(eu x y i).2))],[],1⟩;generalize (eu x y i).1=u at *;generalize (eu x y i).2=v at *;exact aC [.rw 21 (.bool ((v:Int)!=0)) (.bool true) (by congr 1;rw[uG];omega),.xh f54 25 .i64 (u:Int) v ((u%v:Nat):Int) o_ (by rw[zf o_];rfl) k_]
 ·rw[hz];exact aC [.rw 21 (.bool (((0:Nat):Int)!=0)) (.bool false) rfl]
theorem aDY{W:Nat->Int}(hW:∀ i,(W i).natAbs<4611686018427387904):aE prog 54 [.agg (w5 W).toArray] (vI (G5 W)):=by
 have ng:∀ i,IntKind.i64.wrap (0-W i)=-(W i):=λi=>by have:=hW i;rw[db];omega
 exact gR mixed func54 200 (λw=>[.wr 18 .i64 _ _ (ng 0),.LB f54 19 (W 0) k_,.code 2 _ _ _ _ _ (LC 0 (W 0).natAbs),.wr 18 .i64 _ _ (ng 1),.LB f54 19 (W 1) k_,.code 2 _ _ _ _ _ (LC (Nat.gcd 0 (W 0).natAbs) (W 1).natAbs),.wr 18 .i64 _ _ (ng 2),.LB f54 19 (W 2) k_,.code 2 _ _ _ _ _ (LC (Nat.gcd (Nat.gcd 0 (W 0).natAbs) (W 1).natAbs) (W 2).natAbs),.wr 18 .i64 _ _ (ng 3),.LB f54 19 (W 3) k_,.code 2 _ _ _ _ _ (LC (Nat.gcd (Nat.gcd (Nat.gcd 0 (W 0).natAbs) (W 1).natAbs) (W 2).natAbs) (W 3).natAbs),.wr 18 .i64 _ _ (ng 4),.LB f54 19 (W 4) k_,.code 2 _ _ _ _ _ (LC (Nat.gcd (Nat.gcd (Nat.gcd (Nat.gcd 0 (W 0).natAbs) (W 1).natAbs) (W 2).natAbs) (W 3).natAbs) (W 4).natAbs)]) (λ_=>k_) k_ k_
def cw(f:Fr):Nat->Int
 |0=>f.a
 |1=>f.b
 |2=>f.c
 |3=>f.e
 |_=>f.d
theorem Wf(f:Fr):G5 (cw f)=f.g:=by show Nat.gcd (Nat.gcd (Nat.gcd (Nat.gcd (Nat.gcd 0 f.a.natAbs) f.b.natAbs) f.c.natAbs) f.e.natAbs) f.d.natAbs=Nat.gcd (Nat.gcd (Nat.gcd (Nat.gcd f.d.natAbs f.a.natAbs) f.b.natAbs) f.c.natAbs) f.e.natAbs;rw[Ue];simp only[HC,Nat.gcd_left_comm]
theorem aDZ{f:Fr}(hd:0<f.d)(hW:∀ i,(cw f i).natAbs<4611686018427387904):aE prog 80 [.agg (w5 (cw f)).toArray] (iE f.low):=by
 have hg:=aDY hW;rw[Wf]at hg;have hg0:=T2 (x:=f) o_;have hs:f.s=(f.g:Int):=by unfold Fr.s;rw[au o_]
 have dr:f.low=⟨f.a/(f.g:Int),f.b/(f.g:Int),f.c/(f.g:Int),f.e/(f.g:Int),f.d/(f.g:Int)⟩:=by unfold Fr.low;rw[hs]
 rw[dr];have qu:∀ u:Int,f.g ∣ u.natAbs->u.natAbs<4611686018427387904->IntKind.i64.wrap (u.tdiv (f.g:Int))=u/(f.g:Int)/\(u/(f.g:Int)).natAbs<4611686018427387904:=λu hu hb=>by have hd:=Dg hu;rw[hs]at hd;have h2:=aKs u (f.g:Int);rw[Int.tdiv_eq_ediv_of_dvd hd,db];omega
 obtain⟨a1,a2⟩:=qu f.a (Of f) (hW 0);obtain⟨b1,b2⟩:=qu f.b (Og f) (hW 1);obtain⟨c1,c2⟩:=qu f.c (Oh f) (hW 2);obtain⟨e1,e2⟩:=qu f.e (Oi f) (hW 3);obtain⟨d1,d2⟩:=qu f.d (Ft f) (hW 4);have tJ:(f.g:Int)≠0:=by omega
 have of:=λ(z:Int) (h:z.natAbs<4611686018427387904)=>aWb (z:=z) o_ o_
 exact gR mixed func80 200 (λw=>[hg.at 7,.qh f80 17 .i64 f.a (f.g:Int) (f.a/(f.g:Int)) tJ a1 k_,(of _ a2).at 18,.qh f80 17 .i64 f.b (f.g:Int) (f.b/(f.g:Int)) tJ b1 k_,(of _ b2).at 18,.qh f80 17 .i64 f.c (f.g:Int) (f.c/(f.g:Int)) tJ c1 k_,(of _ c2).at 18,.qh f80 17 .i64 f.e (f.g:Int) (f.e/(f.g:Int)) tJ e1 k_,(of _ e2).at 18,.qh f80 24 .i64 f.d (f.g:Int) (f.d/(f.g:Int)) tJ d1 k_,(of _ d2).at 25]) (λ_=>k_) k_ k_
def jr(q:RI):Bool:=xw q.neg q.ba
theorem Gl{q:RI}(h:jr q=true):bJ (ep q)=q:=by
 obtain⟨n,l⟩:=q;unfold jr at h;unfold ep bJ;rw[ql];cases l with
 |nil=>
  simp[xw]at h;subst h;simp[fY,sg,CZ]
 |cons c l=>
  simp[xw]at h;have hv:fY (c::l)≠0:=by have:=Z6 (l:=l) h;have:=cK (n:=l.length) (show 0<256 by decide);omega
  have hm:cq (fY (c::l))=c::l:=aI8 (by rintro c' r' e;injection e with e1 e2;rw[<-e1];exact h);show RI.mk (decide (sg n (fY (c::l))<0)) (cq (fY (c::l)))=_;rw[hm,V2 (λ_=>hv)]
theorem yc(z:Int):ep (bJ z)=z:=by
 show sg (decide (z<0)) (fY (cq z.natAbs))=z;rw[Fb];unfold sg;by_cases h:z<0
 ·rw[aB h];simp;omega
 ·rw[aJ h];simp;omega
theorem LD(z:Int):jr (bJ z)=true:=by show xw (decide (z<0)) (cq z.natAbs)=true;exact aDs _ (λh=>by have:=kW h;omega)
def gD(r:RN):Fr:=⟨ep r.a,ep r.b,ep r.c,ep r.e,ep r.d⟩
def nB(r:RN):Bool:=jr r.a&&(jr r.b&&(jr r.c&&(jr r.e&&(jr r.d&&(decide (0<ep r.d)&&decide ((gD r).g=1))))))
theorem LF{g:Nat}{q:RI}{n:Nat}(h:jr q=true)(h1:g<2^n)(h2:(ep q).natAbs<2^n)(hn:n<=aA):aE prog 56 [bN g,q.v] (bN (Nat.gcd g (ep q).natAbs:Nat)):=by have:=aWo (g:=g) (x:=ep q) h1 h2 hn hn;rw[aBe (ep q),Gl h]at this;exact this
theorem aPO:bN ((0:Nat):Int)=.agg #[.bool false,.string ⟨#[]⟩]:=by show(bJ 0).v=_;rw[Dn];rfl
theorem LG{r:RN}{n:Nat}(bw:dJ n (gD r))(hn:n<=aA):aE prog 36 [r.v] (.bool (nB r)):=by
 obtain⟨sa,sb,sc,se,sd⟩:=bw
 replace sa:(ep r.a).natAbs<2^n:=sa
 replace sb:(ep r.b).natAbs<2^n:=sb
 replace sc:(ep r.c).natAbs<2^n:=sc
 replace se:(ep r.e).natAbs<2^n:=se
 replace sd:(ep r.d).natAbs<2^n:=sd
 by_cases hw:∀ i,i<5->qC (gi r i)=true
 ·have wok:=aDW hw;have raw:∀ i,i<5->jr (gi r i)=true:=λi hi=>by have:=hw i hi;unfold qC at this;simp at this;exact this.2
  have hb:∀ i,(wv r 5 i).natAbs<4611686018427387904:=λi=>by
   unfold wv;split
   ·rename_i h;have hi:i<5:=by rw[A1]at h;exact h
    have:=hw i hi;unfold qC at this;simp at this;unfold ep;rw[ql];have h1:=Bc (gi r i).ba;have h2:(256:Nat)^(gi r i).ba.length<=256^3:=c9 d_ this.1;exact cC h1 (dh h2 d_)
   ·decide
  have wg:=aDY hb;have e1:G5 (wv r 5)=(gD r).g:=Wf (gD r);rw[e1]at wg;have e2:nB r=(decide (0<ep r.d)&&decide ((gD r).g=1)):=by unfold nB;rw[show jr r.a=true from raw 0 o_,show jr r.b=true from raw 1 o_,show jr r.c=true from raw 2 o_,show jr r.e=true from raw 3 o_,show jr r.d=true from raw 4 o_];rfl
  rw[e2];by_cases hd:0<ep r.d
  ·rw[aB hd,lP];have Wg:Value.bool (decide (ep r.d>0))=.bool true:=by rw[aB hd]
   exact gR mixed func36 200 (λw=>[wok.at 9,.rw 15 _ (.bool true) Wg,wg.at 18,.fv 19 (gD r).g 1 _ rfl]) (λ_=>k_) k_ k_
  ·rw[aJ hd,yZ];have Wg:Value.bool (decide (ep r.d>0))=.bool false:=by rw[aJ hd]
   exact gR mixed func36 200 (λw=>[wok.at 9,.rw 15 _ (.bool false) Wg]) (λ_=>k_) k_ k_
 ·obtain⟨m,Gm⟩:=aDX hw;have hp:0<2^n:=cK d_;have va:=aWm r.a.neg r.a.ba;have vb:=aWm r.b.neg r.b.ba;have vc:=aWm r.c.neg r.c.ba;have ve:=aWm r.e.neg r.e.ba;have vd:=aWm r.d.neg r.d.ba;unfold nB;change aE _ _ _ (.bool (jr r.a))at va;change aE _ _ _ (.bool (jr r.b))at vb;change aE _ _ _ (.bool (jr r.c))at vc;change aE _ _ _ (.bool (jr r.e))at ve;change aE _ _ _ (.bool (jr r.d))at vd;have go:∀ q b,jr q=b->jr q=b:=λ_ _ h=>h;rcases ha:jr r.a with _|_
  ·rw[ha]at va;exact gR mixed func36 200 (λw=>[Gm.at 9,va.at 30]) (λ_=>k_) k_ k_
  rw[ha]at va;have g1:=LF (g:=0) ha hp sa hn;rw[aPO]at g1;have s1:Nat.gcd 0 (ep r.a).natAbs<2^n:=by rw[Ue];exact sa
  rcases hb:jr r.b with _|_
  ·rw[hb]at vb;exact gR mixed func36 200 (λw=>[Gm.at 9,va.at 30,g1.at 37,vb.at 30]) (λ_=>k_) k_ k_
  rw[hb]at vb;have g2:=LF hb s1 sb hn;have s2:=zt s1 sb;rcases hc:jr r.c with _|_
  ·rw[hc]at vc;exact gR mixed func36 200 (λw=>[Gm.at 9,va.at 30,g1.at 37,vb.at 30,g2.at 37,vc.at 30]) (λ_=>k_) k_ k_
  rw[hc]at vc;have g3:=LF hc s2 sc hn;have s3:=zt s2 sc;rcases he:jr r.e with _|_
  ·rw[he]at ve;exact gR mixed func36 200 (λw=>[Gm.at 9,va.at 30,g1.at 37,vb.at 30,g2.at 37,vc.at 30,g3.at 37,ve.at 30]) (λ_=>k_) k_ k_
  rw[he]at ve;have g4:=LF he s3 se hn;have s4:=zt s3 se;rcases hd:jr r.d with _|_
  ·rw[hd]at vd;exact gR mixed func36 200 (λw=>[Gm.at 9,va.at 30,g1.at 37,vb.at 30,g2.at 37,vc.at 30,g3.at 37,ve.at 30,g4.at 37,vd.at 40]) (λ_=>k_) k_ k_
  rw[hd]at vd;have g5:=LF hd s4 sd hn;have s5:=zt s4 sd;have Wd:Nat.gcd (Nat.gcd (Nat.gcd (Nat.gcd (Nat.gcd 0 (ep r.a).natAbs) (ep r.b).natAbs) (ep r.c).natAbs) (ep r.e).natAbs) (ep r.d).natAbs=(gD r).g:=Wf (gD r);rw[Wd]at g5 s5;have ay:=aXa (ep r.d);rw[aBe,Gl hd]at ay;have BH:=aWb (z:=1) d_ d_;have one:(bJ 1).Sm:=vO (n:=1) d_ d_;have sm:(bJ ((gD r).g:Int)).Sm:=vO (z:=((gD r).g:Int)) (n:=n) (by rw[Df];exact s5) hn;by_cases hp:0<ep r.d
  ·rw[aB hp];have Wh:Value.bool (decide ((ep r.d).sign>0))=.bool true:=by rw[Bz hp];rfl
   have heq:∀ w,cD prog (aa.at w) (av f36 53) [(bJ ((gD r).g:Int)).v,(bJ 1).v] [] (.bool (decide ((gD r).g=1))) []:=λw=>Di (neg:=true) k_ (bJ ((gD r).g:Int)) (bJ 1) sm one (by simp only[qG,rU];exact⟨λh=>by rw[h];rfl,λh=>by have:=zr h;omega⟩)
   exact gR mixed func36 200 (λw=>[Gm.at 9,va.at 30,g1.at 37,vb.at 30,g2.at 37,vc.at 30,g3.at 37,ve.at 30,g4.at 37,vd.at 40,ay.at 44,.rw 45 _ (.bool true) Wh,g5.at 51,BH.at 52,.step 53 (av f36 53) _ _ _ _ (heq w)]) (λ_=>k_) k_ k_
  ·rw[aJ hp];have Wh:Value.bool (decide ((ep r.d).sign>0))=.bool false:=by
    rw[aJ];have h0:ep r.d<=0:=by omega
    rcases Int.lt_or_eq_of_le h0 with h|h
    ·rw[Fl h];decide
    ·rw[h];decide
   exact gR mixed func36 200 (λw=>[Gm.at 9,va.at 30,g1.at 37,vb.at 30,g2.at 37,vc.at 30,g3.at 37,ve.at 30,g4.at 37,vd.at 40,ay.at 44,.rw 45 _ (.bool false) Wh]) (λ_=>k_) k_ k_
theorem Wi(f:Fr):gD (sH f)=f:=by show Fr.mk (ep (bJ f.a)) (ep (bJ f.b)) (ep (bJ f.c)) (ep (bJ f.e)) (ep (bJ f.d))=f;rw[yc,yc,yc,yc,yc]
theorem aD0{f:Fr}(h:f.pF):nB (sH f)=true:=by unfold nB;rw[Wi,h.one];show(jr (bJ f.a)&&(jr (bJ f.b)&&(jr (bJ f.c)&&(jr (bJ f.e)&&(jr (bJ f.d)&&(decide (0<ep (bJ f.d))&&decide (1=1)))))))=true;rw[LD,LD,LD,LD,LD,yc,aB h.pos];rfl
theorem aW4{f:Fr}{n:Nat}(hf:f.pF)(h:dJ n f)(hn:n<=aA):aE prog 36 [iE f] (.bool true):=by have:=LG (r:=sH f) (n:=n) (by rw[Wi];exact h) hn;rw[aD0 hf]at this;exact this
theorem aWU{x:K}{n:Nat}(h:Sz n x)(hn:n<=aA):aE prog 36 [cg x] (.bool true):=aW4 (kE x) h hn
theorem Qc{r:RN}(h:nB r=true):r=dW (gD r).val:=by unfold nB at h;simp only[de,rU]at h;obtain⟨h1,h2,h3,h4,h5,h6,h7⟩:=h;unfold dW;rw[Fu ⟨h6,h7⟩];obtain⟨a,b,c,e,d⟩:=r;show RN.mk a b c e d=RN.mk (bJ (ep a)) (bJ (ep b)) (bJ (ep c)) (bJ (ep e)) (bJ (ep d));rw[Gl h1,Gl h2,Gl h3,Gl h4,Gl h5]
theorem aWF{x:K}{n:Nat}(h:Sz n x)(hn:n<=aA):aE prog 84 [cg x] (cg (-x)):=by
 have hv:=aWU h hn;have e:cg (-x)=iE (zq (bK x)):=by unfold cg dW;rw[T7];rfl
 rw[e];exact aM func84 (λ_=>[hv.at 6,(aW2 (bK x).a).at 19,(aW2 (bK x).b).at 19,(aW2 (bK x).c).at 19,(aW2 (bK x).e).at 19])
theorem aPP(f:Fr):w5 (wv (sH f) 5)=w5 (cw f):=by show[Value.int .i64 (ep (bJ f.a)),.int .i64 (ep (bJ f.b)),.int .i64 (ep (bJ f.c)),.int .i64 (ep (bJ f.e)),.int .i64 (ep (bJ f.d))]=_;rw[yc,yc,yc,yc,yc];rfl
def Cc(f:Fr):Prop:=∀ i,i<5->qC (gi (sH f) i)=true
theorem Qd{f:Fr}(h:Cc f):∀ i,(cw f i).natAbs<16777216:=by
 have key:∀ z:Int,qC (bJ z)=true->z.natAbs<16777216:=λz hz=>by
  unfold qC at hz;simp at hz;have h1:nd 256 z.natAbs<=3:=by have:=hz.1;show _<=3;rw[<-tE];exact this
  have h2:=dU (B:=256) d_ z.natAbs;have h3:(256:Nat)^nd 256 z.natAbs<=256^3:=c9 d_ h1;exact cC h2 (dh h3 d_)
 intro i;rcases i with _|_|_|_|i
 ·exact key _ (h 0 o_)
 ·exact key _ (h 1 o_)
 ·exact key _ (h 2 o_)
 ·exact key _ (h 3 o_)
 ·exact key _ (h 4 o_)
theorem IH{f:Fr}(h:Cc f):aE prog 53 [iE f] (.tuple #[.agg (w5 (cw f)).toArray,.bool true]):=by have:=aDW h;rw[aPP]at this;exact this
theorem Qe{f:Fr}(h:¬Cc f):∃ n,aE prog 53 [iE f] (.tuple #[.agg (w5 (wv (sH f) n)).toArray,.bool false]):=aDX h
theorem k8{x y:Int}(hx:x.natAbs<16777216)(hy:y.natAbs<16777216):∃ p:Int,x*y=p/\-281474976710656<=p/\p<=281474976710656:=by refine⟨x*y,rfl,?_⟩;have h:=qe hx hy;rw[<-uQ]at h;generalize x*y=p at *;have h2:p.natAbs<281474976710656:=h;omega
theorem pc{x y p:Int}(h:x*y=p)(h1:-281474976710656<=p)(h2:p<=281474976710656):IntKind.i64.wrap (x*y)=p:=by rw[h,db];omega
theorem Gn{c x:Int}(hc:0<=c)(dp:c<=6)(hx:x.natAbs<16777216):IntKind.i64.wrap (c*x)=c*x:=by
 have h1:(c*x).natAbs<=6*16777216:=by rw[uQ];exact y8 o_ o_
 generalize c*x=p at *;rw[db];omega
theorem Gp{c x y p:Int}(hc:0<=c)(dp:c<=6)(h:x*y=p)(h1:-281474976710656<=p)(h2:p<=281474976710656):IntKind.i64.wrap (c*x*y)=c*p:=by
 rw[Int.mul_assoc,h];have h1:(c*p).natAbs<=6*281474976710656:=by rw[uQ];exact y8 o_ o_
 generalize c*p=q at *;rw[db];omega
theorem aWI{x y:K}{m n:Nat}(hx:Sz m x)(hy:Sz n y)(cW:m+n<aA):aE prog 45 [cg x,cg y] (cg (x+y)):=by
 have v1:=aWU hx o_;have v2:=aWU hy o_;have pI:aA<=1099511627776:=by decide
 have xA:=(kE x).pos;have vM:=(kE y).pos;have hl:=aW9 (c:=co (uR (bK x) (bK y))) (d:=(uR (bK x) (bK y)).d) (n:=m+n+1) (Dh o_ o_) (dJ.add hx hy) o_;have e:cg (x+y)=iE (uR (bK x) (bK y)).low:=by unfold cg dW;rw[T5];rfl
 rw[e];by_cases hw:Cc (bK x)/\Cc (bK y)
 ·obtain⟨w1,w2⟩:=hw;have q1:=IH w1;have q2:=IH w2;have b1:=Qd w1;have b2:=Qd w2;change aE _ _ [iE (bK x)] _ at v1;change aE _ _ [iE (bK y)] _ at v2;show aE _ _ [iE (bK x),iE (bK y)] _;clear hl hx hy e;generalize bK x=f at *;generalize bK y=g at *;obtain⟨p0,Dx,lp0,up0⟩:=k8 (b1 0) (b2 4);obtain⟨II,mZ,lq0,uq0⟩:=k8 (b2 0) (b1 4);obtain⟨p1,iz,lp1,up1⟩:=k8 (b1 1) (b2 4);obtain⟨qH,uL,lq1,uq1⟩:=k8 (b2 1) (b1 4);obtain⟨p2,wT,lp2,up2⟩:=k8 (b1 2) (b2 4);obtain⟨Bi,nL,lq2,uq2⟩:=k8 (b2 2) (b1 4);obtain⟨p3,It,lp3,up3⟩:=k8 (b1 3) (b2 4);obtain⟨lS,Wj,lq3,uq3⟩:=k8 (b2 3) (b1 4);obtain⟨p4,Qf,lp4,up4⟩:=k8 (b1 4) (b2 4);change f.a*g.d=p0 at Dx;change g.a*f.d=II at mZ;change f.b*g.d=p1 at iz;change g.b*f.d=qH at uL;change f.c*g.d=p2 at wT;change g.c*f.d=Bi at nL;change f.e*g.d=p3 at It;change g.e*f.d=lS at Wj;change f.d*g.d=p4 at Qf;have Wk:uR f g=⟨p0+II,p1+qH,p2+Bi,p3+lS,p4⟩:=by unfold uR;rw[Dx,iz,wT,It,Qf,mZ,uL,nL,Wj]
  have nm:=aDZ (f:=uR f g) (by rw[Wk];show 0<p4;rw[<-Qf];exact Ua xA vM) (by
   rw[Wk];intro i;rcases i with _|_|_|_|i
   ·show(p0+II).natAbs<_;omega
   ·show(p1+qH).natAbs<_;omega
   ·show(p2+Bi).natAbs<_;omega
   ·show(p3+lS).natAbs<_;omega
   ·show p4.natAbs<_;omega)
  rw[Wk]at nm ⊢;exact gR mixed func45 200 (λ_=>[v1.at 13,v2.at 17,q1.at 23,q2.at 29,.wr 43 .i64 (f.a*g.d) p0 (pc Dx lp0 up0),.wr 49 .i64 (g.a*f.d) II (pc mZ lq0 uq0),.wr 50 .i64 (p0+II) (p0+II) (by rw[db];omega),.wr 43 .i64 (f.b*g.d) p1 (pc iz lp1 up1),.wr 49 .i64 (g.b*f.d) qH (pc uL lq1 uq1),.wr 50 .i64 (p1+qH) (p1+qH) (by rw[db];omega),.wr 43 .i64 (f.c*g.d) p2 (pc wT lp2 up2),.wr 49 .i64 (g.c*f.d) Bi (pc nL lq2 uq2),.wr 50 .i64 (p2+Bi) (p2+Bi) (by rw[db];omega),.wr 43 .i64 (f.e*g.d) p3 (pc It lp3 up3),.wr 49 .i64 (g.e*f.d) lS (pc Wj lq3 uq3),.wr 50 .i64 (p3+lS) (p3+lS) (by rw[db];omega),.wr 56 .i64 (f.d*g.d) p4 (pc Qf lp4 up4),nm.at 59]) (λ_=>k_) k_ k_
 ·obtain⟨x1,x2,x3,x4,x5⟩:=hx;obtain⟨y1,y2,y3,y4,y5⟩:=hy;have mu:∀{u v:Int} {p q:Nat},u.natAbs<2^p->v.natAbs<2^q->p+q<=aA->aE prog 82 [bN u,bN v] (bN (u*v)):=λh1 h2 h3=>aWH h1 h2 o_ o_;have ad:∀{u v:Int},u.natAbs<2^m->v.natAbs<2^n->aE prog 81 [bN (u*(bK y).d),bN (v*(bK x).d)] (bN (u*(bK y).d+v*(bK x).d)):=λh1 h2=>
   aW1 (eE h1 y5) (eE h2 x5) o_ o_
  by_cases w1:Cc (bK x)
  ·obtain⟨k,q2⟩:=Qe (f:=bK y) (λh=>hw ⟨w1,h⟩);have q1:=IH w1;exact gR mixed func45 200 (λ_=>[v1.at 13,v2.at 17,q1.at 23,q2.at 29,(mu x1 y5 o_).at 71,(mu y1 x5 o_).at 78,(ad x1 y1).at 79,(mu x2 y5 o_).at 71,(mu y2 x5 o_).at 78,(ad x2 y2).at 79,(mu x3 y5 o_).at 71,(mu y3 x5 o_).at 78,(ad x3 y3).at 79,(mu x4 y5 o_).at 71,(mu y4 x5 o_).at 78,(ad x4 y4).at 79,(mu x5 y5 o_).at 86,hl.at 87]) (λ_=>k_) k_ k_
  ·obtain⟨k,q1⟩:=Qe (f:=bK x) w1;exact gR mixed func45 200 (λ_=>[v1.at 13,v2.at 17,q1.at 23,(mu x1 y5 o_).at 71,(mu y1 x5 o_).at 78,(ad x1 y1).at 79,(mu x2 y5 o_).at 71,(mu y2 x5 o_).at 78,(ad x2 y2).at 79,(mu x3 y5 o_).at 71,(mu y3 x5 o_).at 78,(ad x3 y3).at 79,(mu x4 y5 o_).at 71,(mu y4 x5 o_).at 78,(ad x4 y4).at 79,(mu x5 y5 o_).at 86,hl.at 87]) (λ_=>k_) k_ k_
theorem aWv{x y:K}{m n:Nat}(hx:Sz m x)(hy:Sz n y)(cW:m+n<aA):aE prog 86 [cg x,cg y] (cg (x-y)):=by rw[CR.sub_def];exact aM func86 (λ_=>[(aWF hy o_).at 7,(aWI hx hy.neg cW).at 8])
section
variable{Bs:aa}{a b:Nat->Int}
def Wl(n:Nat):aR:=[(6,vI (n/4)),(7,vI (n%4)),(2,ptr 0),(3,ptr 1),(5,ptr 3)]
def IJ(a b c:Nat->Int):aH:=[(0,.aI (ic a) 29),(1,.aI (ic b) 29),(3,.aI (ic c) 29)]
theorem aPQ(n:Nat)(hn:n<16){c:Nat->Int}{p q r:Nat}(ha:∀ i,(a i).natAbs<2^p)(hb:∀ i,(b i).natAbs<2^q)(hc:∀ i,(c i).natAbs<2^r)(OA:p+q+3<=aA)(hr:r<=aA):
  ag prog Bs 66 (.block 3 (af f83 3)) (Wl n) (IJ a b c) (4+n) ⟨.normal,[],IJ a b (xD n a b c),5+n⟩:=by
 have pI:aA<=1099511627776:=by decide
 have qX:∀ m,(sq m).natAbs<2^3:=λm=>by unfold sq;split<;>decide
 have m1:=aWH (ha (n/4)) (hb (n%4)) o_ o_;have m2:=aWH (qX ((n/4)&&& (n%4))) (eE (ha (n/4)) (hb (n%4))) o_ o_;have ad:=aW1 (hc ((n/4) ^^^ (n%4))) (eE (qX ((n/4)&&& (n%4))) (eE (ha (n/4)) (hb (n%4)))) o_ o_;have so:=aWb (z:=sq ((n/4)&&& (n%4))) (by have:=qX ((n/4)&&& (n%4));omega) (by have:=qX ((n/4)&&& (n%4));omega);have sa:=aXa (a (n/4));have sb:=aXa (b (n%4));have z1:∀ z:Int,z=0->Value.bool (z.sign==0)=.bool true:=λz h=>by rw[h];rfl
 have z2:∀ z:Int,z≠0->Value.bool (z.sign==0)=.bool false:=λz h=>by congr 1;simp;exact h
 by_cases h1:a (n/4)=0
 ·rw[Oz (.inl h1)];have e:=z1 _ h1;rcases n with _|_|_|_|_|_|_|_|_|_|_|_|_|_|_|_|n
  all_goals first|omega|exact aC [sa.at 21,.rw 22 _ (.bool true) e]
 ·have e:=z2 _ h1;by_cases h2:b (n%4)=0
  ·rw[Oz (.inr h2)];have e':=z1 _ h2;rcases n with _|_|_|_|_|_|_|_|_|_|_|_|_|_|_|_|n
   all_goals first|omega|exact aC [sa.at 21,.rw 22 _ (.bool false) e,sb.at 27,.rw 28 _ (.bool true) e']
  ·have e':=z2 _ h2;rcases n with _|_|_|_|_|_|_|_|_|_|_|_|_|_|_|_|n
   all_goals first|omega|exact aC [sa.at 21,.rw 22 _ (.bool false) e,sb.at 27,.rw 28 _ (.bool false) e',so.at 45,m1.at 52,m2.at 53,ad.at 63]
end
theorem aD1{a b:Nat->Int}{m n:Nat}(ca:∀ i,(a i).natAbs<2^m)(cb:∀ i,(b i).natAbs<2^n)(cW:m+n+8<=aA):aE prog 83 [pH a,pH b] (pH (jQ a b 16)):=by
 have pI:aA<=1099511627776:=by decide
 have hs:∀ i,i<=16->∀ k,(jQ a b i k).natAbs<2^(m+n+8):=λi hi k=>by
  have h1:=Um ca cb i hi k;have h2:i*2^(m+n+3)<=16*2^(m+n+3):=fo _ hi;have h3:2^(m+n+8)=32*2^(m+n+3):=by rw[show m+n+8=5+(m+n+3)by omega,eD]
  have h4:0<2^(m+n+3):=cK d_;omega
 have go:∀(w:World) (i:Nat),i<16->ag prog (aa.at w) 66 (.block 3 (af f83 3)) (Wl i) (IJ a b (jQ a b i)) (4+i) ⟨.normal,[],IJ a b (jQ a b (i+1)),5+i⟩:=λw i hi=>
  aPQ i hi ca cb (hs i o_) o_ o_
 have Un:∀(w:World),ag prog (aa.at w) 66 (.block 3 (af f83 3)) (Wl 0) [(0,.aI (ic a) 29),(1,.aI (ic b) 29),(3,.aI [.bool false,.string ⟨#[]⟩,.bool false,.string ⟨#[]⟩,.bool false,.string ⟨#[]⟩,.bool false,.string ⟨#[]⟩] 29)] 4
   ⟨.normal,[],IJ a b (jQ a b 1),5⟩:=λw=>by
  have h:=go w 0 o_;have e:IJ a b (jQ a b 0)=[(0,.aI (ic a) 29),(1,.aI (ic b) 29),(3,.aI [.bool false,.string ⟨#[]⟩,.bool false,.string ⟨#[]⟩,.bool false,.string ⟨#[]⟩,.bool false,.string ⟨#[]⟩] 29)]:=by show[(0,Obj.aI (ic a) 29),(1,.aI (ic b) 29),(3,.aI (ic (λ_=>0)) 29)]=_;rw[aBn]
  rw[e]at h;exact h
 generalize jQ a b=c at *;exact gR mixed func83 300 (λw=>[.code 3 _ _ _ _ _ (Un w),.code 3 _ _ _ _ _ (go w 1 o_),.code 3 _ _ _ _ _ (go w 2 o_),.code 3 _ _ _ _ _ (go w 3 o_),.code 3 _ _ _ _ _ (go w 4 o_),.code 3 _ _ _ _ _ (go w 5 o_),.code 3 _ _ _ _ _ (go w 6 o_),.code 3 _ _ _ _ _ (go w 7 o_),.code 3 _ _ _ _ _ (go w 8 o_),.code 3 _ _ _ _ _ (go w 9 o_),.code 3 _ _ _ _ _ (go w 10 o_),.code 3 _ _ _ _ _ (go w 11 o_),.code 3 _ _ _ _ _ (go w 12 o_),.code 3 _ _ _ _ _ (go w 13 o_),.code 3 _ _ _ _ _ (go w 14 o_),.code 3 _ _ _ _ _ (go w 15 o_)]) (λ_=>k_) k_ k_
theorem aWk{x y:K}{m n:Nat}(hx:Sz m x)(hy:Sz n y)(cW:m+n+8<=aA):aE prog 46 [cg x,cg y] (cg (x*y)):=by
 have v1:=aWU hx o_;have v2:=aWU hy o_;have pI:aA<=1099511627776:=by decide
 have xA:=(kE x).pos;have vM:=(kE y).pos;have e:cg (x*y)=iE (fk (bK x) (bK y)).low:=by unfold cg dW;rw[T6];rfl
 rw[e];by_cases hw:Cc (bK x)/\Cc (bK y)
 ·obtain⟨w1,w2⟩:=hw;have q1:=IH w1;have q2:=IH w2;have b1:=Qd w1;have b2:=Qd w2;change aE _ _ [iE (bK x)] _ at v1;change aE _ _ [iE (bK y)] _ at v2;show aE _ _ [iE (bK x),iE (bK y)] _;clear hx hy e;generalize bK x=f at *;generalize bK y=g at *;obtain⟨Ai,Wm,aPR,aPS⟩:=k8 (b1 0) (b2 0);change f.a*g.a=Ai at Wm;obtain⟨Aj,Wn,aPT,aPU⟩:=k8 (b1 0) (b2 1);change f.a*g.b=Aj at Wn;obtain⟨Ak,Wo,aPV,aPW⟩:=k8 (b1 0) (b2 2);change f.a*g.c=Ak at Wo;obtain⟨Al,Wp,aPX,aPY⟩:=k8 (b1 0) (b2 3);change f.a*g.e=Al at Wp;obtain⟨Am,Wq,aPZ,aP0⟩:=k8 (b1 1) (b2 0);change f.b*g.a=Am at Wq;obtain⟨An,Wr,aP1,aP2⟩:=k8 (b1 1) (b2 1);change f.b*g.b=An at Wr;obtain⟨D7,Ws,aP3,aP4⟩:=k8 (b1 1) (b2 2);change f.b*g.c=D7 at Ws;obtain⟨D8,Wt,aP5,aP6⟩:=k8 (b1 1) (b2 3);change f.b*g.e=D8 at Wt;obtain⟨Ao,Wu,aP7,aP8⟩:=k8 (b1 2) (b2 0);change f.c*g.a=Ao at Wu;obtain⟨IK,Wv,aP9,aQa⟩:=k8 (b1 2) (b2 1);change f.c*g.b=IK at Wv;obtain⟨D9,Ww,aQb,aQc⟩:=k8 (b1 2) (b2 2);change f.c*g.c=D9 at Ww;obtain⟨Ea,Wx,aQd,aQe⟩:=k8 (b1 2) (b2 3);change f.c*g.e=Ea at Wx;obtain⟨Ap,Wy,aQf,aQg⟩:=k8 (b1 3) (b2 0);change f.e*g.a=Ap at Wy;obtain⟨IL,Wz,aQh,aQi⟩:=k8 (b1 3) (b2 1);change f.e*g.b=IL at Wz;obtain⟨IM,WA,aQj,aQk⟩:=k8 (b1 3) (b2 2);change f.e*g.c=IM at WA;obtain⟨IP,WB,aQl,aQm⟩:=k8 (b1 3) (b2 3);change f.e*g.e=IP at WB;obtain⟨LH,Qg,aQn,aQo⟩:=k8 (b1 4) (b2 4);change f.d*g.d=LH at Qg;have hmul:fk f g=⟨Ai+2*An+3*D9+6*IP,Aj+Am+3*Ea+3*IM,Ak+Ao+2*D8+2*IL,Al+Ap+D7+IK,LH⟩:=by
   unfold fk;simp only[Fr.mk.injEq];refine⟨?_,?_,?_,?_,Qg⟩
   ·rw[Wm,Wr,Ww,WB]<;>omega
   ·rw[Wn,Wq,Wx,WA]<;>omega
   ·rw[Wo,Wu,Wt,Wz]<;>omega
   ·rw[Wp,Wy,Ws,Wv]<;>omega
  have nm:=aDZ (f:=fk f g) (by rw[hmul];show 0<LH;rw[<-Qg];exact Ua xA vM) (by
   rw[hmul];intro i;rcases i with _|_|_|_|i
   ·show(Ai+2*An+3*D9+6*IP).natAbs<_;omega
   ·show(Aj+Am+3*Ea+3*IM).natAbs<_;omega
   ·show(Ak+Ao+2*D8+2*IL).natAbs<_;omega
   ·show(Al+Ap+D7+IK).natAbs<_;omega
   ·show LH.natAbs<_;omega)
  rw[hmul]at nm ⊢;exact gR mixed func46 300 (λ_=>[v1.at 10,v2.at 14,q1.at 20,q2.at 26,.wr 34 .i64 (f.a*g.a) Ai (pc Wm aPR aPS),.wr 37 .i64 (2*f.b) (2*f.b) (Gn d_ d_ (b1 1)),.wr 40 .i64 (2*f.b*g.b) (2*An) (Gp d_ d_ Wr aP1 aP2),.wr 41 .i64 (Ai+2*An) (Ai+2*An) (by rw[db];omega),.wr 44 .i64 (3*f.c) (3*f.c) (Gn d_ d_ (b1 2)),.wr 47 .i64 (3*f.c*g.c) (3*D9) (Gp d_ d_ Ww aQb aQc),.wr 48 .i64 (Ai+2*An+3*D9) (Ai+2*An+3*D9) (by rw[db];omega),.wr 51 .i64 (6*f.e) (6*f.e) (Gn d_ d_ (b1 3)),.wr 54 .i64 (6*f.e*g.e) (6*IP) (Gp d_ d_ WB aQl aQm),.wr 55 .i64 (Ai+2*An+3*D9+6*IP) (Ai+2*An+3*D9+6*IP) (by rw[db];omega),.wr 60 .i64 (f.a*g.b) Aj (pc Wn aPT aPU),.wr 65 .i64 (f.b*g.a) Am (pc Wq aPZ aP0),.wr 66 .i64 (Aj+Am) (Aj+Am) (by rw[db];omega),.wr 69 .i64 (3*f.c) (3*f.c) (Gn d_ d_ (b1 2)),.wr 72 .i64 (3*f.c*g.e) (3*Ea) (Gp d_ d_ Wx aQd aQe),.wr 73 .i64 (Aj+Am+3*Ea) (Aj+Am+3*Ea) (by rw[db];omega),.wr 76 .i64 (3*f.e) (3*f.e) (Gn d_ d_ (b1 3)),.wr 79 .i64 (3*f.e*g.c) (3*IM) (Gp d_ d_ WA aQj aQk),.wr 80 .i64 (Aj+Am+3*Ea+3*IM) (Aj+Am+3*Ea+3*IM) (by rw[db];omega),.wr 85 .i64 (f.a*g.c) Ak (pc Wo aPV aPW),.wr 90 .i64 (f.c*g.a) Ao (pc Wu aP7 aP8),.wr 91 .i64 (Ak+Ao) (Ak+Ao) (by rw[db];omega),.wr 94 .i64 (2*f.b) (2*f.b) (Gn d_ d_ (b1 1)),.wr 97 .i64 (2*f.b*g.e) (2*D8) (Gp d_ d_ Wt aP5 aP6),.wr 98 .i64 (Ak+Ao+2*D8) (Ak+Ao+2*D8) (by rw[db];omega),.wr 101 .i64 (2*f.e) (2*f.e) (Gn d_ d_ (b1 3)),.wr 104 .i64 (2*f.e*g.b) (2*IL) (Gp d_ d_ Wz aQh aQi),.wr 105 .i64 (Ak+Ao+2*D8+2*IL) (Ak+Ao+2*D8+2*IL) (by rw[db];omega),
   .wr 110 .i64 (f.a*g.e) Al (pc Wp aPX aPY),.wr 115 .i64 (f.e*g.a) Ap (pc Wy aQf aQg),.wr 116 .i64 (Al+Ap) (Al+Ap) (by rw[db];omega),.wr 121 .i64 (f.b*g.c) D7 (pc Ws aP3 aP4),.wr 122 .i64 (Al+Ap+D7) (Al+Ap+D7) (by rw[db];omega),.wr 127 .i64 (f.c*g.b) IK (pc Wv aP9 aQa),.wr 128 .i64 (Al+Ap+D7+IK) (Al+Ap+D7+IK) (by rw[db];omega),
   .wr 133 .i64 (f.d*g.d) LH (pc Qg aQn aQo),nm.at 135]) (λ_=>k_) k_ k_
 ·have ca:=H3 hx;have cb:=H3 hy;have tm:=aD1 ca cb cW;have hl:=aW9 (c:=jQ (co (bK x)) (co (bK y)) 16) (d:=(bK x).d*(bK y).d) (n:=m+n+4) (Dh o_ o_) (by rw[KM];exact dJ.mul hx hy) o_;rw[KM]at hl;have md:=aWH hx.2.2.2.2 hy.2.2.2.2 o_ o_;generalize jQ (co (bK x)) (co (bK y)) 16=c at *;by_cases w1:Cc (bK x)
  ·obtain⟨k,q2⟩:=Qe (f:=bK y) (λh=>hw ⟨w1,h⟩);have q1:=IH w1;exact gR mixed func46 200 (λ_=>[v1.at 10,v2.at 14,q1.at 20,q2.at 26,tm.at 140,md.at 145,hl.at 146]) (λ_=>k_) k_ k_
  ·obtain⟨k,q1⟩:=Qe (f:=bK x) w1;exact gR mixed func46 200 (λ_=>[v1.at 10,v2.at 14,q1.at 20,tm.at 140,md.at 145,hl.at 146]) (λ_=>k_) k_ k_
theorem aD2{a s:Int}(ha:a.natAbs<=1)(hs:s.natAbs<=1):IntKind.i64.wrap (a*s)=a*s:=by
 have h1:a=-1\/a=0\/a=1:=by omega
 rcases h1 with h1|h1|h1<;>rw[h1,db]<;>omega
theorem yd{a b:Int}(h:a=b):Value.bool (a==b)=.bool true:=by rw[h];simp
theorem pN{a b:Int}(h:a≠b):Value.bool (a==b)=.bool false:=by congr 1;simpa using h
theorem WC{x y:Int}{p q:Nat}(h1:x.natAbs<2^p)(h2:y.natAbs<2^q)(hp:p+p+3<=aA)(hq:q+q+3<=aA):aE prog 133 [bN x,bN y] (.int .i64 (pG x y)):=by
 have pI:aA<=1099511627776:=by decide
 have s1:=aXa x;have s2:=aXa y;have l1:=FB x;have l3:=FB (x*x-2*(y*y));have m1:=aWH h1 h1 o_ o_;have o2:=aWb (z:=2) d_ d_;have m2:=aWH h2 h2 o_ o_;have m3:=aWH (x:=2) (y:=y*y) (p:=2) d_ (eE h2 h2) d_ o_;have cm:=aW5 (x:=x*x) (y:=2*(y*y)) (eE h1 h1) (eE (m:=2) (u:=2) d_ (eE h2 h2)) o_ o_;have hw:=aD2 l1 l3;unfold pG tH;generalize (x*x-2*(y*y)).sign=t at *;generalize x.sign=a at *;generalize y.sign=b at *;by_cases h1:a=b
 ·rw[ax (.inl h1)];exact aM func133 (λ_=>[s1.at 8,s2.at 10,.rw 13 _ (.bool true) (yd h1)])
 ·by_cases h2:b=0
  ·rw[ax (.inr h2)];exact aM func133 (λ_=>[s1.at 8,s2.at 10,.rw 13 _ (.bool false) (pN h1),.rw 16 _ (.bool true) (yd h2)])
  ·rw[au (λh=>h.elim h1 h2)];by_cases h3:a=0
   ·rw[ax h3];exact aM func133 (λ_=>[s1.at 8,s2.at 10,.rw 13 _ (.bool false) (pN h1),.rw 16 _ (.bool false) (pN h2),.rw 20 _ (.bool true) (yd h3)])
   ·rw[au h3];exact aM func133 (λ_=>[s1.at 8,s2.at 10,.rw 13 _ (.bool false) (pN h1),.rw 16 _ (.bool false) (pN h2),.rw 20 _ (.bool false) (pN h3),m1.at 25,o2.at 26,m2.at 29,m3.at 30,cm.at 31,.wr 32 .i64 (a*t) (a*t) hw])
theorem IQ{f g:Fr}{m n:Nat}(hf:dJ m f)(hg:dJ n g)(cW:m+n+8<=aA):aE prog 83 [pH (co f),pH (co g)] (pH (co (fk f g))):=by
 have h:=aD1 (H3 hf) (H3 hg) cW;have e:pH (jQ (co f) (co g) 16)=pH (co (fk f g)):=by rw[<-KM f g];rfl
 rw[e]at h;exact h
def f2(a b:Int):Fr:=⟨a,b,0,0,1⟩
theorem aQp(a b:Int):fk (f2 a b) (f2 a b)=⟨a*a+2*(b*b),2*(a*b),0,0,1⟩:=by
 unfold fk f2;simp only[Fr.mk.injEq];refine⟨?_,?_,?_,?_,?_⟩
 ·simp
 ·rw[TF b a];simp;omega
 ·simp
 ·simp
 ·rfl
theorem aQq(a b:Int):pH (co (f2 a b))=.agg #[.bool (bJ a).neg,.string (BA (bJ a).ba),.bool (bJ b).neg,.string (BA (bJ b).ba),.bool false,.string ⟨#[]⟩,.bool false,.string ⟨#[]⟩]:=by show Value.agg #[.bool (bJ a).neg,.string (BA (bJ a).ba),.bool (bJ b).neg,.string (BA (bJ b).ba),.bool (bJ 0).neg,.string (BA (bJ 0).ba),.bool (bJ 0).neg,.string (BA (bJ 0).ba)]=_;rw[Dn];rfl
theorem aD3{a b:Int}{n:Nat}(ha:a.natAbs<2^n)(hb:b.natAbs<2^n)(hn:2*n+10<=aA):
  aE prog 83 [.agg #[.bool (bJ a).neg,.string (BA (bJ a).ba),.bool (bJ b).neg,.string (BA (bJ b).ba),.bool false,.string ⟨#[]⟩,.bool false,.string ⟨#[]⟩],.agg #[.bool (bJ a).neg,.string (BA (bJ a).ba),.bool (bJ b).neg,.string (BA (bJ b).ba),.bool false,.string ⟨#[]⟩,.bool false,.string ⟨#[]⟩]]
   (pH (co ⟨a*a+2*(b*b),2*(a*b),0,0,1⟩)):=by
 have hp:0<2^n:=cK d_;have h:dJ (n+1) (f2 a b):=by have h2:2^n*2=2^(n+1):=(dy ..).symm;refine⟨?_,?_,?_,?_,?_⟩<;>unfold f2<;>dsimp only<;>omega
 have:=IQ h h o_;rw[aQp,aQq]at this;exact this
theorem aWw{x:K}{n:Nat}(hx:Sz n x)(hn:4*n+30<=aA):aE prog 85 [cg x] (.int .i64 (OF.ay x)):=by
 have pI:aA<=1099511627776:=by decide
 have hv:=aWU hx o_;rw[aBb];obtain⟨x1,x2,x3,x4,x5⟩:=hx;unfold cg dW at *;generalize bK x=f at *;have s1:=WC x1 x2 o_ o_;have s2:=WC x3 x4 o_ o_;have t1:=aD3 x1 x2 o_;have t2:=aD3 x3 x4 o_;have o3:=aWb (z:=3) d_ d_;have z1:(f.a*f.a).natAbs<2^(n+n+2):=cC (eE x1 x1) (c9 d_ o_);have z2:(2*(f.b*f.b)).natAbs<2^(n+n+2):=by have:=eE (m:=2) (u:=2) d_ (eE x2 x2);rwa[show 2+(n+n)=n+n+2 by omega]at this
 have z3:(f.c*f.c).natAbs<2^(n+n+2):=cC (eE x3 x3) (c9 d_ o_);have z4:(2*(f.e*f.e)).natAbs<2^(n+n+2):=by have:=eE (m:=2) (u:=2) d_ (eE x4 x4);rwa[show 2+(n+n)=n+n+2 by omega]at this
 have z12:=H7 z1 z2;have z34:=H7 z3 z4;have y1:(2*(f.a*f.b)).natAbs<2^(n+n+2):=by have:=eE (m:=2) (u:=2) d_ (eE x1 x2);rwa[show 2+(n+n)=n+n+2 by omega]at this
 have y2:(2*(f.c*f.e)).natAbs<2^(n+n+2):=by have:=eE (m:=2) (u:=2) d_ (eE x3 x4);rwa[show 2+(n+n)=n+n+2 by omega]at this
 have m34:=aWH (x:=3) (p:=2) d_ z34 d_ o_;have zm:(3*(f.c*f.c+2*(f.e*f.e))).natAbs<2^(n+n+5):=by have:=eE (m:=2) (u:=3) d_ z34;rwa[show 2+(n+n+2+1)=n+n+5 by omega]at this
 have aD4:(f.a*f.a+2*(f.b*f.b)).natAbs<2^(n+n+5):=cC z12 (c9 d_ o_);have d1:=aWc aD4 zm o_ o_;have my:=aWH (x:=3) (p:=2) d_ y2 d_ o_;have ym:(3*(2*(f.c*f.e))).natAbs<2^(n+n+4):=by have:=eE (m:=2) (u:=3) d_ y2;rwa[show 2+(n+n+2)=n+n+4 by omega]at this
 have y1':(2*(f.a*f.b)).natAbs<2^(n+n+4):=cC y1 (c9 d_ o_);have d2:=aWc y1' ym o_ o_;have s3:=WC (OB aD4 zm) (OB y1' ym) o_ o_;have e1:(f.a*f.a+2*(f.b*f.b))-3*(f.c*f.c+2*(f.e*f.e))=(f.a*f.a+2*(f.b*f.b))-(3*(f.c*f.c)+6*(f.e*f.e)):=by omega
 have e2:2*(f.a*f.b)-3*(2*(f.c*f.e))=2*(f.a*f.b)-6*(f.c*f.e):=by omega
 have xE:=OC f.a f.b;have Uq:=OC ((f.a*f.a+2*(f.b*f.b))-(3*(f.c*f.c)+6*(f.e*f.e))) (2*(f.a*f.b)-6*(f.c*f.e));have hw:=aD2 xE Uq;rw[<-e1,<-e2]at hw;unfold Ot tH;rw[<-e1,<-e2];generalize pG ((f.a*f.a+2*(f.b*f.b))-3*(f.c*f.c+2*(f.e*f.e))) (2*(f.a*f.b)-3*(2*(f.c*f.e)))=t at *;generalize pG f.a f.b=p at *;generalize pG f.c f.e=q at *;by_cases h1:p=q
 ·rw[ax (.inl h1)];exact aM func85 (λ_=>[hv.at 9,s1.at 17,s2.at 24,.rw 27 _ (.bool true) (yd h1)])
 ·by_cases h2:q=0
  ·rw[ax (.inr h2)];exact aM func85 (λ_=>[hv.at 9,s1.at 17,s2.at 24,.rw 27 _ (.bool false) (pN h1),.rw 30 _ (.bool true) (yd h2)])
  ·rw[au (λh=>h.elim h1 h2)];by_cases h3:p=0
   ·rw[ax h3];exact aM func85 (λ_=>[hv.at 9,s1.at 17,s2.at 24,.rw 27 _ (.bool false) (pN h1),.rw 30 _ (.bool false) (pN h2),.rw 34 _ (.bool true) (yd h3)])
   ·rw[au h3];exact gR mixed func85 200 (λ_=>[hv.at 9,s1.at 17,s2.at 24,.rw 27 _ (.bool false) (pN h1),.rw 30 _ (.bool false) (pN h2),.rw 34 _ (.bool false) (pN h3),t1.at 50,t2.at 65,o3.at 66,m34.at 73,d1.at 74,my.at 80,d2.at 81,s3.at 82,.wr 83 .i64 (p*t) (p*t) hw]) (λ_=>k_) k_ k_
theorem aWY{x y:K}{m n:Nat}(hx:Sz m x)(hy:Sz n y)(cW:4*(m+n)+40<=aA):aE prog 48 [cg x,cg y] (.int .i64 (OF.ay (x-y))):=
 aM func48 (λ_=>[(aWU hx o_).at 6,(aWU hy o_).at 10,(aWv hx hy o_).at 15,(aWw (hx.sub hy) o_).at 16])
theorem aWX{x:K}{n:Nat}(hx:Sz n x)(hn:4*n+30<=aA):aE prog 171 [cg x] (cg (iX x)):=by
 unfold iX;have n1:=aWF hx o_;have n2:=aWF hx.neg o_;rw[CR.neg_neg]at n2;by_cases h:OF.ay x<0
 ·rw[ax h];exact aM func171 (λ_=>[(aWw hx hn).at 4,.rw 5 (.bool (decide (OF.ay x<0))) (.bool true) (by rw[aB h]),n1.at 7])
 ·rw[au h];exact aM func171 (λ_=>[(aWw hx hn).at 4,.rw 5 (.bool (decide (OF.ay x<0))) (.bool false) (by rw[aJ h]),n1.at 9,n2.at 10])
def sZ(q:RI):Nat:=q.ba.length
def s7(r:RN)(k:Nat):Bool:=decide (sZ r.a<=k)&&(decide (sZ r.b<=k)&&(decide (sZ r.c<=k)&&(decide (sZ r.e<=k)&&decide (sZ r.d<=k))))
theorem Aq(l:List UInt8):Value.int .i64 ((BA l).size:Int)=vI l.length:=by rw[oT];rfl
theorem uc{a b:Nat}{t:Bool}(h:decide (a<=b)=!t):Value.bool (decide ((a:Int)>(b:Int)))=.bool t:=by
 congr 1
 cases t
 ·have:=kW h;exact aJ o_
 ·have:=HD h;exact aB o_
theorem Qh(r:RN)(k:Nat):aE prog 33 [r.v,vI k] (.bool (s7 r k)):=by
 unfold s7 sZ;have la:=Aq r.a.ba;have lb:=Aq r.b.ba;have lc:=Aq r.c.ba;have le:=Aq r.e.ba;have ld:=Aq r.d.ba;rcases ha:decide (r.a.ba.length<=k)with _|_
 ·exact aM func33 (λ_=>[.rw 15 _ (vI r.a.ba.length) la,.rw 17 _ (.bool true) (uc (t:=true) ha)])
 rcases hb:decide (r.b.ba.length<=k)with _|_
 ·exact aM func33 (λ_=>[.rw 15 _ (vI r.a.ba.length) la,.rw 17 _ (.bool false) (uc (t:=false) ha),.rw 15 _ (vI r.b.ba.length) lb,.rw 17 _ (.bool true) (uc (t:=true) hb)])
 rcases hc:decide (r.c.ba.length<=k)with _|_
 ·exact aM func33 (λ_=>[.rw 15 _ (vI r.a.ba.length) la,.rw 17 _ (.bool false) (uc (t:=false) ha),.rw 15 _ (vI r.b.ba.length) lb,.rw 17 _ (.bool false) (uc (t:=false) hb),.rw 15 _ (vI r.c.ba.length) lc,.rw 17 _ (.bool true) (uc (t:=true) hc)])
 rcases he:decide (r.e.ba.length<=k)with _|_
 ·exact aM func33 (λ_=>[.rw 15 _ (vI r.a.ba.length) la,.rw 17 _ (.bool false) (uc (t:=false) ha),.rw 15 _ (vI r.b.ba.length) lb,.rw 17 _ (.bool false) (uc (t:=false) hb),.rw 15 _ (vI r.c.ba.length) lc,.rw 17 _ (.bool false) (uc (t:=false) hc),.rw 15 _ (vI r.e.ba.length) le,.rw 17 _ (.bool true) (uc (t:=true) he)])
 have hd:Value.bool (decide ((r.d.ba.length:Int)<=(k:Int)))=.bool (decide (r.d.ba.length<=k)):=by congr 1;rw[oQ];omega
 exact aM func33 (λ_=>[.rw 15 _ (vI r.a.ba.length) la,.rw 17 _ (.bool false) (uc (t:=false) ha),.rw 15 _ (vI r.b.ba.length) lb,.rw 17 _ (.bool false) (uc (t:=false) hb),.rw 15 _ (vI r.c.ba.length) lc,.rw 17 _ (.bool false) (uc (t:=false) hc),.rw 15 _ (vI r.e.ba.length) le,.rw 17 _ (.bool false) (uc (t:=false) he),.rw 21 _ (vI r.d.ba.length) ld,.rw 23 _ (.bool (decide (r.d.ba.length<=k))) hd])
def wN(r:RN):Nat:=sZ r.d+sZ r.a+sZ r.b+sZ r.c+sZ r.e
theorem Qi{r:RN}(h:wN r<9223372036854775808):aE prog 52 [r.v] (vI (wN r)):=by unfold wN sZ at *;have la:=Aq r.a.ba;have lb:=Aq r.b.ba;have lc:=Aq r.c.ba;have le:=Aq r.e.ba;have ld:=Aq r.d.ba;exact aM func52 (λ_=>[.rw 8 _ (vI r.d.ba.length) ld,.rw 19 _ (vI r.a.ba.length) la,.sum 20 r.d.ba.length r.a.ba.length (r.d.ba.length+r.a.ba.length) rfl o_,.rw 19 _ (vI r.b.ba.length) lb,.sum 20 (r.d.ba.length+r.a.ba.length) r.b.ba.length (r.d.ba.length+r.a.ba.length+r.b.ba.length) rfl o_,.rw 19 _ (vI r.c.ba.length) lc,.sum 20 (r.d.ba.length+r.a.ba.length+r.b.ba.length) r.c.ba.length (r.d.ba.length+r.a.ba.length+r.b.ba.length+r.c.ba.length) rfl o_,.rw 19 _ (vI r.e.ba.length) le,.sum 20 (r.d.ba.length+r.a.ba.length+r.b.ba.length+r.c.ba.length) r.e.ba.length (r.d.ba.length+r.a.ba.length+r.b.ba.length+r.c.ba.length+r.e.ba.length) rfl o_])
theorem WD(p q r t:Rat)(k:Rat):(⟨⟨p,q⟩,⟨r,t⟩⟩:K)*⟨⟨k,0⟩,⟨0,0⟩⟩=⟨⟨p*k,q*k⟩,⟨r*k,t*k⟩⟩:=by
 apply bB.ext
 ·apply bB.ext
  ·show(p*k+2*(q*0))+(3*(r*0+2*(t*0))+2*(0*(r*0+t*0)))=p*k
   grind
  ·show(p*0+q*k)+(3*(r*0+t*0)+0*(r*0+2*(t*0)))=q*k
   grind
 ·apply bB.ext
  ·show(p*0+2*(q*0))+(r*k+2*(t*0))=r*k
   grind
  ·show(p*0+q*0)+(r*0+t*k)=t*k
   grind
theorem Qj(u d k:Int):Rat.divInt (u*k) d=Rat.divInt u d*(k:Rat):=by
 rw[BG,BG,Fx,Fx];have:((u*k:Int):Rat)=(u:Rat)*(k:Rat):=by simp
 rw[this]
 grind
theorem aQr(a b c e d k:Int):Fr.val ⟨a*k,b*k,c*k,e*k,d⟩=Fr.val ⟨a,b,c,e,d⟩*kI k:=by unfold Fr.val kI;dsimp only;rw[WD,Qj,Qj,Qj,Qj]
theorem Qk{a b c e d:Int}(hd:d≠0):Fr.val ⟨a,b,c,e,d⟩*kI d=Fr.val ⟨a,b,c,e,1⟩:=by
 unfold Fr.val kI;dsimp only;have h1:∀ u:Int,Rat.divInt u 1=(u:Rat):=λu=>by rw[BG,Fx];grind
 rw[WD,o5 hd,o5 hd,o5 hd,o5 hd,h1,h1,h1,h1]
theorem aQs(a b:Int):kI (a*b)=kI a*kI b:=by
 unfold kI;rw[WD];have:((a*b:Int):Rat)=(a:Rat)*(b:Rat):=by simp
 rw[this];apply bB.ext<;>apply bB.ext<;>simp
theorem aQt:kI 1=1:=rfl
theorem Ql{a:Int}(h:a≠0):kI a≠0:=λe=>by have h1:=cM (λx:K=>x.re.re) e;have h2:((a:Int):Rat)=0:=h1;exact h (by simpa using h2)
theorem WE(f:Fr)(h:f.d=1):f.val=⟨⟨f.a,f.b⟩,⟨f.c,f.e⟩⟩:=by
 have h1:∀ u:Int,Rat.divInt u 1=(u:Rat):=λu=>by rw[BG,Fx];grind
 unfold Fr.val;rw[h,h1,h1,h1,h1]
theorem aQu(u v:K):lV (u*v)=lV u*lV v:=by
 obtain⟨⟨a,b⟩,⟨c,d⟩⟩:=u;obtain⟨⟨p,q⟩,⟨r,s⟩⟩:=v;apply bB.ext
 ·apply bB.ext
  ·show(a*p+2*(b*q))+(3*(c*r+2*(d*s))+2*(0*(c*s+d*r)))=(a*p+2*(-b*-q))+(3*(c*r+2*(-d*-s))+2*(0*(c*-s+-d*r)))
   grind
  ·show -((a*q+b*p)+(3*(c*s+d*r)+0*(c*r+2*(d*s))))=(a*-q+-b*p)+(3*(c*-s+-d*r)+0*(c*r+2*(-d*-s)))
   grind
 ·apply bB.ext
  ·show(a*r+2*(b*s))+(c*p+2*(d*q))=(a*r+2*(-b*-s))+(c*p+2*(-d*-q))
   grind
  ·show -((a*s+b*r)+(c*q+d*p))=(a*-s+-b*r)+(c*-q+-d*p)
   grind
def nf(f:Fr):Fr:=⟨f.a,f.b,f.c,f.e,1⟩
def Qm(f:Fr):Fr:=⟨f.a,-f.b,-f.c,f.e,1⟩
def Qn:Fr:=⟨1,0,0,0,1⟩
def iG(f:Fr):Fr:=fk (fk (fk Qn (xC (nf f))) (xB (nf f))) (Qm f)
theorem aD5(f:Fr):(iG f).d=1:=rfl
theorem aQv(f:Fr):(nf f).val*(iG f).val=qW (nf f).val:=by
 have h1:∀ g h:Fr,g.d=1->h.d=1->(fk g h).val=g.val*h.val:=λg h e1 e2=>KH (by rw[e1];decide) (by rw[e2];decide);have e3:Qm f=xC (xB (nf f)):=by unfold Qm xC xB nf;simp
 unfold iG;rw[h1 _ _ rfl rfl,h1 _ _ rfl rfl,h1 _ _ rfl rfl,e3,Uj,Uj,aBi];have eo:Qn.val=1:=by rw[WE _ rfl];rfl
 rw[eo];unfold qW two;rw[aQu];generalize (nf f).val=y;rw[CR.one_mul];exact OF.BD y (lV y) (nk y) (lV (nk y)) (λy c b i=>y*(c*b*i)) (λy c b i=>y*b*(c*i)) d_
def nC(f g:Fr):Fr:=⟨(fk (nf f) (iG g)).a*g.d,(fk (nf f) (iG g)).b*g.d,(fk (nf f) (iG g)).c*g.d,(fk (nf f) (iG g)).e*g.d,(fk (nf g) (iG g)).a*f.d⟩
theorem aQw{g:Fr}(hg:g.d≠0)(h:g.val≠0):(fk (nf g) (iG g)).a≠0/\kI (fk (nf g) (iG g)).a=(nf g).val*(iG g).val:=by
 have hv:(fk (nf g) (iG g)).val=(nf g).val*(iG g).val:=KH (show(1:Int)≠0 by decide) (by rw[aD5];decide);have hy:(nf g).val≠0:=λe=>h (by
  have h1:=Qk (a:=g.a) (b:=g.b) (c:=g.c) (e:=g.e) hg;have h2:Fr.val ⟨g.a,g.b,g.c,g.e,g.d⟩*kI g.d=0:=by rw[h1];exact e
  exact gP λh3=>OF.mul_ne_zero (a:=Fr.val ⟨g.a,g.b,g.c,g.e,g.d⟩) h3 (Ql hg) h2)
 have hn:=aQv g;rw[Ox]at hn;have hq:=Uk hy;rw[<-hv,WE _ (by rfl)]at hn;have e1:(((fk (nf g) (iG g)).a:Int):Rat)=bB.nm (bB.nm (nf g).val):=cM (λx:K=>x.re.re) hn;have e2:(((fk (nf g) (iG g)).b:Int):Rat)=0:=cM (λx:K=>x.re.im) hn;have e3:(((fk (nf g) (iG g)).c:Int):Rat)=0:=cM (λx:K=>x.im.re) hn;have e4:(((fk (nf g) (iG g)).e:Int):Rat)=0:=cM (λx:K=>x.im.im) hn;refine⟨λe=>hq (by rw[<-e1,e];rfl),?_⟩;rw[<-hv,WE _ (by rfl),e2,e3,e4];rfl
theorem aQx{f g:Fr}(hf:f.d≠0)(hg:g.d≠0)(h:g.val≠0):(nC f g).d≠0/\(nC f g).val=f.val*(g.val)⁻¹:=by
 obtain⟨ha,hk⟩:=aQw hg h;have hd:(nC f g).d≠0:=Dh ha hf;refine⟨hd,?_⟩;have h1:=Qk (a:=(nC f g).a) (b:=(nC f g).b) (c:=(nC f g).c) (e:=(nC f g).e) hd;have h2:=aQr (fk (nf f) (iG g)).a (fk (nf f) (iG g)).b (fk (nf f) (iG g)).c (fk (nf f) (iG g)).e 1 g.d;have h3:(fk (nf f) (iG g)).val=(nf f).val*(iG g).val:=KH (show(1:Int)≠0 by decide) (by rw[aD5];decide);have h4:=Qk (a:=f.a) (b:=f.b) (c:=f.c) (e:=f.e) hf;have h5:=Qk (a:=g.a) (b:=g.b) (c:=g.c) (e:=g.e) hg;have h6:kI (nC f g).d=(nf g).val*(iG g).val*kI f.d:=by show kI ((fk (nf g) (iG g)).a*f.d)=_;rw[aQs,hk]
 have e1:(nC f g).val*((nf g).val*(iG g).val*kI f.d)=(nf f).val*(iG g).val*kI g.d:=by rw[<-h6,<-h3];exact h1.trans h2
 replace h4:f.val*kI f.d=(nf f).val:=h4
 replace h5:g.val*kI g.d=(nf g).val:=h5
 rw[<-h4,<-h5]at e1;have hc:(iG g).val≠0:=λe=>by rw[e,CR.mul_zero]at hk;exact Ql ha hk
 have hm:kI g.d*((iG g).val*kI f.d)≠0:=OF.mul_ne_zero (Ql hg) (OF.mul_ne_zero hc (Ql hf));have e2:(nC f g).val*g.val*(kI g.d*((iG g).val*kI f.d))=f.val*(kI g.d*((iG g).val*kI f.d)):=by
  rw[show(nC f g).val*g.val*(kI g.d*((iG g).val*kI f.d))=(nC f g).val*(g.val*kI g.d*(iG g).val*kI f.d)from
   OF.HK (nC f g).val g.val (kI g.d) (iG g).val (kI f.d) (λd g k c l=>d*g*(k*(c*l))) (λd g k c l=>d*(g*k*c*l)) d_,e1]
  exact OF.BD f.val (kI f.d) (iG g).val (kI g.d) (λf l c k=>f*l*c*k) (λf l c k=>f*(k*(c*l))) d_
 have e3:(nC f g).val*g.val=f.val:=by have h7:=cM (λt=>t*(kI g.d*((iG g).val*kI f.d))⁻¹) e2;rw[CR.mul_assoc ((nC f g).val*g.val),CR.mul_assoc f.val,OF.jB _ hm,CR.mul_one,CR.mul_one]at h7;exact h7
 rw[<-e3,CR.mul_assoc,OF.jB _ h,CR.mul_one]
theorem aQy:pH (co Qn)=.agg #[.bool (bJ 1).neg,.string (BA (bJ 1).ba),.bool false,.string ⟨#[]⟩,.bool false,.string ⟨#[]⟩,.bool false,.string ⟨#[]⟩]:=by show Value.agg #[.bool (bJ 1).neg,.string (BA (bJ 1).ba),.bool (bJ 0).neg,.string (BA (bJ 0).ba),.bool (bJ 0).neg,.string (BA (bJ 0).ba),.bool (bJ 0).neg,.string (BA (bJ 0).ba)]=_;rw[Dn];rfl
theorem aD6{n:Nat}{f:Fr}(h:dJ n f)(hd:f.d≠0):dJ n (nf f):=by
 obtain⟨h1,h2,h3,h4,h5⟩:=h;refine⟨h1,h2,h3,h4,?_⟩;show(1:Int).natAbs<2^n;have:f.d.natAbs≠0:=by omega
 show 1<2^n;omega
theorem aQz{n:Nat}{f:Fr}(h:dJ n (nf f)):dJ n (xC (nf f))/\dJ n (xB (nf f))/\dJ n (Qm f):=by
 obtain⟨h1,h2,h3,h4,h5⟩:=h;have e:∀ z:Int,z.natAbs<2^n->(-z).natAbs<2^n:=λz hz=>by rw[Km];exact hz
 exact⟨⟨h1,e _ h2,h3,e _ h4,h5⟩,⟨h1,h2,e _ h3,e _ h4,h5⟩,⟨h1,e _ h2,e _ h3,h4,h5⟩⟩
theorem aWn{x y:K}{m n:Nat}(h:y≠0)(hx:Sz m x)(hy:Sz n y)(cW:m+4*n+60<=aA):aE prog 135 [cg x,cg y] (.tuple #[cg (x*y⁻¹),.int .i64 0]):=by
 have pI:aA<=1099511627776:=by decide
 have v1:=aWU hx o_;have v2:=aWU hy o_;have sy:=aWw hy o_;have h26:Value.bool (OF.ay y==0)=.bool false:=pN (λe=>h ((OF.fh y).1 e));have vo:(bK x).d≠0:=by have:=(kE x).pos;omega
 have ox:(bK y).d≠0:=by have:=(kE y).pos;omega
 obtain⟨hd,hv⟩:=aQx vo ox (by rw[oZ];exact h);rw[oZ,oZ]at hv;have e:cg (x*y⁻¹)=iE (nC (bK x) (bK y)).low:=by unfold cg dW;rw[<-hv,Fv hd];rfl
 rw[e];have so1:dJ 1 Qn:=⟨by decide,by decide,by decide,by decide,by decide⟩;have sg:=aD6 hy ox;have sf:=aD6 hx vo;obtain⟨c1,c2,c3⟩:=aQz sg;have s1:=dJ.mul so1 c1;have s2:=dJ.mul s1 c2;have s3:=dJ.mul s2 c3;have sN:=dJ.mul sg s3;have sM:=dJ.mul sf s3;have t1:=IQ so1 c1 o_;rw[aQy]at t1;have t2:=IQ s1 c2 o_;have t3:=IQ s2 c3 o_;have tN:=IQ sg s3 o_;have tM:=IQ sf s3 o_;have gd:=hy.2.2.2.2;have fd:=hx.2.2.2.2;have ma:=aWH sM.1 gd o_ o_;have mb:=aWH sM.2.1 gd o_ o_;have mc:=aWH sM.2.2.1 gd o_ o_;have me:=aWH sM.2.2.2.1 gd o_ o_;have md:=aWH sN.1 fd o_ o_;have za:=eE sM.1 gd;have zb:=eE sM.2.1 gd;have zc:=eE sM.2.2.1 gd;have ze:=eE sM.2.2.2.1 gd;have zd:=eE sN.1 fd;have xE:2^(m+(1+n+4+n+4+n+4)+4+n)<=2^(m+4*n+20):=c9 d_ o_;have Wc:2^(n+(1+n+4+n+4+n+4)+4+m)<=2^(m+4*n+20):=c9 d_ o_;have hl:=aW9 (c:=co (nC (bK x) (bK y))) (d:=(nC (bK x) (bK y)).d) (n:=m+4*n+20) hd ⟨cC za xE,cC zb xE,cC zc xE,cC ze xE,cC zd Wc⟩ o_;have dr:o6 (co (nC (bK x) (bK y))) (nC (bK x) (bK y)).d=nC (bK x) (bK y):=rfl;rw[dr]at hl;have nb:=aW2 (bK y).b;have nc:=aW2 (bK y).c;have ne:=aW2 (bK y).e;have one:=aWb (z:=1) d_ d_;generalize hD:(nC (bK x) (bK y)).low=D at *;exact gR mixed func135 300 (λ_=>[v1.at 15,v2.at 19,sy.at 25,.rw 26 _ (.bool false) h26,one.at 28,nb.at 54,ne.at 54,t1.at 58,nc.at 54,ne.at 54,t2.at 58,nb.at 54,nc.at 54,t3.at 58,tN.at 62,tM.at 66,ma.at 77,mb.at 77,mc.at 77,me.at 77,md.at 84,hl.at 85]) (λ_=>k_) k_ k_
section
open V3 (dot ao bC smul)
def LI(n:Nat)(r:RV):Prop:=dJ n (gD r.x)/\dJ n (gD r.y)/\dJ n (gD r.z)
def Ar(r:RV):Bool:=nB r.x&&(nB r.y&&nB r.z)
theorem aWQ{r:RV}{n:Nat}(h:LI n r)(hn:n<=aA):aE prog 34 [r.v] (.bool (Ar r)):=by
 have hx:=LG h.1 hn;have hy:=LG h.2.1 hn;have hz:=LG h.2.2 hn;unfold Ar;generalize nB r.x=bb at *;rcases bb with _|_
 ·exact aM func34 (λ_=>[hx.at 5])
 generalize nB r.y=bb at *;rcases bb with _|_
 ·exact aM func34 (λ_=>[hx.at 5,hy.at 9])
 exact aM func34 (λ_=>[hx.at 5,hy.at 9,hz.at 14])
theorem Qo(x:K):nB (dW x)=true:=aD0 (kE x)
theorem Gq(x:K):gD (dW x)=bK x:=Wi (bK x)
theorem aD7{n:Nat}{v:V3 K}(h:aD n v):LI n (cx v):=by
 refine⟨?_,?_,?_⟩
 ·show dJ n (gD (dW v.x));rw[Gq];exact h.1
 ·show dJ n (gD (dW v.y));rw[Gq];exact h.2.1
 ·show dJ n (gD (dW v.z));rw[Gq];exact h.2.2
theorem aD8(v:V3 K):Ar (cx v)=true:=by show(nB (dW v.x)&&(nB (dW v.y)&&nB (dW v.z)))=true;rw[Qo,Qo,Qo];rfl
theorem aWu{v:V3 K}{n:Nat}(h:aD n v)(hn:n<=aA):aE prog 34 [bF v] (.bool true):=by have:=aWQ (aD7 h) hn;rw[aD8]at this;exact this
def vZ(r:RV):V3 K:=⟨(gD r.x).val,(gD r.y).val,(gD r.z).val⟩
theorem aD9{r:RV}(h:Ar r=true):r=cx (vZ r):=by unfold Ar at h;simp only[de]at h;obtain⟨x,y,z⟩:=r;show RV.mk x y z=RV.mk (dW (gD x).val) (dW (gD y).val) (dW (gD z).val);rw[<-Qc h.1,<-Qc h.2.1,<-Qc h.2.2]
theorem aWp{a b c:Int}(ha:a.natAbs<9223372036854775808)(hb:b.natAbs<9223372036854775808)(hc:c.natAbs<9223372036854775808):aE prog 27 [.int .i64 a,.int .i64 b,.int .i64 c] (bF ⟨kI a,kI b,kI c⟩):=
 aM func27 (λ_=>[(aWR ha).at 8,(aWR hb).at 10,(aWR hc).at 12])
theorem aWW{u v:V3 K}{m n:Nat}(hu:aD m u)(hv:aD n v)(cW:m+n<aA):aE prog 14 [bF u,bF v] (bF (u+v)):=
 aM func14 (λ_=>[(aWu hu o_).at 6,(aWu hv o_).at 10,(aWI hu.1 hv.1 cW).at 18,(aWI hu.2.1 hv.2.1 cW).at 23,(aWI hu.2.2 hv.2.2 cW).at 28])
theorem aWG{v:V3 K}{n:Nat}(hv:aD n v)(hn:n<=aA):aE prog 47 [bF v] (bF (-v)):=
 aM func47 (λ_=>[(aWu hv hn).at 4,(aWF hv.1 hn).at 9,(aWF hv.2.1 hn).at 12,(aWF hv.2.2 hn).at 15])
theorem aWx{u v:V3 K}{m n:Nat}(hu:aD m u)(hv:aD n v)(cW:m+n<aA):aE prog 16 [bF u,bF v] (bF (u-v)):=by have e:u-v=u+-v:=V3.ext (CR.sub_def _ _) (CR.sub_def _ _) (CR.sub_def _ _);rw[e];exact aM func16 (λ_=>[(aWG hv o_).at 7,(aWW hu hv.neg cW).at 8])
theorem aWt{v:V3 K}{k:K}{m n:Nat}(hv:aD m v)(hk:Sz n k)(cW:m+n+8<=aA):aE prog 15 [bF v,cg k] (bF (smul v k)):=
 aM func15 (λ_=>[(aWu hv o_).at 6,(aWU hk o_).at 10,(aWk hv.1 hk cW).at 17,(aWk hv.2.1 hk cW).at 21,(aWk hv.2.2 hk cW).at 25])
theorem aWC{u v:V3 K}{m n:Nat}(hu:aD m u)(hv:aD n v)(cW:3*(m+n)+16<aA):aE prog 49 [bF u,bF v] (cg (dot u v)):=
 aM func49 (λ_=>[(aWu hu o_).at 6,(aWu hv o_).at 10,(aWk hu.1 hv.1 o_).at 18,(aWk hu.2.1 hv.2.1 o_).at 23,(aWI (hu.1.mul hv.1) (hu.2.1.mul hv.2.1) o_).at 24,(aWk hu.2.2 hv.2.2 o_).at 29,(aWI ((hu.1.mul hv.1).add (hu.2.1.mul hv.2.1)) (hu.2.2.mul hv.2.2) o_).at 30])
theorem aWz{a b c d:K}{m n:Nat}(ha:Sz m a)(hb:Sz m b)(hc:Sz n c)(hd:Sz n d)(cW:2*(m+n)+16<aA):aE prog 140 [cg a,cg b,cg c,cg d] (cg (a*d-b*c)):=
 aM func140 (λ_=>[(aWk ha hd o_).at 11,(aWk hb hc o_).at 14,(aWv (ha.mul hd) (hb.mul hc) o_).at 15])
theorem aW8{u v:V3 K}{m n:Nat}(hu:aD m u)(hv:aD n v)(cW:2*(m+n)+16<aA):aE prog 99 [bF u,bF v] (bF (ao u v)):=
 aM func99 (λ_=>[(aWu hu o_).at 6,(aWu hv o_).at 10,(aWz hu.2.1 hu.2.2 hv.2.1 hv.2.2 cW).at 22,(aWz hu.2.2 hu.1 hv.2.2 hv.1 cW).at 31,(aWz hu.1 hu.2.1 hv.1 hv.2.1 cW).at 40])
theorem aW3{v:V3 K}{n:Nat}(hv:aD n v)(hn:n<=aA):aE prog 35 [bF v] (.bool (decide (v=0))):=by have hz:(⟨kI 0,kI 0,kI 0⟩:V3 K)=0:=rfl;exact aM func35 (λ_=>[(aWp (a:=0) (b:=0) (c:=0) d_ d_ d_).at 4,.step 5 (av f35 5) _ _ _ _ (Dj (neg:=true) k_ (cx v) (cx ⟨kI 0,kI 0,kI 0⟩) (hv.sm hn) (K9.sm d_) (b:=decide (v=0)) (by rw[ax rfl,BU];exact⟨λh=>by rw[h,hz],λh=>K8 h⟩))])
theorem aEa{u v w:V3 K}{l m n:Nat}(hu:aD l u)(hv:aD m v)(hw:aD n w)(cW:3*(l+(2*(m+n)+9))+16<aA):aE prog 141 [bF u,bF v,bF w] (cg (bC u v w)):=
 aM func141 (λ_=>[(aWu hu o_).at 8,(aWu hv o_).at 12,(aWu hw o_).at 17,(aW8 hv hw o_).at 24,(aWC hu (hv.ao hw) o_).at 25])
theorem LJ{z:Int}{t:Bool}(h:decide (z≠0)=t):Value.bool (z !=0)=.bool t:=by
 rw[<-h];congr 1
 by_cases e:z=0
 ·subst e;rfl
 ·rw[aB e,uG];exact e
theorem aWK{u v:V3 K}{m n:Nat}(hu:aD m u)(hv:aD n v)(cW:4*(m+n)+40<=aA):aE prog 136 [bF u,bF v] (.int .i64 (dZ u v)):=by
 rw[<-aCt];have h1:=aWu hu (show m<=aA by omega);have h2:=aWu hv (show n<=aA by omega);have c1:=aWY hu.1 hv.1 cW;have c2:=aWY hu.2.1 hv.2.1 cW;have c3:=aWY hu.2.2 hv.2.2 cW;generalize OF.ay (u.x-v.x)=a at *;generalize OF.ay (u.y-v.y)=b at *;generalize OF.ay (u.z-v.z)=c at *;unfold Pk;by_cases ha:a=0
 ·rw[au (λh=>h ha)];by_cases hb:b=0
  ·rw[au (λh=>h hb)];exact aM func136 (λ_=>[h1.at 8,h2.at 12,c1.at 19,.rw 21 _ (.bool false) (LJ (aJ (λh=>h ha))),c2.at 27,.rw 29 _ (.bool false) (LJ (aJ (λh=>h hb))),c3.at 35])
  ·rw[ax hb];exact aM func136 (λ_=>[h1.at 8,h2.at 12,c1.at 19,.rw 21 _ (.bool false) (LJ (aJ (λh=>h ha))),c2.at 27,.rw 29 _ (.bool true) (LJ (aB hb))])
 ·rw[ax ha];exact aM func136 (λ_=>[h1.at 8,h2.at 12,c1.at 19,.rw 21 _ (.bool true) (LJ (aB ha))])
def qD(r:RV)(k:Nat):Bool:=s7 r.x k&&(s7 r.y k&&s7 r.z k)
theorem WG(r:RV)(k:Nat):aE prog 32 [r.v,vI k] (.bool (qD r k)):=by
 have hx:=Qh r.x k;have hy:=Qh r.y k;have hz:=Qh r.z k;unfold qD;generalize s7 r.x k=bb at *;rcases bb with _|_
 ·exact aM func32 (λ_=>[hx.at 8])
 generalize s7 r.y k=bb at *;rcases bb with _|_
 ·exact aM func32 (λ_=>[hx.at 8,hy.at 13])
 exact aM func32 (λ_=>[hx.at 8,hy.at 13,hz.at 19])
def wV(r:RV):Nat:=wN r.x+wN r.y+wN r.z
theorem aQA{r:RV}(h:wV r<9223372036854775808):aE prog 51 [r.v] (vI (wV r)):=by unfold wV at *;exact aM func51 (λ_=>[(Qi (r:=r.x) o_).at 5,(Qi (r:=r.y) o_).at 8,.sum 9 (wN r.x) (wN r.y) (wN r.x+wN r.y) rfl o_,(Qi (r:=r.z) o_).at 12,.sum 13 (wN r.x+wN r.y) (wN r.z) (wN r.x+wN r.y+wN r.z) rfl o_])
theorem Qp{r:RN}{k n:Nat}(h:s7 r k=true)(hn:8*k<=n):dJ n (gD r):=by
 unfold s7 sZ at h;simp only[de,rU]at h;have key:∀ q:RI,q.ba.length<=k->(ep q).natAbs<2^n:=λq hq=>by
  unfold ep;rw[ql];have h1:=Bc q.ba;have h2:(256:Nat)^q.ba.length<=256^k:=c9 d_ hq;have h3:(256:Nat)^k=2^(8*k):=by rw[r8]
  have h4:2^(8*k)<=2^n:=c9 d_ hn;omega
 exact⟨key _ h.1,key _ h.2.1,key _ h.2.2.1,key _ h.2.2.2.1,key _ h.2.2.2.2⟩
theorem aQB{r:RV}{k n:Nat}(h:qD r k=true)(hn:8*k<=n):LI n r:=by unfold qD at h;simp only[de]at h;exact⟨Qp h.1 hn,Qp h.2.1 hn,Qp h.2.2 hn⟩
def As(n:Nat)(r:RP):Prop:=LI n r.n/\dJ n (gD r.d)
def pO(r:RP):Bool:=Ar r.n&&(decide (vZ r.n≠0)&&nB r.d)
def pZ(r:RP):HS K:=⟨vZ r.n,(gD r.d).val⟩
theorem aQC{r:RN}(h:nB r=true):bK (gD r).val=gD r:=by unfold nB at h;simp only[de,rU]at h;obtain⟨h1,h2,h3,h4,h5,h6,h7⟩:=h;exact Fu ⟨h6,h7⟩
theorem Qq{r:RN}{n:Nat}(h:nB r=true)(hs:dJ n (gD r)):Sz n (gD r).val:=by unfold Sz;rw[aQC h];exact hs
theorem aEb{r:RV}{n:Nat}(h:Ar r=true)(hs:LI n r):aD n (vZ r):=by unfold Ar at h;simp only[de]at h;exact⟨Qq h.1 hs.1,Qq h.2.1 hs.2.1,Qq h.2.2 hs.2.2⟩
theorem Qr{r:RP}{n:Nat}(h:As n r)(hn:n<=aA):aE prog 10 [r.v] (.bool (pO r)):=by
 have hv:=aWQ h.1 hn;have hd:=LG h.2 hn;unfold pO;rcases hb:Ar r.n with _|_
 ·rw[hb]at hv;exact aM func10 (λ_=>[hv.at 5])
 ·rw[hb]at hv;have hz:=aW3 (aEb hb h.1) hn;unfold bF at hz;rw[<-aD9 hb]at hz;by_cases h0:vZ r.n=0
  ·rw[aB h0]at hz;rw[aJ (λe=>e h0)];exact aM func10 (λ_=>[hv.at 5,hz.at 9])
  ·rw[aJ h0]at hz;rw[aB h0];exact aM func10 (λ_=>[hv.at 5,hz.at 9,hd.at 15])
theorem aQD(v:V3 K):vZ (cx v)=v:=by show V3.mk (gD (dW v.x)).val (gD (dW v.y)).val (gD (dW v.z)).val=v;rw[Gq,Gq,Gq,oZ,oZ,oZ]
theorem aEc(p:HS K):pO (cG p)=decide (p.n≠0):=by show(Ar (cx p.n)&&(decide (vZ (cx p.n)≠0)&&nB (dW p.d)))=_;rw[aD8,aQD,Qo,lP,jq]
theorem aEd{n:Nat}{p:HS K}(h:bo n p):As n (cG p):=⟨aD7 h.1,by show dJ n (gD (dW p.d));rw[Gq];exact h.2⟩
theorem aWh{p:HS K}{n:Nat}(hp:bo n p)(hn:n<=aA):aE prog 10 [cB p] (.bool (decide (p.n≠0))):=by have:=Qr (aEd hp) hn;rw[aEc]at this;exact this
theorem WH{r:RP}(h:pO r=true):r=cG (pZ r)/\(pZ r).n≠0:=by unfold pO at h;simp only[de,rU]at h;obtain⟨n,d⟩:=r;refine⟨?_,h.2.1⟩;show RP.mk n d=RP.mk (cx (vZ n)) (dW (gD d).val);rw[<-aD9 h.1,<-Qc h.2.2]
theorem aEe{r:RP}{n:Nat}(h:pO r=true)(hs:As n r):bo n (pZ r):=by unfold pO at h;simp only[de]at h;exact⟨aEb h.1 hs.1,Qq h.2.2 hs.2⟩
def ye(r:RP)(k:Nat):Bool:=qD r.n k&&s7 r.d k
theorem WI(r:RP)(k:Nat):aE prog 9 [r.v,vI k] (.bool (ye r k)):=by
 have hx:=WG r.n k;have hd:=Qh r.d k;unfold ye;generalize qD r.n k=bb at *;rcases bb with _|_
 ·exact aM func9 (λ_=>[hx.at 8])
 exact aM func9 (λ_=>[hx.at 8,hd.at 13])
theorem WJ{r:RP}{k n:Nat}(h:ye r k=true)(hn:8*k<=n):As n r:=by unfold ye at h;simp only[de]at h;exact⟨aQB h.1 hn,Qp h.2 hn⟩
theorem aWl{p:HS K}{v:V3 K}{m n:Nat}(hp:bo m p)(hv:aD n v)(cW:4*(3*(m+n)+14+m)+50<=aA)(h:p.n≠0):aE prog 18 [cB p,bF v] (.int .i64 (OF.ay (dot p.n v-p.d))):=by have h1:=aWh hp o_;rw[aB h]at h1;exact aM func18 (λ_=>[h1.at 6,(aWu hv o_).at 10,(aWC hp.1 hv o_).at 16,(aWY (hp.1.dot hv) hp.2 o_).at 19])
def IU(p q r:HS K):V3 K:=smul (ao q.n r.n) p.d+smul (ao r.n p.n) q.d+smul (ao p.n q.n) r.d
def k9(p q r:HS K):V3 K:=smul (IU p q r) (kI 1*(bC p.n q.n r.n)⁻¹)
theorem Sz.bC{n:Nat}{u v w:V3 K}(hu:aD n u)(hv:aD n v)(hw:aD n w):Sz (15*n+41) (V3.bC u v w):=(hu.dot (hv.ao hw)).mono o_
theorem aD.IU{n:Nat}{p q r:HS K}(hp:bo n p)(hq:bo n q)(hr:bo n r):aD (15*n+41) (Go.Proofs.YtjjefbkbljlgdaaGreatDoor.IU p q r):=
 (((hq.1.ao hr.1).smul hp.2).add ((hr.1.ao hp.1).smul hq.2)).add ((hp.1.ao hq.1).smul hr.2) |>.mono o_
theorem aD.k9{n:Nat}{p q r:HS K}(hp:bo n p)(hq:bo n q)(hr:bo n r)(h:V3.bC p.n q.n r.n≠0):aD (120*n+365) (Go.Proofs.YtjjefbkbljlgdaaGreatDoor.k9 p q r):=
 (aD.IU hp hq hr).smul (Sz.div (m:=1) h (qV d_ d_) (Sz.bC hp.1 hq.1 hr.1)) |>.mono o_
theorem aQE(n:Nat):1+7*(15*n+41)+28<=105*n+316:=by omega
theorem aQF(n:Nat):15*n+41+(105*n+316)+8<=200*n+1000:=by omega
theorem aQG{n:Nat}(h:200*n+1000<=aA):15*n+41+(105*n+316)+8<=aA:=dh (aQF n) h
theorem aQH{p q r:HS K}{n:Nat}(hp:bo n p)(hq:bo n q)(hr:bo n r)(hn:200*n+1000<=aA)(pn:p.n≠0)(qn:q.n≠0)(rn:r.n≠0):
  aE prog 101 [cB p,cB q,cB r] (if bC p.n q.n r.n=0 then .tuple #[zV.v,.int .i64 11]else .tuple #[bF (k9 p q r),.int .i64 0]):=by
 have h1:=aWh hp o_;have h2:=aWh hq o_;have h3:=aWh hr o_;rw[aB pn]at h1;rw[aB qn]at h2;rw[aB rn]at h3;have dt:=aEa hp.1 hq.1 hr.1 o_;have sd:=Sz.bC hp.1 hq.1 hr.1;have sg:=aWw sd o_;have qX:=aQE n;have pI:=aQG hn;by_cases h:bC p.n q.n r.n=0
 ·rw[ax h];have WK:Value.bool (OF.ay (bC p.n q.n r.n)==0)=.bool true:=yd ((OF.fh _).2 h);exact gR mixed func101 200 (λ_=>[h1.at 13,h2.at 17,h3.at 22,dt.at 32,sg.at 34,.rw 35 _ (.bool true) WK]) (λ_=>k_) k_ k_
 ·rw[au h];have WK:Value.bool (OF.ay (bC p.n q.n r.n)==0)=.bool false:=pN (λe=>h ((OF.fh _).1 e));have c1:=aW8 hq.1 hr.1 o_;have c2:=aW8 hr.1 hp.1 o_;have c3:=aW8 hp.1 hq.1 o_;have s1:=aWt (hq.1.ao hr.1) hp.2 o_;have s2:=aWt (hr.1.ao hp.1) hq.2 o_;have s3:=aWt (hp.1.ao hq.1) hr.2 o_;have a1:=aWW ((hq.1.ao hr.1).smul hp.2) ((hr.1.ao hp.1).smul hq.2) o_;have zA:aD (10*n+27) (smul (ao q.n r.n) p.d+smul (ao r.n p.n) q.d):=aD.mono o_ (((hq.1.ao hr.1).smul hp.2).add ((hr.1.ao hp.1).smul hq.2));have zB:aD (5*n+13) (smul (ao p.n q.n) r.d):=aD.mono o_ ((hp.1.ao hq.1).smul hr.2);have a2:=aWW zA zB o_;have o1:=aWR (z:=1) d_;have so:Sz 1 (kI 1):=qV d_ d_;have dv:=aWn h so sd o_;have sq:Sz (105*n+316) (kI 1*(bC p.n q.n r.n)⁻¹):=Sz.mono qX (Sz.div h so sd);have fs:=aWt (aD.IU hp hq hr) sq pI;exact gR mixed func101 200 (λ_=>[h1.at 13,h2.at 17,h3.at 22,dt.at 32,sg.at 34,.rw 35 _ (.bool false) WK,c1.at 41,s1.at 44,c2.at 50,s2.at 53,a1.at 54,c3.at 60,s3.at 63,a2.at 64,o1.at 66,dv.at 68,fs.at 73]) (λ_=>k_) k_ k_
theorem aWM{p:HS K}{n:Nat}(hp:bo n p)(hn:16*n+100<=aA)(aV:p.n≠0):aE prog 142 [cB p] (.tuple #[cB (canon p),.int .i64 0]):=by
 have hv:=aWh hp o_;rw[aB aV]at hv;have sx:=aWw hp.1.1 o_;have sy:=aWw hp.1.2.1 o_;have o1:=aWR (z:=1) d_;have so:Sz 1 (kI 1):=qV d_ d_;have fin:∀ x:K,x≠0->Sz n x->aE prog 171 [cg x] (cg (iX x))/\aE prog 135 [cg (kI 1),cg (iX x)] (.tuple #[cg (mI x),.int .i64 0])/\
   aE prog 15 [bF p.n,cg (mI x)] (bF (smul p.n (mI x)))/\aE prog 46 [cg p.d,cg (mI x)] (cg (p.d*mI x)):=λx hx hs=>
  ⟨aWX hs o_,aWn (Pm hx) so hs.iX o_,aWt hp.1 (hs.mI hx) o_,aWk hp.2 (hs.mI hx) o_⟩
 have hc:canon p=DD p (qv p.n):=rfl;unfold qv at hc;by_cases hx:p.n.x=0
 ·have ex:Value.bool (OF.ay p.n.x==0)=.bool true:=yd ((OF.fh _).2 hx);rw[au (λe=>e hx)]at hc;by_cases hy:p.n.y=0
  ·have ey:Value.bool (OF.ay p.n.y==0)=.bool true:=yd ((OF.fh _).2 hy);rw[au (λe=>e hy)]at hc;have hz:p.n.z≠0:=λhz=>aV (V3.ext hx hy hz);obtain⟨f1,f2,f3,f4⟩:=fin p.n.z hz hp.1.2.2;rw[hc];exact gR mixed func142 200 (λ_=>[hv.at 8,sx.at 15,.rw 16 _ (.bool true) ex,sy.at 21,.rw 22 _ (.bool true) ey,o1.at 27,f1.at 29,f2.at 30,f3.at 36,f4.at 40]) (λ_=>k_) k_ k_
  ·have ey:Value.bool (OF.ay p.n.y==0)=.bool false:=pN (λe=>hy ((OF.fh _).1 e));rw[ax hy]at hc;obtain⟨f1,f2,f3,f4⟩:=fin p.n.y hy hp.1.2.1;rw[hc];exact gR mixed func142 200 (λ_=>[hv.at 8,sx.at 15,.rw 16 _ (.bool true) ex,sy.at 21,.rw 22 _ (.bool false) ey,o1.at 27,f1.at 29,f2.at 30,f3.at 36,f4.at 40]) (λ_=>k_) k_ k_
 ·have ex:Value.bool (OF.ay p.n.x==0)=.bool false:=pN (λe=>hx ((OF.fh _).1 e));rw[ax hx]at hc;obtain⟨f1,f2,f3,f4⟩:=fin p.n.x hx hp.1.1;rw[hc];exact gR mixed func142 200 (λ_=>[hv.at 8,sx.at 15,.rw 16 _ (.bool false) ex,sx.at 21,.rw 22 _ (.bool false) ex,o1.at 27,f1.at 29,f2.at 30,f3.at 36,f4.at 40]) (λ_=>k_) k_ k_
theorem aWD{p q:HS K}{m n:Nat}(hp:bo m p)(hq:bo n q)(hm:16*m+100<=aA)(hn:16*n+100<=aA)(gg:p.n≠0)(zQ:q.n≠0):aE prog 103 [cB p,cB q] (.bool (decide (canon p=canon q))):=
 aM func103 (λ_=>[(aWM hp hm gg).at 11,(aWM hq hn zQ).at 16,.step 28 (av f103 28) _ _ _ _ (Ud (neg:=true) k_ (cG (canon p)) (cG (canon q)) ((hp.canon gg).sm o_) ((hq.canon zQ).sm o_) (b:=decide (canon p=canon q)) (by rw[ax rfl,BU];exact⟨λh=>by rw[h],λh=>Pl h⟩))])
theorem aEf{g o a b:V3 K}{n:Nat}(hg:aD n g)(ho:aD n o)(ha:aD n a)(hb:aD n b)(hn:200*n+400<=aA):aE prog 144 [bF g,bF o,bF a,bF b] (.int .i64 (OF.ay (bC g (a-o) (b-o)))):=
 aM func144 (λ_=>[(aWx ha ho o_).at 12,(aWx hb ho o_).at 15,(aEa hg (ha.sub ho) (hb.sub ho) o_).at 16,(aWw (hg.dot ((ha.sub ho).ao (hb.sub ho))) o_).at 17])
end
section
variable{Bs:aa}{a b:List RV}
def Eb(n i:Nat):aR:=[(5,vI i),(0,sl 0 n),(1,sl 1 n)]
def wA(a b:List RV):aH:=[(0,.view (cF a)),(1,.view (cF b))]
noncomputable def svS{n i:Nat}{x y:RV}{t:Bool}(hi:i<n)(hx:a[i]?=some x)(hy:b[i]?=some y)(kZ:x.Sm)(xQ:y.Sm)(ht:(!t)=true↔x=y)(more:bI prog Bs 26):bI prog Bs 26:=
 .lt 14 i n true (aB hi)::.cT Tryz.f20 19 0 n i 30 hi k_::.ld Tryz.f20 20 33 0 (i*30) (.view (cF a)) x.v rfl (sO hx) k_::.cT Tryz.f20 23 1 n i 30 hi k_::.ld Tryz.f20 24 33 1 (i*30) (.view (cF b)) y.v rfl (sO hy) k_::
  .step 25 (av Tryz.f20 25) [x.v,y.v] [] (.bool t) [] (Dj (neg:=false) k_ x y kZ xQ ht)::more
theorem aEg{n i:Nat}{x:RV}(hi:i<n)(hx:a[i]?=some x)(hy:b[i]?=some x)(kZ:x.Sm)(h63:n<9223372036854775807):
  ag prog Bs 26 (aF (af Tryz.f20 0)) (Eb n i) (wA a b) 2 ⟨.normal,Eb n (i+1),wA a b,2⟩:=
 aC (svS (t:=false) hi hx hy kZ kZ s_ [.sum 16 i 1 (i+1) rfl o_])
theorem aQI{n i:Nat}{x y:RV}(hi:i<n)(hx:a[i]?=some x)(hy:b[i]?=some y)(kZ:x.Sm)(xQ:y.Sm)(aV:x≠y):
  ag prog Bs 26 (aF (af Tryz.f20 0)) (Eb n i) (wA a b) 2 ⟨.ret,[(4,.bool false)],wA a b,2⟩:=
 aC (svS (t:=true) hi hx hy kZ xQ (by simp[aV]) [])
theorem aQJ{n:Nat}:ag prog Bs 26 (aF (af Tryz.f20 0)) (Eb n n) (wA a b) 2 ⟨.exit 0,[],wA a b,2⟩:=
 aC [.lt 14 n n false s_]
theorem aQK(ha:∀ x∈a,x.Sm)(hb:∀ x∈b,x.Sm)(h63:a.length<9223372036854775807):cI prog 20 [.r a.length (cF a),.r b.length (cF b)] (.bool (decide (a=b))):=by
 have az:([aT.r a.length (cF a),.r b.length (cF b)].all aT.ok)=true:=by simp only[dM,fH,aT.ok,gV gh,jq]
 by_cases hl:a.length=b.length
 ·rcases DJ a b hl with h|⟨e,x,y,h1,h2,h3,h4⟩
  ·rw[aB h];subst h;have lo:∀ B:aa,ag prog B 26 (.block 0 (af Tryz.f20 0)) (Eb a.length 0) (wA a a) 2 ⟨.normal,[],wA a a,2⟩:=λB=>
    bT (id:=0) (cd a.length (λi=>Eb a.length i) (λ_=>wA a a) (λi k _=>Iff.rfl) (λi hi=>by have hx:a[i]?=some a[i]:=bd hi;exact aEg hi hx hx (ha _ (dz hi)) h63) aQJ n_)
   exact ee func20 az 26 (λw=>[.rw 10 _ (.bool false) (tY (x:=a.length) (y:=a.length) s_),.code 0 _ _ _ _ _ (lo _)])
  ·have b9:a≠b:=λh=>by subst h;rw[h1]at h2;injection h2 with h2;exact h3 h2
   rw[aJ b9];have ak:=(eh.1 h1).1;have lo:∀ B:aa,ag prog B 26 (.block 0 (af Tryz.f20 0)) (Eb a.length 0) (wA a b) 2 ⟨.ret,[(4,.bool false)],wA a b,2⟩:=λB=>
    bT (id:=0) (cd e (λi=>Eb a.length i) (λ_=>wA a b) (λi k _=>Iff.rfl) (λi hi=>by have hx:a[i]?=some a[i]:=bd o_;have hy:b[i]?=some b[i]:=bd o_;have:=h4 i _ _ hi hx hy;rw[<-this]at hy;exact aEg o_ hx hy (ha _ (dz _)) h63) (aQI ak h1 h2 (ha _ (cJ h1)) (hb _ (cJ h2)) h3) n_)
   have BM:([aT.r a.length (cF a),.r a.length (cF b)].all aT.ok)=true:=by simp only[dM,fH,aT.ok,gV gh,jq]
   rw[<-hl];exact ee func20 BM 26 (λw=>[.rw 10 _ (.bool false) (tY (x:=a.length) (y:=a.length) s_),.code 0 _ _ _ _ _ (lo _)])
 ·have b9:a≠b:=λh=>hl (by rw[h]);rw[aJ b9];exact ee func20 az 26 (λw=>[.rw 10 _ (.bool true) (tY (x:=a.length) (y:=b.length) (aB hl))])
end
section
variable{Bs:aa}{a b:List Int}
def Ec(n i:Nat):aR:=[(5,vI i),(0,sl 0 n),(1,sl 1 n)]
def wB(a b:List Int):aH:=[(0,.view (eH a)),(1,.view (eH b))]
theorem neZ{x y:Int}{t:Bool}(h:decide (x≠y)=t):Value.bool (x !=y)=.bool t:=by
 rw[<-h];congr 1
 by_cases e:x=y
 ·subst e;simp
 ·rw[aB e,uG];exact e
noncomputable def siS{n i:Nat}{x y:Int}{t:Bool}(hi:i<n)(hx:a[i]?=some x)(hy:b[i]?=some y)(ht:decide (x≠y)=t)(more:bI prog Bs 26):bI prog Bs 26:=
 .lt 14 i n true (aB hi)::.ix Tryz.f25 19 0 n i hi k_::.ld Tryz.f25 20 3 0 i (.view (eH a)) (iV x) rfl (PN hx) k_::.ix Tryz.f25 23 1 n i hi k_::.ld Tryz.f25 24 3 1 i (.view (eH b)) (iV y) rfl (PN hy) k_::.rw 25 _ (.bool t) (neZ ht)::more
theorem aEh{n i:Nat}{x:Int}(hi:i<n)(hx:a[i]?=some x)(hy:b[i]?=some x)(h63:n<9223372036854775807):
  ag prog Bs 26 (aF (af Tryz.f25 0)) (Ec n i) (wB a b) 2 ⟨.normal,Ec n (i+1),wB a b,2⟩:=
 aC (siS (t:=false) hi hx hy s_ [.sum 16 i 1 (i+1) rfl o_])
theorem aQL{n i:Nat}{x y:Int}(hi:i<n)(hx:a[i]?=some x)(hy:b[i]?=some y)(aV:x≠y):
  ag prog Bs 26 (aF (af Tryz.f25 0)) (Ec n i) (wB a b) 2 ⟨.ret,[(4,.bool false)],wB a b,2⟩:=
 aC (siS (t:=true) hi hx hy (aB aV) [])
theorem aQM{n:Nat}:ag prog Bs 26 (aF (af Tryz.f25 0)) (Ec n n) (wB a b) 2 ⟨.exit 0,[],wB a b,2⟩:=
 aC [.lt 14 n n false s_]
theorem aEi(l:List Int):(eH l).all flat=true:=bh.2 λu hu=>by obtain⟨x,_,rfl⟩:=di.1 hu;rfl
theorem aQN(h63:a.length<9223372036854775807):cI prog 25 [.r a.length (eH a),.r b.length (eH b)] (.bool (decide (a=b))):=by
 have az:([aT.r a.length (eH a),.r b.length (eH b)].all aT.ok)=true:=by simp only[dM,fH,aT.ok,aEi,jq]
 by_cases hl:a.length=b.length
 ·rcases DJ a b hl with h|⟨e,x,y,h1,h2,h3,h4⟩
  ·rw[aB h];subst h;have lo:∀ B:aa,ag prog B 26 (.block 0 (af Tryz.f25 0)) (Ec a.length 0) (wB a a) 2 ⟨.normal,[],wB a a,2⟩:=λB=>
    bT (id:=0) (cd a.length (λi=>Ec a.length i) (λ_=>wB a a) (λi k _=>Iff.rfl) (λi hi=>by have hx:a[i]?=some a[i]:=bd hi;exact aEh hi hx hx h63) aQM n_)
   exact ee func25 az 26 (λw=>[.rw 10 _ (.bool false) (tY (x:=a.length) (y:=a.length) s_),.code 0 _ _ _ _ _ (lo _)])
  ·have b9:a≠b:=λh=>by subst h;rw[h1]at h2;injection h2 with h2;exact h3 h2
   rw[aJ b9];have ak:=(eh.1 h1).1;have lo:∀ B:aa,ag prog B 26 (.block 0 (af Tryz.f25 0)) (Ec a.length 0) (wB a b) 2 ⟨.ret,[(4,.bool false)],wB a b,2⟩:=λB=>
    bT (id:=0) (cd e (λi=>Ec a.length i) (λ_=>wB a b) (λi k _=>Iff.rfl) (λi hi=>by have hx:a[i]?=some a[i]:=bd o_;have hy:b[i]?=some b[i]:=bd o_;have:=h4 i _ _ hi hx hy;rw[<-this]at hy;exact aEh o_ hx hy h63) (aQL ak h1 h2 h3) n_)
   have BM:([aT.r a.length (eH a),.r a.length (eH b)].all aT.ok)=true:=by simp only[dM,fH,aT.ok,aEi,jq]
   rw[<-hl];exact ee func25 BM 26 (λw=>[.rw 10 _ (.bool false) (tY (x:=a.length) (y:=a.length) s_),.code 0 _ _ _ _ _ (lo _)])
 ·have b9:a≠b:=λh=>hl (by rw[h]);rw[aJ b9];exact ee func25 az 26 (λw=>[.rw 10 _ (.bool true) (tY (x:=a.length) (y:=b.length) (aB hl))])
end
section
variable{α:Type}[DecidableEq α]
def dd:List α->List α
 |a::b::l=>if a=b then dd (b::l)else a::dd (b::l)
 |l=>l
theorem LK(a b:α)(l:List α):dd (a::b::l)=if a=b then dd (b::l)else a::dd (b::l):=rfl
theorem aEj:∀(l:List α) (a b:α),dd (l++[a,b])=if a=b then dd (l++[a])else dd (l++[a])++[b]
 |[],a,b=>by
  show(if a=b then[b]else[a,b])=if a=b then[a]else[a]++[b]
  split
  ·rename_i h;rw[h]
  ·rfl
 |[c],a,b=>by
  show(if c=a then(if a=b then[b]else[a,b])else c::(if a=b then[b]else[a,b]))=if a=b then(if c=a then[a]else[c,a])else(if c=a then[a]else[c,a])++[b]
  by_cases h:a=b<;>by_cases k:c=a<;>simp[h,k]
 |c::d::l,a,b=>by
  show(if c=d then dd (d::(l++[a,b]))else c::dd (d::(l++[a,b])))=if a=b then(if c=d then dd (d::(l++[a]))else c::dd (d::(l++[a])))else(if c=d then dd (d::(l++[a]))else c::dd (d::(l++[a])))++[b]
  have ih:=aEj (d::l) a b;rw[E9,E9]at ih;rw[ih];by_cases h:a=b<;>by_cases k:c=d<;>simp[h,k]
theorem Qs{l:List α}{j:Nat}{x y:α}(hj:l[j]?=some y)(hx:l[j+1]?=some x):dd (l.take (j+2))=if y=x then dd (l.take (j+1))else dd (l.take (j+1))++[x]:=by
 have e1:l.take (j+1)=l.take j++[y]:=by rw[sQ,hj];rfl
 have e2:l.take (j+2)=l.take j++[y,x]:=by rw[sQ,hx,e1,EL];rfl
 rw[e1,e2,aEj]
theorem aEk{x:α}:∀{l:List α},x∈dd l↔x∈l
 |[]=>Iff.rfl
 |[a]=>Iff.rfl
 |a::b::l=>by
  rw[LK];have ih:=aEk (x:=x) (l:=b::l);split
  ·rename_i h;subst h;rw[ih];simp
  ·rw[ch,ih];simp
def ke(l:List α)(j:Nat):List α:=dd (l.take j)++l.drop (dd (l.take j)).length
def jh(l:List α)(j:Nat):Nat:=(dd (l.take j)).length
theorem Qt(l:List α):∀ j,jh l j<=j/\jh l j<=l.length
 |0=>by simp[jh,dd]
 |1=>by
  cases l with
  |nil=>simp[jh,dd]
  |cons a l=>simp[jh,dd]
 |j+2=>by
  have ih:=Qt l (j+1);rcases eL (j+1) l.length with h|h
  ·have hy:l[j]?=some l[j]:=bd o_;have hx:l[j+1]?=some l[j+1]:=bd h;have:=Qs hy hx;unfold jh at ih ⊢;rw[this];split
   ·omega
   ·rw[jx,BV];omega
  ·have:l.take (j+2)=l.take (j+1):=by rw[kB h,kB o_]
   unfold jh at ih ⊢;rw[this];omega
theorem aEl(l:List α)(j:Nat):(ke l j).length=l.length:=by have:=(Qt l j).2;unfold jh at this;unfold ke;rw[jx,vt];omega
theorem aEm{l:List α}{j i:Nat}(h:jh l j<=i):(ke l j)[i]?=l[i]?:=by
 unfold jh at h;unfold ke;rw[ED h,Et]
 congr 1;omega
theorem Qu{l:List α}{j:Nat}{x:α}(hj:l[j]?=some x)(hx:l[j+1]?=some x):ke l (j+2)=ke l (j+1)/\jh l (j+2)=jh l (j+1):=by unfold ke jh;rw[Qs hj hx,ax rfl];exact⟨rfl,rfl⟩
theorem aEn{l:List α}{j:Nat}{x y:α}(hj:l[j]?=some y)(hx:l[j+1]?=some x)(aV:y≠x)(hd:jh l (j+1)<l.length):(ke l (j+1)).set (jh l (j+1)) x=ke l (j+2)/\jh l (j+2)=jh l (j+1)+1:=by
 unfold ke jh at *;rw[Qs hj hx,au aV];refine⟨?_,by rw[jx];rfl⟩;rw[Ve _ _ (bt _),vG,jx,BV,EL]
 congr 1
 rw[Pq hd];rfl
theorem WL{l:List α}:∀(j:Nat),(∀ i x,i+1<j->l[i]?=some x->l[i+1]?≠some x)->j<=l.length->dd (l.take j)=l.take j
 |0,_,_=>rfl
 |1,_,_=>by
  cases l with
  |nil=>rfl
  |cons a l=>rfl
 |j+2,h,hl=>by
  have ih:=WL (j+1) (λi x hi=>h i x o_) o_;have hy:l[j]?=some l[j]:=bd o_;have hx:l[j+1]?=some l[j+1]:=bd o_;rw[Qs hy hx,au (λe=>h j _ o_ hy (by rw[hx,e])),ih];have e:l.take (j+2)=l.take (j+1)++[l[j+1]]:=by rw[sQ,hx];rfl
  exact e.symm
theorem aEo(l:List α):∀ n,n<=l.length->(∀ i x,i+1<n->l[i]?=some x->l[i+1]?≠some x)\/∃ e x,e+1<n/\l[e]?=some x/\l[e+1]?=some x/\∀ i x,i+1<e+1->l[i]?=some x->l[i+1]?≠some x
 |0,_=>.inl λi x h=>by omega
 |1,_=>.inl λi x h=>by omega
 |n+2,hn=>by
  rcases aEo l (n+1) o_ with h|⟨e,x,h1,h2,h3,h4⟩
  ·have hy:l[n]?=some l[n]:=bd o_;have hx:l[n+1]?=some l[n+1]:=bd o_;by_cases he:l[n]=l[n+1]
   ·exact .inr ⟨n,l[n],by omega,hy,by rw[hx,he],h⟩
   ·refine .inl λi x hi AX=>?_;rcases eL (i+1) (n+1)with h1|h1
    ·exact h i x h1 AX
    ·have:i=n:=by omega
     subst this;rw[hy]at AX;injection AX with AX;rw[hx,<-AX];intro e;injection e with e;exact he e.symm
  ·exact .inr ⟨e,x,by omega,h2,h3,h4⟩
theorem aEp{β:Type}[DecidableEq β]{f:α->β}(hf:∀ a b,f a=f b->a=b):∀ l:List α,dd (l.map f)=(dd l).map f
 |[]=>rfl
 |[a]=>rfl
 |a::b::l=>by
  have ih:=aEp hf (b::l);rw[qO,qO,LK,LK];rw[qO]at ih;by_cases h:a=b
  ·subst h;rw[ax rfl,ax rfl,ih]
  ·rw[au h,au (λe=>h (hf _ _ e)),ih];rfl
end
section
variable{Bs:aa}{l:List RV}
def LL:RI:=⟨false,[]⟩
def Gr:RN:=⟨LL,LL,LL,LL,LL⟩
def s8:RV:=⟨Gr,Gr,Gr⟩
def Gs(n i:Nat):aR:=[(3,vI i),(0,sl 1 n)]
def lG(l:List RV):aH:=[(1,.row (cF l) 33 30)]
def aQO(k a n:Nat):Value:=.slice (some ⟨k,a*30,some 7⟩) n a
def LM(n e d k:Nat):aR:=[(5,vI k),(4,aQO 1 e (n-e)),(3,vI d),(0,sl 1 n)]
theorem stV{l:List RV}{i:Nat}{y:RV}(hi:i<l.length):e6 prog 33 (cF l) (i*30) y.v=some (cF (l.set i y)):=aMm gh k_ hi
theorem aEq{n i:Nat}{x y:RV}(hi:i+1<n)(h63:n<4611686018427387904)(hy:l[i]?=some y)(hx:l[i+1]?=some x)(xQ:y.Sm)(kZ:x.Sm)(aV:x≠y):
  ag prog Bs 61 (aF (af f118 0)) (Gs n (i+1)) (lG l) 2 ⟨.normal,Gs n (i+1+1),lG l,2⟩:=
 aC [.lt 13 (i+1) n true (aB hi),.cT f118 18 1 n (i+1) 30 hi k_,.ld f118 19 33 1 ((i+1)*30) (.row (cF l) 33 30) x.v rfl (sO hx) k_,.e7 22 (i+1) 1 i rfl o_,.cT f118 23 1 n i 30 o_ k_,.ld f118 24 33 1 (i*30) (.row (cF l) 33 30) y.v rfl (sO hy) k_,.step 25 (av f118 25) [x.v,y.v] [] (.bool false) [] (Dj (neg:=true) k_ x y kZ xQ (by simp[aV])),.sum 15 (i+1) 1 (i+1+1) rfl o_]
theorem aQP{n:Nat}:ag prog Bs 61 (aF (af f118 0)) (Gs n n) (lG l) 2 ⟨.exit 0,[(0,sl 1 n)],lG l,2⟩:=
 aC [.lt 13 n n false s_]
noncomputable def aEr{n e k j:Nat}{r:List RV}{x y:RV}{t:Bool}(hk:k+1<n-e)(hj:e+k=j)(h63:n<4611686018427387904)(hy:r[j]?=some y)(hx:r[j+1]?=some x)(xQ:y.Sm)(kZ:x.Sm)(ht:(!t)=true↔x=y)(more:bI prog Bs 61):bI prog Bs 61:=
 .lt 32 (k+1) (n-e) true (aB hk)::.pL f118 37 1 e (n-e) e (k+1) (j+1) 30 hk o_ k_::.ld f118 38 33 1 ((j+1)*30) (.row (cF r) 33 30) x.v rfl (sO hx) k_::.e7 41 (k+1) 1 k rfl o_::
  .pL f118 42 1 e (n-e) e k j 30 o_ hj k_::.ld f118 43 33 1 (j*30) (.row (cF r) 33 30) y.v rfl (sO hy) k_::.step 44 (av f118 44) [x.v,y.v] [] (.bool t) [] (Dj (neg:=false) k_ x y kZ xQ ht)::more
theorem aQQ{n e k d:Nat}(hl:l.length=n)(hk:e+1+k+1<n)(h63:n<4611686018427387904)(qz:∀ x∈l,x.Sm)(hd:d=jh l (e+1+k+1))(hde:d<=e+1+k):
  ag prog Bs 61 (aF (af f118 2)) (LM n (e+1) d (k+1)) (lG (ke l (e+1+k+1))) 2 ⟨.normal,LM n (e+1) (jh l (e+1+k+2)) (k+1+1),lG (ke l (e+1+k+2)),2⟩:=by
 have hy:l[e+1+k]?=some l[e+1+k]:=bd o_;have hx:l[e+1+k+1]?=some l[e+1+k+1]:=bd o_;have On:(ke l (e+1+k+1))[e+1+k]?=some l[e+1+k]:=by rw[aEm o_];exact hy
 have sn:(ke l (e+1+k+1))[e+1+k+1]?=some l[e+1+k+1]:=by rw[aEm o_];exact hx
 have sy:=qz _ (cJ hy);have sx:=qz _ (cJ hx);by_cases h:l[e+1+k]=l[e+1+k+1]
 ·obtain⟨q1,q2⟩:=Qu hy (by rw[hx,h]);rw[q1,q2,<-hd];exact aC (aEr (t:=false) o_ rfl h63 On sn sy sx (by simp[h]) [.sum 34 (k+1) 1 (k+1+1) rfl o_])
 ·have ak:jh l (e+1+k+1)<l.length:=by omega
  obtain⟨q1,q2⟩:=aEn hy hx h ak;rw[<-hd]at q1 q2 ak;have bM:=stV (l:=ke l (e+1+k+1)) (i:=d) (y:=l[e+1+k+1]) (by rw[aEl];exact ak);rw[q1]at bM;rw[q2];generalize l[e+1+k+1]=x at *;generalize l[e+1+k]=y at *;generalize ke l (e+1+k+1)=r at *;generalize ke l (e+1+k+2)=r' at *;exact aC (aEr (t:=true) o_ rfl h63 On sn sy sx (by simp;exact λe=>h e.symm) [.pL f118 49 1 (e+1) (n-(e+1)) (e+1) (k+1) (e+1+k+1) 30 o_ o_ k_,.ld f118 50 33 1 ((e+1+k+1)*30) (.row (cF r) 33 30) x.v rfl (sO sn) k_,.cT f118 51 1 n d 30 o_ k_,.st f118 100051 33 1 (d*30) (.row (cF r) 33 30) x.v (.row (cF r') 33 30) rfl bM rfl k_,.sum 53 d 1 (d+1) rfl o_,.sum 34 (k+1) 1 (k+1+1) rfl o_])
theorem aQR{n e d:Nat}{r:List RV}(he:e<=n):ag prog Bs 61 (aF (af f118 2)) (LM n e d (n-e)) (lG r) 2 ⟨.exit 2,[(3,vI d),(0,sl 1 n)],lG r,2⟩:=
 aC [.lt 32 (n-e) (n-e) false s_]
theorem aQS{n e:Nat}{x:RV}(hl:l.length=n)(he:e+1<n)(h63:n<4611686018427387904)(qz:∀ x∈l,x.Sm)(hy:l[e]?=some x)(hx:l[e+1]?=some x)(gC:dd (l.take (e+1))=l.take (e+1)):
  ag prog Bs 61 (.block 2 (af f118 2)) (LM n (e+1) (e+1) 1) (lG l) 2 ⟨.normal,[(3,vI (dd l).length),(0,sl 1 n)],lG (ke l n),2⟩/\(dd l).length<n:=by
 have h0:jh l (e+1)=e+1:=by unfold jh;rw[gC,ji];omega
 have h1:jh l (e+2)=e+1:=by rw[(Qu hy hx).2,h0]
 have gA:ke l (e+2)=l:=by rw[(Qu hy hx).1];unfold ke;rw[gC];rw[ji,oq o_,Iz]
 have vz:∀ k,e+1+k+1<n->jh l (e+1+k+2)<=jh l (e+1+k+1)+1:=λk hk=>by
  have a:l[e+1+k]?=some l[e+1+k]:=bd o_;have b:l[e+1+k+1]?=some l[e+1+k+1]:=bd o_;by_cases h:l[e+1+k]=l[e+1+k+1]
  ·have:=(Qu a (by rw[b,h])).2;omega
  ·have:=(aEn a b h (by have:=(Qt l (e+1+k+1)).1;omega)).2;omega
 have EH:∀ k,e+1+k<n->jh l (e+1+k+1)<=e+1+k:=by
  intro k;induction k with
  |zero=>intro _;show jh l (e+2)<=_;omega
  |succ k ih=>
   intro hk;have a:=ih o_;have b:=vz k o_;show jh l (e+1+k+2)<=_;omega
 have aY:jh l n=(dd l).length:=by unfold jh;rw[kB o_]
 refine⟨?_,?_⟩
 ·have:=cd (P:=prog) (B:=Bs) (N:=61) (b:=aF (af f118 2)) (next:=2) (n-(e+1)-1) (λk=>LM n (e+1) (jh l (e+1+k+1)) (k+1)) (λk=>lG (ke l (e+1+k+1)))
   (r:=⟨.exit 2,[(3,vI (dd l).length),(0,sl 1 n)],lG (ke l n),2⟩) (λi k _=>j0 (l:=lG (ke l (e+1+i+1))) (m:=lG (ke l (e+1+0+1))) rfl k)
   (λk hk=>aQQ hl o_ h63 qz rfl (EH k o_))
   (by
    have e1:e+1+(n-(e+1)-1)+1=n:=by omega
    have e2:n-(e+1)-1+1=n-(e+1):=by omega
    simp only[e1,e2,aY];exact aQR o_) n_
  have h2:=bT (id:=2) this;simp only[kh,jv,h1,gA]at h2;exact h2
 ·have:=EH (n-(e+1)-1) o_;rw[show e+1+(n-(e+1)-1)+1=n by omega,aY]at this;omega
def IV(l:List RV):List RV:=dd l++List.replicate (l.length-(dd l).length) s8
theorem aEs{l:List RV}(h:dd l=l):IV l=l:=by unfold IV;rw[h];simp
theorem aQT(qz:∀ x∈l,x.Sm)(h63:l.length<4611686018427387904):xN prog 118 2 [sl 1 l.length] (lG l) [] (sl 1 (dd l).length) (lG (IV l)):=by
 by_cases h2:l.length<2
 ·have hd:dd l=l:=by
   cases l with
   |nil=>rfl
   |cons a l=>cases l with
    |nil=>rfl
    |cons b l=>simp at h2;omega
  rw[aEs hd,hd];exact oF mixed func118 100 (N:=61) k_ (λ_=>[.lt 8 l.length 2 true (aB h2)]) (λ_=>k_)
 ·have ak:(Value.bool (decide ((l.length:Int)<(2:Int))))=.bool false:=by simp;omega
  rcases aEo l l.length (bt _)with h|⟨e,x,h3,h4,h5,h6⟩
  ·have hd:dd l=l:=by have:=WL l.length h (bt _);rwa[lY]at this
   rw[aEs hd,hd];generalize hn:l.length=n at *;have lo:∀ B:aa,ag prog B 61 (.block 0 (af f118 0)) (Gs n 1) (lG l) 2 ⟨.normal,[(0,sl 1 n)],lG l,2⟩:=λB=>by
    have:=cd (P:=prog) (B:=B) (N:=61) (b:=aF (af f118 0)) (next:=2) (n-1) (λi=>Gs n (i+1)) (λ_=>lG l) (r:=⟨.exit 0,[(0,sl 1 n)],lG l,2⟩) (λi k _=>Iff.rfl)
     (λi hi=>by have hy:l[i]?=some l[i]:=bd o_;have hx:l[i+1]?=some l[i+1]:=bd o_;exact aEq o_ h63 hy hx (qz _ (cJ hy)) (qz _ (cJ hx)) λe=>h i _ o_ hy (by rw[hx,e]))
     (by rw[show n-1+1=n by omega];exact aQP) n_
    exact bT (id:=0) this
   exact oF mixed func118 100 (N:=61) k_ (λB=>[.rw 8 _ _ ak,.code 0 _ _ _ _ _ (lo B)]) (λ_=>k_)
  ·have gC:dd (l.take (e+1))=l.take (e+1):=WL (e+1) h6 o_;have sx:=qz _ (cJ h4);generalize hn:l.length=n at *;have hz:df RV.cs (List.replicate (n-(dd l).length) s8)=(Builtin.zeroCells (s8.v).cells (n-(dd l).length)).toList:=(aNr gh rfl d_ _).symm;unfold IV;rw[hn];have ct:=λB=>aQS (Bs:=B) hn h3 h63 qz h4 h5 gC;have NU:=(ct (aa.at default)).2;have FQ:ke l n=dd l++l.drop (dd l).length:=by unfold ke;rw[kB o_]
   have aQU:jb (cF (ke l n)) ((dd l).length*30) (Builtin.zeroCells (s8.v).cells (n-(dd l).length)).toList=cF (dd l++List.replicate (n-(dd l).length) s8):=by rw[<-hz,FQ];show jb (df RV.cs (dd l++l.drop (dd l).length)) _ _=df RV.cs _;rw[Im,Im];have:=Pr (df RV.cs (List.replicate (n-(dd l).length) s8)) (df RV.cs (dd l)) (df RV.cs (l.drop (dd l).length)) 0;rw[tQ gh,jv]at this;rw[this];have h2:=Vf (df RV.cs (List.replicate (n-(dd l).length) s8)) (df RV.cs (l.drop (dd l).length)) [] (by rw[tQ gh,tQ gh,vt,ID,hn]);rw[jn,jn]at h2;rw[h2]
   have hlen:(dd l).length*30+(n-(dd l).length)*(s8.v).cells.size<=(cF (ke l n)).length:=by rw[tQ gh,aEl,hn,show(s8.v).cells.size=30 from rfl,<-fE];exact fo _ o_
   generalize ke l n=r at *;generalize (dd l++List.replicate (n-(dd l).length) s8)=r' at *;generalize (dd l).length=d at *;have lo:∀ B:aa,ag prog B 61 (.block 0 (af f118 0)) (Gs n 1) (lG l) 2 ⟨.ret,[(2,sl 1 d)],lG r',2⟩:=λB=>by
    have:=cd (P:=prog) (B:=B) (N:=61) (b:=aF (af f118 0)) (next:=2) e (λi=>Gs n (i+1)) (λ_=>lG l) (r:=⟨.ret,[(2,sl 1 d)],lG r',2⟩) (λi k _=>Iff.rfl)
     (λi hi=>by have hy:l[i]?=some l[i]:=bd o_;have hx:l[i+1]?=some l[i+1]:=bd o_;exact aEq o_ h63 hy hx (qz _ (cJ hy)) (qz _ (cJ hx)) λe=>h6 i _ o_ hy (by rw[hx,e]))
     (aC [.lt 13 (e+1) n true (aB h3),.cT f118 18 1 n (e+1) 30 h3 k_,.ld f118 19 33 1 ((e+1)*30) (.row (cF l) 33 30) x.v rfl (sO h5) k_,.e7 22 (e+1) 1 e rfl o_,.cT f118 23 1 n e 30 o_ k_,.ld f118 24 33 1 (e*30) (.row (cF l) 33 30) x.v rfl (sO h4) k_,.step 25 (av f118 25) [x.v,x.v] [] (.bool true) [] (Dj (neg:=true) k_ x x sx sx s_),.behind f118 28 1 n (e+1) (n-(e+1)) 30 o_ o_ k_,.code 2 _ _ _ _ _ (ct B).1,.behind f118 56 1 n d (n-d) 30 o_ o_ k_,.clear f118 99999 1 (d*30) (n-d) d 33 30 s8.v (cF r) (cF r') d_ o_ hlen aQU k_,.upto f118 59 1 n d 30 o_ k_]) n_
    exact bT (id:=0) this
   exact oF mixed func118 100 (N:=61) k_ (λB=>[.rw 8 _ _ ak,.code 0 _ _ _ _ _ (lo B)]) (λ_=>k_)
end
section
open Go.Shelf
def aEt:Go.Shelf.Ren:=⟨λ| 6=>116|15=>158|14=>157|28=>193|29=>194|20=>185|21=>186|22=>187|23=>188|24=>189|25=>190|26=>191|27=>192|46=>212|47=>213|48=>214|49=>215|50=>216|57=>228|n=>n,λ| 22=>23|24=>33|25=>140|3=>3|39=>118|0=>0|53=>176|55=>105|4=>4|46=>184|45=>183|50=>119|5=>5|9=>9|66=>203|70=>207|76=>219|77=>220|n=>n,λ| n=>n⟩
theorem aQV:Go.Proofs.SlLaysF0.n6 prog aEt:={
 mixed:=by kernel_rfl
 f6:=⟨f116.name,by decide,func116.trans (cM some k_)⟩
 f14:=⟨f157.name,by decide,func157.trans (cM some k_)⟩
 f15:=func158.trans (cM some k_)
 f20:=⟨f185.name,by decide,func185.trans (cM some k_)⟩
 f21:=⟨f186.name,by decide,func186.trans (cM some k_)⟩
 f22:=⟨f187.name,by decide,func187.trans (cM some k_)⟩
 f23:=⟨f188.name,by decide,func188.trans (cM some k_)⟩
 f24:=⟨f189.name,by decide,func189.trans (cM some k_)⟩
 f25:=⟨f190.name,by decide,func190.trans (cM some k_)⟩
 f26:=⟨f191.name,by decide,func191.trans (cM some k_)⟩
 f27:=⟨f192.name,by decide,func192.trans (cM some k_)⟩
 f28:=func193.trans (cM some k_)
 f29:=func194.trans (cM some k_)
 f46:=⟨f212.name,by decide,func212.trans (cM some k_)⟩
 f47:=func213.trans (cM some k_)
 f48:=func214.trans (cM some k_)
 f49:=⟨f215.name,by decide,func215.trans (cM some k_)⟩
 f50:=⟨f216.name,by decide,func216.trans (cM some k_)⟩
 f57:=⟨f228.name,by decide,func228.trans (cM some k_)⟩
 t0:=Tryz.underlying0
 a0:=isAgg0
 z0:=sizeOf0
 v0:=Tryz.zeroValue0
 t3:=Tryz.underlying3
 a3:=isAgg3
 z3:=sizeOf3
 v3:=Tryz.zeroValue3
 t4:=Tryz.underlying4
 a4:=isAgg4
 z4:=sizeOf4
 v4:=Tryz.zeroValue4
 t5:=Tryz.underlying5
 a5:=isAgg5
 z5:=sizeOf5
 v5:=Tryz.zeroValue5
 t9:=Tryz.underlying9
 a9:=isAgg9
 z9:=sizeOf9
 v9:=Tryz.zeroValue9
 t22:=Tryz.underlying23
 a22:=isAgg23
 z22:=sizeOf23
 v22:=Tryz.zeroValue23
 t25:=Tryz.underlying140
 a25:=isAgg140
 z25:=sizeOf140
 v25:=Tryz.zeroValue140
 t39:=Tryz.underlying118
 a39:=isAgg118
 z39:=sizeOf118
 v39:=Tryz.zeroValue118
 t45:=Tryz.underlying183
 a45:=isAgg183
 z45:=sizeOf183
 v45:=Tryz.zeroValue183
 t46:=Tryz.underlying184
 a46:=isAgg184
 z46:=sizeOf184
 v46:=Tryz.zeroValue184
 t50:=Tryz.underlying119
 a50:=isAgg119
 z50:=sizeOf119
 v50:=Tryz.zeroValue119
 t53:=Tryz.underlying176
 a53:=isAgg176
 z53:=sizeOf176
 v53:=Tryz.zeroValue176
 t55:=Tryz.underlying105
 a55:=isAgg105
 z55:=sizeOf105
 v55:=Tryz.zeroValue105
 t66:=Tryz.underlying203
 a66:=isAgg203
 z66:=sizeOf203
 v66:=Tryz.zeroValue203
 t70:=Tryz.underlying207
 a70:=isAgg207
 z70:=sizeOf207
 v70:=Tryz.zeroValue207
 t76:=Tryz.underlying219
 a76:=isAgg219
 z76:=sizeOf219
 v76:=Tryz.zeroValue219
 t77:=Tryz.underlying220
 a77:=isAgg220
 z77:=sizeOf220
 v77:=Tryz.zeroValue220 }
end
section
open CR OF
section
variable{F:Type}[OF F]
def s9(u v:V3 F):Bool:=decide (dZ u v≠1)
theorem IW{u v:V3 F}:s9 u v=true↔jT u v\/u=v:=by unfold s9 jT;rw[BU,<-K4];rcases Ij u v with h|h|h<;>rw[h]<;>decide
theorem aEu(u v w:V3 F)(h:s9 u v=true)(k:s9 v w=true):s9 u w=true:=by
 rw[IW]at *;rcases h with h|rfl
 ·rcases k with k|rfl
  ·exact .inl (K5 h k)
  ·exact .inl h
 ·exact k
theorem aQW(u v:V3 F):(s9 u v||s9 v u)=true:=by
 rw[uC,IW,IW];rcases Ij u v with h|h|h
 ·exact .inl (.inl h)
 ·exact .inl (.inr (K4.1 h))
 ·exact .inr (.inl (K6 h))
theorem aQX{u v:V3 F}(h:s9 u v=true)(k:s9 v u=true):u=v:=by
 rw[IW]at h k;rcases h with h|h
 ·rcases k with k|k
  ·exact absurd (Ph h k) id
  ·exact k.symm
 ·exact h
def rG(l:List (V3 F)):List (V3 F):=l.mergeSort s9
theorem LN(l:List (V3 F)):(rG l).Perm l:=List.mergeSort_perm l s9
theorem aEv(l:List (V3 F)):(rG l).Pairwise λu v=>s9 u v=true:=List.pairwise_mergeSort aEu aQW l
theorem aQY{l d:List (V3 F)}(hp:d.Perm l)(hs:d.Pairwise λu v=>s9 u v=true):d=rG l:=
 List.Perm.eq_of_pairwise (λ_ _ _ _=>aQX) hs (aEv l) (hp.trans (LN l).symm)
theorem aEw{α:Type}[DecidableEq α]:∀(a:α) (l:List α),∃ m,dd (a::l)=a::m
 |a,[]=>⟨[],rfl⟩
 |a,b::l=>by
  rw[LK];by_cases h:a=b
  ·subst h;rw[ax rfl];exact aEw a l
  ·rw[au h];exact⟨_,rfl⟩
theorem aEx[DecidableEq (V3 F)]:∀{l:List (V3 F)},(l.Pairwise λu v=>s9 u v=true)->(dd l).Pairwise jT
 |[],_=>aCr
 |[a],_=>aB5 ..
 |a::b::l,h=>by
  have h':=(sL.1 h).2;have ih:=aEx h';rw[LK];by_cases b9:a=b
  ·rw[ax b9];exact ih
  ·rw[au b9];refine sL.2 ⟨λx hx=>?_,ih⟩;have ak:jT a b:=(IW.1 ((sL.1 h).1 b (aU ..))).resolve_right b9;obtain⟨m,hm⟩:=aEw b l;rw[hm]at hx ih;rcases ch.1 hx with rfl|hx
   ·exact ak
   ·exact K5 ak ((sL.1 ih).1 x hx)
theorem aEy[DecidableEq (V3 F)](l:List (V3 F)):dd (rG l)=K7 l:=
 U4 (aEx (aEv l)) (U6 l) λx=>by rw[aEk,U5,(LN l).mem_iff]
end
end
section
open V3 (dot ao bC smul)
open Go.Sort (SWO)
theorem aQZ{ps:List (HS K)}{p q:HS K}{m:Nat}(bX:∀ p∈ps,bo m p)(hp:bo m p)(hq:bo m q)(lT:eg p q≠0->dot (eg p q) (eg p q)≠0):∀ v∈ry ps p q,aD (10000*(m+10)) v:=by
 intro v hv;unfold ry F0 at hv;have hD:=Vl hp hq;by_cases h0:eg p q=0
 ·rw[ax h0]at hv;cases hv
 ·rw[au h0]at hv;obtain⟨r,hr⟩:∃ r,r=300*m+1000:=⟨_,rfl⟩;have hB:aD r (wj p q):=hr▸aCH hp hq h0 (lT h0);have F1:aD r (eg p q):=hD.mono o_;obtain⟨zl,zh⟩:=PA (m:=m) (q:=r) (z:=24*(m+r)+m+200) hB F1 o_ ps ⟨none,none⟩ bX n_ n_;have key:∀ t,Sz (24*(m+r)+m+200) t->aD (10000*(m+10)) (wj p q+smul (eg p q) t):=λt ht=>(hB.add (F1.smul ht)).mono o_;unfold Lf at hv;split at hv
  ·rename_i x y he;split at he
   ·split at he
    ·rename_i l h e1 e2;injection he with he;injection he with f1 f2;subst f1;subst f2;simp only[ch,iu,iv]at hv;rcases hv with rfl|rfl
     ·exact key _ (zl _ e1)
     ·exact key _ (zh _ e2)
    ·cases he
   ·cases he
  ·cases hv
theorem aEz{ps:List (HS K)}{m:Nat}(bX:∀ p∈ps,bo m p)(lT:∀ p q:HS K,eg p q≠0->dot (eg p q) (eg p q)≠0)(n:Nat):∀ v∈nt ps n,aD (10000*(m+10)) v:=by
 intro v hv;unfold nt at hv;rw[zR]at hv;obtain⟨i,_,hv⟩:=hv;unfold Lk at hv;split at hv
 ·rename_i p hp;unfold lB at hv;rw[zR]at hv;obtain⟨q,hq,hv⟩:=hv;exact aQZ bX (bX p (cJ hp)) (bX q (Ir hq)) (lT p q) v hv
 ·cases hv
structure VS(m:Nat) where
 v:V3 K
 sz:aD m v
theorem VS.ext'{m:Nat}{a b:VS m}(h:a.v=b.v):a=b:=by cases a;cases b;cases h;rfl
def Qv{m:Nat}(v:VS m):aj:=(cx v.v).cs
theorem WM{m:Nat}:rf (Qv (m:=m)) 30:=⟨λ_=>gh.len _,λ_=>gh.flat _,λ_=>gh.one _⟩
theorem WN{m:Nat}(h:1<=m):aD m (⟨kI 0,kI 0,kI 0⟩:V3 K):=K9.mono h
def LO{m:Nat}(u v:VS m):Bool:=Go.Proofs.ltOf (λa b:VS m=>dZ a.v b.v) u v
theorem WO{m:Nat}{u v:VS m}:LO u v=true↔jT u.v v.v:=by show decide (dZ u.v v.v<0)=true↔dZ u.v v.v=-1;rw[BU];rcases Ij u.v v.v with h|h|h<;>rw[h]<;>decide
theorem aEA{m:Nat}{u v:VS m}:LO u v=false↔s9 v.v u.v=true:=by
 rw[Bool.eq_false_iff,ne_eq,WO,IW];rcases Ij u.v v.v with h|h|h
 ·exact⟨λk=>absurd h k,λk _=>by
   rcases k with k|k
   ·exact Ph h k
   ·rw[k]at h;exact DB _ h⟩
 ·have:=K4.1 h;exact⟨λ_=>.inr this.symm,λ_ k=>by rw[this]at k;exact DB _ k⟩
 ·exact⟨λ_=>.inl (K6 h),λ_ k=>Ph k (K6 h)⟩
theorem aQ0{m:Nat}:SWO (LO (m:=m)) where
 irrefl x:=by rw[Bool.eq_false_iff,ne_eq,WO];exact DB _
 trans x y z h k:=by rw[WO]at *;exact K5 h k
 ntrans x y z h k:=by rw[aEA]at *;exact aEu _ _ _ k h
theorem aQ1{f:FuncId}(h:gz prog f=true):∀ args w,(callFunc f args).run prog w=.ok (.enter f args) w:=λargs w=>ML h args w
def IX:Value:=.func (.func 117) #[] #[]
theorem aQ2{m:Nat}(c7:1<=m)(hm:8*m+24<=aA)(l:List (VS m))(h63:l.length<4611686018427387904):
  letI:Inhabited (VS m):=⟨⟨_,WN c7⟩⟩
  aC2 prog 116 IX Qv 30 LO l:=by
 letI:Inhabited (VS m):=⟨⟨_,WN c7⟩⟩
 intro aI cap w hH hblk
 have:=Go.Proofs.AnyQ.slices_SortFunc (P:=prog) (ρ:=aEt) aQV 30 isAgg33 sizeOf33 (Qv (m:=m)) WM.len WM.one (λa b=>dZ a.v b.v) aQ0 117 #[] aI 0 cap l.toArray w
  (aQ1 k_) (aNk (λx y=>U8 x.sz y.sz o_) aI _ _ w) hH hblk (by simpa using h63)
 have e:l.toArray.size=l.length:=by simp
 rw[e]at this;exact this
theorem aQ3:aE prog 185 [.slice none 0 0,vI 0,vI 0,IX] (.tuple #[]):=aM func185 (λ_=>[])
theorem aQ4:aE prog 157 [.slice none 0 0,vI 0,vI 0,vI 0,IX] (.tuple #[]):=aM func157 (λ_=>[aQ3.at 30])
theorem aQ5:aE prog 194 [.int .u64 0] (vI 0):=aM func194 (λ_=>[])
theorem aQ6:aE prog 158 [.int .u64 0] (vI 0):=aM func158 (λ_=>[aQ5.at 7])
theorem aQ7:aE prog 116 [.slice none 0 0,IX] (.tuple #[]):=aM func116 (λ_=>[aQ6.at 11,aQ4.at 13])
theorem aQ8{Bs:aa}{l:List (V3 K)}{m:Nat}(c7:1<=m)(hm:8*m+24<=aA)(hl:∀ v∈l,aD m v)(h63:l.length<4611686018427387904){o:Oper}{x:Operand}(ho:dx o.op=some x)(k:Nat):
  cD prog Bs o [.func (.func 116) #[] #[],sl k l.length,IX] [(k,some (.row (aL l) 33 30))] (.tuple #[]) [(k,.row (aL (rG l)) 33 30)]:=by
 letI:Inhabited (VS m):=⟨⟨_,WN c7⟩⟩
 have hex:∀ l:List (V3 K),(∀ v∈l,aD m v)->∃ l2:List (VS m),l2.map VS.v=l:=by
  intro l;induction l with
  |nil=>exact λ_=>⟨[],rfl⟩
  |cons a l ih=>
   intro h;obtain⟨l2,h2⟩:=ih λv hv=>h v (bE _ hv);exact⟨⟨a,h a (aU ..)⟩::l2,by rw[qO,h2]⟩
 obtain⟨l2,h2⟩:=hex l hl;obtain⟨l3,h3⟩:=hex (rG l) λv hv=>hl v ((LN l).mem_iff.1 hv);have UW:∀ a b:VS m,a.v=b.v->a=b:=λa b h=>VS.ext' h;have ju:∀ l2:List (VS m),df Qv l2=aL (l2.map VS.v):=by intro l2;unfold aL cF df;rw[S6,List.flatMap_map];rfl
 have hlen:l2.length=l.length:=by rw[<-h2,eO]
 have:=aNm (P:=prog) (B:=Bs) (l:=l2) (l':=l3) (o:=o) (x:=x) (ty:=33) (lt:=LO) (g:=IX) WM d_ (aQ2 c7 hm l2 o_) k_ ho k_ k (λ_=>aQ7) λd hd hs=>by
  have aQ9:∀ a b:List (VS m),a.map VS.v=b.map VS.v->a=b:=by intro a b h;exact List.map_inj_right (λx y=>UW x y) |>.1 h
  refine aQ9 _ _ ?_;rw[h3];refine aQY ?_ ?_
  ·rw[<-h2];exact hd.map _
  ·rw[List.pairwise_map,Qw];intro i j hi hj kN;have:=hs i j kN hj _ _ (bd hi) (bd hj);exact aEA.1 this
 rw[ju,ju,h2,h3,hlen]at this;exact this
theorem WQ{m:Nat}(hm:10000000*(m+10)<=aA):1<=10000*(m+10)/\8*(10000*(m+10))+24<=aA/\10000*(m+10)<=aA:=by omega
def bf(ps:List (HS K)):List (V3 K):=K7 (nt ps ps.length)
theorem aEB(l:List (V3 K)):dd (l.map cx)=(dd l).map cx:=aEp (λ_ _ h=>K8 h) l
theorem aRa{ps:List (HS K)}{m:Nat}(bX:∀ p∈ps,bo m p)(hm:10000000*(m+10)<=aA)(h63:ps.length<=500)(lT:∀ p q:HS K,eg p q≠0->dot (eg p q) (eg p q)≠0):
  lX prog 73 [fJ ps] 33 30 (bf ps).length (aL (bf ps)):=by
 have az:([fJ ps].all aT.ok)=true:=by simp only[dM,fH,fJ,aT.ok,cX,jq]
 have bw:=aEz bX lT ps.length;have hl:=PF ps.length (bt _) (ps:=ps);have jH:ps.length*(2*ps.length)<=500*1000:=y8 o_ o_;have lF:(nt ps ps.length).length<=500000:=dh hl jH;clear hl jH;have lo:=λBs=>aM7 (Bs:=Bs) bX hm h63 lT;have hv:bf ps=dd (rG (nt ps ps.length)):=(aEy _).symm;rw[hv];generalize nt ps ps.length=l at *;obtain⟨b1,b2,b3⟩:=WQ hm;have st:=λBs (o:Oper) x ho=>aQ8 (Bs:=Bs) (o:=o) (x:=x) (l:=l) (m:=10000*(m+10)) b1 b2 bw (e8 lF d_) ho 1;have hp:=LN l;have x7:(rG l).length=l.length:=hp.length_eq;have dD:=aQT (l:=(rG l).map cx) (λx hx=>by obtain⟨v,hv,rfl⟩:=di.1 hx;exact(bw v (hp.mem_iff.1 hv)).sm b3) (by rw[eO,x7];exact e8 lF d_)
 rw[eO,x7,aEB,eO]at dD;have hz:∃ t,cF (IV ((rG l).map cx))=aL (dd (rG l))++cF t:=⟨_,by unfold IV;rw[aEB];exact Im _ _⟩;obtain⟨t,hz⟩:=hz;unfold lG at dD;rw[hz]at dD;change xN prog _ 2 _ [(1,.row (aL (rG l)) 33 30)] _ _ _ at dD;have hlen:(aL (dd (rG l))).length=(dd (rG l)).length*30:=sS _;generalize dd (rG l)=d at *;generalize hS:rG l=s at *;intro w vs ct;obtain⟨ι,c,h1,h2,h3,h4,h5,h6,h7⟩:=vT ct (bh.1 az) 0 _ _ (qP w) n_ (λ_ _=>rfl);refine rY (ms:=[(1,.row (aL d++cF t) 33 30)]) (v:=sl 1 d.length) mixed func73 (N:=42) k_ 100 (rs:=[.code 0 _ _ _ _ _ (lo _),.step 39 (av f73 39) _ _ _ _ (st _ _ (.func 116) k_),.step 41 (av f73 41) _ _ _ _ (Po (args:=[sl 1 l.length]) (ca:=[]) (x:=.func 118) dD k_ k_ k_ k_ ?_ ?_ k_ k_ k_ k_)]) k_ h6 h2 h4 h3 λaw bZ v' w' hle hc hm dE=>⟨v',rfl,?_,hm.base⟩
 ·show((Nat.blt 1 2&&oE 2 (1,.row (aL s) 33 30))&&true)=true;rw[zX (x:=.row (aL s) 33 30) λv hv=>bh.1 (dF s) v hv];rfl
 ·show(oE 2 (1,.row (aL d++cF t) 33 30)&&true)=true;rw[zX (x:=.row (aL d++cF t) 33 30) λv hv=>(dX.1 hv).elim (λh=>bh.1 (dF d) v h) λh=>Le gh t v h];rfl
 ·have:=vC hm (dE (1,_) (aU ..)) hc (by rw[jx];omega) λv hv=>by
   rcases dX.1 hv with h|h
   ·exact bh.1 (dF d) v h
   ·exact Le gh t v h
  rwa[<-hlen,RK]at this;rfl
end
section
open V3 (dot ao bC smul)
theorem IY(l:List Nat):∀ v∈ai l,v.oneCell'=true:=λv hv=>by obtain⟨x,_,rfl⟩:=di.1 hv;rfl
theorem aRb(l m:List Nat):ai l++ai m=ai (l++m):=by simp[ai]
theorem Qx{l:List Nat}(h:l.length=0):ai l=[]:=by rw[lK h];rfl
def Gt(l:List Nat):aT:=.r l.length (ai l)
theorem WR(l:List Nat):(Gt l).ok=true:=gJ l
theorem aRc{l:List Nat}(hl:0<l.length)(h63:l.length<=1000000):lX prog 166 [Gt l] 3 1 l.length (ai l):=
 zz (k:=2) mixed func166 (by simp only[dM,fH,WR,jq]) 100 (N:=8) k_ (λ_=>[.step 4 (av f166 4) [sl 0 l.length,.slice none 0 0] [] (.bool false) [] (aCY k_ hl),.Lq f166 5 1 3 1 (vI 0) k_,.pB f166 7 2 1 0 l.length l.length 3 1 8 [] 0 (.view (ai l)) (ai l) o_ rfl (by rw[fX];exact lC l) rfl rfl (IY l) d_ (by simp[maxLen];omega) o_ k_]) (λ_=>k_) (gJ l) (by rw[lC];omega)
theorem Au(ps:List (HS K)):(aN ps).length=ps.length*40:=by unfold aN;rw[tQ iO,eO]
theorem aEC(ps:List (HS K)):∀ v∈aN ps,v.oneCell'=true:=λv hv=>by unfold aN dc df at hv;rw[zR]at hv;obtain⟨x,_,hx⟩:=hv;exact iO.one x v hx
theorem aED{ps:List (HS K)}(hl:0<ps.length)(h63:ps.length<=1000000):lX prog 41 [fJ ps] 35 40 ps.length (aN ps):=
 zz (k:=2) mixed func41 (by simp only[dM,fH,fJ,aT.ok,cX,jq]) 100 (N:=8) k_ (λ_=>[.step 4 (av f41 4) [sl 0 ps.length,.slice none 0 0] [] (.bool false) [] (aCY k_ hl),.Lq f41 5 1 35 40 (RP.v ⟨s8,Gr⟩) k_,.pB f41 7 2 1 0 ps.length ps.length 35 40 480 [] 0 (.view (aN ps)) (aN ps) o_ rfl (Au ps) rfl rfl (aEC ps) d_ (by simp[maxLen];omega) o_ k_]) (λ_=>k_) (cX ps) (Au ps)
def nZ(l:List Nat)(i:Nat):List Nat:=(List.range l.length).map λt=>if t<i\/l.length<=t+i then l.getD (l.length-1-t) 0 else l.getD t 0
theorem WS(l:List Nat)(i:Nat):(nZ l i).length=l.length:=by simp[nZ]
theorem aRd(l:List Nat):nZ l 0=l:=by
 apply xa
 ·simp[nZ]
 ·intro t h1 h2;have:¬(l.length<=t):=by omega
  simp[nZ,this,h2]
theorem aEE{l:List Nat}{i t:Nat}(h1:i<=t)(h2:t+i<l.length):(nZ l i)[t]?=some (l.getD t 0):=by
 have:¬(t<i\/l.length<=t+i):=by omega
 simp[nZ,show t<l.length by omega,this]
theorem aRe{l:List Nat}{i:Nat}(h:i+(i+1)<l.length):((nZ l i).set i (l.getD (l.length-1-i) 0)).set (l.length-1-i) (l.getD i 0)=nZ l (i+1):=by
 apply xa
 ·simp[nZ]
 ·intro t h1 h2;rw[WS]at h2;rw[G3,G3];simp only[nZ,CE,CF];by_cases e1:l.length-1-i=t
  ·subst e1;rw[ax rfl,ax o_]
   congr 1;omega
  ·rw[au e1];by_cases e2:i=t
   ·subst e2;rw[ax rfl,ax o_]
   ·rw[au e2];by_cases e3:t<i\/l.length<=t+i
    ·rw[ax e3,ax o_]
    ·rw[au e3,au o_]
theorem aRf{l:List Nat}{i:Nat}(h:l.length<=i+(i+1))(h2:i+i<=l.length):nZ l i=l.reverse:=by
 apply xa
 ·simp[nZ]
 ·intro t h1 h3;rw[WS]at h1;rw[List.getElem_reverse];simp only[nZ,CE,CF];split
  ·rw[EC,bd o_];rfl
  ·have:t=l.length-1-t:=by omega
   rw[EC,bd o_];simp only[Option.getD_some]
   congr 1
section
variable{Bs:aa}{l:List Nat}
def Qy(n i:Nat):aR:=[(2,vI i),(3,vI (n-1-i)),(0,sl 5 n)]
def yf(l:List Nat):aH:=[(5,.row (ai l) 3 1)]
theorem aRg{n i:Nat}(hn:l.length=n)(hi:i+(i+1)<n)(h63:n<4611686018427387904):
  ag prog Bs 28 (aF (af f167 0)) (Qy n i) (yf (nZ l i)) 6 ⟨.normal,Qy n (i+1),yf (nZ l (i+1)),6⟩:=by
 have g1:=aEE (l:=l) (i:=i) (t:=n-1-i) o_ o_;have g2:=aEE (l:=l) (i:=i) (t:=i) o_ o_;have hlen:=WS l i;have vz:=aRe (l:=l) (i:=i) o_;rw[hn]at vz hlen;generalize l.getD (n-1-i) 0=y at *;generalize l.getD i 0=x at *;generalize nZ l i=r at *;rw[<-vz];have s1:=wx (l:=r) (i:=i) (d:=y) o_;have s2:=wx (l:=r.set i y) (i:=n-1-i) (d:=x) (by rw[VT];omega);exact aC [.lt 9 i (n-1-i) true (by simp;omega),.ix f167 20 5 n (n-1-i) o_ k_,.ld f167 21 3 5 (n-1-i) (.row (ai r) 3 1) (vI y) rfl (dQ g1) k_,.ix f167 24 5 n i o_ k_,.ld f167 25 3 5 i (.row (ai r) 3 1) (vI x) rfl (dQ g2) k_,.ix f167 26 5 n i o_ k_,.st f167 100026 3 5 i (.row (ai r) 3 1) (vI y) (.row (ai (r.set i y)) 3 1) rfl s1 rfl k_,.ix f167 27 5 n (n-1-i) o_ k_,.st f167 100027 3 5 (n-1-i) (.row (ai (r.set i y)) 3 1) (vI x) (.row (ai ((r.set i y).set (n-1-i) x)) 3 1) rfl s2 rfl k_,.sum 11 i 1 (i+1) rfl o_,.e7 13 (n-1-i) 1 (n-1-(i+1)) o_ o_]
theorem aRh{n:Nat}(hn:l.length=n)(h0:0<n)(h63:n<4611686018427387904):
  ag prog Bs 28 (.block 0 (af f167 0)) (Qy n 0) (yf l) 6 ⟨.normal,[],yf l.reverse,6⟩:=by
 have uV:l.reverse=nZ l (n/2):=(aRf o_ o_).symm
 have:=cd (P:=prog) (B:=Bs) (N:=28) (b:=aF (af f167 0)) (next:=6) (n/2) (λi=>Qy n i) (λi=>yf (nZ l i)) (r:=⟨.exit 0,[],yf l.reverse,6⟩) (λi k _=>j0 (l:=yf (nZ l i)) (m:=yf (nZ l 0)) rfl k)
  (λi hi=>aRg hn o_ h63)
  (by rw[<-uV];generalize l.reverse=r;exact aC [.lt 9 (n/2) (n-1-n/2) false (by simp;omega)]) n_
 rw[aRd]at this;exact bT (id:=0) this
theorem aRi{l:List Nat}(h0:0<l.length)(h63:l.length<=1000000):xN prog 167 6 [sl 5 l.length] (yf l) [] (.tuple #[]) (yf l.reverse):=
 oF mixed func167 100 (N:=28) k_ (λB=>[.e7 6 l.length 1 (l.length-1) o_ o_,.code 0 _ _ _ _ _ (aRh rfl h0 o_)]) (λ_=>k_)
end
end
end Go.Proofs.YtjjefbkbljlgdaaGreatDoor
