/- Area vectors of a solid's faces: the proof of MeasureClosedCardSaid (the law's function answers true at every record it can be given; theorem measureClosed_card, last part), part 4 of 7; no condition. -/
import Derived.Test.YthjhinbiabcfiaaGreatDoorCK3
namespace Go.Proofs.YthjhinbiabcfiaaGreatDoor
open Go Go.RowKit Tryz
abbrev e_:=List (V3 K)
abbrev c_:=List (HS K)
variable{i m k a q b j size e d off cc r L k1 n2 k2 A U a1 m1 m2:Nat}{w w':h_}{ι:Map}{p:HS K}{o:Oper}{c:g_}{f:FuncId}{Bs:aa}{t:Bool}{x:K}{ps:c_}{ty:TypeId}{xs:ak}{fn:Func}{l:List aP}{u va:i_}{vs:e_}{z:Int}
theorem aW2{n:Nat}(ha:a<bz^n)(hb:b<bz^n):a+b<bz^(n+1):=by have h1:bz^n*2<=bz^n*bz:=jN _ d_;rw[dH];omega
theorem L6{n s:Nat}(hi:i<n)(hd:d=s/bz^i%bz):fp prog 3 (av (eT bz n i s)) i (vI d)=some (av (eT bz n (i+1) s)):=by rw[wP (by rw[NK];exact hi),NL hi hd]
theorem Wb(n s:Nat):List.replicate n (vI 0)=av (eT bz n 0 s):=by rw[S0,LR]
section
variable{Bs:aa}{ka kb n m a b:Nat}
def GD(ka kb n m a b i:Nat):aT:=[(7,vI i),(0,sl ka n),(1,sl kb m),(5,sl 2 (n+1)),(6,vI (fh bz a b i))]
def CB(ka kb n m a b i:Nat):aM:=[(ka,.view (av (ae bz n a))),(kb,.view (av (ae bz m b))),(2,.row (av (eT bz (n+1) i (a+b))) 3 1)]
theorem aN0(hk:(ka=0/\kb=1)\/(ka=1/\kb=0))(hi:i<n)(hb:b<bz^m)(h63:n<35184372088832):
  ah prog Bs 55 (aI (ag f132 0)) (GD ka kb n m a b i) (CB ka kb n m a b i) 3 ⟨.normal,GD ka kb n m a b (i+1),CB ka kb n m a b (i+1),3⟩:=by
 have hx:=iu (B:=bz) d_ a i;have hy:=iu (B:=bz) d_ b i;have hc:=Bv (B:=bz) d_ a b i;have hs:=HB (B:=bz) d_ a b i;have dq:=Fk (B:=bz) d_ a b i;have bT:=L6 (n:=n+1) (i:=i) (s:=a+b) o_ rfl;have lB:dM prog 3 (av (ae bz n a)) i=some (vI (a/bz^i%bz)):=ew (eR hi);have lL:i<m->dM prog 3 (av (ae bz m b)) i=some (vI (b/bz^i%bz)):=λjZ=>ew (eR jZ);have lp:¬i<m->b/bz^i%bz=0:=λjZ=>rH hb o_ d_;unfold GD CB;generalize av (eT bz (n+1) (i+1) (a+b))=r1 at *;generalize av (eT bz (n+1) i (a+b))=r0 at *;generalize av (ae bz n a)=ra at *;generalize av (ae bz m b)=rb at *;generalize fh bz a b (i+1)=c' at *;generalize fh bz a b i=c at *;generalize (a+b)/bz^i%bz=z at *;generalize a/bz^i%bz=x at *;generalize b/bz^i%bz=y at *;have e0:x+y+c=c+x+y:=by omega
 have e1:z=(c+x+y)%bz:=by rw[<-hs,e0]
 have e2:c'=(c+x+y)/bz:=by rw[<-dq,e0]
 have kf:bz=16777216:=rfl;by_cases jZ:i<m
 ·have lL:=lL jZ
  let S:Nat->Nat->bM prog Bs 55:=λka kb=>[.lt 22 i n true (by simp[hi]),.ix f132 28 ka n i hi k_,.ld f132 29 3 ka i (.view ra) (vI x) rfl lB k_,.sum 30 c x (c+x) rfl o_,.lt 34 i m true (by simp[jZ]),.ix f132 38 kb m i jZ k_,.ld f132 39 3 kb i (.view rb) (vI y) rfl lL k_,.sum 40 (c+x) y (c+x+y) rfl o_,.GA 44 (c+x+y) bz z e1,.ix f132 45 2 (n+1) i o_ k_,.st f132 100045 3 2 i (.row r0 3 1) (vI z) (.row r1 3 1) rfl bT rfl k_,.GB 47 (c+x+y) bz c' e2 o_,.sum 24 i 1 (i+1) rfl o_]
  rcases hk with ⟨rfl,rfl⟩|⟨rfl,rfl⟩
  ·exact aD (S 0 1)
  ·exact aD (S 1 0)
 ·have xx:=lp jZ;rw[xx,jg]at e1 e2
  let S:Nat->Nat->bM prog Bs 55:=λka kb=>[.lt 22 i n true (by simp[hi]),.ix f132 28 ka n i hi k_,.ld f132 29 3 ka i (.view ra) (vI x) rfl lB k_,.sum 30 c x (c+x) rfl o_,.lt 34 i m false (by simp[jZ]),.GA 44 (c+x) bz z e1,.ix f132 45 2 (n+1) i o_ k_,.st f132 100045 3 2 i (.row r0 3 1) (vI z) (.row r1 3 1) rfl bT rfl k_,.GB 47 (c+x) bz c' e2 o_,.sum 24 i 1 (i+1) rfl o_]
  rcases hk with ⟨rfl,rfl⟩|⟨rfl,rfl⟩
  ·exact aD (S 0 1)
  ·exact aD (S 1 0)
theorem aN1(hk:(ka=0/\kb=1)\/(ka=1/\kb=0))(hb:b<bz^m)(h63:n<35184372088832):
  ah prog Bs 55 (.block 0 (ag f132 0)) (GD ka kb n m a b 0) (CB ka kb n m a b 0) 3 ⟨.normal,GD ka kb n m a b n,CB ka kb n m a b n,3⟩:=
 cd (cx (b:=aI (ag f132 0)) (r:=⟨.exit 0,GD ka kb n m a b n,CB ka kb n m a b n,3⟩) n (GD ka kb n m a b) (CB ka kb n m a b) (λi k _=>kk (l:=CB ka kb n m a b i) (m:=CB ka kb n m a b 0) rfl k) (λi hi=>aN0 hk hi hb h63)
  (by rcases hk with ⟨rfl,rfl⟩|⟨rfl,rfl⟩<;>exact aD [.lt 22 n n false s_]) n_)
noncomputable def aDs(hk:(ka=0/\kb=1)\/(ka=1/\kb=0))(hb:b<bz^m)(h63:n<35184372088832)(hs:a+b<bz^(n+1))
  (bT:fp prog 3 (av (eT bz (n+1) n (a+b))) n (vI (fh bz a b n))=some (av (ae bz (n+1) (a+b)))):bM prog Bs 55:=
 [.sum 17 n 1 (n+1) rfl o_,.qy f132 18 2 (n+1) 3 8 (vI 0) (av (eT bz (n+1) 0 (a+b))) (Wb _ _) rfl rfl o_ (by simp[maxLen];omega) k_,.rw 6 (.int .i64 0) (vI (fh bz a b 0)) (by rw[NN];rfl),.code 0 _ _ _ _ _ (aN1 (ka:=ka) (kb:=kb) (a:=a) hk hb o_),.ix f132 52 2 (n+1) n o_ k_,.st f132 100052 3 2 n (.row (av (eT bz (n+1) n (a+b))) 3 1) (vI (fh bz a b n)) (.row (av (ae bz (n+1) (a+b))) 3 1) rfl bT rfl k_,.Ed f132 54 2 (n+1) (a+b) (.row (av (ae bz (n+1) (a+b))) 3 1) rfl rfl hs o_ k_]
end
theorem aWL{n:Nat}(ha:a<bz^n)(hb:b<bz^n):fp prog 3 (av (eT bz (n+1) n (a+b))) n (vI (fh bz a b n))=some (av (ae bz (n+1) (a+b))):=by have h1:=Bv (B:=bz) d_ a b n;have h2:=S1 ha hb;rw[L6 (BO n) (by rw[<-h2];exact(dW (eZ h1 d_)).symm),Hz]
theorem aDt(h1:nd bz a<35184372088832)(h2:nd bz b<35184372088832):lO prog 132 [jT a,jT b] 3 1 (nd bz (a+b)) (cJ (a+b)):=by
 have ha:=eB (B:=bz) d_ a;have hb:=eB (B:=bz) d_ b;have jk:=tC a;have jX:=tC b;have aC:([jT a,jT b].all aP.ok)=true:=by simp[I0]
 unfold jT cJ at aC ⊢;change lO _ _ _ _ _ _ (cJ (a+b));generalize nd bz a=n at *;generalize nd bz b=m at *;by_cases kF:n<m
 ·have gR:=cF ha (di (n:=bz) d_ (show n<=m by omega));have hs:=aW2 hb gR;rw[nr a b]
  exact L4 (k:=2) mixed func132 aC 100 (N:=55) k_ (λw=>(aY.lt 12 n m true (by simp[kF]):aY prog (aa.at w) 55)::aDs (ka:=1) (kb:=0) (a:=b) (b:=a) (.inr ⟨rfl,rfl⟩) ha h2 hs (aWL hb gR))
   (λw=>k_) (iJ _) (GC hs) (CA hs)
 ·have gE:=cF hb (di (n:=bz) d_ (show m<=n by omega));have hs:=aW2 ha gE
  exact L4 (k:=2) mixed func132 aC 100 (N:=55) k_ (λw=>(aY.lt 12 n m false (by simp[kF]):aY prog (aa.at w) 55)::aDs (ka:=0) (kb:=1) (a:=a) (b:=b) (.inl ⟨rfl,rfl⟩) hb h1 hs (aWL ha gE))
   (λw=>k_) (iJ _) (GC hs) (CA hs)
section
variable{B:Nat}
def qV(B q V c i:Nat):Nat:=(q*(V%B^i)+c)/B^i
theorem aN2(q V c:Nat):qV B q V c 0=c:=by simp[qV,uf]
theorem aDu(hB:0<B)(q V c i:Nat):qV B q V c i+q*(V/B^i%B)=(q*(V%B^(i+1))+c)/B^i:=by unfold qV;rw[pM,o9,<-gh,Nat.add_right_comm,pN _ _ (cO hB)]
theorem aN3(hB:0<B)(q V c i:Nat):(qV B q V c i+q*(V/B^i%B))/B=qV B q V c (i+1):=by rw[aDu hB,lg,<-dH];rfl
theorem aN4(hB:0<B)(q V c i:Nat):(qV B q V c i+q*(V/B^i%B))%B=(q*V+c)/B^i%B:=by
 rw[aDu hB];have h1:=jy V (B^(i+1));have h2:q*V+c=(q*(V%B^(i+1))+c)+q*(V/B^(i+1))*B*B^i:=by
  have e:q*(V/B^(i+1))*B*B^i=q*(B^(i+1)*(V/B^(i+1))):=by rw[dH];simp only[cX,nt,gh]
  rw[e];have h3:q*V=q*(B^(i+1)*(V/B^(i+1)))+q*(V%B^(i+1)):=by rw[<-o9,h1]
  omega
 conv=>rhs;rw[h2]
 rw[pN _ _ (cO hB),Dv]
theorem aDv(hB:0<B){c:Nat}(hq:q<B)(hc:c<=q)(V i:Nat):qV B q V c i<=q:=by
 unfold qV;have hp:0<B^i:=cO hB;have h1:V%B^i<B^i:=cP _ hp;have h2:=jN q (show V%B^i+1<=B^i from h1);rw[o9,gP]at h2;have h3:q*(V%B^i)+c<(q+1)*B^i:=by rw[fP,qB];omega
 have:=(iQ hp).2 h3;omega
theorem aN5{c V n:Nat}(hV:V<B^n):qV B q V c n=(q*V+c)/B^n:=by unfold qV;rw[dW hV]
theorem aN6(hB:0<B)(b9:b<=a)(i:Nat):
  (a-b)/B^i%B=if a/B^i%B<b/B^i%B+lh B a b i then a/B^i%B+B-b/B^i%B-lh B a b i else a/B^i%B-b/B^i%B-lh B a b i:=by
 rw[<-S4 hB b9 i];have hx:=iu hB a i;have hy:=iu hB b i;have hc:=NO (B:=B) a b i;generalize a/B^i%B=x at *;generalize b/B^i%B=y at *;generalize lh B a b i=c at *;by_cases h:x<y+c
 ·rw[aB h,show x+2*B-y-c=(x+B-y-c)+B by omega,KA,dW o_]
 ·rw[az h,show x+2*B-y-c=(x-y-c)+B+B by omega,KA,KA,dW o_]
def r5(B p x b i k:Nat):Nat:=(p%B^(i+k)+x*(b%B^k)*B^i)/B^(i+k)
theorem aN7{p x:Nat}(hB:0<B):r5 B p x b i 0=0:=by unfold r5;rw[sS,uf,Nat.mul_zero,kQ,jg,jg];exact mH (cP _ (cO hB))
theorem aDw(hB:0<B)(p x b i k:Nat):r5 B p x b i k+(p/B^(i+k)%B+x*(b/B^k%B))=(p%B^(i+k+1)+x*(b%B^(k+1))*B^i)/B^(i+k):=by
 unfold r5;rw[<-pN _ _ (cO hB),pM p,pM b]
 congr 1
 rw[o9,fP,fP,eU];have:x*(b/B^k%B*B^k)*B^i=x*(b/B^k%B)*(B^i*B^k):=by simp only[cX,nt]
 omega
theorem aN8(hB:0<B)(p x b i k:Nat):(r5 B p x b i k+(p/B^(i+k)%B+x*(b/B^k%B)))/B=r5 B p x b i (k+1):=by rw[aDw hB,lg,<-dH];rfl
theorem aN9(hB:0<B)(p x b i k:Nat):(r5 B p x b i k+(p/B^(i+k)%B+x*(b/B^k%B)))%B=(p+x*b*B^i)/B^(i+k)%B:=by
 rw[aDw hB];have h1:=jy p (B^(i+k+1));have h2:=jy b (B^(k+1));have h3:p+x*b*B^i=(p%B^(i+k+1)+x*(b%B^(k+1))*B^i)+(p/B^(i+k+1)+x*(b/B^(k+1)))*B*B^(i+k):=by
  have e1:(p/B^(i+k+1)+x*(b/B^(k+1)))*B*B^(i+k)=B^(i+k+1)*(p/B^(i+k+1))+x*(B^(k+1)*(b/B^(k+1)))*B^i:=by
   rw[fP,fP]
   congr 1
   ·rw[dH];simp only[cX,nt,gh]
   ·rw[dH,eU];simp only[cX,nt,gh]
  have e2:x*b*B^i=x*(B^(k+1)*(b/B^(k+1)))*B^i+x*(b%B^(k+1))*B^i:=by rw[<-fP,<-o9,h2]
  rw[e1];omega
 conv=>rhs;rw[h3]
 rw[pN _ _ (cO hB),Dv]
theorem aDx(hB:0<B){x:Nat}(hx:x<B)(p b i k:Nat):r5 B p x b i k<B:=by
 unfold r5;have hp:0<B^(i+k):=cO hB;rw[iQ hp];have h1:p%B^(i+k)<B^(i+k):=cP _ hp;have h2:b%B^k<B^k:=cP _ (cO hB);have h3:x*(b%B^k)*B^i<=x*B^(i+k):=by rw[gh,eU];refine jN _ ?_;rw[cX];exact jN _ (j5 h2)
 have h4:=eE (B^(i+k)) (show x+1<=B from hx);rw[fP,qB]at h4;omega
theorem aOa{p x:Nat}(hp:p<B^(i+m))(hb:b<B^m):r5 B p x b i m=(p+x*b*B^i)/B^(i+m):=by unfold r5;rw[dW hp,dW hb]
end
section
variable{Bs:aa}{n m a b:Nat}
def GF(n m a b i:Nat):aT:=[(7,vI i),(0,sl 0 n),(1,sl 1 m),(5,sl 2 n),(6,vI (lh bz a b i))]
def AB(n m a b i:Nat):aM:=[(0,.view (av (ae bz n a))),(1,.view (av (ae bz m b))),(2,.row (av (eT bz n i (a-b))) 3 1)]
theorem aDy{x y:Int}(h:-4611686018427387904<=x)(h2:x<=4611686018427387903)(h3:-4611686018427387904<=y)(h4:y<=4611686018427387904):IntKind.i64.wrap (x-y)=x-y:=by rw[eh];omega
theorem aOb{x y:Int}(h:-4611686018427387904<=x)(h2:x<=4611686018427387903)(h3:-4611686018427387904<=y)(h4:y<=4611686018427387904):IntKind.i64.wrap (x+y)=x+y:=by rw[eh];omega
theorem aOc(b9:b<=a)(hi:i<n)(hb:b<bz^m)(h63:n<35184372088832):
  ah prog Bs 44 (aI (ag f135 0)) (GF n m a b i) (AB n m a b i) 3 ⟨.normal,GF n m a b (i+1),AB n m a b (i+1),3⟩:=by
 have hx:=iu (B:=bz) d_ a i;have hy:=iu (B:=bz) d_ b i;have hc:=NO (B:=bz) a b i;have hs:=aN6 (B:=bz) d_ b9 i;have dq:=S3 (B:=bz) d_ a b i;have bT:=L6 (n:=n) (i:=i) (s:=a-b) hi rfl;have lB:dM prog 3 (av (ae bz n a)) i=some (vI (a/bz^i%bz)):=ew (eR hi);have lL:i<m->dM prog 3 (av (ae bz m b)) i=some (vI (b/bz^i%bz)):=λjZ=>ew (eR jZ);have lp:¬i<m->b/bz^i%bz=0:=λjZ=>rH hb o_ d_;have kf:bz=16777216:=rfl;unfold GF AB;generalize av (eT bz n (i+1) (a-b))=r1 at *;generalize av (eT bz n i (a-b))=r0 at *;generalize av (ae bz n a)=ra at *;generalize av (ae bz m b)=rb at *;generalize lh bz a b (i+1)=c' at *;generalize lh bz a b i=c at *;generalize (a-b)/bz^i%bz=z at *;generalize a/bz^i%bz=x at *;generalize b/bz^i%bz=y at *;have w1:IntKind.i64.wrap ((x:Int)-(c:Int))=(x:Int)-(c:Int):=aDy o_ o_ o_ o_;have w2:IntKind.i64.wrap (((x:Int)-(c:Int))-(y:Int))=(x:Int)-(c:Int)-(y:Int):=aDy o_ o_ o_ o_;have tail:∀ d:Int,d=(x:Int)-c-y->(∃ t,decide (d<0)=t/\(t=true->IntKind.i64.wrap (d+16777216)=(z:Int)/\c'=1)/\(t=false->d=(z:Int)/\c'=0)):=by
  intro d hd;by_cases h:x<y+c
  ·rw[aB h]at hs dq;refine⟨true,aJ o_,λ_=>⟨?_,dq.symm⟩,λe=>by cases e⟩;rw[aOb o_ o_ o_ o_];omega
  ·rw[az h]at hs dq;exact⟨false,bd o_,n_,λ_=>⟨by omega,dq.symm⟩⟩
 by_cases jZ:i<m
 ·have lL:=lL jZ;obtain⟨t,ht,h1,h2⟩:=tail _ rfl;cases t with
  |true=>
   obtain⟨q1,q2⟩:=h1 rfl;subst q2;exact aD [.lt 15 i n true (by simp[hi]),.ix f135 20 0 n i hi k_,.ld f135 21 3 0 i (.view ra) (vI x) rfl lB k_,.wr 23 .i64 ((x:Int)-(c:Int)) _ w1,.lt 27 i m true (by simp[jZ]),.ix f135 31 1 m i jZ k_,.ld f135 32 3 1 i (.view rb) (vI y) rfl lL k_,.wr 33 .i64 ((x:Int)-(c:Int)-(y:Int)) _ w2,.rw 35 (.bool (decide ((x:Int)-(c:Int)-(y:Int)<0))) b_ (by rw[ht]),.wr 37 .i64 _ (z:Int) q1,.ix f135 41 2 n i hi k_,.st f135 100041 3 2 i (.row r0 3 1) (vI z) (.row r1 3 1) rfl bT rfl k_,.sum 17 i 1 (i+1) rfl o_]
  |false=>
   obtain⟨q1,q2⟩:=h2 rfl;subst q2;exact aD [.lt 15 i n true (by simp[hi]),.ix f135 20 0 n i hi k_,.ld f135 21 3 0 i (.view ra) (vI x) rfl lB k_,.wr 23 .i64 ((x:Int)-(c:Int)) _ w1,.lt 27 i m true (by simp[jZ]),.ix f135 31 1 m i jZ k_,.ld f135 32 3 1 i (.view rb) (vI y) rfl lL k_,.wr 33 .i64 ((x:Int)-(c:Int)-(y:Int)) (z:Int) (w2.trans q1),.rw 35 (.bool (decide ((z:Int)<0))) a_ (by rw[<-q1,ht]),.ix f135 41 2 n i hi k_,.st f135 100041 3 2 i (.row r0 3 1) (vI z) (.row r1 3 1) rfl bT rfl k_,.sum 17 i 1 (i+1) rfl o_]
 ·have xx:=lp jZ;subst xx;obtain⟨t,ht,h1,h2⟩:=tail ((x:Int)-c) o_;cases t with
  |true=>
   obtain⟨q1,q2⟩:=h1 rfl;subst q2;exact aD [.lt 15 i n true (by simp[hi]),.ix f135 20 0 n i hi k_,.ld f135 21 3 0 i (.view ra) (vI x) rfl lB k_,.wr 23 .i64 ((x:Int)-(c:Int)) _ w1,.lt 27 i m false (by simp[jZ]),.rw 35 (.bool (decide ((x:Int)-(c:Int)<0))) b_ (by rw[ht]),.wr 37 .i64 _ (z:Int) q1,.ix f135 41 2 n i hi k_,.st f135 100041 3 2 i (.row r0 3 1) (vI z) (.row r1 3 1) rfl bT rfl k_,.sum 17 i 1 (i+1) rfl o_]
  |false=>
   obtain⟨q1,q2⟩:=h2 rfl;subst q2;exact aD [.lt 15 i n true (by simp[hi]),.ix f135 20 0 n i hi k_,.ld f135 21 3 0 i (.view ra) (vI x) rfl lB k_,.wr 23 .i64 ((x:Int)-(c:Int)) (z:Int) (w1.trans q1),.lt 27 i m false (by simp[jZ]),.rw 35 (.bool (decide ((z:Int)<0))) a_ (by rw[<-q1,ht]),.ix f135 41 2 n i hi k_,.st f135 100041 3 2 i (.row r0 3 1) (vI z) (.row r1 3 1) rfl bT rfl k_,.sum 17 i 1 (i+1) rfl o_]
theorem aOd(b9:b<=a)(hb:b<bz^m)(h63:n<35184372088832):
  ah prog Bs 44 (.block 0 (ag f135 0)) (GF n m a b 0) (AB n m a b 0) 3 ⟨.normal,GF n m a b n,AB n m a b n,3⟩:=
 cd (cx (b:=aI (ag f135 0)) (r:=⟨.exit 0,GF n m a b n,AB n m a b n,3⟩) n (GF n m a b) (AB n m a b) (λi k _=>kk (l:=AB n m a b i) (m:=AB n m a b 0) rfl k) (λi hi=>aOc b9 hi hb h63)
  (aD [.lt 15 n n false s_]) n_)
end
theorem aOe(b9:b<=a)(h1:nd bz a<35184372088832):lO prog 135 [jT a,jT b] 3 1 (nd bz (a-b)) (cJ (a-b)):=by
 have ha:=eB (B:=bz) d_ a;have hb:=eB (B:=bz) d_ b;have aC:([jT a,jT b].all aP.ok)=true:=by simp[I0]
 unfold jT cJ at aC ⊢;change lO _ _ _ _ _ _ (cJ (a-b));generalize nd bz a=n at *;generalize nd bz b=m at *;have hs:a-b<bz^n:=eZ (FH _ _) ha;have lo:=λBs=>aOd (Bs:=Bs) (n:=n) (m:=m) b9 hb h1;unfold AB at lo;rw[Hz]at lo;exact L4 (k:=2) mixed func135 aC 100 (N:=44) k_ (λw=>[.qy f135 11 2 n 3 8 (vI 0) (av (eT bz n 0 (a-b))) (Wb _ _) rfl rfl o_ (by simp[maxLen];omega) k_,.rw 6 (.int .i64 0) (vI (lh bz a b 0)) (by rw[S2];rfl),.code 0 _ _ _ _ _ (lo _),.Ed f135 43 2 n (a-b) (.row (av (ae bz n (a-b))) 3 1) rfl rfl hs o_ k_])
   (λw=>k_) (iJ _) (GC hs) (CA hs)
section
variable{Bs:aa}{n a c:Nat}
def GG(n a c i:Nat):aT:=[(7,vI i),(0,sl 0 n),(5,sl 1 (n+1)),(6,vI (qV bz 2 a c i))]
def CC(n a c i:Nat):aM:=[(0,.view (av (ae bz n a))),(1,.row (av (eT bz (n+1) i (2*a+c))) 3 1)]
theorem aOf(hc:c<=2)(hi:i<n)(h63:n<35184372088832):
  ah prog Bs 40 (aI (ag f136 0)) (GG n a c i) (CC n a c i) 2 ⟨.normal,GG n a c (i+1),CC n a c (i+1),2⟩:=by
 have hx:=iu (B:=bz) d_ a i;have gM:=aDv (B:=bz) d_ (q:=2) d_ hc a i;have hs:=aN4 (B:=bz) d_ 2 a c i;have dq:=aN3 (B:=bz) d_ 2 a c i;have bT:=L6 (n:=n+1) (i:=i) (s:=2*a+c) o_ rfl;have lB:dM prog 3 (av (ae bz n a)) i=some (vI (a/bz^i%bz)):=ew (eR hi);have kf:bz=16777216:=rfl;unfold GG CC;generalize av (eT bz (n+1) (i+1) (2*a+c))=r1 at *;generalize av (eT bz (n+1) i (2*a+c))=r0 at *;generalize av (ae bz n a)=ra at *;generalize qV bz 2 a c (i+1)=c' at *;generalize qV bz 2 a c i=g at *;generalize (2*a+c)/bz^i%bz=z at *;generalize a/bz^i%bz=x at *;exact aD [.lt 16 i n true (by simp[hi]),.ix f136 22 0 n i hi k_,.ld f136 23 3 0 i (.view ra) (vI x) rfl lB k_,.tE 24 2 x (2*x) rfl o_,.sum 25 g (2*x) (g+2*x) rfl o_,.GA 29 (g+2*x) bz z hs.symm,.ix f136 30 1 (n+1) i o_ k_,.st f136 100030 3 1 i (.row r0 3 1) (vI z) (.row r1 3 1) rfl bT rfl k_,.GB 32 (g+2*x) bz c' dq.symm o_,.sum 18 i 1 (i+1) rfl o_]
theorem aOg(hc:c<=2)(h63:n<35184372088832):
  ah prog Bs 40 (.block 0 (ag f136 0)) (GG n a c 0) (CC n a c 0) 2 ⟨.normal,GG n a c n,CC n a c n,2⟩:=
 cd (cx (b:=aI (ag f136 0)) (r:=⟨.exit 0,GG n a c n,CC n a c n,2⟩) n (GG n a c) (CC n a c) (λi k _=>kk (l:=CC n a c i) (m:=CC n a c 0) rfl k) (λi hi=>aOf hc hi h63)
  (aD [.lt 16 n n false s_]) n_)
end
theorem aOh{c:Nat}(hc:c<=1)(h1:nd bz a<35184372088832):lO prog 136 [jT a,.p (vI c)] 3 1 (nd bz (2*a+c)) (cJ (2*a+c)):=by
 have ha:=eB (B:=bz) d_ a;have aC:([jT a,aP.p (vI c)].all aP.ok)=true:=by simp[I0];rfl
 unfold jT cJ at aC ⊢;change lO _ _ _ _ _ _ (cJ (2*a+c));generalize nd bz a=n at *;have hs:2*a+c<bz^(n+1):=by have h1:bz^n*2<=bz^n*bz:=jN _ d_;rw[dH];omega
 have bT:fp prog 3 (av (eT bz (n+1) n (2*a+c))) n (vI (qV bz 2 a c n))=some (av (ae bz (n+1) (2*a+c))):=by have h1:=aDv (B:=bz) d_ (q:=2) d_ (show c<=2 by omega) a n;have h2:=aN5 (B:=bz) (q:=2) (c:=c) ha;have kf:bz=16777216:=rfl;rw[L6 (BO n) (by rw[<-h2];exact(dW o_).symm),Hz]
 exact L4 (k:=1) mixed func136 aC 100 (N:=40) k_ (λw=>[.sum 10 n 1 (n+1) rfl o_,.qy f136 11 1 (n+1) 3 8 (vI 0) (av (eT bz (n+1) 0 (2*a+c))) (Wb _ _) rfl rfl o_ (by simp[maxLen];omega) k_,.rw 6 (vI c) (vI (qV bz 2 a c 0)) (by rw[aN2]),.code 0 _ _ _ _ _ (aOg (a:=a) (c:=c) o_ h1),.ix f136 37 1 (n+1) n o_ k_,.st f136 100037 3 1 n (.row (av (eT bz (n+1) n (2*a+c))) 3 1) (vI (qV bz 2 a c n)) (.row (av (ae bz (n+1) (2*a+c))) 3 1) rfl bT rfl k_,.Ed f136 39 1 (n+1) (2*a+c) (.row (av (ae bz (n+1) (2*a+c))) 3 1) rfl rfl hs o_ k_])
   (λw=>k_) (iJ _) (GC hs) (CA hs)
section
variable{Bs:aa}{n m a b:Nat}
def wR(n m a b i k:Nat):ak:=av (dc bz (n+m) (i+k) (part bz a b (i+1) 0) (part bz a b i 0))
def Ef(n m a b i k:Nat):aT:=[(8,vI k),(7,vI (r5 bz (part bz a b i 0) (a/bz^i%bz) b i k)),(6,vI i),(0,sl 0 n),(1,sl 1 m),(5,sl 2 (n+m))]
def AD(n m a b i k:Nat):aM:=[(0,.view (av (ae bz n a))),(1,.view (av (ae bz m b))),(2,.row (wR n m a b i k) 3 1)]
theorem Wc(i:Nat):part bz a b (i+1) 0=part bz a b i 0+a/bz^i%bz*b*bz^i:=by
 rw[Dc,Dc,pM,fP]
 congr 1
 simp only[cX,nt]
theorem aDz(hb:b<bz^m):part bz a b i 0<bz^(i+m):=by rw[Dc,eU];exact qA (cP _ (cO d_)) hb
theorem aOi(hi:i<n)(hk:k<m)(h63:n+m<35184372088832):
  ah prog Bs 63 (aI (ag f120 2)) (Ef n m a b i k) (AD n m a b i k) 3 ⟨.normal,Ef n m a b i (k+1),AD n m a b i (k+1),3⟩:=by
 have hx:=iu (B:=bz) d_ a i;have hy:=iu (B:=bz) d_ b k;have hr:=iu (B:=bz) d_ (part bz a b i 0) (i+k);have gM:=aDx (B:=bz) d_ hx (part bz a b i 0) b i k;have hs:=aN9 (B:=bz) d_ (part bz a b i 0) (a/bz^i%bz) b i k;rw[<-Wc]at hs;have dq:=aN8 (B:=bz) d_ (part bz a b i 0) (a/bz^i%bz) b i k;have lB:dM prog 3 (av (ae bz n a)) i=some (vI (a/bz^i%bz)):=ew (eR hi);have lL:dM prog 3 (av (ae bz m b)) k=some (vI (b/bz^k%bz)):=ew (eR hk);have hlr:dM prog 3 (wR n m a b i k) (i+k)=some (vI (part bz a b i 0/bz^(i+k)%bz)):=ew (Db o_ (bF _));have bT:fp prog 3 (wR n m a b i k) (i+k) (vI (part bz a b (i+1) 0/bz^(i+k)%bz))=some (wR n m a b i (k+1)):=by unfold wR;rw[wP (by rw[xu];omega),zz o_ rfl];rfl
 have kf:bz=16777216:=rfl;unfold Ef AD;generalize wR n m a b i (k+1)=r1 at *;generalize wR n m a b i k=r0 at *;generalize av (ae bz n a)=ra at *;generalize av (ae bz m b)=rb at *;generalize r5 bz (part bz a b i 0) (a/bz^i%bz) b i (k+1)=c' at *;generalize r5 bz (part bz a b i 0) (a/bz^i%bz) b i k=g at *;generalize part bz a b (i+1) 0/bz^(i+k)%bz=z at *;generalize part bz a b i 0/bz^(i+k)%bz=r at *;generalize a/bz^i%bz=x at *;generalize b/bz^k%bz=y at *;have kR:x*y<bz*bz:=qA hx hy;rw[kf]at kR;generalize hp:x*y=p at *;exact aD [.lt 24 k m true (by simp[hk]),.sum 31 i k (i+k) rfl o_,.ix f120 32 2 (n+m) (i+k) o_ k_,.ld f120 33 3 2 (i+k) (.row r0 3 1) (vI r) rfl hlr k_,.ix f120 36 0 n i hi k_,.ld f120 37 3 0 i (.view ra) (vI x) rfl lB k_,.ix f120 40 1 m k hk k_,.ld f120 41 3 1 k (.view rb) (vI y) rfl lL k_,.tE 42 x y p hp.symm o_,.sum 43 r p (r+p) rfl o_,.sum 44 g (r+p) (g+(r+p)) rfl o_,.sum 48 i k (i+k) rfl o_,.GA 50 (g+(r+p)) bz z hs.symm,.ix f120 51 2 (n+m) (i+k) o_ k_,.st f120 100051 3 2 (i+k) (.row r0 3 1) (vI z) (.row r1 3 1) rfl bT rfl k_,.GB 53 (g+(r+p)) bz c' dq.symm o_,.sum 26 k 1 (k+1) rfl o_]
theorem aOj(hi:i<n)(h63:n+m<35184372088832):
  ah prog Bs 63 (.block 2 (ag f120 2)) (Ef n m a b i 0) (AD n m a b i 0) 3 ⟨.normal,Ef n m a b i m,AD n m a b i m,3⟩:=
 cd (id:=2) (cx (b:=aI (ag f120 2)) (r:=⟨.exit 2,Ef n m a b i m,AD n m a b i m,3⟩) m (Ef n m a b i) (AD n m a b i) (λk j _=>kk (l:=AD n m a b i k) (m:=AD n m a b i 0) rfl j) (λk hk=>aOi hi hk h63)
  (aD [.lt 24 m m false s_]) n_)
def Eg(n m a b i:Nat):ak:=av (ae bz (n+m) (part bz a b i 0))
def GH(n m i:Nat):aT:=[(6,vI i),(0,sl 0 n),(1,sl 1 m),(5,sl 2 (n+m))]
def AE(n m a b i:Nat):aM:=[(0,.view (av (ae bz n a))),(1,.view (av (ae bz m b))),(2,.row (Eg n m a b i) 3 1)]
theorem aOk(i:Nat):wR n m a b i 0=Eg n m a b i:=by unfold wR Eg;rw[Wc,jg,ZH d_]
theorem aOl(hi:i<n)(hb:b<bz^m)(h63:n+m<35184372088832):
  ah prog Bs 63 (aI (ag f120 0)) (GH n m i) (AE n m a b i) 3 ⟨.normal,GH n m (i+1),AE n m a b (i+1),3⟩:=by
 have lo:=aOj (Bs:=Bs) (a:=a) (b:=b) hi h63;unfold Ef AD at lo;rw[aOk,aN7 d_]at lo;have hp:=aDz (a:=a) (i:=i) hb;have iY:=aDz (a:=a) (i:=i+1) hb;have he:=aOa (x:=a/bz^i%bz) hp hb;rw[<-Wc]at he;have hc:=aDx (B:=bz) d_ (iu (B:=bz) d_ a i) (part bz a b i 0) b i m;have bT:fp prog 3 (wR n m a b i m) (i+m) (vI (r5 bz (part bz a b i 0) (a/bz^i%bz) b i m))=some (Eg n m a b (i+1)):=by
  unfold wR Eg;have e:i+1+m=i+m+1:=by omega
  rw[e]at iY;rw[wP (by rw[xu];omega),zz o_ (by rw[he];rw[he]at hc;exact(dW hc).symm),FD d_ (cF hp (di d_ (zk _))) iY]
 unfold GH AE;generalize Eg n m a b (i+1)=r1 at *;generalize Eg n m a b i=r0 at *;generalize wR n m a b i m=r2 at *;generalize r5 bz (part bz a b i 0) (a/bz^i%bz) b i m=c at *;generalize av (ae bz n a)=ra at *;generalize av (ae bz m b)=rb at *;exact aD [.lt 18 i n true (by simp[hi]),.code 2 _ _ _ _ _ lo,.sum 58 i m (i+m) rfl o_,.ix f120 60 2 (n+m) (i+m) o_ k_,.st f120 100060 3 2 (i+m) (.row r2 3 1) (vI c) (.row r1 3 1) rfl bT rfl k_,.sum 20 i 1 (i+1) rfl o_]
theorem aOm(hb:b<bz^m)(h63:n+m<35184372088832):
  ah prog Bs 63 (.block 0 (ag f120 0)) (GH n m 0) (AE n m a b 0) 3 ⟨.normal,GH n m n,AE n m a b n,3⟩:=
 cd (cx (b:=aI (ag f120 0)) (r:=⟨.exit 0,GH n m n,AE n m a b n,3⟩) n (GH n m) (AE n m a b) (λk j _=>kk (l:=AE n m a b k) (m:=AE n m a b 0) rfl j) (λk hk=>aOl hk hb h63)
  (aD [.lt 18 n n false s_]) n_)
end
theorem Wd(h63:nd bz a+nd bz b<35184372088832):lO prog 120 [jT a,jT b] 3 1 (nd bz (a*b)) (cJ (a*b)):=by
 have ha:=eB (B:=bz) d_ a;have hb:=eB (B:=bz) d_ b;have aC:([jT a,jT b].all aP.ok)=true:=by simp[I0]
 unfold jT cJ at aC ⊢;change lO _ _ _ _ _ _ (cJ (a*b));generalize nd bz a=n at *;generalize nd bz b=m at *;have hs:a*b<bz^(n+m):=by rw[eU];exact qA ha hb
 have lo:=λBs=>aOm (Bs:=Bs) (n:=n) (a:=a) hb h63;unfold AE Eg at lo;rw[Dc,Dc,dW ha,sS,uf,kQ]at lo;have hz:List.replicate (n+m) (vI 0)=av (ae bz (n+m) 0):=by
  rw[LR]
  congr 1
  unfold ae;symm;rw[List.eq_replicate_iff];simp
 exact L4 (k:=2) mixed func120 aC 100 (N:=63) k_ (λw=>[.sum 13 n m (n+m) rfl o_,.qy f120 14 2 (n+m) 3 8 (vI 0) (av (ae bz (n+m) 0)) hz rfl rfl o_ (by simp[maxLen];omega) k_,.code 0 _ _ _ _ _ (lo _),.Ed f120 62 2 (n+m) (a*b) (.row (av (ae bz (n+m) (a*b))) 3 1) rfl rfl hs o_ k_])
   (λw=>k_) (iJ _) (GC hs) (CA hs)
theorem yr(cells:ak)(i:Nat)(h:cells[i]?=some (.int .u8 z)):dM prog 5 cells i=some (.int .u8 z):=by
 have e:dM prog 5 cells i=cells[i+0]?:=by kernel_rfl
 rw[e,jg,h]
theorem aOn(cells:ak)(i:Nat)(z:Int)(h:i<cells.length):fp prog 5 cells i (.int .u8 z)=some (cells.set i (.int .u8 z)):=by
 have e:fp prog 5 cells i (.int .u8 z)=if(Nat.ble (i+1) cells.length&&true)then some (jf cells i [.int .u8 z])else none:=by kernel_rfl
 rw[e,Sr h];rfl
section
variable{Bs:aa}{n a:Nat}
def uE(n a i:Nat):ak:=hY (List.replicate (3*n-i) 0++gT i a)
def GI(n i:Nat):aT:=[(4,vI i),(0,sl 0 n),(3,sl 1 (3*n))]
def AF(n a i:Nat):aM:=[(0,.view (av (ae bz n a))),(1,.row (uE n a i) 5 1)]
theorem aOo(hi:i<3*n):(uE n a i).set (3*n-1-i) (vb (a/256^i%256))=uE n a (i+1):=by
 unfold uE;rw[xE,show 3*n-i=(3*n-1-i)+1 by omega,show 3*n-(i+1)=3*n-1-i by omega,List.replicate_succ',E9];generalize 3*n-1-i=k;unfold hY;rw[sF,sF,VN _ _ s_];simp only[dQ,I2,wi,sF,oZ,Tv,Dt,ju,List.set_cons_zero]
 congr 2
 rw[Oa,dW (cP _ d_)];rfl
theorem aOp(i:Nat)(hi:i<=3*n):(uE n a i).length=3*n:=by unfold uE;rw[FA,lF,I2,Ky];omega
theorem aOq:a/bz^(i/3)%bz/2^(8*(i%3))%256=a/256^i%256:=by
 have e1:bz^(i/3)=256^(3*(i/3)):=by rw[show bz=256^3 from I1,<-sT]
 have e2:(2:Nat)^(8*(i%3))=256^(i%3):=by rw[sT]
 have e3:256^i=256^(3*(i/3))*256^(i%3):=by rw[<-eU];congr 1;omega
 rw[e1,e2,e3,<-lg];generalize a/256^(3*(i/3))=c;have e4:bz=256^(i%3)*(256*256^(2-i%3)):=by rw[show bz=256^3 from I1,<-Nat.pow_succ',<-eU];congr 1;omega
 rw[e4,BC,Kp]
theorem aOr(hi:i<3*n)(h63:n<35184372088832):
  ah prog Bs 45 (aI (ag f162 0)) (GI n i) (AF n a i) 2 ⟨.normal,GI n (i+1),AF n a (i+1),2⟩:=by
 have hx:=iu (B:=bz) d_ a (i/3);have hb:=aOq (a:=a) (i:=i);have lB:dM prog 3 (av (ae bz n a)) (i/3)=some (vI (a/bz^(i/3)%bz)):=ew (eR o_);have bT:fp prog 5 (uE n a i) (3*n-1-i) (vb (a/256^i%256))=some (uE n a (i+1)):=by unfold vb;rw[aOn _ _ _ (by rw[aOp _ o_];omega)];exact cS some (aOo hi)
 unfold GI AF;generalize uE n a (i+1)=r1 at *;generalize uE n a i=r0 at *;generalize av (ae bz n a)=ra at *;generalize a/256^i%256=z at *;generalize a/bz^(i/3)%bz=x at *;have vK:(x:Int).fdiv (2^(min (8*(i%3)) IntKind.i64.bits))=((x/2^(8*(i%3)):Nat):Int):=by rw[show min (8*(i%3)) IntKind.i64.bits=8*(i%3)from oz (show 8*(i%3)<=64 by omega),sR _ (HR d_),ug,HT];rfl
 generalize x/2^(8*(i%3))=y at *;exact aD [.lt 12 i (3*n) true (by simp[hi]),.fq 18 (3*n) 1 (3*n-1) o_ o_,.fq 20 (3*n-1) i (3*n-1-i) o_ o_,.GB 23 i 3 (i/3) rfl o_,.ix f162 24 0 n (i/3) o_ k_,.ld f162 25 3 0 (i/3) (.view ra) (vI x) rfl lB k_,.GA 27 i 3 (i%3) rfl,.tE 28 8 (i%3) (8*(i%3)) rfl o_,.shr f162 29 .i64 (x:Int) (y:Int) (8*(i%3)) vK k_,.wr 30 .u8 (y:Int) (z:Int) (by rw[aAr];omega),.ix f162 31 1 (3*n) (3*n-1-i) o_ k_,.st f162 100031 5 1 (3*n-1-i) (.row r0 5 1) (vb z) (.row r1 5 1) rfl bT rfl k_,.sum 14 i 1 (i+1) rfl o_]
theorem We(h63:n<35184372088832):ah prog Bs 45 (.block 0 (ag f162 0)) (GI n 0) (AF n a 0) 2 ⟨.normal,GI n (3*n),AF n a (3*n),2⟩:=
 cd (id:=0) (cx (b:=aI (ag f162 0)) (r:=⟨.exit 0,GI n (3*n),AF n a (3*n),2⟩) (3*n) (GI n) (AF n a) (λk j _=>kk (l:=AF n a k) (m:=AF n a 0) rfl j) (λk hk=>aOr hk h63)
  (aD [.lt 12 (3*n) (3*n) false s_]) n_)
def yt(L i:Nat):aT:=[(3,.slice (some ⟨1,i*1,some 7⟩) (L-i) i)]
def yu(L a:Nat):aM:=[(1,.row (hY (gT L a)) 5 1)]
theorem Wf{a:Nat}(h:a<256^L):gT L a=List.replicate (L-nd 256 a) 0++cM a:=by have hle:=jw (B:=256) d_ h;have:=aAi (n:=nd 256 a) (k:=L-nd 256 a) (eB (B:=256) d_ a);rw[show L-nd 256 a+nd 256 a=L by omega]at this;exact this
theorem aOs(h:a<256^L)(h0:a≠0)(hi:i<L-nd 256 a)(h63:L<9223372036854775807):
  ah prog Bs 45 (aI (ag f162 2)) (yt L i) (yu L a) 2 ⟨.normal,yt L (i+1),yu L a,2⟩:=by
 have hp:=xq (B:=256) d_ h0;have jl:dM prog 5 (hY (gT L a)) i=some (vb 0):=yr _ _ (by rw[Wf h,Od,J3 (by rw[FA];simpa using hi)];simp[hY,hi])
 unfold yt yu;generalize hY (gT L a)=r0 at *;obtain⟨m,hm⟩:∃ m,L-i=m+1:=⟨L-i-1,by omega⟩;have dI:L-(i+1)=m:=by omega
 rw[hm,dI];have e1:i*1=i:=gP i;exact aD [.gt 34 (m+1) 0 true s_,.qa f162 37 1 i (m+1) i 0 i 1 o_ (jg i) k_,.ld f162 38 5 1 (i*1) (.row r0 5 1) (vb 0) rfl (by rw[e1];exact jl) k_,.gO 39 0 0 true rfl,.next f162 42 1 i m 1 o_ k_]
theorem aOt(h:a<256^L)(h0:a≠0)(hi:i=L-nd 256 a)(h63:L<9223372036854775807):
  ah prog Bs 45 (aI (ag f162 2)) (yt L i) (yu L a) 2 ⟨.exit 2,yt L i,yu L a,2⟩:=by
 have hp:=xq (B:=256) d_ h0;have hle:=jw (B:=256) d_ h;obtain⟨c,l,hc,qt⟩:=Ob h0;have jl:dM prog 5 (hY (gT L a)) i=some (vb c.toNat):=yr _ _ (by rw[Wf h,Od,E2 (by rw[FA];simp;omega),FA,hc,hi];simp[hY])
 have bw:c.toNat≠0:=λe=>qt (N3.1 e);unfold yt yu;generalize hY (gT L a)=r0 at *;obtain⟨m,hm⟩:∃ m,L-i=m+1:=⟨L-i-1,by omega⟩;rw[hm];have e1:i*1=i:=gP i;generalize c.toNat=d at *;exact aD [.gt 34 (m+1) 0 true s_,.qa f162 37 1 i (m+1) i 0 i 1 o_ (jg i) k_,.ld f162 38 5 1 (i*1) (.row r0 5 1) (vb d) rfl (by rw[e1];exact jl) k_,.gO 39 d 0 false (bd bw)]
theorem aOu(h:a<256^L)(h0:a≠0)(h63:L<9223372036854775807):
  ah prog Bs 45 (.block 2 (ag f162 2)) (yt L 0) (yu L a) 2 ⟨.normal,yt L (L-nd 256 a),yu L a,2⟩:=
 cd (id:=2) (cx (b:=aI (ag f162 2)) (r:=⟨.exit 2,yt L (L-nd 256 a),yu L a,2⟩) (L-nd 256 a) (yt L) (λ_=>yu L a) (λ_ _ _=>Iff.rfl) (λk hk=>aOs h h0 hk h63)
  (aOt h h0 rfl h63) n_)
end
theorem aOv{n:Nat}(ha:a<bz^n)(h0:a≠0)(h63:n<35184372088832):cy prog 162 [.r n (av (ae bz n a))] (.string (BA (cM a))):=by
 have hL:a<256^(3*n):=by rw[sT];exact ha
 have Ao:=λBs=>We (Bs:=Bs) (a:=a) h63;have wH:=λBs=>aOu (Bs:=Bs) hL h0 o_;have e0:List.replicate (3*n) (vb 0)=uE n a 0:=by unfold uE hY;simp[N9,vb]
 have e1:uE n a (3*n)=hY (gT (3*n) a):=by unfold uE;rw[wi];rfl
 have hle:=jw (B:=256) d_ hL;have ht:((hY (gT (3*n) a)).drop ((3*n-nd 256 a)*1)).take (nd 256 a)=hY (cM a):=by rw[Wf hL,Od,gP,Sb (by rw[FA];simp),kG (by rw[FA,uj];exact bF _)]
 unfold AF at Ao;rw[e1]at Ao;rw[<-e0]at Ao;unfold yu at wH;have hl:3*n-(3*n-nd 256 a)=nd 256 a:=by omega
 unfold yt at wH;rw[hl]at wH;exact jC mixed func162 (by simp[aP.ok,iJ]) 100 (N:=45) k_ (λw=>[.tE 7 3 n (3*n) rfl o_,.qy f162 8 1 (3*n) 5 1 (vb 0) (List.replicate (3*n) (vb 0)) rfl rfl rfl o_ (by simp[maxLen];omega) k_,.code 0 _ _ _ _ _ (Ao _),.code 2 _ _ _ _ _ (wH _),.aNZ f162 44 1 ((3*n-nd 256 a)*1) (nd 256 a) (3*n-nd 256 a) (cM a) (.row (hY (gT (3*n) a)) 5 1) rfl ht (uj a) k_]) (λw=>k_) rfl
theorem aOw:cy prog 162 [.r 0 (av (ae bz 0 0))] (.string (BA (cM 0))):=by have Ao:=λBs=>We (Bs:=Bs) (a:=0) (n:=0) o_;rw[Du];exact jC mixed func162 (by simp[aP.ok,iJ]) 100 (N:=45) k_ (λw=>[.tE 7 3 0 0 rfl o_,.qy f162 8 1 0 5 1 (vb 0) [] rfl rfl rfl o_ (by simp[maxLen]) k_,.code 0 _ _ _ _ _ (Ao _),.gt 34 0 0 false rfl,.Tu f162 44 1 0 [] (.row [] 5 1) rfl rfl rfl k_]) (λw=>k_) rfl
noncomputable def Eh(Bs:aa)(i m:Nat)(h:0<m)(hl:dM prog 5 (hY (List.replicate 9 0)) (i*1)=some (vb 0)):bM prog Bs 45:=[.gt 34 (m+1) 0 true s_,.qa f162 37 1 i (m+1) i 0 i 1 o_ (jg i) k_,.ld f162 38 5 1 (i*1) (.row (hY (List.replicate 9 0)) 5 1) (vb 0) rfl hl k_,.gO 39 0 0 true rfl,.next f162 42 1 i m 1 h k_]
theorem aOx:cy prog 162 [.r 3 (av (ae bz 3 0))] (.string (BA (cM 0))):=by
 have Ao:=λBs=>We (Bs:=Bs) (a:=0) (n:=3) o_;rw[Du];exact jC mixed func162 (by simp[aP.ok,iJ]) 300 (N:=45) k_ (λw=>[.tE 7 3 3 9 rfl o_,.qy f162 8 1 9 5 1 (vb 0) (List.replicate 9 (vb 0)) rfl rfl rfl o_ (by simp[maxLen]) k_,.code 0 _ _ _ _ _ (Ao _)]++(Eh _ 0 8 o_ (yr _ _ rfl)++(Eh _ 1 7 o_ (yr _ _ rfl)++(Eh _ 2 6 o_ (yr _ _ rfl)++(Eh _ 3 5 o_ (yr _ _ rfl)++(Eh _ 4 4 o_ (yr _ _ rfl)++(Eh _ 5 3 o_ (yr _ _ rfl)++(Eh _ 6 2 o_ (yr _ _ rfl)++(Eh _ 7 1 o_ (yr _ _ rfl)++
  [.gt 34 1 0 true rfl,.qa f162 37 1 8 1 8 0 8 1 o_ rfl k_,.ld f162 38 5 1 8 (.row (hY (List.replicate 9 0)) 5 1) (vb 0) rfl (yr _ _ rfl) k_,.gO 39 0 0 true rfl,.aNY f162 42 1 8 1 8 1 2 (.row (hY (List.replicate 9 0)) 5 1) rfl k_,.gt 34 0 0 false rfl,.Tu f162 44 2 0 [] (.view []) rfl rfl rfl k_]))))))))) (λw=>k_) rfl
structure Qw(n a:Nat):Prop where
 lt:a<bz^n
 z:a=0->n=0\/n=3
 h63:n<35184372088832
theorem aDA{n:Nat}(h:Qw n a):cy prog 162 [.r n (av (ae bz n a))] (.string (BA (cM a))):=by
 by_cases h0:a=0
 ·subst h0;rcases h.z rfl with rfl|rfl
  ·exact aOw
  ·exact aOx
 ·exact aOv h.lt h0 h.h63
theorem aOy(h:nd bz a<35184372088832):Qw (nd bz a) a:=⟨eB d_ a,λe=>.inl (by rw[e,oG]),h⟩
theorem aDB{n:Nat}(neg:Bool)(h:Qw n a):cy prog 117 [.p (.bool neg),.r n (av (ae bz n a))] (aX (sg neg a)):=by
 rw[<-wk];have e:(!((BA (cM a)).toList==(ByteArray.mk #[]).toList))=decide (a≠0):=by rw[qH];simp
 cases neg
 ·exact jC mixed func117 (by simp[aP.ok,iJ];rfl) 100 (N:=15) k_ (λw=>[.step 7 (au f117 7) _ _ _ _ (dD (aDA h) (.w (k:=0) (cc:=0) (x:=.view (av (ae bz n a))) rfl (iJ _) (λe=>by subst e;rfl) .nil) (x:=.func 162) k_ k_ rfl)]) (λw=>k_) rfl
 ·exact jC mixed func117 (by simp[aP.ok,iJ];rfl) 100 (N:=15) k_ (λw=>[.step 7 (au f117 7) _ _ _ _ (dD (aDA h) (.w (k:=0) (cc:=0) (x:=.view (av (ae bz n a))) rfl (iJ _) (λe=>by subst e;rfl) .nil) (x:=.func 162) k_ k_ rfl),.rw 11 (.bool (!((BA (cM a)).toList==(ByteArray.mk #[]).toList))) (.bool (decide (a≠0))) (by rw[e])]) (λw=>k_) rfl
theorem aW9(neg:Bool)(l:List UInt8):aG prog 111 [.agg #[.bool neg,.string (BA l)]] (.bool (xL neg l)):=by
 cases l with
 |nil=>exact bC func111 (λ_=>[.rw 5 (.bool ((BA []).toList==(ByteArray.mk #[]).toList)) b_ (by rw[Ft];rfl)])
 |cons c l=>
  have e:(((c.toNat:Nat):Int)!=0)=decide (c≠0):=by
   by_cases h:c=0
   ·subst h;rfl
   ·rw[aJ h,rJ];intro h2;exact h (N3.1 (by simpa using h2))
  exact bC func111 (λ_=>[.rw 5 (.bool ((BA (c::l)).toList==(ByteArray.mk #[]).toList)) a_ (by rw[Ft];rfl),.sx f111 11 (BA (c::l)) 0 c (by rw[Kq];rfl) k_,.rw 12 (.bool (((c.toNat:Nat):Int)!=0)) (.bool (decide (c≠0))) (by rw[e])])
theorem aDC(neg:Bool)(h:neg=true->m≠0):xL neg (cM m)=true:=by
 by_cases hm:m=0
 ·subst hm;rw[Du];cases neg
  ·rfl
  ·exact absurd rfl (h rfl)
 ·obtain⟨c,l,h1,h2⟩:=Ob hm;rw[h1];exact aJ h2
theorem aWO(neg:Bool)(h:neg=true->m≠0):aG prog 111 [sv neg m] b_:=by have:=aW9 neg (cM m);rw[aDC neg h]at this;exact this
theorem aXe(z:Int):aG prog 111 [aX z] b_:=
 sZ (C:=λ_ v=>aG prog 111 [v] b_) (λ_=>aWO false n_) (λ_ hm=>aWO true λ_=>hm) z
theorem aXq(h:z.natAbs<=9223372036854775808)(LP:z<9223372036854775808):aG prog 63 [.int .i64 z] (aX z):=by
 obtain⟨m,hm⟩:∃ m,m=z.natAbs:=⟨_,rfl⟩;have aWf:m<18446744073709551616:=by omega
 have hb:Qw 3 m:=⟨by
  have e:bz^3=4722366482869645213696:=by decide
  rw[e];omega,λ_=>.inr rfl,by omega⟩
 have jL:av (ae bz 3 m)=[vI (m/bz^0%bz),vI (m/bz^1%bz),vI (m/bz^2%bz)]:=rfl;have hs:=λneg=>aDB neg hb;obtain⟨x0,lv⟩:∃ x,x=m/bz^0%bz:=⟨_,rfl⟩;obtain⟨x1,vm⟩:∃ x,x=m/bz^1%bz:=⟨_,rfl⟩;obtain⟨x2,ij⟩:∃ x,x=m/bz^2%bz:=⟨_,rfl⟩;rw[<-lv,<-vm,<-ij]at jL;rw[jL]at hs;have lv:m%16777216=x0:=by rw[lv,sS,Fv]
 have vm:m/16777216%16777216=x1:=by rw[vm,BG]
 have ij:m/16777216/16777216=x2:=by rw[ij,show bz^2=16777216*16777216 by decide,<-lg];exact(dW (by show _<16777216;omega)).symm
 have u0:Int.tmod (m:Int) 16777216=(x0:Int):=by rw[zL o_];omega
 obtain⟨q,hq⟩:∃ q,q=m/16777216:=⟨_,rfl⟩;rw[<-hq]at vm ij;have uq:IntKind.u64.wrap (Int.tdiv (m:Int) 16777216)=(q:Int):=by rw[BD o_,ko];omega
 have u1:Int.tmod (q:Int) 16777216=(x1:Int):=by rw[zL o_];omega
 have u2:IntKind.u64.wrap (Int.tdiv (q:Int) 16777216)=(x2:Int):=by rw[BD o_,ko];omega
 have w0:IntKind.i64.wrap (x0:Int)=(x0:Int):=by rw[eh];omega
 have w1:IntKind.i64.wrap (x1:Int)=(x1:Int):=by rw[eh];omega
 have w2:IntKind.i64.wrap (x2:Int)=(x2:Int):=by rw[eh];omega
 have cR:∀ v∈[vI x0,vI x1,vI x2],flat v=true:=λv hv=>by simp at hv;rcases hv with rfl|rfl|rfl<;>rfl
 let tl:∀(Bs:aa) (t:Bool),bM prog Bs 25:=λBs t=>[.rw 11 (.bool (decide (z<0))) (.bool (decide (z<0))) rfl,.rw 13 (.int .u64 (Int.tmod (m:Int) 16777216)) (.int .u64 (x0:Int)) (by rw[u0]),.wr 14 .i64 (x0:Int) (x0:Int) w0,.wr 16 .u64 (Int.tdiv (m:Int) 16777216) (q:Int) uq,.rw 17 (.int .u64 (Int.tmod (q:Int) 16777216)) (.int .u64 (x1:Int)) (by rw[u1]),.wr 18 .i64 (x1:Int) (x1:Int) w1,.wr 20 .u64 (Int.tdiv (m:Int) 16777216) (q:Int) uq,.wr 21 .u64 (Int.tdiv (q:Int) 16777216) (x2:Int) u2,.wr 22 .i64 (x2:Int) (x2:Int) w2,.bs f63 23 1 3 3 1 [0,1,2] (vI 0) [vI x0,vI x1,vI x2] #[vI x0,vI x1,vI x2] (.row [vI x0,vI x1,vI x2] 3 1) rfl cR cR k_ rfl o_ o_ k_,.step 24 (au f63 24) _ _ _ _ (dD (hs t) (.p rfl (.w (k:=1) (cc:=0) (x:=.row [vI x0,vI x1,vI x2] 3 1) rfl rfl n_ .nil)) (x:=.func 117) k_ k_ rfl)]
 by_cases hz:z<0
 ·have e2:sg true m=z:=by show -(m:Int)=z;omega
  rw[<-show aX (sg true m)=aX z by rw[e2]];exact bC func63 (λ_=>.wr 5 .u64 z (z+18446744073709551616) (by rw[ko];omega)::.rw 7 (.bool (decide (z<0))) b_ (by rw[aJ hz])::
   .wr 9 .u64 (0-(z+18446744073709551616)) (m:Int) (by rw[ko];omega)::.rw 11 (.bool (decide (z<0))) b_ (by rw[aJ hz])::(tl _ true).tail)
 ·have e2:sg false m=z:=by show(m:Int)=z;omega
  rw[<-show aX (sg false m)=aX z by rw[e2]];exact bC func63 (λ_=>.wr 5 .u64 z (m:Int) (by rw[ko];omega)::.rw 7 (.bool (decide (z<0))) a_ (by rw[bd hz])::
   .rw 11 (.bool (decide (z<0))) a_ (by rw[bd hz])::(tl _ false).tail)
theorem aWK(z:Int):aG prog 74 [aX z] (.int .i64 z.sign):=by
 refine sZ (C:=λz v=>aG prog 74 [v] (.int .i64 z.sign)) (λm=>?_) (λm hm=>?_) z
 ·by_cases h:m=0
  ·subst h;exact bC func74 (λ_=>[(aWO false (m:=0) n_).at 5,.rw 10 (.bool ((BA (cM 0)).toList==(ByteArray.mk #[]).toList)) b_ (by rw[qH];rfl)])
  ·have e:((m:Nat):Int).sign=1:=BZ o_;rw[e];exact bC func74 (λ_=>[(aWO false (m:=m) n_).at 5,.rw 10 (.bool ((BA (cM m)).toList==(ByteArray.mk #[]).toList)) a_ (by rw[qH,bd h])])
 ·have e:(-(m:Int)).sign=-1:=FG o_;rw[e];exact bC func74 (λ_=>[(aWO true (m:=m) (λ_=>hm)).at 5,.rw 10 (.bool ((BA (cM m)).toList==(ByteArray.mk #[]).toList)) a_ (by rw[qH,bd hm])])
theorem aW0(z:Int):aG prog 104 [aX z] (aX (-z)):=by
 refine sZ (C:=λz v=>aG prog 104 [v] (aX (-z))) (λm=>?_) (λm hm=>?_) z
 ·by_cases h:m=0
  ·subst h;have e:aX (-((0:Nat):Int))=.agg #[.bool false,.string ⟨#[]⟩]:=by show Value.agg #[.bool false,.string (BA (cM 0))]=_;rw[Du];rfl
   rw[e];exact bC func104 (λ_=>[(aWO false (m:=0) n_).at 4,.rw 9 (.bool ((BA (cM 0)).toList==(ByteArray.mk #[]).toList)) b_ (by rw[qH];rfl)])
  ·have e:=wk true m;rw[<-show sg true m=-(m:Int)from rfl,<-e];unfold BQ;rw[aJ h];exact bC func104 (λ_=>[(aWO false (m:=m) n_).at 4,.rw 9 (.bool ((BA (cM m)).toList==(ByteArray.mk #[]).toList)) a_ (by rw[qH,bd h])])
 ·have e:=wk false m;rw[KH,<-show sg false m=(m:Int)from rfl,<-e];exact bC func104 (λ_=>[(aWO true (m:=m) (λ_=>hm)).at 4,.rw 9 (.bool ((BA (cM m)).toList==(ByteArray.mk #[]).toList)) a_ (by rw[qH,bd hm])])
theorem Wg(z:Int):aG prog 77 [aX z] (aX (z.natAbs:Int)):=by
 refine sZ (C:=λz v=>aG prog 77 [v] (aX (z.natAbs:Int))) (λm=>?_) (λm hm=>?_) z
 ·exact bC func77 (λ_=>[(aWO false (m:=m) n_).at 4])
 ·rw[KG];exact bC func77 (λ_=>[(aWO true (m:=m) (λ_=>hm)).at 4])
section
variable{Bs:aa}{n a b:Nat}
def CD(n i:Nat):aT:=[(5,dr i),(0,sl 0 n),(1,sl 1 n)]
def tF(n a b:Nat):aM:=[(0,.view (av (ae bz n a))),(1,.view (av (ae bz n b)))]
theorem uF{x y:Nat}(h:decide (x≠y)=t):Value.bool ((x:Int)!=(y:Int))=.bool t:=by
 rw[<-h];congr 1
 by_cases e:x=y
 ·subst e;simp
 ·rw[aJ e,rJ];omega
noncomputable def Wh(n a b j:Nat)(hj:j<n)(t:Bool)(h:decide (a/bz^j%bz≠b/bz^j%bz)=t)(more:bM prog Bs 41):bM prog Bs 41:=
 .rw 19 (dr (j+1)) (vI j) (eF j)::.ge 20 j 0 true s_::.rw 24 (dr (j+1)) (vI j) (eF j)::.ix f134 25 0 n j hj k_::.ld f134 26 3 0 j (.view (av (ae bz n a))) (vI (a/bz^j%bz)) rfl (ew (eR hj)) k_::
  .rw 28 (dr (j+1)) (vI j) (eF j)::.ix f134 29 1 n j hj k_::.ld f134 30 3 1 j (.view (av (ae bz n b))) (vI (b/bz^j%bz)) rfl (ew (eR hj)) k_::.rw 31 _ (.bool t) (uF h)::more
noncomputable def aDD(n a b j:Nat)(hj:j<n)(t:Bool)(h:decide (a/bz^j%bz<b/bz^j%bz)=t):bM prog Bs 41:=
 [.rw 33 (dr (j+1)) (vI j) (eF j),.ix f134 34 0 n j hj k_,.ld f134 35 3 0 j (.view (av (ae bz n a))) (vI (a/bz^j%bz)) rfl (ew (eR hj)) k_,.rw 37 (dr (j+1)) (vI j) (eF j),.ix f134 38 1 n j hj k_,.ld f134 39 3 1 j (.view (av (ae bz n b))) (vI (b/bz^j%bz)) rfl (ew (eR hj)) k_,.lt 40 (a/bz^j%bz) (b/bz^j%bz) t h]
theorem aOz(hj:j<n)(he:a/bz^j%bz=b/bz^j%bz)(h63:n<35184372088832):
  ah prog Bs 41 (aI (ag f134 0)) (CD n (j+1)) (tF n a b) 2 ⟨.normal,CD n j,tF n a b,2⟩:=
 aD (Wh n a b j hj false (by simp[he]) [.rw 21 (dr (j+1)) (vI j) (eF j),.wr 22 .i64 ((j:Int)-1) ((j:Int)-1) (pd o_)])
theorem aOA(hj:j<n)(al:a/bz^j%bz<b/bz^j%bz):
  ah prog Bs 41 (aI (ag f134 0)) (CD n (j+1)) (tF n a b) 2 ⟨.ret,[(4,.int .i64 (-1))],tF n a b,2⟩:=
 aD (Wh n a b j hj true (aJ o_) (aDD n a b j hj true (aJ al)))
theorem aOB(hj:j<n)(al:b/bz^j%bz<a/bz^j%bz):
  ah prog Bs 41 (aI (ag f134 0)) (CD n (j+1)) (tF n a b) 2 ⟨.ret,[(4,.int .i64 1)],tF n a b,2⟩:=
 aD (Wh n a b j hj true (aJ o_) (aDD n a b j hj false (bd o_)))
theorem aOC:ah prog Bs 41 (aI (ag f134 0)) (CD n 0) (tF n a b) 2 ⟨.exit 0,[],tF n a b,2⟩:=
 aD [.rw 20 (.bool (decide (((0:Nat):Int)-1>=0))) a_ rfl]
theorem aOD(ha:a<bz^n)(hb:b<bz^n)(h63:n<35184372088832):
  ah prog Bs 41 (.block 0 (ag f134 0)) (CD n n) (tF n a b) 2 (if a=b then⟨.normal,[],tF n a b,2⟩else⟨.ret,[(4,.int .i64 (iv a b))],tF n a b,2⟩):=by
 obtain⟨e,h1,h2,h3⟩:=zy (λt=>¬(t<n/\a/bz^(n-1-t)%bz=b/bz^(n-1-t)%bz)) n o_;have vg:=ZO ha hb e h1 λs hs=>(Fu.1 (h3 s hs)).2;have go:∀(r:mF),r.ex≠.normal->ah prog Bs 41 (aI (ag f134 0)) (CD n (n-e)) (tF n a b) 2 r->ah prog Bs 41 (.loop (aI (ag f134 0))) (CD n n) (tF n a b) 2 r:=by
  intro r hr pO
  exact cx (P:=prog) (B:=Bs) (N:=41) (b:=aI (ag f134 0)) (next:=2) (r:=r) e (λi=>CD n (n-i)) (λ_=>tF n a b) (λi k _=>Iff.rfl)
   (λi hi=>by
    have q:=Fu.1 (h3 i hi);have e1:n-i=(n-(i+1))+1:=by omega
    have e2:n-1-i=n-(i+1):=by omega
    simp only[e1];exact aOz o_ (by rw[<-e2];exact q.2) h63) pO hr
 by_cases Dn:e=n
 ·have b9:a=b:=by rw[Dn,wi,sS,Fv,Fv]at vg;exact vg
  rw[aB b9];have:=go ⟨.exit 0,[],tF n a b,2⟩ n_ (by rw[Dn,wi];exact aOC);exact cd (id:=0) this
 ·have hj:n-e=(n-1-e)+1:=by omega
  have bw:a/bz^(n-1-e)%bz≠b/bz^(n-1-e)%bz:=λh=>h2 ⟨by omega,h⟩;rw[hj]at vg go;have b9:a≠b:=λh=>bw (by rw[h]);rw[az b9];rcases E5 bw with al|tZ
  ·have hl:=NU vg al;have e1:iv a b=-1:=by unfold iv;rw[aB hl]
   rw[e1];exact cd (id:=0) (go _ n_ (aOA o_ al))
  ·have hl:=NU vg.symm tZ;have e1:iv a b=1:=by unfold iv;rw[az o_,aB hl]
   rw[e1];exact cd (id:=0) (go _ n_ (aOB o_ tZ))
end
theorem Wi(h1:nd bz a<35184372088832)(h2:nd bz b<35184372088832):cy prog 134 [jT a,jT b] (.int .i64 (iv a b)):=by
 have ha:=eB (B:=bz) d_ a;have hb:=eB (B:=bz) d_ b;have c7:nd bz a<nd bz b->a<b:=λh=>by
  rcases e9 a b with h1|h1
  ·exact h1
  ·have:=jx (B:=bz) d_ h1;omega
 have dI:nd bz b<nd bz a->b<a:=λh=>by
  rcases e9 b a with h1|h1
  ·exact h1
  ·have:=jx (B:=bz) d_ h1;omega
 have aC:([jT a,jT b].all aP.ok)=true:=by simp[I0]
 unfold jT cJ at aC ⊢;generalize nd bz a=n at *;generalize nd bz b=m at *;by_cases kF:n=m
 ·subst kF;have lo:=λBs=>aOD (Bs:=Bs) ha hb h1;by_cases b9:a=b
  ·simp only[aB b9]at lo;have e1:iv a b=0:=by unfold iv;rw[az o_,az o_]
   rw[e1];exact jC mixed func134 aC 100 (N:=41) k_ (λw=>[.rw 10 _ a_ (uF (x:=n) (y:=n) s_),.wr 18 .i64 ((n:Int)-1) ((n:Int)-1) (pd o_),.code 0 _ _ _ _ _ (lo _)]) (λw=>k_) rfl
  ·simp only[az b9]at lo;exact jC mixed func134 aC 100 (N:=41) k_ (λw=>[.rw 10 _ a_ (uF (x:=n) (y:=n) s_),.wr 18 .i64 ((n:Int)-1) ((n:Int)-1) (pd o_),.code 0 _ _ _ _ _ (lo _)]) (λw=>k_) rfl
 ·rcases E5 kF with al|tZ
  ·have e1:iv a b=-1:=by unfold iv;rw[aB (c7 al)]
   rw[e1];exact jC mixed func134 aC 100 (N:=41) k_ (λw=>[.rw 10 _ b_ (uF (x:=n) (y:=m) (aJ kF)),.lt 15 n m true (aJ al)]) (λw=>k_) rfl
  ·have e1:iv a b=1:=by unfold iv;rw[az (by have:=dI tZ;omega),aB (dI tZ)]
   rw[e1];exact jC mixed func134 aC 100 (N:=41) k_ (λw=>[.rw 10 _ b_ (uF (x:=n) (y:=m) (aJ kF)),.lt 15 n m false (bd o_)]) (λw=>k_) rfl
section
variable{Bs:aa}{m:Nat}{neg:Bool}
def Ei(m i:Nat):aT:=[(5,vI i),(1,ptr 0),(4,.int .u64 ((m/256^(nd 256 m-i):Nat):Int))]
def Ej(neg:Bool)(m:Nat):aM:=[(0,.aK [.bool neg,.string (BA (cM m))] 30)]
theorem aOE{m:Nat}(h:i<nd 256 m):∃ c,(BA (cM m))[nd 256 m-1-i]?=some c/\c.toNat=m/256^i%256:=by
 obtain⟨c,h1,h2⟩:=Tg (BA (cM m)) (i:=i) (by rw[pc,uj];exact h);rw[pc,uj]at h1;refine⟨c,h1,?_⟩;rw[h2]
 congr 2
 show gv (BA (cM m)).data.toList=m;exact Fz m
theorem aOF(hi:i<nd 256 m)(hm:nd 256 m<=7):
  ah prog Bs 52 (aI (ag f163 0)) (Ei m i) (Ej neg m) 1 ⟨.normal,Ei m (i+1),Ej neg m,1⟩:=by
 have al:m<256^7:=cF (eB (B:=256) d_ m) (di d_ hm);obtain⟨c,gM,dq⟩:=aOE (m:=m) (i:=nd 256 m-1-i) o_;have bH:(((BA (cM m)).size:Nat):Int)=(nd 256 m:Int):=by rw[pc,uj]
 unfold Ei Ej;generalize BA (cM m)=s at *;generalize nd 256 m=L at *;rw[show L-1-(L-1-i)=i by omega]at gM;obtain⟨j,hj⟩:∃ j,j=L-1-i:=⟨_,rfl⟩;have e1:L-i=j+1:=by omega
 have e2:L-(i+1)=j:=by omega
 rw[e1,e2];rw[<-hj]at dq;have hd:m/256^j=m/256^(j+1)*256+m/256^j%256:=xw m j;rw[<-dq]at hd;have hq:m/256^(j+1)<=m:=uh _ _;have qw:m/256^(j+1)*256<=m:=by rw[dH,<-lg];exact dh (DA _ _) (uh _ _)
 generalize m/256^(j+1)=x at *;generalize m/256^j=y at *;have hc3:=c.toNat_lt;have Wj:(256:Nat)^7=72057594037927936:=by decide
 rw[Wj]at al;have ws:IntKind.u64.wrap ((x:Int)*2^8)=((x*256:Nat):Int):=by rw[show((x:Int)*2^8)=((x*256:Nat):Int)by simp,ko];omega
 have wc:IntKind.u64.wrap (c.toNat:Int)=(c.toNat:Int):=by rw[ko];omega
 have wa:IntKind.u64.wrap (((x*256:Nat):Int)+(c.toNat:Int))=(y:Int):=by rw[ko];omega
 exact aD [.rw 18 (.int .i64 (s.size:Int)) (vI L) (by rw[bH];rfl),.lt 19 i L true (aJ hi),.wr 23 .u64 ((x:Int)*2^8) _ ws,.sx f163 27 s i c gM k_,.wr 28 .u64 (c.toNat:Int) _ wc,.wr 29 .u64 _ _ wa,.sum 21 i 1 (i+1) rfl o_]
theorem aOG(hm:nd 256 m<=7):ah prog Bs 52 (.block 0 (ag f163 0)) (Ei m 0) (Ej neg m) 1 ⟨.normal,Ei m (nd 256 m),Ej neg m,1⟩:=
 cd (id:=0) (cx (b:=aI (ag f163 0)) (r:=⟨.exit 0,Ei m (nd 256 m),Ej neg m,1⟩) (nd 256 m) (Ei m) (λ_=>Ej neg m) (λ_ _ _=>Iff.rfl) (λk hk=>aOF hk hm)
  (aD [.rw 18 (.int .i64 ((BA (cM m)).size:Int)) (vI (nd 256 m)) (by rw[pc,uj];rfl),.lt 19 (nd 256 m) (nd 256 m) false s_]) n_)
end
theorem aOH{neg:Bool}(hv:neg=true->m≠0)(hm:nd 256 m<=7):aG prog 163 [sv neg m] (.tuple #[.int .i64 (sg neg m),.bool true]):=by
 have lo:=λBs=>aOG (Bs:=Bs) (neg:=neg) hm;have al:m<256^7:=cF (eB (B:=256) d_ m) (di d_ hm);have Wj:(256:Nat)^7=72057594037927936:=by decide
 rw[Wj]at al;have e0:m/256^(nd 256 m-0)=0:=mH (eB (B:=256) d_ m);have e1:m/256^(nd 256 m-nd 256 m)=m:=by rw[wi,sS,Fv]
 unfold Ei at lo;simp only[e0,e1]at lo;have bH:(((BA (cM m)).size:Nat):Int)=(nd 256 m:Int):=by rw[pc,uj]
 have nI:=aWO neg hv;unfold Ej at lo;unfold sv oI at nI ⊢;generalize BA (cM m)=s at *;generalize nd 256 m=L at *;have hle:decide ((L:Int)>8)=false:=bd o_;cases neg
 ·have w:IntKind.i64.wrap (m:Int)=(m:Int):=by rw[eh];omega
  exact bC func163 (λ_=>[nI.at 7,.rw 12 (.int .i64 (s.size:Int)) (vI L) (by rw[bH];rfl),.rw 13 (.bool (decide ((L:Int)>8))) a_ (by rw[hle]),.code 0 _ _ _ _ _ (lo _),.rw 48 (.bool (decide ((m:Int)<9223372036854775808))) b_ (by rw[aJ o_]),.wr 51 .i64 (m:Int) (m:Int) w])
 ·have w0:IntKind.u64.wrap ((m:Int)-1)=(m:Int)-1:=by have:=hv rfl;rw[ko];omega
  have w1:IntKind.i64.wrap ((m:Int)-1)=(m:Int)-1:=by rw[eh];omega
  have w2:IntKind.i64.wrap (0-((m:Int)-1))=1-(m:Int):=by rw[eh];omega
  have w3:IntKind.i64.wrap (1-(m:Int)-1)=sg true m:=by rw[eh];show _=-(m:Int);omega
  exact bC func163 (λ_=>[nI.at 7,.rw 12 (.int .i64 (s.size:Int)) (vI L) (by rw[bH];rfl),.rw 13 (.bool (decide ((L:Int)>8))) a_ (by rw[hle]),.code 0 _ _ _ _ _ (lo _),.rw 35 (.bool (decide ((m:Int)<=9223372036854775808))) b_ (by rw[aJ o_]),.wr 38 .u64 _ _ w0,.wr 39 .i64 _ _ w1,.wr 40 .i64 _ _ w2,.wr 41 .i64 _ _ w3])
theorem Wk{neg:Bool}(hv:neg=true->m≠0)(hm:nd 256 m<=7):aG prog 118 [sv neg m] (.tuple #[.int .i64 (sg neg m),.bool true]):=by
 have h:=aOH hv hm;have bH:(((BA (cM m)).size:Nat):Int)=(nd 256 m:Int):=by rw[pc,uj]
 unfold sv oI at h ⊢;generalize BA (cM m)=s at *;generalize nd 256 m=L at *;exact bC func118 (λ_=>[.rw 8 (.int .i64 (s.size:Int)) (vI L) (by rw[bH];rfl),.rw 9 (.bool (decide ((L:Int)>7))) a_ (by rw[bd o_]),h.at 12])
theorem aOI{neg:Bool}(hm:¬nd 256 m<=7):aG prog 118 [sv neg m] (.tuple #[.int .i64 0,.bool false]):=by
 have bH:(((BA (cM m)).size:Nat):Int)=(nd 256 m:Int):=by rw[pc,uj]
 unfold sv oI;generalize BA (cM m)=s at *;generalize nd 256 m=L at *;exact bC func118 (λ_=>[.rw 8 (.int .i64 (s.size:Int)) (vI L) (by rw[bH];rfl),.rw 9 (.bool (decide ((L:Int)>7))) b_ (by rw[aJ o_])])
section
variable{Bs:aa}{N:Nat}
theorem aOJ(m:Nat):(nd 256 m+2)/3=nd bz m:=by
 have e:bz=256^3:=by decide
 have h1:nd bz m<=(nd 256 m+2)/3:=jw d_ (by rw[e,<-sT];exact cF (eB (B:=256) d_ m) (di d_ o_))
 have h2:nd 256 m<=3*nd bz m:=jw d_ (by have:=eB (B:=bz) d_ m;rw[e,<-sT]at this;rw[e];exact this)
 omega
theorem I3(h:nd 256 m<35184372088832):lO prog 119 [.p (oI m)] 3 1 (nd bz m) (cJ m):=by
 have hs:(BA (cM m)).size=nd 256 m:=by rw[pc,uj]
 have hv:kT (BA (cM m))=m:=by show gv (BA (cM m)).data.toList=m;exact Fz m
 have:=aNW (s:=BA (cM m)) (by rw[hs];exact h);rw[hs,hv,aOJ]at this;exact this
theorem oe{x:Obj}(hr:x.reads=true)(hc:x.cells=cJ a){vs:ak}{nd':q_}(h:gA Bs l vs nd'):gA Bs (jT a::l) (sl k (nd bz a)::vs) ((k,some x)::nd'):=by unfold jT;rw[<-hc];exact .w hr (by rw[hc];exact tC a) (λe=>by rw[hc];exact aNl e) h
def jo(a:Nat):Obj:=.row (cJ a) 3 1
def aY.yv(fn:Func)(key k m:Nat)(h:nd 256 m<35184372088832)(ho:dF (au fn key).op=some (.func 119)):aY prog Bs N:=
 .step key (au fn key) [.func (.func 119) #[] #[],oI m] [(k,none)] (sl k (nd bz m)) [(k,jo m)] (rS (I3 h) (.p rfl .nil) ho k_ (tC m) k)
def aY.aDE(fn:Func)(key k k1 k2 a b:Nat)(x1 x2:Obj)(uG:x1.reads=true)(gM:x1.cells=cJ a)(lk:x2.reads=true)(dq:x2.cells=cJ b)(h1:nd bz a<35184372088832)(h2:nd bz b<35184372088832)
  (ho:dF (au fn key).op=some (.func 132)):aY prog Bs N:=
 .step key (au fn key) [.func (.func 132) #[] #[],sl k1 (nd bz a),sl k2 (nd bz b)] [(k,none),(k1,some x1),(k2,some x2)] (sl k (nd bz (a+b))) [(k,jo (a+b))] (rS (aDt h1 h2) (oe uG gM (oe lk dq .nil)) ho k_ (tC _) k)
def aY.L7(fn:Func)(key k k1 k2 a b:Nat)(x1 x2:Obj)(uG:x1.reads=true)(gM:x1.cells=cJ a)(lk:x2.reads=true)(dq:x2.cells=cJ b)(b9:b<=a)(h1:nd bz a<35184372088832)
  (ho:dF (au fn key).op=some (.func 135)):aY prog Bs N:=
 .step key (au fn key) [.func (.func 135) #[] #[],sl k1 (nd bz a),sl k2 (nd bz b)] [(k,none),(k1,some x1),(k2,some x2)] (sl k (nd bz (a-b))) [(k,jo (a-b))] (rS (aOe b9 h1) (oe uG gM (oe lk dq .nil)) ho k_ (tC _) k)
def aY.aOK(fn:Func)(key k k1 k2 a b:Nat)(x1 x2:Obj)(uG:x1.reads=true)(gM:x1.cells=cJ a)(lk:x2.reads=true)(dq:x2.cells=cJ b)(h:nd bz a+nd bz b<35184372088832)
  (ho:dF (au fn key).op=some (.func 120)):aY prog Bs N:=
 .step key (au fn key) [.func (.func 120) #[] #[],sl k1 (nd bz a),sl k2 (nd bz b)] [(k,none),(k1,some x1),(k2,some x2)] (sl k (nd bz (a*b))) [(k,jo (a*b))] (rS (Wd h) (oe uG gM (oe lk dq .nil)) ho k_ (tC _) k)
def aY.I4(fn:Func)(key k1 k2 a b:Nat)(x1 x2:Obj)(uG:x1.reads=true)(gM:x1.cells=cJ a)(lk:x2.reads=true)(dq:x2.cells=cJ b)(h1:nd bz a<35184372088832)(h2:nd bz b<35184372088832)
  (ho:dF (au fn key).op=some (.func 134)):aY prog Bs N:=
 .step key (au fn key) [.func (.func 134) #[] #[],sl k1 (nd bz a),sl k2 (nd bz b)] [(k1,some x1),(k2,some x2)] (.int .i64 (iv a b)) [] (dD (Wi h1 h2) (oe uG gM (oe lk dq .nil)) ho k_ rfl)
def aY.AG(fn:Func)(key k1 a:Nat)(neg:Bool)(x1:Obj)(uG:x1.reads=true)(gM:x1.cells=cJ a)(h1:nd bz a<35184372088832)
  (ho:dF (au fn key).op=some (.func 117)):aY prog Bs N:=
 .step key (au fn key) [.func (.func 117) #[] #[],.bool neg,sl k1 (nd bz a)] [(k1,some x1)] (aX (sg neg a)) [] (dD (aDB neg (aOy h1)) (.p rfl (oe uG gM .nil)) ho k_ rfl)
theorem yw{n:Nat}(h:m<2^n):nd bz m<=n:=jw d_ (cF h (aAT d_ n))
end
theorem aOL(h:decide (b<=a)=t):Value.bool (decide (iv a b>=0))=.bool t:=by
 rw[<-h];congr 1;rw[qx];unfold iv
 by_cases h1:a<b
 ·rw[aB h1];omega
 ·rw[az h1];by_cases h2:b<a
  ·rw[aB h2];omega
  ·rw[az h2];omega
theorem L8(h:nd 256 m<=7):m<72057594037927936:=by have al:m<256^7:=cF (eB (B:=256) d_ m) (di d_ h);rwa[show(256:Nat)^7=72057594037927936 by decide]at al
theorem I5(n:Bool)(m:Nat):-(m:Int)<=sg n m/\sg n m<=m:=by cases n<;>simp[sg]<;>omega
theorem I6{n:Bool}(v:n=true->m≠0):∃(t:Bool) (i:Int),decide (nd 256 m<=7)=t/\aG prog 118 [sv n m] (.tuple #[.int .i64 i,.bool t])/\-72057594037927936<i/\i<72057594037927936/\(t=true->i=sg n m):=by
 by_cases s:nd 256 m<=7
 ·have g:=I5 n m;have l:=L8 s;exact⟨true,_,aJ s,Wk v s,by omega,by omega,λ_=>rfl⟩
 ·exact⟨false,_,bd s,aOI s,by decide,by decide,λh=>by cases h⟩
theorem Wl{n:Nat}(hk:m<2^k)(hn:k<n):nd bz m<n:=eZ (yw hk) hn
theorem aXd{n1 n2:Bool}{p:Nat}(v1:n1=true->m1≠0)(v2:n2=true->m2≠0)(h1:m1<2^p)(h2:m2<2^q)(hp:p<=1099511627776)(hq:q<=1099511627776):
  aG prog 102 [sv n1 m1,sv n2 m2] (aX (sg n1 m1+sg n2 m2)):=by
 have b1:=yw h1;have b2:=yw h2;have c1:=wm h1;have c2:=wm h2;obtain⟨t1,i1,_,q1,l1,u1,g1⟩:=I6 v1;obtain⟨t2,i2,_,q2,l2,u2,g2⟩:=I6 v2;have bp:nd bz (m1+m2)<35184372088832:=by have e1:=di (show 0<2 by decide) (show p<=p+q by omega);have e2:=di (show 0<2 by decide) (show q<=p+q by omega);exact Wl (k:=p+q+1) (by rw[dH];omega) o_
 have k1:=jx (B:=bz) d_ (FH m1 m2);have k2:=jx (B:=bz) d_ (FH m2 m1);obtain⟨ge,a,b,ga,b9,ha,e⟩:∃(ge:Bool) (a b:Nat),decide (m2<=m1)=ge/\b<=a/\(a=bif ge then m1 else m2)/\(b=bif ge then m2 else m1):=by
  by_cases h:m2<=m1
  ·exact⟨true,m1,m2,aJ h,h,rfl,rfl⟩
  ·exact⟨false,m2,m1,bd h,by omega,rfl,rfl⟩
 subst ha e;have bm:nd bz ((bif ge then m1 else m2)-bif ge then m2 else m1)<35184372088832:=by cases ge<;>(dsimp only[cond];omega)
 have ba:nd bz (bif ge then m1 else m2)<35184372088832:=by cases ge<;>(dsimp only[cond];omega)
 have e:aX (sg n1 m1+sg n2 m2)=bif t1&&t2 then aX (i1+i2)else bif n1==n2 then aX (sg n1 (m1+m2))else aX (sg (bif ge then n1 else n2) ((bif ge then m1 else m2)-bif ge then m2 else m1)):=by
  cases t1<;>cases t2<;>try (rw[g1 rfl,g2 rfl];rfl)
  all_goals cases n1<;>cases n2<;>cases ge<;>simp[sg]at ga b9 ⊢<;>congr 1<;>omega
 rw[e];have w:=aWO n1 v1;have w2:=aWO n2 v2;refine eY mixed func102 100 (λ_=>[w.at 12,w2.at 16,q1.at 22]++(bif t1 then[q2.at 28]else[])++bif t1&&t2 then[.wr 34 .i64 (i1+i2) (i1+i2) (by rw[eh];omega),(aXq (z:=i1+i2) o_ o_).at 35]else
   [.yv f102 38 3 m1 o_ k_,.yv f102 41 4 m2 o_ k_]++bif n1==n2 then[.aDE f102 52 5 3 4 m1 m2 (jo m1) (jo m2) rfl rfl rfl rfl o_ o_ k_,.AG f102 53 5 (m1+m2) n1 (jo (m1+m2)) rfl rfl bp k_]else
   [.I4 f102 57 3 4 m1 m2 (jo m1) (jo m2) rfl rfl rfl rfl o_ o_ k_,.rw 58 _ (.bool ge) (aOL ga)]++
   bif ge then[.L7 f102 63 5 3 4 _ _ (jo _) (jo _) rfl rfl rfl rfl b9 ba k_,.AG f102 64 5 _ n1 (jo _) rfl rfl bm k_]else
   [.L7 f102 69 5 4 3 _ _ (jo _) (jo _) rfl rfl rfl rfl b9 ba k_,.AG f102 70 5 _ n2 (jo _) rfl rfl bm k_]) (λ_=>?_) k_ ?_<;>cases t1<;>cases t2<;>cases n1<;>cases n2<;>cases ge<;>kernel_rfl
theorem aWP{x y:Int}{p:Nat}(h1:x.natAbs<2^p)(h2:y.natAbs<2^q)(hp:p<=1099511627776)(hq:q<=1099511627776):aG prog 102 [aX x,aX y] (aX (x+y)):=by revert h1 h2;refine FI (C:=λx y v u=>x.natAbs<2^p->y.natAbs<2^q->aG prog 102 [v,u] (aX (x+y))) (λn1 n2 m1 m2 v1 v2 h1 h2=>?_) x y;rw[qJ]at h1 h2;exact aXd v1 v2 h1 h2 hp hq
theorem aXj{x y:Int}{p:Nat}(h1:x.natAbs<2^p)(h2:y.natAbs<2^q)(hp:p<=1099511627776)(hq:q<=1099511627776):aG prog 64 [aX x,aX y] (aX (x-y)):=
 bC func64 (λ_=>[(aXe x).at 6,(aXe y).at 10,(aW0 y).at 16,(aWP h1 (by rw[KG];exact h2) hp hq).at 17])
theorem L9(m:Nat):Value.int .i64 ((BA (cM m)).size:Int)=vI (nd 256 m):=by rw[pc,uj];rfl
theorem aXc{x y:Int}{p:Nat}(h1:x.natAbs<2^p)(h2:y.natAbs<2^q)(hp:p<=1099511627776)(hq:q<=1099511627776):aG prog 65 [aX x,aX y] (aX (x*y)):=by
 revert h1 h2;refine FI (C:=λx y v u=>x.natAbs<2^p->y.natAbs<2^q->aG prog 65 [v,u] (aX (x*y))) (λn1 n2 m1 m2 v1 v2 h1 h2=>?_) x y;rw[qJ]at h1 h2;have b1:=yw h1;have b2:=yw h2;have c1:=wm h1;have c2:=wm h2;have k1:=eB (B:=256) d_ m1;have k2:=eB (B:=256) d_ m2;have r1:=L9 m1;have r2:=L9 m2;have e:sg n1 m1*sg n2 m2=sg (n1 !=n2) (m1*m2):=by cases n1<;>cases n2<;>simp[sg,H8,H9]
 obtain⟨t1,i1,d1,q1,_,_,g1⟩:=I6 v1;obtain⟨t2,i2,d2,q2,_,_,g2⟩:=I6 v2;have bs:nd bz (m1*m2)<35184372088832:=Wl (k:=p+q) (by rw[eU];exact qA h1 h2) o_;obtain⟨t,ht⟩:∃ t,decide (((nd 256 m1+nd 256 m2:Nat):Int)<=7)=t:=⟨_,rfl⟩;have e2:aX (sg n1 m1*sg n2 m2)=bif t then aX (IntKind.i64.wrap (i1*i2))else aX (sg (n1 !=n2) (m1*m2)):=by
  rw[e];cases t
  ·rfl
  have hs:=kp ht;rw[g1 (by rw[<-d1];exact aJ o_),g2 (by rw[<-d2];exact aJ o_),e,eh];have h:m1*m2<256^(nd 256 m1+nd 256 m2):=by rw[eU];exact qA k1 k2
  have h7:=di (n:=256) d_ (show nd 256 m1+nd 256 m2<=7 by omega);rw[show(256:Nat)^7=72057594037927936 by decide]at h7;have g:=I5 (n1 !=n2) (m1*m2);show _=aX _
  congr 1;omega
 rw[e2];have hw:-9223372036854775808<=IntKind.i64.wrap (i1*i2)/\IntKind.i64.wrap (i1*i2)<9223372036854775808:=by rw[eh];omega
 have w:=aWO n1 v1;have w2:=aWO n2 v2;unfold sv oI at *;generalize hL1:nd 256 m1=L1 at *;generalize hL2:nd 256 m2=L2 at *;refine eY mixed func65 100 (λ_=>[w.at 10,w2.at 14,.rw 20 _ (vI L1) r1,.rw 23 _ (vI L2) r2,.sum 24 L1 L2 (L1+L2) rfl o_,.rw 25 (.bool (decide (((L1+L2:Nat):Int)<=7))) (.bool t) (by rw[ht])]++bif t then[q1.at 28,q2.at 33,.wr 38 .i64 (i1*i2) _ rfl,(aXq (z:=IntKind.i64.wrap (i1*i2)) o_ o_).at 39]else
   [.yv f65 47 3 m1 o_ k_,.yv f65 50 4 m2 o_ k_,.aOK f65 51 5 3 4 m1 m2 (jo m1) (jo m2) rfl rfl rfl rfl o_ k_,.AG f65 52 5 (m1*m2) (n1 !=n2) (jo (m1*m2)) rfl rfl bs k_]) (λ_=>?_) k_ ?_<;>cases t<;>cases n1<;>cases n2<;>kernel_rfl
theorem aWB{x y:Int}{p:Nat}(h1:x.natAbs<2^p)(h2:y.natAbs<2^q)(hp:p<=1099511627776)(hq:q<=1099511627776):aG prog 116 [aX x,aX y] (.int .i64 (x-y).sign):=by
 have w1:=aXe x;have w2:=aXe y;have s1:=aWK x;have s2:=aWK y;have Ek:∀ z:Int,z.sign=-1/\z<0\/z.sign=0/\z=0\/z.sign=1/\0<z:=λz=>by
  rcases OP z 0 with h|h|h
  ·exact .inl ⟨FG h,h⟩
  ·exact .inr (.inl ⟨by rw[h];rfl,h⟩)
  ·exact .inr (.inr ⟨BZ h,h⟩)
 have b1:=yw h1;have b2:=yw h2;have c1:=wm h1;have c2:=wm h2;by_cases hs:x.sign=y.sign
 ·have ho:x.sign*iv x.natAbs y.natAbs=(x-y).sign:=by unfold iv;rcases Ek x with ⟨a1,a2⟩|⟨a1,a2⟩|⟨a1,a2⟩<;>rcases Ek y with ⟨d1,d2⟩|⟨d1,d2⟩|⟨d1,d2⟩<;>rcases Ek (x-y)with ⟨f1,f2⟩|⟨f1,f2⟩|⟨f1,f2⟩<;>rw[a1,f1]<;>rw[a1,d1]at hs<;>first|(exfalso;omega)|(split<;>first|omega|(split<;>omega))
  have hw:IntKind.i64.wrap (x.sign*iv x.natAbs y.natAbs)=(x-y).sign:=by rw[ho,eh];rcases Ek (x-y)with ⟨f1,f2⟩|⟨f1,f2⟩|⟨f1,f2⟩<;>rw[f1]<;>rfl
  rw[<-hs]at s2;exact bC func116 (λ_=>[w1.at 8,w2.at 12,s1.at 16,s2.at 18,.rw 21 (.bool (x.sign !=x.sign)) a_ s_,.yv f116 28 2 x.natAbs o_ k_,.yv f116 31 3 y.natAbs o_ k_,.I4 f116 32 2 3 x.natAbs y.natAbs (jo x.natAbs) (jo y.natAbs) rfl rfl rfl rfl o_ o_ k_,.wr 33 .i64 _ _ hw])
 ·have bw:(x.sign !=y.sign)=true:=rJ.2 hs;by_cases al:x.sign<y.sign
  ·have e:(x-y).sign=-1:=by rcases Ek x with ⟨a1,a2⟩|⟨a1,a2⟩|⟨a1,a2⟩<;>rcases Ek y with ⟨d1,d2⟩|⟨d1,d2⟩|⟨d1,d2⟩<;>rw[a1,d1]at al<;>first|omega|exact FG o_
   rw[e];exact bC func116 (λ_=>[w1.at 8,w2.at 12,s1.at 16,s2.at 18,.rw 21 (.bool (x.sign !=y.sign)) b_ (by rw[bw]),.rw 24 (.bool (decide (x.sign<y.sign))) b_ (by rw[aJ al])])
  ·have e:(x-y).sign=1:=by rcases Ek x with ⟨a1,a2⟩|⟨a1,a2⟩|⟨a1,a2⟩<;>rcases Ek y with ⟨d1,d2⟩|⟨d1,d2⟩|⟨d1,d2⟩<;>rw[a1,d1]at al hs<;>first|omega|exact BZ o_
   rw[e];exact bC func116 (λ_=>[w1.at 8,w2.at 12,s1.at 16,s2.at 18,.rw 21 (.bool (x.sign !=y.sign)) b_ (by rw[bw]),.rw 24 (.bool (decide (x.sign<y.sign))) a_ (by rw[bd al])])

section
variable{P:j_}{B:aa}{N:Nat}
def Wm(o:Oper):Bool:=match o.op with
 |.call c=>match c.callee,c.args.toList with
  |.builtin .min,[_,_]=>true
  |_,_=>false
 |_=>false
theorem aOM(ho:Wm o=true)(hr:r=min a b):cI P B o [vI a,vI b] [] (vI r) []:=by
 unfold Wm at ho;split at ho
 ·rename_i c ck;split at ho
  ·rename_i p q h1 h2;refine(CV (λu hu=>by simp at hu;rcases hu with rfl|rfl<;>rfl) rfl λρ gu w _=>?_).step;obtain⟨ce,ar,at'⟩:=c;dsimp only at h1 h2;subst h1;have e1:ar=#[p,q]:=by rw[<-Ai (xs:=ar),h2]
   subst e1;rw[ck]at gu;simp[Op.operands,Call.operands]at gu;simp[execOp,ck,resolve,invoke,builtin,Builtin.min_,Builtin.min2,gu.1,gu.2,vI,hr];split<;>omega
  ·cases ho
 ·cases ho
def aY.Qx(fn:Func)(key a b r:Nat)(hr:r=min a b)(ho:Wm (au fn key)=true):aY P B N:=
 .step key (au fn key) [vI a,vI b] [] (vI r) [] (aOM ho hr)
theorem aON{cells:ak}(iO:P.follows .mixedOrders=true)(hf:P.funcs[f]?=some fn)(hl:(l.all aP.ok)=true)(n:Nat){N:Nat}(hN:N=(e6 0 l).length+(fn.ntmps-(e6 0 l).length))
  (rs:∀ w,bM P (aa.at w) N) (h:∀ w,oX (hJ (P:=P) fn n (e6 0 l) (jB 0 l) (jQ 0 l) (rs w)) [(k,.row cells ty size)]=oY (hJ fn n (e6 0 l) (jB 0 l) (jQ 0 l) (rs w)) (.tuple #[.slice (some ⟨k,0,some 7⟩) m 0,u]) [(k,.row cells ty size)])
  (hx:(cells.all flat)=true) (hlen:m*size<=cells.length) (oc:cells.take (m*size)=xs) (hu:flat u=true):Gs P f l ty size m xs u:=by
 intro w vs cC;obtain⟨ι,c,h1,h2,h3,h4,h5,h6,h7⟩:=x8 cC (bB.1 hl) 0 _ _ (ub w) n_ (λ_ _=>rfl);refine u9 iO hf hN n (h w) h6 h2 h4 h3 λaA ct v' w' hle hc hm dP=>?_;obtain⟨cV,rfl,bh⟩:=hc.uR;obtain⟨p,q,hp,h8,h9⟩:=js bh;have e:cV=#[p,q]:=vW.1 (by rw[hp]);subst e;rw[h9.fD hu];have:=xm hm (dP (k,_) (aR ..)) h8 hlen (bB.1 hx);rw[oc]at this;exact⟨p,rfl,this,hm.base⟩
theorem aOO{x:m_}{n:Nat}{cells:ak}(ho:dF o.op=some x)(fe:gg P f=true)(hn:0<n)(cR:∀ v∈cells,flat v=true)(Bz:∀ v∈xs,flat v=true)(hu:flat u=true)(kD:0<m)
  (h:∀ w g cap cur,w.heap[g]?=some (.cells cur ty (0,0))->n<=cap->cap<=maxLen->cur.size=cap*1->cur.toList.take cells.length=cells->Calls P f #[.slice (some ⟨g,0,none⟩) n cap] w λe w'=>∃ z c',e=.returned (.tuple #[.slice (some ⟨g,z,none⟩) m c',u])/\Bx g w w'/\(∃ gp,w'.heap[g]?=some (.cells gp ty (0,0))/\gp.size=cap*1)/\dp w' (.slice (some ⟨g,z,none⟩) m c') m xs) :
  cI P B o [.func (.func f) #[] #[],.slice (some ⟨k,0,some 7⟩) n 0] [(k,some (.row cells ty 1)),(j,none)] (.tuple #[.slice (some ⟨j,0,some 7⟩) m 0,u]) [(j,.view xs),(k,.dead)]:=by
 refine jY (fi:=[]) (ca:=[]) ho fe λι c w hm fv args' bh=>?_;rw[ju,jO]at bh;obtain⟨v,rfl,hv⟩:=nP bh;have hk:c k=some (.row cells ty 1):=fv (k,_) s_;have hj:c j=none:=fv (j,none) s_;rcases hv.iC rfl with ⟨_,h0,_⟩|⟨g,oo,cap,c',hb,k7,ni,he⟩
 ·omega
 ·dsimp only at hb he;have kP:c'=cap:=by omega
  subst kP;obtain⟨l,q1,q2⟩:=hm.born k _ hk;rw[hb]at q1;injection q1 with q1;subst q1;rcases q2 with q2|⟨b,aQ,cur,e1,mD,dN,fZ,jt⟩
  ·cases q2.1
  ·injection e1 with e1 e2 e3;subst e1;subst e2;subst e3;rw[he];refine(h w g c' cur mD k7 dN fZ (nQ jt cR)).mono ?_
   rintro e w' ⟨z,c2,rfl,qC,⟨gp,p1,p2⟩,jL⟩
   have m1:=hm.write (y:=.row [] ty 1) hk rfl hb qC.os qC.tape qC.output qC.size (λj hj Fp=>qC.block j hj Fp) (.inr ⟨g,c',gp,rfl,p1,dN,p2,.nil⟩) n_ rfl;have m2:=m1.kill k (by unfold bt;rw[aB rfl];exact n_);have cg:j≠k:=λe=>by rw[e,hk]at hj;cases hj
   have hj2:bt (bt c k (.row [] ty 1)) k .dead j=none:=by unfold bt;rw[az cg,az cg];exact hj
   obtain⟨aA,q1,q2,q3⟩:=zu m2 hj2 jL Bz (λb o c3 e j' y o' aQ fY hy pK=>by
    injection e with e _ _;injection e with e;injection e with e _ _;subst e;unfold bt at fY;by_cases Qy:j'=k
    ·rw[aB Qy]at fY;injection fY with fY;subst fY;cases hy
    ·rw[az Qy,az Qy]at fY;exact Qy (hm.inj j' k y _ _ _ _ _ _ fY hy hk rfl pK hb))
   refine⟨aA,_,rfl,q1,.tup (.cons q3 (.cons (.same hu) .nil)),?_⟩;refine q2.ext λi=>?_;show bt (bt c k .dead) j (.view xs) i=_;unfold bt;by_cases h1:i=j
   ·rw[aB h1,aB h1]
   ·rw[az h1,az h1];by_cases h2:i=k
    ·rw[aB h2,aB h2]
    ·rw[az h2,az h2,az h2]
theorem aDF(x:Int)(k:Nat)(hk:k<=62):IntKind.i64.wrap (((BitVec.ofInt IntKind.i64.bits x)&&& (BitVec.ofInt IntKind.i64.bits (((2^k-1:Nat)):Int))).toNat:Int)=x%((2^k:Nat):Int):=by
 show IntKind.i64.wrap (((BitVec.ofInt 64 x)&&& (BitVec.ofInt 64 (((2^k-1:Nat)):Int))).toNat:Int)=_;have h2:2^k<=2^62:=di d_ hk;have h62:(2:Nat)^62=4611686018427387904:=by decide
 have hp:0<2^k:=cO d_;have e1:(BitVec.ofInt 64 (((2^k-1:Nat)):Int)).toNat=2^k-1:=by rw[BitVec.toNat_ofInt];omega
 have e2:((BitVec.ofInt 64 x).toNat:Int)=x%18446744073709551616:=by rw[BitVec.toNat_ofInt];omega
 rw[BitVec.toNat_and,e1,Nat.and_two_pow_sub_one_eq_mod,eh];have hd:((2^k:Nat):Int) ∣ 18446744073709551616:=by refine⟨((2^(64-k):Nat):Int),?_⟩;rw[<-oy,<-eU,show k+(64-k)=64 by omega];rfl
 have e3:(((BitVec.ofInt 64 x).toNat%2^k:Nat):Int)=x%((2^k:Nat):Int):=by rw[Wn,e2,Int.emod_emod_of_dvd _ hd]
 have h3:(BitVec.ofInt 64 x).toNat%2^k<2^k:=cP _ hp;rw[<-e3];omega
end
section
variable{Bs:aa}{n a d:Nat}
def aWA(n a d i:Nat):aT:=[(8,dr i),(6,sl 1 n),(7,vI (a/bz^i%d)),(0,sl 0 n),(1,vI d)]
def aW3(n a d i:Nat):aM:=[(0,.view (av (ae bz n a))),(1,.row (av (gS bz n i (a/d))) 3 1)]
theorem aXn(hj:j<n)(hd:0<d)(nu:d<bz)(h63:n<35184372088832):
  ah prog Bs 38 (aI (ag f207 0)) (aWA n a d (j+1)) (aW3 n a d (j+1)) 2 ⟨.normal,aWA n a d j,aW3 n a d j,2⟩:=by
 have bT:fp prog 3 (av (gS bz n (j+1) (a/d))) j (vI (a/d/bz^j%bz))=some (av (gS bz n j (a/d))):=by rw[wP (by rw[NR];exact hj),NT hj rfl]
 have lB:dM prog 3 (av (ae bz n a)) j=some (vI (a/bz^j%bz)):=ew (eR hj);have hr:a/bz^(j+1)%d<d:=cP _ hd;have hx:=iu (B:=bz) d_ a j;obtain⟨q1,q2⟩:=ZN (B:=bz) d_ hd (j5 nu) a j;have kf:bz=16777216:=rfl;unfold aWA aW3;generalize av (gS bz n (j+1) (a/d))=r0 at *;generalize av (gS bz n j (a/d))=r1 at *;generalize av (ae bz n a)=ra at *;generalize a/d/bz^j%bz=z at *;generalize a/bz^(j+1)%d=r at *;generalize a/bz^j%d=r' at *;generalize a/bz^j%bz=x at *;have lk:r<16777216:=by omega
 have hp:r*bz<281474976710656:=by rw[kf];omega
 generalize hpe:r*bz=p at *;have DF:(d:Int)≠0:=by omega
 have w1:IntKind.i64.wrap (Int.tdiv ((p+x:Nat):Int) (d:Int))=(z:Int):=by have hq:(p+x)/d<=p+x:=uh _ _;rw[BD o_,<-ug,q1,eh];omega
 have w2:Int.tmod ((p+x:Nat):Int) (d:Int)=(r':Int):=by rw[zL o_,<-Wn,q2]
 exact aD [.rw 15 (dr (j+1)) (vI j) (eF j),.ge 16 j 0 true s_,.tE 20 r bz p hpe.symm o_,.rw 22 (dr (j+1)) (vI j) (eF j),.ix f207 23 0 n j hj k_,.ld f207 24 3 0 j (.view ra) (vI x) rfl lB k_,.sum 25 p x (p+x) rfl o_,.rw 27 (dr (j+1)) (vI j) (eF j),.wh f207 30 .i64 ((p+x:Nat):Int) (d:Int) (z:Int) DF w1 k_,.ix f207 31 1 n j hj k_,.st f207 100031 3 1 j (.row r0 3 1) (vI z) (.row r1 3 1) rfl bT rfl k_,.Fq f207 34 .i64 ((p+x:Nat):Int) (d:Int) (r':Int) DF w2 k_,.rw 17 (dr (j+1)) (vI j) (eF j),.wr 18 .i64 ((j:Int)-1) ((j:Int)-1) (pd o_)]
theorem aXa(hd:0<d)(nu:d<bz)(h63:n<35184372088832):
  ah prog Bs 38 (.block 0 (ag f207 0)) (aWA n a d n) (aW3 n a d n) 2 ⟨.normal,aWA n a d 0,aW3 n a d 0,2⟩:=by
 have:=cx (P:=prog) (B:=Bs) (N:=38) (b:=aI (ag f207 0)) (next:=2) (r:=⟨.exit 0,aWA n a d 0,aW3 n a d 0,2⟩) n (λi=>aWA n a d (n-i)) (λi=>aW3 n a d (n-i))
  (λi k _=>kk (l:=aW3 n a d (n-i)) (m:=aW3 n a d (n-0)) rfl k)
  (λi hi=>by
   have e:n-i=(n-(i+1))+1:=by omega
   simp only[e];exact aXn o_ hd nu h63)
  (by
   have e:n-n=0:=by omega
   simp only[e];exact aD [.rw 16 (.bool (decide (((0:Nat):Int)-1>=0))) a_ rfl]) n_
 exact cd this
end
theorem aDG(hd:0<d)(nu:d<bz)(h1:nd bz a<35184372088832):Gs prog 207 [jT a,.p (vI d)] 3 1 (nd bz (a/d)) (cJ (a/d)) (vI (a%d)):=by
 have ha:=eB (B:=bz) d_ a;have aC:([jT a,aP.p (vI d)].all aP.ok)=true:=by simp[I0];rfl
 unfold jT cJ at aC ⊢;change Gs _ _ _ _ _ _ (cJ (a/d)) _;generalize nd bz a=n at *;have hs:a/d<bz^n:=eZ (uh _ _) ha;have e0:a/bz^n%d=0:=by rw[mH ha];exact Nat.zero_mod _
 have e1:a/bz^0%d=a%d:=by rw[sS,Fv]
 have lo:=λBs=>aXa (Bs:=Bs) (n:=n) (a:=a) hd nu h1;have ez:List.replicate n (vI 0)=av (gS bz n n (a/d)):=by rw[NS,LR]
 unfold aWA aW3 at lo;rw[e0,e1,<-ez,Ki]at lo;generalize a%d=r at *;exact aON (k:=1) mixed func207 aC 100 (N:=38) k_ (λw=>[.qy f207 11 1 n 3 8 (vI 0) (List.replicate n (vI 0)) rfl rfl rfl o_ (by simp[maxLen];omega) k_,.wr 14 .i64 ((n:Int)-1) ((n:Int)-1) (pd o_),.code 0 _ _ _ _ _ (lo _),.Ed f207 36 1 n (a/d) (.row (av (ae bz n (a/d))) 3 1) rfl rfl hs o_ k_])
   (λw=>k_) (iJ _) (GC hs) (CA hs) rfl
section
variable{B:Nat}
def sX(B U V q i:Nat):Int:=((U%B^i:Nat):Int)-(q:Int)*((V%B^i:Nat):Int)
def r6(B U V q i:Nat):Int:=sX B U V q i/((B^i:Nat):Int)
theorem aOP(U V q:Nat):r6 B U V q 0=0:=by simp[r6,sX,uf]
theorem aOQ(U V q i:Nat):sX B U V q (i+1)=sX B U V q i+(((U/B^i%B:Nat):Int)-(q:Int)*((V/B^i%B:Nat):Int))*((B^i:Nat):Int):=by unfold sX;rw[pM U i,pM V i];simp only[wj,oy,Int.sub_mul,Int.mul_add,Ma];omega
theorem Wo(hB:0<B)(U V q i:Nat):r6 B U V q i+(((U/B^i%B:Nat):Int)-(q:Int)*((V/B^i%B:Nat):Int))=sX B U V q (i+1)/((B^i:Nat):Int):=by
 have hp:((B^i:Nat):Int)≠0:=by have:=cO (n:=i) hB;omega
 rw[aOQ,aAY _ _ hp];rfl
theorem aOR(hB:0<B)(U V q i:Nat):(r6 B U V q i+(((U/B^i%B:Nat):Int)-(q:Int)*((V/B^i%B:Nat):Int)))/(B:Int)=r6 B U V q (i+1):=by
 have hp:(0:Int)<=((B^i:Nat):Int):=by omega
 rw[Wo hB,Int.ediv_ediv_of_nonneg hp];unfold r6
 congr 1
theorem aOS(hB:0<B)(U V q i:Nat):(sX B U V q i)%((B^i:Nat):Int)=((U:Int)-(q:Int)*(V:Int))%((B^i:Nat):Int):=by
 unfold sX;have e1:(U:Int)=((U%B^i:Nat):Int)+((B^i:Nat):Int)*((U/B^i:Nat):Int):=by rw[<-oy,<-wj,Nat.mod_add_div]
 have e2:(V:Int)=((V%B^i:Nat):Int)+((B^i:Nat):Int)*((V/B^i:Nat):Int):=by rw[<-oy,<-wj,Nat.mod_add_div]
 have e3:(U:Int)-(q:Int)*(V:Int)=(((U%B^i:Nat):Int)-(q:Int)*((V%B^i:Nat):Int))+((B^i:Nat):Int)*(((U/B^i:Nat):Int)-(q:Int)*((V/B^i:Nat):Int)):=by
  conv=>lhs;rw[e1,e2]
  rw[Int.mul_add,Int.mul_sub,Int.mul_left_comm (q:Int) ((B^i:Nat):Int)];omega
 rw[e3,aOT]
theorem aOU(hB:0<B){V:Nat}(hq:q*V<=U+B^(m+1)):((gw B m U V q:Nat):Int)=((U:Int)-(q:Int)*(V:Int))%((B^(m+1):Nat):Int):=by
 unfold gw;rw[Wn,Int.natCast_sub hq,wj,oy];have:(U:Int)+((B^(m+1):Nat):Int)-(q:Int)*(V:Int)=((U:Int)-(q:Int)*(V:Int))+((B^(m+1):Nat):Int):=by omega
 rw[this,Int.add_emod_right]
theorem aOV(hB:0<B){V:Nat}(hq:q*V<=U+B^(m+1))(hi:i<=m):
  (r6 B U V q i+(((U/B^i%B:Nat):Int)-(q:Int)*((V/B^i%B:Nat):Int)))%(B:Int)=((gw B m U V q/B^i%B:Nat):Int):=by
 rw[Wo hB];have hp:(0:Int)<=((B^i:Nat):Int):=by omega
 have fG:0<((B^i:Nat):Int):=by have:=cO (n:=i) hB;omega
 -- both are the same digit of the number aWg B^(i+1)
 have key:∀ x y:Int,x%((B^(i+1):Nat):Int)=y%((B^(i+1):Nat):Int)->x/((B^i:Nat):Int)%(B:Int)=y/((B^i:Nat):Int)%(B:Int):=by
  intro x y h;have one:∀ z:Int,z/((B^i:Nat):Int)%(B:Int)=z%((B^(i+1):Nat):Int)/((B^i:Nat):Int):=by
   intro z;have e:=Int.emod_add_mul_ediv z ((B^(i+1):Nat):Int);have hs:((B^(i+1):Nat):Int)=((B^i:Nat):Int)*(B:Int):=by rw[dH,oy]
   have e2:z/((B^i:Nat):Int)=z%((B^(i+1):Nat):Int)/((B^i:Nat):Int)+(B:Int)*(z/((B^(i+1):Nat):Int)):=by
    have h3:z=z%((B^(i+1):Nat):Int)+((B^i:Nat):Int)*((B:Int)*(z/((B^(i+1):Nat):Int))):=by rw[<-Ma,<-hs];exact e.symm
    conv=>lhs;rw[h3]
    rw[Int.add_mul_ediv_left _ _ o_]
   rw[e2,aOT];refine Int.emod_eq_of_lt (Int.ediv_nonneg (Int.emod_nonneg _ (by have:=cO (n:=i+1) hB;omega)) hp) ?_;have h4:z%((B^(i+1):Nat):Int)<((B^(i+1):Nat):Int):=Int.emod_lt_of_pos _ (by have:=cO (n:=i+1) hB;omega);rw[hs]at h4;exact Int.ediv_lt_of_lt_mul fG (by rw[T6];exact h4)
  rw[one,one,h]
 have h1:=key (sX B U V q (i+1)) ((gw B m U V q:Nat):Int) (by
  rw[aOS hB,aOU hB hq];have hd:((B^(i+1):Nat):Int) ∣ ((B^(m+1):Nat):Int):=by refine⟨((B^(m-i):Nat):Int),?_⟩;rw[<-oy,<-eU];congr 2;omega
  rw[Int.emod_emod_of_dvd _ hd])
 rw[h1];simp only[Wn,ug]
theorem aOW(hB:0<B){V:Nat}(hV:V<B^m)(hU:U<V*B)(hb:q*V<U+V):
  r6 B U V q m+((U/B^m%B:Nat):Int)=if U<q*V then -1 else((gw B m U V q/B^m%B:Nat):Int):=by
 have DB:U<B^(m+1):=by rw[dH];exact cF hU (eE _ (j5 hV))
 have TB:V<=B^(m+1):=dh (j5 hV) (di hB o_);have hp:0<B^m:=cO hB;have h0:V/B^m%B=0:=rH hV (bF _) hB;have h1:=Wo hB U V q m;rw[h0,Int.natCast_zero,Int.mul_zero,Int.sub_zero]at h1;rw[h1];unfold sX;rw[dW DB,dW (cF hV (di hB o_))];by_cases h:U<q*V
 ·rw[aB h];have e:(U:Int)-(q:Int)*(V:Int)=((U+B^m-q*V:Nat):Int)+((B^m:Nat):Int)*(-1):=by have:((q*V:Nat):Int)=(q:Int)*(V:Int):=oy ..;omega
  rw[e,Int.add_mul_ediv_left _ _ o_,<-ug,mH o_];rfl
 ·rw[az h];have e:(U:Int)-(q:Int)*(V:Int)=((U-q*V:Nat):Int):=by have:((q*V:Nat):Int)=(q:Int)*(V:Int):=oy ..;omega
  have e2:gw B m U V q=U-q*V:=by
   unfold gw;have:U+B^(m+1)-q*V=(U-q*V)+B^(m+1):=by omega
   rw[this,KA,dW o_]
  have al:(U-q*V)/B^m<B:=by rw[iQ hp,cX B,<-dH];show U-q*V<B^(m+1);omega
  rw[e,e2,dW al,<-ug]
theorem aOX(hB:0<B){V:Nat}(hV:V<B^m)(hU:U<V*B)(hb:q*V<U+V)(h:U<q*V):fh B (gw B m U V q) V m=1:=by
 have TB:V<=B^m:=j5 hV;have hp:0<B^m:=cO hB;have hs:B^(m+1)=B^m*B:=dH ..;have DB:U<B^(m+1):=by rw[hs];exact cF hU (eE _ TB)
 have hBm:B^m<=B^(m+1):=di hB o_;obtain⟨t,ht⟩:∃ t,t=q*V-U:=⟨_,rfl⟩;have e1:gw B m U V q=B^(m+1)-t:=by unfold gw;rw[dW o_];omega
 have e2:(B^(m+1)-t)%B^m=B^m-t:=by
  obtain⟨c,hc⟩:∃ c,B=c+1:=⟨B-1,by omega⟩;have:B^(m+1)-t=(B^m-t)+B^m*c:=by
   have e3:B^m*B=B^m*c+B^m:=by rw[<-NP,Nat.succ_eq_add_one,<-hc]
   rw[hs,e3];omega
  rw[this,Fl,dW o_]
 unfold fh;rw[e1,e2,dW hV];have:B^m-t+V=(V-t)+1*B^m:=by omega
 rw[this,pN _ _ hp,mH o_]
end
theorem aDH{B:Nat}(hB:0<B)(U V q i:Nat):-(q:Int)<=r6 B U V q i/\r6 B U V q i<=0:=by
 unfold r6 sX;have hp:0<B^i:=cO hB;have h1:U%B^i<B^i:=cP _ hp;have h2:V%B^i<B^i:=cP _ hp;have h3:=jN q (j5 h2);generalize U%B^i=u at *;generalize V%B^i=v at *;have e1:(q:Int)*(v:Int)=((q*v:Nat):Int):=by simp
 rw[e1];generalize q*v=s at *;generalize B^i=b at *;constructor
 ·rw[Int.le_ediv_iff_mul_le o_];have:-(q:Int)*(b:Int)=-((q*b:Nat):Int):=by simp[H8]
  rw[this];omega
 ·have:((u:Int)-(s:Int))/(b:Int)<1:=Int.ediv_lt_of_lt_mul o_ o_;omega
section
variable{Bs:aa}{e L j T v1 v2 u2:Nat}{ru rv:ak}
def yx(e L j T q:Nat):aT:=[(15,vI q),(9,sl 3 (e+2)),(10,vI (e+2)),(14,vI T),(11,sl 8 L),(13,dr (j+1))]
def yy(ru rv:ak):aM:=[(8,.row ru 3 1),(3,.row rv 3 1)]
structure GU(e L j T v1 v2 u2:Nat)(ru rv:ak):Prop where
 hL:j+(e+2)+1<=L
 l1:dM prog 3 rv (e+1)=some (vI v1)
 l0:dM prog 3 rv e=some (vI v2)
 lu:dM prog 3 ru (j+e)=some (vI u2)
 b1:v1<bz
 b0:v2<bz
 bu:u2<bz
 h63:L<35184372088832
noncomputable def Wp(g:GU e L j T v1 v2 u2 ru rv)(q r:Nat)(hq:q<bz)(hr:q*v1+r=T)(lk:r<2*bz)(t:Bool)(ht:decide (r*bz+u2<q*v2)=t)(more:bM prog Bs 238):bM prog Bs 238:=
 .fq 102 (e+2) 2 e o_ (by have:=g.hL;have:=g.h63;omega)::.ix f178 103 3 (e+2) e o_ k_::.ld f178 104 3 3 e (.row rv 3 1) (vI v2) rfl g.l0 k_::
 .tE 105 q v2 (q*v2) rfl (by
  have:=qA hq g.b0;have kf:bz*bz=281474976710656:=by decide
  omega)::.fq 110 (e+2) 1 (e+1) o_ (by have:=g.hL;have:=g.h63;omega)::.ix f178 111 3 (e+2) (e+1) o_ k_::.ld f178 112 3 3 (e+1) (.row rv 3 1) (vI v1) rfl g.l1 k_::
 .tE 113 q v1 (q*v1) rfl (by
  have:=qA hq g.b1;have kf:bz*bz=281474976710656:=by decide
  omega)::.fq 114 T (q*v1) r o_ (by
  have:=qA hq g.b1;have kf:bz*bz=281474976710656:=by decide
  have kf:bz=16777216:=rfl;omega)::.tE 115 r bz (r*bz) rfl (by
  have kf:bz=16777216:=rfl;rw[kf];omega)::.rw 117 (dr (j+1)) (vI j) (eF j)::.sum 119 j (e+2) (j+(e+2)) rfl (by have:=g.hL;have:=g.h63;omega)::.fq 120 (j+(e+2)) 2 (j+e) o_ (by have:=g.hL;have:=g.h63;omega)::
 .ix f178 121 8 L (j+e) (by have:=g.hL;omega) k_::.ld f178 122 3 8 (j+e) (.row ru 3 1) (vI u2) rfl g.lu k_::.sum 123 (r*bz) u2 (r*bz+u2) rfl (by have:=g.bu;have kf:bz=16777216:=rfl;rw[kf];omega)::.gt 124 (q*v2) (r*bz+u2) t ht::more
noncomputable def aDI(g:GU e L j T v1 v2 u2 ru rv)(q r:Nat)(hq:q<bz)(hr:q*v1+r=T)(lk:r<2*bz)(t:Bool)(ht:decide (r<bz)=t)(more:bM prog Bs 238):bM prog Bs 238:=
 .fq 130 (e+2) 1 (e+1) o_ (by have:=g.hL;have:=g.h63;omega)::.ix f178 131 3 (e+2) (e+1) o_ k_::.ld f178 132 3 3 (e+1) (.row rv 3 1) (vI v1) rfl g.l1 k_::
 .tE 133 q v1 (q*v1) rfl (by
  have:=qA hq g.b1;have kf:bz*bz=281474976710656:=by decide
  omega)::.fq 134 T (q*v1) r o_ (by
  have:=qA hq g.b1;have kf:bz*bz=281474976710656:=by decide
  have kf:bz=16777216:=rfl;omega)::.lt 135 r bz t ht::more
theorem aOY(g:GU e L j T v1 v2 u2 ru rv)(hq:q+1<bz)(hr:(q+1)*v1+r=T)(lk:r<bz)(ht:r*bz+u2<(q+1)*v2):
  ah prog Bs 238 (aI (ag f178 2)) (yx e L j T (q+1)) (yy ru rv) 10 ⟨.normal,yx e L j T q,yy ru rv,10⟩:=
 fF mixed 200 (Wp g (q+1) r hq hr o_ true (aJ ht) (aDI g (q+1) r hq hr o_ true (aJ lk) [.fq 138 (q+1) 1 q rfl (by have kf:bz=16777216:=rfl;omega)])) k_
theorem aOZ(g:GU e L j T v1 v2 u2 ru rv)(hq:q<bz)(hr:q*v1+r=T)(lk:r<2*bz)(ht:¬r*bz+u2<q*v2):
  ah prog Bs 238 (aI (ag f178 2)) (yx e L j T q) (yy ru rv) 10 ⟨.exit 2,yx e L j T q,yy ru rv,10⟩:=
 fF mixed 200 (Wp g q r hq hr lk false (bd ht) []) k_
theorem aO0(g:GU e L j T v1 v2 u2 ru rv)(hq:q<bz)(hr:q*v1+r=T)(lk:r<2*bz)(ht:r*bz+u2<q*v2)(hr3:¬r<bz):
  ah prog Bs 238 (aI (ag f178 2)) (yx e L j T q) (yy ru rv) 10 ⟨.exit 2,yx e L j T q,yy ru rv,10⟩:=
 fF mixed 200 (Wp g q r hq hr lk true (aJ ht) (aDI g q r hq hr lk false (bd hr3) [])) k_
theorem aO1(g:GU e L j T v1 v2 u2 ru rv){V:Nat}(h:mK bz e U V T u2 v1 v2)(pQ:n2=min (T/v1) (bz-1)):
  ∃ q,q<bz/\q*V<U+V/\U/V<=q/\∀ Bs,ah prog Bs 238 (.block 2 (ag f178 2)) (yx e L j T n2) (yy ru rv) 10 ⟨.normal,yx e L j T q,yy ru rv,10⟩:=by
 have kf:bz=16777216:=rfl;have kC:0<v1:=by have:=h.top;omega
 have qW:=h.small;have bT:=h.start;have aWh:n2<bz:=by rw[pQ];exact eZ (Nat.min_le_right _ _) o_
 have aWi:n2*v1<=T:=by
  have h1:n2<=T/v1:=by rw[pQ];exact Nat.min_le_left _ _
  exact dh (eE _ h1) (DA _ _)
 obtain⟨r0,nA⟩:∃ r0,r0=T-n2*v1:=⟨_,rfl⟩;have g0:BM U V T v1 n2 r0:=⟨by omega,by rw[pQ];exact Nat.le_min.2 ⟨bT.le,by omega⟩⟩
 have aO2:r0<2*bz:=by
  have hTb:T<v1*bz+bz:=by
   have h1:U<V*bz:=h.hU;rw[h.hT,iQ (cO d_)];have h2:V<(v1+1)*bz^(e+1):=by rw[h.kC];exact(iQ (cO d_)).1 (BO _)
   have h3:=BN h2 (show 0<bz by decide);have h4:(v1+1)*bz^(e+1)*bz=(v1*bz+bz)*bz^(e+1):=by rw[BR,fP v1 1 bz,qB]
   omega
  by_cases hc:T/v1<=bz-1
  ·have e1:n2=T/v1:=by rw[pQ];exact oz hc
   have e2:r0=T%v1:=by have:=jy T v1;rw[nA,e1,cX];omega
   have:=cP T kC;have:=h.Dy;omega
  ·have e1:n2=bz-1:=by rw[pQ];exact Wq o_
   obtain⟨k,hk⟩:∃ k,bz=k+1:=⟨bz-1,by omega⟩;have e2:n2*v1+v1=v1*bz:=by rw[e1,hk,Oe,cX v1,fP,qB]
   have:=h.Dy;omega
 obtain⟨c,c1,c2,c3⟩:=zy (λi=>¬((r0+i*v1)*bz+u2<(n2-i)*v2/\r0+i*v1<bz)) n2 (by rw[wi,kQ];omega)
 have inv:∀ i,i<=c->BM U V T v1 (n2-i) (r0+i*v1)/\r0+i*v1<2*bz/\i<=n2:=by
  intro i;induction i with
  |zero=>intro _;rw[Hw,kQ,jg];exact⟨g0,aO2,lG _⟩
  |succ i ih=>
   intro hi;obtain⟨i1,i2,i3⟩:=ih o_;obtain⟨k1,k2⟩:=Fu.1 (c3 i o_);obtain⟨l1,l2⟩:=h.less i1 (.inr k1);have e1:r0+(i+1)*v1=r0+i*v1+v1:=by rw[fP,qB];omega
   have e2:n2-(i+1)=n2-i-1:=by omega
   have:=h.Dy;rw[e1,e2];exact⟨l2,by omega,by omega⟩
 obtain⟨gc,gb,gq⟩:=inv c (bF _);have El:=h.fin gc (by
  by_cases k1:(r0+c*v1)*bz+u2<(n2-c)*v2
  ·exact .inr (Pm λk2=>c2 ⟨k1,k2⟩)
  ·exact .inl ⟨by omega,by omega⟩)
 refine⟨n2-c,El.1,El.2,gc.le,λBs=>?_⟩
 have:=cx (P:=prog) (B:=Bs) (N:=238) (b:=aI (ag f178 2)) (next:=10) (r:=⟨.exit 2,yx e L j T (n2-c),yy ru rv,10⟩) c (λi=>yx e L j T (n2-i)) (λ_=>yy ru rv) (λ_ _ _=>Iff.rfl)
  (λi hi=>by
   obtain⟨i1,i2,i3⟩:=inv i o_;obtain⟨j1,j2,j3⟩:=inv (i+1) o_;obtain⟨k1,k2⟩:=Fu.1 (c3 i hi);obtain⟨q,hq⟩:∃ q,n2-i=q+1:=⟨n2-i-1,by omega⟩;have pw:n2-(i+1)=q:=by omega
   simp only[hq,pw]at i1 k1 ⊢;exact aOY g o_ i1.eq k2 k1)
  (by
   by_cases k1:(r0+c*v1)*bz+u2<(n2-c)*v2
   ·exact aO0 g o_ gc.eq gb k1 (λk2=>c2 ⟨k1,k2⟩)
   ·exact aOZ g o_ gc.eq gb k1) n_
 exact cd (id:=2) this
end
theorem aDJ(x:Int):IntKind.i64.wrap (((BitVec.ofInt IntKind.i64.bits x)&&& (BitVec.ofInt IntKind.i64.bits 16777215)).toNat:Int)=x%16777216:=aDF x 24 d_
theorem aDK(x:Int):x.fdiv ((2:Int)^24)=x/16777216:=sR _ d_
section
variable{Bs:aa}{e L j U V q R D:Nat}{rv:ak}
def Em(e L j U V q i:Nat):aT:=[(16,.int .i64 (r6 bz U V q i)),(17,vI i),(10,vI (e+2)),(11,sl 8 L),(13,dr (j+1)),(15,vI q),(9,sl 3 (e+2))]
def qc(L j R D i:Nat):ak:=av (dc bz L (j+i) (gJ bz j R D) R)
def AH(L j R D i:Nat)(rv:ak):aM:=[(8,.row (qc L j R D i) 3 1),(3,.row rv 3 1)]
structure SU(e L j U V q R D:Nat)(rv:ak):Prop where
 hL:j+(e+2)+1<=L
 hU:U=R/bz^j
 yz:rv=av (ae bz (e+2) V)
 hq:q<bz
 hD:D=gw bz (e+2) U V q
 Mb:q*V<=U+bz^(e+2+1)
 h63:L<35184372088832
theorem aO3(g:SU e L j U V q R D rv)(hi:i<e+2):
  ah prog Bs 238 (aI (ag f178 4)) (Em e L j U V q i) (AH L j R D i rv) 10 ⟨.normal,Em e L j U V q (i+1),AH L j R D (i+1) rv,10⟩:=by
 have h63:=g.h63;have hL:=g.hL;have hq:=g.hq;have hc:=aDH (B:=bz) d_ U V q i;have hs:=aOV (B:=bz) d_ (i:=i) g.Mb o_;rw[<-g.hD]at hs;have dq:=aOR (B:=bz) d_ U V q i;have Wr:dM prog 3 (qc L j R D i) (j+i)=some (vI (U/bz^i%bz)):=by have:=ew (Db (B:=bz) (n:=L) (i:=j+i) (s:=gJ bz j R D) (p:=R) (j:=j+i) o_ (bF _));rw[HV,<-g.hU]at this;exact this
 have Ws:dM prog 3 rv i=some (vI (V/bz^i%bz)):=by rw[g.yz];exact ew (eR hi)
 have bT:fp prog 3 (qc L j R D i) (j+i) (vI (D/bz^i%bz))=some (qc L j R D (i+1)):=by unfold qc;rw[wP (by rw[xu];omega),zz o_ (xH d_ j R D i).symm];rfl
 have hu:=iu (B:=bz) d_ U i;have hv:=iu (B:=bz) d_ V i;have kf:bz=16777216:=rfl;have aO4:((bz:Nat):Int)=16777216:=rfl;rw[aO4]at hs dq;unfold Em AH;generalize qc L j R D (i+1)=r1 at *;generalize qc L j R D i=r0 at *;generalize r6 bz U V q (i+1)=c' at *;generalize r6 bz U V q i=c at *;generalize D/bz^i%bz=z at *;generalize U/bz^i%bz=u at *;generalize V/bz^i%bz=v at *;have hp:=qA hq hv;rw[show bz*bz=281474976710656 by decide]at hp;have e1:(q:Int)*(v:Int)=((q*v:Nat):Int):=by simp
 rw[e1]at hs dq;generalize GJ:q*v=p at *;have w1:IntKind.i64.wrap ((u:Int)-(p:Int))=(u:Int)-(p:Int):=by rw[eh];omega
 have w2:IntKind.i64.wrap (c+((u:Int)-(p:Int)))=c+((u:Int)-(p:Int)):=by rw[eh];omega
 generalize hx:c+((u:Int)-(p:Int))=x at *;have w3:=aDJ x;rw[hs]at w3;have w4:=aDK x;rw[dq]at w4;exact fF mixed 200 [.lt 141 i (e+2) true (by simp[hi]),.rw 146 (dr (j+1)) (vI j) (eF j),.sum 148 j i (j+i) rfl o_,.ix f178 149 8 L (j+i) o_ k_,.ld f178 150 3 8 (j+i) (.row r0 3 1) (vI u) rfl Wr k_,.ix f178 154 3 (e+2) i hi k_,.ld f178 155 3 3 i (.row rv 3 1) (vI v) rfl Ws k_,.tE 156 q v p GJ.symm o_,.wr 157 .i64 _ _ w1,.wr 158 .i64 (c+((u:Int)-(p:Int))) x (by rw[hx];exact w2),.rw 160 (dr (j+1)) (vI j) (eF j),.sum 162 j i (j+i) rfl o_,.wr 164 .i64 _ (z:Int) w3,.ix f178 165 8 L (j+i) o_ k_,.st f178 100165 3 8 (j+i) (.row r0 3 1) (vI z) (.row r1 3 1) rfl bT rfl k_,.quo 167 .i64 _ c' w4,.sum 143 i 1 (i+1) rfl o_] k_
theorem aO5(g:SU e L j U V q R D rv):ah prog Bs 238 (.block 4 (ag f178 4)) (Em e L j U V q 0) (AH L j R D 0 rv) 10 ⟨.normal,Em e L j U V q (e+2),AH L j R D (e+2) rv,10⟩:=
 cd (id:=4) (cx (b:=aI (ag f178 4)) (r:=⟨.exit 4,Em e L j U V q (e+2),AH L j R D (e+2) rv,10⟩) (e+2) (Em e L j U V q) (λi=>AH L j R D i rv) (λk t _=>kk (l:=AH L j R D k rv) (m:=AH L j R D 0 rv) rfl t) (λk hk=>aO3 g hk)
  (fF mixed 200 [.lt 141 (e+2) (e+2) false s_] k_) n_)
def En(e L j V D q i:Nat):aT:=[(16,vI (fh bz D V i)),(18,vI i),(10,vI (e+2)),(11,sl 8 L),(13,dr (j+1)),(15,vI q),(9,sl 3 (e+2))]
def qX(L j R D E m i:Nat):ak:=(av (dc bz L (j+i) (gJ bz j R E) (gJ bz j R D))).set (j+m) (.int .i64 (-1))
def AJ(L j R D E m i:Nat)(rv:ak):aM:=[(8,.row (qX L j R D E m i) 3 1),(3,.row rv 3 1)]
theorem aO6{E:Nat}(hL:j+(e+2)+1<=L)(yz:rv=av (ae bz (e+2) V))(hE:E=(D+V)%bz^(e+2+1))(h63:L<35184372088832)(hi:i<e+2):
  ah prog Bs 238 (aI (ag f178 6)) (En e L j V D q i) (AJ L j R D E (e+2) i rv) 10 ⟨.normal,En e L j V D q (i+1),AJ L j R D E (e+2) (i+1) rv,10⟩:=by
 have hc:=Bv (B:=bz) d_ D V i;have hs:=TC (B:=bz) (V:=V) d_ (D:=D) (show i<=e+2 by omega);rw[<-hE]at hs;have dq:=Fk (B:=bz) d_ D V i;have Wr:dM prog 3 (qX L j R D E (e+2) i) (j+i)=some (vI (D/bz^i%bz)):=by unfold qX;rw[Gv,List.getElem?_set_ne o_,<-Gv,ew (Db o_ (bF _)),xH d_]
 have Ws:dM prog 3 rv i=some (vI (V/bz^i%bz)):=by rw[yz];exact ew (eR hi)
 have bT:fp prog 3 (qX L j R D E (e+2) i) (j+i) (vI (E/bz^i%bz))=some (qX L j R D E (e+2) (i+1)):=by unfold qX;unfold vI;rw[Ql _ _ _ (by rw[Wt,od,xu];omega),List.set_comm _ _ o_];have:=Qm (dc bz L (j+i) (gJ bz j R E) (gJ bz j R D)) (j+i) (E/bz^i%bz);unfold vI at this;rw[this,zz o_ (xH d_ j R E i).symm];rfl
 have hu:=iu (B:=bz) d_ D i;have hv:=iu (B:=bz) d_ V i;have kf:bz=16777216:=rfl;unfold En AJ;generalize qX L j R D E (e+2) (i+1)=r1 at *;generalize qX L j R D E (e+2) i=r0 at *;generalize fh bz D V (i+1)=c' at *;generalize fh bz D V i=c at *;generalize E/bz^i%bz=z at *;generalize D/bz^i%bz=u at *;generalize V/bz^i%bz=v at *;rw[show u+v+c=c+(u+v)by omega]at hs dq;have w3:=aDJ ((c+(u+v):Nat):Int);have w4:=aDK ((c+(u+v):Nat):Int);rw[show((c+(u+v):Nat):Int)%16777216=(z:Int)by rw[<-hs];rfl]at w3;rw[show((c+(u+v):Nat):Int)/16777216=(c':Int)by rw[<-dq];rfl]at w4;exact fF mixed 200 [.lt 188 i (e+2) true (by simp[hi]),.rw 193 (dr (j+1)) (vI j) (eF j),.sum 195 j i (j+i) rfl o_,.ix f178 196 8 L (j+i) o_ k_,.ld f178 197 3 8 (j+i) (.row r0 3 1) (vI u) rfl Wr k_,.ix f178 200 3 (e+2) i hi k_,.ld f178 201 3 3 i (.row rv 3 1) (vI v) rfl Ws k_,.sum 202 u v (u+v) rfl o_,.sum 203 c (u+v) (c+(u+v)) rfl o_,.rw 205 (dr (j+1)) (vI j) (eF j),.sum 207 j i (j+i) rfl o_,.wr 209 .i64 _ (z:Int) w3,.ix f178 210 8 L (j+i) o_ k_,.st f178 100210 3 8 (j+i) (.row r0 3 1) (vI z) (.row r1 3 1) rfl bT rfl k_,.quo 212 .i64 _ (c':Int) w4,.sum 190 i 1 (i+1) rfl o_] k_
theorem aO7{E:Nat}(hL:j+(e+2)+1<=L)(yz:rv=av (ae bz (e+2) V))(hE:E=(D+V)%bz^(e+2+1))(h63:L<35184372088832):
  ah prog Bs 238 (.block 6 (ag f178 6)) (En e L j V D q 0) (AJ L j R D E (e+2) 0 rv) 10 ⟨.normal,En e L j V D q (e+2),AJ L j R D E (e+2) (e+2) rv,10⟩:=
 cd (id:=6) (cx (b:=aI (ag f178 6)) (r:=⟨.exit 6,En e L j V D q (e+2),AJ L j R D E (e+2) (e+2) rv,10⟩) (e+2) (En e L j V D q) (λi=>AJ L j R D E (e+2) i rv) (λk t _=>kk (l:=AJ L j R D E (e+2) k rv) (m:=AJ L j R D E (e+2) 0 rv) rfl t) (λk hk=>aO6 hL yz hE h63 hk)
  (fF mixed 200 [.lt 188 (e+2) (e+2) false s_] k_) n_)
end
theorem aO8{B S R:Nat}(hi:i<L)(hR:R<B^(i+1))(hS:S<B^(i+1))(hB:0<B)(x:i_):(av (dc B L i S R)).set i x=(av (ae B L S)).set i x:=by have h:=zz (B:=B) (n:=L) (i:=i) (s:=S) (p:=R) hi rfl;rw[FD hB hR hS]at h;rw[<-h,<-Qm,List.set_set]
structure Mc(e L A V:Nat):Prop where
 hV:V<bz^(e+2)
 top:bz<=2*(V/bz^(e+1))
 hL:e+3<=L
 hA:A<V*bz^(L-(e+2))
 h63:L<35184372088832
theorem Mc.pos{V:Nat}(h:Mc e L A V):0<V:=by
 rcases nU V with e1|e1
 ·have:=h.hA;rw[e1,kQ]at this;omega
 ·exact e1
section
variable{Bs:aa}{e L A V p:Nat}
def Eo(e L p j:Nat):aT:=[(13,dr j),(12,sl 9 p),(10,vI (e+2)),(9,sl 3 (e+2)),(11,sl 8 L)]
def AK(e L A V p j:Nat):aM:=[(8,.row (av (ae bz L (A%(V*bz^j)))) 3 1),(9,.row (av (gS bz p j (A/V))) 3 1),(3,.row (av (ae bz (e+2) V)) 3 1)]
theorem aO9(h:Mc e L A V)(hp:p+(e+2)=L)(hj:j<p):
  ah prog Bs 238 (aI (ag f178 0)) (Eo e L p (j+1)) (AK e L A V p (j+1)) 10 ⟨.normal,Eo e L p j,AK e L A V p j,10⟩:=by
 have h63:=h.h63;have rK:=h.pos;have hV:=h.hV;have Bp:j+(e+2)+1<=L:=by omega
 obtain⟨R,hR⟩:∃ R,R=A%(V*bz^(j+1)):=⟨_,rfl⟩;obtain⟨U,hU⟩:∃ U,U=R/bz^j:=⟨_,rfl⟩;have I7:U<V*bz:=by rw[hU,hR];exact aAE d_ rK A j
 have sG:=aAC (B:=bz) d_ A V j;have aDL:=aAD (B:=bz) A V j;rw[<-hR,<-hU]at sG aDL;have FL:R<bz^(j+(e+2)+1):=by
  have h1:R<V*bz^(j+1):=by rw[hR];exact cP _ (rL rK (cO d_))
  have h2:V*bz^(j+1)<=bz^(e+2)*bz^(j+1):=eE _ (j5 hV);rw[<-eU,show e+2+(j+1)=j+(e+2)+1 by omega]at h2;omega
 have aPa:U<bz^(e+2+1):=by rw[dH];exact cF I7 (eE _ (j5 hV))
 obtain⟨T,hT⟩:∃ T,T=U/bz^(e+1):=⟨_,rfl⟩;obtain⟨v1,kC⟩:∃ v1,v1=V/bz^(e+1):=⟨_,rfl⟩;have aDM:V/bz^(e+1)%bz=v1:=by rw[kC];exact Fj hV
 have aDN:v1<bz:=by rw[<-aDM];exact cP _ d_
 have ds:mK bz e U V T (U/bz^e%bz) v1 (V/bz^e%bz):={ hB:=by decide,hU:=I7,hT:=hT,hu:=rfl,kC:=kC,il:=rfl,top:=by rw[kC];exact h.top,Dy:=aDN };have lU:∀ i,i<=e+2->dM prog 3 (av (ae bz L R)) (j+i)=some (vI (U/bz^i%bz)):=λi hi=>by have:=ew (eR (B:=bz) (n:=L) (a:=R) (i:=j+i) o_);rw[HV,<-hU]at this;exact this
 obtain⟨rv,yz⟩:∃ rv,rv=av (ae bz (e+2) V):=⟨_,rfl⟩;have Wu:dM prog 3 rv (e+1)=some (vI v1):=by rw[yz,<-aDM];exact ew (eR o_)
 have lV0:dM prog 3 rv e=some (vI (V/bz^e%bz)):=by rw[yz];exact ew (eR o_)
 have g:GU e L j T v1 (V/bz^e%bz) (U/bz^e%bz) (av (ae bz L R)) rv:=⟨Bp,Wu,lV0,lU e o_,aDN,cP _ d_,cP _ d_,h63⟩;obtain⟨q0,pQ⟩:∃ q0,q0=min (T/v1) (bz-1):=⟨_,rfl⟩;obtain⟨q,HZ,Mb,aPb,gl⟩:=aO1 g ds pQ;obtain⟨D,hD⟩:∃ D,D=gw bz (e+2) U V q:=⟨_,rfl⟩;have aPc:D<bz^(e+2+1):=by rw[hD];exact TA d_
 have aWj:V<=bz^(e+2+1):=dh (j5 hV) (di d_ o_);have sg:SU e L j U V q R D rv:=⟨Bp,hU,yz,HZ,hD,by omega,h63⟩;have sl:=aO5 (Bs:=Bs) sg;have Wv:gJ bz j R D<bz^(j+(e+2)+1):=by have:=HU (B:=bz) d_ (j:=j) R aPc;rwa[show j+(e+2+1)=j+(e+2)+1 by omega]at this
 have qL:qc L j R D 0=av (ae bz L R):=by unfold qc;rw[jg,Of d_]
 have jl:dM prog 3 (qc L j R D (e+2)) (j+(e+2))=some (vI (U/bz^(e+2)%bz)):=by have:=ew (Db (B:=bz) (n:=L) (i:=j+(e+2)) (s:=gJ bz j R D) (p:=R) (j:=j+(e+2)) o_ (bF _));rw[HV,<-hU]at this;exact this
 have xJ:=aOW (B:=bz) d_ hV I7 Mb;have hsb:=aDH (B:=bz) d_ U V q (e+2);have Md:U/bz^(e+2)%bz*bz+U/bz^(e+1)%bz=T:=by have h1:=xw (B:=bz) U (e+1);have h2:U/bz^(e+2)%bz=U/bz^(e+2):=Fj aPa;rw[h2,hT];exact h1.symm
 have iZ:U/bz^(e+2)%bz<bz:=cP _ d_;have Aq:U/bz^(e+1)%bz<bz:=cP _ d_;have jr:=lU (e+2) (bF _);have vS:=lU (e+1) o_;have Ww:fp prog 3 (av (gS bz p (j+1) (A/V))) j (vI (U/V))=some (av (gS bz p j (A/V))):=by rw[wP (by rw[NR];exact hj),NT hj aDL]
 have hTb:T<281474976710656+16777216:=by have kf:bz=16777216:=rfl;rw[kf]at iZ Aq Md;omega
 have FE:(v1:Int)≠0:=by have:=ds.top;have kf:bz=16777216:=rfl;omega
 have wq:IntKind.i64.wrap (Int.tdiv (T:Int) (v1:Int))=((T/v1:Nat):Int):=by have hq:T/v1<=T:=uh _ _;rw[BD o_,<-ug,eh];omega
 unfold Eo AK;rw[<-hR,<-yz];unfold Em AH at sl;rw[qL,aOP]at sl;unfold yx yy at gl;have gl:=gl Bs;have kf:bz=16777216:=rfl;rw[<-hD]at xJ;by_cases hb:U<q*V
 ·-- the aWk Zy too aWl
  obtain⟨g1,g2⟩:=aAB (B:=bz) d_ hV I7 Mb hb;have KD:=aOX (B:=bz) d_ hV I7 Mb hb;rw[<-hD]at g2 KD;obtain⟨E,hE⟩:∃ E,E=(D+V)%bz^(e+2+1):=⟨_,rfl⟩;have bl:=aO7 (Bs:=Bs) (q:=U/V) (R:=R) (D:=D) Bp yz hE h63;rw[<-hE]at g2;rw[<-g2]at sG;have aDO:E<bz^(e+2):=by rw[g2];exact mJ (cP _ rK) hV
  have hS2:gJ bz j R E<bz^(j+(e+2)+1):=by have:=HU (B:=bz) d_ (j:=j) R (cF aDO (di (n:=bz) d_ (zk _)));rwa[show j+(e+2).succ=j+(e+2)+1 by omega]at this
  have lp:qX L j R D E (e+2) 0=(qc L j R D (e+2)).set (j+(e+2)) (.int .i64 (-1)):=by unfold qX qc;rw[aO8 o_ FL Wv d_,jg,<-aAy d_ j R D E,Of d_]
  have KB:fp prog 3 (qc L j R D (e+2)) (j+(e+2)) (.int .i64 (-1))=some (qX L j R D E (e+2) 0):=by rw[lp];exact Ql _ _ _ (by unfold qc;rw[od,xu];omega)
  have Ep:∀ i,dM prog 3 (qX L j R D E (e+2) i) (j+(e+2))=some (.int .i64 (-1)):=λi=>by unfold qX;rw[Gv,List.getElem?_set_self (by rw[od,xu];omega)]
  have aPd:=Ep 0;have aPe:=Ep (e+2);have TG:fp prog 3 (qX L j R D E (e+2) (e+2)) (j+(e+2)) (.int .i64 0)=some (av (ae bz L (A%(V*bz^j)))):=by unfold qX;rw[Ql _ _ _ (by rw[Wt,od,xu];omega),List.set_set];have h1:=zz (B:=bz) (n:=L) (i:=j+(e+2)) (s:=gJ bz j R E) (p:=gJ bz j R D) (d:=0) o_ (by rw[xH d_,rH aDO (bF _) d_]);rw[FD d_ Wv hS2]at h1;have h2:=Qm (dc bz L (j+(e+2)) (gJ bz j R E) (gJ bz j R D)) (j+(e+2)) 0;rw[h1]at h2;exact cS some (h2.trans (by rw[sG]))
  rw[aB hb]at xJ;unfold En AJ at bl;rw[NN,KD]at bl;generalize av (ae bz L (A%(V*bz^j)))=r9 at *;generalize av (ae bz L R)=r0 at *;generalize qc L j R D (e+2)=r1 at *;generalize qX L j R D E (e+2) 0=r2 at *;generalize qX L j R D E (e+2) (e+2)=r3 at *;generalize av (gS bz p (j+1) (A/V))=p0 at *;generalize av (gS bz p j (A/V))=p1 at *;generalize r6 bz U V q (e+2)=c at *;generalize U/bz^(e+2)%bz=t1 at *;generalize U/bz^(e+1)%bz=t0 at *;generalize U/V=qq at *;have Wx:IntKind.i64.wrap ((t1:Int)+c)=-1:=by rw[eh];omega
  have m1:t1*bz<281474976710656:=by rw[kf];omega
  obtain⟨x1,iY⟩:∃ x1,x1=t1*bz:=⟨_,rfl⟩;rw[<-iY]at Md m1;exact fF mixed 400 [.rw 72 (dr (j+1)) (vI j) (eF j),.ge 73 j 0 true s_,.rw 77 (dr (j+1)) (vI j) (eF j),.sum 79 j (e+2) (j+(e+2)) rfl o_,.ix f178 80 8 L (j+(e+2)) o_ k_,.ld f178 81 3 8 (j+(e+2)) (.row r0 3 1) (vI t1) rfl jr k_,.tE 82 t1 bz x1 iY o_,.rw 84 (dr (j+1)) (vI j) (eF j),.sum 86 j (e+2) (j+(e+2)) rfl o_,.fq 87 (j+(e+2)) 1 (j+(e+1)) o_ o_,.ix f178 88 8 L (j+(e+1)) o_ k_,.ld f178 89 3 8 (j+(e+1)) (.row r0 3 1) (vI t0) rfl vS k_,.sum 90 x1 t0 T Md.symm o_,.fq 94 (e+2) 1 (e+1) o_ o_,.ix f178 95 3 (e+2) (e+1) o_ k_,.ld f178 96 3 3 (e+1) (.row rv 3 1) (vI v1) rfl Wu k_,.wh f178 97 .i64 (T:Int) (v1:Int) ((T/v1:Nat):Int) FE wq k_,.Qx f178 98 (T/v1) (bz-1) q0 pQ k_,.code 2 _ _ _ _ _ gl,.code 4 _ _ _ _ _ sl,.rw 169 (dr (j+1)) (vI j) (eF j),.sum 171 j (e+2) (j+(e+2)) rfl o_,.ix f178 172 8 L (j+(e+2)) o_ k_,.ld f178 173 3 8 (j+(e+2)) (.row r1 3 1) (vI t1) rfl jl k_,.wr 175 .i64 ((t1:Int)+c) (-1) Wx,.ix f178 176 8 L (j+(e+2)) o_ k_,.st f178 100176 3 8 (j+(e+2)) (.row r1 3 1) (.int .i64 (-1)) (.row r2 3 1) rfl KB rfl k_,.rw 178 (dr (j+1)) (vI j) (eF j),.sum 180 j (e+2) (j+(e+2)) rfl o_,.ix f178 181 8 L (j+(e+2)) o_ k_,.ld f178 182 3 8 (j+(e+2)) (.row r2 3 1) (.int .i64 (-1)) rfl aPd k_,.fq 185 q 1 qq o_ o_,.code 6 _ _ _ _ _ bl,.rw 214 (dr (j+1)) (vI j) (eF j),.sum 216 j (e+2) (j+(e+2)) rfl o_,.ix f178 217 8 L (j+(e+2)) o_ k_,.ld f178 218 3 8 (j+(e+2)) (.row r3 3 1) (.int .i64 (-1)) rfl aPe k_,.wr 220 .i64 (-1+((1:Nat):Int)) 0 d_,.ix f178 221 8 L (j+(e+2)) o_ k_,.st f178 100221 3 8 (j+(e+2)) (.row r3 3 1) (.int .i64 0) (.row r9 3 1) rfl TG rfl k_,
   .rw 223 (dr (j+1)) (vI j) (eF j),.ix f178 225 9 p j hj k_,.st f178 100225 3 9 j (.row p0 3 1) (vI qq) (.row p1 3 1) rfl Ww rfl k_,.rw 74 (dr (j+1)) (vI j) (eF j),.wr 75 .i64 ((j:Int)-1) ((j:Int)-1) (pd o_)] k_
 ·obtain⟨g1,g2⟩:=aAA (B:=bz) d_ hV I7 aPb hb;rw[<-hD]at g2;rw[<-g2]at sG;have KB:fp prog 3 (qc L j R D (e+2)) (j+(e+2)) (vI (D/bz^(e+2)%bz))=some (av (ae bz L (A%(V*bz^j)))):=by unfold qc;rw[wP (by rw[xu];omega),zz o_ (xH d_ j R D (e+2)).symm,FD d_ FL Wv,sG]
  have Ep:dM prog 3 (av (ae bz L (A%(V*bz^j)))) (j+(e+2))=some (vI (D/bz^(e+2)%bz)):=by rw[<-sG,ew (eR o_),xH d_]
  rw[az hb]at xJ;have Gg:D/bz^(e+2)%bz<bz:=cP _ d_;rw[<-g1]at Ww;generalize av (ae bz L (A%(V*bz^j)))=r9 at *;generalize av (ae bz L R)=r0 at *;generalize qc L j R D (e+2)=r1 at *;generalize av (gS bz p (j+1) (A/V))=p0 at *;generalize av (gS bz p j (A/V))=p1 at *;generalize r6 bz U V q (e+2)=c at *;generalize U/bz^(e+2)%bz=t1 at *;generalize U/bz^(e+1)%bz=t0 at *;generalize D/bz^(e+2)%bz=d at *;have Wx:IntKind.i64.wrap ((t1:Int)+c)=(d:Int):=by rw[eh];omega
  have m1:t1*bz<281474976710656:=by rw[kf];omega
  obtain⟨x1,iY⟩:∃ x1,x1=t1*bz:=⟨_,rfl⟩;rw[<-iY]at Md m1;exact fF mixed 400 [.rw 72 (dr (j+1)) (vI j) (eF j),.ge 73 j 0 true s_,.rw 77 (dr (j+1)) (vI j) (eF j),.sum 79 j (e+2) (j+(e+2)) rfl o_,.ix f178 80 8 L (j+(e+2)) o_ k_,.ld f178 81 3 8 (j+(e+2)) (.row r0 3 1) (vI t1) rfl jr k_,.tE 82 t1 bz x1 iY o_,.rw 84 (dr (j+1)) (vI j) (eF j),.sum 86 j (e+2) (j+(e+2)) rfl o_,.fq 87 (j+(e+2)) 1 (j+(e+1)) o_ o_,.ix f178 88 8 L (j+(e+1)) o_ k_,.ld f178 89 3 8 (j+(e+1)) (.row r0 3 1) (vI t0) rfl vS k_,.sum 90 x1 t0 T Md.symm o_,.fq 94 (e+2) 1 (e+1) o_ o_,.ix f178 95 3 (e+2) (e+1) o_ k_,.ld f178 96 3 3 (e+1) (.row rv 3 1) (vI v1) rfl Wu k_,.wh f178 97 .i64 (T:Int) (v1:Int) ((T/v1:Nat):Int) FE wq k_,.Qx f178 98 (T/v1) (bz-1) q0 pQ k_,.code 2 _ _ _ _ _ gl,.code 4 _ _ _ _ _ sl,.rw 169 (dr (j+1)) (vI j) (eF j),.sum 171 j (e+2) (j+(e+2)) rfl o_,.ix f178 172 8 L (j+(e+2)) o_ k_,.ld f178 173 3 8 (j+(e+2)) (.row r1 3 1) (vI t1) rfl jl k_,.wr 175 .i64 ((t1:Int)+c) (d:Int) Wx,.ix f178 176 8 L (j+(e+2)) o_ k_,.st f178 100176 3 8 (j+(e+2)) (.row r1 3 1) (vI d) (.row r9 3 1) rfl KB rfl k_,.rw 178 (dr (j+1)) (vI j) (eF j),.sum 180 j (e+2) (j+(e+2)) rfl o_,.ix f178 181 8 L (j+(e+2)) o_ k_,.ld f178 182 3 8 (j+(e+2)) (.row r9 3 1) (vI d) rfl Ep k_,.lt 183 d 0 false s_,.rw 223 (dr (j+1)) (vI j) (eF j),.ix f178 225 9 p j hj k_,.st f178 100225 3 9 j (.row p0 3 1) (vI q) (.row p1 3 1) rfl Ww rfl k_,.rw 74 (dr (j+1)) (vI j) (eF j),.wr 75 .i64 ((j:Int)-1) ((j:Int)-1) (pd o_)] k_
theorem aPf(h:Mc e L A V)(hp:p+(e+2)=L):
  ah prog Bs 238 (.block 0 (ag f178 0)) (Eo e L p p) (AK e L A V p p) 10 ⟨.normal,Eo e L p 0,AK e L A V p 0,10⟩:=by
 have:=cx (P:=prog) (B:=Bs) (N:=238) (b:=aI (ag f178 0)) (next:=10) (r:=⟨.exit 0,Eo e L p 0,AK e L A V p 0,10⟩) p (λi=>Eo e L p (p-i)) (λi=>AK e L A V p (p-i)) (λi t _=>kk (l:=AK e L A V p (p-i)) (m:=AK e L A V p (p-0)) rfl t)
  (λi hi=>by
   have e1:p-i=(p-(i+1))+1:=by omega
   simp only[e1];exact aO9 h hp o_)
  (by simp only[wi];exact aD [.rw 73 (.bool (decide (((0:Nat):Int)-1>=0))) a_ rfl]) n_
 exact cd (id:=0) this
end
def CE(w:h_)(v:i_)(a:Nat):Prop:=dp w v (nd bz a) (cJ a)
def vL(w w':h_)(v:i_)(a:Nat):Prop:=w'.ownsRow w.heap.size 3 1 v (nd bz a) (cJ a)
theorem Qz(hm:aO (aa.at w) ι c w'){n:Nat}{v:i_}(hk:c k=some (.row (av (ae bz n a)) 3 1))(ha:a<bz^n)(hv:aL ι (sl k (nd bz a)) v):vL w w' v a:=by have:=xm hm hk hv (GC ha) (mT _);rw[CA ha]at this;exact this
theorem CF{s:Nat}(h:s<bz):ae bz 1 s=[s]:=by simp[ae,dW h]
theorem vM{s:Nat}(h:s<bz)(h0:s≠0):nd bz s=1:=by have h3:=jw (B:=bz) (n:=1) d_ (by rw[BG];exact h);have h4:=xq (B:=bz) d_ h0;omega
theorem aPg{n:Nat}(h:A<bz^n):ae bz (n+2) A=ae bz n A++[0,0]:=by unfold ae;rw[show n+2=n+1+1 from rfl,K0,K0,sF,sF,E9];simp only[oZ,Tv,Dt,ju];rw[rH h (bF _) d_,rH h (zk _) d_]
theorem aPh{B:Nat}(hd:0<d)(nu:d<B)(he:B%2=0):B<=2*(d*(B/(d+1))):=by
 obtain⟨s,hs⟩:∃ s,s=B/(d+1):=⟨_,rfl⟩;rw[<-hs];have hdm:=jy B (d+1);have N8:=cP B (show 0<d+1 by omega);rw[<-hs]at hdm;have tX:0<s:=by rw[hs];exact Oi nu (TR d)
 rcases e9 (2*d) B with h|h
 ·apply Pm;intro al;have al:2*(d*s)+2<=B:=by omega
  obtain⟨X,hX⟩:∃ X,X=(d+1)*s:=⟨_,rfl⟩;rw[<-hX]at hdm;have h1:=eE (d+1) al;rw[fP,gh,gh d s,cX s,<-hX,o9 B,gP]at h1;have h2:=jN d (show B<=X+d by omega);rw[o9]at h2;obtain⟨k,hk⟩:∃ k,d=k+1:=⟨d-1,by omega⟩;have h3:=jN k (j5 h);have h4:d*B=k*B+B:=by rw[hk,fP,qB]
  have h5:k*(2*d)+2*d=2*(d*d):=by
   have:d*d=k*d+d:=by conv=>lhs;rw[hk,fP,qB,<-hk]
   rw[this,nt];omega
  rw[cX B d]at h1;omega
 ·have:=jN d tX;rw[gP]at this;have:d*1<=d*s:=jN d tX;omega
theorem Wy(h:decide (a<b)=t):Value.bool (decide (iv a b<0))=.bool t:=by
 rw[<-h];congr 1;rw[qx];unfold iv
 by_cases h1:a<b
 ·rw[aB h1];omega
 ·rw[az h1];by_cases h2:b<a
  ·rw[aB h2];omega
  ·rw[az h2];omega
theorem aWI{vb:i_}(gG:CE w va a)(lJ:CE w vb b)(b9:a<b)(h1:nd bz a<35184372088832)(h2:nd bz b<35184372088832):
  Calls prog 178 #[va,vb] w λe w'=>e=.returned (.tuple #[.slice none 0 0,va])/\Below w.heap.size w w':=by
 have hl:∀ s∈[cG.row va (nd bz a) (cJ a),cG.row vb (nd bz b) (cJ b)],s.OK w:=by
  intro s hs;simp at hs;rcases hs with rfl|rfl
  ·exact⟨gG,mT _⟩
  ·exact⟨lJ,mT _⟩
 refine l9 (Q:=λe w'=>e=.returned (.tuple #[.slice none 0 0,va])/\Below w.heap.size w w') mixed func178 [cG.row va (nd bz a) (cJ a),cG.row vb (nd bz b) (cJ b)] hl 200 (N:=238) k_
  (rs:=[(.I4 f178 23 0 1 a b (.view (cJ a)) (.view (cJ b)) rfl rfl rfl rfl h1 h2 k_:aY prog (aa.at w) 238),.rw 24 _ b_ (Wy (a:=a) (b:=b) (aJ b9))])
  (v:=.tuple #[.slice none 0 0,sl 0 (nd bz a)]) (ms:=[]) k_ λaA ct v' w' kA bJ _ dL=>⟨?_,bJ.base⟩
 obtain⟨cV,rfl,bh⟩:=kA.uR;obtain⟨p,q,hp,h3,h4⟩:=js bh;cases dL with
 |cons h5 _=>
 have:q=va:=J8 h4 h5;have e:cV=#[p,q]:=vW.1 (by rw[hp]);rw[e,h3.fD rfl,this]
theorem aXf{vb:i_}(gG:CE w va a)(lJ:CE w vb b)(b9:b<=a)(lp:b≠0)(hb:b<bz)(h1:nd bz a<35184372088832):
  Calls prog 178 #[va,vb] w λe w'=>∃ vq vr,e=.returned (.tuple #[vq,vr])/\vL w w' vq (a/b)/\vL w w' vr (a%b)/\Below w.heap.size w w':=by
 have c7:=vM hb lp;have ku:cJ b=[vI b]:=by unfold cJ;rw[c7,CF hb];rfl
 have FF:dp w vb 1 [vI b]:=by have:=lJ;unfold CE at this;rw[c7,ku]at this;exact this
 have hl:∀ s∈[cG.row va (nd bz a) (cJ a),cG.row vb 1 [vI b]],s.OK w:=by
  intro s hs;simp at hs;rcases hs with rfl|rfl
  ·exact⟨gG,mT _⟩
  ·exact⟨FF,λv hv=>by simp at hv;subst hv;rfl⟩
 have hr:a%b<bz:=mJ (cP _ (ue lp)) hb;have uG:a%b<bz^1:=by rw[BG];exact hr
 have lI:cI prog (aa.at w) (au f178 23) [.func (.func 134) #[] #[],sl 0 (nd bz a),sl 1 1] [(0,some (.view (cJ a))),(1,some (.view [vI b]))] (.int .i64 (iv a b)) []:=by have:=dD (B:=aa.at w) (o:=au f178 23) (x:=.func 134) (Wi (a:=a) (b:=b) h1 o_) (oe (k:=0) (x:=.view (cJ a)) rfl rfl (oe (k:=1) (x:=.view (cJ b)) rfl rfl .nil)) k_ k_ rfl;rw[c7,ku]at this;exact this
 refine l9 (Q:=λe w'=>∃ vq vr,e=.returned (.tuple #[vq,vr])/\vL w w' vq (a/b)/\vL w w' vr (a%b)/\Below w.heap.size w w') mixed func178 [cG.row va (nd bz a) (cJ a),cG.row vb 1 [vI b]] hl 200 (N:=238) k_
  (rs:=[(.step 23 (au f178 23) _ _ _ _ lI:aY prog (aa.at w) 238),.rw 24 _ a_ (Wy (a:=a) (b:=b) (bd o_)),.ld f178 33 3 1 0 (.view [vI b]) (vI b) rfl (by rw[Gv];rfl) k_,.step 34 (au f178 34) _ _ _ _ (P3 (x:=.func 207) (aDG (ue lp) hb h1) (oe (k:=0) (x:=.view (cJ a)) rfl rfl (.p (v:=vI b) rfl .nil)) k_ k_ (tC _) rfl 2),.bs f178 39 3 1 3 1 [0] (vI 0) [vI (a%b)] #[vI (a%b)] (.row (av (ae bz 1 (a%b))) 3 1) (by rw[CF hr];rfl) (λv hv=>by simp at hv;subst hv;rfl) (λv hv=>by simp at hv;subst hv;rfl) k_ rfl o_ o_ k_,.Ed f178 40 3 1 (a%b) (.row (av (ae bz 1 (a%b))) 3 1) rfl rfl uG o_ k_])
  (v:=.tuple #[sl 2 (nd bz (a/b)),sl 3 (nd bz (a%b))]) (ms:=[(2,jo (a/b)),(3,.row (av (ae bz 1 (a%b))) 3 1)]) k_ λaA ct v' w' kA bJ dP _=>?_
 obtain⟨cV,rfl,bh⟩:=kA.uR;obtain⟨p,q,hp,h3,h4⟩:=js bh;have e:cV=#[p,q]:=vW.1 (by rw[hp]);subst e;exact⟨p,q,rfl,Qz bJ (dP _ (aR ..)) (eB d_ _) h3,Qz bJ (dP _ (bI _ (aR ..))) uG h4,bJ.base⟩
theorem aXo{vb:i_}(gG:CE w va a)(lJ:CE w vb b)(b9:b<=a)(hb:nd bz b=e+2)(h1:nd bz a<17592186044000):
  Calls prog 178 #[va,vb] w λe w'=>∃ vq vr,e=.returned (.tuple #[vq,vr])/\vL w w' vq (a/b)/\vL w w' vr (a%b)/\Below w.heap.size w w':=by
 have kf:bz=16777216:=rfl;have al:=eB (B:=bz) d_ b;rw[hb]at al;have hp:0<bz^(e+1):=cO d_;have ga:bz^(e+1)<=b:=ZG d_ o_;have lp:0<b:=cF hp ga;obtain⟨d,hd⟩:∃ d,d=b/bz^(e+1):=⟨_,rfl⟩;have mh:b/bz^(e+1)%bz=d:=by rw[hd];exact Fj al
 have nu:d<bz:=by rw[<-mh];exact cP _ d_
 have DF:0<d:=by rw[hd];exact Oi ga hp
 obtain⟨s,hs⟩:∃ s,s=bz/(d+1):=⟨_,rfl⟩;have bT:=aPh DF nu d_;rw[<-hs]at bT;have qL:0<s:=by rw[hs];exact Oi nu (TR d)
 have V4:s*(d+1)<=bz:=by rw[hs];exact DA _ _
 have QA:s<bz:=by have:=jN s (show 2<=d+1 by omega);omega
 have xG:b*s<bz^(e+2):=by
  have h3:b<(d+1)*bz^(e+1):=by rw[hd];exact(iQ hp).1 (BO _)
  have h5:=BN h3 qL;have h6:=eE (bz^(e+1)) V4;rw[cX bz,<-dH]at h6;have e1:(d+1)*bz^(e+1)*s=s*(d+1)*bz^(e+1):=by rw[cX _ s,gh]
  rw[e1]at h5;exact cF h5 h6
 have aDP:b<=b*s:=Fw _ qL;have On:nd bz (b*s)=e+2:=aAk (jw d_ xG) (by rw[<-hb];exact jx d_ aDP);have xJ:bz<=2*(b*s/bz^(e+1)):=by
  have:d*s<=b*s/bz^(e+1):=by rw[Dz hp,BR];refine eE _ ?_;rw[hd];exact DA _ _
  omega
 obtain⟨n,hn⟩:∃ n,n=nd bz (a*s):=⟨_,rfl⟩;have hA:=eB (B:=bz) d_ (a*s);rw[<-hn]at hA;have hnb:n<=nd bz a+1:=by rw[hn];refine jw d_ ?_;rw[dH];exact qA (eB (B:=bz) d_ a) QA
 have aWm:e+2<=n:=by rw[hn,<-hb];exact jx d_ (dh b9 (Fw _ qL))
 obtain⟨p,GJ⟩:∃ p,p+(e+2)=n+2:=⟨n+2-(e+2),by omega⟩;have Wz:a*s<b*s*bz^p:=by have h3:bz^(e+1)*bz^p<=b*s*bz^p:=eE _ (dh ga aDP);rw[<-eU,show e+1+p=n+1 by omega]at h3;have h4:bz^n<=bz^(n+1):=di d_ (zk _);omega
 have dv:Mc e (n+2) (a*s) (b*s):=⟨xG,xJ,by omega,by rw[show n+2-(e+2)=p by omega];exact Wz,by omega⟩;have lo:=λBs=>aPf (Bs:=Bs) dv GJ;have hQ:a*s/(b*s)=a/b:=aAI _ _ qL;have TX:a*s%(b*s*bz^0)=a%b*s:=by rw[sS,gP,aAH]
 have TW:a*s%(b*s*bz^p)=a*s:=dW Wz;have KF:a/b<bz^p:=by rw[<-hQ,iQ dv.pos,cX (bz^p)];exact Wz
 have H7:a%b*s<bz^(n+2):=by have h3:a%b*s<=a*s:=eE _ (Kh _ _);have h4:bz^n<=bz^(n+2):=di d_ o_;omega
 have hnr:nd bz (a%b*s)<35184372088832:=by have:=jw (B:=bz) d_ H7;omega
 unfold AK at lo;rw[TW,TX,hQ,NS,Ki,<-LR]at lo;have hcA:cJ (a*s)++[vI 0,vI 0]=av (ae bz (n+2) (a*s)):=by unfold cJ av;rw[<-hn,aPg hA,sF];rfl
 have EU:=vM QA o_;have fZ:cJ s=[vI s]:=by unfold cJ;rw[EU,CF QA];rfl
 have ku:cJ b=av (ae bz (e+2) b):=by unfold cJ;rw[hb]
 have hcV:cJ (b*s)=av (ae bz (e+2) (b*s)):=by unfold cJ;rw[On]
 have FF:dp w vb (e+2) (av (ae bz (e+2) b)):=by have:=lJ;unfold CE at this;rw[hb,ku]at this;exact this
 have hl:∀ s∈[cG.row va (nd bz a) (cJ a),cG.row vb (e+2) (av (ae bz (e+2) b))],s.OK w:=by
  intro s hs;simp at hs;rcases hs with rfl|rfl
  ·exact⟨gG,mT _⟩
  ·exact⟨FF,mT _⟩
 have lI:cI prog (aa.at w) (au f178 23) [.func (.func 134) #[] #[],sl 0 (nd bz a),sl 1 (e+2)] [(0,some (.view (cJ a))),(1,some (.view (av (ae bz (e+2) b))))] (.int .i64 (iv a b)) []:=by have:=dD (B:=aa.at w) (o:=au f178 23) (x:=.func 134) (Wi (a:=a) (b:=b) o_ o_) (oe (k:=0) (x:=.view (cJ a)) rfl rfl (oe (k:=1) (x:=.view (cJ b)) rfl rfl .nil)) k_ k_ rfl;rw[hb,ku]at this;exact this
 have c7:cI prog (aa.at w) (au f178 52) [.func (.func 120) #[] #[],sl 1 (e+2),sl 2 1] [(3,none),(1,some (.view (av (ae bz (e+2) b)))),(2,some (.row [vI s] 3 1))] (sl 3 (e+2)) [(3,.row (av (ae bz (e+2) (b*s))) 3 1)]:=by have:=rS (B:=aa.at w) (o:=au f178 52) (x:=.func 120) (Wd (a:=b) (b:=s) o_) (oe (k:=1) (x:=.view (cJ b)) rfl rfl (oe (k:=2) (x:=.row (cJ s) 3 1) rfl rfl .nil)) k_ k_ (tC _) 3;rw[hb,ku,EU,fZ,On,hcV]at this;exact this
 have dI:cI prog (aa.at w) (au f178 58) [.func (.func 120) #[] #[],sl 0 (nd bz a),sl 2 1] [(5,none),(0,some (.view (cJ a))),(2,some (.row [vI s] 3 1))] (sl 5 n) [(5,.row (cJ (a*s)) 3 1)]:=by have:=rS (B:=aa.at w) (o:=au f178 58) (x:=.func 120) (Wd (a:=a) (b:=s) o_) (oe (k:=0) (x:=.view (cJ a)) rfl rfl (oe (k:=2) (x:=.row (cJ s) 3 1) rfl rfl .nil)) k_ k_ (tC _) 5;rw[EU,fZ,<-hn]at this;exact this
 have vK:∀(xr:ak),xr=av (ae bz (n+2) (a%b*s))->cI prog (aa.at w) (au f178 232) [.func (.func 207) #[] #[],sl 8 (nd bz (a%b*s)),vI s] [(10,none),(8,some (.row xr 3 1))] (.tuple #[sl 10 (nd bz (a%b)),vI 0]) [(10,jo (a%b))]:=by
  rintro xr rfl
  have hq:a%b*s/s=a%b:=S5 _ qL;have hz:a%b*s%s=0:=ZI _ _;have cq:=aDG (a:=a%b*s) qL QA hnr;rw[hq,hz]at cq;have DD:((Obj.row (av (ae bz (n+2) (a%b*s))) 3 1).cells.drop 0).take (nd bz (a%b*s))=cJ (a%b*s):=by rw[mI];have:=CA H7;rwa[gP]at this
  have zj:gA (aa.at w) [jT (a%b*s),.p (vI s)] [sl 8 (nd bz (a%b*s)),vI s] [(8,some (.row (av (ae bz (n+2) (a%b*s))) 3 1))]:=by unfold jT;rw[<-DD];exact .r (k:=8) (off:=0) (cc:=0) rfl (iJ _) (λh=>h) (.p rfl .nil)
  exact P3 (x:=.func 207) cq zj k_ k_ (tC _) rfl 10
 have w48:IntKind.i64.wrap (Int.tdiv ((bz:Nat):Int) ((d+1:Nat):Int))=(s:Int):=by rw[BD o_,<-ug,<-hs,eh];omega
 have aPi:∀ v∈cJ (a*s),v.oneCell'=true:=λv hv=>by unfold cJ av at hv;obtain⟨x,_,rfl⟩:=db.1 hv;rfl
 have hlen:(cJ (a*s)).length=n:=by rw[V1,hn]
 have lo:=lo (aa.at w);unfold Eo at lo;have hxr:=vK _ rfl;have lL:dM prog 3 (av (ae bz (e+2) b)) (e+1)=some (vI d):=by rw[<-mh];exact ew (eR o_)
 have Gh:nd bz (a%b*s)=nd bz (a%b*s):=rfl
 refine l9 (Q:=λe w'=>∃ vq vr,e=.returned (.tuple #[vq,vr])/\vL w w' vq (a/b)/\vL w w' vr (a%b)/\Below w.heap.size w w') mixed func178 [cG.row va (nd bz a) (cJ a),cG.row vb (e+2) (av (ae bz (e+2) b))] hl 400 (N:=238) k_
  (rs:=[(.step 23 (au f178 23) _ _ _ _ lI:aY prog (aa.at w) 238),.rw 24 _ a_ (Wy (a:=a) (b:=b) (bd o_)),.gO 28 (e+2) 1 false s_,.fq 44 (e+2) 1 (e+1) rfl o_,.ix f178 45 1 (e+2) (e+1) o_ k_,.ld f178 46 3 1 (e+1) (.view (av (ae bz (e+2) b))) (vI d) rfl lL k_,.sum 47 d 1 (d+1) rfl o_,.wh f178 48 .i64 ((bz:Nat):Int) ((d+1:Nat):Int) (s:Int) o_ w48 k_,.bs f178 49 2 1 3 1 [0] (vI 0) [vI s] #[vI s] (.row [vI s] 3 1) rfl (λv hv=>by simp at hv;subst hv;rfl) (λv hv=>by simp at hv;subst hv;rfl) k_ rfl o_ o_ k_,.step 52 (au f178 52) _ _ _ _ c7,.LW f178 55 4 3 1 (vI 0) k_,.step 58 (au f178 58) _ _ _ _ dI,.pP f178 59 6 4 0 n n 3 1 8 [] 5 (.row (cJ (a*s)) 3 1) (cJ (a*s)) (kB n) rfl (by rw[gP];exact hlen) rfl rfl aPi o_ (by simp[maxLen];omega) o_ k_,.bs f178 60 7 2 3 1 [0,1] (vI 0) [vI 0,vI 0] #[vI 0,vI 0] (.row [vI 0,vI 0] 3 1) rfl (λv hv=>by simp at hv;subst hv;rfl) (λv hv=>by simp at hv;subst hv;rfl) k_ rfl o_ o_ k_,.pP f178 61 8 6 n 2 (n+2) 3 1 8 (cJ (a*s)) 7 (.row [vI 0,vI 0] 3 1) (av (ae bz (n+2) (a*s))) rfl rfl rfl (by rw[gP];exact hlen) hcA (λv hv=>by simp[Obj.cells]at hv;subst hv;rfl) o_ (by simp[maxLen];omega) o_ k_,.fq 65 (n+2) (e+2) p o_ o_,.qy f178 66 9 p 3 8 (vI 0) (List.replicate p (vI 0)) rfl rfl rfl o_ (by simp[maxLen];omega) k_,.fq 70 (n+2) (e+2) p o_ o_,.wr 71 .i64 ((p:Int)-1) ((p:Int)-1) (pd o_),.code 0 _ _ _ _ _ lo,.Ed f178 228 8 (n+2) (a%b*s) (.row (av (ae bz (n+2) (a%b*s))) 3 1) rfl rfl H7 o_ k_,.ld f178 231 3 2 0 (.row [vI s] 3 1) (vI s) rfl (by rw[Gv];rfl) k_,.step 232 (au f178 232) _ _ _ _ hxr,.Ed f178 236 9 p (a/b) (.row (av (ae bz p (a/b))) 3 1) rfl rfl KF o_ k_])
  (v:=.tuple #[sl 9 (nd bz (a/b)),sl 10 (nd bz (a%b))]) (ms:=[(9,.row (av (ae bz p (a/b))) 3 1),(10,jo (a%b))]) k_ λaA ct v' w' kA bJ dP _=>?_
 obtain⟨cV,rfl,bh⟩:=kA.uR;obtain⟨p,q,hp,h3,h4⟩:=js bh;have e:cV=#[p,q]:=vW.1 (by rw[hp]);subst e;exact⟨p,q,rfl,Qz bJ (dP _ (aR ..)) KF h3,Qz bJ (dP _ (bI _ (aR ..))) (eB d_ _) h4,bJ.base⟩
section
variable{P:j_}{Bs B:aa}{N:Nat}
theorem aDQ{n:Nat}{vs:ak}{nd:q_}{x:m_}(h:lO P f l ty size n xs)(hs:gA B l vs nd)(ho:dF o.op=some x)(fe:gg P f=true)(hx:(xs.all flat)=true)(k:Nat):
  cI P B o (.func (.func f) #[] #[]::vs) ((k,none)::nd) (.slice (some ⟨k,0,some 7⟩) n 0) [(k,.view xs)]:=by
 have:=jY (P:=P) (B:=B) (o:=o) (x:=x) (f:=f) (fi:=[]) (args:=vs) (ca:=[]) (need:=(k,none)::nd) (val:=.slice (some ⟨k,0,some 7⟩) n 0) (cZ:=[(k,.view xs)]) ho fe ?_
 ·simpa using this
 ·intro ι c w hm hn args' ha;rw[ju,jO]at ha;refine(h w args' (Ch hs hm (λp hp=>hn p (bI _ hp)) ha)).mono ?_
  rintro e w' ⟨v,rfl,h1,h2⟩
  obtain⟨aA,q1,q2,q3⟩:=ZD hm h2 (k:=k) (hn (k,none) (aR ..)) h1 (bB.1 hx);exact⟨aA,v,rfl,q1,q3,q2⟩
def eD(a:Nat):Obj:=.view (cJ a)
def aY.aDR(fn:Func)(key k m:Nat)(h:nd 256 m<35184372088832)(ho:dF (au fn key).op=some (.func 119)):aY prog Bs N:=
 .step key (au fn key) [.func (.func 119) #[] #[],oI m] [(k,none)] (sl k (nd bz m)) [(k,eD m)] (aDQ (I3 h) (.p rfl .nil) ho k_ (tC m) k)
end
theorem aWX{y:m_}(ho:dF o.op=some y){kq kr:Nat}(hk:kr≠kq)(lp:b≠0)(h1:nd bz a<17592186044000)(h2:nd bz b<35184372088831):
  cI prog Bs o [.func (.func 178) #[] #[],sl k1 (nd bz a),sl k2 (nd bz b)] [(k1,some (eD a)),(k2,some (eD b)),(kq,none),(kr,none)] (.tuple #[sl kq (nd bz (a/b)),sl kr (nd bz (a%b))]) [(kr,eD (a%b)),(kq,eD (a/b))]:=by
 refine jY (fi:=[]) (ca:=[]) ho k_ λι c w hm hn args' bh=>?_;rw[ju,jO]at bh;obtain⟨va,vb,rfl,hv,il⟩:=js bh;have iq:c k1=some (eD a):=hn (k1,_) s_;have fO:c k2=some (eD b):=hn (k2,_) s_;have KI:c kq=none:=hn (kq,none) s_;have T0:c kr=none:=hn (kr,none) s_;have nin:∀{k a v},c k=some (eD a)->aL ι (sl k (nd bz a)) v->CE w v a:=λ{k a v} hk hv=>by have:=o7 (len:=nd bz a) hm hk rfl (mT _) (λh=>h) hv;rwa[mI,kG (by show(cJ a).length<=_;rw[V1];exact bF _)]at this
 have ha:=nin iq hv;have hb:=nin fO il;have fin:∀(w':h_) (vq vr:i_),Below w.heap.size w w'->(∃ bZ,Map.le ι bZ/\aO Bs bZ (bt c kq (eD (a/b))) w'/\aL bZ (sl kq (nd bz (a/b))) vq/\∃ dO,Map.le bZ dO/\aO Bs dO (bt (bt c kq (eD (a/b))) kr (eD (a%b))) w'/\aL dO (sl kr (nd bz (a%b))) vr)->
   ∃ aA v',Ending.returned (.tuple #[vq,vr])=.returned v'/\Map.le ι aA/\aL aA (.tuple #[sl kq (nd bz (a/b)),sl kr (nd bz (a%b))]) v'/\aO Bs aA (lZ c [(kr,eD (a%b)),(kq,eD (a/b))]) w':=by
  rintro w' vq vr gn ⟨bZ,q1,q2,q3,dO,s1,s2,s3⟩
  exact⟨dO,_,rfl,q1.trans s1,.tup (.cons (q3.mono s1) (.cons s3 .nil)),s2⟩
 have KJ:∀ x,bt c kq x kr=none:=λx=>by unfold bt;rw[az hk];exact T0
 have new:∀(w':h_) (vq vr:i_),Below w.heap.size w w'->vL w w' vq (a/b)->vL w w' vr (a%b)->(∃ bZ,Map.le ι bZ/\aO Bs bZ (bt c kq (eD (a/b))) w'/\aL bZ (sl kq (nd bz (a/b))) vq/\∃ dO,Map.le bZ dO/\aO Bs dO (bt (bt c kq (eD (a/b))) kr (eD (a%b))) w'/\aL dO (sl kr (nd bz (a%b))) vr):=by intro w' vq vr gn h3 h4;have bJ:=hm.call gn;obtain⟨bZ,q1,q2,q3⟩:=Oq bJ KI h3 (mT _) (Ot hm);obtain⟨dO,s1,s2,s3⟩:=Oq q2 (KJ _) h4 (mT _) (aAV bJ q1 (Ot hm));exact⟨bZ,q1,q2,q3,dO,s1,s2,s3⟩
 by_cases b9:a<b
 ·have e1:a/b=0:=mH b9;have e2:a%b=a:=dW b9;refine(aWI ha hb b9 o_ o_).mono ?_
  rintro e w' ⟨rfl,gn⟩
  refine fin w' _ _ gn ?_;have bJ:=hm.call gn;obtain⟨bZ,q1,q2,q3⟩:=zu (xs:=[]) (n:=0) (v:=.slice none 0 0) bJ KI (.inl ⟨rfl,rfl,rfl⟩) n_ n_;have ez:eD (a/b)=.view []:=by unfold eD cJ;rw[e1,oG];rfl
  have en:nd bz (a/b)=0:=by rw[e1,oG]
  rw[ez,en,e2];have T1:dp w' va (nd bz a) (cJ a):=dp.jJ ha gn;obtain⟨dO,s1,s2,s3⟩:=zu q2 (KJ _) T1 (mT _) (λb o c' e j y o' aQ hj hy he=>by
   have BL:c j=some y:=by
    unfold bt at hj;by_cases cg:j=kq
    ·rw[aB cg]at hj;injection hj with hj;subst hj;cases hy
    ·rw[az cg]at hj;exact hj
   obtain⟨l,e1,_⟩:=hm.born j y BL;have e2:=q1 j l e1;rw[he]at e2;injection e2 with e2;subst e2;subst e;rcases hv.iC rfl with ⟨_,_,_,_,e⟩|⟨b',o2,ql,c2,gE,_,_,e⟩
   ·cases e
   ·injection e with e _ _;injection e with e;injection e with e _ _;subst e;exact(hm.seen k1 _ _ _ _ iq rfl gE).2 j y _ _ BL hy e1)
  exact⟨bZ,q1,q2,q3,dO,s1,s2,s3⟩
 ·have KK:b<=a:=Kz.1 b9;have go:Calls prog 178 #[va,vb] w λe w'=>∃ vq vr,e=.returned (.tuple #[vq,vr])/\vL w w' vq (a/b)/\vL w w' vr (a%b)/\Below w.heap.size w w':=by
   by_cases al:b<bz
   ·exact aXf ha hb KK lp al o_
   ·have h3:2<=nd bz b:=by
     rcases e9 (nd bz b) 2 with h|h
     ·have h4:=eB (B:=bz) d_ b;have h5:bz^nd bz b<=bz^1:=di d_ o_;rw[BG]at h5;omega
     ·exact h
    exact aXo (e:=nd bz b-2) ha hb KK o_ h1
  refine go.mono ?_
  rintro e w' ⟨vq,vr,rfl,h3,h4,gn⟩
  exact fin w' _ _ gn (new w' vq vr gn h3 h4)
theorem aPj(n1 n2:Bool)(a b:Nat):(sg n1 a).tdiv (sg n2 b)=sg (n1 !=n2) (a/b):=by cases n1<;>cases n2<;>simp[sg,Int.neg_tdiv,Int.tdiv_neg]
theorem aPk(n1 n2:Bool)(a b:Nat):(sg n1 a).tmod (sg n2 b)=sg n1 (a%b):=by cases n1<;>cases n2<;>simp[sg,Int.neg_tmod,Int.tmod_neg]<;>exact zL o_
theorem aPl{x:Int}(h1:-4611686018427387904<=x)(h2:x<=4611686018427387903):IntKind.i64.wrap x=x:=by rw[eh];omega
theorem WA:nd bz 1=1/\cJ 1=[vI 1]:=by have h:=vM (s:=1) d_ d_;exact⟨h,by unfold cJ;rw[h,CF d_];rfl⟩
theorem WB{n:Bool}(h:n=true->m≠0):decide (sg n m<0)=n:=by
 cases n
 ·exact bd (by simp[sg])
 ·exact aJ (by have:=h rfl;simp[sg];omega)
theorem aPm(n:Bool)(m:Nat):(sg n m !=0)=decide (m≠0):=by
 by_cases h:m=0
 ·subst h;cases n<;>rfl
 ·rw[aJ h,rJ];cases n<;>simp[sg]<;>omega
theorem aW4{x y:Int}{p:Nat}(hy:y≠0)(h1:x.natAbs<2^p)(h2:y.natAbs<2^q)(hp:p<=1099511627774)(hq:q<=1099511627774):
  aG prog 137 [aX x,aX y] (.tuple #[aX (x.fdiv y),aX (x.fmod y),.int .i64 0]):=by
 revert hy h1 h2;refine FI (C:=λx y v u=>y≠0->x.natAbs<2^p->y.natAbs<2^q->aG prog 137 [v,u] (.tuple #[aX (x.fdiv y),aX (x.fmod y),.int .i64 0])) (λn1 n2 m1 m2 v1 v2 hy h1 h2=>?_) x y;rw[qJ]at h1 h2;have Ic:m2≠0:=by intro e;rw[e]at hy;cases n2<;>exact hy rfl
 have b1:=yw h1;have b2:=yw h2;have c1:=wm h1;have c2:=wm h2;obtain⟨Q,hQ⟩:∃ Q,Q=m1/m2:=⟨_,rfl⟩;obtain⟨R,hR⟩:∃ R,R=m1%m2:=⟨_,rfl⟩;have KM:m1=Q*m2+R:=by rw[hQ,hR,cX];exact(jy _ _).symm
 have FL:R<m2:=by rw[hR];exact cP _ (ue Ic)
 have T8:Q<=m1:=by rw[hQ];exact uh _ _
 have fG:((Q*m2:Nat):Int)=(Q:Int)*m2:=oy ..;have fix:R≠0->n1≠n2->(sg n1 m1).fdiv (sg n2 m2)=sg true (Q+1)/\(sg n1 m1).fmod (sg n2 m2)=sg n2 (m2-R):=λvo bw=>by
  refine Oy ?_ ?_
  ·rw[KM];have e:((m2-R:Nat):Int)=(m2:Int)-R:=by omega
   cases n1<;>cases n2<;>first|exact absurd rfl bw|(simp only[sg,rz,vk,vj,wj,fG,e,H8,H9,KH,Int.add_mul];omega)
  ·cases n2
   ·left;simp only[sg,vk,vj];omega
   ·right;simp only[sg,rz];omega
 have aPn:¬(R≠0/\n1≠n2)->(sg n1 m1).fdiv (sg n2 m2)=sg (n1 !=n2) Q/\(sg n1 m1).fmod (sg n2 m2)=sg n2 R:=λh=>by
  have h0:n1≠n2->R=0:=λbw=>iP λh3=>h ⟨h3,bw⟩;refine Oy ?_ ?_
  ·rw[KM];cases n1<;>cases n2<;>simp only[sg,Bool.bne_false,Bool.bne_true,Km,NX,rz,vk,vj,wj,fG,H8,H9,KH]<;>first|omega|(have:=h0 n_;omega)
  ·cases n2
   ·left;simp only[sg,vk,vj];omega
   ·right;simp only[sg,rz];omega
 have w1:=aWO n1 v1;have w2:=aWO n2 v2;have e26:((BA (cM m2)).toList==(ByteArray.mk #[]).toList)=false:=by rw[qH,bd Ic]
 have r2:=L9 m2;obtain⟨tR,vo⟩:∃ t,decide (R≠0)=t:=⟨_,rfl⟩;have fx:(sg n1 m1).fdiv (sg n2 m2)=(bif tR&&(n1 !=n2)then sg true (Q+1)else sg (n1 !=n2) Q)/\(sg n1 m1).fmod (sg n2 m2)=(bif tR&&(n1 !=n2)then sg n2 (m2-R)else sg n2 R):=by
  by_cases hf:R≠0/\n1≠n2
  ·rw[<-vo,aJ hf.1,rJ.2 hf.2];exact fix hf.1 hf.2
  ·rw[show(tR&&(n1 !=n2))=false from aDS.2 λh=>by rw[de,<-vo]at h;exact hf ⟨kp h.1,rJ.1 h.2⟩]
   exact aPn hf
 obtain⟨t1,i1,d1,q1,_,_,g1⟩:=I6 v1;obtain⟨t2,i2,d2,q2,_,_,g2⟩:=I6 v2;have e39:decide (((nd 256 m2:Nat):Int)<=7)=t2:=by rw[<-d2];exact qx.2 o_
 by_cases hs:t1=true/\t2=true
 ·obtain⟨rfl,rfl⟩:=hs;obtain rfl:=g1 rfl;obtain rfl:=g2 rfl;have l1:=L8 (kp d1);have l2:=L8 (kp d2);have td:=aPj n1 n2 m1 m2;have tm:=aPk n1 n2 m1 m2;rw[<-hQ]at td;rw[<-hR]at tm;have gx:=I5 n1 m1;have gq:=I5 (n1 !=n2) Q;have t52:=(aPm n1 R).trans vo;have t55:=WB v1;have t57:=WB v2;have wq:IntKind.i64.wrap ((sg n1 m1).tdiv (sg n2 m2))=sg (n1 !=n2) Q:=by rw[td,eh];omega
  have bk:=Int.mul_fdiv_add_fmod (sg n1 m1) (sg n2 m2);have e1:(bif tR&&(n1 !=n2)then sg true (Q+1)else sg (n1 !=n2) Q)=bif tR&&(n1 !=n2)then sg (n1 !=n2) Q-1 else sg (n1 !=n2) Q:=by cases tR<;>cases n1<;>cases n2<;>first|rfl|(simp[sg];omega)
  have gr:-(m2:Int)<=(bif tR&&(n1 !=n2)then sg n2 (m2-R)else sg n2 R)/\(bif tR&&(n1 !=n2)then sg n2 (m2-R)else sg n2 R)<=m2:=by have h1:=I5 n2 (m2-R);have h2:=I5 n2 R;cases tR&&(n1 !=n2)<;>(dsimp only[cond];omega)
  rw[fx.1,fx.2,e1]at bk;rw[fx.1,fx.2,e1];have gz:-4611686018427387904<=(bif tR&&(n1 !=n2)then sg (n1 !=n2) Q-1 else sg (n1 !=n2) Q)/\(bif tR&&(n1 !=n2)then sg (n1 !=n2) Q-1 else sg (n1 !=n2) Q)<=4611686018427387903:=by cases tR&&(n1 !=n2)<;>(dsimp only[cond];omega)
  rw[T6]at bk;generalize (bif tR&&(n1 !=n2)then sg n2 (m2-R)else sg n2 R)=rr at *;generalize sg (n1 !=n2) Q=q0 at *;generalize sg n1 R=r0 at *;generalize sg n1 m1=X at *;generalize sg n2 m2=Y at *;have w67:IntKind.i64.wrap ((bif tR&&(n1 !=n2)then q0-1 else q0)*Y)=(bif tR&&(n1 !=n2)then q0-1 else q0)*Y:=by rw[eh];omega
  have w68:IntKind.i64.wrap (X-(bif tR&&(n1 !=n2)then q0-1 else q0)*Y)=rr:=by rw[eh];omega
  have o1:=aXq (z:=bif tR&&(n1 !=n2)then q0-1 else q0) o_ o_;refine eY mixed func137 100 (λw=>[w1.at 15,w2.at 19,.rw 26 (.bool ((BA (cM m2)).toList==(ByteArray.mk #[]).toList)) a_ (by rw[e26]),q1.at 31,.rw 38 _ (vI (nd 256 m2)) r2,.rw 39 (.bool (decide (((nd 256 m2:Nat):Int)<=7))) b_ (by rw[e39]),q2.at 43,.wh f137 48 .i64 X Y _ hy wq k_,.Fq f137 51 .i64 X Y _ hy tm k_,.rw 52 (.bool (r0 !=0)) (.bool tR) (by rw[t52])]++(bif tR then[.rw 55 (.bool (decide (X<0))) (.bool n1) (by rw[t55]),.rw 57 (.bool (decide (Y<0))) (.bool n2) (by rw[t57])]++(bif n1 !=n2 then[.wr 61 .i64 (q0-1) (q0-1) (aPl o_ o_)]else[])else[])++[o1.at 63,.wr 67 .i64 _ _ w67,.wr 68 .i64 _ rr w68,(aXq (z:=rr) o_ o_).at 69]) (λ_=>?_) k_ ?_<;>cases tR<;>cases n1<;>cases n2<;>kernel_rfl
 ·have bQ:nd bz Q<1099511627776:=by have:=jx (B:=bz) d_ T8;omega
  have bR:nd bz R<1099511627776:=by have:=jx (B:=bz) d_ (j5 FL);omega
  have bD:nd bz (m2-R)<1099511627776:=by have:=jx (B:=bz) d_ (FH m2 R);omega
  have bQ1:nd bz (Q+1)<1099511627776:=Wl (k:=p+1) (by rw[dH];omega) o_;have H6:∀ w,cI prog (aa.at w) (au f137 77) [.func (.func 178) #[] #[],sl 4 (nd bz m1),sl 5 (nd bz m2)] [(4,some (eD m1)),(5,some (eD m2)),(6,none),(7,none)] (.tuple #[sl 6 (nd bz Q),sl 7 (nd bz R)]) [(7,eD R),(6,eD Q)]:=λw=>by rw[hQ,hR];exact aWX (Bs:=aa.at w) (o:=au f137 77) (y:=.func 178) k_ (k1:=4) (k2:=5) (kq:=6) (kr:=7) d_ Ic o_ o_
  have Me:∀ w,cI prog (aa.at w) (au f137 92) [.func (.func 132) #[] #[],sl 6 (nd bz Q),sl 8 1] [(9,none),(6,some (eD Q)),(8,some (.row [vI 1] 3 1))] (sl 9 (nd bz (Q+1))) [(9,jo (Q+1))]:=λw=>by have:=rS (B:=aa.at w) (o:=au f137 92) (x:=.func 132) (aDt (a:=Q) (b:=1) o_ (by rw[WA.1];omega)) (oe (k:=6) (x:=eD Q) rfl rfl (oe (k:=8) (x:=.row (cJ 1) 3 1) rfl rfl .nil)) k_ k_ (tC _) 9;rw[WA.1,WA.2]at this;exact this
  have H3:decide (0<nd bz R)=tR:=by have:(0<nd bz R)↔R≠0:=⟨λh e=>by rw[e,oG]at h;omega,λh=>xq d_ h⟩;rw[qx.2 this,vo]
  rw[fx.1,fx.2];refine eY mixed func137 100 (λw=>[w1.at 15,w2.at 19,.rw 26 (.bool ((BA (cM m2)).toList==(ByteArray.mk #[]).toList)) a_ (by rw[e26]),q1.at 31]++(bif t1 then[.rw 38 _ (vI (nd 256 m2)) r2,.rw 39 (.bool (decide (((nd 256 m2:Nat):Int)<=7))) (.bool t2) (by rw[e39])]else[])++[.aDR f137 73 4 m1 o_ k_,.aDR f137 76 5 m2 o_ k_,.step 77 _ _ _ _ _ (H6 w)]++(bif n1 !=n2 then[.gt 88 (nd bz R) 0 tR H3]else[])++
    bif tR&&(n1 !=n2)then[.bs f137 91 8 1 3 1 [0] (vI 0) [vI 1] #[vI 1] (.row [vI 1] 3 1) rfl (λv hv=>by simp at hv;subst hv;rfl) (λv hv=>by simp at hv;subst hv;rfl) k_ rfl o_ o_ k_,.step 92 (au f137 92) _ _ _ _ (Me w),.yv f137 95 10 m2 o_ k_,.L7 f137 97 11 10 7 m2 R (jo m2) (eD R) rfl rfl rfl rfl (j5 FL) o_ k_,.AG f137 104 9 (Q+1) true (jo (Q+1)) rfl rfl o_ k_,.AG f137 108 11 (m2-R) n2 (jo (m2-R)) rfl rfl o_ k_]
    else[.AG f137 104 6 Q (n1 !=n2) (eD Q) rfl rfl o_ k_,.AG f137 108 7 R n2 (eD R) rfl rfl o_ k_]) (λ_=>?_) k_ ?_<;>cases t1<;>cases t2<;>first|exact absurd ⟨rfl,rfl⟩ hs|(cases tR<;>cases n1<;>cases n2<;>kernel_rfl)

theorem aPo{y:m_}(ho:dF o.op=some y){n:Nat}{x:Obj}(hx:x.reads=true)(cR:(x.cells.all flat)=true)(hc:(x.cells.drop off).take n=av (ae bz n a))(ha:a<bz^n)(h63:n<=9223372036854775807):
  cI prog Bs o [.func (.func 138) #[] #[],.slice (some ⟨k,off,some 7⟩) n cc] [(k,some x)] (.slice (some ⟨k,off,some 7⟩) (nd bz a) cc) []:=by
 refine jY (fi:=[]) (ca:=[]) ho k_ λι c w hm hn args' dL=>?_;obtain⟨v,rfl,h1⟩:=nP dL;have hk:c k=some x:=hn _ (aR ..);have hr:=o7 (len:=n) hm hk hx (bB.1 cR) (λh=>h) h1;rw[hc]at hr;refine(aC5 hr ha h63).mono ?_
 rintro e w' ⟨rfl,hb⟩
 refine⟨ι,_,rfl,Map.le.refl _,?_,hm.call hb⟩;have fv:=jw (B:=bz) d_ ha;rcases h1.iC rfl with ⟨q1,q2,q3,q4,q5⟩|⟨b,oo,cap,c',q1,q2,q3,q5⟩
 ·rw[q5];have:nd bz a=0:=by omega
  dsimp only at q4;rw[this,q4,q3];exact .slcN q1
 ·rw[q5];exact .slc q1 o_ q3
theorem aPp(x:Int):IntKind.i64.wrap (((BitVec.ofInt IntKind.i64.bits x)&&& (BitVec.ofInt IntKind.i64.bits 1)).toNat:Int)=x%2:=aDF x 1 d_
theorem aDT(x:Nat):IntKind.i64.wrap (((BitVec.ofInt IntKind.i64.bits (x:Int))&&& (BitVec.ofInt IntKind.i64.bits 1)).toNat:Int)=((x%2:Nat):Int):=by rw[aPp];rfl
theorem aPq{n z:Nat}(hz:z<=n)(h0:∀ i,i<z->a/bz^i%bz=0):ae bz n a=List.replicate z 0++ae bz (n-z) (a/bz^z):=by
 apply xt
 ·simp[o8];omega
 ·intro i h1 h2;rw[o8]at h1;by_cases hi:i<z
  ·rw[List.getElem_append_left (by simpa using hi)];simp only[ae,C9,Da,List.getElem_replicate];exact h0 i hi
  ·rw[List.getElem_append_right (by simp;omega)];simp only[ae,C9,Da,I2];rw[lg,<-eU,show z+(i-z)=i by omega]
theorem aDU{a:Nat}:∀ z,(∀ i,i<z->a/bz^i%bz=0)->a%bz^z=0
 |0,_=>by rw[sS,uf]
 |z+1,h=>by rw[pM,aDU z (λi hi=>h i o_),h z o_];simp
theorem WC{d:Nat}:∀ r,(∀ i,i<r->d/2^i%2=0)->d%2^r=0
 |0,_=>by rw[sS,uf]
 |r+1,h=>by have e:=pM (B:=2) d r;rw[WC r (λi hi=>h i o_),h r o_]at e;rw[e];simp
theorem aPr{x y:Nat}(hr:r<=24)(hx:x<bz)(hy:y<bz):x/2^r+y*2^(24-r)%bz=(y*bz+x)/2^r%bz:=by
 have hb:bz=2^(24-r)*2^r:=by rw[<-eU,show 24-r+r=24 by omega]
 have h2:0<2^r:=cO d_;obtain⟨c,hc⟩:∃ c,c=2^(24-r):=⟨_,rfl⟩;obtain⟨q,hq⟩:∃ q,q=2^r:=⟨_,rfl⟩;rw[<-hc,<-hq]at hb;rw[<-hc,<-hq];rw[<-hq]at h2;have h3:x/q<c:=by rw[iQ h2,<-hb];exact hx
 have e1:(y*bz+x)/q=y*c+x/q:=by rw[hb,<-gh,nr,pN _ _ h2,nr]
 have e2:y*c%bz=c*(y%q):=by rw[hb,cX y c,Nat.mul_mod_mul_left]
 have e3:y*c=c*(y%q)+bz*(y/q):=by have:=jy y q;rw[hb,gh,<-o9,nr,this,cX]
 have h4:y%q<q:=cP _ h2;have h5:c*(y%q)+c<=bz:=by rw[hb,<-NP];exact jN _ h4
 have h6:c*(y%q)+x/q<bz:=by omega
 rw[e1,e2,e3,show c*(y%q)+bz*(y/q)+x/q=(c*(y%q)+x/q)+bz*(y/q)by omega,Fl,dW h6];omega
section
variable{Bs:aa}{n a z r:Nat}
def yA(k n z:Nat):Value:=.slice (some ⟨k,z*1,some 7⟩) n z
def yB(n i:Nat):aT:=[(0,yA 0 (n-i) i),(4,vI (24*i))]
def nJ(n a:Nat):aM:=[(0,.row (av (ae bz n a)) 3 1)]
theorem aPs(hi:i+1<n)(h0:a/bz^i%bz=0)(h63:n<35184372088832):
  ah prog Bs 62 (aI (ag f133 0)) (yB n i) (nJ n a) 1 ⟨.normal,yB n (i+1),nJ n a,1⟩:=by
 have jl:dM prog 3 (av (ae bz n a)) (i*1)=some (vI 0):=by rw[gP,ew (eR o_),h0]
 unfold yB nJ yA;generalize av (ae bz n a)=r0 at *;obtain⟨m,hm⟩:∃ m,n-i=m+1:=⟨n-i-1,by omega⟩;have dI:n-(i+1)=m:=by omega
 rw[hm,dI];exact aD [.qa f133 8 0 i (m+1) i 0 i 1 o_ (jg i) k_,.ld f133 9 3 0 (i*1) (.row r0 3 1) (vI 0) rfl jl k_,.gO 10 0 0 true rfl,.next f133 12 0 i m 1 o_ k_,.sum 14 (24*i) 24 (24*(i+1)) o_ o_]
theorem aPt(hi:i<n)(h0:a/bz^i%bz≠0):
  ah prog Bs 62 (aI (ag f133 0)) (yB n i) (nJ n a) 1 ⟨.exit 0,yB n i,nJ n a,1⟩:=by
 have jl:dM prog 3 (av (ae bz n a)) (i*1)=some (vI (a/bz^i%bz)):=by rw[gP,ew (eR o_)]
 unfold yB nJ yA;generalize av (ae bz n a)=r0 at *;generalize a/bz^i%bz=d at *;exact aD [.qa f133 8 0 i (n-i) i 0 i 1 o_ (jg i) k_,.ld f133 9 3 0 (i*1) (.row r0 3 1) (vI d) rfl jl k_,.gO 10 d 0 false (bd h0)]
theorem aPu(hz:z<n)(h0:∀ i,i<z->a/bz^i%bz=0)(h1:a/bz^z%bz≠0)(h63:n<35184372088832):
  ah prog Bs 62 (.block 0 (ag f133 0)) (yB n 0) (nJ n a) 1 ⟨.normal,yB n z,nJ n a,1⟩:=
 cd (id:=0) (cx (b:=aI (ag f133 0)) (r:=⟨.exit 0,yB n z,nJ n a,1⟩) z (yB n) (λ_=>nJ n a) (λ_ _ _=>Iff.rfl) (λi hi=>aPs o_ (h0 i hi) h63) (aPt hz h1) n_)
def yC(n z i:Nat):aT:=[(0,yA 0 (n-z) z),(5,vI i)]
theorem aPv(hz:z<n)(hd:a/bz^z%bz=d)(Er:d<bz)(hi:i<24)(h0:d/2^i%2=0):
  ah prog Bs 62 (aI (ag f133 2)) (yC n z i) (nJ n a) 1 ⟨.normal,yC n z (i+1),nJ n a,1⟩:=by
 have jl:dM prog 3 (av (ae bz n a)) (z*1)=some (vI d):=by rw[gP,ew (eR o_),hd]
 unfold yC nJ yA;generalize av (ae bz n a)=r0 at *;exact aD [.qa f133 16 0 z (n-z) z 0 z 1 o_ (jg z) k_,.ld f133 17 3 0 (z*1) (.row r0 3 1) (vI d) rfl jl k_,.shr f133 19 .i64 (d:Int) ((d/2^i:Nat):Int) i (by rw[show min i IntKind.i64.bits=i from oz (show i<=64 by omega),sR _ (HR d_),ug,HT];rfl) k_,.wr 20 .i64 _ ((d/2^i%2:Nat):Int) (aDT _),.gO 21 (d/2^i%2) 0 true (aJ h0),.sum 23 i 1 (i+1) rfl o_]
theorem aPw(hz:z<n)(hd:a/bz^z%bz=d)(Er:d<bz)(hi:i<24)(h0:d/2^i%2≠0):
  ah prog Bs 62 (aI (ag f133 2)) (yC n z i) (nJ n a) 1 ⟨.exit 2,yC n z i,nJ n a,1⟩:=by
 have jl:dM prog 3 (av (ae bz n a)) (z*1)=some (vI d):=by rw[gP,ew (eR o_),hd]
 unfold yC nJ yA;generalize av (ae bz n a)=r0 at *;exact aD [.qa f133 16 0 z (n-z) z 0 z 1 o_ (jg z) k_,.ld f133 17 3 0 (z*1) (.row r0 3 1) (vI d) rfl jl k_,.shr f133 19 .i64 (d:Int) ((d/2^i:Nat):Int) i (by rw[show min i IntKind.i64.bits=i from oz (show i<=64 by omega),sR _ (HR d_),ug,HT];rfl) k_,.wr 20 .i64 _ ((d/2^i%2:Nat):Int) (aDT _),.gO 21 (d/2^i%2) 0 false (bd h0)]
theorem aPx(hz:z<n)(hd:a/bz^z%bz=d)(Er:d<bz)(hr:r<24)(h0:∀ i,i<r->d/2^i%2=0)(h1:d/2^r%2≠0):
  ah prog Bs 62 (.block 2 (ag f133 2)) (yC n z 0) (nJ n a) 1 ⟨.normal,yC n z r,nJ n a,1⟩:=
 cd (id:=2) (cx (b:=aI (ag f133 2)) (r:=⟨.exit 2,yC n z r,nJ n a,1⟩) r (yC n z) (λ_=>nJ n a) (λ_ _ _=>Iff.rfl) (λi hi=>aPv hz hd Er o_ (h0 i hi)) (aPw hz hd Er hr h1) n_)
def Es(l z r i:Nat):aT:=[(0,yA 0 l z),(5,vI r),(6,vI i)]
def pA(l z r a1 i:Nat):List Nat:=List.replicate z 0++dc bz l i (a1/2^r) a1
def AL(l z r a1 i:Nat):aM:=[(0,.row (av (pA l z r a1 i)) 3 1)]
theorem aDV{l:Nat}(hj:j<l)(h:i<=j):(pA l z r a1 i)[z+j]?=some (a1/bz^j%bz):=by unfold pA;rw[E2 s_,I2,Fy];exact Db hj h
theorem aDW{l:Nat}(hi:i<l)(hd:d=a1/2^r/bz^i%bz):(pA l z r a1 i).set (z+i) d=pA l z r a1 (i+1):=by unfold pA;rw[VN _ _ s_,I2,Fy,zz hi hd]
theorem WD{l:Nat}:(pA l z r a1 i).length=z+l:=by unfold pA;rw[lF,I2,xu]
theorem aPy{l:Nat}(hr:r<24)(hi:i<l)(ha:a1<bz^l)(h63:z+l<35184372088832):
  ah prog Bs 62 (aI (ag f133 4)) (Es l z r i) (AL l z r a1 i) 1 ⟨.normal,Es l z r (i+1),AL l z r a1 (i+1),1⟩:=by
 have hx:=iu (B:=bz) d_ a1 i;have hy:=iu (B:=bz) d_ a1 (i+1);have vK:=aPr (r:=r) o_ hx hy;rw[aAF (B:=bz) (k:=r) (X:=a1) (i:=i) d_ ⟨2^(24-r),by rw[<-eU,show r+(24-r)=24 by omega]⟩]at vK;have hw:=iu (B:=bz) d_ (a1/2^r) i;have hlx:dM prog 3 (av (pA l z r a1 i)) ((z+i)*1)=some (vI (a1/bz^i%bz)):=by rw[gP];exact ew (aDV hi (bF _))
 obtain⟨oQ,D8⟩:∃ oQ,oQ=(pA l z r a1 i).set (z+i) (a1/bz^i%bz/2^r):=⟨_,rfl⟩;have tX:fp prog 3 (av (pA l z r a1 i)) ((z+i)*1) (vI (a1/bz^i%bz/2^r))=some (av oQ):=by rw[gP,wP (by rw[WD];omega),D8]
 have Ep:dM prog 3 (av oQ) ((z+i)*1)=some (vI (a1/bz^i%bz/2^r)):=by rw[gP];refine ew ?_;rw[D8,List.getElem?_set_self (by rw[WD];omega)]
 have WE:i+1<l->dM prog 3 (av oQ) ((z+(i+1))*1)=some (vI (a1/bz^(i+1)%bz)):=λh=>by rw[gP];refine ew ?_;rw[D8,List.getElem?_set_ne o_];exact aDV h o_
 have u4:fp prog 3 (av oQ) ((z+i)*1) (vI (a1/2^r/bz^i%bz))=some (av (pA l z r a1 (i+1))):=by rw[gP,wP (by rw[D8,Wt,WD];omega),D8,List.set_set,aDW hi rfl]
 have pO:¬i+1<l->av oQ=av (pA l z r a1 (i+1))/\True:=λh=>by have h0:a1/bz^(i+1)%bz=0:=rH ha o_ d_;rw[h0,kQ,Nat.zero_mod,jg]at vK;refine⟨?_,trivial⟩;rw[D8,vK,aDW hi rfl]
 have kf:bz=16777216:=rfl;unfold Es AL yA;generalize av (pA l z r a1 (i+1))=r2 at *;generalize av (pA l z r a1 i)=r0 at *;generalize av oQ=r1 at *;generalize a1/2^r/bz^i%bz=w at *;generalize a1/bz^(i+1)%bz=y at *;generalize a1/bz^i%bz=x at *;have hq:(x:Int).fdiv (2^(min r IntKind.i64.bits))=((x/2^r:Nat):Int):=by rw[show min r IntKind.i64.bits=r from oz (show r<=64 by omega),sR _ (HR d_),ug,HT];rfl
 have hxq:x/2^r<=x:=uh _ _;by_cases hl:i+1<l
 ·have WE:=WE hl;have h24:y*2^(24-r)<281474976710656:=by have h1:2^(24-r)<=2^24:=di d_ o_;have h2:=aAJ hy h1 d_;rw[show bz*2^24=281474976710656 by decide]at h2;exact h2
  have aDX:IntKind.i64.wrap ((y:Int)*2^(min (24-r) IntKind.i64.bits))=((y*2^(24-r):Nat):Int):=by
   have e:(y:Int)*2^(24-r)=((y*2^(24-r):Nat):Int):=by simp
   rw[show min (24-r) IntKind.i64.bits=24-r from oz (show 24-r<=64 by omega),eh,e];omega
  obtain⟨g,hg⟩:∃ g,g=y*2^(24-r):=⟨_,rfl⟩;rw[<-hg]at vK aDX h24;obtain⟨v,hv⟩:∃ v,v=x/2^r:=⟨_,rfl⟩;rw[<-hv]at vK hq hxq tX Ep;exact fF mixed 200 [.lt 27 i l true (by simp[hi]),.qa f133 32 0 z l z i (z+i) 1 hi rfl k_,.ld f133 33 3 0 ((z+i)*1) (.row r0 3 1) (vI x) rfl hlx k_,.shr f133 35 .i64 (x:Int) (v:Int) r hq k_,.qa f133 36 0 z l z i (z+i) 1 hi rfl k_,.st f133 100036 3 0 ((z+i)*1) (.row r0 3 1) (vI v) (.row r1 3 1) rfl tX rfl k_,.sum 38 i 1 (i+1) rfl o_,.lt 41 (i+1) l true (by simp[hl]),.qa f133 44 0 z l z i (z+i) 1 hi rfl k_,.ld f133 45 3 0 ((z+i)*1) (.row r1 3 1) (vI v) rfl Ep k_,.sum 48 i 1 (i+1) rfl o_,.qa f133 49 0 z l z (i+1) (z+(i+1)) 1 hl rfl k_,.ld f133 50 3 0 ((z+(i+1))*1) (.row r1 3 1) (vI y) rfl WE k_,.fq 52 24 r (24-r) o_ o_,.shl f133 53 .i64 (y:Int) (g:Int) (24-r) aDX k_,.GA 54 g bz (g%bz) rfl,.sum 55 v (g%bz) w vK.symm o_,.qa f133 56 0 z l z i (z+i) 1 hi rfl k_,.st f133 100056 3 0 ((z+i)*1) (.row r1 3 1) (vI w) (.row r2 3 1) rfl u4 rfl k_,.sum 29 i 1 (i+1) rfl o_] k_
 ·obtain⟨e1,_⟩:=pO hl;subst e1;obtain⟨v,hv⟩:∃ v,v=x/2^r:=⟨_,rfl⟩;rw[<-hv]at vK hq hxq tX Ep;exact fF mixed 200 [.lt 27 i l true (by simp[hi]),.qa f133 32 0 z l z i (z+i) 1 hi rfl k_,.ld f133 33 3 0 ((z+i)*1) (.row r0 3 1) (vI x) rfl hlx k_,.shr f133 35 .i64 (x:Int) (v:Int) r hq k_,.qa f133 36 0 z l z i (z+i) 1 hi rfl k_,.st f133 100036 3 0 ((z+i)*1) (.row r0 3 1) (vI v) (.row r1 3 1) rfl tX rfl k_,.sum 38 i 1 (i+1) rfl o_,.lt 41 (i+1) l false (by simp[hl]),.sum 29 i 1 (i+1) rfl o_] k_
theorem aPz{l:Nat}(hr:r<24)(ha:a1<bz^l)(h63:z+l<35184372088832):
  ah prog Bs 62 (.block 4 (ag f133 4)) (Es l z r 0) (AL l z r a1 0) 1 ⟨.normal,Es l z r l,AL l z r a1 l,1⟩:=
 cd (id:=4) (cx (b:=aI (ag f133 4)) (r:=⟨.exit 4,Es l z r l,AL l z r a1 l,1⟩) l (Es l z r) (AL l z r a1) (λk j _=>kk (l:=AL l z r a1 k) (m:=AL l z r a1 0) rfl j) (λi hi=>aPy hr hi ha h63)
  (aD [.lt 27 l l false s_]) n_)
end

theorem aDY(h0:a≠0):∃ z r,z<nd bz a/\r<24/\(∀ i,i<z->a/bz^i%bz=0)/\a/bz^z%bz≠0/\(∀ i,i<r->a/bz^z%bz/2^i%2=0)/\a/bz^z%bz/2^r%2≠0/\
  a=a/bz^z/2^r*2^(24*z+r)/\a/bz^z/2^r%2=1:=by
 have Et:=xq (B:=bz) d_ h0;have xJ:¬a/bz^(nd bz a-1)%bz=0:=λh=>by have h1:=eB (B:=bz) d_ a;rw[show nd bz a=nd bz a-1+1 by omega]at h1;have h2:=(Hy (B:=bz) d_ h1).1 h;have h3:=jw (B:=bz) d_ h2;omega
 obtain⟨z,z1,z2,z3⟩:=zy (λi=>¬a/bz^i%bz=0) _ xJ;have z3':∀ i,i<z->a/bz^i%bz=0:=λi hi=>Fu.1 (z3 i hi);obtain⟨d,hd⟩:∃ d,d=a/bz^z%bz:=⟨_,rfl⟩;have Er:d<bz:=by rw[hd];exact cP _ d_
 have DF:d≠0:=by rw[hd];exact z2
 have aPA:∃ i,i<24/\¬d/2^i%2=0:=iP λfU=>DF (by have h:=WC (d:=d) 24 (λi hi=>iP λh=>fU ⟨i,hi,h⟩);rw[dW (show d<2^24 from Er)]at h;exact h)
 obtain⟨i0,hi0,lp⟩:=aPA;obtain⟨r,r1,r2,r3⟩:=zy (λi=>¬d/2^i%2=0) _ lp;have WG:∀ i,i<r->d/2^i%2=0:=λi hi=>Fu.1 (r3 i hi);have e1:a%bz^z=0:=aDU z z3';have e2:d%2^r=0:=WC r WG;obtain⟨a1,eL⟩:∃ a1,a1=a/bz^z:=⟨_,rfl⟩;have ea:a=a1*bz^z:=by have:=jy a (bz^z);rw[e1,<-eL,cX]at this;omega
 have hb:bz=2^(24-r)*2^r:=by rw[<-eU,show 24-r+r=24 by omega]
 have ed:a1=bz*(a1/bz)+d:=by rw[hd,<-eL];exact(jy _ _).symm
 have e3:a1%2^r=0:=by
  rw[ed]
  conv=>lhs;rw[hb]
  rw[BR,cX _ (2^r),Nat.mul_add_mod,e2]
 have ea1:a1=a1/2^r*2^r:=by have:=jy a1 (2^r);rw[e3,cX]at this;omega
 have e4:a1/2^r%2=d/2^r%2:=by
  have h2:0<2^r:=cO d_;have h3:a1/2^r=2^(24-r)*(a1/bz)+d/2^r:=by
   conv=>lhs;rw[ed,hb]
   rw[BR,nr,pN _ _ h2,nr];rw[<-hb]
  rw[h3,show 24-r=(23-r)+1 by omega,dH,BR,nr,Dv]
 rw[hd]at r2 WG;refine⟨z,r,by omega,by omega,z3',z2,WG,r2,?_,?_⟩
 ·rw[<-eL];have e5:bz^z=2^(24*z):=by rw[sT]
  rw[eU,cX (2^(24*z)),<-gh,<-ea1,<-e5];exact ea
 ·rw[<-eL,e4,hd];omega
theorem aPB(h0:a≠0)(h63:nd bz a<1099511627776):∃ s a2,a=a2*2^s/\a2%2=1/\s<35184372088832/\∀(Bs:aa) (o:Oper) (k j:Nat),dF o.op=some (.func 133)->
  cI prog Bs o [.func (.func 133) #[] #[],sl k (nd bz a)] [(k,some (jo a)),(j,none)] (.tuple #[sl j (nd bz a2),vI s]) [(j,eD a2),(k,.dead)]:=by
 obtain⟨z,r,hz,hr,z3,z2,r3,r2,aDZ,QB⟩:=aDY h0;have al:=eB (B:=bz) d_ a;obtain⟨a1,eL⟩:∃ a1,a1=a/bz^z:=⟨_,rfl⟩;obtain⟨a2,gR⟩:∃ a2,a2=a1/2^r:=⟨_,rfl⟩;have Er:a/bz^z%bz<bz:=cP _ d_;rw[<-eL,<-gR]at aDZ QB;refine⟨24*z+r,a2,aDZ,QB,by omega,λBs o k j ho=>?_⟩;have h20:a2≠0:=λe=>by rw[e]at QB;cases QB
 have GK:=aPq (n:=nd bz a) (z:=z) (a:=a) o_ z3;rw[<-eL]at GK;have jL:jo a=.row (av (ae bz (nd bz a) a)) 3 1:=rfl;obtain⟨n,hn⟩:∃ n,n=nd bz a:=⟨_,rfl⟩;rw[jL];rw[<-hn]at hz al GK h63 ⊢;have aD0:a1<bz^(n-z):=by rw[eL,iQ (cO d_),<-eU,show n-z+z=n by omega];exact al
 have WH:a2<bz^(n-z):=eZ (by rw[gR];exact uh _ _) aD0;have l1:=λBs=>aPu (Bs:=Bs) hz z3 z2 o_;have l2:=λBs=>aPx (Bs:=Bs) (r:=r) hz rfl Er hr r3 r2;have l3:=λBs=>aPz (Bs:=Bs) (z:=z) (l:=n-z) hr aD0 o_;have e0:pA (n-z) z r a1 0=ae bz n a:=by unfold pA;rw[GK];unfold dc ae;simp
 have e1:pA (n-z) z r a1 (n-z)=List.replicate z 0++ae bz (n-z) a2:=by
  unfold pA;rw[<-gR]
  congr 1
  unfold dc ae;refine xj λi hi=>?_;rw[aB (ki.1 hi)]
 obtain⟨fin,El⟩:∃ fin,fin=av (List.replicate z 0++ae bz (n-z) a2):=⟨_,rfl⟩;have aD1:(fin.drop (z*1)).take (n-z)=av (ae bz (n-z) a2):=by rw[El,gP];unfold av;rw[sF,Sb s_,kG (by simp[o8])]
 unfold AL at l3;rw[e0,e1,<-El]at l3;have aPC:nd bz a2<=n-z:=jw d_ WH;have Dx:fin.all flat=true:=by rw[El];exact iJ _
 have DD:(fin.drop (z*1)).take (nd bz a2)=cJ a2:=by
  have h1:(av (ae bz (n-z) a2)).take (nd bz a2)=cJ a2:=by have:=CA WH;rwa[gP]at this
  rw[<-aD1,Nd,oz aPC]at h1;exact h1
 have kD:=xq (B:=bz) d_ h20;have htr:∀ Bs,cI prog Bs (au f133 58) [.func (.func 138) #[] #[],yA 0 (n-z) z] [(0,some (.row fin 3 1))] (yA 0 (nd bz a2) z) []:=λBs=>
  aPo (Bs:=Bs) (y:=.func 138) (k:=0) (off:=z*1) (cc:=z) (x:=.row fin 3 1) k_ rfl Dx aD1 WH o_
 unfold yB nJ at l1;unfold yC nJ at l2;unfold Es at l3;refine aOO (x:=.func 133) ho k_ o_ (mT _) (mT _) rfl kD λw g cap cur hg k7 jW bH hc=>?_;have hm:=S8 hg jW bH hc (mT _)
 refine u9 (M:=[(0,.row (av (ae bz n a)) 3 1)]) (next:=1) (args:=[sl 0 n]) (args':=[.slice (some ⟨g,0,none⟩) n cap]) (v:=.tuple #[yA 0 (nd bz a2) z,vI (24*z+r)])
  (ms:=[(0,.row fin 3 1)]) (N:=62) mixed func133 k_ 200
  (rs:=[(.code 0 _ _ _ _ _ (l1 _):aY prog (aa.we w g) 62),.code 2 _ _ _ _ _ (l2 _),.code 4 _ _ _ _ _ (l3 _),.step 58 (au f133 58) _ _ _ _ (htr _),.sum 61 (24*z) r (24*z+r) rfl o_]) k_ ?_ hm ?_ ?_ ?_
 ·exact .cons (.slc (off:=0) (fX _ _ _) k7 o_) .nil
 ·exact ZX _ _ _
 ·intro k hk;unfold bt;rw[az o_]
 ·intro aA ct v' w' hle tU bJ dP;have x7:=dP _ (aR ..);have ry:=hle 0 _ (fX _ _ _);obtain⟨q1,gp,q2,q3,q4⟩:=S9 bJ ry x7 (bB.1 Dx);obtain⟨cV,rfl,bh⟩:=tU.uR;obtain⟨p,q,hp,h3,h4⟩:=js bh;have e:cV=#[p,q]:=vW.1 (by rw[hp]);subst e;rw[h4.fD rfl];have cC:=o7 (len:=nd bz a2) bJ x7 rfl (bB.1 Dx) (λh=>h) h3;have Mf:dp w' p (nd bz a2) ((fin.drop (z*1)).take (nd bz a2)):=cC;rw[DD]at Mf;rcases h3.iC rfl with ⟨_,JV,_⟩|⟨b,oo,ql,c2,gE,_,_,he⟩
  ·omega
  ·dsimp only at gE he;rw[ry]at gE;injection gE with gE;injection gE with gE hb3 hb4;subst gE;subst hb3;rw[he]at Mf ⊢;exact⟨_,_,rfl,q1,⟨gp,q2,q3⟩,Mf⟩
theorem aD2(h:m%2=1)(s:Nat):Nat.Coprime (2^s) m:=by refine Nat.Coprime.pow_left s ?_;show Nat.gcd 2 m=1;rw[Nat.gcd_rec,h];rfl
theorem aD3{x y s t:Nat}(h:x*2^s=y*2^t)(hx:x%2=1)(bT:s<=t):x=y/\s=t:=by
 obtain⟨d,rfl⟩:∃ d,t=s+d:=⟨t-s,by omega⟩;have h2:0<2^s:=cO d_;rw[eU,cX (2^s),<-gh]at h;have h3:=aKF h2 h;cases d with
 |zero=>exact⟨by rw[h3];simp,rfl⟩
 |succ d=>
  exfalso;rw[dH,<-gh]at h3;rw[h3,ZI]at hx;cases hx
theorem aPD{x y s t:Nat}(h:x*2^s=y*2^t)(hx:x%2=1)(hy:y%2=1):x=y/\s=t:=by
 rcases Ow s t with h1|h1
 ·exact aD3 h hx h1
 ·obtain⟨e1,e2⟩:=aD3 h.symm hy h1;exact⟨e1.symm,e2.symm⟩
noncomputable def ig(a:Nat):Nat:=by
 classical
 exact if h:∃ x s,a=x*2^s/\x%2=1 then h.choose else 1
theorem aD4{x s:Nat}(h:a=x*2^s)(hx:x%2=1):ig a=x:=by have hex:∃ x s,a=x*2^s/\x%2=1:=⟨x,s,h,hx⟩;unfold ig;rw[dif_pos hex];obtain⟨t,h1,h2⟩:=hex.choose_spec;exact(aPD (h1.symm.trans h) h2 hx).1
theorem WI(h0:a≠0):∃ s,a=ig a*2^s/\ig a%2=1/\ig a<=a:=by obtain⟨z,r,_,_,_,_,_,_,h1,h2⟩:=aDY h0;have e:=aD4 h1 h2;rw[e];exact⟨_,h1,h2,dh (Fw _ (cO d_)) (vT h1.symm)⟩
noncomputable def gs(a b:Nat):Nat->Nat×Nat
 |0=>(a,b)
 |i+1=>(min (gs a b i).1 (gs a b i).2,ig (max (gs a b i).1 (gs a b i).2-min (gs a b i).1 (gs a b i).2))
theorem aPE{u v:Nat}(hu:u%2=1)(hv:v%2=1)(bw:u≠v):min u v%2=1/\ig (max u v-min u v)%2=1/\Nat.gcd (min u v) (ig (max u v-min u v))=Nat.gcd u v/\min u v+ig (max u v-min u v)<u+v/\max (min u v) (ig (max u v-min u v))<=max u v:=by
 have go:∀ u v,u%2=1->u<v->ig (v-u)%2=1/\Nat.gcd u (ig (v-u))=Nat.gcd u v/\u+ig (v-u)<u+v/\max u (ig (v-u))<=v:=by intro u v hu al;obtain⟨s,h1,h2,h3⟩:=WI (show v-u≠0 by omega);refine⟨h2,?_,by omega,Nat.max_le.2 ⟨by omega,by omega⟩⟩;have h4:=(aD2 hu s).gcd_mul_right_cancel_right (ig (v-u));rw[<-h1]at h4;rw[<-h4,Nat.gcd_sub_self_right o_]
 rcases E5 bw with h|h
 ·rw[oz o_,aD5 o_];obtain⟨h1,h2,h3,h4⟩:=go u v hu h;exact⟨hu,h1,h2,h3,h4⟩
 ·rw[Wq o_,aD6 o_];obtain⟨h1,h2,h3,h4⟩:=go v u hv h;exact⟨hv,h1,by rw[h2,Ia],by omega,h4⟩
theorem QC{a b:Nat}(ha:a%2=1)(hb:b%2=1):∀ i,(∀ j,j<i->(gs a b j).1≠(gs a b j).2)->(gs a b i).1%2=1/\(gs a b i).2%2=1/\Nat.gcd (gs a b i).1 (gs a b i).2=Nat.gcd a b/\(gs a b i).1+(gs a b i).2+i<=a+b/\max (gs a b i).1 (gs a b i).2<=max a b
 |0,_=>⟨ha,hb,rfl,bF _,bF _⟩
 |i+1,h=>by obtain⟨h1,h2,h3,h4,h5⟩:=QC ha hb i λj hj=>h j o_;obtain⟨k1,k2,k3,k4,k5⟩:=aPE h1 h2 (h i o_);exact⟨k1,k2,k3.trans h3,by show min _ _+ig _+(i+1)<=a+b;omega,dh k5 h5⟩
theorem aPF(ha:a%2=1)(hb:b%2=1):∃ n,(gs a b n).1=(gs a b n).2/\∀ i,i<n->(gs a b i).1≠(gs a b i).2:=by
 have key:∃ n,(gs a b n).1=(gs a b n).2:=iP λfU=>by have:=QC ha hb (a+b+1) λj _ h=>fU ⟨j,h⟩;omega
 obtain⟨n,hn⟩:=key;obtain⟨e,h1,h2,h3⟩:=zy (λi=>(gs a b i).1=(gs a b i).2) n hn;exact⟨e,h2,h3⟩
theorem aPG{x y s t:Nat}(hx:x%2=1)(hy:y%2=1):Nat.gcd (x*2^s) (y*2^t)=Nat.gcd x y*2^(min s t):=by
 have go:∀ x y s t,x%2=1->s<=t->Nat.gcd (x*2^s) (y*2^t)=Nat.gcd x y*2^s:=by intro x y s t hx bT;obtain⟨d,rfl⟩:∃ d,t=s+d:=⟨t-s,by omega⟩;rw[eU,cX (2^s),<-gh,Nat.gcd_mul_right,(aD2 hx d).gcd_mul_right_cancel_right]
 rcases Ow s t with h|h
 ·rw[oz h,go x y s t hx h]
 ·rw[Wq h,Ia,go y x t s hy h,Ia]
theorem WJ(h:decide (a=b)=t):Value.bool (iv a b==0)=.bool t:=by
 rw[<-h];congr 1;unfold iv
 by_cases h1:a<b
 ·rw[aB h1,bd o_];rfl
 ·rw[az h1];by_cases h2:b<a
  ·rw[aB h2,bd o_];rfl
  ·rw[az h2,aJ o_];rfl
theorem aD7(h:decide (b<a)=t):Value.bool (decide (iv a b>0))=.bool t:=by
 rw[<-h];congr 1;rw[qx];unfold iv
 by_cases h1:a<b
 ·rw[aB h1];omega
 ·rw[az h1];by_cases h2:b<a
  ·rw[aB h2];omega
  ·rw[az h2];omega
theorem QD(h0:a≠0)(h63:nd bz a<1099511627776):∃ s,a=ig a*2^s/\s<35184372088832/\∀(Bs:aa) (o:Oper) (k j:Nat),dF o.op=some (.func 133)->
  cI prog Bs o [.func (.func 133) #[] #[],sl k (nd bz a)] [(k,some (jo a)),(j,none)] (.tuple #[sl j (nd bz (ig a)),vI s]) [(j,eD (ig a)),(k,.dead)]:=by
 obtain⟨s,a2,h1,h2,h3,h4⟩:=aPB h0 h63;have e:=aD4 h1 h2;rw[e];exact⟨s,h1,h3,h4⟩
section
variable{Bs:aa}
def gI(u v:Nat):aT:=[(9,sl 7 (nd bz u)),(10,sl 8 (nd bz v))]
def gX(u v:Nat):List Obj:=[eD u,eD v]
theorem aPH{u v:Nat}(al:u<v)(hu:nd bz u<1099511627776)(hv:nd bz v<1099511627776):
  ah prog Bs 111 (aI (ag f75 2)) (gI u v) ([]++marks 7 (gX u v)) 9 ⟨.normal,gH 7 [some 7,some 10] (gI u (ig (v-u))),[]++dT [some 7,some 10] (gX u (ig (v-u))),11⟩:=by
 have hd:nd bz (v-u)<1099511627776:=eZ (jx d_ (FH _ _)) hv;obtain⟨s,_,_,ho⟩:=QD (show v-u≠0 by omega) hd;exact aD [.I4 f75 86 7 8 u v (eD u) (eD v) rfl rfl rfl rfl o_ o_ k_,.rw 88 _ a_ (WJ (a:=u) (b:=v) (bd o_)),.rw 90 _ a_ (aD7 (a:=u) (b:=v) (bd o_)),.L7 f75 96 9 8 7 v u (eD v) (eD u) rfl rfl rfl rfl o_ o_ k_,.step 97 _ _ _ _ _ (ho Bs (au f75 97) 9 10 k_)]
theorem aPI{u v:Nat}(al:v<u)(hu:nd bz u<1099511627776)(hv:nd bz v<1099511627776):
  ah prog Bs 111 (aI (ag f75 2)) (gI u v) ([]++marks 7 (gX u v)) 9 ⟨.normal,gH 7 [some 8,some 10] (gI v (ig (u-v))),[]++dT [some 8,some 10] (gX v (ig (u-v))),11⟩:=by
 have hd:nd bz (u-v)<1099511627776:=eZ (jx d_ (FH _ _)) hu;obtain⟨s,_,_,ho⟩:=QD (show u-v≠0 by omega) hd;exact aD [.I4 f75 86 7 8 u v (eD u) (eD v) rfl rfl rfl rfl o_ o_ k_,.rw 88 _ a_ (WJ (a:=u) (b:=v) (bd o_)),.rw 90 _ b_ (aD7 (a:=u) (b:=v) (aJ o_)),.L7 f75 96 9 7 8 u v (eD u) (eD v) rfl rfl rfl rfl o_ o_ k_,.step 97 _ _ _ _ _ (ho Bs (au f75 97) 9 10 k_)]
theorem aPJ{u:Nat}(hu:nd bz u<1099511627776):
  ah prog Bs 111 (aI (ag f75 2)) (gI u u) ([]++marks 7 (gX u u)) 9 ⟨.exit 2,[(9,sl 7 (nd bz u))],[(7,eD u)],9⟩:=
 aD [.I4 f75 86 7 8 u u (eD u) (eD u) rfl rfl rfl rfl o_ o_ k_,.rw 88 _ b_ (WJ (a:=u) (b:=u) (aJ rfl))]
theorem aPK(ha:a%2=1)(hb:b%2=1)(hm:nd bz (max a b)<1099511627776):
  ah prog Bs 111 (.block 2 (ag f75 2)) [(9,sl 5 (nd bz a)),(10,sl 6 (nd bz b))] [(5,eD a),(6,eD b)] 7 ⟨.normal,[(9,sl 7 (nd bz (Nat.gcd a b)))],[(7,eD (Nat.gcd a b))],9⟩:=by
 obtain⟨n,hn,hi⟩:=aPF ha hb;have vu:=(QC ha hb n hi).2.2.1;rw[hn,Nat.gcd_self]at vu;have E6:∀ i,i<=n->nd bz (gs a b i).1<1099511627776/\nd bz (gs a b i).2<1099511627776:=λi cC=>by have h:=(QC ha hb i λj hj=>hi j o_).2.2.2.2;have h1:=jx (B:=bz) d_ (dh (Nat.le_max_left _ _) h);have h2:=jx (B:=bz) d_ (dh (Nat.le_max_right _ _) h);omega
 have pO:ah prog Bs 111 (aI (ag f75 2)) (gI (gs a b n).1 (gs a b n).2) ([]++marks 7 (gX (gs a b n).1 (gs a b n).2)) 9 ⟨.exit 2,[(9,sl 7 (nd bz (Nat.gcd a b)))],[(7,eD (Nat.gcd a b))],9⟩:=by have gE:=(E6 n (bF _)).2;rw[hn,vu]at *;exact aPJ gE
 have:=qF (P:=prog) (B:=Bs) (N:=111) (b:=aI (ag f75 2)) (next:=7) (p:=2) (r:=⟨.exit 2,[(9,sl 7 (nd bz (Nat.gcd a b)))],[(7,eD (Nat.gcd a b))],9⟩) n (λi=>gI (gs a b i).1 (gs a b i).2) (λ_=>[]) (λi=>gX (gs a b i).1 (gs a b i).2) [some 5,some 6] (λ_ _=>rfl)
  (λi _=>⟨λq hq=>(by cases hq),λz hz=>by simp[gX]at hz;rcases hz with rfl|rfl<;>exact HN (mT _)⟩) k_ k_
  (λi al=>by
   have bw:=hi i al;obtain⟨b1,b2⟩:=E6 i o_;have e1:(gs a b (i+1)).1=min (gs a b i).1 (gs a b i).2:=rfl;have e2:(gs a b (i+1)).2=ig (max (gs a b i).1 (gs a b i).2-min (gs a b i).1 (gs a b i).2):=rfl;simp only[e1,e2];generalize (gs a b i).1=u at *;generalize (gs a b i).2=v at *;rcases E5 bw with h|h
   ·rw[oz o_,aD5 o_];exact⟨[some 7,some 10],11,k_,aPH h b1 b2⟩
   ·rw[Wq o_,aD6 o_];exact⟨[some 8,some 10],11,k_,aPI h b1 b2⟩) pO n_
 exact cd (id:=2) this
def tI(g s t i:Nat):aT:=[(14,vI i),(9,sl 9 (nd bz (g*2^i))),(11,vI s),(12,vI t)]
theorem aPL{g s t:Nat}(hi:i<min s t)(hg:nd bz (g*2^i)<35184372088832)(hs:s<35184372088832):
  ah prog Bs 111 (aI (ag f75 4)) (tI g s t i) ([]++marks 9 [eD (g*2^i)]) 10 ⟨.normal,gH 9 [some 10] (tI g s t (i+1)),[]++dT [some 10] [eD (g*2^(i+1))],11⟩:=by
 have ht:=aDQ (B:=Bs) (o:=au f75 108) (x:=.func 136) (aOh (a:=g*2^i) (c:=0) o_ hg) (oe (k:=9) (x:=eD (g*2^i)) rfl rfl (.p (v:=vI 0) rfl .nil)) k_ k_ (tC _) 10;have e:2*(g*2^i)+0=g*2^(i+1):=by rw[dH,jg,nt,cX 2]
 rw[e]at ht;obtain⟨m,hm⟩:∃ m,m=min s t:=⟨_,rfl⟩;rw[<-hm]at hi;have dP:m<=s:=by rw[hm];exact Nat.min_le_left _ _
 unfold tI;generalize g*2^(i+1)=y at *;generalize g*2^i=x at *;exact aD [.Qx f75 103 s t m hm k_,.lt 104 i m true (aJ hi),.step 108 _ _ _ _ _ ht,.sum 106 i 1 (i+1) rfl o_]
theorem aPM{g s t:Nat}(hg:∀ i,i<=min s t->nd bz (g*2^i)<35184372088832)(hs:s<35184372088832):
  ah prog Bs 111 (.block 4 (ag f75 4)) [(14,vI 0),(9,sl 7 (nd bz g)),(11,vI s),(12,vI t)] [(7,eD g)] 9 ⟨.normal,[(9,sl 9 (nd bz (g*2^min s t)))],[(9,eD (g*2^min s t))],10⟩:=by
 have:=qF (P:=prog) (B:=Bs) (N:=111) (b:=aI (ag f75 4)) (next:=9) (p:=1) (r:=⟨.exit 4,[(9,sl 9 (nd bz (g*2^min s t)))],[(9,eD (g*2^min s t))],10⟩) (min s t) (tI g s t) (λ_=>[]) (λi=>[eD (g*2^i)]) [some 7] (λ_ _=>rfl)
  (λi _=>⟨λq hq=>(by cases hq),λz hz=>by simp at hz;subst hz;exact HN (mT _)⟩) k_ k_
  (λi al=>⟨[some 10],11,k_,aPL al (hg i o_) hs⟩)
  (by unfold tI;obtain⟨m,hm⟩:∃ m,m=min s t:=⟨_,rfl⟩;rw[<-hm];generalize g*2^m=x at *;exact aD [.Qx f75 103 s t m hm k_,.lt 104 m m false s_]) n_
 have e0:g*2^0=g:=by simp
 unfold tI at this;rw[e0]at this;exact cd (id:=4) this
def aW7(u v:Nat):aT:=[(5,vI u),(7,vI v)]
theorem aXg{x y:Nat}:ah prog Bs 111 (.block 0 (ag f75 0)) (aW7 x y) [] 3 ⟨.normal,[(5,vI (Nat.gcd x y))],[],3⟩:=by
 obtain⟨n,hn,hi⟩:=Ov x y (λ_ v=>decide (v≠0)) (λu v h=>kp h);have hz:(eu x y n).2=0:=by have:=DJ hn;omega
 have hg:=KL x y n;rw[hz,T4]at hg;rw[<-hg];refine cd (id:=0) (cx (P:=prog) (B:=Bs) (N:=111) (b:=aI (ag f75 0)) (next:=3) (r:=⟨.exit 0,[(5,vI (eu x y n).1)],[],3⟩) n (λi=>aW7 (eu x y i).1 (eu x y i).2) (λ_=>[]) (λ_ _ _=>Iff.rfl) (λi al=>?_) ?_ n_)
 ·have h0:(eu x y i).2≠0:=kp (hi i al);show ah _ _ _ _ (aW7 (eu x y i).1 (eu x y i).2) [] 3 ⟨.normal,aW7 (eu x y i).2 ((eu x y i).1%(eu x y i).2),[],3⟩;generalize (eu x y i).1=u at *;generalize (eu x y i).2=v at *;exact aD [.rw 49 (.bool ((v:Int)!=0)) b_ (by congr 1;rw[rJ];omega),.Fq f75 53 .i64 (u:Int) v ((u%v:Nat):Int) o_ (by rw[zL o_];rfl) k_]
 ·rw[hz];exact aD [.rw 49 (.bool (((0:Nat):Int)!=0)) a_ rfl]
end
theorem aXi{n1 n2:Bool}{p:Nat}(v1:n1=true->m1≠0)(v2:n2=true->m2≠0)(h1:m1<2^p)(h2:m2<2^q)(hp:p<=1099511627774)(hq:q<=1099511627774):
  aG prog 75 [sv n1 m1,sv n2 m2] (aX (Nat.gcd m1 m2:Nat)):=by
 have b1:=yw h1;have b2:=yw h2;have c1:=wm h1;have c2:=wm h2;have w1:=aWO n1 v1;have w2:=aWO n2 v2;have r1:=L9 m1;have r2:=L9 m2;obtain⟨t1,iZ⟩:∃ t,decide (((nd 256 m1:Nat):Int)<=7)=t:=⟨_,rfl⟩;obtain⟨t2,oD⟩:∃ t,decide (((nd 256 m2:Nat):Int)<=7)=t:=⟨_,rfl⟩;by_cases hs:t1=true/\t2=true
 ·obtain⟨rfl,rfl⟩:=hs;have s1:=kp iZ;have s2:=kp oD;have q1:=Wk (neg:=false) (m:=m1) n_ o_;have q2:=Wk (neg:=false) (m:=m2) n_ o_;have l1:m1<_:=L8 o_;have l2:m2<_:=L8 o_;have Ox:Nat.gcd m1 m2<72057594037927936:=by
   by_cases h0:m1=0
   ·rw[h0,UF];exact l2
   ·exact eZ (aBq _ (ue h0)) l1
  exact bC func75 (λw=>[w1.at 16,w2.at 20,.rw 26 _ (vI (nd 256 m1)) r1,.rw 27 (.bool (decide (((nd 256 m1:Nat):Int)<=7))) (.bool _) (by rw[iZ]),.rw 31 _ (vI (nd 256 m2)) r2,.rw 32 (.bool (decide (((nd 256 m2:Nat):Int)<=7))) (.bool _) (by rw[oD]),q1.at 38,q2.at 45,.code 0 _ _ _ _ _ (aXg (x:=m1) (y:=m2)),(aXq (z:=((Nat.gcd m1 m2:Nat):Int)) o_ o_).at 55])
 ·by_cases hz:m1=0\/m2=0
  ·have e:Nat.gcd m1 m2=m1+m2:=by rcases hz with h|h<;>rw[h]<;>simp
   have bs:nd bz (m1+m2)<35184372088832:=by rcases hz with h|h<;>rw[h]<;>simp<;>omega
   rw[e];obtain⟨z1,IP⟩:∃ t,decide (nd bz m1=0)=t:=⟨_,rfl⟩;obtain⟨z2,LP⟩:∃ t,decide (nd bz m2=0)=t:=⟨_,rfl⟩;have hzz:¬(z1=false/\z2=false):=by
    rintro⟨rfl,rfl⟩
    rcases hz with h|h
    ·exact DJ IP (by rw[h,oG])
    ·exact DJ LP (by rw[h,oG])
   refine eY mixed func75 100 (λw=>[w1.at 16,w2.at 20,.rw 26 _ (vI (nd 256 m1)) r1,.rw 27 (.bool (decide (((nd 256 m1:Nat):Int)<=7))) (.bool t1) (by rw[iZ])]++(bif t1 then[.rw 31 _ (vI (nd 256 m2)) r2,.rw 32 (.bool (decide (((nd 256 m2:Nat):Int)<=7))) (.bool t2) (by rw[oD])]else[])++[.yv f75 58 3 m1 o_ k_,.yv f75 61 4 m2 o_ k_,.gO 64 (nd bz m1) 0 z1 IP]++(bif z1 then[]else[.gO 68 (nd bz m2) 0 z2 LP])++[
     .aDE f75 72 5 3 4 m1 m2 (jo m1) (jo m2) rfl rfl rfl rfl o_ o_ k_,.AG f75 73 5 (m1+m2) false (jo (m1+m2)) rfl rfl bs k_]) (λ_=>?_) k_ ?_<;>cases t1<;>cases t2<;>cases z1<;>cases z2<;>first|exact absurd ⟨rfl,rfl⟩ hs|exact absurd ⟨rfl,rfl⟩ hzz|kernel_rfl
  ·have vi:m1≠0:=λe=>hz (.inl e);have Dr:m2≠0:=λe=>hz (.inr e);have h41:=xq (B:=bz) d_ vi;have h42:=xq (B:=bz) d_ Dr;obtain⟨s,es,hsb,os⟩:=QD vi o_;obtain⟨t,et,htb,ot⟩:=QD Dr o_;obtain⟨_,_,o1,xX⟩:=WI vi;obtain⟨_,_,o2,WK⟩:=WI Dr;have tZ:=aPG (s:=s) (t:=t) o1 o2;rw[<-es,<-et]at tZ;have Vj:nd bz (max (ig m1) (ig m2))<1099511627776:=by
    have k1:=jx (B:=bz) d_ xX;have k2:=jx (B:=bz) d_ WK;rcases Ow (ig m1) (ig m2)with h|h
    ·rw[aD5 h];omega
    ·rw[aD6 h];omega
   have gl:=λBs=>aPK (Bs:=Bs) o1 o2 Vj;have Pl:Nat.gcd m1 m2<=m1:=aBq _ (ue vi);have tb:∀ i,i<=min s t->nd bz (Nat.gcd (ig m1) (ig m2)*2^i)<35184372088832:=λi hi=>by
    have k1:Nat.gcd (ig m1) (ig m2)*2^i<=Nat.gcd m1 m2:=by rw[tZ];exact jN _ (di d_ hi)
    have k2:=jx (B:=bz) d_ (dh k1 Pl);omega
   have tl:=λBs=>aPM (Bs:=Bs) (g:=Nat.gcd (ig m1) (ig m2)) (s:=s) (t:=t) tb hsb;rw[<-tZ]at tl;have bg:nd bz (Nat.gcd m1 m2)<35184372088832:=by have:=jx (B:=bz) d_ Pl;omega
   generalize Nat.gcd m1 m2=G at *;generalize Nat.gcd (ig m1) (ig m2)=G0 at *;generalize ig m1=x1 at *;generalize ig m2=x2 at *;refine eY mixed func75 200 (λw=>[w1.at 16,w2.at 20,.rw 26 _ (vI (nd 256 m1)) r1,.rw 27 (.bool (decide (((nd 256 m1:Nat):Int)<=7))) (.bool t1) (by rw[iZ])]++(bif t1 then[.rw 31 _ (vI (nd 256 m2)) r2,.rw 32 (.bool (decide (((nd 256 m2:Nat):Int)<=7))) (.bool t2) (by rw[oD])]else[])++[.yv f75 58 3 m1 o_ k_,.yv f75 61 4 m2 o_ k_,.gO 64 (nd bz m1) 0 false (bd o_),.gO 68 (nd bz m2) 0 false (bd o_),.step 76 _ _ _ _ _ (os _ (au f75 76) 3 5 k_),.step 81 _ _ _ _ _ (ot _ (au f75 81) 4 6 k_),.code 2 _ _ _ _ _ (gl _),.code 4 _ _ _ _ _ (tl _),.AG f75 110 9 G false (eD G) rfl rfl bg k_]) (λ_=>?_) k_ ?_<;>cases t1<;>cases t2<;>first|exact absurd ⟨rfl,rfl⟩ hs|kernel_rfl
theorem aXx{x y:Int}{p:Nat}(h1:x.natAbs<2^p)(h2:y.natAbs<2^q)(hp:p<=1099511627774)(hq:q<=1099511627774):aG prog 75 [aX x,aX y] (aX (Nat.gcd x.natAbs y.natAbs:Nat)):=by revert h1 h2;refine FI (C:=λx y v u=>x.natAbs<2^p->y.natAbs<2^q->aG prog 75 [v,u] (aX (Nat.gcd x.natAbs y.natAbs:Nat))) (λn1 n2 m1 m2 v1 v2 h1 h2=>?_) x y;rw[qJ]at h1 h2;rw[qJ,qJ];exact aXi v1 v2 h1 h2 hp hq
theorem aWw{g:Nat}{x:Int}{p:Nat}(h1:g<2^p)(h2:x.natAbs<2^q)(hp:p<=aE)(hq:q<=aE):aG prog 75 [aX g,aX x] (aX (Nat.gcd g x.natAbs:Nat)):=by have:=aXx (x:=(g:Int)) (y:=x) (by rw[zY];exact h1) h2 hp hq;rw[zY]at this;exact this
theorem aXs{x y:Int}{n:Nat}(hy:y≠0)(h1:x.natAbs<2^n)(h2:y.natAbs<2^n)(hn:n<=aE):aG prog 76 [aX x,aX y] (aX (x.fdiv y)):=
 bC func76 (λ_=>[(aW4 hy h1 h2 hn hn).at 11])
theorem aWD{c:Nat->Int}{d:Int}{n:Nat}(hd:d≠0)(h:dU n (pq c d))(hn:n<=aE):aG prog 103 [pV c,aX d] (iz (pq c d).low):=by
 obtain⟨h0,h1,h2,h3,h4⟩:=h;have g1:=aXx h4 h0 hn hn;have s1:=z7 h4 h0;have g2:=aWw s1 h1 hn hn;have s2:=z7 s1 h1;have g3:=aWw s2 h2 hn hn;have s3:=z7 s2 h2;have g4:=aWw s3 h3 hn hn;obtain⟨f,hf⟩:∃ f,f=pq c d:=⟨_,rfl⟩;have vU:f.d≠0:=by rw[hf];exact hd
 have qL:=Uu vU;have UG:=OU f;have hg:f.g<2^n:=by
  have h5:f.d.natAbs<2^n:=by rw[hf];exact h4
  exact eZ (Nat.le_of_dvd o_ (FQ f)) h5
 have bH:f.s.natAbs<2^n:=by rw[UG];exact hg
 have ov:∀ u:Int,f.g ∣ u.natAbs->u.natAbs<2^n->aG prog 76 [aX u,aX f.s] (aX (u/f.s)):=λu hu vp=>by have:=aXs qL vp bH hn;rw[Int.fdiv_eq_ediv_of_dvd (DN hu)]at this;exact this
 have o0:=ov f.a (OQ f) (by rw[hf];exact h0);have o1:=ov f.b (OR f) (by rw[hf];exact h1);have o2:=ov f.c (OS f) (by rw[hf];exact h2);have o3:=ov f.e (OT f) (by rw[hf];exact h3);have o4:=ov f.d (FQ f) (by rw[hf];exact h4);have B8:=aXq (z:=1) d_ d_;have aH:=aWK d;have WL:Nat.gcd (Nat.gcd (Nat.gcd (Nat.gcd (pq c d).d.natAbs (pq c d).a.natAbs) (pq c d).b.natAbs) (pq c d).c.natAbs) (pq c d).e.natAbs=f.g:=by rw[hf];rfl
 rw[WL]at g4;have ab:=Wg (f.g:Int);rw[zY]at ab;rw[<-hf];have e0:f.a=c 0:=by rw[hf];rfl
 have e1:f.b=c 1:=by rw[hf];rfl
 have e2:f.c=c 2:=by rw[hf];rfl
 have e3:f.e=c 3:=by rw[hf];rfl
 have e4:f.d=d:=by rw[hf];rfl
 have one:(bO 1).Sm:=uo (n:=1) d_ d_;have sm:(bO f.s).Sm:=uo bH hn;by_cases F0:d<0
 ·have hs:f.s=-(f.g:Int):=by unfold Fr.s;rw[e4,aB F0]
  have bw:bO f.s≠bO 1:=λe=>by have:=xR e;omega
  have ng:=aW0 (f.g:Int);rw[<-hs]at ng;rw[e0]at o0;rw[e1]at o1;rw[e2]at o2;rw[e3]at o3;rw[e4]at o4;have dG:f.low=⟨c 0/f.s,c 1/f.s,c 2/f.s,c 3/f.s,d/f.s⟩:=by unfold Fr.low;rw[e0,e1,e2,e3,e4]
  rw[dG];have B9:decide (d.sign<0)=true:=aJ (by rw[FG F0];decide);generalize f.s=s at *;exact eY mixed func103 200 (λ_=>[g1.at 18,g2.at 18,g3.at 18,g4.at 18,ab.at 20,aH.at 22,.rw 23 (.bool (decide (d.sign<0))) b_ (by rw[B9]),ng.at 25,B8.at 30,.step 31 (au f103 31) _ _ _ _ (B7 (neg:=false) k_ (bO s) (bO 1) sm one (b:=true) (by simp;exact bw)),o0.at 41,o1.at 41,o2.at 41,o3.at 41,o4.at 46]) (λ_=>k_) k_ k_
 ·have hs:f.s=(f.g:Int):=by unfold Fr.s;rw[e4,az F0]
  have B9:decide (d.sign<0)=false:=bd (by rw[BZ o_];decide);by_cases ur:f.g=1
  ·have dG:f.low=f:=by unfold Fr.low;rw[hs,ur];simp
   rw[dG,hf];rw[ur]at g4 ab;exact eY mixed func103 200 (λ_=>[g1.at 18,g2.at 18,g3.at 18,g4.at 18,ab.at 20,aH.at 22,.rw 23 (.bool (decide (d.sign<0))) a_ (by rw[B9]),B8.at 30,.step 31 (au f103 31) _ _ _ _ (B7 (neg:=false) k_ (bO 1) (bO 1) one one (b:=false) s_)]) (λ_=>k_) k_ k_
  ·have bw:bO f.s≠bO 1:=λe=>by have:=xR e;omega
   rw[e0]at o0;rw[e1]at o1;rw[e2]at o2;rw[e3]at o3;rw[e4]at o4;have dG:f.low=⟨c 0/f.s,c 1/f.s,c 2/f.s,c 3/f.s,d/f.s⟩:=by unfold Fr.low;rw[e0,e1,e2,e3,e4]
   rw[dG];rw[<-hs]at g4 ab;generalize f.s=s at *;exact eY mixed func103 200 (λ_=>[g1.at 18,g2.at 18,g3.at 18,g4.at 18,ab.at 20,aH.at 22,.rw 23 (.bool (decide (d.sign<0))) a_ (by rw[B9]),B8.at 30,.step 31 (au f103 31) _ _ _ _ (B7 (neg:=false) k_ (bO s) (bO 1) sm one (b:=true) (by simp;exact bw)),o0.at 41,o1.at 41,o2.at 41,o3.at 41,o4.at 46]) (λ_=>k_) k_ k_
theorem aXv(h:z.natAbs<9223372036854775808):aG prog 31 [.int .i64 z] (bX (kI z)):=by
 rw[aBs];have e:iz ⟨z,0,0,0,1⟩=(RN.mk (bO z) ⟨false,[]⟩ ⟨false,[]⟩ ⟨false,[]⟩ (bO 1)).v:=by unfold iz tf;rw[DR]
 rw[e];exact bC func31 (λ_=>[(aXq (z:=z) o_ o_).at 4,(aXq (z:=1) d_ d_).at 6])
section
variable{P:j_}{B:aa}{N:Nat}
def WM(o:Oper):Bool:=match o.op with
 |.call c=>match c.callee,c.args.toList with
  |.builtin .max,[_,_]=>true
  |_,_=>false
 |_=>false
theorem aPN(ho:WM o=true){x:Int}:cI P B o [.int .i64 x,.int .i64 (-x)] [] (vI x.natAbs) []:=by
 unfold WM at ho;split at ho
 ·rename_i c ck;split at ho
  ·rename_i p q h1 h2;refine(CV (λu hu=>by simp at hu;rcases hu with rfl|rfl<;>rfl) rfl λρ gu w _=>?_).step;obtain⟨ce,ar,at'⟩:=c;dsimp only at h1 h2;subst h1;have e1:ar=#[p,q]:=by rw[<-Ai (xs:=ar),h2]
   subst e1;rw[ck]at gu;simp[Op.operands,Call.operands]at gu;simp[execOp,ck,resolve,invoke,builtin,Builtin.max_,Builtin.max2,gu.1,gu.2,vI];split<;>omega
  ·cases ho
 ·cases ho
def aY.Mg(fn:Func)(key:Nat)(x:Int)(ho:WM (au fn key)=true):aY P B N:=
 .step key (au fn key) [.int .i64 x,.int .i64 (-x)] [] (vI x.natAbs) [] (aPN ho)
end
theorem aPO(l:List UInt8)(c:UInt8):gv (l++[c])=gv l*256+c.toNat:=by unfold gv;rw[aCS];rfl
def gC(r:RN):Nat->RI
 |0=>r.a
 |1=>r.b
 |2=>r.c
 |3=>r.e
 |_=>r.d
def eM(r:RI):Int:=sg r.neg (gv r.bo)
def w5(W:Nat->Int):ak:=[.int .i64 (W 0),.int .i64 (W 1),.int .i64 (W 2),.int .i64 (W 3),.int .i64 (W 4)]
def wv(r:RN)(i:Nat):Nat->Int:=λj=>match Nat.blt j i with|true=>eM (gC r j)|false=>0
def aPP(W:Nat->Int)(i:Nat)(x:Int):Nat->Int:=λj=>match Nat.beq j i with|true=>x|false=>W j
section
variable{Bs:aa}{W:Nat->Int}{q:RI}
def CG(i k:Nat):aT:=[(5,vI i),(4,ptr 2),(6,ptr (3+i)),(7,vI k)]
def yD(W:Nat->Int)(q:RI)(i k:Nat):aM:=[(2,.aK (w5 (aPP W i (gv (q.bo.take k):Nat))) 110),(3+i,.aK q.cs 30)]
theorem aPQ(hi:i<5)(hk:k<q.bo.length)(h3:q.bo.length<=3):
  ah prog Bs 58 (aI (ag f100 2)) (CG i k) (yD W q i k) (4+i) ⟨.normal,CG i (k+1),yD W q i (k+1),4+i⟩:=by
 obtain⟨c,hc⟩:∃ c,q.bo[k]?=some c:=⟨q.bo[k],aW hk⟩;have hv:gv (q.bo.take (k+1))=gv (q.bo.take k)*256+c.toNat:=by rw[tA,hc];exact aPO _ _
 have hb:(BA q.bo)[k]?=some c:=by rw[Kq];exact hc
 have bH:Value.int .i64 ((BA q.bo).size:Int)=vI q.bo.length:=by rw[pc];rfl
 have al:gv (q.bo.take k)<65536:=by have h1:=BB (q.bo.take k);have h2:(256:Nat)^(q.bo.take k).length<=256^2:=di d_ (by rw[jK];omega);exact cF h1 (dh h2 d_)
 have hc3:=c.toNat_lt;unfold CG yD;rw[hv];generalize gv (q.bo.take k)=x at *;have w1:IntKind.i64.wrap ((x:Int)*2^8)=((x*256:Nat):Int):=by rw[show((x:Int)*2^8)=((x*256:Nat):Int)by simp,eh];omega
 have w2:IntKind.i64.wrap (c.toNat:Int)=(c.toNat:Int):=by rw[eh];omega
 have w3:IntKind.i64.wrap (((x*256:Nat):Int)+(c.toNat:Int))=((x*256+c.toNat:Nat):Int):=by rw[eh];omega
 generalize x*256+c.toNat=y at *;generalize x*256=z at *;generalize q.bo.length=L at *;rcases i with _|_|_|_|_|i
 all_goals first|omega|exact aD [.rw 33 _ (vI L) bH,.lt 34 k L true (aJ hk),.wr 41 .i64 ((x:Int)*2^8) _ w1,.sx f100 45 (BA q.bo) k c hb k_,.wr 46 .i64 (c.toNat:Int) _ w2,.wr 47 .i64 _ _ w3,.sum 36 k 1 (k+1) rfl o_]
theorem aPR(hi:i<5)(h3:q.bo.length<=3):
  ah prog Bs 58 (.block 2 (ag f100 2)) (CG i 0) (yD W q i 0) (4+i) ⟨.normal,CG i q.bo.length,yD W q i q.bo.length,4+i⟩:=by
 have bH:Value.int .i64 ((BA q.bo).size:Int)=vI q.bo.length:=by rw[pc];rfl
 refine cd (id:=2) (cx (b:=aI (ag f100 2)) (r:=⟨.exit 2,CG i q.bo.length,yD W q i q.bo.length,4+i⟩) q.bo.length (CG i) (yD W q i) (λk t _=>kk (l:=yD W q i k) (m:=yD W q i 0) rfl t) (λk hk=>aPQ hi hk h3) ?_ n_);unfold CG yD;generalize gv (q.bo.take q.bo.length)=x at *;generalize q.bo.length=L at *;rcases i with _|_|_|_|_|i
 all_goals first|omega|exact aD [.rw 33 _ (vI L) bH,.lt 34 L L false s_]
def GL(i:Nat):aT:=[(5,vI i),(1,ptr 0),(2,ptr 1),(4,ptr 2)]
def GM(r:RN)(W:Nat->Int):aM:=[(0,.aK r.cs 33),(1,.aK (w5 λ_=>0) 110),(2,.aK (w5 W) 110)]
theorem aPS{r:RN}(hi:i<5)(h3:(gC r i).bo.length<=3)(hv:xL (gC r i).neg (gC r i).bo=true):
  ah prog Bs 58 (.block 1 (ag f100 1)) (GL i) (GM r (wv r i)) (3+i) ⟨.normal,GL i,GM r (wv r (i+1)),4+i⟩:=by
 have lo:=aPR (Bs:=Bs) (W:=wv r i) (q:=gC r i) hi h3;have nI:=aW9 (gC r i).neg (gC r i).bo;rw[hv]at nI;have bH:Value.int .i64 ((BA (gC r i).bo).size:Int)=vI (gC r i).bo.length:=by rw[pc];rfl
 have lT:Value.bool (decide (((gC r i).bo.length:Int)>3))=.bool false:=by rw[bd o_]
 unfold yD CG at lo;rw[aAl,n9]at lo;have e0:gv []=0:=rfl;rw[e0]at lo;have al:gv (gC r i).bo<16777216:=by have h1:=BB (gC r i).bo;have h2:(256:Nat)^(gC r i).bo.length<=256^3:=di d_ h3;exact cF h1 (dh h2 d_)
 have wn:IntKind.i64.wrap (0-(gv (gC r i).bo:Int))=-(gv (gC r i).bo:Int):=by rw[eh];omega
 rcases r with ⟨⟨an,am⟩,⟨bn,bm⟩,⟨cn,cm⟩,⟨en,em⟩,⟨dn,dm⟩⟩;rcases i with _|_|_|_|_|i
 ·cases an
  ·exact aD [.rw 22 _ (vI am.length) bH,.rw 23 _ a_ lT,nI.at 26,.code 2 _ _ _ _ _ lo]
  ·exact aD [.rw 22 _ (vI am.length) bH,.rw 23 _ a_ lT,nI.at 26,.code 2 _ _ _ _ _ lo,.wr 55 .i64 _ _ wn]
 ·cases bn
  ·exact aD [.rw 22 _ (vI bm.length) bH,.rw 23 _ a_ lT,nI.at 26,.code 2 _ _ _ _ _ lo]
  ·exact aD [.rw 22 _ (vI bm.length) bH,.rw 23 _ a_ lT,nI.at 26,.code 2 _ _ _ _ _ lo,.wr 55 .i64 _ _ wn]
 ·cases cn
  ·exact aD [.rw 22 _ (vI cm.length) bH,.rw 23 _ a_ lT,nI.at 26,.code 2 _ _ _ _ _ lo]
  ·exact aD [.rw 22 _ (vI cm.length) bH,.rw 23 _ a_ lT,nI.at 26,.code 2 _ _ _ _ _ lo,.wr 55 .i64 _ _ wn]
 ·cases en
  ·exact aD [.rw 22 _ (vI em.length) bH,.rw 23 _ a_ lT,nI.at 26,.code 2 _ _ _ _ _ lo]
  ·exact aD [.rw 22 _ (vI em.length) bH,.rw 23 _ a_ lT,nI.at 26,.code 2 _ _ _ _ _ lo,.wr 55 .i64 _ _ wn]
 ·cases dn
  ·exact aD [.rw 22 _ (vI dm.length) bH,.rw 23 _ a_ lT,nI.at 26,.code 2 _ _ _ _ _ lo]
  ·exact aD [.rw 22 _ (vI dm.length) bH,.rw 23 _ a_ lT,nI.at 26,.code 2 _ _ _ _ _ lo,.wr 55 .i64 _ _ wn]
 ·omega
theorem aPT{r:RN}(hi:i<5)(h3:¬(gC r i).bo.length<=3):
  ah prog Bs 58 (.block 1 (ag f100 1)) (GL i) (GM r (wv r i)) (3+i) ⟨.ret,[(2,ptr 1),(3,.bool false)],[(1,.aK (w5 (wv r i)) 110)],4+i⟩:=by
 have bH:Value.int .i64 ((BA (gC r i).bo).size:Int)=vI (gC r i).bo.length:=by rw[pc];rfl
 have lT:Value.bool (decide (((gC r i).bo.length:Int)>3))=.bool true:=by rw[aJ o_]
 rcases r with ⟨⟨an,am⟩,⟨bn,bm⟩,⟨cn,cm⟩,⟨en,em⟩,⟨dn,dm⟩⟩;rcases i with _|_|_|_|_|i
 ·exact aD [.rw 22 _ (vI am.length) bH,.rw 23 _ b_ lT]
 ·exact aD [.rw 22 _ (vI bm.length) bH,.rw 23 _ b_ lT]
 ·exact aD [.rw 22 _ (vI cm.length) bH,.rw 23 _ b_ lT]
 ·exact aD [.rw 22 _ (vI em.length) bH,.rw 23 _ b_ lT]
 ·exact aD [.rw 22 _ (vI dm.length) bH,.rw 23 _ b_ lT]
 ·omega
theorem aPU{r:RN}(hi:i<5)(h3:(gC r i).bo.length<=3)(hv:xL (gC r i).neg (gC r i).bo=false):
  ah prog Bs 58 (.block 1 (ag f100 1)) (GL i) (GM r (wv r i)) (3+i) ⟨.ret,[(2,ptr 1),(3,.bool false)],[(1,.aK (w5 (wv r i)) 110)],4+i⟩:=by
 have nI:=aW9 (gC r i).neg (gC r i).bo;rw[hv]at nI;have bH:Value.int .i64 ((BA (gC r i).bo).size:Int)=vI (gC r i).bo.length:=by rw[pc];rfl
 have lT:Value.bool (decide (((gC r i).bo.length:Int)>3))=.bool false:=by rw[bd o_]
 rcases r with ⟨⟨an,am⟩,⟨bn,bm⟩,⟨cn,cm⟩,⟨en,em⟩,⟨dn,dm⟩⟩;rcases i with _|_|_|_|_|i
 ·exact aD [.rw 22 _ (vI am.length) bH,.rw 23 _ a_ lT,nI.at 26]
 ·exact aD [.rw 22 _ (vI bm.length) bH,.rw 23 _ a_ lT,nI.at 26]
 ·exact aD [.rw 22 _ (vI cm.length) bH,.rw 23 _ a_ lT,nI.at 26]
 ·exact aD [.rw 22 _ (vI em.length) bH,.rw 23 _ a_ lT,nI.at 26]
 ·exact aD [.rw 22 _ (vI dm.length) bH,.rw 23 _ a_ lT,nI.at 26]
 ·omega
end
def qY(q:RI):Bool:=decide (q.bo.length<=3)&&xL q.neg q.bo
theorem aPV{r:RN}(hi:i<5)(h:qY (gC r i)=false):
  ah prog Bs 58 (.block 1 (ag f100 1)) (GL i) (GM r (wv r i)) (3+i) ⟨.ret,[(2,ptr 1),(3,.bool false)],[(1,.aK (w5 (wv r i)) 110)],4+i⟩:=by
 unfold qY at h;by_cases h3:(gC r i).bo.length<=3
 ·rw[aJ h3,kS]at h;exact aPU hi h3 h
 ·exact aPT hi h3
theorem I8{r:RN}(hi:i<5)(h:qY (gC r i)=true):
  ah prog Bs 58 (.block 1 (ag f100 1)) (GL i) (GM r (wv r i)) (3+i) ⟨.normal,GL i,GM r (wv r (i+1)),4+i⟩:=by
 unfold qY at h;simp at h;exact aPS hi h.1 h.2
theorem aD8{r:RN}(h:∀ i,i<5->qY (gC r i)=true):aG prog 100 [r.v] (.tuple #[.agg (w5 (wv r 5)).toArray,.bool true]):=
 eY mixed func100 200 (λw=>[.code 1 _ _ _ _ _ (I8 o_ (h 0 o_)),.code 1 _ _ _ _ _ (I8 o_ (h 1 o_)),.code 1 _ _ _ _ _ (I8 o_ (h 2 o_)),.code 1 _ _ _ _ _ (I8 o_ (h 3 o_)),.code 1 _ _ _ _ _ (I8 o_ (h 4 o_))]) (λ_=>k_) k_ k_
theorem aD9{r:RN}(h:¬∀ i,i<5->qY (gC r i)=true):∃ n,aG prog 100 [r.v] (.tuple #[.agg (w5 (wv r n)).toArray,.bool false]):=by
 have hex:∃ n,n<5/\qY (gC r n)=false:=iP λfU=>h λi hi=>by
  cases hb:qY (gC r i)with
  |true=>rfl
  |false=>exact absurd ⟨i,hi,hb⟩ fU
 obtain⟨n0,kN,lp⟩:=hex;obtain⟨n,h1,h2,h3⟩:=zy (λi=>qY (gC r i)=false) n0 lp;have aC:∀ i,i<n->qY (gC r i)=true:=λi hi=>by
  cases hb:qY (gC r i)with
  |true=>rfl
  |false=>exact absurd hb (h3 i hi)
 refine⟨n,?_⟩;have no:=λBs=>aPV (Bs:=Bs) (show n<5 by omega) h2;have yes:=λBs i (hi:i<n)=>I8 (Bs:=Bs) (show i<5 by omega) (aC i hi)
 rcases n with _|_|_|_|_|n
 ·exact eY mixed func100 200 (λw=>[.code 1 _ _ _ _ _ (no _)]) (λ_=>k_) k_ k_
 ·exact eY mixed func100 200 (λw=>[.code 1 _ _ _ _ _ (yes _ 0 o_),.code 1 _ _ _ _ _ (no _)]) (λ_=>k_) k_ k_
 ·exact eY mixed func100 200 (λw=>[.code 1 _ _ _ _ _ (yes _ 0 o_),.code 1 _ _ _ _ _ (yes _ 1 o_),.code 1 _ _ _ _ _ (no _)]) (λ_=>k_) k_ k_
 ·exact eY mixed func100 200 (λw=>[.code 1 _ _ _ _ _ (yes _ 0 o_),.code 1 _ _ _ _ _ (yes _ 1 o_),.code 1 _ _ _ _ _ (yes _ 2 o_),.code 1 _ _ _ _ _ (no _)]) (λ_=>k_) k_ k_
 ·exact eY mixed func100 200 (λw=>[.code 1 _ _ _ _ _ (yes _ 0 o_),.code 1 _ _ _ _ _ (yes _ 1 o_),.code 1 _ _ _ _ _ (yes _ 2 o_),.code 1 _ _ _ _ _ (yes _ 3 o_),.code 1 _ _ _ _ _ (no _)]) (λ_=>k_) k_ k_
 ·omega
def G5(W:Nat->Int):Nat:=Nat.gcd (Nat.gcd (Nat.gcd (Nat.gcd (Nat.gcd 0 (W 0).natAbs) (W 1).natAbs) (W 2).natAbs) (W 3).natAbs) (W 4).natAbs
theorem Mh(x y:Nat):ah prog Bs 28 (.block 2 (ag f110 2)) [(5,vI x),(6,vI y)] [] 1 ⟨.normal,[(5,vI (Nat.gcd x y))],[],1⟩:=by
 obtain⟨n,hn,hi⟩:=Ov x y (λ_ v=>decide (v≠0)) (λu v h=>kp h);have hz:(eu x y n).2=0:=by have:=DJ hn;omega
 have hg:=KL x y n;rw[hz,T4]at hg;rw[<-hg];refine cd (id:=2) (cx (P:=prog) (B:=Bs) (N:=28) (b:=aI (ag f110 2)) (next:=1) (r:=⟨.exit 2,[(5,vI (eu x y n).1)],[],1⟩) n (λi=>[(5,vI (eu x y i).1),(6,vI (eu x y i).2)]) (λ_=>[]) (λ_ _ _=>Iff.rfl) (λi al=>?_) ?_ n_)
 ·have h0:(eu x y i).2≠0:=kp (hi i al);show ah _ _ _ _ [(5,vI (eu x y i).1),(6,vI (eu x y i).2)] [] 1 ⟨.normal,[(5,vI (eu x y i).2),(6,vI ((eu x y i).1%(eu x y i).2))],[],1⟩;generalize (eu x y i).1=u at *;generalize (eu x y i).2=v at *;exact aD [.rw 21 (.bool ((v:Int)!=0)) b_ (by congr 1;rw[rJ];omega),.Fq f110 25 .i64 (u:Int) v ((u%v:Nat):Int) o_ (by rw[zL o_];rfl) k_]
 ·rw[hz];exact aD [.rw 21 (.bool (((0:Nat):Int)!=0)) a_ rfl]
theorem aEa{W:Nat->Int}(hW:∀ i,(W i).natAbs<4611686018427387904):aG prog 110 [.agg (w5 W).toArray] (vI (G5 W)):=by
 have ng:∀ i,IntKind.i64.wrap (0-W i)=-(W i):=λi=>by have:=hW i;rw[eh];omega
 exact eY mixed func110 200 (λw=>[.wr 18 .i64 _ _ (ng 0),.Mg f110 19 (W 0) k_,.code 2 _ _ _ _ _ (Mh 0 (W 0).natAbs),.wr 18 .i64 _ _ (ng 1),.Mg f110 19 (W 1) k_,.code 2 _ _ _ _ _ (Mh (Nat.gcd 0 (W 0).natAbs) (W 1).natAbs),.wr 18 .i64 _ _ (ng 2),.Mg f110 19 (W 2) k_,.code 2 _ _ _ _ _ (Mh (Nat.gcd (Nat.gcd 0 (W 0).natAbs) (W 1).natAbs) (W 2).natAbs),.wr 18 .i64 _ _ (ng 3),.Mg f110 19 (W 3) k_,.code 2 _ _ _ _ _ (Mh (Nat.gcd (Nat.gcd (Nat.gcd 0 (W 0).natAbs) (W 1).natAbs) (W 2).natAbs) (W 3).natAbs),.wr 18 .i64 _ _ (ng 4),.Mg f110 19 (W 4) k_,.code 2 _ _ _ _ _ (Mh (Nat.gcd (Nat.gcd (Nat.gcd (Nat.gcd 0 (W 0).natAbs) (W 1).natAbs) (W 2).natAbs) (W 3).natAbs) (W 4).natAbs)]) (λ_=>k_) k_ k_
def cw(f:Fr):Nat->Int
 |0=>f.a
 |1=>f.b
 |2=>f.c
 |3=>f.e
 |_=>f.d
theorem WN(f:Fr):G5 (cw f)=f.g:=by show Nat.gcd (Nat.gcd (Nat.gcd (Nat.gcd (Nat.gcd 0 f.a.natAbs) f.b.natAbs) f.c.natAbs) f.e.natAbs) f.d.natAbs=Nat.gcd (Nat.gcd (Nat.gcd (Nat.gcd f.d.natAbs f.a.natAbs) f.b.natAbs) f.c.natAbs) f.e.natAbs;rw[UF];simp only[Ia,Nat.gcd_left_comm]
theorem aEb{f:Fr}(hd:0<f.d)(hW:∀ i,(cw f i).natAbs<4611686018427387904):aG prog 101 [.agg (w5 (cw f)).toArray] (iz f.low):=by
 have hg:=aEa hW;rw[WN]at hg;have hg0:=Ut (x:=f) o_;have hs:f.s=(f.g:Int):=by unfold Fr.s;rw[az o_]
 have dG:f.low=⟨f.a/(f.g:Int),f.b/(f.g:Int),f.c/(f.g:Int),f.e/(f.g:Int),f.d/(f.g:Int)⟩:=by unfold Fr.low;rw[hs]
 rw[dG];have qu:∀ u:Int,f.g ∣ u.natAbs->u.natAbs<4611686018427387904->IntKind.i64.wrap (u.tdiv (f.g:Int))=u/(f.g:Int)/\(u/(f.g:Int)).natAbs<4611686018427387904:=λu hu hb=>by have hd:=DN hu;rw[hs]at hd;have h2:=aKG u (f.g:Int);rw[Int.tdiv_eq_ediv_of_dvd hd,eh];omega
 obtain⟨a1,a2⟩:=qu f.a (OQ f) (hW 0);obtain⟨b1,b2⟩:=qu f.b (OR f) (hW 1);obtain⟨c1,c2⟩:=qu f.c (OS f) (hW 2);obtain⟨e1,e2⟩:=qu f.e (OT f) (hW 3);obtain⟨d1,d2⟩:=qu f.d (FQ f) (hW 4);have ur:(f.g:Int)≠0:=by omega
 have of:=λ(z:Int) (h:z.natAbs<4611686018427387904)=>aXq (z:=z) o_ o_
 exact eY mixed func101 200 (λw=>[hg.at 7,.wh f101 17 .i64 f.a (f.g:Int) (f.a/(f.g:Int)) ur a1 k_,(of _ a2).at 18,.wh f101 17 .i64 f.b (f.g:Int) (f.b/(f.g:Int)) ur b1 k_,(of _ b2).at 18,.wh f101 17 .i64 f.c (f.g:Int) (f.c/(f.g:Int)) ur c1 k_,(of _ c2).at 18,.wh f101 17 .i64 f.e (f.g:Int) (f.e/(f.g:Int)) ur e1 k_,(of _ e2).at 18,.wh f101 24 .i64 f.d (f.g:Int) (f.d/(f.g:Int)) ur d1 k_,(of _ d2).at 25]) (λ_=>k_) k_ k_
def jH(q:RI):Bool:=xL q.neg q.bo
theorem GN{q:RI}(h:jH q=true):bO (eM q)=q:=by
 obtain⟨n,l⟩:=q;unfold jH at h;unfold eM bO;rw[qJ];cases l with
 |nil=>
  simp[xL]at h;subst h;simp[gv,sg,Du]
 |cons c l=>
  simp[xL]at h;have hv:gv (c::l)≠0:=by have:=aAj (l:=l) h;have:=cO (n:=l.length) (show 0<256 by decide);omega
  have hm:cM (gv (c::l))=c::l:=aJm (by rintro c' r' e;injection e with e1 e2;rw[<-e1];exact h);show RI.mk (decide (sg n (gv (c::l))<0)) (cM (gv (c::l)))=_;rw[hm,WB (λ_=>hv)]
theorem yE(z:Int):eM (bO z)=z:=by
 show sg (decide (z<0)) (gv (cM z.natAbs))=z;rw[Fz];unfold sg;by_cases h:z<0
 ·rw[aJ h];simp;omega
 ·rw[bd h];simp;omega
theorem Mi(z:Int):jH (bO z)=true:=by show xL (decide (z<0)) (cM z.natAbs)=true;exact aDC _ (λh=>by have:=kp h;omega)
def gQ(r:RN):Fr:=⟨eM r.a,eM r.b,eM r.c,eM r.e,eM r.d⟩
def nK(r:RN):Bool:=jH r.a&&(jH r.b&&(jH r.c&&(jH r.e&&(jH r.d&&(decide (0<eM r.d)&&decide ((gQ r).g=1))))))
theorem Mj{g:Nat}{q:RI}{n:Nat}(h:jH q=true)(h1:g<2^n)(h2:(eM q).natAbs<2^n)(hn:n<=aE):aG prog 75 [aX g,q.v] (aX (Nat.gcd g (eM q).natAbs:Nat)):=by have:=aWw (g:=g) (x:=eM q) h1 h2 hn hn;rw[aBp (eM q),GN h]at this;exact this
theorem aPW:aX ((0:Nat):Int)=.agg #[.bool false,.string ⟨#[]⟩]:=by show(bO 0).v=_;rw[DR];rfl
theorem Mk{r:RN}{n:Nat}(bH:dU n (gQ r))(hn:n<=aE):aG prog 55 [r.v] (.bool (nK r)):=by
 obtain⟨sa,sb,sc,se,sd⟩:=bH
 replace sa:(eM r.a).natAbs<2^n:=sa
 replace sb:(eM r.b).natAbs<2^n:=sb
 replace sc:(eM r.c).natAbs<2^n:=sc
 replace se:(eM r.e).natAbs<2^n:=se
 replace sd:(eM r.d).natAbs<2^n:=sd
 by_cases hw:∀ i,i<5->qY (gC r i)=true
 ·have wok:=aD8 hw;have raw:∀ i,i<5->jH (gC r i)=true:=λi hi=>by have:=hw i hi;unfold qY at this;simp at this;exact this.2
  have hb:∀ i,(wv r 5 i).natAbs<4611686018427387904:=λi=>by
   unfold wv;split
   ·rename_i h;have hi:i<5:=by rw[Bm]at h;exact h
    have:=hw i hi;unfold qY at this;simp at this;unfold eM;rw[qJ];have h1:=BB (gC r i).bo;have h2:(256:Nat)^(gC r i).bo.length<=256^3:=di d_ this.1;exact cF h1 (dh h2 d_)
   ·decide
  have wg:=aEa hb;have e1:G5 (wv r 5)=(gQ r).g:=WN (gQ r);rw[e1]at wg;have e2:nK r=(decide (0<eM r.d)&&decide ((gQ r).g=1)):=by unfold nK;rw[show jH r.a=true from raw 0 o_,show jH r.b=true from raw 1 o_,show jH r.c=true from raw 2 o_,show jH r.e=true from raw 3 o_,show jH r.d=true from raw 4 o_];rfl
  rw[e2];by_cases hd:0<eM r.d
  ·rw[aJ hd,kS];have WO:Value.bool (decide (eM r.d>0))=.bool true:=by rw[aJ hd]
   exact eY mixed func55 200 (λw=>[wok.at 9,.rw 15 _ b_ WO,wg.at 18,.gO 19 (gQ r).g 1 _ rfl]) (λ_=>k_) k_ k_
  ·rw[bd hd,zG];have WO:Value.bool (decide (eM r.d>0))=.bool false:=by rw[bd hd]
   exact eY mixed func55 200 (λw=>[wok.at 9,.rw 15 _ a_ WO]) (λ_=>k_) k_ k_
 ·obtain⟨m,GO⟩:=aD9 hw;have hp:0<2^n:=cO d_;have va:=aW9 r.a.neg r.a.bo;have vb:=aW9 r.b.neg r.b.bo;have vc:=aW9 r.c.neg r.c.bo;have ve:=aW9 r.e.neg r.e.bo;have vd:=aW9 r.d.neg r.d.bo;unfold nK;change aG _ _ _ (.bool (jH r.a))at va;change aG _ _ _ (.bool (jH r.b))at vb;change aG _ _ _ (.bool (jH r.c))at vc;change aG _ _ _ (.bool (jH r.e))at ve;change aG _ _ _ (.bool (jH r.d))at vd;have go:∀ q b,jH q=b->jH q=b:=λ_ _ h=>h;rcases ha:jH r.a with _|_
  ·rw[ha]at va;exact eY mixed func55 200 (λw=>[GO.at 9,va.at 30]) (λ_=>k_) k_ k_
  rw[ha]at va;have g1:=Mj (g:=0) ha hp sa hn;rw[aPW]at g1;have s1:Nat.gcd 0 (eM r.a).natAbs<2^n:=by rw[UF];exact sa
  rcases hb:jH r.b with _|_
  ·rw[hb]at vb;exact eY mixed func55 200 (λw=>[GO.at 9,va.at 30,g1.at 37,vb.at 30]) (λ_=>k_) k_ k_
  rw[hb]at vb;have g2:=Mj hb s1 sb hn;have s2:=z7 s1 sb;rcases hc:jH r.c with _|_
  ·rw[hc]at vc;exact eY mixed func55 200 (λw=>[GO.at 9,va.at 30,g1.at 37,vb.at 30,g2.at 37,vc.at 30]) (λ_=>k_) k_ k_
  rw[hc]at vc;have g3:=Mj hc s2 sc hn;have s3:=z7 s2 sc;rcases he:jH r.e with _|_
  ·rw[he]at ve;exact eY mixed func55 200 (λw=>[GO.at 9,va.at 30,g1.at 37,vb.at 30,g2.at 37,vc.at 30,g3.at 37,ve.at 30]) (λ_=>k_) k_ k_
  rw[he]at ve;have g4:=Mj he s3 se hn;have s4:=z7 s3 se;rcases hd:jH r.d with _|_
  ·rw[hd]at vd;exact eY mixed func55 200 (λw=>[GO.at 9,va.at 30,g1.at 37,vb.at 30,g2.at 37,vc.at 30,g3.at 37,ve.at 30,g4.at 37,vd.at 40]) (λ_=>k_) k_ k_
  rw[hd]at vd;have g5:=Mj hd s4 sd hn;have s5:=z7 s4 sd;have WL:Nat.gcd (Nat.gcd (Nat.gcd (Nat.gcd (Nat.gcd 0 (eM r.a).natAbs) (eM r.b).natAbs) (eM r.c).natAbs) (eM r.e).natAbs) (eM r.d).natAbs=(gQ r).g:=WN (gQ r);rw[WL]at g5 s5;have aH:=aWK (eM r.d);rw[aBp,GN hd]at aH;have B8:=aXq (z:=1) d_ d_;have one:(bO 1).Sm:=uo (n:=1) d_ d_;have sm:(bO ((gQ r).g:Int)).Sm:=uo (z:=((gQ r).g:Int)) (n:=n) (by rw[zY];exact s5) hn;by_cases hp:0<eM r.d
  ·rw[aJ hp];have WQ:Value.bool (decide ((eM r.d).sign>0))=.bool true:=by rw[BZ hp];rfl
   have heq:∀ w,cI prog (aa.at w) (au f55 53) [(bO ((gQ r).g:Int)).v,(bO 1).v] [] (.bool (decide ((gQ r).g=1))) []:=λw=>B7 (neg:=true) k_ (bO ((gQ r).g:Int)) (bO 1) sm one (by simp only[rz,u7];exact⟨λh=>by rw[h];rfl,λh=>by have:=xR h;omega⟩)
   exact eY mixed func55 200 (λw=>[GO.at 9,va.at 30,g1.at 37,vb.at 30,g2.at 37,vc.at 30,g3.at 37,ve.at 30,g4.at 37,vd.at 40,aH.at 44,.rw 45 _ b_ WQ,g5.at 51,B8.at 52,.step 53 (au f55 53) _ _ _ _ (heq w)]) (λ_=>k_) k_ k_
  ·rw[bd hp];have WQ:Value.bool (decide ((eM r.d).sign>0))=.bool false:=by
    rw[bd];have h0:eM r.d<=0:=by omega
    rcases Int.lt_or_eq_of_le h0 with h|h
    ·rw[FG h];decide
    ·rw[h];decide
   exact eY mixed func55 200 (λw=>[GO.at 9,va.at 30,g1.at 37,vb.at 30,g2.at 37,vc.at 30,g3.at 37,ve.at 30,g4.at 37,vd.at 40,aH.at 44,.rw 45 _ a_ WQ]) (λ_=>k_) k_ k_
theorem WR(f:Fr):gQ (tf f)=f:=by show Fr.mk (eM (bO f.a)) (eM (bO f.b)) (eM (bO f.c)) (eM (bO f.e)) (eM (bO f.d))=f;rw[yE,yE,yE,yE,yE]
theorem aEc{f:Fr}(h:f.pT):nK (tf f)=true:=by unfold nK;rw[WR,h.one];show(jH (bO f.a)&&(jH (bO f.b)&&(jH (bO f.c)&&(jH (bO f.e)&&(jH (bO f.d)&&(decide (0<eM (bO f.d))&&decide (1=1)))))))=true;rw[Mi,Mi,Mi,Mi,Mi,yE,aJ h.pos];rfl
theorem aWQ{f:Fr}{n:Nat}(hf:f.pT)(h:dU n f)(hn:n<=aE):aG prog 55 [iz f] b_:=by have:=Mk (r:=tf f) (n:=n) (by rw[WR];exact h) hn;rw[aEc hf]at this;exact this
theorem aXh{n:Nat}(h:Sz n x)(hn:n<=aE):aG prog 55 [bX x] b_:=aWQ (kU x) h hn
theorem QE{r:RN}(h:nK r=true):r=du (gQ r).val:=by unfold nK at h;simp only[de,u7]at h;obtain⟨h1,h2,h3,h4,h5,h6,h7⟩:=h;unfold du;rw[FR ⟨h6,h7⟩];obtain⟨a,b,c,e,d⟩:=r;show RN.mk a b c e d=RN.mk (bO (eM a)) (bO (eM b)) (bO (eM c)) (bO (eM e)) (bO (eM d));rw[GN h1,GN h2,GN h3,GN h4,GN h5]
theorem aXb{n:Nat}(h:Sz n x)(hn:n<=aE):aG prog 161 [bX x] (bX (-x)):=by
 have hv:=aXh h hn;have e:bX (-x)=iz (zZ (bW x)):=by unfold bX du;rw[Uy];rfl
 rw[e];exact bC func161 (λ_=>[hv.at 6,(aW0 (bW x).a).at 19,(aW0 (bW x).b).at 19,(aW0 (bW x).c).at 19,(aW0 (bW x).e).at 19])
theorem aPX(f:Fr):w5 (wv (tf f) 5)=w5 (cw f):=by show[Value.int .i64 (eM (bO f.a)),.int .i64 (eM (bO f.b)),.int .i64 (eM (bO f.c)),.int .i64 (eM (bO f.e)),.int .i64 (eM (bO f.d))]=_;rw[yE,yE,yE,yE,yE];rfl
def CH(f:Fr):Prop:=∀ i,i<5->qY (gC (tf f) i)=true
theorem QF{f:Fr}(h:CH f):∀ i,(cw f i).natAbs<16777216:=by
 have key:∀ z:Int,qY (bO z)=true->z.natAbs<16777216:=λz hz=>by
  unfold qY at hz;simp at hz;have h1:nd 256 z.natAbs<=3:=by have:=hz.1;show _<=3;rw[<-uj];exact this
  have h2:=eB (B:=256) d_ z.natAbs;have h3:(256:Nat)^nd 256 z.natAbs<=256^3:=di d_ h1;exact cF h2 (dh h3 d_)
 intro i;rcases i with _|_|_|_|i
 ·exact key _ (h 0 o_)
 ·exact key _ (h 1 o_)
 ·exact key _ (h 2 o_)
 ·exact key _ (h 3 o_)
 ·exact key _ (h 4 o_)
theorem I9{f:Fr}(h:CH f):aG prog 100 [iz f] (.tuple #[.agg (w5 (cw f)).toArray,.bool true]):=by have:=aD8 h;rw[aPX]at this;exact this
theorem QG{f:Fr}(h:¬CH f):∃ n,aG prog 100 [iz f] (.tuple #[.agg (w5 (wv (tf f) n)).toArray,.bool false]):=aD9 h
theorem WS{x y:Int}(hx:x.natAbs<16777216)(hy:y.natAbs<16777216):-281474976710656<=x*y/\x*y<=281474976710656:=by have h:=qA hx hy;rw[<-xO]at h;generalize x*y=p at *;have h2:p.natAbs<281474976710656:=h;omega
abbrev W(x:Int):Int:=IntKind.i64.wrap x
theorem aPY(x k:Int):W (x+18446744073709551616*k)=W x:=by simp only[eh];omega
theorem aPZ(x:Int):∃ k,W x=x+18446744073709551616*k:=⟨(W x-x)/18446744073709551616,by simp only[eh];omega⟩
theorem Eu(a b:Int):W (W a+b)=W (a+b):=by simp only[eh];omega
theorem Ev(a b:Int):W (a+W b)=W (a+b):=by simp only[eh];omega
theorem WT(a b:Int):W (W a*b)=W (a*b):=by obtain⟨k,h⟩:=aPZ a;rw[h,Int.add_mul,Ma,aPY]
theorem AM{u:Int}(h:W u=W z)(hz:z.natAbs<4611686018427387904):Value.int .i64 (W u)=.int .i64 z:=by rw[h];congr 1;simp only[eh];omega
theorem aWN{y:K}{n:Nat}(hx:Sz m x)(hy:Sz n y)(cQ:m+n<aE):aG prog 49 [bX x,bX y] (bX (x+y)):=by
 have v1:=aXh hx o_;have v2:=aXh hy o_;have pW:aE<=1099511627776:=by decide
 have xQ:=(kU x).pos;have wx:=(kU y).pos;have hl:=aWD (c:=co (qK (bW x) (bW y))) (d:=(qK (bW x) (bW y)).d) (n:=m+n+1) (DO o_ o_) (dU.add hx hy) o_;have e:bX (x+y)=iz (qK (bW x) (bW y)).low:=by unfold bX du;rw[Uw];rfl
 rw[e];by_cases hw:CH (bW x)/\CH (bW y)
 ·obtain⟨w1,w2⟩:=hw;have q1:=I9 w1;have q2:=I9 w2;have b1:=QF w1;have b2:=QF w2;change aG _ _ [iz (bW x)] _ at v1;change aG _ _ [iz (bW y)] _ at v2;show aG _ _ [iz (bW x),iz (bW y)] _;clear hl hx hy e;generalize bW x=f at *;generalize bW y=g at *;have P:=λi j=>WS (b1 i) (b2 j);have Q:=λi j=>WS (b2 i) (b1 j);have hb:∀ i,(cw (qK f g) i).natAbs<4611686018427387904:=by
   intro i;rcases i with _|_|_|_|i
   ·have h1:=P 0 4;have h2:=Q 0 4;show(f.a*g.d+g.a*f.d).natAbs<_;simp only[cw]at h1 h2;omega
   ·have h1:=P 1 4;have h2:=Q 1 4;show(f.b*g.d+g.b*f.d).natAbs<_;simp only[cw]at h1 h2;omega
   ·have h1:=P 2 4;have h2:=Q 2 4;show(f.c*g.d+g.c*f.d).natAbs<_;simp only[cw]at h1 h2;omega
   ·have h1:=P 3 4;have h2:=Q 3 4;show(f.e*g.d+g.e*f.d).natAbs<_;simp only[cw]at h1 h2;omega
   ·have h1:=P 4 4;show(f.d*g.d).natAbs<_;simp only[cw]at h1;omega
  have nm:=aEb (f:=qK f g) (UB xQ wx) hb;exact eY mixed func49 200 (λ_=>[v1.at 13,v2.at 17,q1.at 23,q2.at 29,.rw 50 (.int .i64 (W (W (f.a*g.d)+W (g.a*f.d)))) (.int .i64 (qK f g).a) (AM (by rw[Eu,Ev];rfl) (hb 0)),.rw 50 (.int .i64 (W (W (f.b*g.d)+W (g.b*f.d)))) (.int .i64 (qK f g).b) (AM (by rw[Eu,Ev];rfl) (hb 1)),.rw 50 (.int .i64 (W (W (f.c*g.d)+W (g.c*f.d)))) (.int .i64 (qK f g).c) (AM (by rw[Eu,Ev];rfl) (hb 2)),.rw 50 (.int .i64 (W (W (f.e*g.d)+W (g.e*f.d)))) (.int .i64 (qK f g).e) (AM (by rw[Eu,Ev];rfl) (hb 3)),.rw 56 (.int .i64 (W (f.d*g.d))) (.int .i64 (qK f g).d) (AM rfl (hb 4)),nm.at 59]) (λ_=>k_) k_ k_
 ·obtain⟨x1,x2,x3,x4,x5⟩:=hx;obtain⟨y1,y2,y3,y4,y5⟩:=hy;have mu:∀{u v:Int} {p q:Nat},u.natAbs<2^p->v.natAbs<2^q->p+q<=aE->aG prog 65 [aX u,aX v] (aX (u*v)):=λh1 h2 h3=>aXc h1 h2 o_ o_;have ad:∀{u v:Int},u.natAbs<2^m->v.natAbs<2^n->aG prog 102 [aX (u*(bW y).d),aX (v*(bW x).d)] (aX (u*(bW y).d+v*(bW x).d)):=λh1 h2=>
   aWP (eV h1 y5) (eV h2 x5) o_ o_
  by_cases w1:CH (bW x)
  ·obtain⟨k,q2⟩:=QG (f:=bW y) (λh=>hw ⟨w1,h⟩);have q1:=I9 w1;exact eY mixed func49 200 (λ_=>[v1.at 13,v2.at 17,q1.at 23,q2.at 29,(mu x1 y5 o_).at 71,(mu y1 x5 o_).at 78,(ad x1 y1).at 79,(mu x2 y5 o_).at 71,(mu y2 x5 o_).at 78,(ad x2 y2).at 79,(mu x3 y5 o_).at 71,(mu y3 x5 o_).at 78,(ad x3 y3).at 79,(mu x4 y5 o_).at 71,(mu y4 x5 o_).at 78,(ad x4 y4).at 79,(mu x5 y5 o_).at 86,hl.at 87]) (λ_=>k_) k_ k_
  ·obtain⟨k,q1⟩:=QG (f:=bW x) w1;exact eY mixed func49 200 (λ_=>[v1.at 13,v2.at 17,q1.at 23,(mu x1 y5 o_).at 71,(mu y1 x5 o_).at 78,(ad x1 y1).at 79,(mu x2 y5 o_).at 71,(mu y2 x5 o_).at 78,(ad x2 y2).at 79,(mu x3 y5 o_).at 71,(mu y3 x5 o_).at 78,(ad x3 y3).at 79,(mu x4 y5 o_).at 71,(mu y4 x5 o_).at 78,(ad x4 y4).at 79,(mu x5 y5 o_).at 86,hl.at 87]) (λ_=>k_) k_ k_
theorem aWS{y:K}{n:Nat}(hx:Sz m x)(hy:Sz n y)(cQ:m+n<aE):aG prog 115 [bX x,bX y] (bX (x-y)):=by rw[CR.sub_def];exact bC func115 (λ_=>[(aXb hy o_).at 7,(aWN hx hy.neg cQ).at 8])
section
variable{Bs:aa}{a b:Nat->Int}
def WU(n:Nat):aT:=[(6,vI (n/4)),(7,vI (n%4)),(2,ptr 0),(3,ptr 1),(5,ptr 3)]
def Ja(a b c:Nat->Int):aM:=[(0,.aK (ic a) 31),(1,.aK (ic b) 31),(3,.aK (ic c) 31)]
theorem aP0(n:Nat)(hn:n<16){c:Nat->Int}{p:Nat}(ha:∀ i,(a i).natAbs<2^p)(hb:∀ i,(b i).natAbs<2^q)(hc:∀ i,(c i).natAbs<2^r)(F1:p+q+3<=aE)(hr:r<=aE):
  ah prog Bs 66 (.block 3 (ag f62 3)) (WU n) (Ja a b c) (4+n) ⟨.normal,[],Ja a b (xW n a b c),5+n⟩:=by
 have pW:aE<=1099511627776:=by decide
 have rQ:∀ m,(sq m).natAbs<2^3:=λm=>by unfold sq;split<;>decide
 have m1:=aXc (ha (n/4)) (hb (n%4)) o_ o_;have m2:=aXc (rQ ((n/4)&&& (n%4))) (eV (ha (n/4)) (hb (n%4))) o_ o_;have ad:=aWP (hc ((n/4) ^^^ (n%4))) (eV (rQ ((n/4)&&& (n%4))) (eV (ha (n/4)) (hb (n%4)))) o_ o_;have so:=aXq (z:=sq ((n/4)&&& (n%4))) (by have:=rQ ((n/4)&&& (n%4));omega) (by have:=rQ ((n/4)&&& (n%4));omega);have sa:=aWK (a (n/4));have sb:=aWK (b (n%4));have z1:∀ z:Int,z=0->Value.bool (z.sign==0)=.bool true:=λz h=>by rw[h];rfl
 have z2:∀ z:Int,z≠0->Value.bool (z.sign==0)=.bool false:=λz h=>by congr 1;simp;exact h
 by_cases h1:a (n/4)=0
 ·rw[O7 (.inl h1)];have e:=z1 _ h1;rcases n with _|_|_|_|_|_|_|_|_|_|_|_|_|_|_|_|n
  all_goals first|omega|exact aD [sa.at 21,.rw 22 _ b_ e]
 ·have e:=z2 _ h1;by_cases h2:b (n%4)=0
  ·rw[O7 (.inr h2)];have e':=z1 _ h2;rcases n with _|_|_|_|_|_|_|_|_|_|_|_|_|_|_|_|n
   all_goals first|omega|exact aD [sa.at 21,.rw 22 _ a_ e,sb.at 27,.rw 28 _ b_ e']
  ·have e':=z2 _ h2;rcases n with _|_|_|_|_|_|_|_|_|_|_|_|_|_|_|_|n
   all_goals first|omega|exact aD [sa.at 21,.rw 22 _ a_ e,sb.at 27,.rw 28 _ a_ e',so.at 45,m1.at 52,m2.at 53,ad.at 63]
end
theorem aEd{a b:Nat->Int}{n:Nat}(ca:∀ i,(a i).natAbs<2^m)(cb:∀ i,(b i).natAbs<2^n)(cQ:m+n+8<=aE):aG prog 62 [pV a,pV b] (pV (j6 a b 16)):=by
 have pW:aE<=1099511627776:=by decide
 have hs:∀ i,i<=16->∀ k,(j6 a b i k).natAbs<2^(m+n+8):=λi hi k=>by
  have h1:=UM ca cb i hi k;have h2:i*2^(m+n+3)<=16*2^(m+n+3):=eE _ hi;have h3:2^(m+n+8)=32*2^(m+n+3):=by rw[show m+n+8=5+(m+n+3)by omega,eU]
  have h4:0<2^(m+n+3):=cO d_;omega
 have go:∀(w:h_) (i:Nat),i<16->ah prog (aa.at w) 66 (.block 3 (ag f62 3)) (WU i) (Ja a b (j6 a b i)) (4+i) ⟨.normal,[],Ja a b (j6 a b (i+1)),5+i⟩:=λw i hi=>
  aP0 i hi ca cb (hs i o_) o_ o_
 have UN:∀(w:h_),ah prog (aa.at w) 66 (.block 3 (ag f62 3)) (WU 0) [(0,.aK (ic a) 31),(1,.aK (ic b) 31),(3,.aK [.bool false,.string ⟨#[]⟩,.bool false,.string ⟨#[]⟩,.bool false,.string ⟨#[]⟩,.bool false,.string ⟨#[]⟩] 31)] 4
   ⟨.normal,[],Ja a b (j6 a b 1),5⟩:=λw=>by
  have h:=go w 0 o_;have e:Ja a b (j6 a b 0)=[(0,.aK (ic a) 31),(1,.aK (ic b) 31),(3,.aK [.bool false,.string ⟨#[]⟩,.bool false,.string ⟨#[]⟩,.bool false,.string ⟨#[]⟩,.bool false,.string ⟨#[]⟩] 31)]:=by show[(0,Obj.aK (ic a) 31),(1,.aK (ic b) 31),(3,.aK (ic (λ_=>0)) 31)]=_;rw[aBy]
  rw[e]at h;exact h
 generalize j6 a b=c at *;exact eY mixed func62 300 (λw=>[.code 3 _ _ _ _ _ (UN w),.code 3 _ _ _ _ _ (go w 1 o_),.code 3 _ _ _ _ _ (go w 2 o_),.code 3 _ _ _ _ _ (go w 3 o_),.code 3 _ _ _ _ _ (go w 4 o_),.code 3 _ _ _ _ _ (go w 5 o_),.code 3 _ _ _ _ _ (go w 6 o_),.code 3 _ _ _ _ _ (go w 7 o_),.code 3 _ _ _ _ _ (go w 8 o_),.code 3 _ _ _ _ _ (go w 9 o_),.code 3 _ _ _ _ _ (go w 10 o_),.code 3 _ _ _ _ _ (go w 11 o_),.code 3 _ _ _ _ _ (go w 12 o_),.code 3 _ _ _ _ _ (go w 13 o_),.code 3 _ _ _ _ _ (go w 14 o_),.code 3 _ _ _ _ _ (go w 15 o_)]) (λ_=>k_) k_ k_
theorem aXp{y:K}{n:Nat}(hx:Sz m x)(hy:Sz n y)(cQ:m+n+8<=aE):aG prog 53 [bX x,bX y] (bX (x*y)):=by
 have v1:=aXh hx o_;have v2:=aXh hy o_;have pW:aE<=1099511627776:=by decide
 have xQ:=(kU x).pos;have wx:=(kU y).pos;have e:bX (x*y)=iz (ep (bW x) (bW y)).low:=by unfold bX du;rw[Ux];rfl
 rw[e];by_cases hw:CH (bW x)/\CH (bW y)
 ·obtain⟨w1,w2⟩:=hw;have q1:=I9 w1;have q2:=I9 w2;have b1:=QF w1;have b2:=QF w2;change aG _ _ [iz (bW x)] _ at v1;change aG _ _ [iz (bW y)] _ at v2;show aG _ _ [iz (bW x),iz (bW y)] _;clear hx hy e;generalize bW x=f at *;generalize bW y=g at *;have P:=λi j=>WS (b1 i) (b2 j);have hb:∀ i,(cw (ep f g) i).natAbs<4611686018427387904:=by have h00:=P 0 0;have vi:=P 0 1;have Dr:=P 0 2;have h03:=P 0 3;have h10:=P 1 0;have h11:=P 1 1;have PH:=P 1 2;have Tm:=P 1 3;have h20:=P 2 0;have h21:=P 2 1;have Z7:=P 2 2;have h23:=P 2 3;have h30:=P 3 0;have h31:=P 3 1;have h32:=P 3 2;have h33:=P 3 3;have h44:=P 4 4;simp only[cw]at *;intro i;rcases i with _|_|_|_|i<;>(simp only[cw,ep];omega)
  have nm:=aEb (f:=ep f g) (UB xQ wx) hb;exact eY mixed func53 300 (λ_=>[v1.at 10,v2.at 14,q1.at 20,q2.at 26,.rw 55 (.int .i64 (W (W (W (W (f.a*g.a)+W (W (2*f.b)*g.b))+W (W (3*f.c)*g.c))+W (W (6*f.e)*g.e)))) (.int .i64 (ep f g).a) (AM (by simp only[Eu,Ev,WT];congr 1;unfold ep;simp only[Ma]) (hb 0)),.rw 80 (.int .i64 (W (W (W (W (f.a*g.b)+W (f.b*g.a))+W (W (3*f.c)*g.e))+W (W (3*f.e)*g.c)))) (.int .i64 (ep f g).b) (AM (by simp only[Eu,Ev,WT];congr 1;unfold ep;simp only[Ma]) (hb 1)),.rw 105 (.int .i64 (W (W (W (W (f.a*g.c)+W (f.c*g.a))+W (W (2*f.b)*g.e))+W (W (2*f.e)*g.b)))) (.int .i64 (ep f g).c) (AM (by simp only[Eu,Ev,WT];congr 1;unfold ep;simp only[Ma];omega) (hb 2)),.rw 128 (.int .i64 (W (W (W (W (f.a*g.e)+W (f.e*g.a))+W (f.b*g.c))+W (f.c*g.b)))) (.int .i64 (ep f g).e) (AM (by simp only[Eu,Ev];congr 1;unfold ep;simp only[];omega) (hb 3)),.rw 133 (.int .i64 (W (f.d*g.d))) (.int .i64 (ep f g).d) (AM rfl (hb 4)),nm.at 135]) (λ_=>k_) k_ k_
 ·have ca:=Iz hx;have cb:=Iz hy;have tm:=aEd ca cb cQ;have hl:=aWD (c:=j6 (co (bW x)) (co (bW y)) 16) (d:=(bW x).d*(bW y).d) (n:=m+n+4) (DO o_ o_) (by rw[K6];exact dU.mul hx hy) o_;rw[K6]at hl;have md:=aXc hx.2.2.2.2 hy.2.2.2.2 o_ o_;generalize j6 (co (bW x)) (co (bW y)) 16=c at *;by_cases w1:CH (bW x)
  ·obtain⟨k,q2⟩:=QG (f:=bW y) (λh=>hw ⟨w1,h⟩);have q1:=I9 w1;exact eY mixed func53 200 (λ_=>[v1.at 10,v2.at 14,q1.at 20,q2.at 26,tm.at 140,md.at 145,hl.at 146]) (λ_=>k_) k_ k_
  ·obtain⟨k,q1⟩:=QG (f:=bW x) w1;exact eY mixed func53 200 (λ_=>[v1.at 10,v2.at 14,q1.at 20,tm.at 140,md.at 145,hl.at 146]) (λ_=>k_) k_ k_
theorem aEe{a s:Int}(ha:a.natAbs<=1)(hs:s.natAbs<=1):IntKind.i64.wrap (a*s)=a*s:=by
 have h1:a=-1\/a=0\/a=1:=by omega
 rcases h1 with h1|h1|h1<;>rw[h1,eh]<;>omega
theorem yF{a b:Int}(h:a=b):Value.bool (a==b)=.bool true:=by rw[h];simp
theorem qd{a b:Int}(h:a≠b):Value.bool (a==b)=.bool false:=by congr 1;simpa using h
theorem WV{x y:Int}{p:Nat}(h1:x.natAbs<2^p)(h2:y.natAbs<2^q)(hp:p+p+3<=aE)(hq:q+q+3<=aE):aG prog 61 [aX x,aX y] (.int .i64 (pU x y)):=by
 have pW:aE<=1099511627776:=by decide
 have s1:=aWK x;have s2:=aWK y;have l1:=F3 x;have l3:=F3 (x*x-2*(y*y));have m1:=aXc h1 h1 o_ o_;have o2:=aXq (z:=2) d_ d_;have m2:=aXc h2 h2 o_ o_;have m3:=aXc (x:=2) (y:=y*y) (p:=2) d_ (eV h2 h2) d_ o_;have cm:=aWB (x:=x*x) (y:=2*(y*y)) (eV h1 h1) (eV (m:=2) (u:=2) d_ (eV h2 h2)) o_ o_;have hw:=aEe l1 l3;unfold pU um;generalize (x*x-2*(y*y)).sign=t at *;generalize x.sign=a at *;generalize y.sign=b at *;by_cases h1:a=b
 ·rw[aB (.inl h1)];exact bC func61 (λ_=>[s1.at 8,s2.at 10,.rw 13 _ b_ (yF h1)])
 ·by_cases h2:b=0
  ·rw[aB (.inr h2)];exact bC func61 (λ_=>[s1.at 8,s2.at 10,.rw 13 _ a_ (qd h1),.rw 16 _ b_ (yF h2)])
  ·rw[az (λh=>h.elim h1 h2)];by_cases h3:a=0
   ·rw[aB h3];exact bC func61 (λ_=>[s1.at 8,s2.at 10,.rw 13 _ a_ (qd h1),.rw 16 _ a_ (qd h2),.rw 20 _ b_ (yF h3)])
   ·rw[az h3];exact bC func61 (λ_=>[s1.at 8,s2.at 10,.rw 13 _ a_ (qd h1),.rw 16 _ a_ (qd h2),.rw 20 _ a_ (qd h3),m1.at 25,o2.at 26,m2.at 29,m3.at 30,cm.at 31,.wr 32 .i64 (a*t) (a*t) hw])
theorem Jb{f g:Fr}{n:Nat}(hf:dU m f)(hg:dU n g)(cQ:m+n+8<=aE):aG prog 62 [pV (co f),pV (co g)] (pV (co (ep f g))):=by
 have h:=aEd (Iz hf) (Iz hg) cQ;have e:pV (j6 (co f) (co g) 16)=pV (co (ep f g)):=by rw[<-K6 f g];rfl
 rw[e]at h;exact h
def f2(a b:Int):Fr:=⟨a,b,0,0,1⟩
theorem aP1(a b:Int):ep (f2 a b) (f2 a b)=⟨a*a+2*(b*b),2*(a*b),0,0,1⟩:=by
 unfold ep f2;simp only[Fr.mk.injEq];refine⟨?_,?_,?_,?_,?_⟩
 ·simp
 ·rw[T6 b a];simp;omega
 ·simp
 ·simp
 ·rfl
theorem aP2(a b:Int):pV (co (f2 a b))=.agg #[.bool (bO a).neg,.string (BA (bO a).bo),.bool (bO b).neg,.string (BA (bO b).bo),.bool false,.string ⟨#[]⟩,.bool false,.string ⟨#[]⟩]:=by show Value.agg #[.bool (bO a).neg,.string (BA (bO a).bo),.bool (bO b).neg,.string (BA (bO b).bo),.bool (bO 0).neg,.string (BA (bO 0).bo),.bool (bO 0).neg,.string (BA (bO 0).bo)]=_;rw[DR];rfl
theorem aEf{a b:Int}{n:Nat}(ha:a.natAbs<2^n)(hb:b.natAbs<2^n)(hn:2*n+10<=aE):
  aG prog 62 [.agg #[.bool (bO a).neg,.string (BA (bO a).bo),.bool (bO b).neg,.string (BA (bO b).bo),.bool false,.string ⟨#[]⟩,.bool false,.string ⟨#[]⟩],.agg #[.bool (bO a).neg,.string (BA (bO a).bo),.bool (bO b).neg,.string (BA (bO b).bo),.bool false,.string ⟨#[]⟩,.bool false,.string ⟨#[]⟩]]
   (pV (co ⟨a*a+2*(b*b),2*(a*b),0,0,1⟩)):=by
 have hp:0<2^n:=cO d_;have h:dU (n+1) (f2 a b):=by have h2:2^n*2=2^(n+1):=(dH ..).symm;refine⟨?_,?_,?_,?_,?_⟩<;>unfold f2<;>dsimp only<;>omega
 have:=Jb h h o_;rw[aP1,aP2]at this;exact this
theorem aWJ{n:Nat}(hx:Sz n x)(hn:4*n+30<=aE):aG prog 23 [bX x] (.int .i64 (OF.aH x)):=by
 have pW:aE<=1099511627776:=by decide
 have hv:=aXh hx o_;rw[aBn];obtain⟨x1,x2,x3,x4,x5⟩:=hx;unfold bX du at *;generalize bW x=f at *;have s1:=WV x1 x2 o_ o_;have s2:=WV x3 x4 o_ o_;have t1:=aEf x1 x2 o_;have t2:=aEf x3 x4 o_;have o3:=aXq (z:=3) d_ d_;have z1:(f.a*f.a).natAbs<2^(n+n+2):=cF (eV x1 x1) (di d_ o_);have z2:(2*(f.b*f.b)).natAbs<2^(n+n+2):=by have:=eV (m:=2) (u:=2) d_ (eV x2 x2);rwa[show 2+(n+n)=n+n+2 by omega]at this
 have z3:(f.c*f.c).natAbs<2^(n+n+2):=cF (eV x3 x3) (di d_ o_);have z4:(2*(f.e*f.e)).natAbs<2^(n+n+2):=by have:=eV (m:=2) (u:=2) d_ (eV x4 x4);rwa[show 2+(n+n)=n+n+2 by omega]at this
 have z12:=ID z1 z2;have z34:=ID z3 z4;have y1:(2*(f.a*f.b)).natAbs<2^(n+n+2):=by have:=eV (m:=2) (u:=2) d_ (eV x1 x2);rwa[show 2+(n+n)=n+n+2 by omega]at this
 have y2:(2*(f.c*f.e)).natAbs<2^(n+n+2):=by have:=eV (m:=2) (u:=2) d_ (eV x3 x4);rwa[show 2+(n+n)=n+n+2 by omega]at this
 have m34:=aXc (x:=3) (p:=2) d_ z34 d_ o_;have zm:(3*(f.c*f.c+2*(f.e*f.e))).natAbs<2^(n+n+5):=by have:=eV (m:=2) (u:=3) d_ z34;rwa[show 2+(n+n+2+1)=n+n+5 by omega]at this
 have aEg:(f.a*f.a+2*(f.b*f.b)).natAbs<2^(n+n+5):=cF z12 (di d_ o_);have d1:=aXj aEg zm o_ o_;have my:=aXc (x:=3) (p:=2) d_ y2 d_ o_;have ym:(3*(2*(f.c*f.e))).natAbs<2^(n+n+4):=by have:=eV (m:=2) (u:=3) d_ y2;rwa[show 2+(n+n+2)=n+n+4 by omega]at this
 have y1':(2*(f.a*f.b)).natAbs<2^(n+n+4):=cF y1 (di d_ o_);have d2:=aXj y1' ym o_ o_;have s3:=WV (O8 aEg zm) (O8 y1' ym) o_ o_;have e1:(f.a*f.a+2*(f.b*f.b))-3*(f.c*f.c+2*(f.e*f.e))=(f.a*f.a+2*(f.b*f.b))-(3*(f.c*f.c)+6*(f.e*f.e)):=by omega
 have e2:2*(f.a*f.b)-3*(2*(f.c*f.e))=2*(f.a*f.b)-6*(f.c*f.e):=by omega
 have xX:=O9 f.a f.b;have UQ:=O9 ((f.a*f.a+2*(f.b*f.b))-(3*(f.c*f.c)+6*(f.e*f.e))) (2*(f.a*f.b)-6*(f.c*f.e));have hw:=aEe xX UQ;rw[<-e1,<-e2]at hw;unfold O0 um;rw[<-e1,<-e2];generalize pU ((f.a*f.a+2*(f.b*f.b))-3*(f.c*f.c+2*(f.e*f.e))) (2*(f.a*f.b)-3*(2*(f.c*f.e)))=t at *;generalize pU f.a f.b=p at *;generalize pU f.c f.e=q at *;by_cases h1:p=q
 ·rw[aB (.inl h1)];exact bC func23 (λ_=>[hv.at 9,s1.at 17,s2.at 24,.rw 27 _ b_ (yF h1)])
 ·by_cases h2:q=0
  ·rw[aB (.inr h2)];exact bC func23 (λ_=>[hv.at 9,s1.at 17,s2.at 24,.rw 27 _ a_ (qd h1),.rw 30 _ b_ (yF h2)])
  ·rw[az (λh=>h.elim h1 h2)];by_cases h3:p=0
   ·rw[aB h3];exact bC func23 (λ_=>[hv.at 9,s1.at 17,s2.at 24,.rw 27 _ a_ (qd h1),.rw 30 _ a_ (qd h2),.rw 34 _ b_ (yF h3)])
   ·rw[az h3];exact eY mixed func23 200 (λ_=>[hv.at 9,s1.at 17,s2.at 24,.rw 27 _ a_ (qd h1),.rw 30 _ a_ (qd h2),.rw 34 _ a_ (qd h3),t1.at 50,t2.at 65,o3.at 66,m34.at 73,d1.at 74,my.at 80,d2.at 81,s3.at 82,.wr 83 .i64 (p*t) (p*t) hw]) (λ_=>k_) k_ k_
theorem aWz{y:K}{n:Nat}(hx:Sz m x)(hy:Sz n y)(cQ:4*(m+n)+40<=aE):aG prog 124 [bX x,bX y] (.int .i64 (OF.aH (x-y))):=
 bC func124 (λ_=>[(aXh hx o_).at 6,(aXh hy o_).at 10,(aWS hx hy o_).at 15,(aWJ (hx.sub hy) o_).at 16])
theorem aWU{n:Nat}(hx:Sz n x)(hn:4*n+30<=aE):aG prog 226 [bX x] (bX (jb x)):=by
 unfold jb;have n1:=aXb hx o_;have n2:=aXb hx.neg o_;rw[CR.neg_neg]at n2;by_cases h:OF.aH x<0
 ·rw[aB h];exact bC func226 (λ_=>[(aWJ hx hn).at 4,.rw 5 (.bool (decide (OF.aH x<0))) b_ (by rw[aJ h]),n1.at 7])
 ·rw[az h];exact bC func226 (λ_=>[(aWJ hx hn).at 4,.rw 5 (.bool (decide (OF.aH x<0))) a_ (by rw[bd h]),n1.at 9,n2.at 10])
def tG(q:RI):Nat:=q.bo.length
def tH(r:RN)(k:Nat):Bool:=decide (tG r.a<=k)&&(decide (tG r.b<=k)&&(decide (tG r.c<=k)&&(decide (tG r.e<=k)&&decide (tG r.d<=k))))
theorem AN(l:List UInt8):Value.int .i64 ((BA l).size:Int)=vI l.length:=by rw[pc];rfl
theorem uH(h:decide (a<=b)=!t):Value.bool (decide ((a:Int)>(b:Int)))=.bool t:=by
 congr 1
 cases t
 ·have:=kp h;exact bd o_
 ·have:=DJ h;exact aJ o_
theorem QH(r:RN)(k:Nat):aG prog 66 [r.v,vI k] (.bool (tH r k)):=by
 unfold tH tG;have la:=AN r.a.bo;have lb:=AN r.b.bo;have lc:=AN r.c.bo;have le:=AN r.e.bo;have ld:=AN r.d.bo;rcases ha:decide (r.a.bo.length<=k)with _|_
 ·exact bC func66 (λ_=>[.rw 15 _ (vI r.a.bo.length) la,.rw 17 _ b_ (uH (t:=true) ha)])
 rcases hb:decide (r.b.bo.length<=k)with _|_
 ·exact bC func66 (λ_=>[.rw 15 _ (vI r.a.bo.length) la,.rw 17 _ a_ (uH (t:=false) ha),.rw 15 _ (vI r.b.bo.length) lb,.rw 17 _ b_ (uH (t:=true) hb)])
 rcases hc:decide (r.c.bo.length<=k)with _|_
 ·exact bC func66 (λ_=>[.rw 15 _ (vI r.a.bo.length) la,.rw 17 _ a_ (uH (t:=false) ha),.rw 15 _ (vI r.b.bo.length) lb,.rw 17 _ a_ (uH (t:=false) hb),.rw 15 _ (vI r.c.bo.length) lc,.rw 17 _ b_ (uH (t:=true) hc)])
 rcases he:decide (r.e.bo.length<=k)with _|_
 ·exact bC func66 (λ_=>[.rw 15 _ (vI r.a.bo.length) la,.rw 17 _ a_ (uH (t:=false) ha),.rw 15 _ (vI r.b.bo.length) lb,.rw 17 _ a_ (uH (t:=false) hb),.rw 15 _ (vI r.c.bo.length) lc,.rw 17 _ a_ (uH (t:=false) hc),.rw 15 _ (vI r.e.bo.length) le,.rw 17 _ b_ (uH (t:=true) he)])
 have hd:Value.bool (decide ((r.d.bo.length:Int)<=(k:Int)))=.bool (decide (r.d.bo.length<=k)):=by congr 1;rw[qx];omega
 exact bC func66 (λ_=>[.rw 15 _ (vI r.a.bo.length) la,.rw 17 _ a_ (uH (t:=false) ha),.rw 15 _ (vI r.b.bo.length) lb,.rw 17 _ a_ (uH (t:=false) hb),.rw 15 _ (vI r.c.bo.length) lc,.rw 17 _ a_ (uH (t:=false) hc),.rw 15 _ (vI r.e.bo.length) le,.rw 17 _ a_ (uH (t:=false) he),.rw 21 _ (vI r.d.bo.length) ld,.rw 23 _ (.bool (decide (r.d.bo.length<=k))) hd])
def wN(r:RN):Nat:=tG r.d+tG r.a+tG r.b+tG r.c+tG r.e
theorem QI{r:RN}(h:wN r<9223372036854775808):aG prog 82 [r.v] (vI (wN r)):=by unfold wN tG at *;have la:=AN r.a.bo;have lb:=AN r.b.bo;have lc:=AN r.c.bo;have le:=AN r.e.bo;have ld:=AN r.d.bo;exact bC func82 (λ_=>[.rw 8 _ (vI r.d.bo.length) ld,.rw 19 _ (vI r.a.bo.length) la,.sum 20 r.d.bo.length r.a.bo.length (r.d.bo.length+r.a.bo.length) rfl o_,.rw 19 _ (vI r.b.bo.length) lb,.sum 20 (r.d.bo.length+r.a.bo.length) r.b.bo.length (r.d.bo.length+r.a.bo.length+r.b.bo.length) rfl o_,.rw 19 _ (vI r.c.bo.length) lc,.sum 20 (r.d.bo.length+r.a.bo.length+r.b.bo.length) r.c.bo.length (r.d.bo.length+r.a.bo.length+r.b.bo.length+r.c.bo.length) rfl o_,.rw 19 _ (vI r.e.bo.length) le,.sum 20 (r.d.bo.length+r.a.bo.length+r.b.bo.length+r.c.bo.length) r.e.bo.length (r.d.bo.length+r.a.bo.length+r.b.bo.length+r.c.bo.length+r.e.bo.length) rfl o_])
theorem WW(p q r t:Rat)(k:Rat):(⟨⟨p,q⟩,⟨r,t⟩⟩:K)*⟨⟨k,0⟩,⟨0,0⟩⟩=⟨⟨p*k,q*k⟩,⟨r*k,t*k⟩⟩:=by
 apply bL.ext
 ·apply bL.ext
  ·show(p*k+2*(q*0))+(3*(r*0+2*(t*0))+2*(0*(r*0+t*0)))=p*k
   grind
  ·show(p*0+q*k)+(3*(r*0+t*0)+0*(r*0+2*(t*0)))=q*k
   grind
 ·apply bL.ext
  ·show(p*0+2*(q*0))+(r*k+2*(t*0))=r*k
   grind
  ·show(p*0+q*0)+(r*0+t*k)=t*k
   grind
theorem QJ(u d k:Int):Rat.divInt (u*k) d=Rat.divInt u d*(k:Rat):=by
 rw[B6,B6,FV,FV];have:((u*k:Int):Rat)=(u:Rat)*(k:Rat):=by simp
 rw[this]
 grind
theorem aP3(a b c e d k:Int):Fr.val ⟨a*k,b*k,c*k,e*k,d⟩=Fr.val ⟨a,b,c,e,d⟩*kI k:=by unfold Fr.val kI;dsimp only;rw[WW,QJ,QJ,QJ,QJ]
theorem QK{a b c e d:Int}(hd:d≠0):Fr.val ⟨a,b,c,e,d⟩*kI d=Fr.val ⟨a,b,c,e,1⟩:=by
 unfold Fr.val kI;dsimp only;have h1:∀ u:Int,Rat.divInt u 1=(u:Rat):=λu=>by rw[B6,FV];grind
 rw[WW,po hd,po hd,po hd,po hd,h1,h1,h1,h1]
theorem aP4(a b:Int):kI (a*b)=kI a*kI b:=by
 unfold kI;rw[WW];have:((a*b:Int):Rat)=(a:Rat)*(b:Rat):=by simp
 rw[this];apply bL.ext<;>apply bL.ext<;>simp
theorem aP5:kI 1=1:=rfl
theorem QL{a:Int}(h:a≠0):kI a≠0:=λe=>by have h1:=cS (λx:K=>x.re.re) e;have h2:((a:Int):Rat)=0:=h1;exact h (by simpa using h2)
theorem WX(f:Fr)(h:f.d=1):f.val=⟨⟨f.a,f.b⟩,⟨f.c,f.e⟩⟩:=by
 have h1:∀ u:Int,Rat.divInt u 1=(u:Rat):=λu=>by rw[B6,FV];grind
 unfold Fr.val;rw[h,h1,h1,h1,h1]
theorem aP6(u v:K):mo (u*v)=mo u*mo v:=by
 obtain⟨⟨a,b⟩,⟨c,d⟩⟩:=u;obtain⟨⟨p,q⟩,⟨r,s⟩⟩:=v;apply bL.ext
 ·apply bL.ext
  ·show(a*p+2*(b*q))+(3*(c*r+2*(d*s))+2*(0*(c*s+d*r)))=(a*p+2*(-b*-q))+(3*(c*r+2*(-d*-s))+2*(0*(c*-s+-d*r)))
   grind
  ·show -((a*q+b*p)+(3*(c*s+d*r)+0*(c*r+2*(d*s))))=(a*-q+-b*p)+(3*(c*-s+-d*r)+0*(c*r+2*(-d*-s)))
   grind
 ·apply bL.ext
  ·show(a*r+2*(b*s))+(c*p+2*(d*q))=(a*r+2*(-b*-s))+(c*p+2*(-d*-q))
   grind
  ·show -((a*s+b*r)+(c*q+d*p))=(a*-s+-b*r)+(c*-q+-d*p)
   grind
def nf(f:Fr):Fr:=⟨f.a,f.b,f.c,f.e,1⟩
def QM(f:Fr):Fr:=⟨f.a,-f.b,-f.c,f.e,1⟩
def QN:Fr:=⟨1,0,0,0,1⟩
def iK(f:Fr):Fr:=ep (ep (ep QN (xV (nf f))) (xU (nf f))) (QM f)
theorem aEh(f:Fr):(iK f).d=1:=rfl
theorem aP7(f:Fr):(nf f).val*(iK f).val=rP (nf f).val:=by
 have h1:∀ g h:Fr,g.d=1->h.d=1->(ep g h).val=g.val*h.val:=λg h e1 e2=>KY (by rw[e1];decide) (by rw[e2];decide);have e3:QM f=xV (xU (nf f)):=by unfold QM xV xU nf;simp
 unfold iK;rw[h1 _ _ rfl rfl,h1 _ _ rfl rfl,h1 _ _ rfl rfl,e3,UJ,UJ,aBt];have eo:QN.val=1:=by rw[WX _ rfl];rfl
 rw[eo];unfold rP two;rw[aP6];generalize (nf f).val=y;rw[CR.one_mul];exact OF.zX y (mo y) (nD y) (mo (nD y)) (λy c b i=>y*(c*b*i)) (λy c b i=>y*b*(c*i)) d_
def nL(f g:Fr):Fr:=⟨(ep (nf f) (iK g)).a*g.d,(ep (nf f) (iK g)).b*g.d,(ep (nf f) (iK g)).c*g.d,(ep (nf f) (iK g)).e*g.d,(ep (nf g) (iK g)).a*f.d⟩
theorem aP8{g:Fr}(hg:g.d≠0)(h:g.val≠0):(ep (nf g) (iK g)).a≠0/\kI (ep (nf g) (iK g)).a=(nf g).val*(iK g).val:=by
 have hv:(ep (nf g) (iK g)).val=(nf g).val*(iK g).val:=KY (show(1:Int)≠0 by decide) (by rw[aEh];decide);have hy:(nf g).val≠0:=λe=>h (by
  have h1:=QK (a:=g.a) (b:=g.b) (c:=g.c) (e:=g.e) hg;have h2:Fr.val ⟨g.a,g.b,g.c,g.e,g.d⟩*kI g.d=0:=by rw[h1];exact e
  exact iP λh3=>OF.mul_ne_zero (a:=Fr.val ⟨g.a,g.b,g.c,g.e,g.d⟩) h3 (QL hg) h2)
 have hn:=aP7 g;rw[O5]at hn;have hq:=UK hy;rw[<-hv,WX _ (by rfl)]at hn;have e1:(((ep (nf g) (iK g)).a:Int):Rat)=bL.nm (bL.nm (nf g).val):=cS (λx:K=>x.re.re) hn;have e2:(((ep (nf g) (iK g)).b:Int):Rat)=0:=cS (λx:K=>x.re.im) hn;have e3:(((ep (nf g) (iK g)).c:Int):Rat)=0:=cS (λx:K=>x.im.re) hn;have e4:(((ep (nf g) (iK g)).e:Int):Rat)=0:=cS (λx:K=>x.im.im) hn;refine⟨λe=>hq (by rw[<-e1,e];rfl),?_⟩;rw[<-hv,WX _ (by rfl),e2,e3,e4];rfl
theorem aP9{f g:Fr}(hf:f.d≠0)(hg:g.d≠0)(h:g.val≠0):(nL f g).d≠0/\(nL f g).val=f.val*(g.val)⁻¹:=by
 obtain⟨ha,hk⟩:=aP8 hg h;have hd:(nL f g).d≠0:=DO ha hf;refine⟨hd,?_⟩;have h1:=QK (a:=(nL f g).a) (b:=(nL f g).b) (c:=(nL f g).c) (e:=(nL f g).e) hd;have h2:=aP3 (ep (nf f) (iK g)).a (ep (nf f) (iK g)).b (ep (nf f) (iK g)).c (ep (nf f) (iK g)).e 1 g.d;have h3:(ep (nf f) (iK g)).val=(nf f).val*(iK g).val:=KY (show(1:Int)≠0 by decide) (by rw[aEh];decide);have h4:=QK (a:=f.a) (b:=f.b) (c:=f.c) (e:=f.e) hf;have h5:=QK (a:=g.a) (b:=g.b) (c:=g.c) (e:=g.e) hg;have h6:kI (nL f g).d=(nf g).val*(iK g).val*kI f.d:=by show kI ((ep (nf g) (iK g)).a*f.d)=_;rw[aP4,hk]
 have e1:(nL f g).val*((nf g).val*(iK g).val*kI f.d)=(nf f).val*(iK g).val*kI g.d:=by rw[<-h6,<-h3];exact h1.trans h2
 replace h4:f.val*kI f.d=(nf f).val:=h4
 replace h5:g.val*kI g.d=(nf g).val:=h5
 rw[<-h4,<-h5]at e1;have hc:(iK g).val≠0:=λe=>by rw[e,CR.mul_zero]at hk;exact QL ha hk
 have hm:kI g.d*((iK g).val*kI f.d)≠0:=OF.mul_ne_zero (QL hg) (OF.mul_ne_zero hc (QL hf));have e2:(nL f g).val*g.val*(kI g.d*((iK g).val*kI f.d))=f.val*(kI g.d*((iK g).val*kI f.d)):=by
  rw[show(nL f g).val*g.val*(kI g.d*((iK g).val*kI f.d))=(nL f g).val*(g.val*kI g.d*(iK g).val*kI f.d)from
   OF.Ij (nL f g).val g.val (kI g.d) (iK g).val (kI f.d) (λd g k c l=>d*g*(k*(c*l))) (λd g k c l=>d*(g*k*c*l)) d_,e1]
  exact OF.zX f.val (kI f.d) (iK g).val (kI g.d) (λf l c k=>f*l*c*k) (λf l c k=>f*(k*(c*l))) d_
 have e3:(nL f g).val*g.val=f.val:=by have h7:=cS (λt=>t*(kI g.d*((iK g).val*kI f.d))⁻¹) e2;rw[CR.mul_assoc ((nL f g).val*g.val),CR.mul_assoc f.val,OF.jz _ hm,CR.mul_one,CR.mul_one]at h7;exact h7
 rw[<-e3,CR.mul_assoc,OF.jz _ h,CR.mul_one]
theorem aQa:pV (co QN)=.agg #[.bool (bO 1).neg,.string (BA (bO 1).bo),.bool false,.string ⟨#[]⟩,.bool false,.string ⟨#[]⟩,.bool false,.string ⟨#[]⟩]:=by show Value.agg #[.bool (bO 1).neg,.string (BA (bO 1).bo),.bool (bO 0).neg,.string (BA (bO 0).bo),.bool (bO 0).neg,.string (BA (bO 0).bo),.bool (bO 0).neg,.string (BA (bO 0).bo)]=_;rw[DR];rfl
theorem aEi{n:Nat}{f:Fr}(h:dU n f)(hd:f.d≠0):dU n (nf f):=by
 obtain⟨h1,h2,h3,h4,h5⟩:=h;refine⟨h1,h2,h3,h4,?_⟩;show(1:Int).natAbs<2^n;have:f.d.natAbs≠0:=by omega
 show 1<2^n;omega
theorem aQb{n:Nat}{f:Fr}(h:dU n (nf f)):dU n (xV (nf f))/\dU n (xU (nf f))/\dU n (QM f):=by
 obtain⟨h1,h2,h3,h4,h5⟩:=h;have e:∀ z:Int,z.natAbs<2^n->(-z).natAbs<2^n:=λz hz=>by rw[KG];exact hz
 exact⟨⟨h1,e _ h2,h3,e _ h4,h5⟩,⟨h1,h2,e _ h3,e _ h4,h5⟩,⟨h1,e _ h2,e _ h3,h4,h5⟩⟩
theorem aWF{y:K}{n:Nat}(h:y≠0)(hx:Sz m x)(hy:Sz n y)(cQ:m+4*n+60<=aE):aG prog 50 [bX x,bX y] (.tuple #[bX (x*y⁻¹),.int .i64 0]):=by
 have pW:aE<=1099511627776:=by decide
 have v1:=aXh hx o_;have v2:=aXh hy o_;have sy:=aWJ hy o_;have h26:Value.bool (OF.aH y==0)=.bool false:=qd (λe=>h ((OF.fH y).1 e));have vU:(bW x).d≠0:=by have:=(kU x).pos;omega
 have oC:(bW y).d≠0:=by have:=(kU y).pos;omega
 obtain⟨hd,hv⟩:=aP9 vU oC (by rw[pk];exact h);rw[pk,pk]at hv;have e:bX (x*y⁻¹)=iz (nL (bW x) (bW y)).low:=by unfold bX du;rw[<-hv,FT hd];rfl
 rw[e];have so1:dU 1 QN:=⟨by decide,by decide,by decide,by decide,by decide⟩;have sg:=aEi hy oC;have sf:=aEi hx vU;obtain⟨c1,c2,c3⟩:=aQb sg;have s1:=dU.mul so1 c1;have s2:=dU.mul s1 c2;have s3:=dU.mul s2 c3;have sN:=dU.mul sg s3;have sM:=dU.mul sf s3;have t1:=Jb so1 c1 o_;rw[aQa]at t1;have t2:=Jb s1 c2 o_;have t3:=Jb s2 c3 o_;have tN:=Jb sg s3 o_;have tM:=Jb sf s3 o_;have gd:=hy.2.2.2.2;have fd:=hx.2.2.2.2;have ma:=aXc sM.1 gd o_ o_;have mb:=aXc sM.2.1 gd o_ o_;have mc:=aXc sM.2.2.1 gd o_ o_;have me:=aXc sM.2.2.2.1 gd o_ o_;have md:=aXc sN.1 fd o_ o_;have za:=eV sM.1 gd;have zb:=eV sM.2.1 gd;have zc:=eV sM.2.2.1 gd;have ze:=eV sM.2.2.2.1 gd;have zd:=eV sN.1 fd;have xX:2^(m+(1+n+4+n+4+n+4)+4+n)<=2^(m+4*n+20):=di d_ o_;have WK:2^(n+(1+n+4+n+4+n+4)+4+m)<=2^(m+4*n+20):=di d_ o_;have hl:=aWD (c:=co (nL (bW x) (bW y))) (d:=(nL (bW x) (bW y)).d) (n:=m+4*n+20) hd ⟨cF za xX,cF zb xX,cF zc xX,cF ze xX,cF zd WK⟩ o_;have dG:pq (co (nL (bW x) (bW y))) (nL (bW x) (bW y)).d=nL (bW x) (bW y):=rfl;rw[dG]at hl;have nb:=aW0 (bW y).b;have nc:=aW0 (bW y).c;have ne:=aW0 (bW y).e;have one:=aXq (z:=1) d_ d_;generalize hD:(nL (bW x) (bW y)).low=D at *;exact eY mixed func50 300 (λ_=>[v1.at 15,v2.at 19,sy.at 25,.rw 26 _ a_ h26,one.at 28,nb.at 54,ne.at 54,t1.at 58,nc.at 54,ne.at 54,t2.at 58,nb.at 54,nc.at 54,t3.at 58,tN.at 62,tM.at 66,ma.at 77,mb.at 77,mc.at 77,me.at 77,md.at 84,hl.at 85]) (λ_=>k_) k_ k_
section
open V3 (dot af bA smul)
def Ml(n:Nat)(r:RV):Prop:=dU n (gQ r.x)/\dU n (gQ r.y)/\dU n (gQ r.z)
def AO(r:RV):Bool:=nK r.x&&(nK r.y&&nK r.z)
theorem aWx{r:RV}{n:Nat}(h:Ml n r)(hn:n<=aE):aG prog 59 [r.v] (.bool (AO r)):=by
 have hx:=Mk h.1 hn;have hy:=Mk h.2.1 hn;have hz:=Mk h.2.2 hn;unfold AO;generalize nK r.x=bb at *;rcases bb with _|_
 ·exact bC func59 (λ_=>[hx.at 5])
 generalize nK r.y=bb at *;rcases bb with _|_
 ·exact bC func59 (λ_=>[hx.at 5,hy.at 9])
 exact bC func59 (λ_=>[hx.at 5,hy.at 9,hz.at 14])
theorem QO(x:K):nK (du x)=true:=aEc (kU x)
theorem GP(x:K):gQ (du x)=bW x:=WR (bW x)
theorem aEj{n:Nat}{v:V3 K}(h:aF n v):Ml n (cH v):=by
 refine⟨?_,?_,?_⟩
 ·show dU n (gQ (du v.x));rw[GP];exact h.1
 ·show dU n (gQ (du v.y));rw[GP];exact h.2.1
 ·show dU n (gQ (du v.z));rw[GP];exact h.2.2
theorem aEk(v:V3 K):AO (cH v)=true:=by show(nK (du v.x)&&(nK (du v.y)&&nK (du v.z)))=true;rw[QO,QO,QO];rfl
theorem aXt{v:V3 K}{n:Nat}(h:aF n v)(hn:n<=aE):aG prog 59 [bE v] b_:=by have:=aWx (aEj h) hn;rw[aEk]at this;exact this
def vZ(r:RV):V3 K:=⟨(gQ r.x).val,(gQ r.y).val,(gQ r.z).val⟩
theorem aEl{r:RV}(h:AO r=true):r=cH (vZ r):=by unfold AO at h;simp only[de]at h;obtain⟨x,y,z⟩:=r;show RV.mk x y z=RV.mk (du (gQ x).val) (du (gQ y).val) (du (gQ z).val);rw[<-QE h.1,<-QE h.2.1,<-QE h.2.2]
theorem aWM{a b c:Int}(ha:a.natAbs<9223372036854775808)(hb:b.natAbs<9223372036854775808)(hc:c.natAbs<9223372036854775808):aG prog 17 [.int .i64 a,.int .i64 b,.int .i64 c] (bE ⟨kI a,kI b,kI c⟩):=
 bC func17 (λ_=>[(aXv ha).at 8,(aXv hb).at 10,(aXv hc).at 12])
theorem aW5{u v:V3 K}{n:Nat}(hu:aF m u)(hv:aF n v)(cQ:m+n<aE):aG prog 24 [bE u,bE v] (bE (u+v)):=
 bC func24 (λ_=>[(aXt hu o_).at 6,(aXt hv o_).at 10,(aWN hu.1 hv.1 cQ).at 18,(aWN hu.2.1 hv.2.1 cQ).at 23,(aWN hu.2.2 hv.2.2 cQ).at 28])
theorem aWy{v:V3 K}{n:Nat}(hv:aF n v)(hn:n<=aE):aG prog 170 [bE v] (bE (-v)):=
 bC func170 (λ_=>[(aXt hv hn).at 4,(aXb hv.1 hn).at 9,(aXb hv.2.1 hn).at 12,(aXb hv.2.2 hn).at 15])
theorem aW6{u v:V3 K}{n:Nat}(hu:aF m u)(hv:aF n v)(cQ:m+n<aE):aG prog 126 [bE u,bE v] (bE (u-v)):=by have e:u-v=u+-v:=V3.ext (CR.sub_def _ _) (CR.sub_def _ _) (CR.sub_def _ _);rw[e];exact bC func126 (λ_=>[(aWy hv o_).at 7,(aW5 hu hv.neg cQ).at 8])
theorem aWT{v:V3 K}{k:K}{n:Nat}(hv:aF m v)(hk:Sz n k)(cQ:m+n+8<=aE):aG prog 48 [bE v,bX k] (bE (smul v k)):=
 bC func48 (λ_=>[(aXt hv o_).at 6,(aXh hk o_).at 10,(aXp hv.1 hk cQ).at 17,(aXp hv.2.1 hk cQ).at 21,(aXp hv.2.2 hk cQ).at 25])
theorem aWV{u v:V3 K}{n:Nat}(hu:aF m u)(hv:aF n v)(cQ:3*(m+n)+16<aE):aG prog 20 [bE u,bE v] (bX (dot u v)):=
 bC func20 (λ_=>[(aXt hu o_).at 6,(aXt hv o_).at 10,(aXp hu.1 hv.1 o_).at 18,(aXp hu.2.1 hv.2.1 o_).at 23,(aWN (hu.1.mul hv.1) (hu.2.1.mul hv.2.1) o_).at 24,(aXp hu.2.2 hv.2.2 o_).at 29,(aWN ((hu.1.mul hv.1).add (hu.2.1.mul hv.2.1)) (hu.2.2.mul hv.2.2) o_).at 30])
theorem aXm{a b c d:K}{n:Nat}(ha:Sz m a)(hb:Sz m b)(hc:Sz n c)(hd:Sz n d)(cQ:2*(m+n)+16<aE):aG prog 60 [bX a,bX b,bX c,bX d] (bX (a*d-b*c)):=
 bC func60 (λ_=>[(aXp ha hd o_).at 11,(aXp hb hc o_).at 14,(aWS (ha.mul hd) (hb.mul hc) o_).at 15])
theorem aWC{u v:V3 K}{n:Nat}(hu:aF m u)(hv:aF n v)(cQ:2*(m+n)+16<aE):aG prog 22 [bE u,bE v] (bE (af u v)):=
 bC func22 (λ_=>[(aXt hu o_).at 6,(aXt hv o_).at 10,(aXm hu.2.1 hu.2.2 hv.2.1 hv.2.2 cQ).at 22,(aXm hu.2.2 hu.1 hv.2.2 hv.1 cQ).at 31,(aXm hu.1 hu.2.1 hv.1 hv.2.1 cQ).at 40])
theorem aXw{v:V3 K}{n:Nat}(hv:aF n v)(hn:n<=aE):aG prog 21 [bE v] (.bool (decide (v=0))):=by have hz:(⟨kI 0,kI 0,kI 0⟩:V3 K)=0:=rfl;exact bC func21 (λ_=>[(aWM (a:=0) (b:=0) (c:=0) d_ d_ d_).at 4,.step 5 (au Tryz.f21 5) _ _ _ _ (FY (neg:=true) k_ (cH v) (cH ⟨kI 0,kI 0,kI 0⟩) (hv.sm hn) (Cr.sm d_) (b:=decide (v=0)) (by rw[aB rfl,Cs];exact⟨λh=>by rw[h,hz],λh=>PO h⟩))])
theorem aW1{u v w:V3 K}{l n:Nat}(hu:aF l u)(hv:aF m v)(hw:aF n w)(cQ:3*(l+(2*(m+n)+9))+16<aE):aG prog 47 [bE u,bE v,bE w] (bX (bA u v w)):=
 bC func47 (λ_=>[(aXt hu o_).at 8,(aXt hv o_).at 12,(aXt hw o_).at 17,(aWC hv hw o_).at 24,(aWV hu (hv.af hw) o_).at 25])
theorem Mm(h:decide (z≠0)=t):Value.bool (z !=0)=.bool t:=by
 rw[<-h];congr 1
 by_cases e:z=0
 ·subst e;rfl
 ·rw[aJ e,rJ];exact e
theorem aXu{u v:V3 K}{n:Nat}(hu:aF m u)(hv:aF n v)(cQ:4*(m+n)+40<=aE):aG prog 203 [bE u,bE v] (.int .i64 (eG u v)):=by
 rw[<-aCB];have h1:=aXt hu (show m<=aE by omega);have h2:=aXt hv (show n<=aE by omega);have c1:=aWz hu.1 hv.1 cQ;have c2:=aWz hu.2.1 hv.2.1 cQ;have c3:=aWz hu.2.2 hv.2.2 cQ;generalize OF.aH (u.x-v.x)=a at *;generalize OF.aH (u.y-v.y)=b at *;generalize OF.aH (u.z-v.z)=c at *;unfold PQ;by_cases ha:a=0
 ·rw[az (λh=>h ha)];by_cases hb:b=0
  ·rw[az (λh=>h hb)];exact bC func203 (λ_=>[h1.at 8,h2.at 12,c1.at 19,.rw 21 _ a_ (Mm (bd (λh=>h ha))),c2.at 27,.rw 29 _ a_ (Mm (bd (λh=>h hb))),c3.at 35])
  ·rw[aB hb];exact bC func203 (λ_=>[h1.at 8,h2.at 12,c1.at 19,.rw 21 _ a_ (Mm (bd (λh=>h ha))),c2.at 27,.rw 29 _ b_ (Mm (aJ hb))])
 ·rw[aB ha];exact bC func203 (λ_=>[h1.at 8,h2.at 12,c1.at 19,.rw 21 _ b_ (Mm (aJ ha))])
def qZ(r:RV)(k:Nat):Bool:=tH r.x k&&(tH r.y k&&tH r.z k)
theorem WY(r:RV)(k:Nat):aG prog 25 [r.v,vI k] (.bool (qZ r k)):=by
 have hx:=QH r.x k;have hy:=QH r.y k;have hz:=QH r.z k;unfold qZ;generalize tH r.x k=bb at *;rcases bb with _|_
 ·exact bC func25 (λ_=>[hx.at 8])
 generalize tH r.y k=bb at *;rcases bb with _|_
 ·exact bC func25 (λ_=>[hx.at 8,hy.at 13])
 exact bC func25 (λ_=>[hx.at 8,hy.at 13,hz.at 19])
def wV(r:RV):Nat:=wN r.x+wN r.y+wN r.z
theorem aQc{r:RV}(h:wV r<9223372036854775808):aG prog 81 [r.v] (vI (wV r)):=by unfold wV at *;exact bC func81 (λ_=>[(QI (r:=r.x) o_).at 5,(QI (r:=r.y) o_).at 8,.sum 9 (wN r.x) (wN r.y) (wN r.x+wN r.y) rfl o_,(QI (r:=r.z) o_).at 12,.sum 13 (wN r.x+wN r.y) (wN r.z) (wN r.x+wN r.y+wN r.z) rfl o_])
theorem QQ{r:RN}{n:Nat}(h:tH r k=true)(hn:8*k<=n):dU n (gQ r):=by
 unfold tH tG at h;simp only[de,u7]at h;have key:∀ q:RI,q.bo.length<=k->(eM q).natAbs<2^n:=λq hq=>by
  unfold eM;rw[qJ];have h1:=BB q.bo;have h2:(256:Nat)^q.bo.length<=256^k:=di d_ hq;have h3:(256:Nat)^k=2^(8*k):=by rw[sT]
  have h4:2^(8*k)<=2^n:=di d_ hn;omega
 exact⟨key _ h.1,key _ h.2.1,key _ h.2.2.1,key _ h.2.2.2.1,key _ h.2.2.2.2⟩
theorem aQd{r:RV}{n:Nat}(h:qZ r k=true)(hn:8*k<=n):Ml n r:=by unfold qZ at h;simp only[de]at h;exact⟨QQ h.1 hn,QQ h.2.1 hn,QQ h.2.2 hn⟩
def AP(n:Nat)(r:RP):Prop:=Ml n r.n/\dU n (gQ r.d)
def r7(r:RP):Bool:=AO r.n&&(decide (vZ r.n≠0)&&nK r.d)
def pZ(r:RP):HS K:=⟨vZ r.n,(gQ r.d).val⟩
theorem aQe{r:RN}(h:nK r=true):bW (gQ r).val=gQ r:=by unfold nK at h;simp only[de,u7]at h;obtain⟨h1,h2,h3,h4,h5,h6,h7⟩:=h;exact FR ⟨h6,h7⟩
theorem QR{r:RN}{n:Nat}(h:nK r=true)(hs:dU n (gQ r)):Sz n (gQ r).val:=by unfold Sz;rw[aQe h];exact hs
theorem aEm{r:RV}{n:Nat}(h:AO r=true)(hs:Ml n r):aF n (vZ r):=by unfold AO at h;simp only[de]at h;exact⟨QR h.1 hs.1,QR h.2.1 hs.2.1,QR h.2.2 hs.2.2⟩
theorem WZ{r:RP}{n:Nat}(h:AP n r)(hn:n<=aE):aG prog 171 [r.v] (.bool (r7 r)):=by
 have hv:=aWx h.1 hn;have hd:=Mk h.2 hn;unfold r7;rcases hb:AO r.n with _|_
 ·rw[hb]at hv;exact bC func171 (λ_=>[hv.at 5])
 ·rw[hb]at hv;have hz:=aXw (aEm hb h.1) hn;unfold bE at hz;rw[<-aEl hb]at hz;by_cases h0:vZ r.n=0
  ·rw[aJ h0]at hz;rw[bd (λe=>e h0)];exact bC func171 (λ_=>[hv.at 5,hz.at 9])
  ·rw[bd h0]at hz;rw[aJ h0];exact bC func171 (λ_=>[hv.at 5,hz.at 9,hd.at 15])
theorem aQf(v:V3 K):vZ (cH v)=v:=by show V3.mk (gQ (du v.x)).val (gQ (du v.y)).val (gQ (du v.z)).val=v;rw[GP,GP,GP,pk,pk,pk]
theorem aEn(p:HS K):r7 (c9 p)=decide (p.n≠0):=by show(AO (cH p.n)&&(decide (vZ (cH p.n)≠0)&&nK (du p.d)))=_;rw[aEk,aQf,QO,kS,iA]
theorem aEo{n:Nat}(h:bP n p):AP n (c9 p):=⟨aEj h.1,by show dU n (gQ (du p.d));rw[GP];exact h.2⟩
theorem aW8{n:Nat}(hp:bP n p)(hn:n<=aE):aG prog 171 [dJ p] (.bool (decide (p.n≠0))):=by have:=WZ (aEo hp) hn;rw[aEn]at this;exact this
theorem aEp{r:RP}(h:r7 r=true):r=c9 (pZ r)/\(pZ r).n≠0:=by unfold r7 at h;simp only[de,u7]at h;obtain⟨n,d⟩:=r;refine⟨?_,h.2.1⟩;show RP.mk n d=RP.mk (cH (vZ n)) (du (gQ d).val);rw[<-aEl h.1,<-QE h.2.2]
theorem aQg{r:RP}{n:Nat}(h:r7 r=true)(hs:AP n r):bP n (pZ r):=by unfold r7 at h;simp only[de]at h;exact⟨aEm h.1 hs.1,QR h.2.2 hs.2⟩
def CI(r:RP)(k:Nat):Bool:=qZ r.n k&&tH r.d k
theorem aEq(r:RP)(k:Nat):aG prog 80 [r.v,vI k] (.bool (CI r k)):=by
 have hx:=WY r.n k;have hd:=QH r.d k;unfold CI;generalize qZ r.n k=bb at *;rcases bb with _|_
 ·exact bC func80 (λ_=>[hx.at 8])
 exact bC func80 (λ_=>[hx.at 8,hd.at 13])
theorem aQh{r:RP}{n:Nat}(h:CI r k=true)(hn:8*k<=n):AP n r:=by unfold CI at h;simp only[de]at h;exact⟨aQd h.1 hn,QQ h.2 hn⟩
theorem aWG{v:V3 K}{n:Nat}(hp:bP m p)(hv:aF n v)(cQ:4*(3*(m+n)+14+m)+50<=aE)(h:p.n≠0):aG prog 174 [dJ p,bE v] (.int .i64 (OF.aH (dot p.n v-p.d))):=by have h1:=aW8 hp o_;rw[aJ h]at h1;exact bC func174 (λ_=>[h1.at 6,(aXt hv o_).at 10,(aWV hp.1 hv o_).at 16,(aWz (hp.1.dot hv) hp.2 o_).at 19])
def Jc(p q r:HS K):V3 K:=smul (af q.n r.n) p.d+smul (af r.n p.n) q.d+smul (af p.n q.n) r.d
def lC(p q r:HS K):V3 K:=smul (Jc p q r) (kI 1*(bA p.n q.n r.n)⁻¹)
theorem Sz.bA{n:Nat}{u v w:V3 K}(hu:aF n u)(hv:aF n v)(hw:aF n w):Sz (15*n+41) (V3.bA u v w):=(hu.dot (hv.af hw)).mono o_
theorem aF.Jc{n:Nat}{q r:HS K}(hp:bP n p)(hq:bP n q)(hr:bP n r):aF (15*n+41) (Go.Proofs.YthjhinbiabcfiaaGreatDoor.Jc p q r):=
 (((hq.1.af hr.1).smul hp.2).add ((hr.1.af hp.1).smul hq.2)).add ((hp.1.af hq.1).smul hr.2) |>.mono o_
theorem aF.lC{n:Nat}{q r:HS K}(hp:bP n p)(hq:bP n q)(hr:bP n r)(h:V3.bA p.n q.n r.n≠0):aF (120*n+365) (Go.Proofs.YthjhinbiabcfiaaGreatDoor.lC p q r):=
 (aF.Jc hp hq hr).smul (Sz.div (m:=1) h (pr d_ d_) (Sz.bA hp.1 hq.1 hr.1)) |>.mono o_
theorem aQi(n:Nat):1+7*(15*n+41)+28<=105*n+316:=by omega
theorem aQj(n:Nat):15*n+41+(105*n+316)+8<=200*n+1000:=by omega
theorem aQk{n:Nat}(h:200*n+1000<=aE):15*n+41+(105*n+316)+8<=aE:=dh (aQj n) h
theorem aQl{q r:HS K}{n:Nat}(hp:bP n p)(hq:bP n q)(hr:bP n r)(hn:200*n+1000<=aE)(pn:p.n≠0)(qn:q.n≠0)(rn:r.n≠0):
  aG prog 173 [dJ p,dJ q,dJ r] (if bA p.n q.n r.n=0 then .tuple #[zV.v,.int .i64 11]else .tuple #[bE (lC p q r),.int .i64 0]):=by
 have h1:=aW8 hp o_;have h2:=aW8 hq o_;have h3:=aW8 hr o_;rw[aJ pn]at h1;rw[aJ qn]at h2;rw[aJ rn]at h3;have dt:=aW1 hp.1 hq.1 hr.1 o_;have sd:=Sz.bA hp.1 hq.1 hr.1;have sg:=aWJ sd o_;have rQ:=aQi n;have pW:=aQk hn;by_cases h:bA p.n q.n r.n=0
 ·rw[aB h];have W0:Value.bool (OF.aH (bA p.n q.n r.n)==0)=.bool true:=yF ((OF.fH _).2 h);exact eY mixed func173 200 (λ_=>[h1.at 13,h2.at 17,h3.at 22,dt.at 32,sg.at 34,.rw 35 _ b_ W0]) (λ_=>k_) k_ k_
 ·rw[az h];have W0:Value.bool (OF.aH (bA p.n q.n r.n)==0)=.bool false:=qd (λe=>h ((OF.fH _).1 e));have c1:=aWC hq.1 hr.1 o_;have c2:=aWC hr.1 hp.1 o_;have c3:=aWC hp.1 hq.1 o_;have s1:=aWT (hq.1.af hr.1) hp.2 o_;have s2:=aWT (hr.1.af hp.1) hq.2 o_;have s3:=aWT (hp.1.af hq.1) hr.2 o_;have a1:=aW5 ((hq.1.af hr.1).smul hp.2) ((hr.1.af hp.1).smul hq.2) o_;have zA:aF (10*n+27) (smul (af q.n r.n) p.d+smul (af r.n p.n) q.d):=aF.mono o_ (((hq.1.af hr.1).smul hp.2).add ((hr.1.af hp.1).smul hq.2));have zB:aF (5*n+13) (smul (af p.n q.n) r.d):=aF.mono o_ ((hp.1.af hq.1).smul hr.2);have a2:=aW5 zA zB o_;have o1:=aXv (z:=1) d_;have so:Sz 1 (kI 1):=pr d_ d_;have dv:=aWF h so sd o_;have sq:Sz (105*n+316) (kI 1*(bA p.n q.n r.n)⁻¹):=Sz.mono rQ (Sz.div h so sd);have fs:=aWT (aF.Jc hp hq hr) sq pW;exact eY mixed func173 200 (λ_=>[h1.at 13,h2.at 17,h3.at 22,dt.at 32,sg.at 34,.rw 35 _ a_ W0,c1.at 41,s1.at 44,c2.at 50,s2.at 53,a1.at 54,c3.at 60,s3.at 63,a2.at 64,o1.at 66,dv.at 68,fs.at 73]) (λ_=>k_) k_ k_
theorem aXk{n:Nat}(hp:bP n p)(hn:16*n+100<=aE)(bw:p.n≠0):aG prog 204 [dJ p] (.tuple #[dJ (canon p),.int .i64 0]):=by
 have hv:=aW8 hp o_;rw[aJ bw]at hv;have sx:=aWJ hp.1.1 o_;have sy:=aWJ hp.1.2.1 o_;have o1:=aXv (z:=1) d_;have so:Sz 1 (kI 1):=pr d_ d_;have fin:∀ x:K,x≠0->Sz n x->aG prog 226 [bX x] (bX (jb x))/\aG prog 50 [bX (kI 1),bX (jb x)] (.tuple #[bX (mS x),.int .i64 0])/\
   aG prog 48 [bE p.n,bX (mS x)] (bE (smul p.n (mS x)))/\aG prog 53 [bX p.d,bX (mS x)] (bX (p.d*mS x)):=λx hx hs=>
  ⟨aWU hs o_,aWF (PS hx) so hs.jb o_,aWT hp.1 (hs.mS hx) o_,aXp hp.2 (hs.mS hx) o_⟩
 have hc:canon p=D4 p (qQ p.n):=rfl;unfold qQ at hc;by_cases hx:p.n.x=0
 ·have ex:Value.bool (OF.aH p.n.x==0)=.bool true:=yF ((OF.fH _).2 hx);rw[az (λe=>e hx)]at hc;by_cases hy:p.n.y=0
  ·have ey:Value.bool (OF.aH p.n.y==0)=.bool true:=yF ((OF.fH _).2 hy);rw[az (λe=>e hy)]at hc;have hz:p.n.z≠0:=λhz=>bw (V3.ext hx hy hz);obtain⟨f1,f2,f3,f4⟩:=fin p.n.z hz hp.1.2.2;rw[hc];exact eY mixed func204 200 (λ_=>[hv.at 8,sx.at 15,.rw 16 _ b_ ex,sy.at 21,.rw 22 _ b_ ey,o1.at 27,f1.at 29,f2.at 30,f3.at 36,f4.at 40]) (λ_=>k_) k_ k_
  ·have ey:Value.bool (OF.aH p.n.y==0)=.bool false:=qd (λe=>hy ((OF.fH _).1 e));rw[aB hy]at hc;obtain⟨f1,f2,f3,f4⟩:=fin p.n.y hy hp.1.2.1;rw[hc];exact eY mixed func204 200 (λ_=>[hv.at 8,sx.at 15,.rw 16 _ b_ ex,sy.at 21,.rw 22 _ a_ ey,o1.at 27,f1.at 29,f2.at 30,f3.at 36,f4.at 40]) (λ_=>k_) k_ k_
 ·have ex:Value.bool (OF.aH p.n.x==0)=.bool false:=qd (λe=>hx ((OF.fH _).1 e));rw[aB hx]at hc;obtain⟨f1,f2,f3,f4⟩:=fin p.n.x hx hp.1.1;rw[hc];exact eY mixed func204 200 (λ_=>[hv.at 8,sx.at 15,.rw 16 _ a_ ex,sx.at 21,.rw 22 _ a_ ex,o1.at 27,f1.at 29,f2.at 30,f3.at 36,f4.at 40]) (λ_=>k_) k_ k_
theorem aWZ{q:HS K}{n:Nat}(hp:bP m p)(hq:bP n q)(hm:16*m+100<=aE)(hn:16*n+100<=aE)(kv:p.n≠0)(Gp:q.n≠0):aG prog 176 [dJ p,dJ q] (.bool (decide (canon p=canon q))):=
 bC func176 (λ_=>[(aXk hp hm kv).at 11,(aXk hq hn Gp).at 16,.step 28 (au f176 28) _ _ _ _ (UE (neg:=true) k_ (c9 (canon p)) (c9 (canon q)) ((hp.canon kv).sm o_) ((hq.canon Gp).sm o_) (b:=decide (canon p=canon q)) (by rw[aB rfl,Cs];exact⟨λh=>by rw[h],λh=>PR h⟩))])
theorem aEr{g o a b:V3 K}{n:Nat}(hg:aF n g)(ho:aF n o)(ha:aF n a)(hb:aF n b)(hn:200*n+400<=aE):aG prog 206 [bE g,bE o,bE a,bE b] (.int .i64 (OF.aH (bA g (a-o) (b-o)))):=
 bC func206 (λ_=>[(aW6 ha ho o_).at 12,(aW6 hb ho o_).at 15,(aW1 hg (ha.sub ho) (hb.sub ho) o_).at 16,(aWJ (hg.dot ((ha.sub ho).af (hb.sub ho))) o_).at 17])
end
section
variable{Bs:aa}{a b:List RV}
def Ew(n i:Nat):aT:=[(5,vI i),(0,sl 0 n),(1,sl 1 n)]
def wS(a b:List RV):aM:=[(0,.view (cU a)),(1,.view (cU b))]
noncomputable def svS{n:Nat}{x y:RV}(hi:i<n)(hx:a[i]?=some x)(hy:b[i]?=some y)(oc:x.Sm)(yo:y.Sm)(ht:(!t)=true↔x=y)(more:bM prog Bs 26):bM prog Bs 26:=
 .lt 14 i n true (aJ hi)::.c8 f149 19 0 n i 30 hi k_::.ld f149 20 38 0 (i*30) (.view (cU a)) x.v rfl (tx hx) k_::.c8 f149 23 1 n i 30 hi k_::.ld f149 24 38 1 (i*30) (.view (cU b)) y.v rfl (tx hy) k_::
  .step 25 (au f149 25) [x.v,y.v] [] (.bool t) [] (FY (neg:=false) k_ x y oc yo ht)::more
theorem aEs{n:Nat}{x:RV}(hi:i<n)(hx:a[i]?=some x)(hy:b[i]?=some x)(oc:x.Sm)(h63:n<9223372036854775807):
  ah prog Bs 26 (aI (ag f149 0)) (Ew n i) (wS a b) 2 ⟨.normal,Ew n (i+1),wS a b,2⟩:=
 aD (svS (t:=false) hi hx hy oc oc s_ [.sum 16 i 1 (i+1) rfl o_])
theorem aQm{n:Nat}{x y:RV}(hi:i<n)(hx:a[i]?=some x)(hy:b[i]?=some y)(oc:x.Sm)(yo:y.Sm)(bw:x≠y):
  ah prog Bs 26 (aI (ag f149 0)) (Ew n i) (wS a b) 2 ⟨.ret,[(4,.bool false)],wS a b,2⟩:=
 aD (svS (t:=true) hi hx hy oc yo (by simp[bw]) [])
theorem aQn{n:Nat}:ah prog Bs 26 (aI (ag f149 0)) (Ew n n) (wS a b) 2 ⟨.exit 0,[],wS a b,2⟩:=
 aD [.lt 14 n n false s_]
theorem aQo(ha:∀ x∈a,x.Sm)(hb:∀ x∈b,x.Sm)(h63:a.length<9223372036854775807):cy prog 149 [.r a.length (cU a),.r b.length (cU b)] (.bool (decide (a=b))):=by
 have aC:([aP.r a.length (cU a),.r b.length (cU b)].all aP.ok)=true:=by simp only[eC,e7,aP.ok,iT gm,iA]
 by_cases hl:a.length=b.length
 ·rcases Ea a b hl with h|⟨e,x,y,h1,h2,h3,h4⟩
  ·rw[aJ h];subst h;have lo:∀ B:aa,ah prog B 26 (.block 0 (ag f149 0)) (Ew a.length 0) (wS a a) 2 ⟨.normal,[],wS a a,2⟩:=λB=>
    cd (id:=0) (cx a.length (λi=>Ew a.length i) (λ_=>wS a a) (λi k _=>Iff.rfl) (λi hi=>by have hx:a[i]?=some a[i]:=aW hi;exact aEs hi hx hx (ha _ (df hi)) h63) aQn n_)
   exact dj func149 aC 26 (λw=>[.rw 10 _ a_ (uF (x:=a.length) (y:=a.length) s_),.code 0 _ _ _ _ _ (lo _)])
  ·have b9:a≠b:=λh=>by subst h;rw[h1]at h2;injection h2 with h2;exact h3 h2
   rw[bd b9];have al:=(dZ.1 h1).1;have lo:∀ B:aa,ah prog B 26 (.block 0 (ag f149 0)) (Ew a.length 0) (wS a b) 2 ⟨.ret,[(4,.bool false)],wS a b,2⟩:=λB=>
    cd (id:=0) (cx e (λi=>Ew a.length i) (λ_=>wS a b) (λi k _=>Iff.rfl) (λi hi=>by have hx:a[i]?=some a[i]:=aW o_;have hy:b[i]?=some b[i]:=aW o_;have:=h4 i _ _ hi hx hy;rw[<-this]at hy;exact aEs o_ hx hy (ha _ (df _)) h63) (aQm al h1 h2 (ha _ (cL h1)) (hb _ (cL h2)) h3) n_)
   have Cg:([aP.r a.length (cU a),.r a.length (cU b)].all aP.ok)=true:=by simp only[eC,e7,aP.ok,iT gm,iA]
   rw[<-hl];exact dj func149 Cg 26 (λw=>[.rw 10 _ a_ (uF (x:=a.length) (y:=a.length) s_),.code 0 _ _ _ _ _ (lo _)])
 ·have b9:a≠b:=λh=>hl (by rw[h]);rw[bd b9];exact dj func149 aC 26 (λw=>[.rw 10 _ b_ (uF (x:=a.length) (y:=b.length) (aJ hl))])
end
section
variable{Bs:aa}{a b:List Int}
def Ey(n i:Nat):aT:=[(5,vI i),(0,sl 0 n),(1,sl 1 n)]
def wT(a b:List Int):aM:=[(0,.view (fN a)),(1,.view (fN b))]
theorem neZ{x y:Int}(h:decide (x≠y)=t):Value.bool (x !=y)=.bool t:=by
 rw[<-h];congr 1
 by_cases e:x=y
 ·subst e;simp
 ·rw[aJ e,rJ];exact e
noncomputable def siS{n:Nat}{x y:Int}(hi:i<n)(hx:a[i]?=some x)(hy:b[i]?=some y)(ht:decide (x≠y)=t)(more:bM prog Bs 26):bM prog Bs 26:=
 .lt 14 i n true (aJ hi)::.ix f150 19 0 n i hi k_::.ld f150 20 3 0 i (.view (fN a)) (iV x) rfl (Qj hx) k_::.ix f150 23 1 n i hi k_::.ld f150 24 3 1 i (.view (fN b)) (iV y) rfl (Qj hy) k_::.rw 25 _ (.bool t) (neZ ht)::more
theorem aEt{n:Nat}{x:Int}(hi:i<n)(hx:a[i]?=some x)(hy:b[i]?=some x)(h63:n<9223372036854775807):
  ah prog Bs 26 (aI (ag f150 0)) (Ey n i) (wT a b) 2 ⟨.normal,Ey n (i+1),wT a b,2⟩:=
 aD (siS (t:=false) hi hx hy s_ [.sum 16 i 1 (i+1) rfl o_])
theorem aQp{n:Nat}{x y:Int}(hi:i<n)(hx:a[i]?=some x)(hy:b[i]?=some y)(bw:x≠y):
  ah prog Bs 26 (aI (ag f150 0)) (Ey n i) (wT a b) 2 ⟨.ret,[(4,.bool false)],wT a b,2⟩:=
 aD (siS (t:=true) hi hx hy (aJ bw) [])
theorem aQq{n:Nat}:ah prog Bs 26 (aI (ag f150 0)) (Ey n n) (wT a b) 2 ⟨.exit 0,[],wT a b,2⟩:=
 aD [.lt 14 n n false s_]
theorem aEu(l:List Int):(fN l).all flat=true:=bB.2 λu hu=>by obtain⟨x,_,rfl⟩:=db.1 hu;rfl
theorem aQr(h63:a.length<9223372036854775807):cy prog 150 [.r a.length (fN a),.r b.length (fN b)] (.bool (decide (a=b))):=by
 have aC:([aP.r a.length (fN a),.r b.length (fN b)].all aP.ok)=true:=by simp only[eC,e7,aP.ok,aEu,iA]
 by_cases hl:a.length=b.length
 ·rcases Ea a b hl with h|⟨e,x,y,h1,h2,h3,h4⟩
  ·rw[aJ h];subst h;have lo:∀ B:aa,ah prog B 26 (.block 0 (ag f150 0)) (Ey a.length 0) (wT a a) 2 ⟨.normal,[],wT a a,2⟩:=λB=>
    cd (id:=0) (cx a.length (λi=>Ey a.length i) (λ_=>wT a a) (λi k _=>Iff.rfl) (λi hi=>by have hx:a[i]?=some a[i]:=aW hi;exact aEt hi hx hx h63) aQq n_)
   exact dj func150 aC 26 (λw=>[.rw 10 _ a_ (uF (x:=a.length) (y:=a.length) s_),.code 0 _ _ _ _ _ (lo _)])
  ·have b9:a≠b:=λh=>by subst h;rw[h1]at h2;injection h2 with h2;exact h3 h2
   rw[bd b9];have al:=(dZ.1 h1).1;have lo:∀ B:aa,ah prog B 26 (.block 0 (ag f150 0)) (Ey a.length 0) (wT a b) 2 ⟨.ret,[(4,.bool false)],wT a b,2⟩:=λB=>
    cd (id:=0) (cx e (λi=>Ey a.length i) (λ_=>wT a b) (λi k _=>Iff.rfl) (λi hi=>by have hx:a[i]?=some a[i]:=aW o_;have hy:b[i]?=some b[i]:=aW o_;have:=h4 i _ _ hi hx hy;rw[<-this]at hy;exact aEt o_ hx hy h63) (aQp al h1 h2 h3) n_)
   have Cg:([aP.r a.length (fN a),.r a.length (fN b)].all aP.ok)=true:=by simp only[eC,e7,aP.ok,aEu,iA]
   rw[<-hl];exact dj func150 Cg 26 (λw=>[.rw 10 _ a_ (uF (x:=a.length) (y:=a.length) s_),.code 0 _ _ _ _ _ (lo _)])
 ·have b9:a≠b:=λh=>hl (by rw[h]);rw[bd b9];exact dj func150 aC 26 (λw=>[.rw 10 _ b_ (uF (x:=a.length) (y:=b.length) (aJ hl))])
end
section
variable{α:Type}[DecidableEq α]
def dd:List α->List α
 |a::b::l=>if a=b then dd (b::l)else a::dd (b::l)
 |l=>l
theorem Mn(a b:α)(l:List α):dd (a::b::l)=if a=b then dd (b::l)else a::dd (b::l):=rfl
theorem aEv:∀(l:List α) (a b:α),dd (l++[a,b])=if a=b then dd (l++[a])else dd (l++[a])++[b]
 |[],a,b=>by
  show(if a=b then[b]else[a,b])=if a=b then[a]else[a]++[b]
  split
  ·rename_i h;rw[h]
  ·rfl
 |[c],a,b=>by
  show(if c=a then(if a=b then[b]else[a,b])else c::(if a=b then[b]else[a,b]))=if a=b then(if c=a then[a]else[c,a])else(if c=a then[a]else[c,a])++[b]
  by_cases h:a=b<;>by_cases k:c=a<;>simp[h,k]
 |c::d::l,a,b=>by
  show(if c=d then dd (d::(l++[a,b]))else c::dd (d::(l++[a,b])))=if a=b then(if c=d then dd (d::(l++[a]))else c::dd (d::(l++[a])))else(if c=d then dd (d::(l++[a]))else c::dd (d::(l++[a])))++[b]
  have ih:=aEv (d::l) a b;rw[Dt,Dt]at ih;rw[ih];by_cases h:a=b<;>by_cases k:c=d<;>simp[h,k]
theorem QS{l:List α}{x y:α}(hj:l[j]?=some y)(hx:l[j+1]?=some x):dd (l.take (j+2))=if y=x then dd (l.take (j+1))else dd (l.take (j+1))++[x]:=by
 have e1:l.take (j+1)=l.take j++[y]:=by rw[tA,hj];rfl
 have e2:l.take (j+2)=l.take j++[y,x]:=by rw[tA,hx,e1,E9];rfl
 rw[e1,e2,aEv]
theorem aEw{x:α}:∀{l:List α},x∈dd l↔x∈l
 |[]=>Iff.rfl
 |[a]=>Iff.rfl
 |a::b::l=>by
  rw[Mn];have ih:=aEw (x:=x) (l:=b::l);split
  ·rename_i h;subst h;rw[ih];simp
  ·rw[cD,ih];simp
def kx(l:List α)(j:Nat):List α:=dd (l.take j)++l.drop (dd (l.take j)).length
def jq(l:List α)(j:Nat):Nat:=(dd (l.take j)).length
theorem QT(l:List α):∀ j,jq l j<=j/\jq l j<=l.length
 |0=>by simp[jq,dd]
 |1=>by
  cases l with
  |nil=>simp[jq,dd]
  |cons a l=>simp[jq,dd]
 |j+2=>by
  have ih:=QT l (j+1);rcases e9 (j+1) l.length with h|h
  ·have hy:l[j]?=some l[j]:=aW o_;have hx:l[j+1]?=some l[j+1]:=aW h;have:=QS hy hx;unfold jq at ih ⊢;rw[this];split
   ·omega
   ·rw[lF,PW];omega
  ·have:l.take (j+2)=l.take (j+1):=by rw[kG h,kG o_]
   unfold jq at ih ⊢;rw[this];omega
theorem aEx(l:List α)(j:Nat):(kx l j).length=l.length:=by have:=(QT l j).2;unfold jq at this;unfold kx;rw[lF,vV];omega
theorem aEy{l:List α}(h:jq l j<=i):(kx l j)[i]?=l[i]?:=by
 unfold jq at h;unfold kx;rw[E2 h,Hl]
 congr 1;omega
theorem QU{l:List α}{x:α}(hj:l[j]?=some x)(hx:l[j+1]?=some x):kx l (j+2)=kx l (j+1)/\jq l (j+2)=jq l (j+1):=by unfold kx jq;rw[QS hj hx,aB rfl];exact⟨rfl,rfl⟩
theorem aEz{l:List α}{x y:α}(hj:l[j]?=some y)(hx:l[j+1]?=some x)(bw:y≠x)(hd:jq l (j+1)<l.length):(kx l (j+1)).set (jq l (j+1)) x=kx l (j+2)/\jq l (j+2)=jq l (j+1)+1:=by
 unfold kx jq at *;rw[QS hj hx,az bw];refine⟨?_,by rw[lF];rfl⟩;rw[VN _ _ (bF _),wi,lF,PW,E9]
 congr 1
 rw[aMu hd];rfl
theorem W3{l:List α}:∀(j:Nat),(∀ i x,i+1<j->l[i]?=some x->l[i+1]?≠some x)->j<=l.length->dd (l.take j)=l.take j
 |0,_,_=>rfl
 |1,_,_=>by
  cases l with
  |nil=>rfl
  |cons a l=>rfl
 |j+2,h,hl=>by
  have ih:=W3 (j+1) (λi x hi=>h i x o_) o_;have hy:l[j]?=some l[j]:=aW o_;have hx:l[j+1]?=some l[j+1]:=aW o_;rw[QS hy hx,az (λe=>h j _ o_ hy (by rw[hx,e])),ih];have e:l.take (j+2)=l.take (j+1)++[l[j+1]]:=by rw[tA,hx];rfl
  exact e.symm
theorem aEA(l:List α):∀ n,n<=l.length->(∀ i x,i+1<n->l[i]?=some x->l[i+1]?≠some x)\/∃ e x,e+1<n/\l[e]?=some x/\l[e+1]?=some x/\∀ i x,i+1<e+1->l[i]?=some x->l[i+1]?≠some x
 |0,_=>.inl λi x h=>by omega
 |1,_=>.inl λi x h=>by omega
 |n+2,hn=>by
  rcases aEA l (n+1) o_ with h|⟨e,x,h1,h2,h3,h4⟩
  ·have hy:l[n]?=some l[n]:=aW o_;have hx:l[n+1]?=some l[n+1]:=aW o_;by_cases he:l[n]=l[n+1]
   ·exact .inr ⟨n,l[n],by omega,hy,by rw[hx,he],h⟩
   ·refine .inl λi x hi Bj=>?_;rcases e9 (i+1) (n+1)with h1|h1
    ·exact h i x h1 Bj
    ·have:i=n:=by omega
     subst this;rw[hy]at Bj;injection Bj with Bj;rw[hx,<-Bj];intro e;injection e with e;exact he e.symm
  ·exact .inr ⟨e,x,by omega,h2,h3,h4⟩
theorem aEB{β:Type}[DecidableEq β]{f:α->β}(hf:∀ a b,f a=f b->a=b):∀ l:List α,dd (l.map f)=(dd l).map f
 |[]=>rfl
 |[a]=>rfl
 |a::b::l=>by
  have ih:=aEB hf (b::l);rw[oZ,oZ,Mn,Mn];rw[oZ]at ih;by_cases h:a=b
  ·subst h;rw[aB rfl,aB rfl,ih]
  ·rw[az h,az (λe=>h (hf _ _ e)),ih];rfl
end
section
variable{Bs:aa}{l:List RV}
def Mo:RI:=⟨false,[]⟩
def tJ:RN:=⟨Mo,Mo,Mo,Mo,Mo⟩
def rf:RV:=⟨tJ,tJ,tJ⟩
def GQ(n i:Nat):aT:=[(3,vI i),(0,sl 1 n)]
def lV(l:List RV):aM:=[(1,.row (cU l) 38 30)]
def aQs(k a n:Nat):Value:=.slice (some ⟨k,a*30,some 7⟩) n a
def Mp(n e d k:Nat):aT:=[(5,vI k),(4,aQs 1 e (n-e)),(3,vI d),(0,sl 1 n)]
theorem stV{l:List RV}{y:RV}(hi:i<l.length):fp prog 38 (cU l) (i*30) y.v=some (cU (l.set i y)):=aMv gm k_ hi
theorem aEC{n:Nat}{x y:RV}(hi:i+1<n)(h63:n<4611686018427387904)(hy:l[i]?=some y)(hx:l[i+1]?=some x)(yo:y.Sm)(oc:x.Sm)(bw:x≠y):
  ah prog Bs 61 (aI (ag f185 0)) (GQ n (i+1)) (lV l) 2 ⟨.normal,GQ n (i+1+1),lV l,2⟩:=
 aD [.lt 13 (i+1) n true (aJ hi),.c8 f185 18 1 n (i+1) 30 hi k_,.ld f185 19 38 1 ((i+1)*30) (.row (cU l) 38 30) x.v rfl (tx hx) k_,.fq 22 (i+1) 1 i rfl o_,.c8 f185 23 1 n i 30 o_ k_,.ld f185 24 38 1 (i*30) (.row (cU l) 38 30) y.v rfl (tx hy) k_,.step 25 (au f185 25) [x.v,y.v] [] a_ [] (FY (neg:=true) k_ x y oc yo (by simp[bw])),.sum 15 (i+1) 1 (i+1+1) rfl o_]
theorem aQt{n:Nat}:ah prog Bs 61 (aI (ag f185 0)) (GQ n n) (lV l) 2 ⟨.exit 0,[(0,sl 1 n)],lV l,2⟩:=
 aD [.lt 13 n n false s_]
noncomputable def aED{n:Nat}{r:List RV}{x y:RV}(hk:k+1<n-e)(hj:e+k=j)(h63:n<4611686018427387904)(hy:r[j]?=some y)(hx:r[j+1]?=some x)(yo:y.Sm)(oc:x.Sm)(ht:(!t)=true↔x=y)(more:bM prog Bs 61):bM prog Bs 61:=
 .lt 32 (k+1) (n-e) true (aJ hk)::.qa f185 37 1 e (n-e) e (k+1) (j+1) 30 hk o_ k_::.ld f185 38 38 1 ((j+1)*30) (.row (cU r) 38 30) x.v rfl (tx hx) k_::.fq 41 (k+1) 1 k rfl o_::
  .qa f185 42 1 e (n-e) e k j 30 o_ hj k_::.ld f185 43 38 1 (j*30) (.row (cU r) 38 30) y.v rfl (tx hy) k_::.step 44 (au f185 44) [x.v,y.v] [] (.bool t) [] (FY (neg:=false) k_ x y oc yo ht)::more
theorem aQu{n:Nat}(hl:l.length=n)(hk:e+1+k+1<n)(h63:n<4611686018427387904)(qW:∀ x∈l,x.Sm)(hd:d=jq l (e+1+k+1))(hde:d<=e+1+k):
  ah prog Bs 61 (aI (ag f185 2)) (Mp n (e+1) d (k+1)) (lV (kx l (e+1+k+1))) 2 ⟨.normal,Mp n (e+1) (jq l (e+1+k+2)) (k+1+1),lV (kx l (e+1+k+2)),2⟩:=by
 have hy:l[e+1+k]?=some l[e+1+k]:=aW o_;have hx:l[e+1+k+1]?=some l[e+1+k+1]:=aW o_;have OX:(kx l (e+1+k+1))[e+1+k]?=some l[e+1+k]:=by rw[aEy o_];exact hy
 have xD:(kx l (e+1+k+1))[e+1+k+1]?=some l[e+1+k+1]:=by rw[aEy o_];exact hx
 have sy:=qW _ (cL hy);have sx:=qW _ (cL hx);by_cases h:l[e+1+k]=l[e+1+k+1]
 ·obtain⟨q1,q2⟩:=QU hy (by rw[hx,h]);rw[q1,q2,<-hd];exact aD (aED (t:=false) o_ rfl h63 OX xD sy sx (by simp[h]) [.sum 34 (k+1) 1 (k+1+1) rfl o_])
 ·have al:jq l (e+1+k+1)<l.length:=by omega
  obtain⟨q1,q2⟩:=aEz hy hx h al;rw[<-hd]at q1 q2 al;have bT:=stV (l:=kx l (e+1+k+1)) (i:=d) (y:=l[e+1+k+1]) (by rw[aEx];exact al);rw[q1]at bT;rw[q2];generalize l[e+1+k+1]=x at *;generalize l[e+1+k]=y at *;generalize kx l (e+1+k+1)=r at *;generalize kx l (e+1+k+2)=r' at *;exact aD (aED (t:=true) o_ rfl h63 OX xD sy sx (by simp;exact λe=>h e.symm) [.qa f185 49 1 (e+1) (n-(e+1)) (e+1) (k+1) (e+1+k+1) 30 o_ o_ k_,.ld f185 50 38 1 ((e+1+k+1)*30) (.row (cU r) 38 30) x.v rfl (tx xD) k_,.c8 f185 51 1 n d 30 o_ k_,.st f185 100051 38 1 (d*30) (.row (cU r) 38 30) x.v (.row (cU r') 38 30) rfl bT rfl k_,.sum 53 d 1 (d+1) rfl o_,.sum 34 (k+1) 1 (k+1+1) rfl o_])
theorem aQv{n:Nat}{r:List RV}(he:e<=n):ah prog Bs 61 (aI (ag f185 2)) (Mp n e d (n-e)) (lV r) 2 ⟨.exit 2,[(3,vI d),(0,sl 1 n)],lV r,2⟩:=
 aD [.lt 32 (n-e) (n-e) false s_]
theorem aQw{n:Nat}{x:RV}(hl:l.length=n)(he:e+1<n)(h63:n<4611686018427387904)(qW:∀ x∈l,x.Sm)(hy:l[e]?=some x)(hx:l[e+1]?=some x)(fU:dd (l.take (e+1))=l.take (e+1)):
  ah prog Bs 61 (.block 2 (ag f185 2)) (Mp n (e+1) (e+1) 1) (lV l) 2 ⟨.normal,[(3,vI (dd l).length),(0,sl 1 n)],lV (kx l n),2⟩/\(dd l).length<n:=by
 have h0:jq l (e+1)=e+1:=by unfold jq;rw[fU,jK];omega
 have h1:jq l (e+2)=e+1:=by rw[(QU hy hx).2,h0]
 have gM:kx l (e+2)=l:=by rw[(QU hy hx).1];unfold kx;rw[fU];rw[jK,oz o_,Qq]
 have v7:∀ k,e+1+k+1<n->jq l (e+1+k+2)<=jq l (e+1+k+1)+1:=λk hk=>by
  have a:l[e+1+k]?=some l[e+1+k]:=aW o_;have b:l[e+1+k+1]?=some l[e+1+k+1]:=aW o_;by_cases h:l[e+1+k]=l[e+1+k+1]
  ·have:=(QU a (by rw[b,h])).2;omega
  ·have:=(aEz a b h (by have:=(QT l (e+1+k+1)).1;omega)).2;omega
 have E6:∀ k,e+1+k<n->jq l (e+1+k+1)<=e+1+k:=by
  intro k;induction k with
  |zero=>intro _;show jq l (e+2)<=_;omega
  |succ k ih=>
   intro hk;have a:=ih o_;have b:=v7 k o_;show jq l (e+1+k+2)<=_;omega
 have bh:jq l n=(dd l).length:=by unfold jq;rw[kG o_]
 refine⟨?_,?_⟩
 ·have:=cx (P:=prog) (B:=Bs) (N:=61) (b:=aI (ag f185 2)) (next:=2) (n-(e+1)-1) (λk=>Mp n (e+1) (jq l (e+1+k+1)) (k+1)) (λk=>lV (kx l (e+1+k+1)))
   (r:=⟨.exit 2,[(3,vI (dd l).length),(0,sl 1 n)],lV (kx l n),2⟩) (λi k _=>kk (l:=lV (kx l (e+1+i+1))) (m:=lV (kx l (e+1+0+1))) rfl k)
   (λk hk=>aQu hl o_ h63 qW rfl (E6 k o_))
   (by
    have e1:e+1+(n-(e+1)-1)+1=n:=by omega
    have e2:n-(e+1)-1+1=n-(e+1):=by omega
    simp only[e1,e2,bh];exact aQv o_) n_
  have h2:=cd (id:=2) this;simp only[kB,jg,h1,gM]at h2;exact h2
 ·have:=E6 (n-(e+1)-1) o_;rw[show e+1+(n-(e+1)-1)+1=n by omega,bh]at this;omega
def Jd(l:List RV):List RV:=dd l++List.replicate (l.length-(dd l).length) rf
theorem aEE{l:List RV}(h:dd l=l):Jd l=l:=by unfold Jd;rw[h];simp
theorem aQx(qW:∀ x∈l,x.Sm)(h63:l.length<4611686018427387904):yi prog 185 2 [sl 1 l.length] (lV l) [] (sl 1 (dd l).length) (lV (Jd l)):=by
 by_cases h2:l.length<2
 ·have hd:dd l=l:=by
   cases l with
   |nil=>rfl
   |cons a l=>cases l with
    |nil=>rfl
    |cons b l=>simp at h2;omega
  rw[aEE hd,hd];exact oL mixed func185 100 (N:=61) k_ (λ_=>[.lt 8 l.length 2 true (aJ h2)]) (λ_=>k_)
 ·have al:(Value.bool (decide ((l.length:Int)<(2:Int))))=.bool false:=by simp;omega
  rcases aEA l l.length (bF _)with h|⟨e,x,h3,h4,h5,h6⟩
  ·have hd:dd l=l:=by have:=W3 l.length h (bF _);rwa[n9]at this
   rw[aEE hd,hd];generalize hn:l.length=n at *;have lo:∀ B:aa,ah prog B 61 (.block 0 (ag f185 0)) (GQ n 1) (lV l) 2 ⟨.normal,[(0,sl 1 n)],lV l,2⟩:=λB=>by
    have:=cx (P:=prog) (B:=B) (N:=61) (b:=aI (ag f185 0)) (next:=2) (n-1) (λi=>GQ n (i+1)) (λ_=>lV l) (r:=⟨.exit 0,[(0,sl 1 n)],lV l,2⟩) (λi k _=>Iff.rfl)
     (λi hi=>by have hy:l[i]?=some l[i]:=aW o_;have hx:l[i+1]?=some l[i+1]:=aW o_;exact aEC o_ h63 hy hx (qW _ (cL hy)) (qW _ (cL hx)) λe=>h i _ o_ hy (by rw[hx,e]))
     (by rw[show n-1+1=n by omega];exact aQt) n_
    exact cd (id:=0) this
   exact oL mixed func185 100 (N:=61) k_ (λB=>[.rw 8 _ _ al,.code 0 _ _ _ _ _ (lo B)]) (λ_=>k_)
  ·have fU:dd (l.take (e+1))=l.take (e+1):=W3 (e+1) h6 o_;have sx:=qW _ (cL h4);generalize hn:l.length=n at *;have hz:dB RV.cs (List.replicate (n-(dd l).length) rf)=(Builtin.zeroCells (rf.v).cells (n-(dd l).length)).toList:=(aNx gm rfl d_ _).symm;unfold Jd;rw[hn];have cC:=λB=>aQw (Bs:=B) hn h3 h63 qW h4 h5 fU;have Oo:=(cC (aa.at default)).2;have Gj:kx l n=dd l++l.drop (dd l).length:=by unfold kx;rw[kG o_]
   have aQy:jf (cU (kx l n)) ((dd l).length*30) (Builtin.zeroCells (rf.v).cells (n-(dd l).length)).toList=cU (dd l++List.replicate (n-(dd l).length) rf):=by rw[<-hz,Gj];show jf (dB RV.cs (dd l++l.drop (dd l).length)) _ _=dB RV.cs _;rw[LF,LF];have:=PV (dB RV.cs (List.replicate (n-(dd l).length) rf)) (dB RV.cs (dd l)) (dB RV.cs (l.drop (dd l).length)) 0;rw[uy gm,jg]at this;rw[this];have h2:=VO (dB RV.cs (List.replicate (n-(dd l).length) rf)) (dB RV.cs (l.drop (dd l).length)) [] (by rw[uy gm,uy gm,vV,I2,hn]);rw[jO,jO]at h2;rw[h2]
   have hlen:(dd l).length*30+(n-(dd l).length)*(rf.v).cells.size<=(cU (kx l n)).length:=by rw[uy gm,aEx,hn,show(rf.v).cells.size=30 from rfl,<-fP];exact eE _ o_
   generalize kx l n=r at *;generalize (dd l++List.replicate (n-(dd l).length) rf)=r' at *;generalize (dd l).length=d at *;have lo:∀ B:aa,ah prog B 61 (.block 0 (ag f185 0)) (GQ n 1) (lV l) 2 ⟨.ret,[(2,sl 1 d)],lV r',2⟩:=λB=>by
    have:=cx (P:=prog) (B:=B) (N:=61) (b:=aI (ag f185 0)) (next:=2) e (λi=>GQ n (i+1)) (λ_=>lV l) (r:=⟨.ret,[(2,sl 1 d)],lV r',2⟩) (λi k _=>Iff.rfl)
     (λi hi=>by have hy:l[i]?=some l[i]:=aW o_;have hx:l[i+1]?=some l[i+1]:=aW o_;exact aEC o_ h63 hy hx (qW _ (cL hy)) (qW _ (cL hx)) λe=>h6 i _ o_ hy (by rw[hx,e]))
     (aD [.lt 13 (e+1) n true (aJ h3),.c8 f185 18 1 n (e+1) 30 h3 k_,.ld f185 19 38 1 ((e+1)*30) (.row (cU l) 38 30) x.v rfl (tx h5) k_,.fq 22 (e+1) 1 e rfl o_,.c8 f185 23 1 n e 30 o_ k_,.ld f185 24 38 1 (e*30) (.row (cU l) 38 30) x.v rfl (tx h4) k_,.step 25 (au f185 25) [x.v,x.v] [] b_ [] (FY (neg:=true) k_ x x sx sx s_),.behind f185 28 1 n (e+1) (n-(e+1)) 30 o_ o_ k_,.code 2 _ _ _ _ _ (cC B).1,.behind f185 56 1 n d (n-d) 30 o_ o_ k_,.clear f185 99999 1 (d*30) (n-d) d 38 30 rf.v (cU r) (cU r') d_ o_ hlen aQy k_,.upto f185 59 1 n d 30 o_ k_]) n_
    exact cd (id:=0) this
   exact oL mixed func185 100 (N:=61) k_ (λB=>[.rw 8 _ _ al,.code 0 _ _ _ _ _ (lo B)]) (λ_=>k_)
end
section
open Go.Shelf
def aEF:Go.Shelf.Ren:=⟨λ| 6=>183|15=>212|14=>211|28=>235|29=>236|20=>227|21=>228|22=>229|23=>230|24=>231|25=>232|26=>233|27=>234|46=>246|47=>247|48=>248|49=>249|50=>250|57=>255|n=>n,λ| 22=>23|24=>38|25=>170|3=>3|39=>145|0=>0|53=>179|55=>119|4=>4|46=>210|45=>209|50=>122|5=>5|9=>9|66=>227|70=>231|76=>239|77=>240|n=>n,λ| n=>n⟩
theorem aQz:Go.Proofs.SlLaysF0.n6 prog aEF:={
 mixed:=by kernel_rfl
 f6:=⟨f183.name,by decide,func183.trans (cS some k_)⟩
 f14:=⟨f211.name,by decide,func211.trans (cS some k_)⟩
 f15:=func212.trans (cS some k_)
 f20:=⟨f227.name,by decide,func227.trans (cS some k_)⟩
 f21:=⟨f228.name,by decide,func228.trans (cS some k_)⟩
 f22:=⟨f229.name,by decide,func229.trans (cS some k_)⟩
 f23:=⟨f230.name,by decide,func230.trans (cS some k_)⟩
 f24:=⟨f231.name,by decide,func231.trans (cS some k_)⟩
 f25:=⟨f232.name,by decide,func232.trans (cS some k_)⟩
 f26:=⟨f233.name,by decide,func233.trans (cS some k_)⟩
 f27:=⟨f234.name,by decide,func234.trans (cS some k_)⟩
 f28:=func235.trans (cS some k_)
 f29:=func236.trans (cS some k_)
 f46:=⟨f246.name,by decide,func246.trans (cS some k_)⟩
 f47:=func247.trans (cS some k_)
 f48:=func248.trans (cS some k_)
 f49:=⟨f249.name,by decide,func249.trans (cS some k_)⟩
 f50:=⟨f250.name,by decide,func250.trans (cS some k_)⟩
 f57:=⟨f255.name,by decide,func255.trans (cS some k_)⟩
 t0:=Tryz.underlying0
 a0:=isAgg0
 z0:=sizeOf0
 v0:=Tryz.zeroValue0
 t3:=Tryz.underlying3
 a3:=isAgg3
 z3:=sizeOf3
 v3:=Tryz.zeroValue3
 t4:=Tryz.underlying4
 a4:=isAgg4
 z4:=sizeOf4
 v4:=Tryz.zeroValue4
 t5:=Tryz.underlying5
 a5:=isAgg5
 z5:=sizeOf5
 v5:=Tryz.zeroValue5
 t9:=Tryz.underlying9
 a9:=isAgg9
 z9:=sizeOf9
 v9:=Tryz.zeroValue9
 t22:=Tryz.underlying23
 a22:=isAgg23
 z22:=sizeOf23
 v22:=Tryz.zeroValue23
 t25:=Tryz.underlying170
 a25:=isAgg170
 z25:=sizeOf170
 v25:=Tryz.zeroValue170
 t39:=Tryz.underlying145
 a39:=isAgg145
 z39:=sizeOf145
 v39:=Tryz.zeroValue145
 t45:=Tryz.underlying209
 a45:=isAgg209
 z45:=sizeOf209
 v45:=Tryz.zeroValue209
 t46:=Tryz.underlying210
 a46:=isAgg210
 z46:=sizeOf210
 v46:=Tryz.zeroValue210
 t50:=Tryz.underlying122
 a50:=isAgg122
 z50:=sizeOf122
 v50:=Tryz.zeroValue122
 t53:=Tryz.underlying179
 a53:=isAgg179
 z53:=sizeOf179
 v53:=Tryz.zeroValue179
 t55:=Tryz.underlying119
 a55:=isAgg119
 z55:=sizeOf119
 v55:=Tryz.zeroValue119
 t66:=Tryz.underlying227
 a66:=isAgg227
 z66:=sizeOf227
 v66:=Tryz.zeroValue227
 t70:=Tryz.underlying231
 a70:=isAgg231
 z70:=sizeOf231
 v70:=Tryz.zeroValue231
 t76:=Tryz.underlying239
 a76:=isAgg239
 z76:=sizeOf239
 v76:=Tryz.zeroValue239
 t77:=Tryz.underlying240
 a77:=isAgg240
 z77:=sizeOf240
 v77:=Tryz.zeroValue240 }
end
section
open CR OF
section
variable{F:Type}[OF F]
def tK(u v:V3 F):Bool:=decide (eG u v≠1)
theorem Je{u v:V3 F}:tK u v=true↔j9 u v\/u=v:=by unfold tK j9;rw[Cs,<-Lu];rcases IH u v with h|h|h<;>rw[h]<;>decide
theorem aEG(u v w:V3 F)(h:tK u v=true)(k:tK v w=true):tK u w=true:=by
 rw[Je]at *;rcases h with h|rfl
 ·rcases k with k|rfl
  ·exact .inl (Lv h k)
  ·exact .inl h
 ·exact k
theorem aQA(u v:V3 F):(tK u v||tK v u)=true:=by
 rw[u5,Je,Je];rcases IH u v with h|h|h
 ·exact .inl (.inl h)
 ·exact .inl (.inr (Lu.1 h))
 ·exact .inr (.inl (Lw h))
theorem aQB{u v:V3 F}(h:tK u v=true)(k:tK v u=true):u=v:=by
 rw[Je]at h k;rcases h with h|h
 ·rcases k with k|k
  ·exact absurd (PM h k) id
  ·exact k.symm
 ·exact h
def r8(l:List (V3 F)):List (V3 F):=l.mergeSort tK
theorem Mq(l:List (V3 F)):(r8 l).Perm l:=List.mergeSort_perm l tK
theorem aEH(l:List (V3 F)):(r8 l).Pairwise λu v=>tK u v=true:=List.pairwise_mergeSort aEG aQA l
theorem aQC{l d:List (V3 F)}(hp:d.Perm l)(hs:d.Pairwise λu v=>tK u v=true):d=r8 l:=
 List.Perm.eq_of_pairwise (λ_ _ _ _=>aQB) hs (aEH l) (hp.trans (Mq l).symm)
theorem aEI{α:Type}[DecidableEq α]:∀(a:α) (l:List α),∃ m,dd (a::l)=a::m
 |a,[]=>⟨[],rfl⟩
 |a,b::l=>by
  rw[Mn];by_cases h:a=b
  ·subst h;rw[aB rfl];exact aEI a l
  ·rw[az h];exact⟨_,rfl⟩
theorem aEJ[DecidableEq (V3 F)]:∀{l:List (V3 F)},(l.Pairwise λu v=>tK u v=true)->(dd l).Pairwise j9
 |[],_=>aCz
 |[a],_=>Vn ..
 |a::b::l,h=>by
  have h':=(tn.1 h).2;have ih:=aEJ h';rw[Mn];by_cases b9:a=b
  ·rw[aB b9];exact ih
  ·rw[az b9];refine tn.2 ⟨λx hx=>?_,ih⟩;have al:j9 a b:=(Je.1 ((tn.1 h).1 b (aR ..))).resolve_right b9;obtain⟨m,hm⟩:=aEI b l;rw[hm]at hx ih;rcases cD.1 hx with rfl|hx
   ·exact al
   ·exact Lv al ((tn.1 ih).1 x hx)
theorem aEK[DecidableEq (V3 F)](l:List (V3 F)):dd (r8 l)=Lx l:=
 VC (aEJ (aEH l)) (VE l) λx=>by rw[aEw,VD,(Mq l).mem_iff]
end
end
section
open V3 (dot af bA smul)
open Go.Sort (SWO)
theorem aQD{q:HS K}(cq:∀ p∈ps,bP m p)(hp:bP m p)(hq:bP m q)(mh:eH p q≠0->dot (eH p q) (eH p q)≠0):∀ v∈rY ps p q,aF (10000*(m+10)) v:=by
 intro v hv;unfold rY Gt at hv;have hD:=VV hp hq;by_cases h0:eH p q=0
 ·rw[aB h0]at hv;cases hv
 ·rw[az h0]at hv;obtain⟨r,hr⟩:∃ r,r=300*m+1000:=⟨_,rfl⟩;have hB:aF r (wK p q):=hr▸aCO hp hq h0 (mh h0);have Gu:aF r (eH p q):=hD.mono o_;obtain⟨zl,zh⟩:=P5 (m:=m) (q:=r) (z:=24*(m+r)+m+200) hB Gu o_ ps ⟨none,none⟩ cq n_ n_;have key:∀ t,Sz (24*(m+r)+m+200) t->aF (10000*(m+10)) (wK p q+smul (eH p q) t):=λt ht=>(hB.add (Gu.smul ht)).mono o_;unfold LI at hv;split at hv
  ·rename_i x y he;split at he
   ·split at he
    ·rename_i l h e1 e2;injection he with he;injection he with f1 f2;subst f1;subst f2;simp only[cD,jE,jF]at hv;rcases hv with rfl|rfl
     ·exact key _ (zl _ e1)
     ·exact key _ (zh _ e2)
    ·cases he
   ·cases he
  ·cases hv
theorem aEL(cq:∀ p∈ps,bP m p)(mh:∀ p q:HS K,eH p q≠0->dot (eH p q) (eH p q)≠0)(n:Nat):∀ v∈nH ps n,aF (10000*(m+10)) v:=by
 intro v hv;unfold nH at hv;rw[wI]at hv;obtain⟨i,_,hv⟩:=hv;unfold LO at hv;split at hv
 ·rename_i p hp;unfold lR at hv;rw[wI]at hv;obtain⟨q,hq,hv⟩:=hv;exact aQD cq (cq p (cL hp)) (cq q (IM hq)) (mh p q) v hv
 ·cases hv
structure VS(m:Nat) where
 v:V3 K
 sz:aF m v
theorem VS.ext'{m:Nat}{a b:VS m}(h:a.v=b.v):a=b:=by cases a;cases b;cases h;rfl
def QV(v:VS m):ak:=(cH v.v).cs
theorem W5:rT (QV (m:=m)) 30:=⟨λ_=>gm.len _,λ_=>gm.flat _,λ_=>gm.one _⟩
theorem W6(h:1<=m):aF m (⟨kI 0,kI 0,kI 0⟩:V3 K):=Cr.mono h
def Mr(u v:VS m):Bool:=Go.Proofs.ltOf (λa b:VS m=>eG a.v b.v) u v
theorem W7{u v:VS m}:Mr u v=true↔j9 u.v v.v:=by show decide (eG u.v v.v<0)=true↔eG u.v v.v=-1;rw[Cs];rcases IH u.v v.v with h|h|h<;>rw[h]<;>decide
theorem aEM{u v:VS m}:Mr u v=false↔tK v.v u.v=true:=by
 rw[aDS,ne_eq,W7,Je];rcases IH u.v v.v with h|h|h
 ·exact⟨λk=>absurd h k,λk _=>by
   rcases k with k|k
   ·exact PM h k
   ·rw[k]at h;exact D3 _ h⟩
 ·have:=Lu.1 h;exact⟨λ_=>.inr this.symm,λ_ k=>by rw[this]at k;exact D3 _ k⟩
 ·exact⟨λ_=>.inl (Lw h),λ_ k=>PM k (Lw h)⟩
theorem aQE:SWO (Mr (m:=m)) where
 irrefl x:=by rw[aDS,ne_eq,W7];exact D3 _
 trans x y z h k:=by rw[W7]at *;exact Lv h k
 ntrans x y z h k:=by rw[aEM]at *;exact aEG _ _ _ k h
theorem aQF(h:gg prog f=true):∀ args w,(callFunc f args).run prog w=.ok (.enter f args) w:=λargs w=>Nl h args w
def Jf:Value:=.func (.func 184) #[] #[]
theorem aQG(c7:1<=m)(hm:8*m+24<=aE)(l:List (VS m))(h63:l.length<4611686018427387904):
  letI:Inhabited (VS m):=⟨⟨_,W6 c7⟩⟩
  aC9 prog 183 Jf QV 30 Mr l:=by
 letI:Inhabited (VS m):=⟨⟨_,W6 c7⟩⟩
 intro aK cap w hH hblk
 have:=Go.Proofs.AnyQ.slices_SortFunc (P:=prog) (ρ:=aEF) aQz 30 isAgg38 sizeOf38 (QV (m:=m)) W5.len W5.one (λa b=>eG a.v b.v) aQE 184 #[] aK 0 cap l.toArray w
  (aQF k_) (aNq (λx y=>VG x.sz y.sz o_) aK _ _ w) hH hblk (by simpa using h63)
 have e:l.toArray.size=l.length:=by simp
 rw[e]at this;exact this
theorem aQH:aG prog 227 [.slice none 0 0,vI 0,vI 0,Jf] (.tuple #[]):=bC func227 (λ_=>[])
theorem aQI:aG prog 211 [.slice none 0 0,vI 0,vI 0,vI 0,Jf] (.tuple #[]):=bC func211 (λ_=>[aQH.at 30])
theorem aQJ:aG prog 236 [.int .u64 0] (vI 0):=bC func236 (λ_=>[])
theorem aQK:aG prog 212 [.int .u64 0] (vI 0):=bC func212 (λ_=>[aQJ.at 7])
theorem aQL:aG prog 183 [.slice none 0 0,Jf] (.tuple #[]):=bC func183 (λ_=>[aQK.at 11,aQI.at 13])
theorem aQM{l:e_}(c7:1<=m)(hm:8*m+24<=aE)(hl:∀ v∈l,aF m v)(h63:l.length<4611686018427387904){x:m_}(ho:dF o.op=some x)(k:Nat):
  cI prog Bs o [.func (.func 183) #[] #[],sl k l.length,Jf] [(k,some (.row (aN l) 38 30))] (.tuple #[]) [(k,.row (aN (r8 l)) 38 30)]:=by
 letI:Inhabited (VS m):=⟨⟨_,W6 c7⟩⟩
 have hex:∀ l:e_,(∀ v∈l,aF m v)->∃ l2:List (VS m),l2.map VS.v=l:=by
  intro l;induction l with
  |nil=>exact λ_=>⟨[],rfl⟩
  |cons a l ih=>
   intro h;obtain⟨l2,h2⟩:=ih λv hv=>h v (bI _ hv);exact⟨⟨a,h a (aR ..)⟩::l2,by rw[oZ,h2]⟩
 obtain⟨l2,h2⟩:=hex l hl;obtain⟨l3,h3⟩:=hex (r8 l) λv hv=>hl v ((Mq l).mem_iff.1 hv);have Vt:∀ a b:VS m,a.v=b.v->a=b:=λa b h=>VS.ext' h;have jL:∀ l2:List (VS m),dB QV l2=aN (l2.map VS.v):=by intro l2;unfold aN cU dB;rw[Tt,List.flatMap_map];rfl
 have hlen:l2.length=l.length:=by rw[<-h2,dQ]
 have:=aNs (P:=prog) (B:=Bs) (l:=l2) (l':=l3) (o:=o) (x:=x) (ty:=38) (lt:=Mr) (g:=Jf) W5 d_ (aQG c7 hm l2 o_) k_ ho k_ k (λ_=>aQL) λd hd hs=>by
  have aQN:∀ a b:List (VS m),a.map VS.v=b.map VS.v->a=b:=by intro a b h;exact List.map_inj_right (λx y=>Vt x y) |>.1 h
  refine aQN _ _ ?_;rw[h3];refine aQC ?_ ?_
  ·rw[<-h2];exact hd.map _
  ·rw[List.pairwise_map,W8];intro i j hi hj nh;have:=hs i j nh hj _ _ (aW hi) (aW hj);exact aEM.1 this
 rw[jL,jL,h2,h3,hlen]at this;exact this
theorem W9(hm:10000000*(m+10)<=aE):1<=10000*(m+10)/\8*(10000*(m+10))+24<=aE/\10000*(m+10)<=aE:=by omega
def aZ(ps:c_):e_:=Lx (nH ps ps.length)
theorem aEN(l:e_):dd (l.map cH)=(dd l).map cH:=aEB (λ_ _ h=>PO h) l
theorem aQO(cq:∀ p∈ps,bP m p)(hm:10000000*(m+10)<=aE)(h63:ps.length<=500)(mh:∀ p q:HS K,eH p q≠0->dot (eH p q) (eH p q)≠0):
  lO prog 143 [fV ps] 38 30 (aZ ps).length (aN (aZ ps)):=by
 have aC:([fV ps].all aP.ok)=true:=by simp only[eC,e7,fV,aP.ok,dx,iA]
 have bH:=aEL cq mh ps.length;have hl:=Qc ps.length (bF _) (ps:=ps);have jr:ps.length*(2*ps.length)<=500*1000:=xB o_ o_;have lT:(nH ps ps.length).length<=500000:=dh hl jr;clear hl jr;have lo:=λBs=>aNe (Bs:=Bs) cq hm h63 mh;have hv:aZ ps=dd (r8 (nH ps ps.length)):=(aEK _).symm;rw[hv];generalize nH ps ps.length=l at *;obtain⟨b1,b2,b3⟩:=W9 hm;have st:=λBs (o:Oper) x ho=>aQM (Bs:=Bs) (o:=o) (x:=x) (l:=l) (m:=10000*(m+10)) b1 b2 bH (eZ lT d_) ho 1;have hp:=Mq l;have Me:(r8 l).length=l.length:=hp.length_eq;have dN:=aQx (l:=(r8 l).map cH) (λx hx=>by obtain⟨v,hv,rfl⟩:=db.1 hx;exact(bH v (hp.mem_iff.1 hv)).sm b3) (by rw[dQ,Me];exact eZ lT d_)
 rw[dQ,Me,aEN,dQ]at dN;have hz:∃ t,cU (Jd ((r8 l).map cH))=aN (dd (r8 l))++cU t:=⟨_,by unfold Jd;rw[aEN];exact LF _ _⟩;obtain⟨t,hz⟩:=hz;unfold lV at dN;rw[hz]at dN;change yi prog _ 2 _ [(1,.row (aN (r8 l)) 38 30)] _ _ _ at dN;have hlen:(aN (dd (r8 l))).length=(dd (r8 l)).length*30:=pY _;generalize dd (r8 l)=d at *;generalize hS:r8 l=s at *;intro w vs cC;obtain⟨ι,c,h1,h2,h3,h4,h5,h6,h7⟩:=x8 cC (bB.1 aC) 0 _ _ (ub w) n_ (λ_ _=>rfl);refine u9 (ms:=[(1,.row (aN d++cU t) 38 30)]) (v:=sl 1 d.length) mixed func143 (N:=42) k_ 100 (rs:=[.code 0 _ _ _ _ _ (lo _),.step 39 (au f143 39) _ _ _ _ (st _ _ (.func 183) k_),.step 41 (au f143 41) _ _ _ _ (LC (args:=[sl 1 l.length]) (ca:=[]) (x:=.func 185) dN k_ k_ k_ k_ ?_ ?_ k_ k_ k_ k_)]) k_ h6 h2 h4 h3 λaA ct v' w' hle hc hm dP=>⟨v',rfl,?_,hm.base⟩
 ·show((Nat.blt 1 2&&mO 2 (1,.row (aN s) 38 30))&&true)=true;rw[yk (x:=.row (aN s) 38 30) λv hv=>bB.1 (dC s) v hv];rfl
 ·show(mO 2 (1,.row (aN d++cU t) 38 30)&&true)=true;rw[yk (x:=.row (aN d++cU t) 38 30) λv hv=>(eX.1 hv).elim (λh=>bB.1 (dC d) v h) λh=>LG gm t v h];rfl
 ·have:=xm hm (dP (1,_) (aR ..)) hc (by rw[lF];omega) λv hv=>by
   rcases eX.1 hv with h|h
   ·exact bB.1 (dC d) v h
   ·exact LG gm t v h
  rwa[<-hlen,Sa]at this;rfl
end
section
open V3 (dot af bA smul)
theorem Mt(l:l_):∀ v∈av l,v.oneCell'=true:=λv hv=>by obtain⟨x,_,rfl⟩:=db.1 hv;rfl
theorem aQP(l m:l_):av l++av m=av (l++m):=by simp[av]
theorem QW{l:l_}(h:l.length=0):av l=[]:=by rw[k8 h];rfl
def GR(l:l_):aP:=.r l.length (av l)
theorem Xa(l:l_):(GR l).ok=true:=iJ l
theorem aQQ{l:l_}(hl:0<l.length)(h63:l.length<=1000000):lO prog 216 [GR l] 3 1 l.length (av l):=
 x9 (k:=2) mixed func216 (by simp only[eC,e7,Xa,iA]) 100 (N:=8) k_ (λ_=>[.step 4 (au f216 4) [sl 0 l.length,.slice none 0 0] [] a_ [] (aC4 k_ hl),.LW f216 5 1 3 1 (vI 0) k_,.pP f216 7 2 1 0 l.length l.length 3 1 8 [] 0 (.view (av l)) (av l) o_ rfl (by rw[gP];exact od l) rfl rfl (Mt l) d_ (by simp[maxLen];omega) o_ k_]) (λ_=>k_) (iJ l) (by rw[od];omega)
theorem Ez(ps:c_):(bf ps).length=ps.length*40:=by unfold bf;rw[uy jS,dQ]
theorem aEO(ps:c_):∀ v∈bf ps,v.oneCell'=true:=λv hv=>by unfold bf dw dB at hv;rw[wI]at hv;obtain⟨x,_,hx⟩:=hv;exact jS.one x v hx
theorem aQR(hl:0<ps.length)(h63:ps.length<=1000000):lO prog 145 [fV ps] 50 40 ps.length (bf ps):=
 x9 (k:=2) mixed func145 (by simp only[eC,e7,fV,aP.ok,dx,iA]) 100 (N:=8) k_ (λ_=>[.step 4 (au f145 4) [sl 0 ps.length,.slice none 0 0] [] a_ [] (aC4 k_ hl),.LW f145 5 1 50 40 (RP.v ⟨rf,tJ⟩) k_,.pP f145 7 2 1 0 ps.length ps.length 50 40 480 [] 0 (.view (bf ps)) (bf ps) o_ rfl (Ez ps) rfl rfl (aEO ps) d_ (by simp[maxLen];omega) o_ k_]) (λ_=>k_) (dx ps) (Ez ps)
def oh(l:l_)(i:Nat):List Nat:=(List.range l.length).map λt=>if t<i\/l.length<=t+i then l.getD (l.length-1-t) 0 else l.getD t 0
theorem Xb(l:l_)(i:Nat):(oh l i).length=l.length:=by simp[oh]
theorem aQS(l:l_):oh l 0=l:=by
 apply xt
 ·simp[oh]
 ·intro t h1 h2;have:¬(l.length<=t):=by omega
  simp[oh,this,h2]
theorem aEP{l:l_}{t:Nat}(h1:i<=t)(h2:t+i<l.length):(oh l i)[t]?=some (l.getD t 0):=by
 have:¬(t<i\/l.length<=t+i):=by omega
 simp[oh,show t<l.length by omega,this]
theorem aQT{l:l_}(h:i+(i+1)<l.length):((oh l i).set i (l.getD (l.length-1-i) 0)).set (l.length-1-i) (l.getD i 0)=oh l (i+1):=by
 apply xt
 ·simp[oh]
 ·intro t h1 h2;rw[Xb]at h2;rw[HA,HA];simp only[oh,C9,Da];by_cases e1:l.length-1-i=t
  ·subst e1;rw[aB rfl,aB o_]
   congr 1;omega
  ·rw[az e1];by_cases e2:i=t
   ·subst e2;rw[aB rfl,aB o_]
   ·rw[az e2];by_cases e3:t<i\/l.length<=t+i
    ·rw[aB e3,aB o_]
    ·rw[az e3,az o_]
theorem aQU{l:l_}(h:l.length<=i+(i+1))(h2:i+i<=l.length):oh l i=l.reverse:=by
 apply xt
 ·simp[oh]
 ·intro t h1 h3;rw[Xb]at h1;rw[List.getElem_reverse];simp only[oh,C9,Da];split
  ·rw[E1,aW o_];rfl
  ·have:t=l.length-1-t:=by omega
   rw[E1,aW o_];simp only[Option.getD_some]
   congr 1
section
variable{Bs:aa}{l:l_}
def QX(n i:Nat):aT:=[(2,vI i),(3,vI (n-1-i)),(0,sl 5 n)]
def yG(l:l_):aM:=[(5,.row (av l) 3 1)]
theorem aQV{n:Nat}(hn:l.length=n)(hi:i+(i+1)<n)(h63:n<4611686018427387904):
  ah prog Bs 28 (aI (ag f217 0)) (QX n i) (yG (oh l i)) 6 ⟨.normal,QX n (i+1),yG (oh l (i+1)),6⟩:=by
 have g1:=aEP (l:=l) (i:=i) (t:=n-1-i) o_ o_;have g2:=aEP (l:=l) (i:=i) (t:=i) o_ o_;have hlen:=Xb l i;have v7:=aQT (l:=l) (i:=i) o_;rw[hn]at v7 hlen;generalize l.getD (n-1-i) 0=y at *;generalize l.getD i 0=x at *;generalize oh l i=r at *;rw[<-v7];have s1:=wP (l:=r) (i:=i) (d:=y) o_;have s2:=wP (l:=r.set i y) (i:=n-1-i) (d:=x) (by rw[Wt];omega);exact aD [.lt 9 i (n-1-i) true (by simp;omega),.ix f217 20 5 n (n-1-i) o_ k_,.ld f217 21 3 5 (n-1-i) (.row (av r) 3 1) (vI y) rfl (ew g1) k_,.ix f217 24 5 n i o_ k_,.ld f217 25 3 5 i (.row (av r) 3 1) (vI x) rfl (ew g2) k_,.ix f217 26 5 n i o_ k_,.st f217 100026 3 5 i (.row (av r) 3 1) (vI y) (.row (av (r.set i y)) 3 1) rfl s1 rfl k_,.ix f217 27 5 n (n-1-i) o_ k_,.st f217 100027 3 5 (n-1-i) (.row (av (r.set i y)) 3 1) (vI x) (.row (av ((r.set i y).set (n-1-i) x)) 3 1) rfl s2 rfl k_,.sum 11 i 1 (i+1) rfl o_,.fq 13 (n-1-i) 1 (n-1-(i+1)) o_ o_]
theorem aQW{n:Nat}(hn:l.length=n)(h0:0<n)(h63:n<4611686018427387904):
  ah prog Bs 28 (.block 0 (ag f217 0)) (QX n 0) (yG l) 6 ⟨.normal,[],yG l.reverse,6⟩:=by
 have vu:l.reverse=oh l (n/2):=(aQU o_ o_).symm
 have:=cx (P:=prog) (B:=Bs) (N:=28) (b:=aI (ag f217 0)) (next:=6) (n/2) (λi=>QX n i) (λi=>yG (oh l i)) (r:=⟨.exit 0,[],yG l.reverse,6⟩) (λi k _=>kk (l:=yG (oh l i)) (m:=yG (oh l 0)) rfl k)
  (λi hi=>aQV hn o_ h63)
  (by rw[<-vu];generalize l.reverse=r;exact aD [.lt 9 (n/2) (n-1-n/2) false (by simp;omega)]) n_
 rw[aQS]at this;exact cd (id:=0) this
theorem aQX{l:l_}(h0:0<l.length)(h63:l.length<=1000000):yi prog 217 6 [sl 5 l.length] (yG l) [] (.tuple #[]) (yG l.reverse):=
 oL mixed func217 100 (N:=28) k_ (λB=>[.fq 6 l.length 1 (l.length-1) o_ o_,.code 0 _ _ _ _ _ (aQW rfl h0 o_)]) (λ_=>k_)
end
theorem Xc(ps:c_):(fV ps).ok=true:=dx ps
theorem aEQ(vs:e_):(oM vs).ok=true:=dC vs
theorem aQY(vs:e_):(aP.b vs.length (aN vs)).ok=true:=dC vs
theorem aQZ(v:V3 K):(aP.q (cH v).cs).ok=true:=bB.2 (RV.nY _)
theorem aQ0(v:V3 K):(aP.p (bE v)).ok=true:=rfl
theorem aWn(p:HS K):(aP.p (dJ p)).ok=true:=rfl
def aw(vs:e_)(i:Nat):V3 K:=(vs[i]?).getD 0
theorem jU(h:i<vs.length):vs[i]?=some (aw vs i):=by unfold aw;rw[aW h];rfl
theorem aER:0<x↔OF.aH x>0:=by rw[OF.gj];rcases OF.ja x with h|h|h<;>rw[h]<;>decide
def yH(n:V3 K)(pt:Nat->V3 K)(p:Nat):List Nat->Nat
 |b::a::st=>if 0<turn n (pt a) (pt b) (pt p)then 0 else yH n pt p (a::st)+1
 |_=>0
theorem QY(n:V3 K)(pt:Nat->V3 K)(p:Nat):∀ st:List Nat,pop n pt p st=st.drop (yH n pt p st)
 |[]=>rfl
 |[a]=>rfl
 |b::a::st=>by
  unfold pop yH;split
  ·rfl
  ·exact QY n pt p (a::st)
theorem aES(n:V3 K)(pt:Nat->V3 K)(p:Nat):∀(st:l_) (d:Nat),d<yH n pt p st->∃ b a fK,st.drop d=b::a::fK/\¬0<turn n (pt a) (pt b) (pt p)
 |[],d,h=>by simp[yH]at h
 |[a],d,h=>by simp[yH]at h
 |b::a::st,d,h=>by
  unfold yH at h;split at h
  ·omega
  ·rename_i ht;cases d with
   |zero=>exact⟨b,a,st,rfl,ht⟩
   |succ d=>exact aES n pt p (a::st) d o_
theorem aET(n:V3 K)(pt:Nat->V3 K)(p:Nat):∀(st:l_),(∃ b a fK,st.drop (yH n pt p st)=b::a::fK/\0<turn n (pt a) (pt b) (pt p))\/(st.drop (yH n pt p st)).length<=1
 |[]=>.inr (lG _)
 |[a]=>.inr (bF _)
 |b::a::st=>by
  unfold yH;split
  ·rename_i ht;exact .inl ⟨b,a,st,rfl,ht⟩
  ·exact aET n pt p (a::st)
section
variable{Bs:aa}{vs:e_}{nn:V3 K}{l:l_}
def pB(l:l_)(vs:e_)(nn:V3 K):aM:=[(0,.view (av l)),(1,.view (aN vs)),(2,.view [sl 1 vs.length]),(3,.view (cH nn).cs)]
def mB(st:l_):List Obj:=[.row (av st.reverse) 3 1]
def EA(p L:Nat):aT:=[(7,vI p),(5,sl 4 L),(1,bN 2),(2,bN 3)]
def QZ(n i L:Nat):aT:=[(12,vI i),(10,sl 0 n),(11,vI n),(5,sl 4 L),(1,bN 2),(2,bN 3)]
theorem aEU(hm:4<=m):∀ x∈pB l vs nn,fE m x.2:=λx hx=>by
 simp only[pB,cD,jE,jF]at hx;rcases hx with rfl|rfl|rfl|rfl
 ·exact λv hv=>iH (mT l v hv)
 ·exact λv hv=>iH (bB.1 (dC vs) v hv)
 ·intro v hv;have:v=sl 1 vs.length:=by simpa[Obj.cells]using hv
  subst this;show Hv m ⟨1,0,some 7⟩=true;unfold Hv;simp;omega
 ·exact λv hv=>iH (RV.nY _ v hv)
theorem aQ1{st:l_}:∀ x∈mB st,fE m x:=λx hx=>by simp only[mB,cD,jE,jF]at hx;subst hx;exact λv hv=>iH (mT _ v hv)
theorem aEV(hm:5<=m){st:l_}:∀ x∈pB l vs nn++marks 4 (mB st),fE m x.2:=λx hx=>by
 rcases eX.1 hx with h|h
 ·exact aEU o_ x h
 ·simp only[mB,marks,cD,jE,jF]at h;subst h;exact λv hv=>iH (mT _ v hv)
noncomputable def hiS{p:Nat}{r:l_}(hL:r.length=L+2)(ha:r[L]?=some a)(hb:r[L+1]?=some b)(lB:a<vs.length)(lL:b<vs.length)(sj:p<vs.length)(aU:∀ v∈vs,aF q v)(hn:aF m nn)(hm:100*(m+q)+1000<=aE)(h63:L<1000000)
  (ht:decide (OF.aH (turn nn (aw vs a) (aw vs b) (aw vs p))>0)=t) (more:bM prog Bs 66):bM prog Bs 66:=
 have sa:=aU _ (cL (jU lB));have sb:=aU _ (cL (jU lL));have sp:=aU _ (cL (jU sj))
 .gt 18 (L+2) 1 true s_::.fq 23 (L+2) 2 L rfl o_::.ix f215 24 4 (L+2) L o_ k_::.ld f215 25 3 4 L (.row (av r) 3 1) (vI a) rfl (ew ha) k_::
  .c8 f215 26 1 vs.length a 30 lB k_::.ld f215 27 38 1 (a*30) (.view (aN vs)) (bE (aw vs a)) rfl (ke (jU lB)) k_::.fq 32 (L+2) 1 (L+1) rfl o_::.ix f215 33 4 (L+2) (L+1) o_ k_::
  .ld f215 34 3 4 (L+1) (.row (av r) 3 1) (vI b) rfl (ew hb) k_::.c8 f215 35 1 vs.length b 30 lL k_::.ld f215 36 38 1 (b*30) (.view (aN vs)) (bE (aw vs b)) rfl (ke (jU lL)) k_::
  (yg sb sa o_).at 40::.c8 f215 43 1 vs.length p 30 sj k_::.ld f215 44 38 1 (p*30) (.view (aN vs)) (bE (aw vs p)) rfl (ke (jU sj)) k_::(yg sp sa o_).at 46::
  (tu (sb.sub sa) (sp.sub sa) o_).at 47::(qP hn ((sb.sub sa).af (sp.sub sa)) o_).at 48::(nF (hn.dot ((sb.sub sa).af (sp.sub sa))) o_).at 49::
  .rw 50 (.bool (decide (OF.aH (dot nn (af (aw vs b-aw vs a) (aw vs p-aw vs a)))>0))) (.bool t) (by rw[<-ht];rfl)::more
theorem aEW{st fK:l_}(h:st=b::a::fK):st.reverse.length=fK.length+2/\st.reverse[fK.length]?=some a/\st.reverse[fK.length+1]?=some b/\st.reverse.take (fK.length+1)=(a::fK).reverse:=by
 subst h;have e:(b::a::fK).reverse=fK.reverse++[a,b]:=by simp
 rw[e];refine⟨by simp,?_,?_,?_⟩
 ·rw[E2 s_];simp
 ·rw[E2 s_];simp
 ·rw[aCE];simp[kG]
theorem aEX(l:l_)(m:Nat):(av l).take (m*1)=av (l.take m):=by rw[gP];simp[av,C8]
theorem aQ2{st fK:l_}{p:Nat}(bT:st=b::a::fK)(bh:∀ x∈st,x<vs.length)(sj:p<vs.length)(aU:∀ v∈vs,aF q v)(hn:aF m nn)(hm:100*(m+q)+1000<=aE)(h63:st.length<1000000)
  (ht:¬0<turn nn (aw vs a) (aw vs b) (aw vs p)):ah prog Bs 66 (aI (ag f215 2)) (EA p st.length) (pB l vs nn++marks 4 (mB st)) 5 ⟨.normal,EA p (a::fK).length,pB l vs nn++marks 4 (mB (a::fK)),5⟩:=by
 obtain⟨r1,r2,r3,r4⟩:=aEW bT;have lB:=bh a (by rw[bT];simp);have lL:=bh b (by rw[bT];simp);have hl:st.length=fK.length+2:=by rw[bT];rfl
 have hd:decide (OF.aH (turn nn (aw vs a) (aw vs b) (aw vs p))>0)=false:=bd λh=>ht (aER.2 h);have GK:(av st.reverse).take ((fK.length+1)*1)=av (a::fK).reverse:=by rw[aEX,r4]
 have dG:=aEV (l:=l) (vs:=vs) (nn:=nn) (m:=5) (bF _) (st:=a::fK);unfold mB at *;rw[hl]at h63 ⊢;rw[show(a::fK).length=fK.length+1 from rfl];generalize st.reverse=r at *;generalize (a::fK).reverse=r' at *;exact ua mixed 100 (gN:=7) (hiS r1 r2 r3 lB lL sj aU hn hm o_ hd [.fq 54 (fK.length+2) 1 (fK.length+1) rfl o_,.cut f215 55 4 (fK.length+2) (fK.length+1) ((fK.length+1)*1) 1 1 3 (av r) (av r') o_ GK k_]) k_ rfl k_ dG k_
theorem aQ3{st:l_}{p:Nat}(bh:∀ x∈st,x<vs.length)(sj:p<vs.length)(aU:∀ v∈vs,aF q v)(hn:aF m nn)(hm:100*(m+q)+1000<=aE)(h63:st.length<1000000)
  (h:(∃ b a fK,st=b::a::fK/\0<turn nn (aw vs a) (aw vs b) (aw vs p))\/st.length<=1):ah prog Bs 66 (aI (ag f215 2)) (EA p st.length) (pB l vs nn++marks 4 (mB st)) 5 ⟨.exit 2,EA p st.length,pB l vs nn++marks 4 (mB st),5⟩:=by
 have dG:=aEV (l:=l) (vs:=vs) (nn:=nn) (m:=5) (bF _) (st:=st);rcases h with ⟨b,a,fK,bT,ht⟩|h
 ·obtain⟨r1,r2,r3,r4⟩:=aEW bT;have lB:=bh a (by rw[bT];simp);have lL:=bh b (by rw[bT];simp);have hl:st.length=fK.length+2:=by rw[bT];rfl
  have hd:decide (OF.aH (turn nn (aw vs a) (aw vs b) (aw vs p))>0)=true:=aJ (aER.1 ht);unfold mB at *;rw[hl]at h63 ⊢;generalize st.reverse=r at *;exact ua mixed 100 (gN:=7) (hiS r1 r2 r3 lB lL sj aU hn hm o_ hd []) k_ rfl k_ dG k_
 ·exact aD [.gt 18 st.length 1 false (by simp;omega)]
theorem aEY{st:l_}{n:Nat}(h:∀ x∈st,x<n):∀ x∈st.drop d,x<n:=λx hx=>h x (Xd hx)
theorem aQ4{st:l_}{p:Nat}(bh:∀ x∈st,x<vs.length)(sj:p<vs.length)(aU:∀ v∈vs,aF q v)(hn:aF m nn)(hm:100*(m+q)+1000<=aE)(h63:st.length<1000000):
  ah prog Bs 66 (.block 2 (ag f215 2)) (EA p st.length) (pB l vs nn++marks 4 (mB st)) 5 ⟨.normal,EA p (pop nn (aw vs) p st).length,pB l vs nn++marks 4 (mB (pop nn (aw vs) p st)),5⟩:=by
 have hlen:∀ d,(st.drop d).length<1000000:=λd=>by rw[vV];omega
 have:=cx (P:=prog) (B:=Bs) (N:=66) (b:=aI (ag f215 2)) (next:=5) (yH nn (aw vs) p st) (λd=>EA p (st.drop d).length) (λd=>pB l vs nn++marks 4 (mB (st.drop d)))
  (r:=⟨.exit 2,EA p (pop nn (aw vs) p st).length,pB l vs nn++marks 4 (mB (pop nn (aw vs) p st)),5⟩) (λi k _=>kk (l:=pB l vs nn++marks 4 (mB (st.drop i))) (m:=pB l vs nn++marks 4 (mB (st.drop 0))) rfl k)
  (λd hd=>by
   obtain⟨b,a,fK,h1,h2⟩:=aES nn (aw vs) p st d hd;have h3:st.drop (d+1)=a::fK:=by rw[<-N2,h1];rfl
   rw[h3];exact aQ2 h1 (aEY bh) sj aU hn hm (hlen d) h2)
  (by rw[QY];exact aQ3 (aEY bh) sj aU hn hm (hlen _) (aET nn (aw vs) p st)) n_
 exact cd (id:=2) this
def bT(nn:V3 K)(vs:e_)(l:l_)(i:Nat):List Nat:=half nn (aw vs) (l.take i)
theorem aEZ{p:Nat}(h:l[i]?=some p):bT nn vs l (i+1)=p::pop nn (aw vs) p (bT nn vs l i):=by unfold bT half;rw[tA,h,Option.toList,aCS];rfl
theorem aQ5(n:V3 K)(pt:Nat->V3 K)(p:Nat)(st:l_):∀ x∈pop n pt p st,x∈st:=λx hx=>by rw[QY]at hx;exact Xd hx
theorem aE0(n:V3 K)(pt:Nat->V3 K)(p:Nat)(st:l_):(pop n pt p st).length<=st.length:=by rw[QY,vV];omega
theorem Mu:∀ i,i<=l.length->(∀ x∈bT nn vs l i,x∈l)/\(bT nn vs l i).length<=i
 |0,_=>⟨λx hx=>by simp[bT,half]at hx,bF _⟩
 |i+1,h=>by
  obtain⟨h1,h2⟩:=Mu i o_;have hp:l[i]?=some l[i]:=aW o_;rw[aEZ hp];refine⟨λx hx=>?_,?_⟩
  ·rcases cD.1 hx with rfl|hx
   ·exact df o_
   ·exact h1 x (aQ5 _ _ _ _ x hx)
  ·have:=aE0 nn (aw vs) l[i] (bT nn vs l i);rw[qm];omega
theorem aQ6{p:Nat}{st:l_}(hi:i<l.length)(hp:l[i]?=some p)(bh:∀ x∈st,x<vs.length)(sj:p<vs.length)(aU:∀ v∈vs,aF q v)(hn:aF m nn)(hm:100*(m+q)+1000<=aE)(h63:st.length<900000)(rh:l.length<1000000):
  ah prog Bs 66 (aI (ag f215 0)) (QZ l.length i st.length) (pB l vs nn++marks 4 (mB st)) 5
   ⟨.normal,gH 4 [some 6] (QZ l.length (i+1) (p::pop nn (aw vs) p st).length),pB l vs nn++dT [some 6] (mB (p::pop nn (aw vs) p st)),7⟩:=by
 have lo:=aQ4 (Bs:=Bs) (l:=l) bh sj aU hn hm (show st.length<1000000 by omega);have Me:=aE0 nn (aw vs) p st;generalize pop nn (aw vs) p st=r at *;have hr:av r.reverse++[vI p]=av (p::r).reverse:=by simp[av]
 have EB:(av r.reverse).length=r.length*1:=by rw[od,GS,gP]
 have h1:=Mt r.reverse;unfold mB at *;rw[show(p::r).length=r.length+1 from rfl];generalize st.reverse=s0 at *;generalize av r.reverse=c0 at *;generalize av (p::r).reverse=c1 at *;exact aD [.lt 13 i l.length true (aJ hi),.ix f215 14 0 l.length i hi k_,.ld f215 15 3 0 i (.view (av l)) (vI p) rfl (ew hp) k_,.code 2 _ _ _ _ _ lo,.bs f215 58 5 1 3 1 [0] (vI 0) [vI p] #[vI p] (.row [vI p] 3 1) rfl (λv hv=>by simp at hv;subst hv;rfl) (λv hv=>by simp at hv;subst hv;rfl) k_ rfl d_ d_ k_,.pP f215 59 6 4 r.length 1 (r.length+1) 3 1 8 c0 5 (.row [vI p] 3 1) c1 rfl rfl rfl EB hr (λv hv=>by simp[Obj.cells]at hv;subst hv;rfl) d_ (by simp[maxLen];omega) o_ k_,.sum 60 i 1 (i+1) rfl o_]
theorem aQ7(bh:∀ x∈l,x<vs.length)(aU:∀ v∈vs,aF q v)(hn:aF m nn)(hm:100*(m+q)+1000<=aE)(h63:l.length<900000):
  ah prog Bs 66 (.block 0 (ag f215 0)) (gH 4 [none] (QZ l.length 0 0)) (pB l vs nn++dT [none] (mB [])) 4 ⟨.normal,[(5,sl 4 (half nn (aw vs) l).length)],pB l vs nn++marks 4 (mB (half nn (aw vs) l)),5⟩:=by
 have El:bT nn vs l l.length=half nn (aw vs) l:=by unfold bT;rw[n9]
 have:=qF (P:=prog) (B:=Bs) (N:=66) (b:=aI (ag f215 0)) (next:=4) (p:=1) (r:=⟨.exit 0,[(5,sl 4 (half nn (aw vs) l).length)],pB l vs nn++marks 4 (mB (half nn (aw vs) l)),5⟩) l.length
  (λi=>QZ l.length i (bT nn vs l i).length) (λ_=>pB l vs nn) (λi=>mB (bT nn vs l i)) [none] (λ_ _=>rfl) (λj _=>⟨aEU (bF _),aQ1⟩) k_ k_
  (λi hi=>by have hp:l[i]?=some l[i]:=aW hi;obtain⟨f1,f2⟩:=Mu (nn:=nn) (vs:=vs) (l:=l) i o_;refine⟨[some 6],7,k_,?_⟩;rw[aEZ hp];exact aQ6 hi hp (λx hx=>bh x (f1 x hx)) (bh _ (df hi)) aU hn hm o_ o_)
  (by rw[El];generalize half nn (aw vs) l=a;exact aD [.lt 13 l.length l.length false s_]) n_
 exact cd (id:=0) this
theorem aQ8(nn:V3 K)(pt:Nat->V3 K){l:l_}(h:l≠[]):half nn pt l≠[]:=by
 have:∀(l st:l_),st≠[]->l.foldl (λst p=>p::pop nn pt p st) st≠[]:=by
  intro l;induction l with
  |nil=>exact λ_ h=>h
  |cons a l ih=>exact λst _=>ih _ n_
 cases l with
 |nil=>exact absurd rfl h
 |cons a l=>exact this l _ n_
def kL(nn:V3 K)(vs:e_)(l:l_):List Nat:=(half nn (aw vs) l).tail.reverse
theorem aE1(tW:0<l.length)(bh:∀ x∈l,x<vs.length)(aU:∀ v∈vs,aF q v)(hn:aF m nn)(hm:100*(m+q)+1000<=aE)(h63:l.length<900000):
  lO prog 215 [GR l,.b vs.length (aN vs),.q (cH nn).cs] 3 1 (kL nn vs l).length (av (kL nn vs l)):=by
 have aC:([GR l,.b vs.length (aN vs),.q (cH nn).cs].all aP.ok)=true:=by simp only[eC,e7,Xa,aQY,aQZ,Au]
 have lo:=λBs=>aQ7 (Bs:=Bs) bh aU hn hm h63;have bw:=aQ8 nn (aw vs) (l:=l) (λe=>by rw[e]at tW;cases tW);have hlen:(half nn (aw vs) l).length<=l.length:=by have:=(Mu (nn:=nn) (vs:=vs) (l:=l) l.length (bF _)).2;unfold bT at this;rwa[n9]at this
 unfold kL;cases hh:half nn (aw vs) l with
 |nil=>exact absurd hh bw
 |cons a st=>
  rw[hh]at lo hlen;simp only[List.tail_cons,GS];have GK:(av (a::st).reverse).take (st.length*1)=av st.reverse:=by rw[aEX,wG,Sa s_]
  unfold mB at lo;rw[show(a::st).length=st.length+1 from rfl]at lo hlen;have hx:=iJ st.reverse;have Xe:(av st.reverse).length=st.length*1:=by rw[od,GS,gP]
  generalize av (a::st).reverse=c0 at *;generalize av st.reverse=c1 at *;exact x9 (k:=4) mixed func215 aC 100 (N:=66) k_ (λ_=>[.code 0 _ _ _ _ _ (lo _),.fq 64 (st.length+1) 1 st.length rfl o_,.cut f215 65 4 (st.length+1) st.length (st.length*1) 1 1 3 c0 c1 o_ GK k_]) (λ_=>k_) hx Xe
end
theorem aE2(nn:V3 K)(vs:e_)(l:l_):order nn (aw vs) l=kL nn vs l++kL nn vs l.reverse:=rfl
theorem Xf{nn:V3 K}{l:l_}(tW:0<l.length)(bh:∀ x∈l,x<vs.length)(aU:∀ v∈vs,aF q v)(hn:aF m nn)(hm:100*(m+q)+1000<=aE)(h63:l.length<900000):
  lO prog 190 [oM vs,GR l,.p (bE nn)] 3 1 (order nn (aw vs) l).length (av (order nn (aw vs) l)):=by
 have aC:([oM vs,GR l,.p (bE nn)].all aP.ok)=true:=by simp only[eC,e7,Xa,aEQ,aQ0,Au]
 have h1:=aE1 tW bh aU hn hm h63;have h2:=aE1 (l:=l.reverse) (by simpa using tW) (λx hx=>bh x (Lo.1 hx)) aU hn hm (by simpa using h63);have hc:=aQQ tW o_;have hr:=aQX tW o_;rw[aE2];have e1:av (kL nn vs l)++av (kL nn vs l.reverse)=av (kL nn vs l++kL nn vs l.reverse):=aQP _ _;have bH:∀ l:List Nat,(∀ x∈l,x∈l)->(kL nn vs l).length<=l.length:=λl _=>by have:=(Mu (nn:=nn) (vs:=vs) (l:=l) l.length (bF _)).2;unfold bT at this;rw[n9]at this;unfold kL;rw[GS,List.length_tail];omega
 have s1:=bH l λ_ h=>h;have s2:=bH l.reverse λ_ h=>h;have g1:=od (kL nn vs l);have g2:=od (kL nn vs l.reverse);have o2:=Mt (kL nn vs l.reverse);have f3:=iJ (kL nn vs l++kL nn vs l.reverse);have g3:=od (kL nn vs l++kL nn vs l.reverse);have f1:=iJ (kL nn vs l);have f2:=iJ (kL nn vs l.reverse);rw[lF]at g3 ⊢;rw[GS]at s2;have hb:∀{l:l_},l.length=0->(Obj.view (av l)).cells=[]:=λh=>QW h;unfold yG at hr;have aE3:l.reverse.length=l.length:=GS ..;unfold GR at h2;rw[aE3]at h2;have ir:l.length=0->av l.reverse=[]:=λh=>QW (by rw[aE3];exact h);have irf:=iJ l.reverse;generalize (kL nn vs l).length=a1 at *;generalize (kL nn vs l.reverse).length=a2 at *;generalize av (kL nn vs l++kL nn vs l.reverse)=i3 at *;generalize av (kL nn vs l)=i1 at *;generalize av (kL nn vs l.reverse)=i2 at *;generalize av l.reverse=lr at *;exact x9 (k:=7) mixed func190 aC 100 (N:=23) k_ (λ_=>[
  .step 13 (au f190 13) [.func (.func 215) #[] #[bN 2,bN 3],sl 1 l.length] [(4,none),(1,some (.view (av l))),(2,some (.aK [sl 0 vs.length] 23)),(0,some (.view (aN vs))),(3,some (.aK (cH nn).cs 38))] (sl 4 a1) [(4,.row i1 3 1)]
   (aDm (vs:=[sl 1 l.length]) (ca:=[bN 2,bN 3]) h1 (.w (x:=.view (av l)) rfl (iJ l) hb (.b (x:=.view (aN vs)) (y:=.aK [sl 0 vs.length] 23) (cc:=0) rfl rfl rfl (dC vs) rU (.q (x:=.aK (cH nn).cs 38) rfl (bB.2 (RV.nY _)) .nil))) (x:=.tmp 11) k_ k_ f1 4),
  .step 15 (au f190 15) [.func (.func 216) #[] #[],sl 1 l.length] [(5,none),(1,some (.view (av l)))] (sl 5 l.length) [(5,.row (av l) 3 1)]
   (rS hc (.w (x:=.view (av l)) rfl (iJ l) hb .nil) (x:=.func 216) k_ k_ (iJ l) 5),
  .step 17 (au f190 17) [.func (.func 217) #[] #[],sl 5 l.length] [(5,some (.row (av l) 3 1))] (.tuple #[]) [(5,.row lr 3 1)]
   (LC (args:=[sl 5 l.length]) (ca:=[]) (x:=.func 217) hr k_ k_ k_ k_ (by
    show((Nat.blt 5 6&&mO 6 (5,.row (av l) 3 1))&&true)=true;rw[yk (x:=.row (av l) 3 1) λv hv=>mT l v hv];rfl) (by
    show(mO 6 (5,.row lr 3 1)&&true)=true;rw[yk (x:=.row lr 3 1) λv hv=>bB.1 irf v hv];rfl) k_ k_ k_ k_),.step 21 (au f190 21) [.func (.func 215) #[] #[bN 2,bN 3],sl 5 l.length] [(6,none),(5,some (.row lr 3 1)),(2,some (.aK [sl 0 vs.length] 23)),(0,some (.view (aN vs))),(3,some (.aK (cH nn).cs 38))] (sl 6 a2) [(6,.row i2 3 1)]
   (aDm (vs:=[sl 5 l.length]) (ca:=[bN 2,bN 3]) h2 (.w (x:=.row lr 3 1) rfl irf ir (.b (x:=.view (aN vs)) (y:=.aK [sl 0 vs.length] 23) (cc:=0) rfl rfl rfl (dC vs) rU (.q (x:=.aK (cH nn).cs 38) rfl (bB.2 (RV.nY _)) .nil))) (x:=.tmp 19) k_ k_ f2 6),
  .pP f190 22 7 4 a1 a2 (a1+a2) 3 1 8 i1 6 (.row i2 3 1) i3 rfl rfl (by rw[gP];exact g2) (by rw[gP];exact g1) e1 o2 d_ (by simp[maxLen];omega) o_ k_]) (λ_=>k_) f3 (by rw[gP];exact g3)
def ch(p:HS K)(vs:e_)(j:Nat):List Nat:=(List.range j).filter λk=>decide (dot p.n (aw vs k)-p.d=0)
theorem aE4(p:HS K)(vs:e_)(j:Nat):ch p vs (j+1)=ch p vs j++(if dot p.n (aw vs j)-p.d=0 then[j]else[]):=by
 unfold ch;rw[K0,List.filter_append]
 congr 1
 by_cases h:dot p.n (aw vs j)-p.d=0<;>simp[h]
theorem Xg{x:Nat}(h:x∈ch p vs j):x<j:=by unfold ch at h;rw[List.mem_filter,ki]at h;exact h.1
theorem Jg(p:HS K)(vs:e_)(j:Nat):(ch p vs j).length<=j:=by have:=List.length_filter_le (λk=>decide (dot p.n (aw vs k)-p.d=0)) (List.range j);rw[zx]at this;exact this
def qe(ps:c_)(vs:e_)(i:Nat)(p:HS K):List (Nat×List Nat):=
 if(ps.take i).any (λq=>decide (canon p=canon q))then[]
 else if(ch p vs vs.length).length<3 then[]
 else if(order p.n (aw vs) (ch p vs vs.length)).length>2 then[(i,order p.n (aw vs) (ch p vs vs.length))]else[]
def gW(ps:c_)(vs:e_)(i:Nat):List (Nat×List Nat):=match ps[i]? with|some p=>qe ps vs i p|none=>[]
def cN(ps:c_)(vs:e_)(n:Nat):List (Nat×List Nat):=(List.range n).flatMap (gW ps vs)
theorem Mv(ps:c_)(vs:e_)(n:Nat):cN ps vs (n+1)=cN ps vs n++gW ps vs n:=by unfold cN;rw[K0,VK];simp
theorem aQ9(ps:c_)(vs:e_)(i:Nat)(p:HS K):(qe ps vs i p).length<=1:=by
 unfold qe;split
 ·exact lG _
 ·split
  ·exact lG _
  ·split
   ·exact bF _
   ·exact lG _
theorem EC(ps:c_)(vs:e_):∀ n,(cN ps vs n).length<=n
 |0=>bF _
 |n+1=>by
  rw[Mv,lF];have h1:=EC ps vs n;have h2:(gW ps vs n).length<=1:=by
   unfold gW;split
   ·exact aQ9 _ _ _ _
   ·exact lG _
  omega
def eO(f:Nat×List Nat):Int×List Int:=((f.1:Int),f.2.map λx:Nat=>(x:Int))
section
variable{Bs:aa}{ps:c_}{vs:e_}
def Mw(nv j L:Nat):aT:=[(26,vI j),(24,sl 1 nv),(25,vI nv),(7,bN 3),(8,sl 4 L)]
def AQ(vs:e_)(p:HS K):aM:=[(1,.view (aN vs)),(3,.aK (c9 p).cs 50)]
def ky(l:l_):List Obj:=[.row (av l) 3 1]
theorem aRa:∀ x∈AQ vs p,fE m x.2:=λx hx=>by
 simp only[AQ,cD,jE,jF]at hx;rcases hx with rfl|rfl
 ·exact λv hv=>iH (bB.1 (dC vs) v hv)
 ·exact λv hv=>iH (jS.flat _ v hv)
theorem Xh{l:l_}:∀ x∈ky l,fE m x:=λx hx=>by simp only[ky,cD,jE,jF]at hx;subst hx;exact λv hv=>iH (mT _ v hv)
theorem aRb{l:l_}(hj:j<vs.length)(hp:bP m p)(kv:p.n≠0)(aU:∀ v∈vs,aF q v)(hm:100*(m+q)+1000<=aE)(h63:l.length<900000)(rh:vs.length<1000000):
  ∃ σ gN,(∀ l0:List Nat,Dw (AQ vs p++dT [none] (ky l0)) 4 σ (Mw vs.length (j+1) (l++if dot p.n (aw vs j)-p.d=0 then[j]else[]).length) (AQ vs p) (ky (l++if dot p.n (aw vs j)-p.d=0 then[j]else[]))=true)/\
   ah prog Bs 59 (aI (ag f146 2)) (Mw vs.length j l.length) (AQ vs p++marks 4 (ky l)) 5 ⟨.normal,gH 4 σ (Mw vs.length (j+1) (l++if dot p.n (aw vs j)-p.d=0 then[j]else[]).length),AQ vs p++dT σ (ky (l++if dot p.n (aw vs j)-p.d=0 then[j]else[])),gN⟩:=by
 have hv:=jU hj;have hs:=Ly hp (aU _ (cL hv)) o_ kv;by_cases h:dot p.n (aw vs j)-p.d=0
 ·rw[aB h];have e:(Value.bool (OF.aH (dot p.n (aw vs j)-p.d)==0))=.bool true:=by rw[OF.OH.1 h];rfl
  have hr:av l++[vI j]=av (l++[j]):=by simp[av]
  have EB:(av l).length=l.length*1:=by rw[od,gP]
  have h1:=Mt l;rw[show(l++[j]).length=l.length+1 by simp];unfold ky;refine⟨[some 7],8,λl0=>k_,?_⟩;generalize OF.aH (dot p.n (aw vs j)-p.d)=z at *;generalize aw vs j=v at *;generalize av l=c0 at *;generalize av (l++[j])=c1 at *;exact aD [.lt 27 j vs.length true (aJ hj),.c8 f146 29 1 vs.length j 30 hj k_,.ld f146 30 38 1 (j*30) (.view (aN vs)) (bE v) rfl (ke hv) k_,hs.at 33,.rw 34 (.bool (z==0)) b_ e,.bs f146 37 6 1 3 1 [0] (vI 0) [vI j] #[vI j] (.row [vI j] 3 1) rfl (λv hv=>by simp at hv;subst hv;rfl) (λv hv=>by simp at hv;subst hv;rfl) k_ rfl d_ d_ k_,.pP f146 38 7 4 l.length 1 (l.length+1) 3 1 8 c0 6 (.row [vI j] 3 1) c1 rfl rfl rfl EB hr (λv hv=>by simp[Obj.cells]at hv;subst hv;rfl) d_ (by simp[maxLen];omega) o_ k_,.sum 39 j 1 (j+1) rfl o_]
 ·rw[az h,jO];have e:(Value.bool (OF.aH (dot p.n (aw vs j)-p.d)==0))=.bool false:=by
   congr 1
   have:OF.aH (dot p.n (aw vs j)-p.d)≠0:=λe=>h (OF.OH.2 e);simpa using this
  refine⟨[some 4],6,λl0=>k_,?_⟩;generalize OF.aH (dot p.n (aw vs j)-p.d)=z at *;generalize aw vs j=v at *;exact aD [.lt 27 j vs.length true (aJ hj),.c8 f146 29 1 vs.length j 30 hj k_,.ld f146 30 38 1 (j*30) (.view (aN vs)) (bE v) rfl (ke hv) k_,hs.at 33,.rw 34 (.bool (z==0)) a_ e,.sum 39 j 1 (j+1) rfl o_]
theorem Xi(hp:bP m p)(kv:p.n≠0)(aU:∀ v∈vs,aF q v)(hm:100*(m+q)+1000<=aE)(h63:vs.length<900000):
  ah prog Bs 59 (.block 2 (ag f146 2)) (gH 4 [none] (Mw vs.length 0 0)) (AQ vs p++dT [none] (ky [])) 4 ⟨.normal,[(8,sl 4 (ch p vs vs.length).length),(7,bN 3)],AQ vs p++marks 4 (ky (ch p vs vs.length)),5⟩:=by
 have:=qF (P:=prog) (B:=Bs) (N:=59) (b:=aI (ag f146 2)) (next:=4) (p:=1) (r:=⟨.exit 2,[(8,sl 4 (ch p vs vs.length).length),(7,bN 3)],AQ vs p++marks 4 (ky (ch p vs vs.length)),5⟩) vs.length
  (λj=>Mw vs.length j (ch p vs j).length) (λ_=>AQ vs p) (λj=>ky (ch p vs j)) [none] (λ_ _=>rfl) (λj _=>⟨aRa,Xh⟩) k_ k_
  (λj hj=>by have hl:=Jg p vs j;obtain⟨σ,gN,h1,h2⟩:=aRb (Bs:=Bs) (l:=ch p vs j) hj hp kv aU hm o_ o_;rw[aE4];exact⟨σ,gN,h1 _,h2⟩)
  (by generalize ch p vs vs.length=a;exact aD [.lt 27 vs.length vs.length false s_]) n_
 exact cd (id:=2) this
def fI(n nv i c:Nat):aT:=[(14,vI i),(12,sl 0 n),(13,vI n),(0,sl 0 n),(1,sl 1 nv),(5,sl 2 c)]
def fM(ps:c_)(vs:e_)(cells:ak):aM:=[(0,.view (bf ps)),(1,.view (aN vs)),(2,.row cells 47 2)]
def lW(ps:c_)(i:Nat)(p:HS K):Bool:=(ps.take i).any λq=>decide (canon p=canon q)
noncomputable def fS(hi:i<ps.length)(jn:ps[i]?=some p)(cq:∀ p∈ps,bP m p/\p.n≠0)(hm:100*m+1000<=aE)(h63:ps.length<=500)(ht:lW ps i p=t)(more:bM prog Bs 59):bM prog Bs 59:=
 .lt 15 i ps.length true (aJ hi)::.c8 f146 17 0 ps.length i 40 hi k_::.ld f146 18 50 0 (i*40) (.view (bf ps)) (dJ p) rfl (Av jn) k_::.upto f146 21 0 ps.length i 40 o_ k_::
  .step 23 (au f146 23) [.func (.func 139) #[] #[],sl 0 i,.func (.func 188) #[] #[bN 3]] [(0,some (.view (bf ps))),(3,some (.aK (c9 p).cs 50))] (.bool t) [] (by
   have hp:=cq p (cL jn);have hc:=VQ (g:=188) (caps:=(c9 p).cs) (ps:=ps.take i) (b:=λq=>decide (canon p=canon q)) k_ (bB.2 (jS.flat _)) (by rw[jK];omega) λq hq=>
    aMD hp.1 (cq q (IM hq)).1 o_ o_ hp.2 (cq q (IM hq)).2
   rw[show(ps.take i).any (λq=>decide (canon p=canon q))=t from ht]at hc;have hl:(ps.take i).length=i:=by rw[jK];omega
   have e:bf (ps.take i)=((Obj.view (bf ps)).cells.drop 0).take (i*40):=by show _=((bf ps).drop 0).take (i*40);rw[mI];unfold bf;rw[VM jS,<-C8]
   unfold fV at hc;rw[hl,e]at hc;exact dD hc (.r (x:=.view (bf ps)) rfl (dx ps) (λh=>by rw[h]) (.f (x:=.aK (c9 p).cs 50) rfl (bB.2 (jS.flat _)) .nil)) (x:=.func 139) k_ k_ rfl)::more
theorem aRc{c:Nat}{cells:ak}(hi:i<ps.length)(jn:ps[i]?=some p)(cq:∀ p∈ps,bP m p/\p.n≠0)(hm:100*m+1000<=aE)(h63:ps.length<=500)(ht:lW ps i p=true):
  ah prog Bs 59 (aI (ag f146 0)) (fI ps.length vs.length i c) (fM ps vs cells) 3 ⟨.normal,fI ps.length vs.length (i+1) c,fM ps vs cells,4⟩:=
 aD (fS hi jn cq hm h63 ht [.sum 57 i 1 (i+1) rfl o_])
theorem aRd{c:Nat}{cells:ak}(hi:i<ps.length)(jn:ps[i]?=some p)(cq:∀ p∈ps,bP m p/\p.n≠0)(aU:∀ v∈vs,aF q v)(hm:100*(m+q)+1000<=aE)(h63:ps.length<=500)(iW:vs.length<900000)(ht:lW ps i p=false)(ho:(ch p vs vs.length).length<3):
  ah prog Bs 59 (aI (ag f146 0)) (fI ps.length vs.length i c) (fM ps vs cells) 3 ⟨.normal,fI ps.length vs.length (i+1) c,fM ps vs cells,5⟩:=by
 have hp:=cq p (cL jn);have lo:=Xi (Bs:=Bs) hp.1 hp.2 aU hm iW;generalize ch p vs vs.length=on at *;exact aD (fS hi jn cq o_ h63 ht [.code 2 _ _ _ _ _ lo,.lt 42 on.length 3 true (aJ ho),.sum 57 i 1 (i+1) rfl o_])
noncomputable def fL{on l:l_}(hl:order p.n (aw vs) on=l)(hp:bP m p)(aU:∀ v∈vs,aF q v)(hm:100*(m+q)+1000<=aE)(iL:∀ x∈on,x<vs.length)(h3:0<on.length)(h63:on.length<900000):aY prog Bs 59:=
 .step 47 (au f146 47) [.func (.func 190) #[] #[],sl 1 vs.length,sl 4 on.length,bE p.n] [(5,none),(1,some (.view (aN vs))),(4,some (.row (av on) 3 1))] (sl 5 l.length) [(5,.row (av l) 3 1)]
  (rS (hl▸Xf h3 iL aU hp.1 hm h63) (.w (x:=.view (aN vs)) rfl (dC vs) rU (.w (x:=.row (av on) 3 1) rfl (iJ on) (λh=>QW h) (.p k_ .nil))) (x:=.func 190) k_ k_ (iJ l) 5)
theorem aRe{c:Nat}{cells:ak}(hi:i<ps.length)(jn:ps[i]?=some p)(cq:∀ p∈ps,bP m p/\p.n≠0)(aU:∀ v∈vs,aF q v)(hm:100*(m+q)+1000<=aE)(h63:ps.length<=500)(iW:vs.length<900000)(ht:lW ps i p=false)(ho:¬(ch p vs vs.length).length<3)
  (hl:¬(order p.n (aw vs) (ch p vs vs.length)).length>2):ah prog Bs 59 (aI (ag f146 0)) (fI ps.length vs.length i c) (fM ps vs cells) 3 ⟨.normal,fI ps.length vs.length (i+1) c,fM ps vs cells,6⟩:=by
 have hp:=cq p (cL jn);have lo:=Xi (Bs:=Bs) hp.1 hp.2 aU hm iW;have iL:∀ x∈ch p vs vs.length,x<vs.length:=λx hx=>Xg hx;have hol:=Jg p vs vs.length;obtain⟨l,cA⟩:∃ l,order p.n (aw vs) (ch p vs vs.length)=l:=⟨_,rfl⟩;rw[cA]at hl;generalize ch p vs vs.length=on at *;exact aD (fS hi jn cq o_ h63 ht [.code 2 _ _ _ _ _ lo,.lt 42 on.length 3 false (bd ho),fL cA hp.1 aU hm iL o_ o_,.gt 50 l.length 2 false (bd o_),.sum 57 i 1 (i+1) rfl o_])
theorem aE5{it:TypeInfo}{z:i_}(h1:prog.info? 47=some it)(h2:it.zero=some z):∀ v∈z.cells.toList,flat v=true:=by have e:(prog.info? 47).bind (·.zero)=some (.agg #[vI 0,.slice none 0 0]):=k_;rw[h1]at e;have e:it.zero=some (.agg #[vI 0,.slice none 0 0]):=e;rw[h2]at e;injection e with e;subst e;intro v hv;have hv:v∈[vI 0,.slice none 0 0]:=hv;simp at hv;rcases hv with rfl|rfl<;>rfl
theorem aRf{c:Nat}{cells:ak}(hi:i<ps.length)(jn:ps[i]?=some p)(cq:∀ p∈ps,bP m p/\p.n≠0)(aU:∀ v∈vs,aF q v)(hm:100*(m+q)+1000<=aE)(h63:ps.length<=500)(iW:vs.length<900000)(ht:lW ps i p=false)(ho:¬(ch p vs vs.length).length<3)
  (hl:(order p.n (aw vs) (ch p vs vs.length)).length>2) (hc:cells.length=c*2) (Mx:c<=500) (ET:∀ v∈cells,v.oneCell'=true) :
  ah prog Bs 59 (aI (ag f146 0)) (fI ps.length vs.length i c) (fM ps vs cells) 3
   ⟨.normal,[(14,vI (i+1)),(12,sl 0 ps.length),(13,vI ps.length),(0,sl 0 ps.length),(1,sl 1 vs.length),(5,sl 7 (c+1))],[(0,.view (bf ps)),(1,.view (aN vs)),(5,.row (av (order p.n (aw vs) (ch p vs vs.length))) 3 1),(7,.row (cells++[vI i,sl 5 (av (order p.n (aw vs) (ch p vs vs.length))).length]) 47 2)],8⟩:=by
 have hp:=cq p (cL jn);have lo:=Xi (Bs:=Bs) hp.1 hp.2 aU hm iW;have iL:∀ x∈ch p vs vs.length,x<vs.length:=λx hx=>Xg hx;have hol:=Jg p vs vs.length;obtain⟨l,cA⟩:∃ l,order p.n (aw vs) (ch p vs vs.length)=l:=⟨_,rfl⟩;rw[cA]at hl ⊢;rw[od];generalize ch p vs vs.length=on at *;generalize ni:cells++[vI i,sl 5 l.length]=cells' at *;exact aD (fS hi jn cq o_ h63 ht [.code 2 _ _ _ _ _ lo,.lt 42 on.length 3 false (bd ho),fL cA hp.1 aU hm iL o_ o_,.gt 50 l.length 2 true (aJ hl),.step 54 (au f146 54) [vI i,sl 5 l.length] [] (.agg #[vI i,sl 5 l.length]) [] (Qf (t:=47) (idx:=[0,1]) k_ (λit z h1 h2=>aE5 h1 h2) k_),.bsM f146 55 6 1 47 2 [0] (.agg #[vI 0,.slice none 0 0]) [.agg #[vI i,sl 5 l.length]] #[vI i,sl 5 l.length] (.row [vI i,sl 5 l.length] 47 2) rfl (λv hv=>by
   have hv:v∈[vI 0,.slice none 0 0]:=hv;simp at hv;rcases hv with rfl|rfl<;>rfl) d_ k_ rfl d_ d_ k_,.pP f146 56 7 2 c 1 (c+1) 47 2 32 cells 6 (.row [vI i,sl 5 l.length] 47 2) cells' rfl rfl rfl hc ni (λv hv=>by
   simp[Obj.cells]at hv;rcases hv with rfl|rfl<;>rfl) d_ (by simp[maxLen];omega) o_ k_,.sum 57 i 1 (i+1) rfl o_])
end
end
end Go.Proofs.YthjhinbiabcfiaaGreatDoor
