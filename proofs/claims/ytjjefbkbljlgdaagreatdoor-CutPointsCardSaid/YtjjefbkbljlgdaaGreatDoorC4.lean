/- Points of a cut set: the proof of CutPointsCardSaid (the law's function answers true at every set it can be given; theorem cutPoints_card, last part), part 4 of 7; no condition. -/
import Derived.Test.YtjjefbkbljlgdaaGreatDoorC3
namespace Go.Proofs.YtjjefbkbljlgdaaGreatDoor
open Go Go.RowKit Tryz
theorem aVH{a b n:Nat}(ha:a<bz^n)(hb:b<bz^n):a+b<bz^(n+1):=by have h1:bz^n*2<=bz^n*bz:=jc _ d_;rw[dx];omega
theorem K9{n i s:Nat}(hi:i<n){d:Nat}(hd:d=s/bz^i%bz):eW prog 3 (ai (ep bz n i s)) i (vI d)=some (ai (ep bz n (i+1) s)):=by rw[wb (by rw[MM];exact hi),MN hi hd]
theorem Vc(n s:Nat):List.replicate n (vI 0)=ai (ep bz n 0 s):=by rw[R0,KY]
section
variable{Bs:aa}{ka kb n m a b:Nat}
def FP(ka kb n m a b i:Nat):aW:=[(7,vI i),(0,sl ka n),(1,sl kb m),(5,sl 2 (n+1)),(6,vI (eM bz a b i))]
def BR(ka kb n m a b i:Nat):aH:=[(ka,.view (ai (ae bz n a))),(kb,.view (ai (ae bz m b))),(2,.row (ai (ep bz (n+1) i (a+b))) 3 1)]
theorem aNg{i:Nat}(hk:(ka=0/\kb=1)\/(ka=1/\kb=0))(hi:i<n)(hb:b<bz^m)(h63:n<35184372088832):
  ag prog Bs 55 (aF (af f94 0)) (FP ka kb n m a b i) (BR ka kb n m a b i) 3 ⟨.normal,FP ka kb n m a b (i+1),BR ka kb n m a b (i+1),3⟩:=by
 have hx:=gO (B:=bz) d_ a i;have hy:=gO (B:=bz) d_ b i;have hc:=AU (B:=bz) d_ a b i;have hs:=GH (B:=bz) d_ a b i;have di:=EB (B:=bz) d_ a b i;have bL:=K9 (n:=n+1) (i:=i) (s:=a+b) o_ rfl;have kO:du prog 3 (ai (ae bz n a)) i=some (vI (a/bz^i%bz)):=dO (ek hi);have kY:i<m->du prog 3 (ai (ae bz m b)) i=some (vI (b/bz^i%bz)):=λjC=>dO (ek jC);have kG:¬i<m->b/bz^i%bz=0:=λjC=>qy hb o_ d_;unfold FP BR;generalize ai (ep bz (n+1) (i+1) (a+b))=r1 at *;generalize ai (ep bz (n+1) i (a+b))=r0 at *;generalize ai (ae bz n a)=ra at *;generalize ai (ae bz m b)=rb at *;generalize eM bz a b (i+1)=c' at *;generalize eM bz a b i=c at *;generalize (a+b)/bz^i%bz=z at *;generalize a/bz^i%bz=x at *;generalize b/bz^i%bz=y at *;have e0:x+y+c=c+x+y:=by omega
 have e1:z=(c+x+y)%bz:=by rw[<-hs,e0]
 have e2:c'=(c+x+y)/bz:=by rw[<-di,e0]
 have jJ:bz=16777216:=rfl;by_cases jC:i<m
 ·have kY:=kY jC
  let S:Nat->Nat->bA prog Bs 55:=λka kb=>[.lt 22 i n true (by simp[hi]),.ix f94 28 ka n i hi k_,.ld f94 29 3 ka i (.view ra) (vI x) rfl kO k_,.sum 30 c x (c+x) rfl o_,.lt 34 i m true (by simp[jC]),.ix f94 38 kb m i jC k_,.ld f94 39 3 kb i (.view rb) (vI y) rfl kY k_,.sum 40 (c+x) y (c+x+y) rfl o_,.FM 44 (c+x+y) bz z e1,.ix f94 45 2 (n+1) i o_ k_,.st f94 100045 3 2 i (.row r0 3 1) (vI z) (.row r1 3 1) rfl bL rfl k_,.FN 47 (c+x+y) bz c' e2 o_,.sum 24 i 1 (i+1) rfl o_]
  rcases hk with ⟨rfl,rfl⟩|⟨rfl,rfl⟩
  ·exact aA (S 0 1)
  ·exact aA (S 1 0)
 ·have wU:=kG jC;rw[wU,jn]at e1 e2
  let S:Nat->Nat->bA prog Bs 55:=λka kb=>[.lt 22 i n true (by simp[hi]),.ix f94 28 ka n i hi k_,.ld f94 29 3 ka i (.view ra) (vI x) rfl kO k_,.sum 30 c x (c+x) rfl o_,.lt 34 i m false (by simp[jC]),.FM 44 (c+x) bz z e1,.ix f94 45 2 (n+1) i o_ k_,.st f94 100045 3 2 i (.row r0 3 1) (vI z) (.row r1 3 1) rfl bL rfl k_,.FN 47 (c+x) bz c' e2 o_,.sum 24 i 1 (i+1) rfl o_]
  rcases hk with ⟨rfl,rfl⟩|⟨rfl,rfl⟩
  ·exact aA (S 0 1)
  ·exact aA (S 1 0)
theorem aNh(hk:(ka=0/\kb=1)\/(ka=1/\kb=0))(hb:b<bz^m)(h63:n<35184372088832):
  ag prog Bs 55 (.block 0 (af f94 0)) (FP ka kb n m a b 0) (BR ka kb n m a b 0) 3 ⟨.normal,FP ka kb n m a b n,BR ka kb n m a b n,3⟩:=
 bT (cd (b:=aF (af f94 0)) (r:=⟨.exit 0,FP ka kb n m a b n,BR ka kb n m a b n,3⟩) n (FP ka kb n m a b) (BR ka kb n m a b) (λi k _=>jN (l:=BR ka kb n m a b i) (m:=BR ka kb n m a b 0) rfl k) (λi hi=>aNg hk hi hb h63)
  (by rcases hk with ⟨rfl,rfl⟩|⟨rfl,rfl⟩<;>exact aA [.lt 22 n n false s_]) n_)
noncomputable def aCQ(hk:(ka=0/\kb=1)\/(ka=1/\kb=0))(hb:b<bz^m)(h63:n<35184372088832)(hs:a+b<bz^(n+1))
  (bL:eW prog 3 (ai (ep bz (n+1) n (a+b))) n (vI (eM bz a b n))=some (ai (ae bz (n+1) (a+b)))):bA prog Bs 55:=
 [.sum 17 n 1 (n+1) rfl o_,.pM f94 18 2 (n+1) 3 8 (vI 0) (ai (ep bz (n+1) 0 (a+b))) (Vc _ _) rfl rfl o_ (by simp[maxLen];omega) k_,.rw 6 (.int .i64 0) (vI (eM bz a b 0)) (by rw[MP];rfl),.code 0 _ _ _ _ _ (aNh (ka:=ka) (kb:=kb) (a:=a) hk hb o_),.ix f94 52 2 (n+1) n o_ k_,.st f94 100052 3 2 n (.row (ai (ep bz (n+1) n (a+b))) 3 1) (vI (eM bz a b n)) (.row (ai (ae bz (n+1) (a+b))) 3 1) rfl bL rfl k_,.Ds f94 54 2 (n+1) (a+b) (.row (ai (ae bz (n+1) (a+b))) 3 1) rfl rfl hs o_ k_]
end
theorem aVV{a b n:Nat}(ha:a<bz^n)(hb:b<bz^n):eW prog 3 (ai (ep bz (n+1) n (a+b))) n (vI (eM bz a b n))=some (ai (ae bz (n+1) (a+b))):=by have h1:=AU (B:=bz) d_ a b n;have h2:=R1 ha hb;rw[K9 (A9 n) (by rw[<-h2];exact(dK (eL h1 d_)).symm),GF]
theorem aCR{a b:Nat}(h1:nd bz a<35184372088832)(h2:nd bz b<35184372088832):lM prog 94 [jt a,jt b] 3 1 (nd bz (a+b)) (cJ (a+b)):=by
 have ha:=dS (B:=bz) d_ a;have hb:=dS (B:=bz) d_ b;have iQ:=sn a;have jz:=sn b;have ay:([jt a,jt b].all aR.ok)=true:=by simp[H7]
 unfold jt cJ at ay ⊢;change lM _ _ _ _ _ _ (cJ (a+b));generalize nd bz a=n at *;generalize nd bz b=m at *;by_cases lA:n<m
 ·have gZ:=cv ha (cZ (n:=bz) d_ (show n<=m by omega));have hs:=aVH hb gZ;rw[mI a b]
  exact K7 (k:=2) mixed func94 ay 100 (N:=55) k_ (λw=>(aY.lt 12 n m true (by simp[lA]):aY prog (aa.at w) 55)::aCQ (ka:=1) (kb:=0) (a:=b) (b:=a) (.inr ⟨rfl,rfl⟩) ha h2 hs (aVV hb gZ))
   (λw=>k_) (gU _) (FO hs) (BQ hs)
 ·have gp:=cv hb (cZ (n:=bz) d_ (show m<=n by omega));have hs:=aVH ha gp
  exact K7 (k:=2) mixed func94 ay 100 (N:=55) k_ (λw=>(aY.lt 12 n m false (by simp[lA]):aY prog (aa.at w) 55)::aCQ (ka:=0) (kb:=1) (a:=a) (b:=b) (.inl ⟨rfl,rfl⟩) hb h1 hs (aVV ha gp))
   (λw=>k_) (gU _) (FO hs) (BQ hs)
section
variable{B:Nat}
def qd(B q V c i:Nat):Nat:=(q*(V%B^i)+c)/B^i
theorem aNi(q V c:Nat):qd B q V c 0=c:=by simp[qd,tf]
theorem aCS(hB:0<B)(q V c i:Nat):qd B q V c i+q*(V/B^i%B)=(q*(V%B^(i+1))+c)/B^i:=by unfold qd;rw[o8,oF,<-fF,Nat.add_right_comm,o9 _ _ (cG hB)]
theorem aNj(hB:0<B)(q V c i:Nat):(qd B q V c i+q*(V/B^i%B))/B=qd B q V c (i+1):=by rw[aCS hB,kA,<-dx];rfl
theorem aNk(hB:0<B)(q V c i:Nat):(qd B q V c i+q*(V/B^i%B))%B=(q*V+c)/B^i%B:=by
 rw[aCS hB];have h1:=jb V (B^(i+1));have h2:q*V+c=(q*(V%B^(i+1))+c)+q*(V/B^(i+1))*B*B^i:=by
  have e:q*(V/B^(i+1))*B*B^i=q*(B^(i+1)*(V/B^(i+1))):=by rw[dx];simp only[cP,mJ,fF]
  rw[e];have h3:q*V=q*(B^(i+1)*(V/B^(i+1)))+q*(V%B^(i+1)):=by rw[<-oF,h1]
  omega
 conv=>rhs;rw[h2]
 rw[o9 _ _ (cG hB),CK]
theorem aCT(hB:0<B){q c:Nat}(hq:q<B)(hc:c<=q)(V i:Nat):qd B q V c i<=q:=by
 unfold qd;have hp:0<B^i:=cG hB;have h1:V%B^i<B^i:=cE _ hp;have h2:=jc q (show V%B^i+1<=B^i from h1);rw[oF,fX]at h2;have h3:q*(V%B^i)+c<(q+1)*B^i:=by rw[fA,pO];omega
 have:=(iv hp).2 h3;omega
theorem aNl{q c V n:Nat}(hV:V<B^n):qd B q V c n=(q*V+c)/B^n:=by unfold qd;rw[dK hV]
theorem aNm(hB:0<B){a b:Nat}(b9:b<=a)(i:Nat):
  (a-b)/B^i%B=if a/B^i%B<b/B^i%B+kB B a b i then a/B^i%B+B-b/B^i%B-kB B a b i else a/B^i%B-b/B^i%B-kB B a b i:=by
 rw[<-R4 hB b9 i];have hx:=gO hB a i;have hy:=gO hB b i;have hc:=MQ (B:=B) a b i;generalize a/B^i%B=x at *;generalize b/B^i%B=y at *;generalize kB B a b i=c at *;by_cases h:x<y+c
 ·rw[aw h,show x+2*B-y-c=(x+B-y-c)+B by omega,JQ,dK o_]
 ·rw[ao h,show x+2*B-y-c=(x-y-c)+B+B by omega,JQ,JQ,dK o_]
def qS(B p x b i k:Nat):Nat:=(p%B^(i+k)+x*(b%B^k)*B^i)/B^(i+k)
theorem aNn{p x b i:Nat}(hB:0<B):qS B p x b i 0=0:=by unfold qS;rw[rL,tf,Nat.mul_zero,lC,jn,jn];exact l8 (cE _ (cG hB))
theorem aCU(hB:0<B)(p x b i k:Nat):qS B p x b i k+(p/B^(i+k)%B+x*(b/B^k%B))=(p%B^(i+k+1)+x*(b%B^(k+1))*B^i)/B^(i+k):=by
 unfold qS;rw[<-o9 _ _ (cG hB),o8 p,o8 b]
 congr 1
 rw[oF,fA,fA,ev];have:x*(b/B^k%B*B^k)*B^i=x*(b/B^k%B)*(B^i*B^k):=by simp only[cP,mJ]
 omega
theorem aNo(hB:0<B)(p x b i k:Nat):(qS B p x b i k+(p/B^(i+k)%B+x*(b/B^k%B)))/B=qS B p x b i (k+1):=by rw[aCU hB,kA,<-dx];rfl
theorem aNp(hB:0<B)(p x b i k:Nat):(qS B p x b i k+(p/B^(i+k)%B+x*(b/B^k%B)))%B=(p+x*b*B^i)/B^(i+k)%B:=by
 rw[aCU hB];have h1:=jb p (B^(i+k+1));have h2:=jb b (B^(k+1));have h3:p+x*b*B^i=(p%B^(i+k+1)+x*(b%B^(k+1))*B^i)+(p/B^(i+k+1)+x*(b/B^(k+1)))*B*B^(i+k):=by
  have e1:(p/B^(i+k+1)+x*(b/B^(k+1)))*B*B^(i+k)=B^(i+k+1)*(p/B^(i+k+1))+x*(B^(k+1)*(b/B^(k+1)))*B^i:=by
   rw[fA,fA]
   congr 1
   ·rw[dx];simp only[cP,mJ,fF]
   ·rw[dx,ev];simp only[cP,mJ,fF]
  have e2:x*b*B^i=x*(B^(k+1)*(b/B^(k+1)))*B^i+x*(b%B^(k+1))*B^i:=by rw[<-fA,<-oF,h2]
  rw[e1];omega
 conv=>rhs;rw[h3]
 rw[o9 _ _ (cG hB),CK]
theorem aCV(hB:0<B){x:Nat}(hx:x<B)(p b i k:Nat):qS B p x b i k<B:=by
 unfold qS;have hp:0<B^(i+k):=cG hB;rw[iv hp];have h1:p%B^(i+k)<B^(i+k):=cE _ hp;have h2:b%B^k<B^k:=cE _ (cG hB);have h3:x*(b%B^k)*B^i<=x*B^(i+k):=by rw[fF,ev];refine jc _ ?_;rw[cP];exact jc _ (iR h2)
 have h4:=e6 (B^(i+k)) (show x+1<=B from hx);rw[fA,pO]at h4;omega
theorem aNq{p x b i m:Nat}(hp:p<B^(i+m))(hb:b<B^m):qS B p x b i m=(p+x*b*B^i)/B^(i+m):=by unfold qS;rw[dK hp,dK hb]
end
section
variable{Bs:aa}{n m a b:Nat}
def FQ(n m a b i:Nat):aW:=[(7,vI i),(0,sl 0 n),(1,sl 1 m),(5,sl 2 n),(6,vI (kB bz a b i))]
def zK(n m a b i:Nat):aH:=[(0,.view (ai (ae bz n a))),(1,.view (ai (ae bz m b))),(2,.row (ai (ep bz n i (a-b))) 3 1)]
theorem aCW{x y:Int}(h:-4611686018427387904<=x)(h2:x<=4611686018427387903)(h3:-4611686018427387904<=y)(h4:y<=4611686018427387904):IntKind.i64.wrap (x-y)=x-y:=by rw[c8];omega
theorem aNr{x y:Int}(h:-4611686018427387904<=x)(h2:x<=4611686018427387903)(h3:-4611686018427387904<=y)(h4:y<=4611686018427387904):IntKind.i64.wrap (x+y)=x+y:=by rw[c8];omega
theorem aNs{i:Nat}(b9:b<=a)(hi:i<n)(hb:b<bz^m)(h63:n<35184372088832):
  ag prog Bs 44 (aF (af f97 0)) (FQ n m a b i) (zK n m a b i) 3 ⟨.normal,FQ n m a b (i+1),zK n m a b (i+1),3⟩:=by
 have hx:=gO (B:=bz) d_ a i;have hy:=gO (B:=bz) d_ b i;have hc:=MQ (B:=bz) a b i;have hs:=aNm (B:=bz) d_ b9 i;have di:=R3 (B:=bz) d_ a b i;have bL:=K9 (n:=n) (i:=i) (s:=a-b) hi rfl;have kO:du prog 3 (ai (ae bz n a)) i=some (vI (a/bz^i%bz)):=dO (ek hi);have kY:i<m->du prog 3 (ai (ae bz m b)) i=some (vI (b/bz^i%bz)):=λjC=>dO (ek jC);have kG:¬i<m->b/bz^i%bz=0:=λjC=>qy hb o_ d_;have jJ:bz=16777216:=rfl;unfold FQ zK;generalize ai (ep bz n (i+1) (a-b))=r1 at *;generalize ai (ep bz n i (a-b))=r0 at *;generalize ai (ae bz n a)=ra at *;generalize ai (ae bz m b)=rb at *;generalize kB bz a b (i+1)=c' at *;generalize kB bz a b i=c at *;generalize (a-b)/bz^i%bz=z at *;generalize a/bz^i%bz=x at *;generalize b/bz^i%bz=y at *;have w1:IntKind.i64.wrap ((x:Int)-(c:Int))=(x:Int)-(c:Int):=aCW o_ o_ o_ o_;have w2:IntKind.i64.wrap (((x:Int)-(c:Int))-(y:Int))=(x:Int)-(c:Int)-(y:Int):=aCW o_ o_ o_ o_;have tail:∀ d:Int,d=(x:Int)-c-y->(∃ t,decide (d<0)=t/\(t=true->IntKind.i64.wrap (d+16777216)=(z:Int)/\c'=1)/\(t=false->d=(z:Int)/\c'=0)):=by
  intro d hd;by_cases h:x<y+c
  ·rw[aw h]at hs di;refine⟨true,aC o_,λ_=>⟨?_,di.symm⟩,λe=>by cases e⟩;rw[aNr o_ o_ o_ o_];omega
  ·rw[ao h]at hs di;exact⟨false,aN o_,n_,λ_=>⟨by omega,di.symm⟩⟩
 by_cases jC:i<m
 ·have kY:=kY jC;obtain⟨t,ht,h1,h2⟩:=tail _ rfl;cases t with
  |true=>
   obtain⟨q1,q2⟩:=h1 rfl;subst q2;exact aA [.lt 15 i n true (by simp[hi]),.ix f97 20 0 n i hi k_,.ld f97 21 3 0 i (.view ra) (vI x) rfl kO k_,.wr 23 .i64 ((x:Int)-(c:Int)) _ w1,.lt 27 i m true (by simp[jC]),.ix f97 31 1 m i jC k_,.ld f97 32 3 1 i (.view rb) (vI y) rfl kY k_,.wr 33 .i64 ((x:Int)-(c:Int)-(y:Int)) _ w2,.rw 35 (.bool (decide ((x:Int)-(c:Int)-(y:Int)<0))) (.bool true) (by rw[ht]),.wr 37 .i64 _ (z:Int) q1,.ix f97 41 2 n i hi k_,.st f97 100041 3 2 i (.row r0 3 1) (vI z) (.row r1 3 1) rfl bL rfl k_,.sum 17 i 1 (i+1) rfl o_]
  |false=>
   obtain⟨q1,q2⟩:=h2 rfl;subst q2;exact aA [.lt 15 i n true (by simp[hi]),.ix f97 20 0 n i hi k_,.ld f97 21 3 0 i (.view ra) (vI x) rfl kO k_,.wr 23 .i64 ((x:Int)-(c:Int)) _ w1,.lt 27 i m true (by simp[jC]),.ix f97 31 1 m i jC k_,.ld f97 32 3 1 i (.view rb) (vI y) rfl kY k_,.wr 33 .i64 ((x:Int)-(c:Int)-(y:Int)) (z:Int) (w2.trans q1),.rw 35 (.bool (decide ((z:Int)<0))) (.bool false) (by rw[<-q1,ht]),.ix f97 41 2 n i hi k_,.st f97 100041 3 2 i (.row r0 3 1) (vI z) (.row r1 3 1) rfl bL rfl k_,.sum 17 i 1 (i+1) rfl o_]
 ·have wU:=kG jC;subst wU;obtain⟨t,ht,h1,h2⟩:=tail ((x:Int)-c) o_;cases t with
  |true=>
   obtain⟨q1,q2⟩:=h1 rfl;subst q2;exact aA [.lt 15 i n true (by simp[hi]),.ix f97 20 0 n i hi k_,.ld f97 21 3 0 i (.view ra) (vI x) rfl kO k_,.wr 23 .i64 ((x:Int)-(c:Int)) _ w1,.lt 27 i m false (by simp[jC]),.rw 35 (.bool (decide ((x:Int)-(c:Int)<0))) (.bool true) (by rw[ht]),.wr 37 .i64 _ (z:Int) q1,.ix f97 41 2 n i hi k_,.st f97 100041 3 2 i (.row r0 3 1) (vI z) (.row r1 3 1) rfl bL rfl k_,.sum 17 i 1 (i+1) rfl o_]
  |false=>
   obtain⟨q1,q2⟩:=h2 rfl;subst q2;exact aA [.lt 15 i n true (by simp[hi]),.ix f97 20 0 n i hi k_,.ld f97 21 3 0 i (.view ra) (vI x) rfl kO k_,.wr 23 .i64 ((x:Int)-(c:Int)) (z:Int) (w1.trans q1),.lt 27 i m false (by simp[jC]),.rw 35 (.bool (decide ((z:Int)<0))) (.bool false) (by rw[<-q1,ht]),.ix f97 41 2 n i hi k_,.st f97 100041 3 2 i (.row r0 3 1) (vI z) (.row r1 3 1) rfl bL rfl k_,.sum 17 i 1 (i+1) rfl o_]
theorem aNt(b9:b<=a)(hb:b<bz^m)(h63:n<35184372088832):
  ag prog Bs 44 (.block 0 (af f97 0)) (FQ n m a b 0) (zK n m a b 0) 3 ⟨.normal,FQ n m a b n,zK n m a b n,3⟩:=
 bT (cd (b:=aF (af f97 0)) (r:=⟨.exit 0,FQ n m a b n,zK n m a b n,3⟩) n (FQ n m a b) (zK n m a b) (λi k _=>jN (l:=zK n m a b i) (m:=zK n m a b 0) rfl k) (λi hi=>aNs b9 hi hb h63)
  (aA [.lt 15 n n false s_]) n_)
end
theorem aNu{a b:Nat}(b9:b<=a)(h1:nd bz a<35184372088832):lM prog 97 [jt a,jt b] 3 1 (nd bz (a-b)) (cJ (a-b)):=by
 have ha:=dS (B:=bz) d_ a;have hb:=dS (B:=bz) d_ b;have ay:([jt a,jt b].all aR.ok)=true:=by simp[H7]
 unfold jt cJ at ay ⊢;change lM _ _ _ _ _ _ (cJ (a-b));generalize nd bz a=n at *;generalize nd bz b=m at *;have hs:a-b<bz^n:=eL (Bj _ _) ha;have lo:=λBs=>aNt (Bs:=Bs) (n:=n) (m:=m) b9 hb h1;unfold zK at lo;rw[GF]at lo;exact K7 (k:=2) mixed func97 ay 100 (N:=44) k_ (λw=>[.pM f97 11 2 n 3 8 (vI 0) (ai (ep bz n 0 (a-b))) (Vc _ _) rfl rfl o_ (by simp[maxLen];omega) k_,.rw 6 (.int .i64 0) (vI (kB bz a b 0)) (by rw[R2];rfl),.code 0 _ _ _ _ _ (lo _),.Ds f97 43 2 n (a-b) (.row (ai (ae bz n (a-b))) 3 1) rfl rfl hs o_ k_])
   (λw=>k_) (gU _) (FO hs) (BQ hs)
section
variable{Bs:aa}{n a c:Nat}
def FR(n a c i:Nat):aW:=[(7,vI i),(0,sl 0 n),(5,sl 1 (n+1)),(6,vI (qd bz 2 a c i))]
def BS(n a c i:Nat):aH:=[(0,.view (ai (ae bz n a))),(1,.row (ai (ep bz (n+1) i (2*a+c))) 3 1)]
theorem aNv{i:Nat}(hc:c<=2)(hi:i<n)(h63:n<35184372088832):
  ag prog Bs 40 (aF (af f98 0)) (FR n a c i) (BS n a c i) 2 ⟨.normal,FR n a c (i+1),BS n a c (i+1),2⟩:=by
 have hx:=gO (B:=bz) d_ a i;have gj:=aCT (B:=bz) d_ (q:=2) d_ hc a i;have hs:=aNk (B:=bz) d_ 2 a c i;have di:=aNj (B:=bz) d_ 2 a c i;have bL:=K9 (n:=n+1) (i:=i) (s:=2*a+c) o_ rfl;have kO:du prog 3 (ai (ae bz n a)) i=some (vI (a/bz^i%bz)):=dO (ek hi);have jJ:bz=16777216:=rfl;unfold FR BS;generalize ai (ep bz (n+1) (i+1) (2*a+c))=r1 at *;generalize ai (ep bz (n+1) i (2*a+c))=r0 at *;generalize ai (ae bz n a)=ra at *;generalize qd bz 2 a c (i+1)=c' at *;generalize qd bz 2 a c i=g at *;generalize (2*a+c)/bz^i%bz=z at *;generalize a/bz^i%bz=x at *;exact aA [.lt 16 i n true (by simp[hi]),.ix f98 22 0 n i hi k_,.ld f98 23 3 0 i (.view ra) (vI x) rfl kO k_,.sB 24 2 x (2*x) rfl o_,.sum 25 g (2*x) (g+2*x) rfl o_,.FM 29 (g+2*x) bz z hs.symm,.ix f98 30 1 (n+1) i o_ k_,.st f98 100030 3 1 i (.row r0 3 1) (vI z) (.row r1 3 1) rfl bL rfl k_,.FN 32 (g+2*x) bz c' di.symm o_,.sum 18 i 1 (i+1) rfl o_]
theorem aNw(hc:c<=2)(h63:n<35184372088832):
  ag prog Bs 40 (.block 0 (af f98 0)) (FR n a c 0) (BS n a c 0) 2 ⟨.normal,FR n a c n,BS n a c n,2⟩:=
 bT (cd (b:=aF (af f98 0)) (r:=⟨.exit 0,FR n a c n,BS n a c n,2⟩) n (FR n a c) (BS n a c) (λi k _=>jN (l:=BS n a c i) (m:=BS n a c 0) rfl k) (λi hi=>aNv hc hi h63)
  (aA [.lt 16 n n false s_]) n_)
end
theorem aNx{a c:Nat}(hc:c<=1)(h1:nd bz a<35184372088832):lM prog 98 [jt a,.p (vI c)] 3 1 (nd bz (2*a+c)) (cJ (2*a+c)):=by
 have ha:=dS (B:=bz) d_ a;have ay:([jt a,aR.p (vI c)].all aR.ok)=true:=by simp[H7];rfl
 unfold jt cJ at ay ⊢;change lM _ _ _ _ _ _ (cJ (2*a+c));generalize nd bz a=n at *;have hs:2*a+c<bz^(n+1):=by have h1:bz^n*2<=bz^n*bz:=jc _ d_;rw[dx];omega
 have bL:eW prog 3 (ai (ep bz (n+1) n (2*a+c))) n (vI (qd bz 2 a c n))=some (ai (ae bz (n+1) (2*a+c))):=by have h1:=aCT (B:=bz) d_ (q:=2) d_ (show c<=2 by omega) a n;have h2:=aNl (B:=bz) (q:=2) (c:=c) ha;have jJ:bz=16777216:=rfl;rw[K9 (A9 n) (by rw[<-h2];exact(dK o_).symm),GF]
 exact K7 (k:=1) mixed func98 ay 100 (N:=40) k_ (λw=>[.sum 10 n 1 (n+1) rfl o_,.pM f98 11 1 (n+1) 3 8 (vI 0) (ai (ep bz (n+1) 0 (2*a+c))) (Vc _ _) rfl rfl o_ (by simp[maxLen];omega) k_,.rw 6 (vI c) (vI (qd bz 2 a c 0)) (by rw[aNi]),.code 0 _ _ _ _ _ (aNw (a:=a) (c:=c) o_ h1),.ix f98 37 1 (n+1) n o_ k_,.st f98 100037 3 1 n (.row (ai (ep bz (n+1) n (2*a+c))) 3 1) (vI (qd bz 2 a c n)) (.row (ai (ae bz (n+1) (2*a+c))) 3 1) rfl bL rfl k_,.Ds f98 39 1 (n+1) (2*a+c) (.row (ai (ae bz (n+1) (2*a+c))) 3 1) rfl rfl hs o_ k_])
   (λw=>k_) (gU _) (FO hs) (BQ hs)
section
variable{Bs:aa}{n m a b:Nat}
def wh(n m a b i k:Nat):aj:=ai (c7 bz (n+m) (i+k) (part bz a b (i+1) 0) (part bz a b i 0))
def Dv(n m a b i k:Nat):aW:=[(8,vI k),(7,vI (qS bz (part bz a b i 0) (a/bz^i%bz) b i k)),(6,vI i),(0,sl 0 n),(1,sl 1 m),(5,sl 2 (n+m))]
def zL(n m a b i k:Nat):aH:=[(0,.view (ai (ae bz n a))),(1,.view (ai (ae bz m b))),(2,.row (wh n m a b i k) 3 1)]
theorem Vd(i:Nat):part bz a b (i+1) 0=part bz a b i 0+a/bz^i%bz*b*bz^i:=by
 rw[Cs,Cs,o8,fA]
 congr 1
 simp only[cP,mJ]
theorem aCX{i:Nat}(hb:b<bz^m):part bz a b i 0<bz^(i+m):=by rw[Cs,ev];exact pN (cE _ (cG d_)) hb
theorem aNy{i k:Nat}(hi:i<n)(hk:k<m)(h63:n+m<35184372088832):
  ag prog Bs 63 (aF (af f132 2)) (Dv n m a b i k) (zL n m a b i k) 3 ⟨.normal,Dv n m a b i (k+1),zL n m a b i (k+1),3⟩:=by
 have hx:=gO (B:=bz) d_ a i;have hy:=gO (B:=bz) d_ b k;have hr:=gO (B:=bz) d_ (part bz a b i 0) (i+k);have gj:=aCV (B:=bz) d_ hx (part bz a b i 0) b i k;have hs:=aNp (B:=bz) d_ (part bz a b i 0) (a/bz^i%bz) b i k;rw[<-Vd]at hs;have di:=aNo (B:=bz) d_ (part bz a b i 0) (a/bz^i%bz) b i k;have kO:du prog 3 (ai (ae bz n a)) i=some (vI (a/bz^i%bz)):=dO (ek hi);have kY:du prog 3 (ai (ae bz m b)) k=some (vI (b/bz^k%bz)):=dO (ek hk);have hlr:du prog 3 (wh n m a b i k) (i+k)=some (vI (part bz a b i 0/bz^(i+k)%bz)):=dO (Cr o_ (bj _));have bL:eW prog 3 (wh n m a b i k) (i+k) (vI (part bz a b (i+1) 0/bz^(i+k)%bz))=some (wh n m a b i (k+1)):=by unfold wh;rw[wb (by rw[wS];omega),yJ o_ rfl];rfl
 have jJ:bz=16777216:=rfl;unfold Dv zL;generalize wh n m a b i (k+1)=r1 at *;generalize wh n m a b i k=r0 at *;generalize ai (ae bz n a)=ra at *;generalize ai (ae bz m b)=rb at *;generalize qS bz (part bz a b i 0) (a/bz^i%bz) b i (k+1)=c' at *;generalize qS bz (part bz a b i 0) (a/bz^i%bz) b i k=g at *;generalize part bz a b (i+1) 0/bz^(i+k)%bz=z at *;generalize part bz a b i 0/bz^(i+k)%bz=r at *;generalize a/bz^i%bz=x at *;generalize b/bz^k%bz=y at *;have kj:x*y<bz*bz:=pN hx hy;rw[jJ]at kj;generalize hp:x*y=p at *;exact aA [.lt 24 k m true (by simp[hk]),.sum 31 i k (i+k) rfl o_,.ix f132 32 2 (n+m) (i+k) o_ k_,.ld f132 33 3 2 (i+k) (.row r0 3 1) (vI r) rfl hlr k_,.ix f132 36 0 n i hi k_,.ld f132 37 3 0 i (.view ra) (vI x) rfl kO k_,.ix f132 40 1 m k hk k_,.ld f132 41 3 1 k (.view rb) (vI y) rfl kY k_,.sB 42 x y p hp.symm o_,.sum 43 r p (r+p) rfl o_,.sum 44 g (r+p) (g+(r+p)) rfl o_,.sum 48 i k (i+k) rfl o_,.FM 50 (g+(r+p)) bz z hs.symm,.ix f132 51 2 (n+m) (i+k) o_ k_,.st f132 100051 3 2 (i+k) (.row r0 3 1) (vI z) (.row r1 3 1) rfl bL rfl k_,.FN 53 (g+(r+p)) bz c' di.symm o_,.sum 26 k 1 (k+1) rfl o_]
theorem aNz{i:Nat}(hi:i<n)(h63:n+m<35184372088832):
  ag prog Bs 63 (.block 2 (af f132 2)) (Dv n m a b i 0) (zL n m a b i 0) 3 ⟨.normal,Dv n m a b i m,zL n m a b i m,3⟩:=
 bT (id:=2) (cd (b:=aF (af f132 2)) (r:=⟨.exit 2,Dv n m a b i m,zL n m a b i m,3⟩) m (Dv n m a b i) (zL n m a b i) (λk j _=>jN (l:=zL n m a b i k) (m:=zL n m a b i 0) rfl j) (λk hk=>aNy hi hk h63)
  (aA [.lt 24 m m false s_]) n_)
def Dw(n m a b i:Nat):aj:=ai (ae bz (n+m) (part bz a b i 0))
def FT(n m i:Nat):aW:=[(6,vI i),(0,sl 0 n),(1,sl 1 m),(5,sl 2 (n+m))]
def zM(n m a b i:Nat):aH:=[(0,.view (ai (ae bz n a))),(1,.view (ai (ae bz m b))),(2,.row (Dw n m a b i) 3 1)]
theorem aNA(i:Nat):wh n m a b i 0=Dw n m a b i:=by unfold wh Dw;rw[Vd,jn,Y1 d_]
theorem aNB{i:Nat}(hi:i<n)(hb:b<bz^m)(h63:n+m<35184372088832):
  ag prog Bs 63 (aF (af f132 0)) (FT n m i) (zM n m a b i) 3 ⟨.normal,FT n m (i+1),zM n m a b (i+1),3⟩:=by
 have lo:=aNz (Bs:=Bs) (a:=a) (b:=b) hi h63;unfold Dv zL at lo;rw[aNA,aNn d_]at lo;have hp:=aCX (a:=a) (i:=i) hb;have gY:=aCX (a:=a) (i:=i+1) hb;have he:=aNq (x:=a/bz^i%bz) hp hb;rw[<-Vd]at he;have hc:=aCV (B:=bz) d_ (gO (B:=bz) d_ a i) (part bz a b i 0) b i m;have bL:eW prog 3 (wh n m a b i m) (i+m) (vI (qS bz (part bz a b i 0) (a/bz^i%bz) b i m))=some (Dw n m a b (i+1)):=by
  unfold wh Dw;have e:i+1+m=i+m+1:=by omega
  rw[e]at gY;rw[wb (by rw[wS];omega),yJ o_ (by rw[he];rw[he]at hc;exact(dK hc).symm),EU d_ (cv hp (cZ d_ (yw _))) gY]
 unfold FT zM;generalize Dw n m a b (i+1)=r1 at *;generalize Dw n m a b i=r0 at *;generalize wh n m a b i m=r2 at *;generalize qS bz (part bz a b i 0) (a/bz^i%bz) b i m=c at *;generalize ai (ae bz n a)=ra at *;generalize ai (ae bz m b)=rb at *;exact aA [.lt 18 i n true (by simp[hi]),.code 2 _ _ _ _ _ lo,.sum 58 i m (i+m) rfl o_,.ix f132 60 2 (n+m) (i+m) o_ k_,.st f132 100060 3 2 (i+m) (.row r2 3 1) (vI c) (.row r1 3 1) rfl bL rfl k_,.sum 20 i 1 (i+1) rfl o_]
theorem aNC(hb:b<bz^m)(h63:n+m<35184372088832):
  ag prog Bs 63 (.block 0 (af f132 0)) (FT n m 0) (zM n m a b 0) 3 ⟨.normal,FT n m n,zM n m a b n,3⟩:=
 bT (cd (b:=aF (af f132 0)) (r:=⟨.exit 0,FT n m n,zM n m a b n,3⟩) n (FT n m) (zM n m a b) (λk j _=>jN (l:=zM n m a b k) (m:=zM n m a b 0) rfl j) (λk hk=>aNB hk hb h63)
  (aA [.lt 18 n n false s_]) n_)
end
theorem Ve{a b:Nat}(h63:nd bz a+nd bz b<35184372088832):lM prog 132 [jt a,jt b] 3 1 (nd bz (a*b)) (cJ (a*b)):=by
 have ha:=dS (B:=bz) d_ a;have hb:=dS (B:=bz) d_ b;have ay:([jt a,jt b].all aR.ok)=true:=by simp[H7]
 unfold jt cJ at ay ⊢;change lM _ _ _ _ _ _ (cJ (a*b));generalize nd bz a=n at *;generalize nd bz b=m at *;have hs:a*b<bz^(n+m):=by rw[ev];exact pN ha hb
 have lo:=λBs=>aNC (Bs:=Bs) (n:=n) (a:=a) hb h63;unfold zM Dw at lo;rw[Cs,Cs,dK ha,rL,tf,lC]at lo;have hz:List.replicate (n+m) (vI 0)=ai (ae bz (n+m) 0):=by
  rw[KY]
  congr 1
  unfold ae;symm;rw[List.eq_replicate_iff];simp
 exact K7 (k:=2) mixed func132 ay 100 (N:=63) k_ (λw=>[.sum 13 n m (n+m) rfl o_,.pM f132 14 2 (n+m) 3 8 (vI 0) (ai (ae bz (n+m) 0)) hz rfl rfl o_ (by simp[maxLen];omega) k_,.code 0 _ _ _ _ _ (lo _),.Ds f132 62 2 (n+m) (a*b) (.row (ai (ae bz (n+m) (a*b))) 3 1) rfl rfl hs o_ k_])
   (λw=>k_) (gU _) (FO hs) (BQ hs)
theorem xJ(cells:aj)(i:Nat){z:Int}(h:cells[i]?=some (.int .u8 z)):du prog 5 cells i=some (.int .u8 z):=by
 have e:du prog 5 cells i=cells[i+0]?:=by kernel_rfl
 rw[e,jn,h]
theorem aND(cells:aj)(i:Nat)(z:Int)(h:i<cells.length):eW prog 5 cells i (.int .u8 z)=some (cells.set i (.int .u8 z)):=by
 have e:eW prog 5 cells i (.int .u8 z)=if(Nat.ble (i+1) cells.length&&true)then some (iO cells i [.int .u8 z])else none:=by kernel_rfl
 rw[e,Mp h];rfl
section
variable{Bs:aa}{n a:Nat}
def tR(n a i:Nat):aj:=gF (List.replicate (3*n-i) 0++gw i a)
def FU(n i:Nat):aW:=[(4,vI i),(0,sl 0 n),(3,sl 1 (3*n))]
def zO(n a i:Nat):aH:=[(0,.view (ai (ae bz n a))),(1,.row (tR n a i) 5 1)]
theorem aNE{i:Nat}(hi:i<3*n):(tR n a i).set (3*n-1-i) (vb (a/256^i%256))=tR n a (i+1):=by
 unfold tR;rw[w9,show 3*n-i=(3*n-1-i)+1 by omega,show 3*n-(i+1)=3*n-1-i by omega,List.replicate_succ',Ep];generalize 3*n-1-i=k;unfold gF;rw[sW,sW,UL _ _ s_];simp only[eY,H9,vA,sW,rF,Sw,EO,jo,List.set_cons_zero]
 congr 2
 rw[Nf,dK (cE _ d_)];rfl
theorem aNF(i:Nat)(hi:i<=3*n):(tR n a i).length=3*n:=by unfold tR;rw[ER,iZ,H9,JO];omega
theorem aNG{i:Nat}:a/bz^(i/3)%bz/2^(8*(i%3))%256=a/256^i%256:=by
 have e1:bz^(i/3)=256^(3*(i/3)):=by rw[show bz=256^3 from H8,<-rM]
 have e2:(2:Nat)^(8*(i%3))=256^(i%3):=by rw[rM]
 have e3:256^i=256^(3*(i/3))*256^(i%3):=by rw[<-ev];congr 1;omega
 rw[e1,e2,e3,<-kA];generalize a/256^(3*(i/3))=c;have e4:bz=256^(i%3)*(256*256^(2-i%3)):=by rw[show bz=256^3 from H8,<-Nat.pow_succ',<-ev];congr 1;omega
 rw[e4,AY,JF]
theorem aNH{i:Nat}(hi:i<3*n)(h63:n<35184372088832):
  ag prog Bs 45 (aF (af f131 0)) (FU n i) (zO n a i) 2 ⟨.normal,FU n (i+1),zO n a (i+1),2⟩:=by
 have hx:=gO (B:=bz) d_ a (i/3);have hb:=aNG (a:=a) (i:=i);have kO:du prog 3 (ai (ae bz n a)) (i/3)=some (vI (a/bz^(i/3)%bz)):=dO (ek o_);have bL:eW prog 5 (tR n a i) (3*n-1-i) (vb (a/256^i%256))=some (tR n a (i+1)):=by unfold vb;rw[aND _ _ _ (by rw[aNF _ o_];omega)];exact cI some (aNE hi)
 unfold FU zO;generalize tR n a (i+1)=r1 at *;generalize tR n a i=r0 at *;generalize ai (ae bz n a)=ra at *;generalize a/256^i%256=z at *;generalize a/bz^(i/3)%bz=x at *;have u4:(x:Int).fdiv (2^(min (8*(i%3)) IntKind.i64.bits))=((x/2^(8*(i%3)):Nat):Int):=by rw[show min (8*(i%3)) IntKind.i64.bits=8*(i%3)from nX (show 8*(i%3)<=64 by omega),rK _ (GZ d_),ti,G1];rfl
 generalize x/2^(8*(i%3))=y at *;exact aA [.lt 12 i (3*n) true (by simp[hi]),.eX 18 (3*n) 1 (3*n-1) o_ o_,.eX 20 (3*n-1) i (3*n-1-i) o_ o_,.FN 23 i 3 (i/3) rfl o_,.ix f131 24 0 n (i/3) o_ k_,.ld f131 25 3 0 (i/3) (.view ra) (vI x) rfl kO k_,.FM 27 i 3 (i%3) rfl,.sB 28 8 (i%3) (8*(i%3)) rfl o_,.shr f131 29 .i64 (x:Int) (y:Int) (8*(i%3)) u4 k_,.wr 30 .u8 (y:Int) (z:Int) (by rw[ZO];omega),.ix f131 31 1 (3*n) (3*n-1-i) o_ k_,.st f131 100031 5 1 (3*n-1-i) (.row r0 5 1) (vb z) (.row r1 5 1) rfl bL rfl k_,.sum 14 i 1 (i+1) rfl o_]
theorem Vf(h63:n<35184372088832):ag prog Bs 45 (.block 0 (af f131 0)) (FU n 0) (zO n a 0) 2 ⟨.normal,FU n (3*n),zO n a (3*n),2⟩:=
 bT (id:=0) (cd (b:=aF (af f131 0)) (r:=⟨.exit 0,FU n (3*n),zO n a (3*n),2⟩) (3*n) (FU n) (zO n a) (λk j _=>jN (l:=zO n a k) (m:=zO n a 0) rfl j) (λk hk=>aNH hk h63)
  (aA [.lt 12 (3*n) (3*n) false s_]) n_)
def xK(L i:Nat):aW:=[(3,.slice (some ⟨1,i*1,some 7⟩) (L-i) i)]
def xL(L a:Nat):aH:=[(1,.row (gF (gw L a)) 5 1)]
theorem Vg{L a:Nat}(h:a<256^L):gw L a=List.replicate (L-nd 256 a) 0++cg a:=by have hle:=ja (B:=256) d_ h;have:=ZF (n:=nd 256 a) (k:=L-nd 256 a) (dS (B:=256) d_ a);rw[show L-nd 256 a+nd 256 a=L by omega]at this;exact this
theorem aNI{L i:Nat}(h:a<256^L)(h0:a≠0)(hi:i<L-nd 256 a)(h63:L<9223372036854775807):
  ag prog Bs 45 (aF (af f131 2)) (xK L i) (xL L a) 2 ⟨.normal,xK L (i+1),xL L a,2⟩:=by
 have hp:=uB (B:=256) d_ h0;have iS:du prog 5 (gF (gw L a)) i=some (vb 0):=xJ _ _ (by rw[Vg h,Ni,Ji (by rw[ER];simpa using hi)];simp[gF,hi])
 unfold xK xL;generalize gF (gw L a)=r0 at *;obtain⟨m,hm⟩:∃ m,L-i=m+1:=⟨L-i-1,by omega⟩;have dB:L-(i+1)=m:=by omega
 rw[hm,dB];have e1:i*1=i:=fX i;exact aA [.gt 34 (m+1) 0 true s_,.pr f131 37 1 i (m+1) i 0 i 1 o_ (jn i) k_,.ld f131 38 5 1 (i*1) (.row r0 5 1) (vb 0) rfl (by rw[e1];exact iS) k_,.fk 39 0 0 true rfl,.next f131 42 1 i m 1 o_ k_]
theorem aNJ{L i:Nat}(h:a<256^L)(h0:a≠0)(hi:i=L-nd 256 a)(h63:L<9223372036854775807):
  ag prog Bs 45 (aF (af f131 2)) (xK L i) (xL L a) 2 ⟨.exit 2,xK L i,xL L a,2⟩:=by
 have hp:=uB (B:=256) d_ h0;have hle:=ja (B:=256) d_ h;obtain⟨c,l,hc,pJ⟩:=Ng h0;have iS:du prog 5 (gF (gw L a)) i=some (vb c.toNat):=xJ _ _ (by rw[Vg h,Ni,Eh (by rw[ER];simp;omega),ER,hc,hi];simp[gF])
 have aU:c.toNat≠0:=λe=>pJ (M8.1 e);unfold xK xL;generalize gF (gw L a)=r0 at *;obtain⟨m,hm⟩:∃ m,L-i=m+1:=⟨L-i-1,by omega⟩;rw[hm];have e1:i*1=i:=fX i;generalize c.toNat=d at *;exact aA [.gt 34 (m+1) 0 true s_,.pr f131 37 1 i (m+1) i 0 i 1 o_ (jn i) k_,.ld f131 38 5 1 (i*1) (.row r0 5 1) (vb d) rfl (by rw[e1];exact iS) k_,.fk 39 d 0 false (aN aU)]
theorem aNK{L:Nat}(h:a<256^L)(h0:a≠0)(h63:L<9223372036854775807):
  ag prog Bs 45 (.block 2 (af f131 2)) (xK L 0) (xL L a) 2 ⟨.normal,xK L (L-nd 256 a),xL L a,2⟩:=
 bT (id:=2) (cd (b:=aF (af f131 2)) (r:=⟨.exit 2,xK L (L-nd 256 a),xL L a,2⟩) (L-nd 256 a) (xK L) (λ_=>xL L a) (λ_ _ _=>Iff.rfl) (λk hk=>aNI h h0 hk h63)
  (aNJ h h0 rfl h63) n_)
end
theorem aNL{n a:Nat}(ha:a<bz^n)(h0:a≠0)(h63:n<35184372088832):cy prog 131 [.r n (ai (ae bz n a))] (.string (BA (cg a))):=by
 have hL:a<256^(3*n):=by rw[rM];exact ha
 have zv:=λBs=>Vf (Bs:=Bs) (a:=a) h63;have vQ:=λBs=>aNK (Bs:=Bs) hL h0 o_;have e0:List.replicate (3*n) (vb 0)=tR n a 0:=by unfold tR gF;simp[Nd,vb]
 have e1:tR n a (3*n)=gF (gw (3*n) a):=by unfold tR;rw[vA];rfl
 have hle:=ja (B:=256) d_ hL;have ht:((gF (gw (3*n) a)).drop ((3*n-nd 256 a)*1)).take (nd 256 a)=gF (cg a):=by rw[Vg hL,Ni,fX,Rc (by rw[ER];simp),ki (by rw[ER,tn];exact bj _)]
 unfold zO at zv;rw[e1]at zv;rw[<-e0]at zv;unfold xL at vQ;have hl:3*n-(3*n-nd 256 a)=nd 256 a:=by omega
 unfold xK at vQ;rw[hl]at vQ;exact gz mixed func131 (by simp[aR.ok,gU]) 100 (N:=45) k_ (λw=>[.sB 7 3 n (3*n) rfl o_,.pM f131 8 1 (3*n) 5 1 (vb 0) (List.replicate (3*n) (vb 0)) rfl rfl rfl o_ (by simp[maxLen];omega) k_,.code 0 _ _ _ _ _ (zv _),.code 2 _ _ _ _ _ (vQ _),.aNf f131 44 1 ((3*n-nd 256 a)*1) (nd 256 a) (3*n-nd 256 a) (cg a) (.row (gF (gw (3*n) a)) 5 1) rfl ht (tn a) k_]) (λw=>k_) rfl
theorem aNM:cy prog 131 [.r 0 (ai (ae bz 0 0))] (.string (BA (cg 0))):=by have zv:=λBs=>Vf (Bs:=Bs) (a:=0) (n:=0) o_;rw[CJ];exact gz mixed func131 (by simp[aR.ok,gU]) 100 (N:=45) k_ (λw=>[.sB 7 3 0 0 rfl o_,.pM f131 8 1 0 5 1 (vb 0) [] rfl rfl rfl o_ (by simp[maxLen]) k_,.code 0 _ _ _ _ _ (zv _),.gt 34 0 0 false rfl,.Sv f131 44 1 0 [] (.row [] 5 1) rfl rfl rfl k_]) (λw=>k_) rfl
noncomputable def Dx(Bs:aa)(i m:Nat)(h:0<m)(hl:du prog 5 (gF (List.replicate 9 0)) (i*1)=some (vb 0)):bA prog Bs 45:=[.gt 34 (m+1) 0 true s_,.pr f131 37 1 i (m+1) i 0 i 1 o_ (jn i) k_,.ld f131 38 5 1 (i*1) (.row (gF (List.replicate 9 0)) 5 1) (vb 0) rfl hl k_,.fk 39 0 0 true rfl,.next f131 42 1 i m 1 h k_]
theorem aNN:cy prog 131 [.r 3 (ai (ae bz 3 0))] (.string (BA (cg 0))):=by
 have zv:=λBs=>Vf (Bs:=Bs) (a:=0) (n:=3) o_;rw[CJ];exact gz mixed func131 (by simp[aR.ok,gU]) 300 (N:=45) k_ (λw=>[.sB 7 3 3 9 rfl o_,.pM f131 8 1 9 5 1 (vb 0) (List.replicate 9 (vb 0)) rfl rfl rfl o_ (by simp[maxLen]) k_,.code 0 _ _ _ _ _ (zv _)]++(Dx _ 0 8 o_ (xJ _ _ rfl)++(Dx _ 1 7 o_ (xJ _ _ rfl)++(Dx _ 2 6 o_ (xJ _ _ rfl)++(Dx _ 3 5 o_ (xJ _ _ rfl)++(Dx _ 4 4 o_ (xJ _ _ rfl)++(Dx _ 5 3 o_ (xJ _ _ rfl)++(Dx _ 6 2 o_ (xJ _ _ rfl)++(Dx _ 7 1 o_ (xJ _ _ rfl)++
  [.gt 34 1 0 true rfl,.pr f131 37 1 8 1 8 0 8 1 o_ rfl k_,.ld f131 38 5 1 8 (.row (gF (List.replicate 9 0)) 5 1) (vb 0) rfl (xJ _ _ rfl) k_,.fk 39 0 0 true rfl,.aNe f131 42 1 8 1 8 1 2 (.row (gF (List.replicate 9 0)) 5 1) rfl k_,.gt 34 0 0 false rfl,.Sv f131 44 2 0 [] (.view []) rfl rfl rfl k_]))))))))) (λw=>k_) rfl
structure PC(n a:Nat):Prop where
 lt:a<bz^n
 z:a=0->n=0\/n=3
 h63:n<35184372088832
theorem aCY{n a:Nat}(h:PC n a):cy prog 131 [.r n (ai (ae bz n a))] (.string (BA (cg a))):=by
 by_cases h0:a=0
 ·subst h0;rcases h.z rfl with rfl|rfl
  ·exact aNM
  ·exact aNN
 ·exact aNL h.lt h0 h.h63
theorem aNO{a:Nat}(h:nd bz a<35184372088832):PC (nd bz a) a:=⟨dS d_ a,λe=>.inl (by rw[e,o7]),h⟩
theorem aCZ{n a:Nat}(neg:Bool)(h:PC n a):cy prog 79 [.p (.bool neg),.r n (ai (ae bz n a))] (bM (sg neg a)):=by
 rw[<-uI];have e:(!((BA (cg a)).toList==(ByteArray.mk #[]).toList))=decide (a≠0):=by rw[qB];simp
 cases neg
 ·exact gz mixed func79 (by simp[aR.ok,gU];rfl) 100 (N:=15) k_ (λw=>[.step 7 (av f79 7) _ _ _ _ (dz (aCY h) (.w (k:=0) (cc:=0) (x:=.view (ai (ae bz n a))) rfl (gU _) (λe=>by subst e;rfl) .nil) (x:=.func 131) k_ k_ rfl)]) (λw=>k_) rfl
 ·exact gz mixed func79 (by simp[aR.ok,gU];rfl) 100 (N:=15) k_ (λw=>[.step 7 (av f79 7) _ _ _ _ (dz (aCY h) (.w (k:=0) (cc:=0) (x:=.view (ai (ae bz n a))) rfl (gU _) (λe=>by subst e;rfl) .nil) (x:=.func 131) k_ k_ rfl),.rw 11 (.bool (!((BA (cg a)).toList==(ByteArray.mk #[]).toList))) (.bool (decide (a≠0))) (by rw[e])]) (λw=>k_) rfl
theorem aVv(neg:Bool)(l:List UInt8):aE prog 55 [.agg #[.bool neg,.string (BA l)]] (.bool (xg neg l)):=by
 cases l with
 |nil=>exact aP func55 (λ_=>[.rw 5 (.bool ((BA []).toList==(ByteArray.mk #[]).toList)) (.bool true) (by rw[EH];rfl)])
 |cons c l=>
  have e:(((c.toNat:Nat):Int)!=0)=decide (c≠0):=by
   by_cases h:c=0
   ·subst h;rfl
   ·rw[aC h,uC];intro h2;exact h (M8.1 (by simpa using h2))
  exact aP func55 (λ_=>[.rw 5 (.bool ((BA (c::l)).toList==(ByteArray.mk #[]).toList)) (.bool false) (by rw[EH];rfl),.sx f55 11 (BA (c::l)) 0 c (by rw[JG];rfl) k_,.rw 12 (.bool (((c.toNat:Nat):Int)!=0)) (.bool (decide (c≠0))) (by rw[e])])
theorem aC0(neg:Bool){m:Nat}(h:neg=true->m≠0):xg neg (cg m)=true:=by
 by_cases hm:m=0
 ·subst hm;rw[CJ];cases neg
  ·rfl
  ·exact absurd rfl (h rfl)
 ·obtain⟨c,l,h1,h2⟩:=Ng hm;rw[h1];exact aC h2
theorem aVS(neg:Bool){m:Nat}(h:neg=true->m≠0):aE prog 55 [sv neg m] (.bool true):=by have:=aVv neg (cg m);rw[aC0 neg h]at this;exact this
theorem aVZ(z:Int):aE prog 55 [bM z] (.bool true):=
 rS (C:=λ_ v=>aE prog 55 [v] (.bool true)) (λ_=>aVS false n_) (λ_ hm=>aVS true λ_=>hm) z
theorem aVQ{z:Int}(h:z.natAbs<=9223372036854775808)(hz2:z<9223372036854775808):aE prog 44 [.int .i64 z] (bM z):=by
 obtain⟨m,hm⟩:∃ m,m=z.natAbs:=⟨_,rfl⟩;have aUY:m<18446744073709551616:=by omega
 have hb:PC 3 m:=⟨by
  have e:bz^3=4722366482869645213696:=by decide
  rw[e];omega,λ_=>.inr rfl,by omega⟩
 have jm:ai (ae bz 3 m)=[vI (m/bz^0%bz),vI (m/bz^1%bz),vI (m/bz^2%bz)]:=rfl;have hs:=λneg=>aCZ neg hb;obtain⟨x0,kK⟩:∃ x,x=m/bz^0%bz:=⟨_,rfl⟩;obtain⟨x1,uH⟩:∃ x,x=m/bz^1%bz:=⟨_,rfl⟩;obtain⟨x2,gL⟩:∃ x,x=m/bz^2%bz:=⟨_,rfl⟩;rw[<-kK,<-uH,<-gL]at jm;rw[jm]at hs;have kK:m%16777216=x0:=by rw[kK,rL,EJ]
 have uH:m/16777216%16777216=x1:=by rw[uH,CF]
 have gL:m/16777216/16777216=x2:=by rw[gL,show bz^2=16777216*16777216 by decide,<-kA];exact(dK (by show _<16777216;omega)).symm
 have u0:Int.tmod (m:Int) 16777216=(x0:Int):=by rw[yT o_];omega
 obtain⟨q,hq⟩:∃ q,q=m/16777216:=⟨_,rfl⟩;rw[<-hq]at uH gL;have uq:IntKind.u64.wrap (Int.tdiv (m:Int) 16777216)=(q:Int):=by rw[yS o_,jP];omega
 have u1:Int.tmod (q:Int) 16777216=(x1:Int):=by rw[yT o_];omega
 have u2:IntKind.u64.wrap (Int.tdiv (q:Int) 16777216)=(x2:Int):=by rw[yS o_,jP];omega
 have w0:IntKind.i64.wrap (x0:Int)=(x0:Int):=by rw[c8];omega
 have w1:IntKind.i64.wrap (x1:Int)=(x1:Int):=by rw[c8];omega
 have w2:IntKind.i64.wrap (x2:Int)=(x2:Int):=by rw[c8];omega
 have cN:∀ v∈[vI x0,vI x1,vI x2],flat v=true:=λv hv=>by simp at hv;rcases hv with rfl|rfl|rfl<;>rfl
 let tl:∀(Bs:aa) (t:Bool),bA prog Bs 25:=λBs t=>[.rw 11 (.bool (decide (z<0))) (.bool (decide (z<0))) rfl,.rw 13 (.int .u64 (Int.tmod (m:Int) 16777216)) (.int .u64 (x0:Int)) (by rw[u0]),.wr 14 .i64 (x0:Int) (x0:Int) w0,.wr 16 .u64 (Int.tdiv (m:Int) 16777216) (q:Int) uq,.rw 17 (.int .u64 (Int.tmod (q:Int) 16777216)) (.int .u64 (x1:Int)) (by rw[u1]),.wr 18 .i64 (x1:Int) (x1:Int) w1,.wr 20 .u64 (Int.tdiv (m:Int) 16777216) (q:Int) uq,.wr 21 .u64 (Int.tdiv (q:Int) 16777216) (x2:Int) u2,.wr 22 .i64 (x2:Int) (x2:Int) w2,.bs f44 23 1 3 3 1 [0,1,2] (vI 0) [vI x0,vI x1,vI x2] #[vI x0,vI x1,vI x2] (.row [vI x0,vI x1,vI x2] 3 1) rfl cN cN k_ rfl o_ o_ k_,.step 24 (av f44 24) _ _ _ _ (dz (hs t) (.p rfl (.w (k:=1) (cc:=0) (x:=.row [vI x0,vI x1,vI x2] 3 1) rfl rfl n_ .nil)) (x:=.func 79) k_ k_ rfl)]
 by_cases hz:z<0
 ·have e2:sg true m=z:=by show -(m:Int)=z;omega
  rw[<-show bM (sg true m)=bM z by rw[e2]];exact aP func44 (λ_=>.wr 5 .u64 z (z+18446744073709551616) (by rw[jP];omega)::.rw 7 (.bool (decide (z<0))) (.bool true) (by rw[aC hz])::
   .wr 9 .u64 (0-(z+18446744073709551616)) (m:Int) (by rw[jP];omega)::.rw 11 (.bool (decide (z<0))) (.bool true) (by rw[aC hz])::(tl _ true).tail)
 ·have e2:sg false m=z:=by show(m:Int)=z;omega
  rw[<-show bM (sg false m)=bM z by rw[e2]];exact aP func44 (λ_=>.wr 5 .u64 z (m:Int) (by rw[jP];omega)::.rw 7 (.bool (decide (z<0))) (.bool false) (by rw[aN hz])::
   .rw 11 (.bool (decide (z<0))) (.bool false) (by rw[aN hz])::(tl _ false).tail)
theorem aV8(z:Int):aE prog 57 [bM z] (.int .i64 z.sign):=by
 refine rS (C:=λz v=>aE prog 57 [v] (.int .i64 z.sign)) (λm=>?_) (λm hm=>?_) z
 ·by_cases h:m=0
  ·subst h;exact aP func57 (λ_=>[(aVS false (m:=0) n_).at 5,.rw 10 (.bool ((BA (cg 0)).toList==(ByteArray.mk #[]).toList)) (.bool true) (by rw[qB];rfl)])
  ·have e:((m:Nat):Int).sign=1:=Bi o_;rw[e];exact aP func57 (λ_=>[(aVS false (m:=m) n_).at 5,.rw 10 (.bool ((BA (cg m)).toList==(ByteArray.mk #[]).toList)) (.bool false) (by rw[qB,aN h])])
 ·have e:(-(m:Int)).sign=-1:=EZ o_;rw[e];exact aP func57 (λ_=>[(aVS true (m:=m) (λ_=>hm)).at 5,.rw 10 (.bool ((BA (cg m)).toList==(ByteArray.mk #[]).toList)) (.bool false) (by rw[qB,aN hm])])
theorem aVz(z:Int):aE prog 129 [bM z] (bM (-z)):=by
 refine rS (C:=λz v=>aE prog 129 [v] (bM (-z))) (λm=>?_) (λm hm=>?_) z
 ·by_cases h:m=0
  ·subst h;have e:bM (-((0:Nat):Int))=.agg #[.bool false,.string ⟨#[]⟩]:=by show Value.agg #[.bool false,.string (BA (cg 0))]=_;rw[CJ];rfl
   rw[e];exact aP func129 (λ_=>[(aVS false (m:=0) n_).at 4,.rw 9 (.bool ((BA (cg 0)).toList==(ByteArray.mk #[]).toList)) (.bool true) (by rw[qB];rfl)])
  ·have e:=uI true m;rw[<-show sg true m=-(m:Int)from rfl,<-e];unfold EV;rw[aC h];exact aP func129 (λ_=>[(aVS false (m:=m) n_).at 4,.rw 9 (.bool ((BA (cg m)).toList==(ByteArray.mk #[]).toList)) (.bool false) (by rw[qB,aN h])])
 ·have e:=uI false m;rw[JX,<-show sg false m=(m:Int)from rfl,<-e];exact aP func129 (λ_=>[(aVS true (m:=m) (λ_=>hm)).at 4,.rw 9 (.bool ((BA (cg m)).toList==(ByteArray.mk #[]).toList)) (.bool false) (by rw[qB,aN hm])])
theorem aNP(z:Int):aE prog 128 [bM z] (bM (z.natAbs:Int)):=by
 refine rS (C:=λz v=>aE prog 128 [v] (bM (z.natAbs:Int))) (λm=>?_) (λm hm=>?_) z
 ·exact aP func128 (λ_=>[(aVS false (m:=m) n_).at 4])
 ·rw[JW];exact aP func128 (λ_=>[(aVS true (m:=m) (λ_=>hm)).at 4])
section
variable{Bs:aa}{n a b:Nat}
def BT(n i:Nat):aW:=[(5,dh i),(0,sl 0 n),(1,sl 1 n)]
def sC(n a b:Nat):aH:=[(0,.view (ai (ae bz n a))),(1,.view (ai (ae bz n b)))]
theorem tS{x y:Nat}{t:Bool}(h:decide (x≠y)=t):Value.bool ((x:Int)!=(y:Int))=.bool t:=by
 rw[<-h];congr 1
 by_cases e:x=y
 ·subst e;simp
 ·rw[aC e,uC];omega
noncomputable def Vh(n a b j:Nat)(hj:j<n)(t:Bool)(h:decide (a/bz^j%bz≠b/bz^j%bz)=t)(more:bA prog Bs 41):bA prog Bs 41:=
 .rw 19 (dh (j+1)) (vI j) (dX j)::.ge 20 j 0 true s_::.rw 24 (dh (j+1)) (vI j) (dX j)::.ix f96 25 0 n j hj k_::.ld f96 26 3 0 j (.view (ai (ae bz n a))) (vI (a/bz^j%bz)) rfl (dO (ek hj)) k_::
  .rw 28 (dh (j+1)) (vI j) (dX j)::.ix f96 29 1 n j hj k_::.ld f96 30 3 1 j (.view (ai (ae bz n b))) (vI (b/bz^j%bz)) rfl (dO (ek hj)) k_::.rw 31 _ (.bool t) (tS h)::more
noncomputable def aC1(n a b j:Nat)(hj:j<n)(t:Bool)(h:decide (a/bz^j%bz<b/bz^j%bz)=t):bA prog Bs 41:=
 [.rw 33 (dh (j+1)) (vI j) (dX j),.ix f96 34 0 n j hj k_,.ld f96 35 3 0 j (.view (ai (ae bz n a))) (vI (a/bz^j%bz)) rfl (dO (ek hj)) k_,.rw 37 (dh (j+1)) (vI j) (dX j),.ix f96 38 1 n j hj k_,.ld f96 39 3 1 j (.view (ai (ae bz n b))) (vI (b/bz^j%bz)) rfl (dO (ek hj)) k_,.lt 40 (a/bz^j%bz) (b/bz^j%bz) t h]
theorem aNQ{j:Nat}(hj:j<n)(he:a/bz^j%bz=b/bz^j%bz)(h63:n<35184372088832):
  ag prog Bs 41 (aF (af f96 0)) (BT n (j+1)) (sC n a b) 2 ⟨.normal,BT n j,sC n a b,2⟩:=
 aA (Vh n a b j hj false (by simp[he]) [.rw 21 (dh (j+1)) (vI j) (dX j),.wr 22 .i64 ((j:Int)-1) ((j:Int)-1) (oH o_)])
theorem aNR{j:Nat}(hj:j<n)(ak:a/bz^j%bz<b/bz^j%bz):
  ag prog Bs 41 (aF (af f96 0)) (BT n (j+1)) (sC n a b) 2 ⟨.ret,[(4,.int .i64 (-1))],sC n a b,2⟩:=
 aA (Vh n a b j hj true (aC o_) (aC1 n a b j hj true (aC ak)))
theorem aNS{j:Nat}(hj:j<n)(ak:b/bz^j%bz<a/bz^j%bz):
  ag prog Bs 41 (aF (af f96 0)) (BT n (j+1)) (sC n a b) 2 ⟨.ret,[(4,.int .i64 1)],sC n a b,2⟩:=
 aA (Vh n a b j hj true (aC o_) (aC1 n a b j hj false (aN o_)))
theorem aNT:ag prog Bs 41 (aF (af f96 0)) (BT n 0) (sC n a b) 2 ⟨.exit 0,[],sC n a b,2⟩:=
 aA [.rw 20 (.bool (decide (((0:Nat):Int)-1>=0))) (.bool false) rfl]
theorem aNU(ha:a<bz^n)(hb:b<bz^n)(h63:n<35184372088832):
  ag prog Bs 41 (.block 0 (af f96 0)) (BT n n) (sC n a b) 2 (if a=b then⟨.normal,[],sC n a b,2⟩else⟨.ret,[(4,.int .i64 (gP a b))],sC n a b,2⟩):=by
 obtain⟨e,h1,h2,h3⟩:=yI (λt=>¬(t<n/\a/bz^(n-1-t)%bz=b/bz^(n-1-t)%bz)) n o_;have wZ:=Y8 ha hb e h1 λs hs=>(EI.1 (h3 s hs)).2;have go:∀(r:l5),r.ex≠.normal->ag prog Bs 41 (aF (af f96 0)) (BT n (n-e)) (sC n a b) 2 r->ag prog Bs 41 (.loop (aF (af f96 0))) (BT n n) (sC n a b) 2 r:=by
  intro r hr vz
  exact cd (P:=prog) (B:=Bs) (N:=41) (b:=aF (af f96 0)) (next:=2) (r:=r) e (λi=>BT n (n-i)) (λ_=>sC n a b) (λi k _=>Iff.rfl)
   (λi hi=>by
    have q:=EI.1 (h3 i hi);have e1:n-i=(n-(i+1))+1:=by omega
    have e2:n-1-i=n-(i+1):=by omega
    simp only[e1];exact aNQ o_ (by rw[<-e2];exact q.2) h63) vz hr
 by_cases CD:e=n
 ·have b9:a=b:=by rw[CD,vA,rL,EJ,EJ]at wZ;exact wZ
  rw[aw b9];have:=go ⟨.exit 0,[],sC n a b,2⟩ n_ (by rw[CD,vA];exact aNT);exact bT (id:=0) this
 ·have hj:n-e=(n-1-e)+1:=by omega
  have aU:a/bz^(n-1-e)%bz≠b/bz^(n-1-e)%bz:=λh=>h2 ⟨by omega,h⟩;rw[hj]at wZ go;have b9:a≠b:=λh=>aU (by rw[h]);rw[ao b9];rcases Ek aU with ak|s8
  ·have hl:=MW wZ ak;have e1:gP a b=-1:=by unfold gP;rw[aw hl]
   rw[e1];exact bT (id:=0) (go _ n_ (aNR o_ ak))
  ·have hl:=MW wZ.symm s8;have e1:gP a b=1:=by unfold gP;rw[ao o_,aw hl]
   rw[e1];exact bT (id:=0) (go _ n_ (aNS o_ s8))
end
theorem Vi{a b:Nat}(h1:nd bz a<35184372088832)(h2:nd bz b<35184372088832):cy prog 96 [jt a,jt b] (.int .i64 (gP a b)):=by
 have ha:=dS (B:=bz) d_ a;have hb:=dS (B:=bz) d_ b;have cX:nd bz a<nd bz b->a<b:=λh=>by
  rcases eF a b with h1|h1
  ·exact h1
  ·have:=iJ (B:=bz) d_ h1;omega
 have dB:nd bz b<nd bz a->b<a:=λh=>by
  rcases eF b a with h1|h1
  ·exact h1
  ·have:=iJ (B:=bz) d_ h1;omega
 have ay:([jt a,jt b].all aR.ok)=true:=by simp[H7]
 unfold jt cJ at ay ⊢;generalize nd bz a=n at *;generalize nd bz b=m at *;by_cases lA:n=m
 ·subst lA;have lo:=λBs=>aNU (Bs:=Bs) ha hb h1;by_cases b9:a=b
  ·simp only[aw b9]at lo;have e1:gP a b=0:=by unfold gP;rw[ao o_,ao o_]
   rw[e1];exact gz mixed func96 ay 100 (N:=41) k_ (λw=>[.rw 10 _ (.bool false) (tS (x:=n) (y:=n) s_),.wr 18 .i64 ((n:Int)-1) ((n:Int)-1) (oH o_),.code 0 _ _ _ _ _ (lo _)]) (λw=>k_) rfl
  ·simp only[ao b9]at lo;exact gz mixed func96 ay 100 (N:=41) k_ (λw=>[.rw 10 _ (.bool false) (tS (x:=n) (y:=n) s_),.wr 18 .i64 ((n:Int)-1) ((n:Int)-1) (oH o_),.code 0 _ _ _ _ _ (lo _)]) (λw=>k_) rfl
 ·rcases Ek lA with ak|s8
  ·have e1:gP a b=-1:=by unfold gP;rw[aw (cX ak)]
   rw[e1];exact gz mixed func96 ay 100 (N:=41) k_ (λw=>[.rw 10 _ (.bool true) (tS (x:=n) (y:=m) (aC lA)),.lt 15 n m true (aC ak)]) (λw=>k_) rfl
  ·have e1:gP a b=1:=by unfold gP;rw[ao (by have:=dB s8;omega),aw (dB s8)]
   rw[e1];exact gz mixed func96 ay 100 (N:=41) k_ (λw=>[.rw 10 _ (.bool true) (tS (x:=n) (y:=m) (aC lA)),.lt 15 n m false (aN o_)]) (λw=>k_) rfl
section
variable{Bs:aa}{m:Nat}{neg:Bool}
def Dy(m i:Nat):aW:=[(5,vI i),(1,ptr 0),(4,.int .u64 ((m/256^(nd 256 m-i):Nat):Int))]
def Dz(neg:Bool)(m:Nat):aH:=[(0,.aI [.bool neg,.string (BA (cg m))] 28)]
theorem aNV{m i:Nat}(h:i<nd 256 m):∃ c,(BA (cg m))[nd 256 m-1-i]?=some c/\c.toNat=m/256^i%256:=by
 obtain⟨c,h1,h2⟩:=Sf (BA (cg m)) (i:=i) (by rw[oG,tn];exact h);rw[oG,tn]at h1;refine⟨c,h1,?_⟩;rw[h2]
 congr 2
 show fP (BA (cg m)).data.toList=m;exact EP m
theorem aNW{i:Nat}(hi:i<nd 256 m)(hm:nd 256 m<=7):
  ag prog Bs 52 (aF (af f138 0)) (Dy m i) (Dz neg m) 1 ⟨.normal,Dy m (i+1),Dz neg m,1⟩:=by
 have ak:m<256^7:=cv (dS (B:=256) d_ m) (cZ d_ hm);obtain⟨c,gj,di⟩:=aNV (m:=m) (i:=nd 256 m-1-i) o_;have bH:(((BA (cg m)).size:Nat):Int)=(nd 256 m:Int):=by rw[oG,tn]
 unfold Dy Dz;generalize BA (cg m)=s at *;generalize nd 256 m=L at *;rw[show L-1-(L-1-i)=i by omega]at gj;obtain⟨j,hj⟩:∃ j,j=L-1-i:=⟨_,rfl⟩;have e1:L-i=j+1:=by omega
 have e2:L-(i+1)=j:=by omega
 rw[e1,e2];rw[<-hj]at di;have hd:m/256^j=m/256^(j+1)*256+m/256^j%256:=wT m j;rw[<-di]at hd;have hq:m/256^(j+1)<=m:=tj _ _;have nu:m/256^(j+1)*256<=m:=by rw[dx,<-kA];exact de (CP _ _) (tj _ _)
 generalize m/256^(j+1)=x at *;generalize m/256^j=y at *;have hc3:=c.toNat_lt;have Vj:(256:Nat)^7=72057594037927936:=by decide
 rw[Vj]at ak;have ws:IntKind.u64.wrap ((x:Int)*2^8)=((x*256:Nat):Int):=by rw[show((x:Int)*2^8)=((x*256:Nat):Int)by simp,jP];omega
 have wc:IntKind.u64.wrap (c.toNat:Int)=(c.toNat:Int):=by rw[jP];omega
 have wa:IntKind.u64.wrap (((x*256:Nat):Int)+(c.toNat:Int))=(y:Int):=by rw[jP];omega
 exact aA [.rw 18 (.int .i64 (s.size:Int)) (vI L) (by rw[bH];rfl),.lt 19 i L true (aC hi),.wr 23 .u64 ((x:Int)*2^8) _ ws,.sx f138 27 s i c gj k_,.wr 28 .u64 (c.toNat:Int) _ wc,.wr 29 .u64 _ _ wa,.sum 21 i 1 (i+1) rfl o_]
theorem aNX(hm:nd 256 m<=7):ag prog Bs 52 (.block 0 (af f138 0)) (Dy m 0) (Dz neg m) 1 ⟨.normal,Dy m (nd 256 m),Dz neg m,1⟩:=
 bT (id:=0) (cd (b:=aF (af f138 0)) (r:=⟨.exit 0,Dy m (nd 256 m),Dz neg m,1⟩) (nd 256 m) (Dy m) (λ_=>Dz neg m) (λ_ _ _=>Iff.rfl) (λk hk=>aNW hk hm)
  (aA [.rw 18 (.int .i64 ((BA (cg m)).size:Int)) (vI (nd 256 m)) (by rw[oG,tn];rfl),.lt 19 (nd 256 m) (nd 256 m) false s_]) n_)
end
theorem aNY{m:Nat}{neg:Bool}(hv:neg=true->m≠0)(hm:nd 256 m<=7):aE prog 138 [sv neg m] (.tuple #[.int .i64 (sg neg m),.bool true]):=by
 have lo:=λBs=>aNX (Bs:=Bs) (neg:=neg) hm;have ak:m<256^7:=cv (dS (B:=256) d_ m) (cZ d_ hm);have Vj:(256:Nat)^7=72057594037927936:=by decide
 rw[Vj]at ak;have e0:m/256^(nd 256 m-0)=0:=l8 (dS (B:=256) d_ m);have e1:m/256^(nd 256 m-nd 256 m)=m:=by rw[vA,rL,EJ]
 unfold Dy at lo;simp only[e0,e1]at lo;have bH:(((BA (cg m)).size:Nat):Int)=(nd 256 m:Int):=by rw[oG,tn]
 have mW:=aVS neg hv;unfold Dz at lo;unfold sv pb at mW ⊢;generalize BA (cg m)=s at *;generalize nd 256 m=L at *;have hle:decide ((L:Int)>8)=false:=aN o_;cases neg
 ·have w:IntKind.i64.wrap (m:Int)=(m:Int):=by rw[c8];omega
  exact aP func138 (λ_=>[mW.at 7,.rw 12 (.int .i64 (s.size:Int)) (vI L) (by rw[bH];rfl),.rw 13 (.bool (decide ((L:Int)>8))) (.bool false) (by rw[hle]),.code 0 _ _ _ _ _ (lo _),.rw 48 (.bool (decide ((m:Int)<9223372036854775808))) (.bool true) (by rw[aC o_]),.wr 51 .i64 (m:Int) (m:Int) w])
 ·have w0:IntKind.u64.wrap ((m:Int)-1)=(m:Int)-1:=by have:=hv rfl;rw[jP];omega
  have w1:IntKind.i64.wrap ((m:Int)-1)=(m:Int)-1:=by rw[c8];omega
  have w2:IntKind.i64.wrap (0-((m:Int)-1))=1-(m:Int):=by rw[c8];omega
  have w3:IntKind.i64.wrap (1-(m:Int)-1)=sg true m:=by rw[c8];show _=-(m:Int);omega
  exact aP func138 (λ_=>[mW.at 7,.rw 12 (.int .i64 (s.size:Int)) (vI L) (by rw[bH];rfl),.rw 13 (.bool (decide ((L:Int)>8))) (.bool false) (by rw[hle]),.code 0 _ _ _ _ _ (lo _),.rw 35 (.bool (decide ((m:Int)<=9223372036854775808))) (.bool true) (by rw[aC o_]),.wr 38 .u64 _ _ w0,.wr 39 .i64 _ _ w1,.wr 40 .i64 _ _ w2,.wr 41 .i64 _ _ w3])
theorem sD{m:Nat}{neg:Bool}(hv:neg=true->m≠0)(hm:nd 256 m<=7):aE prog 92 [sv neg m] (.tuple #[.int .i64 (sg neg m),.bool true]):=by
 have h:=aNY hv hm;have bH:(((BA (cg m)).size:Nat):Int)=(nd 256 m:Int):=by rw[oG,tn]
 unfold sv pb at h ⊢;generalize BA (cg m)=s at *;generalize nd 256 m=L at *;exact aP func92 (λ_=>[.rw 8 (.int .i64 (s.size:Int)) (vI L) (by rw[bH];rfl),.rw 9 (.bool (decide ((L:Int)>7))) (.bool false) (by rw[aN o_]),h.at 12])
theorem u5{m:Nat}{neg:Bool}(hm:¬nd 256 m<=7):aE prog 92 [sv neg m] (.tuple #[.int .i64 0,.bool false]):=by
 have bH:(((BA (cg m)).size:Nat):Int)=(nd 256 m:Int):=by rw[oG,tn]
 unfold sv pb;generalize BA (cg m)=s at *;generalize nd 256 m=L at *;exact aP func92 (λ_=>[.rw 8 (.int .i64 (s.size:Int)) (vI L) (by rw[bH];rfl),.rw 9 (.bool (decide ((L:Int)>7))) (.bool true) (by rw[aC o_])])
section
variable{Bs:aa}{N:Nat}
theorem aNZ(m:Nat):(nd 256 m+2)/3=nd bz m:=by
 have e:bz=256^3:=by decide
 have h1:nd bz m<=(nd 256 m+2)/3:=ja d_ (by rw[e,<-rM];exact cv (dS (B:=256) d_ m) (cZ d_ o_))
 have h2:nd 256 m<=3*nd bz m:=ja d_ (by have:=dS (B:=bz) d_ m;rw[e,<-rM]at this;rw[e];exact this)
 omega
theorem aC2{m:Nat}(h:nd 256 m<35184372088832):lM prog 93 [.p (pb m)] 3 1 (nd bz m) (cJ m):=by
 have hs:(BA (cg m)).size=nd 256 m:=by rw[oG,tn]
 have hv:kk (BA (cg m))=m:=by show fP (BA (cg m)).data.toList=m;exact EP m
 have:=aNc (s:=BA (cg m)) (by rw[hs];exact h);rw[hs,hv,aNZ]at this;exact this
theorem nM{x:Obj}{a k:Nat}(hr:x.reads=true)(hc:x.cells=cJ a){l:List aR}{vs:aj}{nd':List (Nat×Option Obj)}(h:fH Bs l vs nd'):fH Bs (jt a::l) (sl k (nd bz a)::vs) ((k,some x)::nd'):=by unfold jt;rw[<-hc];exact .w hr (by rw[hc];exact sn a) (λe=>by rw[hc];exact aMz e) h
def cr(a:Nat):Obj:=.row (cJ a) 3 1
def aY.eH(fn:Func)(key k m:Nat)(h:nd 256 m<35184372088832)(ho:dw (av fn key).op=some (.func 93)):aY prog Bs N:=
 .step key (av fn key) [.func (.func 93) #[] #[],pb m] [(k,none)] (sl k (nd bz m)) [(k,cr m)] (qI (aC2 h) (.p rfl .nil) ho k_ (sn m) k)
def aY.DA(fn:Func)(key k k1 k2 a b:Nat)(x1 x2:Obj)(tT:x1.reads=true)(gj:x1.cells=cJ a)(nD:x2.reads=true)(di:x2.cells=cJ b)(h1:nd bz a<35184372088832)(h2:nd bz b<35184372088832)
  (ho:dw (av fn key).op=some (.func 94)):aY prog Bs N:=
 .step key (av fn key) [.func (.func 94) #[] #[],sl k1 (nd bz a),sl k2 (nd bz b)] [(k,none),(k1,some x1),(k2,some x2)] (sl k (nd bz (a+b))) [(k,cr (a+b))] (qI (aCR h1 h2) (nM tT gj (nM nD di .nil)) ho k_ (sn _) k)
def aY.tU(fn:Func)(key k k1 k2 a b:Nat)(x1 x2:Obj)(tT:x1.reads=true)(gj:x1.cells=cJ a)(nD:x2.reads=true)(di:x2.cells=cJ b)(b9:b<=a)(h1:nd bz a<35184372088832)
  (ho:dw (av fn key).op=some (.func 97)):aY prog Bs N:=
 .step key (av fn key) [.func (.func 97) #[] #[],sl k1 (nd bz a),sl k2 (nd bz b)] [(k,none),(k1,some x1),(k2,some x2)] (sl k (nd bz (a-b))) [(k,cr (a-b))] (qI (aNu b9 h1) (nM tT gj (nM nD di .nil)) ho k_ (sn _) k)
def aY.PD(fn:Func)(key k k1 k2 a b:Nat)(x1 x2:Obj)(tT:x1.reads=true)(gj:x1.cells=cJ a)(nD:x2.reads=true)(di:x2.cells=cJ b)(h:nd bz a+nd bz b<35184372088832)
  (ho:dw (av fn key).op=some (.func 132)):aY prog Bs N:=
 .step key (av fn key) [.func (.func 132) #[] #[],sl k1 (nd bz a),sl k2 (nd bz b)] [(k,none),(k1,some x1),(k2,some x2)] (sl k (nd bz (a*b))) [(k,cr (a*b))] (qI (Ve h) (nM tT gj (nM nD di .nil)) ho k_ (sn _) k)
def aY.u7(fn:Func)(key k1 k2 a b:Nat)(x1 x2:Obj)(tT:x1.reads=true)(gj:x1.cells=cJ a)(nD:x2.reads=true)(di:x2.cells=cJ b)(h1:nd bz a<35184372088832)(h2:nd bz b<35184372088832)
  (ho:dw (av fn key).op=some (.func 96)):aY prog Bs N:=
 .step key (av fn key) [.func (.func 96) #[] #[],sl k1 (nd bz a),sl k2 (nd bz b)] [(k1,some x1),(k2,some x2)] (.int .i64 (gP a b)) [] (dz (Vi h1 h2) (nM tT gj (nM nD di .nil)) ho k_ rfl)
def aY.fq(fn:Func)(key k1 a:Nat)(neg:Bool)(x1:Obj)(tT:x1.reads=true)(gj:x1.cells=cJ a)(h1:nd bz a<35184372088832)
  (ho:dw (av fn key).op=some (.func 79)):aY prog Bs N:=
 .step key (av fn key) [.func (.func 79) #[] #[],.bool neg,sl k1 (nd bz a)] [(k1,some x1)] (bM (sg neg a)) [] (dz (aCZ neg (aNO h1)) (.p rfl (nM tT gj .nil)) ho k_ rfl)
theorem tV{m n:Nat}(h:m<2^n):nd bz m<=n:=ja d_ (cv h (aAg d_ n))
end
theorem DB{a b:Nat}{t:Bool}(h:decide (b<=a)=t):Value.bool (decide (gP a b>=0))=.bool t:=by
 rw[<-h];congr 1;rw[rI];unfold gP
 by_cases h1:a<b
 ·rw[aw h1];omega
 ·rw[ao h1];by_cases h2:b<a
  ·rw[aw h2];omega
  ·rw[ao h2];omega
theorem Ia{m:Nat}(h:nd 256 m<=7):m<72057594037927936:=by have ak:m<256^7:=cv (dS (B:=256) d_ m) (cZ d_ h);rwa[show(256:Nat)^7=72057594037927936 by decide]at ak
theorem DC(n:Bool)(m:Nat):-(m:Int)<=sg n m/\sg n m<=m:=by cases n<;>simp[sg]<;>omega
theorem aV4{n1 n2:Bool}{m1 m2 p q:Nat}(v1:n1=true->m1≠0)(v2:n2=true->m2≠0)(h1:m1<2^p)(h2:m2<2^q)(hp:p<=1099511627776)(hq:q<=1099511627776):
  aE prog 81 [sv n1 m1,sv n2 m2] (bM (sg n1 m1+sg n2 m2)):=by
 have b1:=tV h1;have b2:=tV h2;have c1:=vD h1;have c2:=vD h2;by_cases s1:nd 256 m1<=7/\nd 256 m2<=7
 ·obtain⟨s1,s2⟩:=s1;have g1:=DC n1 m1;have g2:=DC n2 m2;have l1:=Ia s1;have l2:=Ia s2;exact aP func81 (λ_=>[(aVS _ v1).at 12,(aVS _ v2).at 16,(sD v1 s1).at 22,(sD v2 s2).at 28,.wr 34 .i64 (sg n1 m1+sg n2 m2) (sg n1 m1+sg n2 m2) (by rw[c8];omega),(aVQ (z:=sg n1 m1+sg n2 m2) o_ o_).at 35])
 by_cases s1:nd 256 m1<=7
 ·have s2:¬nd 256 m2<=7:=λh=>(by assumption:¬(nd 256 m1<=7/\nd 256 m2<=7)) ⟨s1,h⟩;have same:∀ n:Bool,n1=n->n2=n->aE prog 81 [sv n1 m1,sv n2 m2] (bM (sg n1 m1+sg n2 m2)):=by
   rintro n rfl rfl
   have bs:nd bz (m1+m2)<35184372088832:=by
    have:=tV (m:=m1+m2) (n:=p+q+1) (by have e1:=cZ (show 0<2 by decide) (show p<=p+q by omega);have e2:=cZ (show 0<2 by decide) (show q<=p+q by omega);rw[dx];omega)
    omega
   have e:sg n2 m1+sg n2 m2=sg n2 (m1+m2):=by cases n2<;>simp[sg]<;>omega
   rw[e];cases n2
   ·exact aP func81 (λ_=>[(aVS _ v1).at 12,(aVS _ v2).at 16,(sD v1 s1).at 22,(u5 (neg:=false) s2).at 28,.eH f81 38 3 m1 o_ k_,.eH f81 41 4 m2 o_ k_,.DA f81 52 5 3 4 m1 m2 (cr m1) (cr m2) rfl rfl rfl rfl o_ o_ k_,.fq f81 53 5 (m1+m2) false (cr (m1+m2)) rfl rfl bs k_])
   ·exact aP func81 (λ_=>[(aVS _ v1).at 12,(aVS _ v2).at 16,(sD v1 s1).at 22,(u5 (neg:=true) s2).at 28,.eH f81 38 3 m1 o_ k_,.eH f81 41 4 m2 o_ k_,.DA f81 52 5 3 4 m1 m2 (cr m1) (cr m2) rfl rfl rfl rfl o_ o_ k_,.fq f81 53 5 (m1+m2) true (cr (m1+m2)) rfl rfl bs k_])
  have diff:n1≠n2->aE prog 81 [sv n1 m1,sv n2 m2] (bM (sg n1 m1+sg n2 m2)):=by
   intro aU;by_cases dR:m2<=m1
   ·have bs:nd bz (m1-m2)<35184372088832:=by have:=iJ (B:=bz) d_ (Bj m1 m2);omega
    have e:sg n1 m1+sg n2 m2=sg n1 (m1-m2):=by cases n1<;>cases n2<;>simp[sg]at aU ⊢<;>omega
    rw[e];cases n1<;>cases n2<;>first|exact absurd rfl aU|skip
    ·exact aP func81 (λ_=>[(aVS _ v1).at 12,(aVS _ v2).at 16,(sD v1 s1).at 22,(u5 (neg:=true) s2).at 28,.eH f81 38 3 m1 o_ k_,.eH f81 41 4 m2 o_ k_,.u7 f81 57 3 4 m1 m2 (cr m1) (cr m2) rfl rfl rfl rfl o_ o_ k_,.rw 58 _ (.bool true) (DB (aC dR)),.tU f81 63 5 3 4 m1 m2 (cr m1) (cr m2) rfl rfl rfl rfl dR o_ k_,.fq f81 64 5 (m1-m2) false (cr (m1-m2)) rfl rfl bs k_])
    ·exact aP func81 (λ_=>[(aVS _ v1).at 12,(aVS _ v2).at 16,(sD v1 s1).at 22,(u5 (neg:=false) s2).at 28,.eH f81 38 3 m1 o_ k_,.eH f81 41 4 m2 o_ k_,.u7 f81 57 3 4 m1 m2 (cr m1) (cr m2) rfl rfl rfl rfl o_ o_ k_,.rw 58 _ (.bool true) (DB (aC dR)),.tU f81 63 5 3 4 m1 m2 (cr m1) (cr m2) rfl rfl rfl rfl dR o_ k_,.fq f81 64 5 (m1-m2) true (cr (m1-m2)) rfl rfl bs k_])
   ·have bs:nd bz (m2-m1)<35184372088832:=by have:=iJ (B:=bz) d_ (Bj m2 m1);omega
    have e:sg n1 m1+sg n2 m2=sg n2 (m2-m1):=by cases n1<;>cases n2<;>simp[sg]at aU ⊢<;>omega
    rw[e];cases n1<;>cases n2<;>first|exact absurd rfl aU|skip
    ·exact aP func81 (λ_=>[(aVS _ v1).at 12,(aVS _ v2).at 16,(sD v1 s1).at 22,(u5 (neg:=true) s2).at 28,.eH f81 38 3 m1 o_ k_,.eH f81 41 4 m2 o_ k_,.u7 f81 57 3 4 m1 m2 (cr m1) (cr m2) rfl rfl rfl rfl o_ o_ k_,.rw 58 _ (.bool false) (DB (aN dR)),.tU f81 69 5 4 3 m2 m1 (cr m2) (cr m1) rfl rfl rfl rfl o_ o_ k_,.fq f81 70 5 (m2-m1) true (cr (m2-m1)) rfl rfl bs k_])
    ·exact aP func81 (λ_=>[(aVS _ v1).at 12,(aVS _ v2).at 16,(sD v1 s1).at 22,(u5 (neg:=false) s2).at 28,.eH f81 38 3 m1 o_ k_,.eH f81 41 4 m2 o_ k_,.u7 f81 57 3 4 m1 m2 (cr m1) (cr m2) rfl rfl rfl rfl o_ o_ k_,.rw 58 _ (.bool false) (DB (aN dR)),.tU f81 69 5 4 3 m2 m1 (cr m2) (cr m1) rfl rfl rfl rfl o_ o_ k_,.fq f81 70 5 (m2-m1) false (cr (m2-m1)) rfl rfl bs k_])
  by_cases h:n1=n2
  ·exact same n2 h rfl
  ·exact diff h
 ·have same:∀ n:Bool,n1=n->n2=n->aE prog 81 [sv n1 m1,sv n2 m2] (bM (sg n1 m1+sg n2 m2)):=by
   rintro n rfl rfl
   have bs:nd bz (m1+m2)<35184372088832:=by
    have:=tV (m:=m1+m2) (n:=p+q+1) (by have e1:=cZ (show 0<2 by decide) (show p<=p+q by omega);have e2:=cZ (show 0<2 by decide) (show q<=p+q by omega);rw[dx];omega)
    omega
   have e:sg n2 m1+sg n2 m2=sg n2 (m1+m2):=by cases n2<;>simp[sg]<;>omega
   rw[e];cases n2
   ·exact aP func81 (λ_=>[(aVS _ v1).at 12,(aVS _ v2).at 16,(u5 (neg:=false) s1).at 22,.eH f81 38 3 m1 o_ k_,.eH f81 41 4 m2 o_ k_,.DA f81 52 5 3 4 m1 m2 (cr m1) (cr m2) rfl rfl rfl rfl o_ o_ k_,.fq f81 53 5 (m1+m2) false (cr (m1+m2)) rfl rfl bs k_])
   ·exact aP func81 (λ_=>[(aVS _ v1).at 12,(aVS _ v2).at 16,(u5 (neg:=true) s1).at 22,.eH f81 38 3 m1 o_ k_,.eH f81 41 4 m2 o_ k_,.DA f81 52 5 3 4 m1 m2 (cr m1) (cr m2) rfl rfl rfl rfl o_ o_ k_,.fq f81 53 5 (m1+m2) true (cr (m1+m2)) rfl rfl bs k_])
  have diff:n1≠n2->aE prog 81 [sv n1 m1,sv n2 m2] (bM (sg n1 m1+sg n2 m2)):=by
   intro aU;by_cases dR:m2<=m1
   ·have bs:nd bz (m1-m2)<35184372088832:=by have:=iJ (B:=bz) d_ (Bj m1 m2);omega
    have e:sg n1 m1+sg n2 m2=sg n1 (m1-m2):=by cases n1<;>cases n2<;>simp[sg]at aU ⊢<;>omega
    rw[e];cases n1<;>cases n2<;>first|exact absurd rfl aU|skip
    ·exact aP func81 (λ_=>[(aVS _ v1).at 12,(aVS _ v2).at 16,(u5 (neg:=false) s1).at 22,.eH f81 38 3 m1 o_ k_,.eH f81 41 4 m2 o_ k_,.u7 f81 57 3 4 m1 m2 (cr m1) (cr m2) rfl rfl rfl rfl o_ o_ k_,.rw 58 _ (.bool true) (DB (aC dR)),.tU f81 63 5 3 4 m1 m2 (cr m1) (cr m2) rfl rfl rfl rfl dR o_ k_,.fq f81 64 5 (m1-m2) false (cr (m1-m2)) rfl rfl bs k_])
    ·exact aP func81 (λ_=>[(aVS _ v1).at 12,(aVS _ v2).at 16,(u5 (neg:=true) s1).at 22,.eH f81 38 3 m1 o_ k_,.eH f81 41 4 m2 o_ k_,.u7 f81 57 3 4 m1 m2 (cr m1) (cr m2) rfl rfl rfl rfl o_ o_ k_,.rw 58 _ (.bool true) (DB (aC dR)),.tU f81 63 5 3 4 m1 m2 (cr m1) (cr m2) rfl rfl rfl rfl dR o_ k_,.fq f81 64 5 (m1-m2) true (cr (m1-m2)) rfl rfl bs k_])
   ·have bs:nd bz (m2-m1)<35184372088832:=by have:=iJ (B:=bz) d_ (Bj m2 m1);omega
    have e:sg n1 m1+sg n2 m2=sg n2 (m2-m1):=by cases n1<;>cases n2<;>simp[sg]at aU ⊢<;>omega
    rw[e];cases n1<;>cases n2<;>first|exact absurd rfl aU|skip
    ·exact aP func81 (λ_=>[(aVS _ v1).at 12,(aVS _ v2).at 16,(u5 (neg:=false) s1).at 22,.eH f81 38 3 m1 o_ k_,.eH f81 41 4 m2 o_ k_,.u7 f81 57 3 4 m1 m2 (cr m1) (cr m2) rfl rfl rfl rfl o_ o_ k_,.rw 58 _ (.bool false) (DB (aN dR)),.tU f81 69 5 4 3 m2 m1 (cr m2) (cr m1) rfl rfl rfl rfl o_ o_ k_,.fq f81 70 5 (m2-m1) true (cr (m2-m1)) rfl rfl bs k_])
    ·exact aP func81 (λ_=>[(aVS _ v1).at 12,(aVS _ v2).at 16,(u5 (neg:=true) s1).at 22,.eH f81 38 3 m1 o_ k_,.eH f81 41 4 m2 o_ k_,.u7 f81 57 3 4 m1 m2 (cr m1) (cr m2) rfl rfl rfl rfl o_ o_ k_,.rw 58 _ (.bool false) (DB (aN dR)),.tU f81 69 5 4 3 m2 m1 (cr m2) (cr m1) rfl rfl rfl rfl o_ o_ k_,.fq f81 70 5 (m2-m1) false (cr (m2-m1)) rfl rfl bs k_])
  by_cases h:n1=n2
  ·exact same n2 h rfl
  ·exact diff h
theorem aVd{x y:Int}{p q:Nat}(h1:x.natAbs<2^p)(h2:y.natAbs<2^q)(hp:p<=1099511627776)(hq:q<=1099511627776):aE prog 81 [bM x,bM y] (bM (x+y)):=by revert h1 h2;refine E0 (C:=λx y v u=>x.natAbs<2^p->y.natAbs<2^q->aE prog 81 [v,u] (bM (x+y))) (λn1 n2 m1 m2 v1 v2 h1 h2=>?_) x y;rw[pU]at h1 h2;exact aV4 v1 v2 h1 h2 hp hq
theorem aVj{x y:Int}{p q:Nat}(h1:x.natAbs<2^p)(h2:y.natAbs<2^q)(hp:p<=1099511627776)(hq:q<=1099511627776):aE prog 134 [bM x,bM y] (bM (x-y)):=
 aP func134 (λ_=>[(aVZ x).at 6,(aVZ y).at 10,(aVz y).at 16,(aVd h1 (by rw[JW];exact h2) hp hq).at 17])
theorem La(m:Nat):Value.int .i64 ((BA (cg m)).size:Int)=vI (nd 256 m):=by rw[oG,tn];rfl
theorem aVL{x y:Int}{p q:Nat}(h1:x.natAbs<2^p)(h2:y.natAbs<2^q)(hp:p<=1099511627776)(hq:q<=1099511627776):aE prog 82 [bM x,bM y] (bM (x*y)):=by
 revert h1 h2;refine E0 (C:=λx y v u=>x.natAbs<2^p->y.natAbs<2^q->aE prog 82 [v,u] (bM (x*y))) (λn1 n2 m1 m2 v1 v2 h1 h2=>?_) x y;rw[pU]at h1 h2;have b1:=tV h1;have b2:=tV h2;have c1:=vD h1;have c2:=vD h2;have k1:=dS (B:=256) d_ m1;have k2:=dS (B:=256) d_ m2;have r1:=La m1;have r2:=La m2;have e:sg n1 m1*sg n2 m2=sg (n1 !=n2) (m1*m2):=by cases n1<;>cases n2<;>simp[sg,He,Hf]
 by_cases hs:nd 256 m1+nd 256 m2<=7
 ·have s1:=sD v1 (show nd 256 m1<=7 by omega);have s2:=sD v2 (show nd 256 m2<=7 by omega);have hb:m1*m2<72057594037927936:=by
   have h:m1*m2<256^(nd 256 m1+nd 256 m2):=by rw[ev];exact pN k1 k2
   have h7:=cZ (n:=256) d_ hs;rw[show(256:Nat)^7=72057594037927936 by decide]at h7;omega
  have g:=DC (n1 !=n2) (m1*m2);rw[<-e]at g;have w:=aVS n1 v1;have w2:=aVS n2 v2;unfold sv pb at s1 s2 w w2 ⊢;generalize nd 256 m1=L1 at *;generalize nd 256 m2=L2 at *;exact aP func82 (λ_=>[w.at 10,w2.at 14,.rw 20 _ (vI L1) r1,.rw 23 _ (vI L2) r2,.sum 24 L1 L2 (L1+L2) rfl o_,.rw 25 (.bool (decide (((L1+L2:Nat):Int)<=7))) (.bool true) (by rw[aC o_]),s1.at 28,s2.at 33,.wr 38 .i64 (sg n1 m1*sg n2 m2) (sg n1 m1*sg n2 m2) (by rw[c8];omega),(aVQ (z:=sg n1 m1*sg n2 m2) o_ o_).at 39])
 ·have bs:nd bz (m1*m2)<35184372088832:=by have:=tV (m:=m1*m2) (n:=p+q) (by rw[ev];exact pN h1 h2);omega
  rw[e];have w:=aVS n1 v1;have w2:=aVS n2 v2;cases n1<;>cases n2
  ·exact aP func82 (λ_=>[w.at 10,w2.at 14,.rw 20 _ (vI (nd 256 m1)) r1,.rw 23 _ (vI (nd 256 m2)) r2,.sum 24 (nd 256 m1) (nd 256 m2) (nd 256 m1+nd 256 m2) rfl o_,.rw 25 (.bool (decide (((nd 256 m1+nd 256 m2:Nat):Int)<=7))) (.bool false) (by rw[aN o_]),.eH f82 47 3 m1 o_ k_,.eH f82 50 4 m2 o_ k_,.PD f82 51 5 3 4 m1 m2 (cr m1) (cr m2) rfl rfl rfl rfl o_ k_,.fq f82 52 5 (m1*m2) false (cr (m1*m2)) rfl rfl bs k_])
  ·exact aP func82 (λ_=>[w.at 10,w2.at 14,.rw 20 _ (vI (nd 256 m1)) r1,.rw 23 _ (vI (nd 256 m2)) r2,.sum 24 (nd 256 m1) (nd 256 m2) (nd 256 m1+nd 256 m2) rfl o_,.rw 25 (.bool (decide (((nd 256 m1+nd 256 m2:Nat):Int)<=7))) (.bool false) (by rw[aN o_]),.eH f82 47 3 m1 o_ k_,.eH f82 50 4 m2 o_ k_,.PD f82 51 5 3 4 m1 m2 (cr m1) (cr m2) rfl rfl rfl rfl o_ k_,.fq f82 52 5 (m1*m2) true (cr (m1*m2)) rfl rfl bs k_])
  ·exact aP func82 (λ_=>[w.at 10,w2.at 14,.rw 20 _ (vI (nd 256 m1)) r1,.rw 23 _ (vI (nd 256 m2)) r2,.sum 24 (nd 256 m1) (nd 256 m2) (nd 256 m1+nd 256 m2) rfl o_,.rw 25 (.bool (decide (((nd 256 m1+nd 256 m2:Nat):Int)<=7))) (.bool false) (by rw[aN o_]),.eH f82 47 3 m1 o_ k_,.eH f82 50 4 m2 o_ k_,.PD f82 51 5 3 4 m1 m2 (cr m1) (cr m2) rfl rfl rfl rfl o_ k_,.fq f82 52 5 (m1*m2) true (cr (m1*m2)) rfl rfl bs k_])
  ·exact aP func82 (λ_=>[w.at 10,w2.at 14,.rw 20 _ (vI (nd 256 m1)) r1,.rw 23 _ (vI (nd 256 m2)) r2,.sum 24 (nd 256 m1) (nd 256 m2) (nd 256 m1+nd 256 m2) rfl o_,.rw 25 (.bool (decide (((nd 256 m1+nd 256 m2:Nat):Int)<=7))) (.bool false) (by rw[aN o_]),.eH f82 47 3 m1 o_ k_,.eH f82 50 4 m2 o_ k_,.PD f82 51 5 3 4 m1 m2 (cr m1) (cr m2) rfl rfl rfl rfl o_ k_,.fq f82 52 5 (m1*m2) false (cr (m1*m2)) rfl rfl bs k_])
theorem aVM{x y:Int}{p q:Nat}(h1:x.natAbs<2^p)(h2:y.natAbs<2^q)(hp:p<=1099511627776)(hq:q<=1099511627776):aE prog 170 [bM x,bM y] (.int .i64 (x-y).sign):=by
 have w1:=aVZ x;have w2:=aVZ y;have s1:=aV8 x;have s2:=aV8 y;have DD:∀ z:Int,z.sign=-1/\z<0\/z.sign=0/\z=0\/z.sign=1/\0<z:=λz=>by
  rcases NQ z 0 with h|h|h
  ·exact .inl ⟨EZ h,h⟩
  ·exact .inr (.inl ⟨by rw[h];rfl,h⟩)
  ·exact .inr (.inr ⟨Bi h,h⟩)
 have b1:=tV h1;have b2:=tV h2;have c1:=vD h1;have c2:=vD h2;by_cases hs:x.sign=y.sign
 ·have ho:x.sign*gP x.natAbs y.natAbs=(x-y).sign:=by unfold gP;rcases DD x with ⟨a1,a2⟩|⟨a1,a2⟩|⟨a1,a2⟩<;>rcases DD y with ⟨d1,d2⟩|⟨d1,d2⟩|⟨d1,d2⟩<;>rcases DD (x-y)with ⟨f1,f2⟩|⟨f1,f2⟩|⟨f1,f2⟩<;>rw[a1,f1]<;>rw[a1,d1]at hs<;>first|(exfalso;omega)|(split<;>first|omega|(split<;>omega))
  have hw:IntKind.i64.wrap (x.sign*gP x.natAbs y.natAbs)=(x-y).sign:=by rw[ho,c8];rcases DD (x-y)with ⟨f1,f2⟩|⟨f1,f2⟩|⟨f1,f2⟩<;>rw[f1]<;>rfl
  rw[<-hs]at s2;exact aP func170 (λ_=>[w1.at 8,w2.at 12,s1.at 16,s2.at 18,.rw 21 (.bool (x.sign !=x.sign)) (.bool false) s_,.eH f170 28 2 x.natAbs o_ k_,.eH f170 31 3 y.natAbs o_ k_,.u7 f170 32 2 3 x.natAbs y.natAbs (cr x.natAbs) (cr y.natAbs) rfl rfl rfl rfl o_ o_ k_,.wr 33 .i64 _ _ hw])
 ·have aU:(x.sign !=y.sign)=true:=uC.2 hs;by_cases ak:x.sign<y.sign
  ·have e:(x-y).sign=-1:=by rcases DD x with ⟨a1,a2⟩|⟨a1,a2⟩|⟨a1,a2⟩<;>rcases DD y with ⟨d1,d2⟩|⟨d1,d2⟩|⟨d1,d2⟩<;>rw[a1,d1]at ak<;>first|omega|exact EZ o_
   rw[e];exact aP func170 (λ_=>[w1.at 8,w2.at 12,s1.at 16,s2.at 18,.rw 21 (.bool (x.sign !=y.sign)) (.bool true) (by rw[aU]),.rw 24 (.bool (decide (x.sign<y.sign))) (.bool true) (by rw[aC ak])])
  ·have e:(x-y).sign=1:=by rcases DD x with ⟨a1,a2⟩|⟨a1,a2⟩|⟨a1,a2⟩<;>rcases DD y with ⟨d1,d2⟩|⟨d1,d2⟩|⟨d1,d2⟩<;>rw[a1,d1]at ak hs<;>first|omega|exact Bi o_
   rw[e];exact aP func170 (λ_=>[w1.at 8,w2.at 12,s1.at 16,s2.at 18,.rw 21 (.bool (x.sign !=y.sign)) (.bool true) (by rw[aU]),.rw 24 (.bool (decide (x.sign<y.sign))) (.bool false) (by rw[aN ak])])

section
variable{P:Program}{B:aa}{N:Nat}
def Vk(o:Oper):Bool:=match o.op with
 |.call c=>match c.callee,c.args.toList with
  |.builtin .min,[_,_]=>true
  |_,_=>false
 |_=>false
theorem aN0{o:Oper}(ho:Vk o=true){a b r:Nat}(hr:r=min a b):cB P B o [vI a,vI b] [] (vI r) []:=by
 unfold Vk at ho;split at ho
 ·rename_i c bP;split at ho
  ·rename_i p q h1 h2;refine(AA (λu hu=>by simp at hu;rcases hu with rfl|rfl<;>rfl) rfl λρ e7 w _=>?_).step;obtain⟨ce,ar,at'⟩:=c;dsimp only at h1 h2;subst h1;have e1:ar=#[p,q]:=by rw[<-xu (xs:=ar),h2]
   subst e1;rw[bP]at e7;simp[Op.operands,Call.operands]at e7;simp[execOp,bP,resolve,invoke,builtin,Builtin.min_,Builtin.min2,e7.1,e7.2,vI,hr];split<;>omega
  ·cases ho
 ·cases ho
def aY.PE(fn:Func)(key a b r:Nat)(hr:r=min a b)(ho:Vk (av fn key)=true):aY P B N:=
 .step key (av fn key) [vI a,vI b] [] (vI r) [] (aN0 ho hr)
theorem aN1{f:FuncId}{fn:Func}{l:List aR}{ty:TypeId}{size m:Nat}{xs cells:aj}{u:Value}{k:Nat}(gn:P.follows .mixedOrders=true)(hf:P.funcs[f]?=some fn)(hl:(l.all aR.ok)=true)(n:Nat){N:Nat}(hN:N=(eP 0 l).length+(fn.ntmps-(eP 0 l).length))
  (rs:∀ w,bA P (aa.at w) N) (h:∀ w,nA (fO (P:=P) fn n (eP 0 l) (js 0 l) (jG 0 l) (rs w)) [(k,.row cells ty size)]=nB (fO fn n (eP 0 l) (js 0 l) (jG 0 l) (rs w)) (.tuple #[.slice (some ⟨k,0,some 7⟩) m 0,u]) [(k,.row cells ty size)])
  (hx:(cells.all flat)=true) (hlen:m*size<=cells.length) (kL:cells.take (m*size)=xs) (hu:flat u=true):HW P f l ty size m xs u:=by
 intro w vs ct;obtain⟨ι,c,h1,h2,h3,h4,h5,h6,h7⟩:=vN ct (bh.1 hl) 0 _ _ (qx w) n_ (λ_ _=>rfl);refine rG gn hf hN n (h w) h6 h2 h4 h3 λau bY v' w' hle hc hm dy=>?_;obtain⟨cM,rfl,bd⟩:=hc.ug;obtain⟨p,q,hp,h8,h9⟩:=jx bd;have e:cM=#[p,q]:=vm.1 (by rw[hp]);subst e;rw[h9.eU hu];have:=vx hm (dy (k,_) (aV ..)) h8 hlen (bh.1 hx);rw[kL]at this;exact⟨p,rfl,this,hm.base⟩
theorem aN2{o:Oper}{x:Operand}{f:FuncId}{k j n m:Nat}{ty:TypeId}{cells xs:aj}{u:Value}(ho:dw o.op=some x)(eK:gi P f=true)(hn:0<n)(cN:∀ v∈cells,flat v=true)(AW:∀ v∈xs,flat v=true)(hu:flat u=true)(kz:0<m)
  (h:∀ w g cap cur,w.heap[g]?=some (.cells cur ty (0,0))->n<=cap->cap<=maxLen->cur.size=cap*1->cur.toList.take cells.length=cells->Calls P f #[.slice (some ⟨g,0,none⟩) n cap] w λe w'=>∃ z c',e=.returned (.tuple #[.slice (some ⟨g,z,none⟩) m c',u])/\AV g w w'/\(∃ fK,w'.heap[g]?=some (.cells fK ty (0,0))/\fK.size=cap*1)/\cK w' (.slice (some ⟨g,z,none⟩) m c') m xs) :
  cB P B o [.func (.func f) #[] #[],.slice (some ⟨k,0,some 7⟩) n 0] [(k,some (.row cells ty 1)),(j,none)] (.tuple #[.slice (some ⟨j,0,some 7⟩) m 0,u]) [(j,.view xs),(k,.dead)]:=by
 refine jB (fi:=[]) (ca:=[]) ho eK λι c w hm jQ args' bd=>?_;rw[jo,je]at bd;obtain⟨v,rfl,hv⟩:=lW bd;have hk:c k=some (.row cells ty 1):=jQ (k,_) s_;have hj:c j=none:=jQ (j,none) s_;rcases hv.gV rfl with ⟨_,h0,_⟩|⟨g,oo,cap,c',hb,lq,mC,he⟩
 ·omega
 ·dsimp only at hb he;have kg:c'=cap:=by omega
  subst kg;obtain⟨l,q1,q2⟩:=hm.born k _ hk;rw[hb]at q1;injection q1 with q1;subst q1;rcases q2 with q2|⟨b,aT,cur,e1,lY,dC,fV,iY⟩
  ·cases q2.1
  ·injection e1 with e1 e2 e3;subst e1;subst e2;subst e3;rw[he];refine(h w g c' cur lY lq dC fV (nr iY cN)).mono ?_
   rintro e w' ⟨z,c2,rfl,pP,⟨fK,p1,p2⟩,jm⟩
   have m1:=hm.write (y:=.row [] ty 1) hk rfl hb pP.os pP.tape pP.output pP.size (λj hj EG=>pP.block j hj EG) (.inr ⟨g,c',fK,rfl,p1,dC,p2,.nil⟩) n_ rfl;have m2:=m1.kill k (by unfold ba;rw[aw rfl];exact n_);have bN:j≠k:=λe=>by rw[e,hk]at hj;cases hj
   have hj2:ba (ba c k (.row [] ty 1)) k .dead j=none:=by unfold ba;rw[ao bN,ao bN];exact hj
   obtain⟨au,q1,q2,q3⟩:=yD m2 hj2 jm AW (λb o c3 e j' y o' aT il hy ux=>by
    injection e with e _ _;injection e with e;injection e with e _ _;subst e;unfold ba at il;by_cases PF:j'=k
    ·rw[aw PF]at il;injection il with il;subst il;cases hy
    ·rw[ao PF,ao PF]at il;exact PF (hm.inj j' k y _ _ _ _ _ _ il hy hk rfl ux hb))
   refine⟨au,_,rfl,q1,.tup (.cons q3 (.cons (.same hu) .nil)),?_⟩;refine q2.ext λi=>?_;show ba (ba c k .dead) j (.view xs) i=_;unfold ba;by_cases h1:i=j
   ·rw[aw h1,aw h1]
   ·rw[ao h1,ao h1];by_cases h2:i=k
    ·rw[aw h2,aw h2]
    ·rw[ao h2,ao h2,ao h2]
theorem aC3(x:Int)(k:Nat)(hk:k<=62):IntKind.i64.wrap (((BitVec.ofInt IntKind.i64.bits x)&&& (BitVec.ofInt IntKind.i64.bits (((2^k-1:Nat)):Int))).toNat:Int)=x%((2^k:Nat):Int):=by
 show IntKind.i64.wrap (((BitVec.ofInt 64 x)&&& (BitVec.ofInt 64 (((2^k-1:Nat)):Int))).toNat:Int)=_;have h2:2^k<=2^62:=cZ d_ hk;have h62:(2:Nat)^62=4611686018427387904:=by decide
 have hp:0<2^k:=cG d_;have e1:(BitVec.ofInt 64 (((2^k-1:Nat)):Int)).toNat=2^k-1:=by rw[BitVec.toNat_ofInt];omega
 have e2:((BitVec.ofInt 64 x).toNat:Int)=x%18446744073709551616:=by rw[BitVec.toNat_ofInt];omega
 rw[BitVec.toNat_and,e1,Nat.and_two_pow_sub_one_eq_mod,c8];have hd:((2^k:Nat):Int) ∣ 18446744073709551616:=by refine⟨((2^(64-k):Nat):Int),?_⟩;rw[<-nW,<-ev,show k+(64-k)=64 by omega];rfl
 have e3:(((BitVec.ofInt 64 x).toNat%2^k:Nat):Int)=x%((2^k:Nat):Int):=by rw[Vl,e2,Int.emod_emod_of_dvd _ hd]
 have h3:(BitVec.ofInt 64 x).toNat%2^k<2^k:=cE _ hp;rw[<-e3];omega
end
section
variable{Bs:aa}{n a d:Nat}
def aWc(n a d i:Nat):aW:=[(8,dh i),(6,sl 1 n),(7,vI (a/bz^i%d)),(0,sl 0 n),(1,vI d)]
def aVs(n a d i:Nat):aH:=[(0,.view (ai (ae bz n a))),(1,.row (ai (gv bz n i (a/d))) 3 1)]
theorem aVe{j:Nat}(hj:j<n)(hd:0<d)(mK:d<bz)(h63:n<35184372088832):
  ag prog Bs 38 (aF (af f219 0)) (aWc n a d (j+1)) (aVs n a d (j+1)) 2 ⟨.normal,aWc n a d j,aVs n a d j,2⟩:=by
 have bL:eW prog 3 (ai (gv bz n (j+1) (a/d))) j (vI (a/d/bz^j%bz))=some (ai (gv bz n j (a/d))):=by rw[wb (by rw[MT];exact hj),MV hj rfl]
 have kO:du prog 3 (ai (ae bz n a)) j=some (vI (a/bz^j%bz)):=dO (ek hj);have hr:a/bz^(j+1)%d<d:=cE _ hd;have hx:=gO (B:=bz) d_ a j;obtain⟨q1,q2⟩:=Y7 (B:=bz) d_ hd (iR mK) a j;have jJ:bz=16777216:=rfl;unfold aWc aVs;generalize ai (gv bz n (j+1) (a/d))=r0 at *;generalize ai (gv bz n j (a/d))=r1 at *;generalize ai (ae bz n a)=ra at *;generalize a/d/bz^j%bz=z at *;generalize a/bz^(j+1)%d=r at *;generalize a/bz^j%d=r' at *;generalize a/bz^j%bz=x at *;have nD:r<16777216:=by omega
 have hp:r*bz<281474976710656:=by rw[jJ];omega
 generalize hpe:r*bz=p at *;have CU:(d:Int)≠0:=by omega
 have w1:IntKind.i64.wrap (Int.tdiv ((p+x:Nat):Int) (d:Int))=(z:Int):=by have hq:(p+x)/d<=p+x:=tj _ _;rw[yS o_,<-ti,q1,c8];omega
 have w2:Int.tmod ((p+x:Nat):Int) (d:Int)=(r':Int):=by rw[yT o_,<-Vl,q2]
 exact aA [.rw 15 (dh (j+1)) (vI j) (dX j),.ge 16 j 0 true s_,.sB 20 r bz p hpe.symm o_,.rw 22 (dh (j+1)) (vI j) (dX j),.ix f219 23 0 n j hj k_,.ld f219 24 3 0 j (.view ra) (vI x) rfl kO k_,.sum 25 p x (p+x) rfl o_,.rw 27 (dh (j+1)) (vI j) (dX j),.pQ f219 30 .i64 ((p+x:Nat):Int) (d:Int) (z:Int) CU w1 k_,.ix f219 31 1 n j hj k_,.st f219 100031 3 1 j (.row r0 3 1) (vI z) (.row r1 3 1) rfl bL rfl k_,.th f219 34 .i64 ((p+x:Nat):Int) (d:Int) (r':Int) CU w2 k_,.rw 17 (dh (j+1)) (vI j) (dX j),.wr 18 .i64 ((j:Int)-1) ((j:Int)-1) (oH o_)]
theorem aVb(hd:0<d)(mK:d<bz)(h63:n<35184372088832):
  ag prog Bs 38 (.block 0 (af f219 0)) (aWc n a d n) (aVs n a d n) 2 ⟨.normal,aWc n a d 0,aVs n a d 0,2⟩:=by
 have:=cd (P:=prog) (B:=Bs) (N:=38) (b:=aF (af f219 0)) (next:=2) (r:=⟨.exit 0,aWc n a d 0,aVs n a d 0,2⟩) n (λi=>aWc n a d (n-i)) (λi=>aVs n a d (n-i))
  (λi k _=>jN (l:=aVs n a d (n-i)) (m:=aVs n a d (n-0)) rfl k)
  (λi hi=>by
   have e:n-i=(n-(i+1))+1:=by omega
   simp only[e];exact aVe o_ hd mK h63)
  (by
   have e:n-n=0:=by omega
   simp only[e];exact aA [.rw 16 (.bool (decide (((0:Nat):Int)-1>=0))) (.bool false) rfl]) n_
 exact bT this
end
theorem aC4{a d:Nat}(hd:0<d)(mK:d<bz)(h1:nd bz a<35184372088832):HW prog 219 [jt a,.p (vI d)] 3 1 (nd bz (a/d)) (cJ (a/d)) (vI (a%d)):=by
 have ha:=dS (B:=bz) d_ a;have ay:([jt a,aR.p (vI d)].all aR.ok)=true:=by simp[H7];rfl
 unfold jt cJ at ay ⊢;change HW _ _ _ _ _ _ (cJ (a/d)) _;generalize nd bz a=n at *;have hs:a/d<bz^n:=eL (tj _ _) ha;have e0:a/bz^n%d=0:=by rw[l8 ha];exact Nat.zero_mod _
 have e1:a/bz^0%d=a%d:=by rw[rL,EJ]
 have lo:=λBs=>aVb (Bs:=Bs) (n:=n) (a:=a) hd mK h1;have ez:List.replicate n (vI 0)=ai (gv bz n n (a/d)):=by rw[MU,KY]
 unfold aWc aVs at lo;rw[e0,e1,<-ez,Jy]at lo;generalize a%d=r at *;exact aN1 (k:=1) mixed func219 ay 100 (N:=38) k_ (λw=>[.pM f219 11 1 n 3 8 (vI 0) (List.replicate n (vI 0)) rfl rfl rfl o_ (by simp[maxLen];omega) k_,.wr 14 .i64 ((n:Int)-1) ((n:Int)-1) (oH o_),.code 0 _ _ _ _ _ (lo _),.Ds f219 36 1 n (a/d) (.row (ai (ae bz n (a/d))) 3 1) rfl rfl hs o_ k_])
   (λw=>k_) (gU _) (FO hs) (BQ hs) rfl
section
variable{B:Nat}
def sX(B U V q i:Nat):Int:=((U%B^i:Nat):Int)-(q:Int)*((V%B^i:Nat):Int)
def qT(B U V q i:Nat):Int:=sX B U V q i/((B^i:Nat):Int)
theorem aN3(U V q:Nat):qT B U V q 0=0:=by simp[qT,sX,tf]
theorem aN4(U V q i:Nat):sX B U V q (i+1)=sX B U V q i+(((U/B^i%B:Nat):Int)-(q:Int)*((V/B^i%B:Nat):Int))*((B^i:Nat):Int):=by unfold sX;rw[o8 U i,o8 V i];simp only[vC,nW,Int.sub_mul,Int.mul_add,Int.mul_assoc];omega
theorem Vm(hB:0<B)(U V q i:Nat):qT B U V q i+(((U/B^i%B:Nat):Int)-(q:Int)*((V/B^i%B:Nat):Int))=sX B U V q (i+1)/((B^i:Nat):Int):=by
 have hp:((B^i:Nat):Int)≠0:=by have:=cG (n:=i) hB;omega
 rw[aN4,aAl _ _ hp];rfl
theorem aN5(hB:0<B)(U V q i:Nat):(qT B U V q i+(((U/B^i%B:Nat):Int)-(q:Int)*((V/B^i%B:Nat):Int)))/(B:Int)=qT B U V q (i+1):=by
 have hp:(0:Int)<=((B^i:Nat):Int):=by omega
 rw[Vm hB,Int.ediv_ediv_of_nonneg hp];unfold qT
 congr 1
theorem aN6(hB:0<B)(U V q i:Nat):(sX B U V q i)%((B^i:Nat):Int)=((U:Int)-(q:Int)*(V:Int))%((B^i:Nat):Int):=by
 unfold sX;have e1:(U:Int)=((U%B^i:Nat):Int)+((B^i:Nat):Int)*((U/B^i:Nat):Int):=by rw[<-nW,<-vC,Nat.mod_add_div]
 have e2:(V:Int)=((V%B^i:Nat):Int)+((B^i:Nat):Int)*((V/B^i:Nat):Int):=by rw[<-nW,<-vC,Nat.mod_add_div]
 have e3:(U:Int)-(q:Int)*(V:Int)=(((U%B^i:Nat):Int)-(q:Int)*((V%B^i:Nat):Int))+((B^i:Nat):Int)*(((U/B^i:Nat):Int)-(q:Int)*((V/B^i:Nat):Int)):=by
  conv=>lhs;rw[e1,e2]
  rw[Int.mul_add,Int.mul_sub,Int.mul_left_comm (q:Int) ((B^i:Nat):Int)];omega
 rw[e3,aN7]
theorem aN8(hB:0<B){m U V q:Nat}(hq:q*V<=U+B^(m+1)):((fQ B m U V q:Nat):Int)=((U:Int)-(q:Int)*(V:Int))%((B^(m+1):Nat):Int):=by
 unfold fQ;rw[Vl,Int.natCast_sub hq,vC,nW];have:(U:Int)+((B^(m+1):Nat):Int)-(q:Int)*(V:Int)=((U:Int)-(q:Int)*(V:Int))+((B^(m+1):Nat):Int):=by omega
 rw[this,Int.add_emod_right]
theorem aN9(hB:0<B){m U V q i:Nat}(hq:q*V<=U+B^(m+1))(hi:i<=m):
  (qT B U V q i+(((U/B^i%B:Nat):Int)-(q:Int)*((V/B^i%B:Nat):Int)))%(B:Int)=((fQ B m U V q/B^i%B:Nat):Int):=by
 rw[Vm hB];have hp:(0:Int)<=((B^i:Nat):Int):=by omega
 have jd:0<((B^i:Nat):Int):=by have:=cG (n:=i) hB;omega
 -- both are the same digit of the number aUZ B^(i+1)
 have key:∀ x y:Int,x%((B^(i+1):Nat):Int)=y%((B^(i+1):Nat):Int)->x/((B^i:Nat):Int)%(B:Int)=y/((B^i:Nat):Int)%(B:Int):=by
  intro x y h;have one:∀ z:Int,z/((B^i:Nat):Int)%(B:Int)=z%((B^(i+1):Nat):Int)/((B^i:Nat):Int):=by
   intro z;have e:=Int.emod_add_mul_ediv z ((B^(i+1):Nat):Int);have hs:((B^(i+1):Nat):Int)=((B^i:Nat):Int)*(B:Int):=by rw[dx,nW]
   have e2:z/((B^i:Nat):Int)=z%((B^(i+1):Nat):Int)/((B^i:Nat):Int)+(B:Int)*(z/((B^(i+1):Nat):Int)):=by
    have h3:z=z%((B^(i+1):Nat):Int)+((B^i:Nat):Int)*((B:Int)*(z/((B^(i+1):Nat):Int))):=by rw[<-Int.mul_assoc,<-hs];exact e.symm
    conv=>lhs;rw[h3]
    rw[Int.add_mul_ediv_left _ _ o_]
   rw[e2,aN7];refine Int.emod_eq_of_lt (Int.ediv_nonneg (Int.emod_nonneg _ (by have:=cG (n:=i+1) hB;omega)) hp) ?_;have h4:z%((B^(i+1):Nat):Int)<((B^(i+1):Nat):Int):=Int.emod_lt_of_pos _ (by have:=cG (n:=i+1) hB;omega);rw[hs]at h4;exact Int.ediv_lt_of_lt_mul jd (by rw[S9];exact h4)
  rw[one,one,h]
 have h1:=key (sX B U V q (i+1)) ((fQ B m U V q:Nat):Int) (by
  rw[aN6 hB,aN8 hB hq];have hd:((B^(i+1):Nat):Int) ∣ ((B^(m+1):Nat):Int):=by refine⟨((B^(m-i):Nat):Int),?_⟩;rw[<-nW,<-ev];congr 2;omega
  rw[Int.emod_emod_of_dvd _ hd])
 rw[h1];simp only[Vl,ti]
theorem aOa(hB:0<B){m U V q:Nat}(hV:V<B^m)(hU:U<V*B)(hb:q*V<U+V):
  qT B U V q m+((U/B^m%B:Nat):Int)=if U<q*V then -1 else((fQ B m U V q/B^m%B:Nat):Int):=by
 have CQ:U<B^(m+1):=by rw[dx];exact cv hU (e6 _ (iR hV))
 have SD:V<=B^(m+1):=de (iR hV) (cZ hB o_);have hp:0<B^m:=cG hB;have h0:V/B^m%B=0:=qy hV (bj _) hB;have h1:=Vm hB U V q m;rw[h0,Int.natCast_zero,Int.mul_zero,Int.sub_zero]at h1;rw[h1];unfold sX;rw[dK CQ,dK (cv hV (cZ hB o_))];by_cases h:U<q*V
 ·rw[aw h];have e:(U:Int)-(q:Int)*(V:Int)=((U+B^m-q*V:Nat):Int)+((B^m:Nat):Int)*(-1):=by have:((q*V:Nat):Int)=(q:Int)*(V:Int):=nW ..;omega
  rw[e,Int.add_mul_ediv_left _ _ o_,<-ti,l8 o_];rfl
 ·rw[ao h];have e:(U:Int)-(q:Int)*(V:Int)=((U-q*V:Nat):Int):=by have:((q*V:Nat):Int)=(q:Int)*(V:Int):=nW ..;omega
  have e2:fQ B m U V q=U-q*V:=by
   unfold fQ;have:U+B^(m+1)-q*V=(U-q*V)+B^(m+1):=by omega
   rw[this,JQ,dK o_]
  have ak:(U-q*V)/B^m<B:=by rw[iv hp,cP B,<-dx];show U-q*V<B^(m+1);omega
  rw[e,e2,dK ak,<-ti]
theorem aOb(hB:0<B){m U V q:Nat}(hV:V<B^m)(hU:U<V*B)(hb:q*V<U+V)(h:U<q*V):eM B (fQ B m U V q) V m=1:=by
 have SD:V<=B^m:=iR hV;have hp:0<B^m:=cG hB;have hs:B^(m+1)=B^m*B:=dx ..;have CQ:U<B^(m+1):=by rw[hs];exact cv hU (e6 _ SD)
 have hBm:B^m<=B^(m+1):=cZ hB o_;obtain⟨t,ht⟩:∃ t,t=q*V-U:=⟨_,rfl⟩;have e1:fQ B m U V q=B^(m+1)-t:=by unfold fQ;rw[dK o_];omega
 have e2:(B^(m+1)-t)%B^m=B^m-t:=by
  obtain⟨c,hc⟩:∃ c,B=c+1:=⟨B-1,by omega⟩;have:B^(m+1)-t=(B^m-t)+B^m*c:=by
   have e3:B^m*B=B^m*c+B^m:=by rw[<-MR,Nat.succ_eq_add_one,<-hc]
   rw[hs,e3];omega
  rw[this,ED,dK o_]
 unfold eM;rw[e1,e2,dK hV];have:B^m-t+V=(V-t)+1*B^m:=by omega
 rw[this,o9 _ _ hp,l8 o_]
end
theorem aC5{B:Nat}(hB:0<B)(U V q i:Nat):-(q:Int)<=qT B U V q i/\qT B U V q i<=0:=by
 unfold qT sX;have hp:0<B^i:=cG hB;have h1:U%B^i<B^i:=cE _ hp;have h2:V%B^i<B^i:=cE _ hp;have h3:=jc q (iR h2);generalize U%B^i=u at *;generalize V%B^i=v at *;have e1:(q:Int)*(v:Int)=((q*v:Nat):Int):=by simp
 rw[e1];generalize q*v=s at *;generalize B^i=b at *;constructor
 ·rw[Int.le_ediv_iff_mul_le o_];have:-(q:Int)*(b:Int)=-((q*b:Nat):Int):=by simp[He]
  rw[this];omega
 ·have:((u:Int)-(s:Int))/(b:Int)<1:=Int.ediv_lt_of_lt_mul o_ o_;omega
section
variable{Bs:aa}{e L j T v1 v2 u2:Nat}{ru rv:aj}
def xM(e L j T q:Nat):aW:=[(15,vI q),(9,sl 3 (e+2)),(10,vI (e+2)),(14,vI T),(11,sl 8 L),(13,dh (j+1))]
def xN(ru rv:aj):aH:=[(8,.row ru 3 1),(3,.row rv 3 1)]
structure GU(e L j T v1 v2 u2:Nat)(ru rv:aj):Prop where
 hL:j+(e+2)+1<=L
 l1:du prog 3 rv (e+1)=some (vI v1)
 l0:du prog 3 rv e=some (vI v2)
 lu:du prog 3 ru (j+e)=some (vI u2)
 b1:v1<bz
 b0:v2<bz
 bu:u2<bz
 h63:L<35184372088832
noncomputable def Vn(g:GU e L j T v1 v2 u2 ru rv)(q r:Nat)(hq:q<bz)(hr:q*v1+r=T)(nD:r<2*bz)(t:Bool)(ht:decide (r*bz+u2<q*v2)=t)(more:bA prog Bs 238):bA prog Bs 238:=
 .eX 102 (e+2) 2 e o_ (by have:=g.hL;have:=g.h63;omega)::.ix f200 103 3 (e+2) e o_ k_::.ld f200 104 3 3 e (.row rv 3 1) (vI v2) rfl g.l0 k_::
 .sB 105 q v2 (q*v2) rfl (by
  have:=pN hq g.b0;have jJ:bz*bz=281474976710656:=by decide
  omega)::.eX 110 (e+2) 1 (e+1) o_ (by have:=g.hL;have:=g.h63;omega)::.ix f200 111 3 (e+2) (e+1) o_ k_::.ld f200 112 3 3 (e+1) (.row rv 3 1) (vI v1) rfl g.l1 k_::
 .sB 113 q v1 (q*v1) rfl (by
  have:=pN hq g.b1;have jJ:bz*bz=281474976710656:=by decide
  omega)::.eX 114 T (q*v1) r o_ (by
  have:=pN hq g.b1;have jJ:bz*bz=281474976710656:=by decide
  have jJ:bz=16777216:=rfl;omega)::.sB 115 r bz (r*bz) rfl (by
  have jJ:bz=16777216:=rfl;rw[jJ];omega)::.rw 117 (dh (j+1)) (vI j) (dX j)::.sum 119 j (e+2) (j+(e+2)) rfl (by have:=g.hL;have:=g.h63;omega)::.eX 120 (j+(e+2)) 2 (j+e) o_ (by have:=g.hL;have:=g.h63;omega)::
 .ix f200 121 8 L (j+e) (by have:=g.hL;omega) k_::.ld f200 122 3 8 (j+e) (.row ru 3 1) (vI u2) rfl g.lu k_::.sum 123 (r*bz) u2 (r*bz+u2) rfl (by have:=g.bu;have jJ:bz=16777216:=rfl;rw[jJ];omega)::.gt 124 (q*v2) (r*bz+u2) t ht::more
noncomputable def aC6(g:GU e L j T v1 v2 u2 ru rv)(q r:Nat)(hq:q<bz)(hr:q*v1+r=T)(nD:r<2*bz)(t:Bool)(ht:decide (r<bz)=t)(more:bA prog Bs 238):bA prog Bs 238:=
 .eX 130 (e+2) 1 (e+1) o_ (by have:=g.hL;have:=g.h63;omega)::.ix f200 131 3 (e+2) (e+1) o_ k_::.ld f200 132 3 3 (e+1) (.row rv 3 1) (vI v1) rfl g.l1 k_::
 .sB 133 q v1 (q*v1) rfl (by
  have:=pN hq g.b1;have jJ:bz*bz=281474976710656:=by decide
  omega)::.eX 134 T (q*v1) r o_ (by
  have:=pN hq g.b1;have jJ:bz*bz=281474976710656:=by decide
  have jJ:bz=16777216:=rfl;omega)::.lt 135 r bz t ht::more
theorem aOc(g:GU e L j T v1 v2 u2 ru rv){q r:Nat}(hq:q+1<bz)(hr:(q+1)*v1+r=T)(nD:r<bz)(ht:r*bz+u2<(q+1)*v2):
  ag prog Bs 238 (aF (af f200 2)) (xM e L j T (q+1)) (xN ru rv) 10 ⟨.normal,xM e L j T q,xN ru rv,10⟩:=
 fj mixed 200 (Vn g (q+1) r hq hr o_ true (aC ht) (aC6 g (q+1) r hq hr o_ true (aC nD) [.eX 138 (q+1) 1 q rfl (by have jJ:bz=16777216:=rfl;omega)])) k_
theorem aOd(g:GU e L j T v1 v2 u2 ru rv){q r:Nat}(hq:q<bz)(hr:q*v1+r=T)(nD:r<2*bz)(ht:¬r*bz+u2<q*v2):
  ag prog Bs 238 (aF (af f200 2)) (xM e L j T q) (xN ru rv) 10 ⟨.exit 2,xM e L j T q,xN ru rv,10⟩:=
 fj mixed 200 (Vn g q r hq hr nD false (aN ht) []) k_
theorem aOe(g:GU e L j T v1 v2 u2 ru rv){q r:Nat}(hq:q<bz)(hr:q*v1+r=T)(nD:r<2*bz)(ht:r*bz+u2<q*v2)(hr3:¬r<bz):
  ag prog Bs 238 (aF (af f200 2)) (xM e L j T q) (xN ru rv) 10 ⟨.exit 2,xM e L j T q,xN ru rv,10⟩:=
 fj mixed 200 (Vn g q r hq hr nD true (aC ht) (aC6 g q r hq hr nD false (aN hr3) [])) k_
theorem aOf(g:GU e L j T v1 v2 u2 ru rv){U V q0:Nat}(h:mg bz e U V T u2 v1 v2)(mL:q0=min (T/v1) (bz-1)):
  ∃ q,q<bz/\q*V<U+V/\U/V<=q/\∀ Bs,ag prog Bs 238 (.block 2 (af f200 2)) (xM e L j T q0) (xN ru rv) 10 ⟨.normal,xM e L j T q,xN ru rv,10⟩:=by
 have jJ:bz=16777216:=rfl;have ky:0<v1:=by have:=h.top;omega
 have qe:=h.small;have bL:=h.start;have aU0:q0<bz:=by rw[mL];exact eL (Nat.min_le_right _ _) o_
 have aU1:q0*v1<=T:=by
  have h1:q0<=T/v1:=by rw[mL];exact Nat.min_le_left _ _
  exact de (e6 _ h1) (CP _ _)
 obtain⟨r0,od⟩:∃ r0,r0=T-q0*v1:=⟨_,rfl⟩;have g0:A7 U V T v1 q0 r0:=⟨by omega,by rw[mL];exact Nat.le_min.2 ⟨bL.le,by omega⟩⟩
 have aOg:r0<2*bz:=by
  have hTb:T<v1*bz+bz:=by
   have h1:U<V*bz:=h.hU;rw[h.hT,iv (cG d_)];have h2:V<(v1+1)*bz^(e+1):=by rw[h.ky];exact(iv (cG d_)).1 (A9 _)
   have h3:=A8 h2 (show 0<bz by decide);have h4:(v1+1)*bz^(e+1)*bz=(v1*bz+bz)*bz^(e+1):=by rw[Bb,fA v1 1 bz,pO]
   omega
  by_cases hc:T/v1<=bz-1
  ·have e1:q0=T/v1:=by rw[mL];exact nX hc
   have e2:r0=T%v1:=by have:=jb T v1;rw[od,e1,cP];omega
   have:=cE T ky;have:=h.CN;omega
  ·have e1:q0=bz-1:=by rw[mL];exact Vo o_
   obtain⟨k,hk⟩:∃ k,bz=k+1:=⟨bz-1,by omega⟩;have e2:q0*v1+v1=v1*bz:=by rw[e1,hk,Nj,cP v1,fA,pO]
   have:=h.CN;omega
 obtain⟨c,c1,c2,c3⟩:=yI (λi=>¬((r0+i*v1)*bz+u2<(q0-i)*v2/\r0+i*v1<bz)) q0 (by rw[vA,lC];omega)
 have inv:∀ i,i<=c->A7 U V T v1 (q0-i) (r0+i*v1)/\r0+i*v1<2*bz/\i<=q0:=by
  intro i;induction i with
  |zero=>intro _;rw[GB,lC,jn];exact⟨g0,aOg,kT _⟩
  |succ i ih=>
   intro hi;obtain⟨i1,i2,i3⟩:=ih o_;obtain⟨k1,k2⟩:=EI.1 (c3 i o_);obtain⟨l1,l2⟩:=h.less i1 (.inr k1);have e1:r0+(i+1)*v1=r0+i*v1+v1:=by rw[fA,pO];omega
   have e2:q0-(i+1)=q0-i-1:=by omega
   have:=h.CN;rw[e1,e2];exact⟨l2,by omega,by omega⟩
 obtain⟨gc,gb,gq⟩:=inv c (bj _);have DE:=h.fin gc (by
  by_cases k1:(r0+c*v1)*bz+u2<(q0-c)*v2
  ·exact .inr (Ot λk2=>c2 ⟨k1,k2⟩)
  ·exact .inl ⟨by omega,by omega⟩)
 refine⟨q0-c,DE.1,DE.2,gc.le,λBs=>?_⟩
 have:=cd (P:=prog) (B:=Bs) (N:=238) (b:=aF (af f200 2)) (next:=10) (r:=⟨.exit 2,xM e L j T (q0-c),xN ru rv,10⟩) c (λi=>xM e L j T (q0-i)) (λ_=>xN ru rv) (λ_ _ _=>Iff.rfl)
  (λi hi=>by
   obtain⟨i1,i2,i3⟩:=inv i o_;obtain⟨j1,j2,j3⟩:=inv (i+1) o_;obtain⟨k1,k2⟩:=EI.1 (c3 i hi);obtain⟨q,hq⟩:∃ q,q0-i=q+1:=⟨q0-i-1,by omega⟩;have BF:q0-(i+1)=q:=by omega
   simp only[hq,BF]at i1 k1 ⊢;exact aOc g o_ i1.eq k2 k1)
  (by
   by_cases k1:(r0+c*v1)*bz+u2<(q0-c)*v2
   ·exact aOe g o_ gc.eq gb k1 (λk2=>c2 ⟨k1,k2⟩)
   ·exact aOd g o_ gc.eq gb k1) n_
 exact bT (id:=2) this
end
theorem aC7(x:Int):IntKind.i64.wrap (((BitVec.ofInt IntKind.i64.bits x)&&& (BitVec.ofInt IntKind.i64.bits 16777215)).toNat:Int)=x%16777216:=aC3 x 24 d_
theorem aC8(x:Int):x.fdiv ((2:Int)^24)=x/16777216:=rK _ d_
section
variable{Bs:aa}{e L j U V q R D:Nat}{rv:aj}
def DF(e L j U V q i:Nat):aW:=[(16,.int .i64 (qT bz U V q i)),(17,vI i),(10,vI (e+2)),(11,sl 8 L),(13,dh (j+1)),(15,vI q),(9,sl 3 (e+2))]
def pv(L j R D i:Nat):aj:=ai (c7 bz L (j+i) (fZ bz j R D) R)
def zQ(L j R D i:Nat)(rv:aj):aH:=[(8,.row (pv L j R D i) 3 1),(3,.row rv 3 1)]
structure SU(e L j U V q R D:Nat)(rv:aj):Prop where
 hL:j+(e+2)+1<=L
 hU:U=R/bz^j
 xO:rv=ai (ae bz (e+2) V)
 hq:q<bz
 hD:D=fQ bz (e+2) U V q
 Lb:q*V<=U+bz^(e+2+1)
 h63:L<35184372088832
theorem aOh(g:SU e L j U V q R D rv){i:Nat}(hi:i<e+2):
  ag prog Bs 238 (aF (af f200 4)) (DF e L j U V q i) (zQ L j R D i rv) 10 ⟨.normal,DF e L j U V q (i+1),zQ L j R D (i+1) rv,10⟩:=by
 have h63:=g.h63;have hL:=g.hL;have hq:=g.hq;have hc:=aC5 (B:=bz) d_ U V q i;have hs:=aN9 (B:=bz) d_ (i:=i) g.Lb o_;rw[<-g.hD]at hs;have di:=aN5 (B:=bz) d_ U V q i;have Vp:du prog 3 (pv L j R D i) (j+i)=some (vI (U/bz^i%bz)):=by have:=dO (Cr (B:=bz) (n:=L) (i:=j+i) (s:=fZ bz j R D) (p:=R) (j:=j+i) o_ (bj _));rw[G3,<-g.hU]at this;exact this
 have Vq:du prog 3 rv i=some (vI (V/bz^i%bz)):=by rw[g.xO];exact dO (ek hi)
 have bL:eW prog 3 (pv L j R D i) (j+i) (vI (D/bz^i%bz))=some (pv L j R D (i+1)):=by unfold pv;rw[wb (by rw[wS];omega),yJ o_ (xc d_ j R D i).symm];rfl
 have hu:=gO (B:=bz) d_ U i;have hv:=gO (B:=bz) d_ V i;have jJ:bz=16777216:=rfl;have aOi:((bz:Nat):Int)=16777216:=rfl;rw[aOi]at hs di;unfold DF zQ;generalize pv L j R D (i+1)=r1 at *;generalize pv L j R D i=r0 at *;generalize qT bz U V q (i+1)=c' at *;generalize qT bz U V q i=c at *;generalize D/bz^i%bz=z at *;generalize U/bz^i%bz=u at *;generalize V/bz^i%bz=v at *;have hp:=pN hq hv;rw[show bz*bz=281474976710656 by decide]at hp;have e1:(q:Int)*(v:Int)=((q*v:Nat):Int):=by simp
 rw[e1]at hs di;generalize Vr:q*v=p at *;have w1:IntKind.i64.wrap ((u:Int)-(p:Int))=(u:Int)-(p:Int):=by rw[c8];omega
 have w2:IntKind.i64.wrap (c+((u:Int)-(p:Int)))=c+((u:Int)-(p:Int)):=by rw[c8];omega
 generalize hx:c+((u:Int)-(p:Int))=x at *;have w3:=aC7 x;rw[hs]at w3;have w4:=aC8 x;rw[di]at w4;exact fj mixed 200 [.lt 141 i (e+2) true (by simp[hi]),.rw 146 (dh (j+1)) (vI j) (dX j),.sum 148 j i (j+i) rfl o_,.ix f200 149 8 L (j+i) o_ k_,.ld f200 150 3 8 (j+i) (.row r0 3 1) (vI u) rfl Vp k_,.ix f200 154 3 (e+2) i hi k_,.ld f200 155 3 3 i (.row rv 3 1) (vI v) rfl Vq k_,.sB 156 q v p Vr.symm o_,.wr 157 .i64 _ _ w1,.wr 158 .i64 (c+((u:Int)-(p:Int))) x (by rw[hx];exact w2),.rw 160 (dh (j+1)) (vI j) (dX j),.sum 162 j i (j+i) rfl o_,.wr 164 .i64 _ (z:Int) w3,.ix f200 165 8 L (j+i) o_ k_,.st f200 100165 3 8 (j+i) (.row r0 3 1) (vI z) (.row r1 3 1) rfl bL rfl k_,.quo 167 .i64 _ c' w4,.sum 143 i 1 (i+1) rfl o_] k_
theorem aOj(g:SU e L j U V q R D rv):ag prog Bs 238 (.block 4 (af f200 4)) (DF e L j U V q 0) (zQ L j R D 0 rv) 10 ⟨.normal,DF e L j U V q (e+2),zQ L j R D (e+2) rv,10⟩:=
 bT (id:=4) (cd (b:=aF (af f200 4)) (r:=⟨.exit 4,DF e L j U V q (e+2),zQ L j R D (e+2) rv,10⟩) (e+2) (DF e L j U V q) (λi=>zQ L j R D i rv) (λk t _=>jN (l:=zQ L j R D k rv) (m:=zQ L j R D 0 rv) rfl t) (λk hk=>aOh g hk)
  (fj mixed 200 [.lt 141 (e+2) (e+2) false s_] k_) n_)
def DH(e L j V D q i:Nat):aW:=[(16,vI (eM bz D V i)),(18,vI i),(10,vI (e+2)),(11,sl 8 L),(13,dh (j+1)),(15,vI q),(9,sl 3 (e+2))]
def qf(L j R D E m i:Nat):aj:=(ai (c7 bz L (j+i) (fZ bz j R E) (fZ bz j R D))).set (j+m) (.int .i64 (-1))
def zR(L j R D E m i:Nat)(rv:aj):aH:=[(8,.row (qf L j R D E m i) 3 1),(3,.row rv 3 1)]
theorem aOk{E:Nat}(hL:j+(e+2)+1<=L)(xO:rv=ai (ae bz (e+2) V))(hE:E=(D+V)%bz^(e+2+1))(h63:L<35184372088832){i:Nat}(hi:i<e+2):
  ag prog Bs 238 (aF (af f200 6)) (DH e L j V D q i) (zR L j R D E (e+2) i rv) 10 ⟨.normal,DH e L j V D q (i+1),zR L j R D E (e+2) (i+1) rv,10⟩:=by
 have hc:=AU (B:=bz) d_ D V i;have hs:=SE (B:=bz) (V:=V) d_ (D:=D) (show i<=e+2 by omega);rw[<-hE]at hs;have di:=EB (B:=bz) d_ D V i;have Vp:du prog 3 (qf L j R D E (e+2) i) (j+i)=some (vI (D/bz^i%bz)):=by unfold qf;rw[FF,List.getElem?_set_ne o_,<-FF,dO (Cr o_ (bj _)),xc d_]
 have Vq:du prog 3 rv i=some (vI (V/bz^i%bz)):=by rw[xO];exact dO (ek hi)
 have bL:eW prog 3 (qf L j R D E (e+2) i) (j+i) (vI (E/bz^i%bz))=some (qf L j R D E (e+2) (i+1)):=by unfold qf;unfold vI;rw[Pq _ _ _ (by rw[Vt,lN,wS];omega),List.set_comm _ _ o_];have:=Pr (c7 bz L (j+i) (fZ bz j R E) (fZ bz j R D)) (j+i) (E/bz^i%bz);unfold vI at this;rw[this,yJ o_ (xc d_ j R E i).symm];rfl
 have hu:=gO (B:=bz) d_ D i;have hv:=gO (B:=bz) d_ V i;have jJ:bz=16777216:=rfl;unfold DH zR;generalize qf L j R D E (e+2) (i+1)=r1 at *;generalize qf L j R D E (e+2) i=r0 at *;generalize eM bz D V (i+1)=c' at *;generalize eM bz D V i=c at *;generalize E/bz^i%bz=z at *;generalize D/bz^i%bz=u at *;generalize V/bz^i%bz=v at *;rw[show u+v+c=c+(u+v)by omega]at hs di;have w3:=aC7 ((c+(u+v):Nat):Int);have w4:=aC8 ((c+(u+v):Nat):Int);rw[show((c+(u+v):Nat):Int)%16777216=(z:Int)by rw[<-hs];rfl]at w3;rw[show((c+(u+v):Nat):Int)/16777216=(c':Int)by rw[<-di];rfl]at w4;exact fj mixed 200 [.lt 188 i (e+2) true (by simp[hi]),.rw 193 (dh (j+1)) (vI j) (dX j),.sum 195 j i (j+i) rfl o_,.ix f200 196 8 L (j+i) o_ k_,.ld f200 197 3 8 (j+i) (.row r0 3 1) (vI u) rfl Vp k_,.ix f200 200 3 (e+2) i hi k_,.ld f200 201 3 3 i (.row rv 3 1) (vI v) rfl Vq k_,.sum 202 u v (u+v) rfl o_,.sum 203 c (u+v) (c+(u+v)) rfl o_,.rw 205 (dh (j+1)) (vI j) (dX j),.sum 207 j i (j+i) rfl o_,.wr 209 .i64 _ (z:Int) w3,.ix f200 210 8 L (j+i) o_ k_,.st f200 100210 3 8 (j+i) (.row r0 3 1) (vI z) (.row r1 3 1) rfl bL rfl k_,.quo 212 .i64 _ (c':Int) w4,.sum 190 i 1 (i+1) rfl o_] k_
theorem aOl{E:Nat}(hL:j+(e+2)+1<=L)(xO:rv=ai (ae bz (e+2) V))(hE:E=(D+V)%bz^(e+2+1))(h63:L<35184372088832):
  ag prog Bs 238 (.block 6 (af f200 6)) (DH e L j V D q 0) (zR L j R D E (e+2) 0 rv) 10 ⟨.normal,DH e L j V D q (e+2),zR L j R D E (e+2) (e+2) rv,10⟩:=
 bT (id:=6) (cd (b:=aF (af f200 6)) (r:=⟨.exit 6,DH e L j V D q (e+2),zR L j R D E (e+2) (e+2) rv,10⟩) (e+2) (DH e L j V D q) (λi=>zR L j R D E (e+2) i rv) (λk t _=>jN (l:=zR L j R D E (e+2) k rv) (m:=zR L j R D E (e+2) 0 rv) rfl t) (λk hk=>aOk hL xO hE h63 hk)
  (fj mixed 200 [.lt 188 (e+2) (e+2) false s_] k_) n_)
end
theorem aOm{B L i S R:Nat}(hi:i<L)(hR:R<B^(i+1))(hS:S<B^(i+1))(hB:0<B)(x:Value):(ai (c7 B L i S R)).set i x=(ai (ae B L S)).set i x:=by have h:=yJ (B:=B) (n:=L) (i:=i) (s:=S) (p:=R) hi rfl;rw[EU hB hR hS]at h;rw[<-h,<-Pr,List.set_set]
structure Lc(e L A V:Nat):Prop where
 hV:V<bz^(e+2)
 top:bz<=2*(V/bz^(e+1))
 hL:e+3<=L
 hA:A<V*bz^(L-(e+2))
 h63:L<35184372088832
theorem Lc.pos{e L A V:Nat}(h:Lc e L A V):0<V:=by
 rcases ob V with e1|e1
 ·have:=h.hA;rw[e1,lC]at this;omega
 ·exact e1
section
variable{Bs:aa}{e L A V p:Nat}
def DI(e L p j:Nat):aW:=[(13,dh j),(12,sl 9 p),(10,vI (e+2)),(9,sl 3 (e+2)),(11,sl 8 L)]
def zT(e L A V p j:Nat):aH:=[(8,.row (ai (ae bz L (A%(V*bz^j)))) 3 1),(9,.row (ai (gv bz p j (A/V))) 3 1),(3,.row (ai (ae bz (e+2) V)) 3 1)]
theorem aOn(h:Lc e L A V){j:Nat}(hp:p+(e+2)=L)(hj:j<p):
  ag prog Bs 238 (aF (af f200 0)) (DI e L p (j+1)) (zT e L A V p (j+1)) 10 ⟨.normal,DI e L p j,zT e L A V p j,10⟩:=by
 have h63:=h.h63;have qz:=h.pos;have hV:=h.hV;have AN:j+(e+2)+1<=L:=by omega
 obtain⟨R,hR⟩:∃ R,R=A%(V*bz^(j+1)):=⟨_,rfl⟩;obtain⟨U,hU⟩:∃ U,U=R/bz^j:=⟨_,rfl⟩;have Ib:U<V*bz:=by rw[hU,hR];exact Z1 d_ qz A j
 have rm:=ZZ (B:=bz) d_ A V j;have aC9:=Z0 (B:=bz) A V j;rw[<-hR,<-hU]at rm aC9;have y0:R<bz^(j+(e+2)+1):=by
  have h1:R<V*bz^(j+1):=by rw[hR];exact cE _ (qA qz (cG d_))
  have h2:V*bz^(j+1)<=bz^(e+2)*bz^(j+1):=e6 _ (iR hV);rw[<-ev,show e+2+(j+1)=j+(e+2)+1 by omega]at h2;omega
 have aOo:U<bz^(e+2+1):=by rw[dx];exact cv Ib (e6 _ (iR hV))
 obtain⟨T,hT⟩:∃ T,T=U/bz^(e+1):=⟨_,rfl⟩;obtain⟨v1,ky⟩:∃ v1,v1=V/bz^(e+1):=⟨_,rfl⟩;have aDa:V/bz^(e+1)%bz=v1:=by rw[ky];exact EA hV
 have aDb:v1<bz:=by rw[<-aDa];exact cE _ d_
 have ds:mg bz e U V T (U/bz^e%bz) v1 (V/bz^e%bz):={ hB:=by decide,hU:=Ib,hT:=hT,hu:=rfl,ky:=ky,iu:=rfl,top:=by rw[ky];exact h.top,CN:=aDb };have lU:∀ i,i<=e+2->du prog 3 (ai (ae bz L R)) (j+i)=some (vI (U/bz^i%bz)):=λi hi=>by have:=dO (ek (B:=bz) (n:=L) (a:=R) (i:=j+i) o_);rw[G3,<-hU]at this;exact this
 obtain⟨rv,xO⟩:∃ rv,rv=ai (ae bz (e+2) V):=⟨_,rfl⟩;have Vu:du prog 3 rv (e+1)=some (vI v1):=by rw[xO,<-aDa];exact dO (ek o_)
 have lV0:du prog 3 rv e=some (vI (V/bz^e%bz)):=by rw[xO];exact dO (ek o_)
 have g:GU e L j T v1 (V/bz^e%bz) (U/bz^e%bz) (ai (ae bz L R)) rv:=⟨AN,Vu,lV0,lU e o_,aDb,cE _ d_,cE _ d_,h63⟩;obtain⟨q0,mL⟩:∃ q0,q0=min (T/v1) (bz-1):=⟨_,rfl⟩;obtain⟨q,G8,Lb,aOp,gl⟩:=aOf g ds mL;obtain⟨D,hD⟩:∃ D,D=fQ bz (e+2) U V q:=⟨_,rfl⟩;have aOq:D<bz^(e+2+1):=by rw[hD];exact SC d_
 have aU2:V<=bz^(e+2+1):=de (iR hV) (cZ d_ o_);have sg:SU e L j U V q R D rv:=⟨AN,hU,xO,G8,hD,by omega,h63⟩;have sl:=aOj (Bs:=Bs) sg;have Vv:fZ bz j R D<bz^(j+(e+2)+1):=by have:=G2 (B:=bz) d_ (j:=j) R aOq;rwa[show j+(e+2+1)=j+(e+2)+1 by omega]at this
 have pV:pv L j R D 0=ai (ae bz L R):=by unfold pv;rw[jn,Nk d_]
 have iS:du prog 3 (pv L j R D (e+2)) (j+(e+2))=some (vI (U/bz^(e+2)%bz)):=by have:=dO (Cr (B:=bz) (n:=L) (i:=j+(e+2)) (s:=fZ bz j R D) (p:=R) (j:=j+(e+2)) o_ (bj _));rw[G3,<-hU]at this;exact this
 have xe:=aOa (B:=bz) d_ hV Ib Lb;have hsb:=aC5 (B:=bz) d_ U V q (e+2);have Ld:U/bz^(e+2)%bz*bz+U/bz^(e+1)%bz=T:=by have h1:=wT (B:=bz) U (e+1);have h2:U/bz^(e+2)%bz=U/bz^(e+2):=EA aOo;rw[h2,hT];exact h1.symm
 have jM:U/bz^(e+2)%bz<bz:=cE _ d_;have vR:U/bz^(e+1)%bz<bz:=cE _ d_;have jv:=lU (e+2) (bj _);have vi:=lU (e+1) o_;have Vw:eW prog 3 (ai (gv bz p (j+1) (A/V))) j (vI (U/V))=some (ai (gv bz p j (A/V))):=by rw[wb (by rw[MT];exact hj),MV hj aC9]
 have hTb:T<281474976710656+16777216:=by have jJ:bz=16777216:=rfl;rw[jJ]at jM vR Ld;omega
 have EW:(v1:Int)≠0:=by have:=ds.top;have jJ:bz=16777216:=rfl;omega
 have wq:IntKind.i64.wrap (Int.tdiv (T:Int) (v1:Int))=((T/v1:Nat):Int):=by have hq:T/v1<=T:=tj _ _;rw[yS o_,<-ti,c8];omega
 unfold DI zT;rw[<-hR,<-xO];unfold DF zQ at sl;rw[pV,aN3]at sl;unfold xM xN at gl;have gl:=gl Bs;have jJ:bz=16777216:=rfl;rw[<-hD]at xe;by_cases hb:U<q*V
 ·-- the aU3 YS too aU4
  obtain⟨g1,g2⟩:=ZY (B:=bz) d_ hV Ib Lb hb;have JT:=aOb (B:=bz) d_ hV Ib Lb hb;rw[<-hD]at g2 JT;obtain⟨E,hE⟩:∃ E,E=(D+V)%bz^(e+2+1):=⟨_,rfl⟩;have bl:=aOl (Bs:=Bs) (q:=U/V) (R:=R) (D:=D) AN xO hE h63;rw[<-hE]at g2;rw[<-g2]at rm;have aDc:E<bz^(e+2):=by rw[g2];exact mf (cE _ qz) hV
  have hS2:fZ bz j R E<bz^(j+(e+2)+1):=by have:=G2 (B:=bz) d_ (j:=j) R (cv aDc (cZ (n:=bz) d_ (yw _)));rwa[show j+(e+2).succ=j+(e+2)+1 by omega]at this
  have kG:qf L j R D E (e+2) 0=(pv L j R D (e+2)).set (j+(e+2)) (.int .i64 (-1)):=by unfold qf pv;rw[aOm o_ y0 Vv d_,jn,<-ZV d_ j R D E,Nk d_]
  have JR:eW prog 3 (pv L j R D (e+2)) (j+(e+2)) (.int .i64 (-1))=some (qf L j R D E (e+2) 0):=by rw[kG];exact Pq _ _ _ (by unfold pv;rw[lN,wS];omega)
  have DJ:∀ i,du prog 3 (qf L j R D E (e+2) i) (j+(e+2))=some (.int .i64 (-1)):=λi=>by unfold qf;rw[FF,List.getElem?_set_self (by rw[lN,wS];omega)]
  have aOr:=DJ 0;have aOs:=DJ (e+2);have SI:eW prog 3 (qf L j R D E (e+2) (e+2)) (j+(e+2)) (.int .i64 0)=some (ai (ae bz L (A%(V*bz^j)))):=by unfold qf;rw[Pq _ _ _ (by rw[Vt,lN,wS];omega),List.set_set];have h1:=yJ (B:=bz) (n:=L) (i:=j+(e+2)) (s:=fZ bz j R E) (p:=fZ bz j R D) (d:=0) o_ (by rw[xc d_,qy aDc (bj _) d_]);rw[EU d_ Vv hS2]at h1;have h2:=Pr (c7 bz L (j+(e+2)) (fZ bz j R E) (fZ bz j R D)) (j+(e+2)) 0;rw[h1]at h2;exact cI some (h2.trans (by rw[rm]))
  rw[aw hb]at xe;unfold DH zR at bl;rw[MP,JT]at bl;generalize ai (ae bz L (A%(V*bz^j)))=r9 at *;generalize ai (ae bz L R)=r0 at *;generalize pv L j R D (e+2)=r1 at *;generalize qf L j R D E (e+2) 0=r2 at *;generalize qf L j R D E (e+2) (e+2)=r3 at *;generalize ai (gv bz p (j+1) (A/V))=p0 at *;generalize ai (gv bz p j (A/V))=p1 at *;generalize qT bz U V q (e+2)=c at *;generalize U/bz^(e+2)%bz=t1 at *;generalize U/bz^(e+1)%bz=t0 at *;generalize U/V=qq at *;have Vx:IntKind.i64.wrap ((t1:Int)+c)=-1:=by rw[c8];omega
  have m1:t1*bz<281474976710656:=by rw[jJ];omega
  obtain⟨x1,gY⟩:∃ x1,x1=t1*bz:=⟨_,rfl⟩;rw[<-gY]at Ld m1;exact fj mixed 400 [.rw 72 (dh (j+1)) (vI j) (dX j),.ge 73 j 0 true s_,.rw 77 (dh (j+1)) (vI j) (dX j),.sum 79 j (e+2) (j+(e+2)) rfl o_,.ix f200 80 8 L (j+(e+2)) o_ k_,.ld f200 81 3 8 (j+(e+2)) (.row r0 3 1) (vI t1) rfl jv k_,.sB 82 t1 bz x1 gY o_,.rw 84 (dh (j+1)) (vI j) (dX j),.sum 86 j (e+2) (j+(e+2)) rfl o_,.eX 87 (j+(e+2)) 1 (j+(e+1)) o_ o_,.ix f200 88 8 L (j+(e+1)) o_ k_,.ld f200 89 3 8 (j+(e+1)) (.row r0 3 1) (vI t0) rfl vi k_,.sum 90 x1 t0 T Ld.symm o_,.eX 94 (e+2) 1 (e+1) o_ o_,.ix f200 95 3 (e+2) (e+1) o_ k_,.ld f200 96 3 3 (e+1) (.row rv 3 1) (vI v1) rfl Vu k_,.pQ f200 97 .i64 (T:Int) (v1:Int) ((T/v1:Nat):Int) EW wq k_,.PE f200 98 (T/v1) (bz-1) q0 mL k_,.code 2 _ _ _ _ _ gl,.code 4 _ _ _ _ _ sl,.rw 169 (dh (j+1)) (vI j) (dX j),.sum 171 j (e+2) (j+(e+2)) rfl o_,.ix f200 172 8 L (j+(e+2)) o_ k_,.ld f200 173 3 8 (j+(e+2)) (.row r1 3 1) (vI t1) rfl iS k_,.wr 175 .i64 ((t1:Int)+c) (-1) Vx,.ix f200 176 8 L (j+(e+2)) o_ k_,.st f200 100176 3 8 (j+(e+2)) (.row r1 3 1) (.int .i64 (-1)) (.row r2 3 1) rfl JR rfl k_,.rw 178 (dh (j+1)) (vI j) (dX j),.sum 180 j (e+2) (j+(e+2)) rfl o_,.ix f200 181 8 L (j+(e+2)) o_ k_,.ld f200 182 3 8 (j+(e+2)) (.row r2 3 1) (.int .i64 (-1)) rfl aOr k_,.eX 185 q 1 qq o_ o_,.code 6 _ _ _ _ _ bl,.rw 214 (dh (j+1)) (vI j) (dX j),.sum 216 j (e+2) (j+(e+2)) rfl o_,.ix f200 217 8 L (j+(e+2)) o_ k_,.ld f200 218 3 8 (j+(e+2)) (.row r3 3 1) (.int .i64 (-1)) rfl aOs k_,.wr 220 .i64 (-1+((1:Nat):Int)) 0 d_,.ix f200 221 8 L (j+(e+2)) o_ k_,.st f200 100221 3 8 (j+(e+2)) (.row r3 3 1) (.int .i64 0) (.row r9 3 1) rfl SI rfl k_,
   .rw 223 (dh (j+1)) (vI j) (dX j),.ix f200 225 9 p j hj k_,.st f200 100225 3 9 j (.row p0 3 1) (vI qq) (.row p1 3 1) rfl Vw rfl k_,.rw 74 (dh (j+1)) (vI j) (dX j),.wr 75 .i64 ((j:Int)-1) ((j:Int)-1) (oH o_)] k_
 ·obtain⟨g1,g2⟩:=ZX (B:=bz) d_ hV Ib aOp hb;rw[<-hD]at g2;rw[<-g2]at rm;have JR:eW prog 3 (pv L j R D (e+2)) (j+(e+2)) (vI (D/bz^(e+2)%bz))=some (ai (ae bz L (A%(V*bz^j)))):=by unfold pv;rw[wb (by rw[wS];omega),yJ o_ (xc d_ j R D (e+2)).symm,EU d_ y0 Vv,rm]
  have DJ:du prog 3 (ai (ae bz L (A%(V*bz^j)))) (j+(e+2))=some (vI (D/bz^(e+2)%bz)):=by rw[<-rm,dO (ek o_),xc d_]
  rw[ao hb]at xe;have Ud:D/bz^(e+2)%bz<bz:=cE _ d_;rw[<-g1]at Vw;generalize ai (ae bz L (A%(V*bz^j)))=r9 at *;generalize ai (ae bz L R)=r0 at *;generalize pv L j R D (e+2)=r1 at *;generalize ai (gv bz p (j+1) (A/V))=p0 at *;generalize ai (gv bz p j (A/V))=p1 at *;generalize qT bz U V q (e+2)=c at *;generalize U/bz^(e+2)%bz=t1 at *;generalize U/bz^(e+1)%bz=t0 at *;generalize D/bz^(e+2)%bz=d at *;have Vx:IntKind.i64.wrap ((t1:Int)+c)=(d:Int):=by rw[c8];omega
  have m1:t1*bz<281474976710656:=by rw[jJ];omega
  obtain⟨x1,gY⟩:∃ x1,x1=t1*bz:=⟨_,rfl⟩;rw[<-gY]at Ld m1;exact fj mixed 400 [.rw 72 (dh (j+1)) (vI j) (dX j),.ge 73 j 0 true s_,.rw 77 (dh (j+1)) (vI j) (dX j),.sum 79 j (e+2) (j+(e+2)) rfl o_,.ix f200 80 8 L (j+(e+2)) o_ k_,.ld f200 81 3 8 (j+(e+2)) (.row r0 3 1) (vI t1) rfl jv k_,.sB 82 t1 bz x1 gY o_,.rw 84 (dh (j+1)) (vI j) (dX j),.sum 86 j (e+2) (j+(e+2)) rfl o_,.eX 87 (j+(e+2)) 1 (j+(e+1)) o_ o_,.ix f200 88 8 L (j+(e+1)) o_ k_,.ld f200 89 3 8 (j+(e+1)) (.row r0 3 1) (vI t0) rfl vi k_,.sum 90 x1 t0 T Ld.symm o_,.eX 94 (e+2) 1 (e+1) o_ o_,.ix f200 95 3 (e+2) (e+1) o_ k_,.ld f200 96 3 3 (e+1) (.row rv 3 1) (vI v1) rfl Vu k_,.pQ f200 97 .i64 (T:Int) (v1:Int) ((T/v1:Nat):Int) EW wq k_,.PE f200 98 (T/v1) (bz-1) q0 mL k_,.code 2 _ _ _ _ _ gl,.code 4 _ _ _ _ _ sl,.rw 169 (dh (j+1)) (vI j) (dX j),.sum 171 j (e+2) (j+(e+2)) rfl o_,.ix f200 172 8 L (j+(e+2)) o_ k_,.ld f200 173 3 8 (j+(e+2)) (.row r1 3 1) (vI t1) rfl iS k_,.wr 175 .i64 ((t1:Int)+c) (d:Int) Vx,.ix f200 176 8 L (j+(e+2)) o_ k_,.st f200 100176 3 8 (j+(e+2)) (.row r1 3 1) (vI d) (.row r9 3 1) rfl JR rfl k_,.rw 178 (dh (j+1)) (vI j) (dX j),.sum 180 j (e+2) (j+(e+2)) rfl o_,.ix f200 181 8 L (j+(e+2)) o_ k_,.ld f200 182 3 8 (j+(e+2)) (.row r9 3 1) (vI d) rfl DJ k_,.lt 183 d 0 false s_,.rw 223 (dh (j+1)) (vI j) (dX j),.ix f200 225 9 p j hj k_,.st f200 100225 3 9 j (.row p0 3 1) (vI q) (.row p1 3 1) rfl Vw rfl k_,.rw 74 (dh (j+1)) (vI j) (dX j),.wr 75 .i64 ((j:Int)-1) ((j:Int)-1) (oH o_)] k_
theorem aOt(h:Lc e L A V)(hp:p+(e+2)=L):
  ag prog Bs 238 (.block 0 (af f200 0)) (DI e L p p) (zT e L A V p p) 10 ⟨.normal,DI e L p 0,zT e L A V p 0,10⟩:=by
 have:=cd (P:=prog) (B:=Bs) (N:=238) (b:=aF (af f200 0)) (next:=10) (r:=⟨.exit 0,DI e L p 0,zT e L A V p 0,10⟩) p (λi=>DI e L p (p-i)) (λi=>zT e L A V p (p-i)) (λi t _=>jN (l:=zT e L A V p (p-i)) (m:=zT e L A V p (p-0)) rfl t)
  (λi hi=>by
   have e1:p-i=(p-(i+1))+1:=by omega
   simp only[e1];exact aOn h hp o_)
  (by simp only[vA];exact aA [.rw 73 (.bool (decide (((0:Nat):Int)-1>=0))) (.bool false) rfl]) n_
 exact bT (id:=0) this
end
def BU(w:World)(v:Value)(a:Nat):Prop:=cK w v (nd bz a) (cJ a)
def u9(w w':World)(v:Value)(a:Nat):Prop:=w'.ownsRow w.heap.size 3 1 v (nd bz a) (cJ a)
theorem PG{w w':World}{ι:Map}{c:Nat->Option Obj}(hm:aQ (aa.at w) ι c w'){k n a:Nat}{v:Value}(hk:c k=some (.row (ai (ae bz n a)) 3 1))(ha:a<bz^n)(hv:aG ι (sl k (nd bz a)) v):u9 w w' v a:=by have:=vx hm hk hv (FO ha) (kv _);rw[BQ ha]at this;exact this
theorem PH{s:Nat}(h:s<bz):ae bz 1 s=[s]:=by simp[ae,dK h]
theorem Vy{s:Nat}(h:s<bz)(h0:s≠0):nd bz s=1:=by have h3:=ja (B:=bz) (n:=1) d_ (by rw[CF];exact h);have h4:=uB (B:=bz) d_ h0;omega
theorem aOu{A n:Nat}(h:A<bz^n):ae bz (n+2) A=ae bz n A++[0,0]:=by unfold ae;rw[show n+2=n+1+1 from rfl,HB,HB,sW,sW,Ep];simp only[rF,Sw,EO,jo];rw[qy h (bj _) d_,qy h (yw _) d_]
theorem aOv{B d:Nat}(hd:0<d)(mK:d<B)(he:B%2=0):B<=2*(d*(B/(d+1))):=by
 obtain⟨s,hs⟩:∃ s,s=B/(d+1):=⟨_,rfl⟩;rw[<-hs];have hdm:=jb B (d+1);have Nc:=cE B (show 0<d+1 by omega);rw[<-hs]at hdm;have wL:0<s:=by rw[hs];exact Np mK (SR d)
 rcases eF (2*d) B with h|h
 ·apply Ot;intro ak;have ak:2*(d*s)+2<=B:=by omega
  obtain⟨X,hX⟩:∃ X,X=(d+1)*s:=⟨_,rfl⟩;rw[<-hX]at hdm;have h1:=e6 (d+1) ak;rw[fA,fF,fF d s,cP s,<-hX,oF B,fX]at h1;have h2:=jc d (show B<=X+d by omega);rw[oF]at h2;obtain⟨k,hk⟩:∃ k,d=k+1:=⟨d-1,by omega⟩;have h3:=jc k (iR h);have h4:d*B=k*B+B:=by rw[hk,fA,pO]
  have h5:k*(2*d)+2*d=2*(d*d):=by
   have:d*d=k*d+d:=by conv=>lhs;rw[hk,fA,pO,<-hk]
   rw[this,mJ];omega
  rw[cP B d]at h1;omega
 ·have:=jc d wL;rw[fX]at this;have:d*1<=d*s:=jc d wL;omega
theorem Vz{a b:Nat}{t:Bool}(h:decide (a<b)=t):Value.bool (decide (gP a b<0))=.bool t:=by
 rw[<-h];congr 1;rw[rI];unfold gP
 by_cases h1:a<b
 ·rw[aw h1];omega
 ·rw[ao h1];by_cases h2:b<a
  ·rw[aw h2];omega
  ·rw[ao h2];omega
theorem aVJ{w:World}{va vb:Value}{a b:Nat}(fY:BU w va a)(kX:BU w vb b)(b9:a<b)(h1:nd bz a<35184372088832)(h2:nd bz b<35184372088832):
  Calls prog 200 #[va,vb] w λe w'=>e=.returned (.tuple #[.slice none 0 0,va])/\Below w.heap.size w w':=by
 have hl:∀ s∈[cA.row va (nd bz a) (cJ a),cA.row vb (nd bz b) (cJ b)],s.OK w:=by
  intro s hs;simp at hs;rcases hs with rfl|rfl
  ·exact⟨fY,kv _⟩
  ·exact⟨kX,kv _⟩
 refine lD (Q:=λe w'=>e=.returned (.tuple #[.slice none 0 0,va])/\Below w.heap.size w w') mixed func200 [cA.row va (nd bz a) (cJ a),cA.row vb (nd bz b) (cJ b)] hl 200 (N:=238) k_
  (rs:=[(.u7 f200 23 0 1 a b (.view (cJ a)) (.view (cJ b)) rfl rfl rfl rfl h1 h2 k_:aY prog (aa.at w) 238),.rw 24 _ (.bool true) (Vz (a:=a) (b:=b) (aC b9))])
  (v:=.tuple #[.slice none 0 0,sl 0 (nd bz a)]) (ms:=[]) k_ λau bY v' w' jX bo _ df=>⟨?_,bo.base⟩
 obtain⟨cM,rfl,bd⟩:=jX.ug;obtain⟨p,q,hp,h3,h4⟩:=jx bd;cases df with
 |cons h5 _=>
 have:q=va:=Jo h4 h5;have e:cM=#[p,q]:=vm.1 (by rw[hp]);rw[e,h3.eU rfl,this]
theorem aVU{w:World}{va vb:Value}{a b:Nat}(fY:BU w va a)(kX:BU w vb b)(b9:b<=a)(kG:b≠0)(hb:b<bz)(h1:nd bz a<35184372088832):
  Calls prog 200 #[va,vb] w λe w'=>∃ vq vr,e=.returned (.tuple #[vq,vr])/\u9 w w' vq (a/b)/\u9 w w' vr (a%b)/\Below w.heap.size w w':=by
 have cX:=Vy hb kG;have mS:cJ b=[vI b]:=by unfold cJ;rw[cX,PH hb];rfl
 have EX:cK w vb 1 [vI b]:=by have:=kX;unfold BU at this;rw[cX,mS]at this;exact this
 have hl:∀ s∈[cA.row va (nd bz a) (cJ a),cA.row vb 1 [vI b]],s.OK w:=by
  intro s hs;simp at hs;rcases hs with rfl|rfl
  ·exact⟨fY,kv _⟩
  ·exact⟨EX,λv hv=>by simp at hv;subst hv;rfl⟩
 have hr:a%b<bz:=mf (cE _ (te kG)) hb;have tT:a%b<bz^1:=by rw[CF];exact hr
 have kW:cB prog (aa.at w) (av f200 23) [.func (.func 96) #[] #[],sl 0 (nd bz a),sl 1 1] [(0,some (.view (cJ a))),(1,some (.view [vI b]))] (.int .i64 (gP a b)) []:=by have:=dz (B:=aa.at w) (o:=av f200 23) (x:=.func 96) (Vi (a:=a) (b:=b) h1 o_) (nM (k:=0) (x:=.view (cJ a)) rfl rfl (nM (k:=1) (x:=.view (cJ b)) rfl rfl .nil)) k_ k_ rfl;rw[cX,mS]at this;exact this
 refine lD (Q:=λe w'=>∃ vq vr,e=.returned (.tuple #[vq,vr])/\u9 w w' vq (a/b)/\u9 w w' vr (a%b)/\Below w.heap.size w w') mixed func200 [cA.row va (nd bz a) (cJ a),cA.row vb 1 [vI b]] hl 200 (N:=238) k_
  (rs:=[(.step 23 (av f200 23) _ _ _ _ kW:aY prog (aa.at w) 238),.rw 24 _ (.bool false) (Vz (a:=a) (b:=b) (aN o_)),.ld f200 33 3 1 0 (.view [vI b]) (vI b) rfl (by rw[FF];rfl) k_,.step 34 (av f200 34) _ _ _ _ (US (x:=.func 219) (aC4 (te kG) hb h1) (nM (k:=0) (x:=.view (cJ a)) rfl rfl (.p (v:=vI b) rfl .nil)) k_ k_ (sn _) rfl 2),.bs f200 39 3 1 3 1 [0] (vI 0) [vI (a%b)] #[vI (a%b)] (.row (ai (ae bz 1 (a%b))) 3 1) (by rw[PH hr];rfl) (λv hv=>by simp at hv;subst hv;rfl) (λv hv=>by simp at hv;subst hv;rfl) k_ rfl o_ o_ k_,.Ds f200 40 3 1 (a%b) (.row (ai (ae bz 1 (a%b))) 3 1) rfl rfl tT o_ k_])
  (v:=.tuple #[sl 2 (nd bz (a/b)),sl 3 (nd bz (a%b))]) (ms:=[(2,cr (a/b)),(3,.row (ai (ae bz 1 (a%b))) 3 1)]) k_ λau bY v' w' jX bo dy _=>?_
 obtain⟨cM,rfl,bd⟩:=jX.ug;obtain⟨p,q,hp,h3,h4⟩:=jx bd;have e:cM=#[p,q]:=vm.1 (by rw[hp]);subst e;exact⟨p,q,rfl,PG bo (dy _ (aV ..)) (dS d_ _) h3,PG bo (dy _ (bF _ (aV ..))) tT h4,bo.base⟩
theorem aVc{w:World}{va vb:Value}{a b e:Nat}(fY:BU w va a)(kX:BU w vb b)(b9:b<=a)(hb:nd bz b=e+2)(h1:nd bz a<17592186044000):
  Calls prog 200 #[va,vb] w λe w'=>∃ vq vr,e=.returned (.tuple #[vq,vr])/\u9 w w' vq (a/b)/\u9 w w' vr (a%b)/\Below w.heap.size w w':=by
 have jJ:bz=16777216:=rfl;have ak:=dS (B:=bz) d_ b;rw[hb]at ak;have hp:0<bz^(e+1):=cG d_;have dR:bz^(e+1)<=b:=Y0 d_ o_;have kG:0<b:=cv hp dR;obtain⟨d,hd⟩:∃ d,d=b/bz^(e+1):=⟨_,rfl⟩;have lH:b/bz^(e+1)%bz=d:=by rw[hd];exact EA ak
 have mK:d<bz:=by rw[<-lH];exact cE _ d_
 have CU:0<d:=by rw[hd];exact Np dR hp
 obtain⟨s,hs⟩:∃ s,s=bz/(d+1):=⟨_,rfl⟩;have bL:=aOv CU mK d_;rw[<-hs]at bL;have pV:0<s:=by rw[hs];exact Np mK (SR d)
 have FG:s*(d+1)<=bz:=by rw[hs];exact CP _ _
 have PI:s<bz:=by have:=jc s (show 2<=d+1 by omega);omega
 have xb:b*s<bz^(e+2):=by
  have h3:b<(d+1)*bz^(e+1):=by rw[hd];exact(iv hp).1 (A9 _)
  have h5:=A8 h3 pV;have h6:=e6 (bz^(e+1)) FG;rw[cP bz,<-dx]at h6;have e1:(d+1)*bz^(e+1)*s=s*(d+1)*bz^(e+1):=by rw[cP _ s,fF]
  rw[e1]at h5;exact cv h5 h6
 have aDd:b<=b*s:=EK _ pV;have Nt:nd bz (b*s)=e+2:=ZH (ja d_ xb) (by rw[<-hb];exact iJ d_ aDd);have xe:bz<=2*(b*s/bz^(e+1)):=by
  have:d*s<=b*s/bz^(e+1):=by rw[CO hp,Bb];refine e6 _ ?_;rw[hd];exact CP _ _
  omega
 obtain⟨n,hn⟩:∃ n,n=nd bz (a*s):=⟨_,rfl⟩;have hA:=dS (B:=bz) d_ (a*s);rw[<-hn]at hA;have hnb:n<=nd bz a+1:=by rw[hn];refine ja d_ ?_;rw[dx];exact pN (dS (B:=bz) d_ a) PI
 have aU5:e+2<=n:=by rw[hn,<-hb];exact iJ d_ (de b9 (EK _ pV))
 obtain⟨p,Vr⟩:∃ p,p+(e+2)=n+2:=⟨n+2-(e+2),by omega⟩;have VA:a*s<b*s*bz^p:=by have h3:bz^(e+1)*bz^p<=b*s*bz^p:=e6 _ (de dR aDd);rw[<-ev,show e+1+p=n+1 by omega]at h3;have h4:bz^n<=bz^(n+1):=cZ d_ (yw _);omega
 have dv:Lc e (n+2) (a*s) (b*s):=⟨xb,xe,by omega,by rw[show n+2-(e+2)=p by omega];exact VA,by omega⟩;have lo:=λBs=>aOt (Bs:=Bs) dv Vr;have hQ:a*s/(b*s)=a/b:=Z5 _ _ pV;have S0:a*s%(b*s*bz^0)=a%b*s:=by rw[rL,fX,Z4]
 have SZ:a*s%(b*s*bz^p)=a*s:=dK VA;have JV:a/b<bz^p:=by rw[<-hQ,iv dv.pos,cP (bz^p)];exact VA
 have Hd:a%b*s<bz^(n+2):=by have h3:a%b*s<=a*s:=e6 _ (Jx _ _);have h4:bz^n<=bz^(n+2):=cZ d_ o_;omega
 have hnr:nd bz (a%b*s)<35184372088832:=by have:=ja (B:=bz) d_ Hd;omega
 unfold zT at lo;rw[SZ,S0,hQ,MU,Jy,<-KY]at lo;have hcA:cJ (a*s)++[vI 0,vI 0]=ai (ae bz (n+2) (a*s)):=by unfold cJ ai;rw[<-hn,aOu hA,sW];rfl
 have Eb:=Vy PI o_;have fV:cJ s=[vI s]:=by unfold cJ;rw[Eb,PH PI];rfl
 have mS:cJ b=ai (ae bz (e+2) b):=by unfold cJ;rw[hb]
 have hcV:cJ (b*s)=ai (ae bz (e+2) (b*s)):=by unfold cJ;rw[Nt]
 have EX:cK w vb (e+2) (ai (ae bz (e+2) b)):=by have:=kX;unfold BU at this;rw[hb,mS]at this;exact this
 have hl:∀ s∈[cA.row va (nd bz a) (cJ a),cA.row vb (e+2) (ai (ae bz (e+2) b))],s.OK w:=by
  intro s hs;simp at hs;rcases hs with rfl|rfl
  ·exact⟨fY,kv _⟩
  ·exact⟨EX,kv _⟩
 have kW:cB prog (aa.at w) (av f200 23) [.func (.func 96) #[] #[],sl 0 (nd bz a),sl 1 (e+2)] [(0,some (.view (cJ a))),(1,some (.view (ai (ae bz (e+2) b))))] (.int .i64 (gP a b)) []:=by have:=dz (B:=aa.at w) (o:=av f200 23) (x:=.func 96) (Vi (a:=a) (b:=b) o_ o_) (nM (k:=0) (x:=.view (cJ a)) rfl rfl (nM (k:=1) (x:=.view (cJ b)) rfl rfl .nil)) k_ k_ rfl;rw[hb,mS]at this;exact this
 have cX:cB prog (aa.at w) (av f200 52) [.func (.func 132) #[] #[],sl 1 (e+2),sl 2 1] [(3,none),(1,some (.view (ai (ae bz (e+2) b)))),(2,some (.row [vI s] 3 1))] (sl 3 (e+2)) [(3,.row (ai (ae bz (e+2) (b*s))) 3 1)]:=by have:=qI (B:=aa.at w) (o:=av f200 52) (x:=.func 132) (Ve (a:=b) (b:=s) o_) (nM (k:=1) (x:=.view (cJ b)) rfl rfl (nM (k:=2) (x:=.row (cJ s) 3 1) rfl rfl .nil)) k_ k_ (sn _) 3;rw[hb,mS,Eb,fV,Nt,hcV]at this;exact this
 have dB:cB prog (aa.at w) (av f200 58) [.func (.func 132) #[] #[],sl 0 (nd bz a),sl 2 1] [(5,none),(0,some (.view (cJ a))),(2,some (.row [vI s] 3 1))] (sl 5 n) [(5,.row (cJ (a*s)) 3 1)]:=by have:=qI (B:=aa.at w) (o:=av f200 58) (x:=.func 132) (Ve (a:=a) (b:=s) o_) (nM (k:=0) (x:=.view (cJ a)) rfl rfl (nM (k:=2) (x:=.row (cJ s) 3 1) rfl rfl .nil)) k_ k_ (sn _) 5;rw[Eb,fV,<-hn]at this;exact this
 have u4:∀(xr:aj),xr=ai (ae bz (n+2) (a%b*s))->cB prog (aa.at w) (av f200 232) [.func (.func 219) #[] #[],sl 8 (nd bz (a%b*s)),vI s] [(10,none),(8,some (.row xr 3 1))] (.tuple #[sl 10 (nd bz (a%b)),vI 0]) [(10,cr (a%b))]:=by
  rintro xr rfl
  have hq:a%b*s/s=a%b:=R5 _ pV;have hz:a%b*s%s=0:=Y2 _ _;have bW:=aC4 (a:=a%b*s) pV PI hnr;rw[hq,hz]at bW;have CT:((Obj.row (ai (ae bz (n+2) (a%b*s))) 3 1).cells.drop 0).take (nd bz (a%b*s))=cJ (a%b*s):=by rw[l9];have:=BQ Hd;rwa[fX]at this
  have yv:fH (aa.at w) [jt (a%b*s),.p (vI s)] [sl 8 (nd bz (a%b*s)),vI s] [(8,some (.row (ai (ae bz (n+2) (a%b*s))) 3 1))]:=by unfold jt;rw[<-CT];exact .r (k:=8) (off:=0) (cc:=0) rfl (gU _) (λh=>h) (.p rfl .nil)
  exact US (x:=.func 219) bW yv k_ k_ (sn _) rfl 10
 have w48:IntKind.i64.wrap (Int.tdiv ((bz:Nat):Int) ((d+1:Nat):Int))=(s:Int):=by rw[yS o_,<-ti,<-hs,c8];omega
 have aOw:∀ v∈cJ (a*s),v.oneCell'=true:=λv hv=>by unfold cJ ai at hv;obtain⟨x,_,rfl⟩:=dj.1 hv;rfl
 have hlen:(cJ (a*s)).length=n:=by rw[U3,hn]
 have lo:=lo (aa.at w);unfold DI at lo;have hxr:=u4 _ rfl;have kY:du prog 3 (ai (ae bz (e+2) b)) (e+1)=some (vI d):=by rw[<-lH];exact dO (ek o_)
 have Fv:nd bz (a%b*s)=nd bz (a%b*s):=rfl
 refine lD (Q:=λe w'=>∃ vq vr,e=.returned (.tuple #[vq,vr])/\u9 w w' vq (a/b)/\u9 w w' vr (a%b)/\Below w.heap.size w w') mixed func200 [cA.row va (nd bz a) (cJ a),cA.row vb (e+2) (ai (ae bz (e+2) b))] hl 400 (N:=238) k_
  (rs:=[(.step 23 (av f200 23) _ _ _ _ kW:aY prog (aa.at w) 238),.rw 24 _ (.bool false) (Vz (a:=a) (b:=b) (aN o_)),.fk 28 (e+2) 1 false s_,.eX 44 (e+2) 1 (e+1) rfl o_,.ix f200 45 1 (e+2) (e+1) o_ k_,.ld f200 46 3 1 (e+1) (.view (ai (ae bz (e+2) b))) (vI d) rfl kY k_,.sum 47 d 1 (d+1) rfl o_,.pQ f200 48 .i64 ((bz:Nat):Int) ((d+1:Nat):Int) (s:Int) o_ w48 k_,.bs f200 49 2 1 3 1 [0] (vI 0) [vI s] #[vI s] (.row [vI s] 3 1) rfl (λv hv=>by simp at hv;subst hv;rfl) (λv hv=>by simp at hv;subst hv;rfl) k_ rfl o_ o_ k_,.step 52 (av f200 52) _ _ _ _ cX,.K3 f200 55 4 3 1 (vI 0) k_,.step 58 (av f200 58) _ _ _ _ dB,.pa f200 59 6 4 0 n n 3 1 8 [] 5 (.row (cJ (a*s)) 3 1) (cJ (a*s)) (jY n) rfl (by rw[fX];exact hlen) rfl rfl aOw o_ (by simp[maxLen];omega) o_ k_,.bs f200 60 7 2 3 1 [0,1] (vI 0) [vI 0,vI 0] #[vI 0,vI 0] (.row [vI 0,vI 0] 3 1) rfl (λv hv=>by simp at hv;subst hv;rfl) (λv hv=>by simp at hv;subst hv;rfl) k_ rfl o_ o_ k_,.pa f200 61 8 6 n 2 (n+2) 3 1 8 (cJ (a*s)) 7 (.row [vI 0,vI 0] 3 1) (ai (ae bz (n+2) (a*s))) rfl rfl rfl (by rw[fX];exact hlen) hcA (λv hv=>by simp[Obj.cells]at hv;subst hv;rfl) o_ (by simp[maxLen];omega) o_ k_,.eX 65 (n+2) (e+2) p o_ o_,.pM f200 66 9 p 3 8 (vI 0) (List.replicate p (vI 0)) rfl rfl rfl o_ (by simp[maxLen];omega) k_,.eX 70 (n+2) (e+2) p o_ o_,.wr 71 .i64 ((p:Int)-1) ((p:Int)-1) (oH o_),.code 0 _ _ _ _ _ lo,.Ds f200 228 8 (n+2) (a%b*s) (.row (ai (ae bz (n+2) (a%b*s))) 3 1) rfl rfl Hd o_ k_,.ld f200 231 3 2 0 (.row [vI s] 3 1) (vI s) rfl (by rw[FF];rfl) k_,.step 232 (av f200 232) _ _ _ _ hxr,.Ds f200 236 9 p (a/b) (.row (ai (ae bz p (a/b))) 3 1) rfl rfl JV o_ k_])
  (v:=.tuple #[sl 9 (nd bz (a/b)),sl 10 (nd bz (a%b))]) (ms:=[(9,.row (ai (ae bz p (a/b))) 3 1),(10,cr (a%b))]) k_ λau bY v' w' jX bo dy _=>?_
 obtain⟨cM,rfl,bd⟩:=jX.ug;obtain⟨p,q,hp,h3,h4⟩:=jx bd;have e:cM=#[p,q]:=vm.1 (by rw[hp]);subst e;exact⟨p,q,rfl,PG bo (dy _ (aV ..)) JV h3,PG bo (dy _ (bF _ (aV ..))) (dS d_ _) h4,bo.base⟩
section
variable{P:Program}{Bs B:aa}{N:Nat}
theorem aDe{f:FuncId}{l:List aR}{ty:TypeId}{size n:Nat}{xs:aj}{vs:aj}{nd:List (Nat×Option Obj)}{o:Oper}{x:Operand}(h:lM P f l ty size n xs)(hs:fH B l vs nd)(ho:dw o.op=some x)(eK:gi P f=true)(hx:(xs.all flat)=true)(k:Nat):
  cB P B o (.func (.func f) #[] #[]::vs) ((k,none)::nd) (.slice (some ⟨k,0,some 7⟩) n 0) [(k,.view xs)]:=by
 have:=jB (P:=P) (B:=B) (o:=o) (x:=x) (f:=f) (fi:=[]) (args:=vs) (ca:=[]) (need:=(k,none)::nd) (val:=.slice (some ⟨k,0,some 7⟩) n 0) (cR:=[(k,.view xs)]) ho eK ?_
 ·simpa using this
 ·intro ι c w hm hn args' ha;rw[jo,je]at ha;refine(h w args' (BB hs hm (λp hp=>hn p (bF _ hp)) ha)).mono ?_
  rintro e w' ⟨v,rfl,h1,h2⟩
  obtain⟨au,q1,q2,q3⟩:=YX hm h2 (k:=k) (hn (k,none) (aV ..)) h1 (bh.1 hx);exact⟨au,v,rfl,q1,q3,q2⟩
def c9(a:Nat):Obj:=.view (cJ a)
def aY.lO(fn:Func)(key k m:Nat)(h:nd 256 m<35184372088832)(ho:dw (av fn key).op=some (.func 93)):aY prog Bs N:=
 .step key (av fn key) [.func (.func 93) #[] #[],pb m] [(k,none)] (sl k (nd bz m)) [(k,c9 m)] (aDe (aC2 h) (.p rfl .nil) ho k_ (sn m) k)
end
theorem aWb{Bs:aa}{o:Oper}{y:Operand}(ho:dw o.op=some y){k1 k2 kq kr a b:Nat}(hk:kr≠kq)(kG:b≠0)(h1:nd bz a<17592186044000)(h2:nd bz b<35184372088831):
  cB prog Bs o [.func (.func 200) #[] #[],sl k1 (nd bz a),sl k2 (nd bz b)] [(k1,some (c9 a)),(k2,some (c9 b)),(kq,none),(kr,none)] (.tuple #[sl kq (nd bz (a/b)),sl kr (nd bz (a%b))]) [(kr,c9 (a%b)),(kq,c9 (a/b))]:=by
 refine jB (fi:=[]) (ca:=[]) ho k_ λι c w hm hn args' bd=>?_;rw[jo,je]at bd;obtain⟨va,vb,rfl,hv,iu⟩:=jx bd;have hY:c k1=some (c9 a):=hn (k1,_) s_;have fE:c k2=some (c9 b):=hn (k2,_) s_;have JY:c kq=none:=hn (kq,none) s_;have S3:c kr=none:=hn (kr,none) s_;have nin:∀{k a v},c k=some (c9 a)->aG ι (sl k (nd bz a)) v->BU w v a:=λ{k a v} hk hv=>by have:=oD (len:=nd bz a) hm hk rfl (kv _) (λh=>h) hv;rwa[l9,ki (by show(cJ a).length<=_;rw[U3];exact bj _)]at this
 have ha:=nin hY hv;have hb:=nin fE iu;have fin:∀(w':World) (vq vr:Value),Below w.heap.size w w'->(∃ bO,Map.le ι bO/\aQ Bs bO (ba c kq (c9 (a/b))) w'/\aG bO (sl kq (nd bz (a/b))) vq/\∃ dG,Map.le bO dG/\aQ Bs dG (ba (ba c kq (c9 (a/b))) kr (c9 (a%b))) w'/\aG dG (sl kr (nd bz (a%b))) vr)->
   ∃ au v',Ending.returned (.tuple #[vq,vr])=.returned v'/\Map.le ι au/\aG au (.tuple #[sl kq (nd bz (a/b)),sl kr (nd bz (a%b))]) v'/\aQ Bs au (lp c [(kr,c9 (a%b)),(kq,c9 (a/b))]) w':=by
  rintro w' vq vr fJ ⟨bO,q1,q2,q3,dG,s1,s2,s3⟩
  exact⟨dG,_,rfl,q1.trans s1,.tup (.cons (q3.mono s1) (.cons s3 .nil)),s2⟩
 have JZ:∀ x,ba c kq x kr=none:=λx=>by unfold ba;rw[ao hk];exact S3
 have new:∀(w':World) (vq vr:Value),Below w.heap.size w w'->u9 w w' vq (a/b)->u9 w w' vr (a%b)->(∃ bO,Map.le ι bO/\aQ Bs bO (ba c kq (c9 (a/b))) w'/\aG bO (sl kq (nd bz (a/b))) vq/\∃ dG,Map.le bO dG/\aQ Bs dG (ba (ba c kq (c9 (a/b))) kr (c9 (a%b))) w'/\aG dG (sl kr (nd bz (a%b))) vr):=by intro w' vq vr fJ h3 h4;have bo:=hm.call fJ;obtain⟨bO,q1,q2,q3⟩:=Nv bo JY h3 (kv _) (Nw hm);obtain⟨dG,s1,s2,s3⟩:=Nv q2 (JZ _) h4 (kv _) (aAi bo q1 (Nw hm));exact⟨bO,q1,q2,q3,dG,s1,s2,s3⟩
 by_cases b9:a<b
 ·have e1:a/b=0:=l8 b9;have e2:a%b=a:=dK b9;refine(aVJ ha hb b9 o_ o_).mono ?_
  rintro e w' ⟨rfl,fJ⟩
  refine fin w' _ _ fJ ?_;have bo:=hm.call fJ;obtain⟨bO,q1,q2,q3⟩:=yD (xs:=[]) (n:=0) (v:=.slice none 0 0) bo JY (.inl ⟨rfl,rfl,rfl⟩) n_ n_;have ez:c9 (a/b)=.view []:=by unfold c9 cJ;rw[e1,o7];rfl
  have en:nd bz (a/b)=0:=by rw[e1,o7]
  rw[ez,en,e2];have S4:cK w' va (nd bz a) (cJ a):=cK.gB ha fJ;obtain⟨dG,s1,s2,s3⟩:=yD q2 (JZ _) S4 (kv _) (λb o c' e j y o' aT hj hy he=>by
   have A6:c j=some y:=by
    unfold ba at hj;by_cases bN:j=kq
    ·rw[aw bN]at hj;injection hj with hj;subst hj;cases hy
    ·rw[ao bN]at hj;exact hj
   obtain⟨l,e1,_⟩:=hm.born j y A6;have e2:=q1 j l e1;rw[he]at e2;injection e2 with e2;subst e2;subst e;rcases hv.gV rfl with ⟨_,_,_,_,e⟩|⟨b',o2,rk,c2,gp,_,_,e⟩
   ·cases e
   ·injection e with e _ _;injection e with e;injection e with e _ _;subst e;exact(hm.seen k1 _ _ _ _ hY rfl gp).2 j y _ _ A6 hy e1)
  exact⟨bO,q1,q2,q3,dG,s1,s2,s3⟩
 ·have J0:b<=a:=JP.1 b9;have go:Calls prog 200 #[va,vb] w λe w'=>∃ vq vr,e=.returned (.tuple #[vq,vr])/\u9 w w' vq (a/b)/\u9 w w' vr (a%b)/\Below w.heap.size w w':=by
   by_cases ak:b<bz
   ·exact aVU ha hb J0 kG ak o_
   ·have h3:2<=nd bz b:=by
     rcases eF (nd bz b) 2 with h|h
     ·have h4:=dS (B:=bz) d_ b;have h5:bz^nd bz b<=bz^1:=cZ d_ o_;rw[CF]at h5;omega
     ·exact h
    exact aVc (e:=nd bz b-2) ha hb J0 o_ h1
  refine go.mono ?_
  rintro e w' ⟨vq,vr,rfl,h3,h4,fJ⟩
  exact fin w' _ _ fJ (new w' vq vr fJ h3 h4)
theorem aOx(n1 n2:Bool)(a b:Nat):(sg n1 a).tdiv (sg n2 b)=sg (n1 !=n2) (a/b):=by cases n1<;>cases n2<;>simp[sg,Int.neg_tdiv,Int.tdiv_neg]
theorem aOy(n1 n2:Bool)(a b:Nat):(sg n1 a).tmod (sg n2 b)=sg n1 (a%b):=by cases n1<;>cases n2<;>simp[sg,Int.neg_tmod,Int.tmod_neg]<;>exact yT o_
theorem aOz{x:Int}(h1:-4611686018427387904<=x)(h2:x<=4611686018427387903):IntKind.i64.wrap x=x:=by rw[c8];omega
theorem VB:nd bz 1=1/\cJ 1=[vI 1]:=by have h:=Vy (s:=1) d_ d_;exact⟨h,by unfold cJ;rw[h,PH d_];rfl⟩
theorem VC{n:Bool}{m:Nat}(h:n=true->m≠0):decide (sg n m<0)=n:=by
 cases n
 ·exact aN (by simp[sg])
 ·exact aC (by have:=h rfl;simp[sg];omega)
theorem aOA(n:Bool)(m:Nat):(sg n m !=0)=decide (m≠0):=by
 by_cases h:m=0
 ·subst h;cases n<;>rfl
 ·rw[aC h,uC];cases n<;>simp[sg]<;>omega
theorem aVI{x y:Int}{p q:Nat}(hy:y≠0)(h1:x.natAbs<2^p)(h2:y.natAbs<2^q)(hp:p<=1099511627774)(hq:q<=1099511627774):
  aE prog 169 [bM x,bM y] (.tuple #[bM (x.fdiv y),bM (x.fmod y),.int .i64 0]):=by
 revert hy h1 h2;refine E0 (C:=λx y v u=>y≠0->x.natAbs<2^p->y.natAbs<2^q->aE prog 169 [v,u] (.tuple #[bM (x.fdiv y),bM (x.fmod y),.int .i64 0])) (λn1 n2 m1 m2 v1 v2 hy h1 h2=>?_) x y;rw[pU]at h1 h2;have Hj:m2≠0:=by intro e;rw[e]at hy;cases n2<;>exact hy rfl
 have b1:=tV h1;have b2:=tV h2;have c1:=vD h1;have c2:=vD h2;obtain⟨Q,hQ⟩:∃ Q,Q=m1/m2:=⟨_,rfl⟩;obtain⟨R,hR⟩:∃ R,R=m1%m2:=⟨_,rfl⟩;have J3:m1=Q*m2+R:=by rw[hQ,hR,cP];exact(jb _ _).symm
 have y0:R<m2:=by rw[hR];exact cE _ (te Hj)
 have Tb:Q<=m1:=by rw[hQ];exact tj _ _
 have jd:((Q*m2:Nat):Int)=(Q:Int)*m2:=nW ..;have fix:R≠0->n1≠n2->(sg n1 m1).fdiv (sg n2 m2)=sg true (Q+1)/\(sg n1 m1).fmod (sg n2 m2)=sg n2 (m2-R):=λjr aU=>by
  refine NB ?_ ?_
  ·rw[J3];have e:((m2-R:Nat):Int)=(m2:Int)-R:=by omega
   cases n1<;>cases n2<;>first|exact absurd rfl aU|(simp only[sg,ql,uF,uE,vC,jd,e,He,Hf,JX,Int.add_mul];omega)
  ·cases n2
   ·left;simp only[sg,uF,uE];omega
   ·right;simp only[sg,ql];omega
 have VD:¬(R≠0/\n1≠n2)->(sg n1 m1).fdiv (sg n2 m2)=sg (n1 !=n2) Q/\(sg n1 m1).fmod (sg n2 m2)=sg n2 R:=λh=>by
  have h0:n1≠n2->R=0:=λaU=>gN λh3=>h ⟨h3,aU⟩;refine NB ?_ ?_
  ·rw[J3];cases n1<;>cases n2<;>simp only[sg,Bool.bne_false,Bool.bne_true,JC,MZ,ql,uF,uE,vC,jd,He,Hf,JX]<;>first|omega|(have:=h0 n_;omega)
  ·cases n2
   ·left;simp only[sg,uF,uE];omega
   ·right;simp only[sg,ql];omega
 have w1:=aVS n1 v1;have w2:=aVS n2 v2;have qg:((BA (cg m2)).toList==(ByteArray.mk #[]).toList)=false:=by rw[qB,aN Hj]
 have r2:=La m2;by_cases hs:nd 256 m1<=7/\nd 256 m2<=7
 ·obtain⟨s1,s2⟩:=hs;have l1:=Ia s1;have l2:=Ia s2;have td:=aOx n1 n2 m1 m2;have tm:=aOy n1 n2 m1 m2;rw[<-hQ]at td;rw[<-hR]at tm;have q1:=sD v1 s1;have q2:=sD v2 s2;have gx:=DC n1 m1;have gy:=DC n2 m2;have gq:=DC (n1 !=n2) Q;have gr:=DC n2 R;have gr2:=DC n2 (m2-R);have t52:=aOA n1 R;have t55:=VC v1;have t57:=VC v2;have wq:IntKind.i64.wrap ((sg n1 m1).tdiv (sg n2 m2))=sg (n1 !=n2) Q:=by rw[td,c8];omega
  have back:∀ qq rr:Int,(sg n1 m1).fdiv (sg n2 m2)=qq->(sg n1 m1).fmod (sg n2 m2)=rr->sg n1 m1-qq*sg n2 m2=rr:=λqq rr e1 e2=>by have:=Int.mul_fdiv_add_fmod (sg n1 m1) (sg n2 m2);rw[e1,e2,S9]at this;omega
  by_cases hf:R≠0/\n1≠n2
  ·obtain⟨jr,aU⟩:=hf;obtain⟨f1,f2⟩:=fix jr aU;have bk:=back _ _ f1 f2;rw[f1,f2];rw[aC jr]at t52;have e1:sg (n1 !=n2) Q-1=sg true (Q+1):=by cases n1<;>cases n2<;>first|exact absurd rfl aU|(simp[sg];omega)
   have gq1:sg true (Q+1)=-((Q+1:Nat):Int):=rfl;have o1:=aVQ (z:=sg true (Q+1)) o_ o_;have o2:=aVQ (z:=sg n2 (m2-R)) o_ o_;have g1b:-4611686018427387904<=sg true (Q+1):=by rw[gq1];omega
   have g2b:sg true (Q+1)<=4611686018427387903:=by rw[gq1];omega
   have w61:IntKind.i64.wrap (sg (n1 !=n2) Q-1)=sg true (Q+1):=by rw[e1];exact aOz g1b g2b
   generalize hqq:sg true (Q+1)=qq at *;generalize hrr:sg n2 (m2-R)=rr at *;generalize sg n1 m1=X at *;generalize sg n2 m2=Y at *;have FV:IntKind.i64.wrap (qq*Y)=qq*Y:=by
    have:qq*Y=X-rr:=by omega
    rw[this,c8];omega
   have FX:IntKind.i64.wrap (X-qq*Y)=rr:=by rw[bk,c8];omega
   cases n1<;>cases n2<;>first|exact absurd rfl aU|skip
   ·exact aP func169 (λw=>[w1.at 15,w2.at 19,.rw 26 (.bool ((BA (cg m2)).toList==(ByteArray.mk #[]).toList)) (.bool false) (by rw[qg]),q1.at 31,.rw 38 _ (vI (nd 256 m2)) r2,.rw 39 (.bool (decide (((nd 256 m2:Nat):Int)<=7))) (.bool true) (by rw[aC o_]),q2.at 43,.pQ f169 48 .i64 X Y _ hy wq k_,.th f169 51 .i64 X Y _ hy tm k_,.rw 52 (.bool (sg false R !=0)) (.bool true) (by rw[t52]),.rw 55 (.bool (decide (X<0))) (.bool false) (by rw[t55]),.rw 57 (.bool (decide (Y<0))) (.bool true) (by rw[t57]),.wr 61 .i64 _ qq w61,o1.at 63,.wr 67 .i64 (qq*Y) (qq*Y) FV,.wr 68 .i64 (X-qq*Y) rr FX,o2.at 69])
   ·exact aP func169 (λw=>[w1.at 15,w2.at 19,.rw 26 (.bool ((BA (cg m2)).toList==(ByteArray.mk #[]).toList)) (.bool false) (by rw[qg]),q1.at 31,.rw 38 _ (vI (nd 256 m2)) r2,.rw 39 (.bool (decide (((nd 256 m2:Nat):Int)<=7))) (.bool true) (by rw[aC o_]),q2.at 43,.pQ f169 48 .i64 X Y _ hy wq k_,.th f169 51 .i64 X Y _ hy tm k_,.rw 52 (.bool (sg true R !=0)) (.bool true) (by rw[t52]),.rw 55 (.bool (decide (X<0))) (.bool true) (by rw[t55]),.rw 57 (.bool (decide (Y<0))) (.bool false) (by rw[t57]),.wr 61 .i64 _ qq w61,o1.at 63,.wr 67 .i64 (qq*Y) (qq*Y) FV,.wr 68 .i64 (X-qq*Y) rr FX,o2.at 69])
  ·obtain⟨f1,f2⟩:=VD hf;have bk:=back _ _ f1 f2;rw[f1,f2];have o1:=aVQ (z:=sg (n1 !=n2) Q) o_ o_;have o2:=aVQ (z:=sg n2 R) o_ o_;by_cases jr:R=0
   ·rw[aN (λh=>h jr)]at t52;generalize hqq:sg (n1 !=n2) Q=qq at *;generalize hrr:sg n2 R=rr at *;generalize sg n1 m1=X at *;generalize sg n2 m2=Y at *;have FV:IntKind.i64.wrap (qq*Y)=qq*Y:=by
     have:qq*Y=X-rr:=by omega
     rw[this,c8];omega
    have FX:IntKind.i64.wrap (X-qq*Y)=rr:=by rw[bk,c8];omega
    exact aP func169 (λw=>[w1.at 15,w2.at 19,.rw 26 (.bool ((BA (cg m2)).toList==(ByteArray.mk #[]).toList)) (.bool false) (by rw[qg]),q1.at 31,.rw 38 _ (vI (nd 256 m2)) r2,.rw 39 (.bool (decide (((nd 256 m2:Nat):Int)<=7))) (.bool true) (by rw[aC o_]),q2.at 43,.pQ f169 48 .i64 X Y _ hy wq k_,.th f169 51 .i64 X Y _ hy tm k_,.rw 52 (.bool (sg n1 R !=0)) (.bool false) (by rw[t52]),o1.at 63,.wr 67 .i64 (qq*Y) (qq*Y) FV,.wr 68 .i64 (X-qq*Y) rr FX,o2.at 69])
   ·have aU:n1=n2:=gN λh=>hf ⟨jr,h⟩;subst aU;rw[aC jr]at t52;generalize hqq:sg (n1 !=n1) Q=qq at *;generalize hrr:sg n1 R=rr at *;generalize sg n1 m1=X at *;generalize sg n1 m2=Y at *;have FV:IntKind.i64.wrap (qq*Y)=qq*Y:=by
     have:qq*Y=X-rr:=by omega
     rw[this,c8];omega
    have FX:IntKind.i64.wrap (X-qq*Y)=rr:=by rw[bk,c8];omega
    cases n1
    ·exact aP func169 (λw=>[w1.at 15,w2.at 19,.rw 26 (.bool ((BA (cg m2)).toList==(ByteArray.mk #[]).toList)) (.bool false) (by rw[qg]),q1.at 31,.rw 38 _ (vI (nd 256 m2)) r2,.rw 39 (.bool (decide (((nd 256 m2:Nat):Int)<=7))) (.bool true) (by rw[aC o_]),q2.at 43,.pQ f169 48 .i64 X Y _ hy wq k_,.th f169 51 .i64 X Y _ hy tm k_,.rw 52 (.bool (rr !=0)) (.bool true) (by rw[t52]),.rw 55 (.bool (decide (X<0))) (.bool false) (by rw[t55]),.rw 57 (.bool (decide (Y<0))) (.bool false) (by rw[t57]),o1.at 63,.wr 67 .i64 (qq*Y) (qq*Y) FV,.wr 68 .i64 (X-qq*Y) rr FX,o2.at 69])
    ·exact aP func169 (λw=>[w1.at 15,w2.at 19,.rw 26 (.bool ((BA (cg m2)).toList==(ByteArray.mk #[]).toList)) (.bool false) (by rw[qg]),q1.at 31,.rw 38 _ (vI (nd 256 m2)) r2,.rw 39 (.bool (decide (((nd 256 m2:Nat):Int)<=7))) (.bool true) (by rw[aC o_]),q2.at 43,.pQ f169 48 .i64 X Y _ hy wq k_,.th f169 51 .i64 X Y _ hy tm k_,.rw 52 (.bool (rr !=0)) (.bool true) (by rw[t52]),.rw 55 (.bool (decide (X<0))) (.bool true) (by rw[t55]),.rw 57 (.bool (decide (Y<0))) (.bool true) (by rw[t57]),o1.at 63,.wr 67 .i64 (qq*Y) (qq*Y) FV,.wr 68 .i64 (X-qq*Y) rr FX,o2.at 69])
 ·have bQ:nd bz Q<1099511627776:=by have:=iJ (B:=bz) d_ Tb;omega
  have bR:nd bz R<1099511627776:=by have:=iJ (B:=bz) d_ (iR y0);omega
  have bD:nd bz (m2-R)<1099511627776:=by have:=iJ (B:=bz) d_ (Bj m2 R);omega
  have bQ1:nd bz (Q+1)<1099511627776:=by have:=tV (m:=Q+1) (n:=p+1) (by rw[dx];omega);omega
  have pT:∀ w,cB prog (aa.at w) (av f169 77) [.func (.func 200) #[] #[],sl 4 (nd bz m1),sl 5 (nd bz m2)] [(4,some (c9 m1)),(5,some (c9 m2)),(6,none),(7,none)] (.tuple #[sl 6 (nd bz Q),sl 7 (nd bz R)]) [(7,c9 R),(6,c9 Q)]:=λw=>by rw[hQ,hR];exact aWb (Bs:=aa.at w) (o:=av f169 77) (y:=.func 200) k_ (k1:=4) (k2:=5) (kq:=6) (kr:=7) d_ Hj o_ o_
  have xP:∀ w,cB prog (aa.at w) (av f169 92) [.func (.func 94) #[] #[],sl 6 (nd bz Q),sl 8 1] [(9,none),(6,some (c9 Q)),(8,some (.row [vI 1] 3 1))] (sl 9 (nd bz (Q+1))) [(9,cr (Q+1))]:=λw=>by have:=qI (B:=aa.at w) (o:=av f169 92) (x:=.func 94) (aCR (a:=Q) (b:=1) o_ (by rw[VB.1];omega)) (nM (k:=6) (x:=c9 Q) rfl rfl (nM (k:=8) (x:=.row (cJ 1) 3 1) rfl rfl .nil)) k_ k_ (sn _) 9;rw[VB.1,VB.2]at this;exact this
  have uG:∀ t:Bool,decide (0<nd bz R)=t↔decide (R≠0)=t:=λt=>by have:(0<nd bz R)↔R≠0:=⟨λh e=>by rw[e,o7]at h;omega,λh=>uB d_ h⟩;rw[rI.2 this]
  by_cases s1:nd 256 m1<=7
  ·have s2:¬nd 256 m2<=7:=λh=>hs ⟨s1,h⟩;have q1:=sD v1 s1;by_cases hf:R≠0/\n1≠n2
   ·obtain⟨jr,aU⟩:=hf;obtain⟨f1,f2⟩:=fix jr aU;rw[f1,f2];cases n1<;>cases n2<;>first|exact absurd rfl aU|skip
    ·exact aP func169 (λw=>[w1.at 15,w2.at 19,.rw 26 (.bool ((BA (cg m2)).toList==(ByteArray.mk #[]).toList)) (.bool false) (by rw[qg]),q1.at 31,.rw 38 _ (vI (nd 256 m2)) r2,.rw 39 (.bool (decide (((nd 256 m2:Nat):Int)<=7))) (.bool false) (by rw[aN o_]),.lO f169 73 4 m1 o_ k_,.lO f169 76 5 m2 o_ k_,.step 77 _ _ _ _ _ (pT w),.gt 88 (nd bz R) 0 true ((uG _).2 (aC jr)),.bs f169 91 8 1 3 1 [0] (vI 0) [vI 1] #[vI 1] (.row [vI 1] 3 1) rfl (λv hv=>by simp at hv;subst hv;rfl) (λv hv=>by simp at hv;subst hv;rfl) k_ rfl o_ o_ k_,.step 92 (av f169 92) _ _ _ _ (xP w),.eH f169 95 10 m2 o_ k_,.tU f169 97 11 10 7 m2 R (cr m2) (c9 R) rfl rfl rfl rfl (iR y0) o_ k_,.fq f169 104 9 (Q+1) true (cr (Q+1)) rfl rfl o_ k_,.fq f169 108 11 (m2-R) true (cr (m2-R)) rfl rfl o_ k_])
    ·exact aP func169 (λw=>[w1.at 15,w2.at 19,.rw 26 (.bool ((BA (cg m2)).toList==(ByteArray.mk #[]).toList)) (.bool false) (by rw[qg]),q1.at 31,.rw 38 _ (vI (nd 256 m2)) r2,.rw 39 (.bool (decide (((nd 256 m2:Nat):Int)<=7))) (.bool false) (by rw[aN o_]),.lO f169 73 4 m1 o_ k_,.lO f169 76 5 m2 o_ k_,.step 77 _ _ _ _ _ (pT w),.gt 88 (nd bz R) 0 true ((uG _).2 (aC jr)),.bs f169 91 8 1 3 1 [0] (vI 0) [vI 1] #[vI 1] (.row [vI 1] 3 1) rfl (λv hv=>by simp at hv;subst hv;rfl) (λv hv=>by simp at hv;subst hv;rfl) k_ rfl o_ o_ k_,.step 92 (av f169 92) _ _ _ _ (xP w),.eH f169 95 10 m2 o_ k_,.tU f169 97 11 10 7 m2 R (cr m2) (c9 R) rfl rfl rfl rfl (iR y0) o_ k_,.fq f169 104 9 (Q+1) true (cr (Q+1)) rfl rfl o_ k_,.fq f169 108 11 (m2-R) false (cr (m2-R)) rfl rfl o_ k_])
   ·obtain⟨f1,f2⟩:=VD hf;rw[f1,f2];cases n1<;>cases n2
    ·exact aP func169 (λw=>[w1.at 15,w2.at 19,.rw 26 (.bool ((BA (cg m2)).toList==(ByteArray.mk #[]).toList)) (.bool false) (by rw[qg]),q1.at 31,.rw 38 _ (vI (nd 256 m2)) r2,.rw 39 (.bool (decide (((nd 256 m2:Nat):Int)<=7))) (.bool false) (by rw[aN o_]),.lO f169 73 4 m1 o_ k_,.lO f169 76 5 m2 o_ k_,.step 77 _ _ _ _ _ (pT w),.fq f169 104 6 Q false (c9 Q) rfl rfl o_ k_,.fq f169 108 7 R false (c9 R) rfl rfl o_ k_])
    ·have jr:R=0:=gN λh3=>hf ⟨h3,λe=>by cases e⟩;exact aP func169 (λw=>[w1.at 15,w2.at 19,.rw 26 (.bool ((BA (cg m2)).toList==(ByteArray.mk #[]).toList)) (.bool false) (by rw[qg]),q1.at 31,.rw 38 _ (vI (nd 256 m2)) r2,.rw 39 (.bool (decide (((nd 256 m2:Nat):Int)<=7))) (.bool false) (by rw[aN o_]),.lO f169 73 4 m1 o_ k_,.lO f169 76 5 m2 o_ k_,.step 77 _ _ _ _ _ (pT w),.gt 88 (nd bz R) 0 false ((uG _).2 (aN (λh=>h jr))),.fq f169 104 6 Q true (c9 Q) rfl rfl o_ k_,.fq f169 108 7 R true (c9 R) rfl rfl o_ k_])
    ·have jr:R=0:=gN λh3=>hf ⟨h3,λe=>by cases e⟩;exact aP func169 (λw=>[w1.at 15,w2.at 19,.rw 26 (.bool ((BA (cg m2)).toList==(ByteArray.mk #[]).toList)) (.bool false) (by rw[qg]),q1.at 31,.rw 38 _ (vI (nd 256 m2)) r2,.rw 39 (.bool (decide (((nd 256 m2:Nat):Int)<=7))) (.bool false) (by rw[aN o_]),.lO f169 73 4 m1 o_ k_,.lO f169 76 5 m2 o_ k_,.step 77 _ _ _ _ _ (pT w),.gt 88 (nd bz R) 0 false ((uG _).2 (aN (λh=>h jr))),.fq f169 104 6 Q true (c9 Q) rfl rfl o_ k_,.fq f169 108 7 R false (c9 R) rfl rfl o_ k_])
    ·exact aP func169 (λw=>[w1.at 15,w2.at 19,.rw 26 (.bool ((BA (cg m2)).toList==(ByteArray.mk #[]).toList)) (.bool false) (by rw[qg]),q1.at 31,.rw 38 _ (vI (nd 256 m2)) r2,.rw 39 (.bool (decide (((nd 256 m2:Nat):Int)<=7))) (.bool false) (by rw[aN o_]),.lO f169 73 4 m1 o_ k_,.lO f169 76 5 m2 o_ k_,.step 77 _ _ _ _ _ (pT w),.fq f169 104 6 Q false (c9 Q) rfl rfl o_ k_,.fq f169 108 7 R true (c9 R) rfl rfl o_ k_])
  ·have q1:=u5 (neg:=n1) s1;by_cases hf:R≠0/\n1≠n2
   ·obtain⟨jr,aU⟩:=hf;obtain⟨f1,f2⟩:=fix jr aU;rw[f1,f2];cases n1<;>cases n2<;>first|exact absurd rfl aU|skip
    ·exact aP func169 (λw=>[w1.at 15,w2.at 19,.rw 26 (.bool ((BA (cg m2)).toList==(ByteArray.mk #[]).toList)) (.bool false) (by rw[qg]),q1.at 31,.lO f169 73 4 m1 o_ k_,.lO f169 76 5 m2 o_ k_,.step 77 _ _ _ _ _ (pT w),.gt 88 (nd bz R) 0 true ((uG _).2 (aC jr)),.bs f169 91 8 1 3 1 [0] (vI 0) [vI 1] #[vI 1] (.row [vI 1] 3 1) rfl (λv hv=>by simp at hv;subst hv;rfl) (λv hv=>by simp at hv;subst hv;rfl) k_ rfl o_ o_ k_,.step 92 (av f169 92) _ _ _ _ (xP w),.eH f169 95 10 m2 o_ k_,.tU f169 97 11 10 7 m2 R (cr m2) (c9 R) rfl rfl rfl rfl (iR y0) o_ k_,.fq f169 104 9 (Q+1) true (cr (Q+1)) rfl rfl o_ k_,.fq f169 108 11 (m2-R) true (cr (m2-R)) rfl rfl o_ k_])
    ·exact aP func169 (λw=>[w1.at 15,w2.at 19,.rw 26 (.bool ((BA (cg m2)).toList==(ByteArray.mk #[]).toList)) (.bool false) (by rw[qg]),q1.at 31,.lO f169 73 4 m1 o_ k_,.lO f169 76 5 m2 o_ k_,.step 77 _ _ _ _ _ (pT w),.gt 88 (nd bz R) 0 true ((uG _).2 (aC jr)),.bs f169 91 8 1 3 1 [0] (vI 0) [vI 1] #[vI 1] (.row [vI 1] 3 1) rfl (λv hv=>by simp at hv;subst hv;rfl) (λv hv=>by simp at hv;subst hv;rfl) k_ rfl o_ o_ k_,.step 92 (av f169 92) _ _ _ _ (xP w),.eH f169 95 10 m2 o_ k_,.tU f169 97 11 10 7 m2 R (cr m2) (c9 R) rfl rfl rfl rfl (iR y0) o_ k_,.fq f169 104 9 (Q+1) true (cr (Q+1)) rfl rfl o_ k_,.fq f169 108 11 (m2-R) false (cr (m2-R)) rfl rfl o_ k_])
   ·obtain⟨f1,f2⟩:=VD hf;rw[f1,f2];cases n1<;>cases n2
    ·exact aP func169 (λw=>[w1.at 15,w2.at 19,.rw 26 (.bool ((BA (cg m2)).toList==(ByteArray.mk #[]).toList)) (.bool false) (by rw[qg]),q1.at 31,.lO f169 73 4 m1 o_ k_,.lO f169 76 5 m2 o_ k_,.step 77 _ _ _ _ _ (pT w),.fq f169 104 6 Q false (c9 Q) rfl rfl o_ k_,.fq f169 108 7 R false (c9 R) rfl rfl o_ k_])
    ·have jr:R=0:=gN λh3=>hf ⟨h3,λe=>by cases e⟩;exact aP func169 (λw=>[w1.at 15,w2.at 19,.rw 26 (.bool ((BA (cg m2)).toList==(ByteArray.mk #[]).toList)) (.bool false) (by rw[qg]),q1.at 31,.lO f169 73 4 m1 o_ k_,.lO f169 76 5 m2 o_ k_,.step 77 _ _ _ _ _ (pT w),.gt 88 (nd bz R) 0 false ((uG _).2 (aN (λh=>h jr))),.fq f169 104 6 Q true (c9 Q) rfl rfl o_ k_,.fq f169 108 7 R true (c9 R) rfl rfl o_ k_])
    ·have jr:R=0:=gN λh3=>hf ⟨h3,λe=>by cases e⟩;exact aP func169 (λw=>[w1.at 15,w2.at 19,.rw 26 (.bool ((BA (cg m2)).toList==(ByteArray.mk #[]).toList)) (.bool false) (by rw[qg]),q1.at 31,.lO f169 73 4 m1 o_ k_,.lO f169 76 5 m2 o_ k_,.step 77 _ _ _ _ _ (pT w),.gt 88 (nd bz R) 0 false ((uG _).2 (aN (λh=>h jr))),.fq f169 104 6 Q true (c9 Q) rfl rfl o_ k_,.fq f169 108 7 R false (c9 R) rfl rfl o_ k_])
    ·exact aP func169 (λw=>[w1.at 15,w2.at 19,.rw 26 (.bool ((BA (cg m2)).toList==(ByteArray.mk #[]).toList)) (.bool false) (by rw[qg]),q1.at 31,.lO f169 73 4 m1 o_ k_,.lO f169 76 5 m2 o_ k_,.step 77 _ _ _ _ _ (pT w),.fq f169 104 6 Q false (c9 Q) rfl rfl o_ k_,.fq f169 108 7 R true (c9 R) rfl rfl o_ k_])

theorem aOB{Bs:aa}{o:Oper}{y:Operand}(ho:dw o.op=some y){k off n a cc:Nat}{x:Obj}(hx:x.reads=true)(cN:(x.cells.all flat)=true)(hc:(x.cells.drop off).take n=ai (ae bz n a))(ha:a<bz^n)(h63:n<=9223372036854775807):
  cB prog Bs o [.func (.func 139) #[] #[],.slice (some ⟨k,off,some 7⟩) n cc] [(k,some x)] (.slice (some ⟨k,off,some 7⟩) (nd bz a) cc) []:=by
 refine jB (fi:=[]) (ca:=[]) ho k_ λι c w hm hn args' df=>?_;obtain⟨v,rfl,h1⟩:=lW df;have hk:c k=some x:=hn _ (aV ..);have hr:=oD (len:=n) hm hk hx (bh.1 cN) (λh=>h) h1;rw[hc]at hr;refine(aCx hr ha h63).mono ?_
 rintro e w' ⟨rfl,hb⟩
 refine⟨ι,_,rfl,Map.le.refl _,?_,hm.call hb⟩;have jQ:=ja (B:=bz) d_ ha;rcases h1.gV rfl with ⟨q1,q2,q3,q4,q5⟩|⟨b,oo,cap,c',q1,q2,q3,q5⟩
 ·rw[q5];have:nd bz a=0:=by omega
  dsimp only at q4;rw[this,q4,q3];exact .slcN q1
 ·rw[q5];exact .slc q1 o_ q3
theorem aOC(x:Int):IntKind.i64.wrap (((BitVec.ofInt IntKind.i64.bits x)&&& (BitVec.ofInt IntKind.i64.bits 1)).toNat:Int)=x%2:=aC3 x 1 d_
theorem aDf(x:Nat):IntKind.i64.wrap (((BitVec.ofInt IntKind.i64.bits (x:Int))&&& (BitVec.ofInt IntKind.i64.bits 1)).toNat:Int)=((x%2:Nat):Int):=by rw[aOC];rfl
theorem aOD{n z a:Nat}(hz:z<=n)(h0:∀ i,i<z->a/bz^i%bz=0):ae bz n a=List.replicate z 0++ae bz (n-z) (a/bz^z):=by
 apply wR
 ·simp[oE];omega
 ·intro i h1 h2;rw[oE]at h1;by_cases hi:i<z
  ·rw[List.getElem_append_left (by simpa using hi)];simp only[ae,Cp,Cq,List.getElem_replicate];exact h0 i hi
  ·rw[List.getElem_append_right (by simp;omega)];simp only[ae,Cp,Cq,H9];rw[kA,<-ev,show z+(i-z)=i by omega]
theorem aDg{a:Nat}:∀ z,(∀ i,i<z->a/bz^i%bz=0)->a%bz^z=0
 |0,_=>by rw[rL,tf]
 |z+1,h=>by rw[o8,aDg z (λi hi=>h i o_),h z o_];simp
theorem VE{d:Nat}:∀ r,(∀ i,i<r->d/2^i%2=0)->d%2^r=0
 |0,_=>by rw[rL,tf]
 |r+1,h=>by have e:=o8 (B:=2) d r;rw[VE r (λi hi=>h i o_),h r o_]at e;rw[e];simp
theorem aOE{x y r:Nat}(hr:r<=24)(hx:x<bz)(hy:y<bz):x/2^r+y*2^(24-r)%bz=(y*bz+x)/2^r%bz:=by
 have hb:bz=2^(24-r)*2^r:=by rw[<-ev,show 24-r+r=24 by omega]
 have h2:0<2^r:=cG d_;obtain⟨c,hc⟩:∃ c,c=2^(24-r):=⟨_,rfl⟩;obtain⟨q,hq⟩:∃ q,q=2^r:=⟨_,rfl⟩;rw[<-hc,<-hq]at hb;rw[<-hc,<-hq];rw[<-hq]at h2;have h3:x/q<c:=by rw[iv h2,<-hb];exact hx
 have e1:(y*bz+x)/q=y*c+x/q:=by rw[hb,<-fF,mI,o9 _ _ h2,mI]
 have e2:y*c%bz=c*(y%q):=by rw[hb,cP y c,Nat.mul_mod_mul_left]
 have e3:y*c=c*(y%q)+bz*(y/q):=by have:=jb y q;rw[hb,fF,<-oF,mI,this,cP]
 have h4:y%q<q:=cE _ h2;have h5:c*(y%q)+c<=bz:=by rw[hb,<-MR];exact jc _ h4
 have h6:c*(y%q)+x/q<bz:=by omega
 rw[e1,e2,e3,show c*(y%q)+bz*(y/q)+x/q=(c*(y%q)+x/q)+bz*(y/q)by omega,ED,dK h6];omega
section
variable{Bs:aa}{n a z r:Nat}
def xQ(k n z:Nat):Value:=.slice (some ⟨k,z*1,some 7⟩) n z
def xR(n i:Nat):aW:=[(0,xQ 0 (n-i) i),(4,vI (24*i))]
def mX(n a:Nat):aH:=[(0,.row (ai (ae bz n a)) 3 1)]
theorem aOF{i:Nat}(hi:i+1<n)(h0:a/bz^i%bz=0)(h63:n<35184372088832):
  ag prog Bs 62 (aF (af f95 0)) (xR n i) (mX n a) 1 ⟨.normal,xR n (i+1),mX n a,1⟩:=by
 have iS:du prog 3 (ai (ae bz n a)) (i*1)=some (vI 0):=by rw[fX,dO (ek o_),h0]
 unfold xR mX xQ;generalize ai (ae bz n a)=r0 at *;obtain⟨m,hm⟩:∃ m,n-i=m+1:=⟨n-i-1,by omega⟩;have dB:n-(i+1)=m:=by omega
 rw[hm,dB];exact aA [.pr f95 8 0 i (m+1) i 0 i 1 o_ (jn i) k_,.ld f95 9 3 0 (i*1) (.row r0 3 1) (vI 0) rfl iS k_,.fk 10 0 0 true rfl,.next f95 12 0 i m 1 o_ k_,.sum 14 (24*i) 24 (24*(i+1)) o_ o_]
theorem aOG{i:Nat}(hi:i<n)(h0:a/bz^i%bz≠0):
  ag prog Bs 62 (aF (af f95 0)) (xR n i) (mX n a) 1 ⟨.exit 0,xR n i,mX n a,1⟩:=by
 have iS:du prog 3 (ai (ae bz n a)) (i*1)=some (vI (a/bz^i%bz)):=by rw[fX,dO (ek o_)]
 unfold xR mX xQ;generalize ai (ae bz n a)=r0 at *;generalize a/bz^i%bz=d at *;exact aA [.pr f95 8 0 i (n-i) i 0 i 1 o_ (jn i) k_,.ld f95 9 3 0 (i*1) (.row r0 3 1) (vI d) rfl iS k_,.fk 10 d 0 false (aN h0)]
theorem aOH(hz:z<n)(h0:∀ i,i<z->a/bz^i%bz=0)(h1:a/bz^z%bz≠0)(h63:n<35184372088832):
  ag prog Bs 62 (.block 0 (af f95 0)) (xR n 0) (mX n a) 1 ⟨.normal,xR n z,mX n a,1⟩:=
 bT (id:=0) (cd (b:=aF (af f95 0)) (r:=⟨.exit 0,xR n z,mX n a,1⟩) z (xR n) (λ_=>mX n a) (λ_ _ _=>Iff.rfl) (λi hi=>aOF o_ (h0 i hi) h63) (aOG hz h1) n_)
def xT(n z i:Nat):aW:=[(0,xQ 0 (n-z) z),(5,vI i)]
theorem aOI{i d:Nat}(hz:z<n)(hd:a/bz^z%bz=d)(DK:d<bz)(hi:i<24)(h0:d/2^i%2=0):
  ag prog Bs 62 (aF (af f95 2)) (xT n z i) (mX n a) 1 ⟨.normal,xT n z (i+1),mX n a,1⟩:=by
 have iS:du prog 3 (ai (ae bz n a)) (z*1)=some (vI d):=by rw[fX,dO (ek o_),hd]
 unfold xT mX xQ;generalize ai (ae bz n a)=r0 at *;exact aA [.pr f95 16 0 z (n-z) z 0 z 1 o_ (jn z) k_,.ld f95 17 3 0 (z*1) (.row r0 3 1) (vI d) rfl iS k_,.shr f95 19 .i64 (d:Int) ((d/2^i:Nat):Int) i (by rw[show min i IntKind.i64.bits=i from nX (show i<=64 by omega),rK _ (GZ d_),ti,G1];rfl) k_,.wr 20 .i64 _ ((d/2^i%2:Nat):Int) (aDf _),.fk 21 (d/2^i%2) 0 true (aC h0),.sum 23 i 1 (i+1) rfl o_]
theorem aOJ{i d:Nat}(hz:z<n)(hd:a/bz^z%bz=d)(DK:d<bz)(hi:i<24)(h0:d/2^i%2≠0):
  ag prog Bs 62 (aF (af f95 2)) (xT n z i) (mX n a) 1 ⟨.exit 2,xT n z i,mX n a,1⟩:=by
 have iS:du prog 3 (ai (ae bz n a)) (z*1)=some (vI d):=by rw[fX,dO (ek o_),hd]
 unfold xT mX xQ;generalize ai (ae bz n a)=r0 at *;exact aA [.pr f95 16 0 z (n-z) z 0 z 1 o_ (jn z) k_,.ld f95 17 3 0 (z*1) (.row r0 3 1) (vI d) rfl iS k_,.shr f95 19 .i64 (d:Int) ((d/2^i:Nat):Int) i (by rw[show min i IntKind.i64.bits=i from nX (show i<=64 by omega),rK _ (GZ d_),ti,G1];rfl) k_,.wr 20 .i64 _ ((d/2^i%2:Nat):Int) (aDf _),.fk 21 (d/2^i%2) 0 false (aN h0)]
theorem aOK{d:Nat}(hz:z<n)(hd:a/bz^z%bz=d)(DK:d<bz)(hr:r<24)(h0:∀ i,i<r->d/2^i%2=0)(h1:d/2^r%2≠0):
  ag prog Bs 62 (.block 2 (af f95 2)) (xT n z 0) (mX n a) 1 ⟨.normal,xT n z r,mX n a,1⟩:=
 bT (id:=2) (cd (b:=aF (af f95 2)) (r:=⟨.exit 2,xT n z r,mX n a,1⟩) r (xT n z) (λ_=>mX n a) (λ_ _ _=>Iff.rfl) (λi hi=>aOI hz hd DK o_ (h0 i hi)) (aOJ hz hd DK hr h1) n_)
def DL(l z r i:Nat):aW:=[(0,xQ 0 l z),(5,vI r),(6,vI i)]
def oQ(l z r a1 i:Nat):List Nat:=List.replicate z 0++c7 bz l i (a1/2^r) a1
def zU(l z r a1 i:Nat):aH:=[(0,.row (ai (oQ l z r a1 i)) 3 1)]
theorem aDh{l a1 i j:Nat}(hj:j<l)(h:i<=j):(oQ l z r a1 i)[z+j]?=some (a1/bz^j%bz):=by unfold oQ;rw[Eh s_,H9,EN];exact Cr hj h
theorem aDi{l a1 i d:Nat}(hi:i<l)(hd:d=a1/2^r/bz^i%bz):(oQ l z r a1 i).set (z+i) d=oQ l z r a1 (i+1):=by unfold oQ;rw[UL _ _ s_,H9,EN,yJ hi hd]
theorem VF{l a1 i:Nat}:(oQ l z r a1 i).length=z+l:=by unfold oQ;rw[iZ,H9,wS]
theorem aOL{l a1 i:Nat}(hr:r<24)(hi:i<l)(ha:a1<bz^l)(h63:z+l<35184372088832):
  ag prog Bs 62 (aF (af f95 4)) (DL l z r i) (zU l z r a1 i) 1 ⟨.normal,DL l z r (i+1),zU l z r a1 (i+1),1⟩:=by
 have hx:=gO (B:=bz) d_ a1 i;have hy:=gO (B:=bz) d_ a1 (i+1);have u4:=aOE (r:=r) o_ hx hy;rw[Z2 (B:=bz) (k:=r) (X:=a1) (i:=i) d_ ⟨2^(24-r),by rw[<-ev,show r+(24-r)=24 by omega]⟩]at u4;have hw:=gO (B:=bz) d_ (a1/2^r) i;have hlx:du prog 3 (ai (oQ l z r a1 i)) ((z+i)*1)=some (vI (a1/bz^i%bz)):=by rw[fX];exact dO (aDh hi (bj _))
 obtain⟨DM,vY⟩:∃ DM,DM=(oQ l z r a1 i).set (z+i) (a1/bz^i%bz/2^r):=⟨_,rfl⟩;have wL:eW prog 3 (ai (oQ l z r a1 i)) ((z+i)*1) (vI (a1/bz^i%bz/2^r))=some (ai DM):=by rw[fX,wb (by rw[VF];omega),vY]
 have DJ:du prog 3 (ai DM) ((z+i)*1)=some (vI (a1/bz^i%bz/2^r)):=by rw[fX];refine dO ?_;rw[vY,List.getElem?_set_self (by rw[VF];omega)]
 have VG:i+1<l->du prog 3 (ai DM) ((z+(i+1))*1)=some (vI (a1/bz^(i+1)%bz)):=λh=>by rw[fX];refine dO ?_;rw[vY,List.getElem?_set_ne o_];exact aDh h o_
 have ur:eW prog 3 (ai DM) ((z+i)*1) (vI (a1/2^r/bz^i%bz))=some (ai (oQ l z r a1 (i+1))):=by rw[fX,wb (by rw[vY,Vt,VF];omega),vY,List.set_set,aDi hi rfl]
 have vz:¬i+1<l->ai DM=ai (oQ l z r a1 (i+1))/\True:=λh=>by have h0:a1/bz^(i+1)%bz=0:=qy ha o_ d_;rw[h0,lC,Nat.zero_mod,jn]at u4;refine⟨?_,trivial⟩;rw[vY,u4,aDi hi rfl]
 have jJ:bz=16777216:=rfl;unfold DL zU xQ;generalize ai (oQ l z r a1 (i+1))=r2 at *;generalize ai (oQ l z r a1 i)=r0 at *;generalize ai DM=r1 at *;generalize a1/2^r/bz^i%bz=w at *;generalize a1/bz^(i+1)%bz=y at *;generalize a1/bz^i%bz=x at *;have hq:(x:Int).fdiv (2^(min r IntKind.i64.bits))=((x/2^r:Nat):Int):=by rw[show min r IntKind.i64.bits=r from nX (show r<=64 by omega),rK _ (GZ d_),ti,G1];rfl
 have hxq:x/2^r<=x:=tj _ _;by_cases hl:i+1<l
 ·have VG:=VG hl;have h24:y*2^(24-r)<281474976710656:=by have h1:2^(24-r)<=2^24:=cZ d_ o_;have h2:=Z6 hy h1 d_;rw[show bz*2^24=281474976710656 by decide]at h2;exact h2
  have aDj:IntKind.i64.wrap ((y:Int)*2^(min (24-r) IntKind.i64.bits))=((y*2^(24-r):Nat):Int):=by
   have e:(y:Int)*2^(24-r)=((y*2^(24-r):Nat):Int):=by simp
   rw[show min (24-r) IntKind.i64.bits=24-r from nX (show 24-r<=64 by omega),c8,e];omega
  obtain⟨g,hg⟩:∃ g,g=y*2^(24-r):=⟨_,rfl⟩;rw[<-hg]at u4 aDj h24;obtain⟨v,hv⟩:∃ v,v=x/2^r:=⟨_,rfl⟩;rw[<-hv]at u4 hq hxq wL DJ;exact fj mixed 200 [.lt 27 i l true (by simp[hi]),.pr f95 32 0 z l z i (z+i) 1 hi rfl k_,.ld f95 33 3 0 ((z+i)*1) (.row r0 3 1) (vI x) rfl hlx k_,.shr f95 35 .i64 (x:Int) (v:Int) r hq k_,.pr f95 36 0 z l z i (z+i) 1 hi rfl k_,.st f95 100036 3 0 ((z+i)*1) (.row r0 3 1) (vI v) (.row r1 3 1) rfl wL rfl k_,.sum 38 i 1 (i+1) rfl o_,.lt 41 (i+1) l true (by simp[hl]),.pr f95 44 0 z l z i (z+i) 1 hi rfl k_,.ld f95 45 3 0 ((z+i)*1) (.row r1 3 1) (vI v) rfl DJ k_,.sum 48 i 1 (i+1) rfl o_,.pr f95 49 0 z l z (i+1) (z+(i+1)) 1 hl rfl k_,.ld f95 50 3 0 ((z+(i+1))*1) (.row r1 3 1) (vI y) rfl VG k_,.eX 52 24 r (24-r) o_ o_,.shl f95 53 .i64 (y:Int) (g:Int) (24-r) aDj k_,.FM 54 g bz (g%bz) rfl,.sum 55 v (g%bz) w u4.symm o_,.pr f95 56 0 z l z i (z+i) 1 hi rfl k_,.st f95 100056 3 0 ((z+i)*1) (.row r1 3 1) (vI w) (.row r2 3 1) rfl ur rfl k_,.sum 29 i 1 (i+1) rfl o_] k_
 ·obtain⟨e1,_⟩:=vz hl;subst e1;obtain⟨v,hv⟩:∃ v,v=x/2^r:=⟨_,rfl⟩;rw[<-hv]at u4 hq hxq wL DJ;exact fj mixed 200 [.lt 27 i l true (by simp[hi]),.pr f95 32 0 z l z i (z+i) 1 hi rfl k_,.ld f95 33 3 0 ((z+i)*1) (.row r0 3 1) (vI x) rfl hlx k_,.shr f95 35 .i64 (x:Int) (v:Int) r hq k_,.pr f95 36 0 z l z i (z+i) 1 hi rfl k_,.st f95 100036 3 0 ((z+i)*1) (.row r0 3 1) (vI v) (.row r1 3 1) rfl wL rfl k_,.sum 38 i 1 (i+1) rfl o_,.lt 41 (i+1) l false (by simp[hl]),.sum 29 i 1 (i+1) rfl o_] k_
theorem aOM{l a1:Nat}(hr:r<24)(ha:a1<bz^l)(h63:z+l<35184372088832):
  ag prog Bs 62 (.block 4 (af f95 4)) (DL l z r 0) (zU l z r a1 0) 1 ⟨.normal,DL l z r l,zU l z r a1 l,1⟩:=
 bT (id:=4) (cd (b:=aF (af f95 4)) (r:=⟨.exit 4,DL l z r l,zU l z r a1 l,1⟩) l (DL l z r) (zU l z r a1) (λk j _=>jN (l:=zU l z r a1 k) (m:=zU l z r a1 0) rfl j) (λi hi=>aOL hr hi ha h63)
  (aA [.lt 27 l l false s_]) n_)
end

theorem aDk{a:Nat}(h0:a≠0):∃ z r,z<nd bz a/\r<24/\(∀ i,i<z->a/bz^i%bz=0)/\a/bz^z%bz≠0/\(∀ i,i<r->a/bz^z%bz/2^i%2=0)/\a/bz^z%bz/2^r%2≠0/\
  a=a/bz^z/2^r*2^(24*z+r)/\a/bz^z/2^r%2=1:=by
 have hnp:=uB (B:=bz) d_ h0;have xe:¬a/bz^(nd bz a-1)%bz=0:=λh=>by have h1:=dS (B:=bz) d_ a;rw[show nd bz a=nd bz a-1+1 by omega]at h1;have h2:=(GD (B:=bz) d_ h1).1 h;have h3:=ja (B:=bz) d_ h2;omega
 obtain⟨z,z1,z2,z3⟩:=yI (λi=>¬a/bz^i%bz=0) _ xe;have z3':∀ i,i<z->a/bz^i%bz=0:=λi hi=>EI.1 (z3 i hi);obtain⟨d,hd⟩:∃ d,d=a/bz^z%bz:=⟨_,rfl⟩;have DK:d<bz:=by rw[hd];exact cE _ d_
 have CU:d≠0:=by rw[hd];exact z2
 have aON:∃ i,i<24/\¬d/2^i%2=0:=gN λgE=>CU (by have h:=VE (d:=d) 24 (λi hi=>gN λh=>gE ⟨i,hi,h⟩);rw[dK (show d<2^24 from DK)]at h;exact h)
 obtain⟨i0,hi0,kG⟩:=aON;obtain⟨r,r1,r2,r3⟩:=yI (λi=>¬d/2^i%2=0) _ kG;have VH:∀ i,i<r->d/2^i%2=0:=λi hi=>EI.1 (r3 i hi);have e1:a%bz^z=0:=aDg z z3';have e2:d%2^r=0:=VE r VH;obtain⟨a1,eC⟩:∃ a1,a1=a/bz^z:=⟨_,rfl⟩;have ea:a=a1*bz^z:=by have:=jb a (bz^z);rw[e1,<-eC,cP]at this;omega
 have hb:bz=2^(24-r)*2^r:=by rw[<-ev,show 24-r+r=24 by omega]
 have ed:a1=bz*(a1/bz)+d:=by rw[hd,<-eC];exact(jb _ _).symm
 have e3:a1%2^r=0:=by
  rw[ed]
  conv=>lhs;rw[hb]
  rw[Bb,cP _ (2^r),Nat.mul_add_mod,e2]
 have ea1:a1=a1/2^r*2^r:=by have:=jb a1 (2^r);rw[e3,cP]at this;omega
 have e4:a1/2^r%2=d/2^r%2:=by
  have h2:0<2^r:=cG d_;have h3:a1/2^r=2^(24-r)*(a1/bz)+d/2^r:=by
   conv=>lhs;rw[ed,hb]
   rw[Bb,mI,o9 _ _ h2,mI];rw[<-hb]
  rw[h3,show 24-r=(23-r)+1 by omega,dx,Bb,mI,CK]
 rw[hd]at r2 VH;refine⟨z,r,by omega,by omega,z3',z2,VH,r2,?_,?_⟩
 ·rw[<-eC];have e5:bz^z=2^(24*z):=by rw[rM]
  rw[ev,cP (2^(24*z)),<-fF,<-ea1,<-e5];exact ea
 ·rw[<-eC,e4,hd];omega
theorem aOO{a:Nat}(h0:a≠0)(h63:nd bz a<1099511627776):∃ s a2,a=a2*2^s/\a2%2=1/\s<35184372088832/\∀(Bs:aa) (o:Oper) (k j:Nat),dw o.op=some (.func 95)->
  cB prog Bs o [.func (.func 95) #[] #[],sl k (nd bz a)] [(k,some (cr a)),(j,none)] (.tuple #[sl j (nd bz a2),vI s]) [(j,c9 a2),(k,.dead)]:=by
 obtain⟨z,r,hz,hr,z3,z2,r3,r2,aDl,PJ⟩:=aDk h0;have ak:=dS (B:=bz) d_ a;obtain⟨a1,eC⟩:∃ a1,a1=a/bz^z:=⟨_,rfl⟩;obtain⟨a2,gZ⟩:∃ a2,a2=a1/2^r:=⟨_,rfl⟩;have DK:a/bz^z%bz<bz:=cE _ d_;rw[<-eC,<-gZ]at aDl PJ;refine⟨24*z+r,a2,aDl,PJ,by omega,λBs o k j ho=>?_⟩;have h20:a2≠0:=λe=>by rw[e]at PJ;cases PJ
 have oR:=aOD (n:=nd bz a) (z:=z) (a:=a) o_ z3;rw[<-eC]at oR;have jm:cr a=.row (ai (ae bz (nd bz a) a)) 3 1:=rfl;obtain⟨n,hn⟩:∃ n,n=nd bz a:=⟨_,rfl⟩;rw[jm];rw[<-hn]at hz ak oR h63 ⊢;have aDm:a1<bz^(n-z):=by rw[eC,iv (cG d_),<-ev,show n-z+z=n by omega];exact ak
 have VI:a2<bz^(n-z):=eL (by rw[gZ];exact tj _ _) aDm;have l1:=λBs=>aOH (Bs:=Bs) hz z3 z2 o_;have l2:=λBs=>aOK (Bs:=Bs) (r:=r) hz rfl DK hr r3 r2;have l3:=λBs=>aOM (Bs:=Bs) (z:=z) (l:=n-z) hr aDm o_;have e0:oQ (n-z) z r a1 0=ae bz n a:=by unfold oQ;rw[oR];unfold c7 ae;simp
 have e1:oQ (n-z) z r a1 (n-z)=List.replicate z 0++ae bz (n-z) a2:=by
  unfold oQ;rw[<-gZ]
  congr 1
  unfold c7 ae;refine yA λi hi=>?_;rw[aw (kh.1 hi)]
 obtain⟨fin,DE⟩:∃ fin,fin=ai (List.replicate z 0++ae bz (n-z) a2):=⟨_,rfl⟩;have aDn:(fin.drop (z*1)).take (n-z)=ai (ae bz (n-z) a2):=by rw[DE,fX];unfold ai;rw[sW,Rc s_,ki (by simp[oE])]
 unfold zU at l3;rw[e0,e1,<-DE]at l3;have aOP:nd bz a2<=n-z:=ja d_ VI;have CM:fin.all flat=true:=by rw[DE];exact gU _
 have CT:(fin.drop (z*1)).take (nd bz a2)=cJ a2:=by
  have h1:(ai (ae bz (n-z) a2)).take (nd bz a2)=cJ a2:=by have:=BQ VI;rwa[fX]at this
  rw[<-aDn,Mf,nX aOP]at h1;exact h1
 have kz:=uB (B:=bz) d_ h20;have htr:∀ Bs,cB prog Bs (av f95 58) [.func (.func 139) #[] #[],xQ 0 (n-z) z] [(0,some (.row fin 3 1))] (xQ 0 (nd bz a2) z) []:=λBs=>
  aOB (Bs:=Bs) (y:=.func 139) (k:=0) (off:=z*1) (cc:=z) (x:=.row fin 3 1) k_ rfl CM aDn VI o_
 unfold xR mX at l1;unfold xT mX at l2;unfold DL at l3;refine aN2 (x:=.func 95) ho k_ o_ (kv _) (kv _) rfl kz λw g cap cur hg lq jy bH hc=>?_;have hm:=R7 hg jy bH hc (kv _)
 refine rG (M:=[(0,.row (ai (ae bz n a)) 3 1)]) (next:=1) (args:=[sl 0 n]) (args':=[.slice (some ⟨g,0,none⟩) n cap]) (v:=.tuple #[xQ 0 (nd bz a2) z,vI (24*z+r)])
  (ms:=[(0,.row fin 3 1)]) (N:=62) mixed func95 k_ 200
  (rs:=[(.code 0 _ _ _ _ _ (l1 _):aY prog (aa.vy w g) 62),.code 2 _ _ _ _ _ (l2 _),.code 4 _ _ _ _ _ (l3 _),.step 58 (av f95 58) _ _ _ _ (htr _),.sum 61 (24*z) r (24*z+r) rfl o_]) k_ ?_ hm ?_ ?_ ?_
 ·exact .cons (.slc (off:=0) (fD _ _ _) lq o_) .nil
 ·exact Zh _ _ _
 ·intro k hk;unfold ba;rw[ao o_]
 ·intro au bY v' w' hle sV bo dy;have Db:=dy _ (aV ..);have qk:=hle 0 _ (fD _ _ _);obtain⟨q1,fK,q2,q3,q4⟩:=R8 bo qk Db (bh.1 CM);obtain⟨cM,rfl,bd⟩:=sV.ug;obtain⟨p,q,hp,h3,h4⟩:=jx bd;have e:cM=#[p,q]:=vm.1 (by rw[hp]);subst e;rw[h4.eU rfl];have ct:=oD (len:=nd bz a2) bo Db rfl (bh.1 CM) (λh=>h) h3;have BV:cK w' p (nd bz a2) ((fin.drop (z*1)).take (nd bz a2)):=ct;rw[CT]at BV;rcases h3.gV rfl with ⟨_,Jc,_⟩|⟨b,oo,rk,c2,gp,_,_,he⟩
  ·omega
  ·dsimp only at gp he;rw[qk]at gp;injection gp with gp;injection gp with gp hb3 hb4;subst gp;subst hb3;rw[he]at BV ⊢;exact⟨_,_,rfl,q1,⟨fK,q2,q3⟩,BV⟩
theorem aDo{m:Nat}(h:m%2=1)(s:Nat):Nat.Coprime (2^s) m:=by refine Nat.Coprime.pow_left s ?_;show Nat.gcd 2 m=1;rw[Nat.gcd_rec,h];rfl
theorem aDp{x y s t:Nat}(h:x*2^s=y*2^t)(hx:x%2=1)(bL:s<=t):x=y/\s=t:=by
 obtain⟨d,rfl⟩:∃ d,t=s+d:=⟨t-s,by omega⟩;have h2:0<2^s:=cG d_;rw[ev,cP (2^s),<-fF]at h;have h3:=aJO h2 h;cases d with
 |zero=>exact⟨by rw[h3];simp,rfl⟩
 |succ d=>
  exfalso;rw[dx,<-fF]at h3;rw[h3,Y2]at hx;cases hx
theorem aOQ{x y s t:Nat}(h:x*2^s=y*2^t)(hx:x%2=1)(hy:y%2=1):x=y/\s=t:=by
 rcases Nz s t with h1|h1
 ·exact aDp h hx h1
 ·obtain⟨e1,e2⟩:=aDp h.symm hy h1;exact⟨e1.symm,e2.symm⟩
noncomputable def gH(a:Nat):Nat:=by
 classical
 exact if h:∃ x s,a=x*2^s/\x%2=1 then h.choose else 1
theorem aDq{a x s:Nat}(h:a=x*2^s)(hx:x%2=1):gH a=x:=by have hex:∃ x s,a=x*2^s/\x%2=1:=⟨x,s,h,hx⟩;unfold gH;rw[dif_pos hex];obtain⟨t,h1,h2⟩:=hex.choose_spec;exact(aOQ (h1.symm.trans h) h2 hx).1
theorem VJ{a:Nat}(h0:a≠0):∃ s,a=gH a*2^s/\gH a%2=1/\gH a<=a:=by obtain⟨z,r,_,_,_,_,_,_,h1,h2⟩:=aDk h0;have e:=aDq h1 h2;rw[e];exact⟨_,h1,h2,de (EK _ (cG d_)) (vj h1.symm)⟩
noncomputable def gs(a b:Nat):Nat->Nat×Nat
 |0=>(a,b)
 |i+1=>(min (gs a b i).1 (gs a b i).2,gH (max (gs a b i).1 (gs a b i).2-min (gs a b i).1 (gs a b i).2))
theorem aOR{u v:Nat}(hu:u%2=1)(hv:v%2=1)(aU:u≠v):min u v%2=1/\gH (max u v-min u v)%2=1/\Nat.gcd (min u v) (gH (max u v-min u v))=Nat.gcd u v/\min u v+gH (max u v-min u v)<u+v/\max (min u v) (gH (max u v-min u v))<=max u v:=by
 have go:∀ u v,u%2=1->u<v->gH (v-u)%2=1/\Nat.gcd u (gH (v-u))=Nat.gcd u v/\u+gH (v-u)<u+v/\max u (gH (v-u))<=v:=by intro u v hu ak;obtain⟨s,h1,h2,h3⟩:=VJ (show v-u≠0 by omega);refine⟨h2,?_,by omega,Nat.max_le.2 ⟨by omega,by omega⟩⟩;have h4:=(aDo hu s).gcd_mul_right_cancel_right (gH (v-u));rw[<-h1]at h4;rw[<-h4,Nat.gcd_sub_self_right o_]
 rcases Ek aU with h|h
 ·rw[nX o_,aDr o_];obtain⟨h1,h2,h3,h4⟩:=go u v hu h;exact⟨hu,h1,h2,h3,h4⟩
 ·rw[Vo o_,aDs o_];obtain⟨h1,h2,h3,h4⟩:=go v u hv h;exact⟨hv,h1,by rw[h2,Hg],by omega,h4⟩
theorem PK{a b:Nat}(ha:a%2=1)(hb:b%2=1):∀ i,(∀ j,j<i->(gs a b j).1≠(gs a b j).2)->(gs a b i).1%2=1/\(gs a b i).2%2=1/\Nat.gcd (gs a b i).1 (gs a b i).2=Nat.gcd a b/\(gs a b i).1+(gs a b i).2+i<=a+b/\max (gs a b i).1 (gs a b i).2<=max a b
 |0,_=>⟨ha,hb,rfl,bj _,bj _⟩
 |i+1,h=>by obtain⟨h1,h2,h3,h4,h5⟩:=PK ha hb i λj hj=>h j o_;obtain⟨k1,k2,k3,k4,k5⟩:=aOR h1 h2 (h i o_);exact⟨k1,k2,k3.trans h3,by show min _ _+gH _+(i+1)<=a+b;omega,de k5 h5⟩
theorem aOS{a b:Nat}(ha:a%2=1)(hb:b%2=1):∃ n,(gs a b n).1=(gs a b n).2/\∀ i,i<n->(gs a b i).1≠(gs a b i).2:=by
 have key:∃ n,(gs a b n).1=(gs a b n).2:=gN λgE=>by have:=PK ha hb (a+b+1) λj _ h=>gE ⟨j,h⟩;omega
 obtain⟨n,hn⟩:=key;obtain⟨e,h1,h2,h3⟩:=yI (λi=>(gs a b i).1=(gs a b i).2) n hn;exact⟨e,h2,h3⟩
theorem aOT{x y s t:Nat}(hx:x%2=1)(hy:y%2=1):Nat.gcd (x*2^s) (y*2^t)=Nat.gcd x y*2^(min s t):=by
 have go:∀ x y s t,x%2=1->s<=t->Nat.gcd (x*2^s) (y*2^t)=Nat.gcd x y*2^s:=by intro x y s t hx bL;obtain⟨d,rfl⟩:∃ d,t=s+d:=⟨t-s,by omega⟩;rw[ev,cP (2^s),<-fF,Nat.gcd_mul_right,(aDo hx d).gcd_mul_right_cancel_right]
 rcases Nz s t with h|h
 ·rw[nX h,go x y s t hx h]
 ·rw[Vo h,Hg,go y x t s hy h,Hg]
theorem VK{a b:Nat}{t:Bool}(h:decide (a=b)=t):Value.bool (gP a b==0)=.bool t:=by
 rw[<-h];congr 1;unfold gP
 by_cases h1:a<b
 ·rw[aw h1,aN o_];rfl
 ·rw[ao h1];by_cases h2:b<a
  ·rw[aw h2,aN o_];rfl
  ·rw[ao h2,aC o_];rfl
theorem aDt{a b:Nat}{t:Bool}(h:decide (b<a)=t):Value.bool (decide (gP a b>0))=.bool t:=by
 rw[<-h];congr 1;rw[rI];unfold gP
 by_cases h1:a<b
 ·rw[aw h1];omega
 ·rw[ao h1];by_cases h2:b<a
  ·rw[aw h2];omega
  ·rw[ao h2];omega
theorem PL{a:Nat}(h0:a≠0)(h63:nd bz a<1099511627776):∃ s,a=gH a*2^s/\s<35184372088832/\∀(Bs:aa) (o:Oper) (k j:Nat),dw o.op=some (.func 95)->
  cB prog Bs o [.func (.func 95) #[] #[],sl k (nd bz a)] [(k,some (cr a)),(j,none)] (.tuple #[sl j (nd bz (gH a)),vI s]) [(j,c9 (gH a)),(k,.dead)]:=by
 obtain⟨s,a2,h1,h2,h3,h4⟩:=aOO h0 h63;have e:=aDq h1 h2;rw[e];exact⟨s,h1,h3,h4⟩
section
variable{Bs:aa}
def gI(u v:Nat):aW:=[(9,sl 7 (nd bz u)),(10,sl 8 (nd bz v))]
def gX(u v:Nat):List Obj:=[c9 u,c9 v]
theorem aOU{u v:Nat}(ak:u<v)(hu:nd bz u<1099511627776)(hv:nd bz v<1099511627776):
  ag prog Bs 111 (aF (af f56 2)) (gI u v) ([]++marks 7 (gX u v)) 9 ⟨.normal,gQ 7 [some 7,some 10] (gI u (gH (v-u))),[]++dT [some 7,some 10] (gX u (gH (v-u))),11⟩:=by
 have hd:nd bz (v-u)<1099511627776:=eL (iJ d_ (Bj _ _)) hv;obtain⟨s,_,_,ho⟩:=PL (show v-u≠0 by omega) hd;exact aA [.u7 f56 86 7 8 u v (c9 u) (c9 v) rfl rfl rfl rfl o_ o_ k_,.rw 88 _ (.bool false) (VK (a:=u) (b:=v) (aN o_)),.rw 90 _ (.bool false) (aDt (a:=u) (b:=v) (aN o_)),.tU f56 96 9 8 7 v u (c9 v) (c9 u) rfl rfl rfl rfl o_ o_ k_,.step 97 _ _ _ _ _ (ho Bs (av f56 97) 9 10 k_)]
theorem aOV{u v:Nat}(ak:v<u)(hu:nd bz u<1099511627776)(hv:nd bz v<1099511627776):
  ag prog Bs 111 (aF (af f56 2)) (gI u v) ([]++marks 7 (gX u v)) 9 ⟨.normal,gQ 7 [some 8,some 10] (gI v (gH (u-v))),[]++dT [some 8,some 10] (gX v (gH (u-v))),11⟩:=by
 have hd:nd bz (u-v)<1099511627776:=eL (iJ d_ (Bj _ _)) hu;obtain⟨s,_,_,ho⟩:=PL (show u-v≠0 by omega) hd;exact aA [.u7 f56 86 7 8 u v (c9 u) (c9 v) rfl rfl rfl rfl o_ o_ k_,.rw 88 _ (.bool false) (VK (a:=u) (b:=v) (aN o_)),.rw 90 _ (.bool true) (aDt (a:=u) (b:=v) (aC o_)),.tU f56 96 9 7 8 u v (c9 u) (c9 v) rfl rfl rfl rfl o_ o_ k_,.step 97 _ _ _ _ _ (ho Bs (av f56 97) 9 10 k_)]
theorem aOW{u:Nat}(hu:nd bz u<1099511627776):
  ag prog Bs 111 (aF (af f56 2)) (gI u u) ([]++marks 7 (gX u u)) 9 ⟨.exit 2,[(9,sl 7 (nd bz u))],[(7,c9 u)],9⟩:=
 aA [.u7 f56 86 7 8 u u (c9 u) (c9 u) rfl rfl rfl rfl o_ o_ k_,.rw 88 _ (.bool true) (VK (a:=u) (b:=u) (aC rfl))]
theorem aOX{a b:Nat}(ha:a%2=1)(hb:b%2=1)(hm:nd bz (max a b)<1099511627776):
  ag prog Bs 111 (.block 2 (af f56 2)) [(9,sl 5 (nd bz a)),(10,sl 6 (nd bz b))] [(5,c9 a),(6,c9 b)] 7 ⟨.normal,[(9,sl 7 (nd bz (Nat.gcd a b)))],[(7,c9 (Nat.gcd a b))],9⟩:=by
 obtain⟨n,hn,hi⟩:=aOS ha hb;have uP:=(PK ha hb n hi).2.2.1;rw[hn,Nat.gcd_self]at uP;have El:∀ i,i<=n->nd bz (gs a b i).1<1099511627776/\nd bz (gs a b i).2<1099511627776:=λi ct=>by have h:=(PK ha hb i λj hj=>hi j o_).2.2.2.2;have h1:=iJ (B:=bz) d_ (de (Nat.le_max_left _ _) h);have h2:=iJ (B:=bz) d_ (de (Nat.le_max_right _ _) h);omega
 have vz:ag prog Bs 111 (aF (af f56 2)) (gI (gs a b n).1 (gs a b n).2) ([]++marks 7 (gX (gs a b n).1 (gs a b n).2)) 9 ⟨.exit 2,[(9,sl 7 (nd bz (Nat.gcd a b)))],[(7,c9 (Nat.gcd a b))],9⟩:=by have gp:=(El n (bj _)).2;rw[hn,uP]at *;exact aOW gp
 have:=rQ (P:=prog) (B:=Bs) (N:=111) (b:=aF (af f56 2)) (next:=7) (p:=2) (r:=⟨.exit 2,[(9,sl 7 (nd bz (Nat.gcd a b)))],[(7,c9 (Nat.gcd a b))],9⟩) n (λi=>gI (gs a b i).1 (gs a b i).2) (λ_=>[]) (λi=>gX (gs a b i).1 (gs a b i).2) [some 5,some 6] (λ_ _=>rfl)
  (λi _=>⟨λq hq=>(by cases hq),λz hz=>by simp[gX]at hz;rcases hz with rfl|rfl<;>exact GV (kv _)⟩) k_ k_
  (λi ak=>by
   have aU:=hi i ak;obtain⟨b1,b2⟩:=El i o_;have e1:(gs a b (i+1)).1=min (gs a b i).1 (gs a b i).2:=rfl;have e2:(gs a b (i+1)).2=gH (max (gs a b i).1 (gs a b i).2-min (gs a b i).1 (gs a b i).2):=rfl;simp only[e1,e2];generalize (gs a b i).1=u at *;generalize (gs a b i).2=v at *;rcases Ek aU with h|h
   ·rw[nX o_,aDr o_];exact⟨[some 7,some 10],11,k_,aOU h b1 b2⟩
   ·rw[Vo o_,aDs o_];exact⟨[some 8,some 10],11,k_,aOV h b1 b2⟩) vz n_
 exact bT (id:=2) this
def tI(g s t i:Nat):aW:=[(14,vI i),(9,sl 9 (nd bz (g*2^i))),(11,vI s),(12,vI t)]
theorem aOY{g s t i:Nat}(hi:i<min s t)(hg:nd bz (g*2^i)<35184372088832)(hs:s<35184372088832):
  ag prog Bs 111 (aF (af f56 4)) (tI g s t i) ([]++marks 9 [c9 (g*2^i)]) 10 ⟨.normal,gQ 9 [some 10] (tI g s t (i+1)),[]++dT [some 10] [c9 (g*2^(i+1))],11⟩:=by
 have ht:=aDe (B:=Bs) (o:=av f56 108) (x:=.func 98) (aNx (a:=g*2^i) (c:=0) o_ hg) (nM (k:=9) (x:=c9 (g*2^i)) rfl rfl (.p (v:=vI 0) rfl .nil)) k_ k_ (sn _) 10;have e:2*(g*2^i)+0=g*2^(i+1):=by rw[dx,jn,mJ,cP 2]
 rw[e]at ht;obtain⟨m,hm⟩:∃ m,m=min s t:=⟨_,rfl⟩;rw[<-hm]at hi;have dy:m<=s:=by rw[hm];exact Nat.min_le_left _ _
 unfold tI;generalize g*2^(i+1)=y at *;generalize g*2^i=x at *;exact aA [.PE f56 103 s t m hm k_,.lt 104 i m true (aC hi),.step 108 _ _ _ _ _ ht,.sum 106 i 1 (i+1) rfl o_]
theorem aOZ{g s t:Nat}(hg:∀ i,i<=min s t->nd bz (g*2^i)<35184372088832)(hs:s<35184372088832):
  ag prog Bs 111 (.block 4 (af f56 4)) [(14,vI 0),(9,sl 7 (nd bz g)),(11,vI s),(12,vI t)] [(7,c9 g)] 9 ⟨.normal,[(9,sl 9 (nd bz (g*2^min s t)))],[(9,c9 (g*2^min s t))],10⟩:=by
 have:=rQ (P:=prog) (B:=Bs) (N:=111) (b:=aF (af f56 4)) (next:=9) (p:=1) (r:=⟨.exit 4,[(9,sl 9 (nd bz (g*2^min s t)))],[(9,c9 (g*2^min s t))],10⟩) (min s t) (tI g s t) (λ_=>[]) (λi=>[c9 (g*2^i)]) [some 7] (λ_ _=>rfl)
  (λi _=>⟨λq hq=>(by cases hq),λz hz=>by simp at hz;subst hz;exact GV (kv _)⟩) k_ k_
  (λi ak=>⟨[some 10],11,k_,aOY ak (hg i o_) hs⟩)
  (by unfold tI;obtain⟨m,hm⟩:∃ m,m=min s t:=⟨_,rfl⟩;rw[<-hm];generalize g*2^m=x at *;exact aA [.PE f56 103 s t m hm k_,.lt 104 m m false s_]) n_
 have e0:g*2^0=g:=by simp
 unfold tI at this;rw[e0]at this;exact bT (id:=4) this
def aV1(u v:Nat):aW:=[(5,vI u),(7,vI v)]
theorem aVP{x y:Nat}:ag prog Bs 111 (.block 0 (af f56 0)) (aV1 x y) [] 3 ⟨.normal,[(5,vI (Nat.gcd x y))],[],3⟩:=by
 obtain⟨n,hn,hi⟩:=Ny x y (λ_ v=>decide (v≠0)) (λu v h=>kH h);have hz:(eu x y n).2=0:=by have:=Hh hn;omega
 have hg:=J1 x y n;rw[hz,S7]at hg;rw[<-hg];refine bT (id:=0) (cd (P:=prog) (B:=Bs) (N:=111) (b:=aF (af f56 0)) (next:=3) (r:=⟨.exit 0,[(5,vI (eu x y n).1)],[],3⟩) n (λi=>aV1 (eu x y i).1 (eu x y i).2) (λ_=>[]) (λ_ _ _=>Iff.rfl) (λi ak=>?_) ?_ n_)
 ·have h0:(eu x y i).2≠0:=kH (hi i ak);show ag _ _ _ _ (aV1 (eu x y i).1 (eu x y i).2) [] 3 ⟨.normal,aV1 (eu x y i).2 ((eu x y i).1%(eu x y i).2),[],3⟩;generalize (eu x y i).1=u at *;generalize (eu x y i).2=v at *;exact aA [.rw 49 (.bool ((v:Int)!=0)) (.bool true) (by congr 1;rw[uC];omega),.th f56 53 .i64 (u:Int) v ((u%v:Nat):Int) o_ (by rw[yT o_];rfl) k_]
 ·rw[hz];exact aA [.rw 49 (.bool (((0:Nat):Int)!=0)) (.bool false) rfl]
end
theorem aVE{n1 n2:Bool}{m1 m2 p q:Nat}(v1:n1=true->m1≠0)(v2:n2=true->m2≠0)(h1:m1<2^p)(h2:m2<2^q)(hp:p<=1099511627774)(hq:q<=1099511627774):
  aE prog 56 [sv n1 m1,sv n2 m2] (bM (Nat.gcd m1 m2:Nat)):=by
 have b1:=tV h1;have b2:=tV h2;have c1:=vD h1;have c2:=vD h2;have w1:=aVS n1 v1;have w2:=aVS n2 v2;have r1:=La m1;have r2:=La m2;by_cases hs:nd 256 m1<=7/\nd 256 m2<=7
 ·obtain⟨s1,s2⟩:=hs;have q1:=sD (neg:=false) (m:=m1) n_ s1;have q2:=sD (neg:=false) (m:=m2) n_ s2;have l1:=Ia s1;have l2:=Ia s2;have NA:Nat.gcd m1 m2<72057594037927936:=by
   by_cases h0:m1=0
   ·rw[h0,TJ];exact l2
   ·exact eL (aAP _ (te h0)) l1
  exact aP func56 (λw=>[w1.at 16,w2.at 20,.rw 26 _ (vI (nd 256 m1)) r1,.rw 27 (.bool (decide (((nd 256 m1:Nat):Int)<=7))) (.bool true) (by rw[aC o_]),.rw 31 _ (vI (nd 256 m2)) r2,.rw 32 (.bool (decide (((nd 256 m2:Nat):Int)<=7))) (.bool true) (by rw[aC o_]),q1.at 38,q2.at 45,.code 0 _ _ _ _ _ (aVP (x:=m1) (y:=m2)),(aVQ (z:=((Nat.gcd m1 m2:Nat):Int)) o_ o_).at 55])
 ·by_cases hz:m1=0\/m2=0
  ·have e:Nat.gcd m1 m2=m1+m2:=by rcases hz with h|h<;>rw[h]<;>simp
   have bs:nd bz (m1+m2)<35184372088832:=by rcases hz with h|h<;>rw[h]<;>simp<;>omega
   rw[e];by_cases hL:nd 256 m1<=7
   ·by_cases h0:m1=0
    ·exact aP func56 (λw=>[w1.at 16,w2.at 20,.rw 26 _ (vI (nd 256 m1)) r1,.rw 27 (.bool (decide (((nd 256 m1:Nat):Int)<=7))) (.bool true) (by rw[aC o_]),.rw 31 _ (vI (nd 256 m2)) r2,.rw 32 (.bool (decide (((nd 256 m2:Nat):Int)<=7))) (.bool false) (by rw[aN o_]),.eH f56 58 3 m1 o_ k_,.eH f56 61 4 m2 o_ k_,.fk 64 (nd bz m1) 0 true (aC (by rw[h0,o7])),.DA f56 72 5 3 4 m1 m2 (cr m1) (cr m2) rfl rfl rfl rfl o_ o_ k_,.fq f56 73 5 (m1+m2) false (cr (m1+m2)) rfl rfl bs k_])
    ·have h3:m2=0:=by omega
     have h4:=uB (B:=bz) d_ h0;exact aP func56 (λw=>[w1.at 16,w2.at 20,.rw 26 _ (vI (nd 256 m1)) r1,.rw 27 (.bool (decide (((nd 256 m1:Nat):Int)<=7))) (.bool true) (by rw[aC o_]),.rw 31 _ (vI (nd 256 m2)) r2,.rw 32 (.bool (decide (((nd 256 m2:Nat):Int)<=7))) (.bool false) (by rw[aN o_]),.eH f56 58 3 m1 o_ k_,.eH f56 61 4 m2 o_ k_,.fk 64 (nd bz m1) 0 false (aN o_),.fk 68 (nd bz m2) 0 true (aC (by rw[h3,o7])),.DA f56 72 5 3 4 m1 m2 (cr m1) (cr m2) rfl rfl rfl rfl o_ o_ k_,.fq f56 73 5 (m1+m2) false (cr (m1+m2)) rfl rfl bs k_])
   ·by_cases h0:m1=0
    ·exact aP func56 (λw=>[w1.at 16,w2.at 20,.rw 26 _ (vI (nd 256 m1)) r1,.rw 27 (.bool (decide (((nd 256 m1:Nat):Int)<=7))) (.bool false) (by rw[aN o_]),.eH f56 58 3 m1 o_ k_,.eH f56 61 4 m2 o_ k_,.fk 64 (nd bz m1) 0 true (aC (by rw[h0,o7])),.DA f56 72 5 3 4 m1 m2 (cr m1) (cr m2) rfl rfl rfl rfl o_ o_ k_,.fq f56 73 5 (m1+m2) false (cr (m1+m2)) rfl rfl bs k_])
    ·have h3:m2=0:=by omega
     have h4:=uB (B:=bz) d_ h0;exact aP func56 (λw=>[w1.at 16,w2.at 20,.rw 26 _ (vI (nd 256 m1)) r1,.rw 27 (.bool (decide (((nd 256 m1:Nat):Int)<=7))) (.bool false) (by rw[aN o_]),.eH f56 58 3 m1 o_ k_,.eH f56 61 4 m2 o_ k_,.fk 64 (nd bz m1) 0 false (aN o_),.fk 68 (nd bz m2) 0 true (aC (by rw[h3,o7])),.DA f56 72 5 3 4 m1 m2 (cr m1) (cr m2) rfl rfl rfl rfl o_ o_ k_,.fq f56 73 5 (m1+m2) false (cr (m1+m2)) rfl rfl bs k_])
  ·have vB:m1≠0:=λe=>hz (.inl e);have EM:m2≠0:=λe=>hz (.inr e);have h41:=uB (B:=bz) d_ vB;have h42:=uB (B:=bz) d_ EM;obtain⟨s,es,hsb,os⟩:=PL vB o_;obtain⟨t,et,htb,ot⟩:=PL EM o_;obtain⟨_,_,o1,xo⟩:=VJ vB;obtain⟨_,_,o2,VL⟩:=VJ EM;have s8:=aOT (s:=s) (t:=t) o1 o2;rw[<-es,<-et]at s8;have Ul:nd bz (max (gH m1) (gH m2))<1099511627776:=by
    have k1:=iJ (B:=bz) d_ xo;have k2:=iJ (B:=bz) d_ VL;rcases Nz (gH m1) (gH m2)with h|h
    ·rw[aDr h];omega
    ·rw[aDs h];omega
   have gl:=λBs=>aOX (Bs:=Bs) o1 o2 Ul;have On:Nat.gcd m1 m2<=m1:=aAP _ (te vB);have tb:∀ i,i<=min s t->nd bz (Nat.gcd (gH m1) (gH m2)*2^i)<35184372088832:=λi hi=>by
    have k1:Nat.gcd (gH m1) (gH m2)*2^i<=Nat.gcd m1 m2:=by rw[s8];exact jc _ (cZ d_ hi)
    have k2:=iJ (B:=bz) d_ (de k1 On);omega
   have tl:=λBs=>aOZ (Bs:=Bs) (g:=Nat.gcd (gH m1) (gH m2)) (s:=s) (t:=t) tb hsb;rw[<-s8]at tl;have bg:nd bz (Nat.gcd m1 m2)<35184372088832:=by have:=iJ (B:=bz) d_ On;omega
   generalize Nat.gcd m1 m2=G at *;generalize Nat.gcd (gH m1) (gH m2)=G0 at *;generalize gH m1=x1 at *;generalize gH m2=x2 at *;by_cases hL:nd 256 m1<=7
   ·exact gu mixed func56 200 (λw=>[w1.at 16,w2.at 20,.rw 26 _ (vI (nd 256 m1)) r1,.rw 27 (.bool (decide (((nd 256 m1:Nat):Int)<=7))) (.bool true) (by rw[aC o_]),.rw 31 _ (vI (nd 256 m2)) r2,.rw 32 (.bool (decide (((nd 256 m2:Nat):Int)<=7))) (.bool false) (by rw[aN o_]),.eH f56 58 3 m1 o_ k_,.eH f56 61 4 m2 o_ k_,.fk 64 (nd bz m1) 0 false (aN o_),.fk 68 (nd bz m2) 0 false (aN o_),.step 76 _ _ _ _ _ (os _ (av f56 76) 3 5 k_),.step 81 _ _ _ _ _ (ot _ (av f56 81) 4 6 k_),.code 2 _ _ _ _ _ (gl _),.code 4 _ _ _ _ _ (tl _),.fq f56 110 9 G false (c9 G) rfl rfl bg k_]) (λ_=>k_) k_ k_
   ·exact gu mixed func56 200 (λw=>[w1.at 16,w2.at 20,.rw 26 _ (vI (nd 256 m1)) r1,.rw 27 (.bool (decide (((nd 256 m1:Nat):Int)<=7))) (.bool false) (by rw[aN o_]),.eH f56 58 3 m1 o_ k_,.eH f56 61 4 m2 o_ k_,.fk 64 (nd bz m1) 0 false (aN o_),.fk 68 (nd bz m2) 0 false (aN o_),.step 76 _ _ _ _ _ (os _ (av f56 76) 3 5 k_),.step 81 _ _ _ _ _ (ot _ (av f56 81) 4 6 k_),.code 2 _ _ _ _ _ (gl _),.code 4 _ _ _ _ _ (tl _),.fq f56 110 9 G false (c9 G) rfl rfl bg k_]) (λ_=>k_) k_ k_
theorem aVt{x y:Int}{p q:Nat}(h1:x.natAbs<2^p)(h2:y.natAbs<2^q)(hp:p<=1099511627774)(hq:q<=1099511627774):aE prog 56 [bM x,bM y] (bM (Nat.gcd x.natAbs y.natAbs:Nat)):=by revert h1 h2;refine E0 (C:=λx y v u=>x.natAbs<2^p->y.natAbs<2^q->aE prog 56 [v,u] (bM (Nat.gcd x.natAbs y.natAbs:Nat))) (λn1 n2 m1 m2 v1 v2 h1 h2=>?_) x y;rw[pU]at h1 h2;rw[pU,pU];exact aVE v1 v2 h1 h2 hp hq
theorem aVN{g:Nat}{x:Int}{p q:Nat}(h1:g<2^p)(h2:x.natAbs<2^q)(hp:p<=aB)(hq:q<=aB):aE prog 56 [bM g,bM x] (bM (Nat.gcd g x.natAbs:Nat)):=by have:=aVt (x:=(g:Int)) (y:=x) (by rw[Bn];exact h1) h2 hp hq;rw[Bn]at this;exact this
theorem aVg{x y:Int}{n:Nat}(hy:y≠0)(h1:x.natAbs<2^n)(h2:y.natAbs<2^n)(hn:n<=aB):aE prog 130 [bM x,bM y] (bM (x.fdiv y)):=
 aP func130 (λ_=>[(aVI hy h1 h2 hn hn).at 11])
theorem aVO{c:Nat->Int}{d:Int}{n:Nat}(hd:d≠0)(h:dD n (nI c d))(hn:n<=aB):aE prog 78 [oh c,bM d] (gG (nI c d).low):=by
 obtain⟨h0,h1,h2,h3,h4⟩:=h;have g1:=aVt h4 h0 hn hn;have s1:=y9 h4 h0;have g2:=aVN s1 h1 hn hn;have s2:=y9 s1 h1;have g3:=aVN s2 h2 hn hn;have s3:=y9 s2 h2;have g4:=aVN s3 h3 hn hn;obtain⟨f,hf⟩:∃ f,f=nI c d:=⟨_,rfl⟩;have vk:f.d≠0:=by rw[hf];exact hd
 have pV:=Tx vk;have TL:=NV f;have hg:f.g<2^n:=by
  have h5:f.d.natAbs<2^n:=by rw[hf];exact h4
  exact eL (Nat.le_of_dvd o_ (E4 f)) h5
 have bH:f.s.natAbs<2^n:=by rw[TL];exact hg
 have ov:∀ u:Int,f.g ∣ u.natAbs->u.natAbs<2^n->aE prog 130 [bM u,bM f.s] (bM (u/f.s)):=λu hu uN=>by have:=aVg pV uN bH hn;rw[Int.fdiv_eq_ediv_of_dvd (C1 hu)]at this;exact this
 have o0:=ov f.a (NR f) (by rw[hf];exact h0);have o1:=ov f.b (NS f) (by rw[hf];exact h1);have o2:=ov f.c (NT f) (by rw[hf];exact h2);have o3:=ov f.e (NU f) (by rw[hf];exact h3);have o4:=ov f.d (E4 f) (by rw[hf];exact h4);have Bq:=aVQ (z:=1) d_ d_;have az:=aV8 d;have VM:Nat.gcd (Nat.gcd (Nat.gcd (Nat.gcd (nI c d).d.natAbs (nI c d).a.natAbs) (nI c d).b.natAbs) (nI c d).c.natAbs) (nI c d).e.natAbs=f.g:=by rw[hf];rfl
 rw[VM]at g4;have ab:=aNP (f.g:Int);rw[Bn]at ab;rw[<-hf];have e0:f.a=c 0:=by rw[hf];rfl
 have e1:f.b=c 1:=by rw[hf];rfl
 have e2:f.c=c 2:=by rw[hf];rfl
 have e3:f.e=c 3:=by rw[hf];rfl
 have e4:f.d=d:=by rw[hf];rfl
 have one:(bw 1).Sm:=vH (n:=1) d_ d_;have sm:(bw f.s).Sm:=vH bH hn;by_cases Fc:d<0
 ·have hs:f.s=-(f.g:Int):=by unfold Fr.s;rw[e4,aw Fc]
  have aU:bw f.s≠bw 1:=λe=>by have:=y8 e;omega
  have ng:=aVz (f.g:Int);rw[<-hs]at ng;rw[e0]at o0;rw[e1]at o1;rw[e2]at o2;rw[e3]at o3;rw[e4]at o4;have dp:f.low=⟨c 0/f.s,c 1/f.s,c 2/f.s,c 3/f.s,d/f.s⟩:=by unfold Fr.low;rw[e0,e1,e2,e3,e4]
  rw[dp];have Br:decide (d.sign<0)=true:=aC (by rw[EZ Fc];decide);generalize f.s=s at *;exact gu mixed func78 200 (λ_=>[g1.at 18,g2.at 18,g3.at 18,g4.at 18,ab.at 20,az.at 22,.rw 23 (.bool (decide (d.sign<0))) (.bool true) (by rw[Br]),ng.at 25,Bq.at 30,.step 31 (av f78 31) _ _ _ _ (C3 (neg:=false) k_ (bw s) (bw 1) sm one (b:=true) (by simp;exact aU)),o0.at 41,o1.at 41,o2.at 41,o3.at 41,o4.at 46]) (λ_=>k_) k_ k_
 ·have hs:f.s=(f.g:Int):=by unfold Fr.s;rw[e4,ao Fc]
  have Br:decide (d.sign<0)=false:=aN (by rw[Bi o_];decide);by_cases tx:f.g=1
  ·have dp:f.low=f:=by unfold Fr.low;rw[hs,tx];simp
   rw[dp,hf];rw[tx]at g4 ab;exact gu mixed func78 200 (λ_=>[g1.at 18,g2.at 18,g3.at 18,g4.at 18,ab.at 20,az.at 22,.rw 23 (.bool (decide (d.sign<0))) (.bool false) (by rw[Br]),Bq.at 30,.step 31 (av f78 31) _ _ _ _ (C3 (neg:=false) k_ (bw 1) (bw 1) one one (b:=false) s_)]) (λ_=>k_) k_ k_
  ·have aU:bw f.s≠bw 1:=λe=>by have:=y8 e;omega
   rw[e0]at o0;rw[e1]at o1;rw[e2]at o2;rw[e3]at o3;rw[e4]at o4;have dp:f.low=⟨c 0/f.s,c 1/f.s,c 2/f.s,c 3/f.s,d/f.s⟩:=by unfold Fr.low;rw[e0,e1,e2,e3,e4]
   rw[dp];rw[<-hs]at g4 ab;generalize f.s=s at *;exact gu mixed func78 200 (λ_=>[g1.at 18,g2.at 18,g3.at 18,g4.at 18,ab.at 20,az.at 22,.rw 23 (.bool (decide (d.sign<0))) (.bool false) (by rw[Br]),Bq.at 30,.step 31 (av f78 31) _ _ _ _ (C3 (neg:=false) k_ (bw s) (bw 1) sm one (b:=true) (by simp;exact aU)),o0.at 41,o1.at 41,o2.at 41,o3.at 41,o4.at 46]) (λ_=>k_) k_ k_
theorem aVF{z:Int}(h:z.natAbs<9223372036854775808):aE prog 28 [.int .i64 z] (bZ (kI z)):=by
 rw[aAR];have e:gG ⟨z,0,0,0,1⟩=(RN.mk (bw z) ⟨false,[]⟩ ⟨false,[]⟩ ⟨false,[]⟩ (bw 1)).v:=by unfold gG rW;rw[Bt]
 rw[e];exact aP func28 (λ_=>[(aVQ (z:=z) o_ o_).at 4,(aVQ (z:=1) d_ d_).at 6])
theorem aVh{c:Nat->Int}{d:Int}{n:Nat}(hd:d≠0)(h:dD n (nI c d))(hn:n<=aB):aE prog 43 [oh c,bM d] (.tuple #[gG (nI c d).low,.int .i64 0]):=by
 have hl:=aVO hd h hn;have hs:(d.sign==0)=false:=by simp;exact hd
 exact gu mixed func43 200 (λ_=>[(aVZ (c 0)).at 14,(aVZ (c 1)).at 14,(aVZ (c 2)).at 14,(aVZ (c 3)).at 14,(aVZ d).at 19,(aV8 d).at 24,.rw 25 (.bool (d.sign==0)) (.bool false) (by rw[hs]),hl.at 29]) (λ_=>k_) k_ k_
theorem aVk{p q:Int}{n:Nat}(hq:q≠0)(h1:p.natAbs<2^n)(h2:q.natAbs<2^n)(hn:n<=63):aE prog 13 [.int .i64 p,.int .i64 q] (.tuple #[gG (Fr.mk p 0 0 0 q).low,.int .i64 0]):=by
 have h63:2^n<=9223372036854775808:=de (cZ d_ hn) d_;have hp:0<2^n:=cG d_;have hm:=aVh (c:=λi=>match i with|0=>p|_=>0) (d:=q) (n:=n) hq ⟨h1,hp,hp,hp,h2⟩ (by unfold aB;omega);have e:oh (λi=>match i with|0=>p|_=>0)=.agg #[.bool (bw p).neg,.string (BA (bw p).aZ),.bool false,.string ⟨#[]⟩,.bool false,.string ⟨#[]⟩,.bool false,.string ⟨#[]⟩]:=by show Value.agg #[.bool (bw p).neg,.string (BA (bw p).aZ),.bool (bw 0).neg,.string (BA (bw 0).aZ),.bool (bw 0).neg,.string (BA (bw 0).aZ),.bool (bw 0).neg,.string (BA (bw 0).aZ)]=_;rw[Bt];rfl
 rw[e]at hm;exact aP func13 (λ_=>[(aVQ (z:=p) o_ o_).at 7,(aVQ (z:=q) o_ o_).at 10,hm.at 11])
section
variable{P:Program}{B:aa}{N:Nat}
def Ic(o:Oper):Bool:=match o.op with
 |.call c=>match c.callee,c.args.toList with
  |.builtin .max,[_,_]=>true
  |_,_=>false
 |_=>false
theorem aO0{o:Oper}(ho:Ic o=true){x:Int}:cB P B o [.int .i64 x,.int .i64 (-x)] [] (vI x.natAbs) []:=by
 unfold Ic at ho;split at ho
 ·rename_i c bP;split at ho
  ·rename_i p q h1 h2;refine(AA (λu hu=>by simp at hu;rcases hu with rfl|rfl<;>rfl) rfl λρ e7 w _=>?_).step;obtain⟨ce,ar,at'⟩:=c;dsimp only at h1 h2;subst h1;have e1:ar=#[p,q]:=by rw[<-xu (xs:=ar),h2]
   subst e1;rw[bP]at e7;simp[Op.operands,Call.operands]at e7;simp[execOp,bP,resolve,invoke,builtin,Builtin.max_,Builtin.max2,e7.1,e7.2,vI];split<;>omega
  ·cases ho
 ·cases ho
def aY.Le(fn:Func)(key:Nat)(x:Int)(ho:Ic (av fn key)=true):aY P B N:=
 .step key (av fn key) [.int .i64 x,.int .i64 (-x)] [] (vI x.natAbs) [] (aO0 ho)
end
theorem aO1(l:List UInt8)(c:UInt8):fP (l++[c])=fP l*256+c.toNat:=by unfold fP;rw[UX];rfl
def fU(r:RN):Nat->RI
 |0=>r.a
 |1=>r.b
 |2=>r.c
 |3=>r.e
 |_=>r.d
def eg(r:RI):Int:=sg r.neg (fP r.aZ)
def w5(W:Nat->Int):aj:=[.int .i64 (W 0),.int .i64 (W 1),.int .i64 (W 2),.int .i64 (W 3),.int .i64 (W 4)]
def wv(r:RN)(i:Nat):Nat->Int:=λj=>match Nat.blt j i with|true=>eg (fU r j)|false=>0
def aO2(W:Nat->Int)(i:Nat)(x:Int):Nat->Int:=λj=>match Nat.beq j i with|true=>x|false=>W j
section
variable{Bs:aa}{W:Nat->Int}{q:RI}
def BW(i k:Nat):aW:=[(5,vI i),(4,ptr 2),(6,ptr (3+i)),(7,vI k)]
def xU(W:Nat->Int)(q:RI)(i k:Nat):aH:=[(2,.aI (w5 (aO2 W i (fP (q.aZ.take k):Nat))) 87),(3+i,.aI q.cs 28)]
theorem aO3{i k:Nat}(hi:i<5)(hk:k<q.aZ.length)(h3:q.aZ.length<=3):
  ag prog Bs 58 (aF (af f53 2)) (BW i k) (xU W q i k) (4+i) ⟨.normal,BW i (k+1),xU W q i (k+1),4+i⟩:=by
 obtain⟨c,hc⟩:∃ c,q.aZ[k]?=some c:=⟨q.aZ[k],bf hk⟩;have hv:fP (q.aZ.take (k+1))=fP (q.aZ.take k)*256+c.toNat:=by rw[tK,hc];exact aO1 _ _
 have hb:(BA q.aZ)[k]?=some c:=by rw[JG];exact hc
 have bH:Value.int .i64 ((BA q.aZ).size:Int)=vI q.aZ.length:=by rw[oG];rfl
 have ak:fP (q.aZ.take k)<65536:=by have h1:=AX (q.aZ.take k);have h2:(256:Nat)^(q.aZ.take k).length<=256^2:=cZ d_ (by rw[jw];omega);exact cv h1 (de h2 d_)
 have hc3:=c.toNat_lt;unfold BW xU;rw[hv];generalize fP (q.aZ.take k)=x at *;have w1:IntKind.i64.wrap ((x:Int)*2^8)=((x*256:Nat):Int):=by rw[show((x:Int)*2^8)=((x*256:Nat):Int)by simp,c8];omega
 have w2:IntKind.i64.wrap (c.toNat:Int)=(c.toNat:Int):=by rw[c8];omega
 have w3:IntKind.i64.wrap (((x*256:Nat):Int)+(c.toNat:Int))=((x*256+c.toNat:Nat):Int):=by rw[c8];omega
 generalize x*256+c.toNat=y at *;generalize x*256=z at *;generalize q.aZ.length=L at *;rcases i with _|_|_|_|_|i
 all_goals first|omega|exact aA [.rw 33 _ (vI L) bH,.lt 34 k L true (aC hk),.wr 41 .i64 ((x:Int)*2^8) _ w1,.sx f53 45 (BA q.aZ) k c hb k_,.wr 46 .i64 (c.toNat:Int) _ w2,.wr 47 .i64 _ _ w3,.sum 36 k 1 (k+1) rfl o_]
theorem aO4{i:Nat}(hi:i<5)(h3:q.aZ.length<=3):
  ag prog Bs 58 (.block 2 (af f53 2)) (BW i 0) (xU W q i 0) (4+i) ⟨.normal,BW i q.aZ.length,xU W q i q.aZ.length,4+i⟩:=by
 have bH:Value.int .i64 ((BA q.aZ).size:Int)=vI q.aZ.length:=by rw[oG];rfl
 refine bT (id:=2) (cd (b:=aF (af f53 2)) (r:=⟨.exit 2,BW i q.aZ.length,xU W q i q.aZ.length,4+i⟩) q.aZ.length (BW i) (xU W q i) (λk t _=>jN (l:=xU W q i k) (m:=xU W q i 0) rfl t) (λk hk=>aO3 hi hk h3) ?_ n_);unfold BW xU;generalize fP (q.aZ.take q.aZ.length)=x at *;generalize q.aZ.length=L at *;rcases i with _|_|_|_|_|i
 all_goals first|omega|exact aA [.rw 33 _ (vI L) bH,.lt 34 L L false s_]
def FY(i:Nat):aW:=[(5,vI i),(1,ptr 0),(2,ptr 1),(4,ptr 2)]
def FZ(r:RN)(W:Nat->Int):aH:=[(0,.aI r.cs 31),(1,.aI (w5 λ_=>0) 87),(2,.aI (w5 W) 87)]
theorem aO5{r:RN}{i:Nat}(hi:i<5)(h3:(fU r i).aZ.length<=3)(hv:xg (fU r i).neg (fU r i).aZ=true):
  ag prog Bs 58 (.block 1 (af f53 1)) (FY i) (FZ r (wv r i)) (3+i) ⟨.normal,FY i,FZ r (wv r (i+1)),4+i⟩:=by
 have lo:=aO4 (Bs:=Bs) (W:=wv r i) (q:=fU r i) hi h3;have mW:=aVv (fU r i).neg (fU r i).aZ;rw[hv]at mW;have bH:Value.int .i64 ((BA (fU r i).aZ).size:Int)=vI (fU r i).aZ.length:=by rw[oG];rfl
 have lj:Value.bool (decide (((fU r i).aZ.length:Int)>3))=.bool false:=by rw[aN o_]
 unfold xU BW at lo;rw[ZI,mQ]at lo;have e0:fP []=0:=rfl;rw[e0]at lo;have ak:fP (fU r i).aZ<16777216:=by have h1:=AX (fU r i).aZ;have h2:(256:Nat)^(fU r i).aZ.length<=256^3:=cZ d_ h3;exact cv h1 (de h2 d_)
 have wn:IntKind.i64.wrap (0-(fP (fU r i).aZ:Int))=-(fP (fU r i).aZ:Int):=by rw[c8];omega
 rcases r with ⟨⟨an,am⟩,⟨bn,bm⟩,⟨cn,cm⟩,⟨en,em⟩,⟨dn,dm⟩⟩;rcases i with _|_|_|_|_|i
 ·cases an
  ·exact aA [.rw 22 _ (vI am.length) bH,.rw 23 _ (.bool false) lj,mW.at 26,.code 2 _ _ _ _ _ lo]
  ·exact aA [.rw 22 _ (vI am.length) bH,.rw 23 _ (.bool false) lj,mW.at 26,.code 2 _ _ _ _ _ lo,.wr 55 .i64 _ _ wn]
 ·cases bn
  ·exact aA [.rw 22 _ (vI bm.length) bH,.rw 23 _ (.bool false) lj,mW.at 26,.code 2 _ _ _ _ _ lo]
  ·exact aA [.rw 22 _ (vI bm.length) bH,.rw 23 _ (.bool false) lj,mW.at 26,.code 2 _ _ _ _ _ lo,.wr 55 .i64 _ _ wn]
 ·cases cn
  ·exact aA [.rw 22 _ (vI cm.length) bH,.rw 23 _ (.bool false) lj,mW.at 26,.code 2 _ _ _ _ _ lo]
  ·exact aA [.rw 22 _ (vI cm.length) bH,.rw 23 _ (.bool false) lj,mW.at 26,.code 2 _ _ _ _ _ lo,.wr 55 .i64 _ _ wn]
 ·cases en
  ·exact aA [.rw 22 _ (vI em.length) bH,.rw 23 _ (.bool false) lj,mW.at 26,.code 2 _ _ _ _ _ lo]
  ·exact aA [.rw 22 _ (vI em.length) bH,.rw 23 _ (.bool false) lj,mW.at 26,.code 2 _ _ _ _ _ lo,.wr 55 .i64 _ _ wn]
 ·cases dn
  ·exact aA [.rw 22 _ (vI dm.length) bH,.rw 23 _ (.bool false) lj,mW.at 26,.code 2 _ _ _ _ _ lo]
  ·exact aA [.rw 22 _ (vI dm.length) bH,.rw 23 _ (.bool false) lj,mW.at 26,.code 2 _ _ _ _ _ lo,.wr 55 .i64 _ _ wn]
 ·omega
theorem aO6{r:RN}{i:Nat}(hi:i<5)(h3:¬(fU r i).aZ.length<=3):
  ag prog Bs 58 (.block 1 (af f53 1)) (FY i) (FZ r (wv r i)) (3+i) ⟨.ret,[(2,ptr 1),(3,.bool false)],[(1,.aI (w5 (wv r i)) 87)],4+i⟩:=by
 have bH:Value.int .i64 ((BA (fU r i).aZ).size:Int)=vI (fU r i).aZ.length:=by rw[oG];rfl
 have lj:Value.bool (decide (((fU r i).aZ.length:Int)>3))=.bool true:=by rw[aC o_]
 rcases r with ⟨⟨an,am⟩,⟨bn,bm⟩,⟨cn,cm⟩,⟨en,em⟩,⟨dn,dm⟩⟩;rcases i with _|_|_|_|_|i
 ·exact aA [.rw 22 _ (vI am.length) bH,.rw 23 _ (.bool true) lj]
 ·exact aA [.rw 22 _ (vI bm.length) bH,.rw 23 _ (.bool true) lj]
 ·exact aA [.rw 22 _ (vI cm.length) bH,.rw 23 _ (.bool true) lj]
 ·exact aA [.rw 22 _ (vI em.length) bH,.rw 23 _ (.bool true) lj]
 ·exact aA [.rw 22 _ (vI dm.length) bH,.rw 23 _ (.bool true) lj]
 ·omega
theorem aO7{r:RN}{i:Nat}(hi:i<5)(h3:(fU r i).aZ.length<=3)(hv:xg (fU r i).neg (fU r i).aZ=false):
  ag prog Bs 58 (.block 1 (af f53 1)) (FY i) (FZ r (wv r i)) (3+i) ⟨.ret,[(2,ptr 1),(3,.bool false)],[(1,.aI (w5 (wv r i)) 87)],4+i⟩:=by
 have mW:=aVv (fU r i).neg (fU r i).aZ;rw[hv]at mW;have bH:Value.int .i64 ((BA (fU r i).aZ).size:Int)=vI (fU r i).aZ.length:=by rw[oG];rfl
 have lj:Value.bool (decide (((fU r i).aZ.length:Int)>3))=.bool false:=by rw[aN o_]
 rcases r with ⟨⟨an,am⟩,⟨bn,bm⟩,⟨cn,cm⟩,⟨en,em⟩,⟨dn,dm⟩⟩;rcases i with _|_|_|_|_|i
 ·exact aA [.rw 22 _ (vI am.length) bH,.rw 23 _ (.bool false) lj,mW.at 26]
 ·exact aA [.rw 22 _ (vI bm.length) bH,.rw 23 _ (.bool false) lj,mW.at 26]
 ·exact aA [.rw 22 _ (vI cm.length) bH,.rw 23 _ (.bool false) lj,mW.at 26]
 ·exact aA [.rw 22 _ (vI em.length) bH,.rw 23 _ (.bool false) lj,mW.at 26]
 ·exact aA [.rw 22 _ (vI dm.length) bH,.rw 23 _ (.bool false) lj,mW.at 26]
 ·omega
end
def qh(q:RI):Bool:=decide (q.aZ.length<=3)&&xg q.neg q.aZ
theorem aO8{Bs:aa}{r:RN}{i:Nat}(hi:i<5)(h:qh (fU r i)=false):
  ag prog Bs 58 (.block 1 (af f53 1)) (FY i) (FZ r (wv r i)) (3+i) ⟨.ret,[(2,ptr 1),(3,.bool false)],[(1,.aI (w5 (wv r i)) 87)],4+i⟩:=by
 unfold qh at h;by_cases h3:(fU r i).aZ.length<=3
 ·rw[aC h3,kD]at h;exact aO7 hi h3 h
 ·exact aO6 hi h3
theorem Ie{Bs:aa}{r:RN}{i:Nat}(hi:i<5)(h:qh (fU r i)=true):
  ag prog Bs 58 (.block 1 (af f53 1)) (FY i) (FZ r (wv r i)) (3+i) ⟨.normal,FY i,FZ r (wv r (i+1)),4+i⟩:=by
 unfold qh at h;simp at h;exact aO5 hi h.1 h.2
theorem aDu{r:RN}(h:∀ i,i<5->qh (fU r i)=true):aE prog 53 [r.v] (.tuple #[.agg (w5 (wv r 5)).toArray,.bool true]):=
 gu mixed func53 200 (λw=>[.code 1 _ _ _ _ _ (Ie o_ (h 0 o_)),.code 1 _ _ _ _ _ (Ie o_ (h 1 o_)),.code 1 _ _ _ _ _ (Ie o_ (h 2 o_)),.code 1 _ _ _ _ _ (Ie o_ (h 3 o_)),.code 1 _ _ _ _ _ (Ie o_ (h 4 o_))]) (λ_=>k_) k_ k_
theorem aDv{r:RN}(h:¬∀ i,i<5->qh (fU r i)=true):∃ n,aE prog 53 [r.v] (.tuple #[.agg (w5 (wv r n)).toArray,.bool false]):=by
 have hex:∃ n,n<5/\qh (fU r n)=false:=gN λgE=>h λi hi=>by
  cases hb:qh (fU r i)with
  |true=>rfl
  |false=>exact absurd ⟨i,hi,hb⟩ gE
 obtain⟨n0,kf,kG⟩:=hex;obtain⟨n,h1,h2,h3⟩:=yI (λi=>qh (fU r i)=false) n0 kG;have ay:∀ i,i<n->qh (fU r i)=true:=λi hi=>by
  cases hb:qh (fU r i)with
  |true=>rfl
  |false=>exact absurd hb (h3 i hi)
 refine⟨n,?_⟩;have no:=λBs=>aO8 (Bs:=Bs) (show n<5 by omega) h2;have yes:=λBs i (hi:i<n)=>Ie (Bs:=Bs) (show i<5 by omega) (ay i hi)
 rcases n with _|_|_|_|_|n
 ·exact gu mixed func53 200 (λw=>[.code 1 _ _ _ _ _ (no _)]) (λ_=>k_) k_ k_
 ·exact gu mixed func53 200 (λw=>[.code 1 _ _ _ _ _ (yes _ 0 o_),.code 1 _ _ _ _ _ (no _)]) (λ_=>k_) k_ k_
 ·exact gu mixed func53 200 (λw=>[.code 1 _ _ _ _ _ (yes _ 0 o_),.code 1 _ _ _ _ _ (yes _ 1 o_),.code 1 _ _ _ _ _ (no _)]) (λ_=>k_) k_ k_
 ·exact gu mixed func53 200 (λw=>[.code 1 _ _ _ _ _ (yes _ 0 o_),.code 1 _ _ _ _ _ (yes _ 1 o_),.code 1 _ _ _ _ _ (yes _ 2 o_),.code 1 _ _ _ _ _ (no _)]) (λ_=>k_) k_ k_
 ·exact gu mixed func53 200 (λw=>[.code 1 _ _ _ _ _ (yes _ 0 o_),.code 1 _ _ _ _ _ (yes _ 1 o_),.code 1 _ _ _ _ _ (yes _ 2 o_),.code 1 _ _ _ _ _ (yes _ 3 o_),.code 1 _ _ _ _ _ (no _)]) (λ_=>k_) k_ k_
 ·omega
def G5(W:Nat->Int):Nat:=Nat.gcd (Nat.gcd (Nat.gcd (Nat.gcd (Nat.gcd 0 (W 0).natAbs) (W 1).natAbs) (W 2).natAbs) (W 3).natAbs) (W 4).natAbs
theorem Lf{Bs:aa}(x y:Nat):ag prog Bs 28 (.block 2 (af f54 2)) [(5,vI x),(6,vI y)] [] 1 ⟨.normal,[(5,vI (Nat.gcd x y))],[],1⟩:=by
 obtain⟨n,hn,hi⟩:=Ny x y (λ_ v=>decide (v≠0)) (λu v h=>kH h);have hz:(eu x y n).2=0:=by have:=Hh hn;omega
 have hg:=J1 x y n;rw[hz,S7]at hg;rw[<-hg];refine bT (id:=2) (cd (P:=prog) (B:=Bs) (N:=28) (b:=aF (af f54 2)) (next:=1) (r:=⟨.exit 2,[(5,vI (eu x y n).1)],[],1⟩) n (λi=>[(5,vI (eu x y i).1),(6,vI (eu x y i).2)]) (λ_=>[]) (λ_ _ _=>Iff.rfl) (λi ak=>?_) ?_ n_)
 ·have h0:(eu x y i).2≠0:=kH (hi i ak);show ag _ _ _ _ [(5,vI (eu x y i).1),(6,vI (eu x y i).2)] [] 1 ⟨.normal,[(5,vI (eu x y i).2),(6,vI ((eu x y i).1%(eu x y i).2))],[],1⟩;generalize (eu x y i).1=u at *;generalize (eu x y i).2=v at *;exact aA [.rw 21 (.bool ((v:Int)!=0)) (.bool true) (by congr 1;rw[uC];omega),.th f54 25 .i64 (u:Int) v ((u%v:Nat):Int) o_ (by rw[yT o_];rfl) k_]
 ·rw[hz];exact aA [.rw 21 (.bool (((0:Nat):Int)!=0)) (.bool false) rfl]
theorem aDw{W:Nat->Int}(hW:∀ i,(W i).natAbs<4611686018427387904):aE prog 54 [.agg (w5 W).toArray] (vI (G5 W)):=by
 have ng:∀ i,IntKind.i64.wrap (0-W i)=-(W i):=λi=>by have:=hW i;rw[c8];omega
 exact gu mixed func54 200 (λw=>[.wr 18 .i64 _ _ (ng 0),.Le f54 19 (W 0) k_,.code 2 _ _ _ _ _ (Lf 0 (W 0).natAbs),.wr 18 .i64 _ _ (ng 1),.Le f54 19 (W 1) k_,.code 2 _ _ _ _ _ (Lf (Nat.gcd 0 (W 0).natAbs) (W 1).natAbs),.wr 18 .i64 _ _ (ng 2),.Le f54 19 (W 2) k_,.code 2 _ _ _ _ _ (Lf (Nat.gcd (Nat.gcd 0 (W 0).natAbs) (W 1).natAbs) (W 2).natAbs),.wr 18 .i64 _ _ (ng 3),.Le f54 19 (W 3) k_,.code 2 _ _ _ _ _ (Lf (Nat.gcd (Nat.gcd (Nat.gcd 0 (W 0).natAbs) (W 1).natAbs) (W 2).natAbs) (W 3).natAbs),.wr 18 .i64 _ _ (ng 4),.Le f54 19 (W 4) k_,.code 2 _ _ _ _ _ (Lf (Nat.gcd (Nat.gcd (Nat.gcd (Nat.gcd 0 (W 0).natAbs) (W 1).natAbs) (W 2).natAbs) (W 3).natAbs) (W 4).natAbs)]) (λ_=>k_) k_ k_
def cw(f:Fr):Nat->Int
 |0=>f.a
 |1=>f.b
 |2=>f.c
 |3=>f.e
 |_=>f.d
theorem VN(f:Fr):G5 (cw f)=f.g:=by show Nat.gcd (Nat.gcd (Nat.gcd (Nat.gcd (Nat.gcd 0 f.a.natAbs) f.b.natAbs) f.c.natAbs) f.e.natAbs) f.d.natAbs=Nat.gcd (Nat.gcd (Nat.gcd (Nat.gcd f.d.natAbs f.a.natAbs) f.b.natAbs) f.c.natAbs) f.e.natAbs;rw[TJ];simp only[Hg,Nat.gcd_left_comm]
theorem aDx{f:Fr}(hd:0<f.d)(hW:∀ i,(cw f i).natAbs<4611686018427387904):aE prog 80 [.agg (w5 (cw f)).toArray] (gG f.low):=by
 have hg:=aDw hW;rw[VN]at hg;have hg0:=Tw (x:=f) o_;have hs:f.s=(f.g:Int):=by unfold Fr.s;rw[ao o_]
 have dp:f.low=⟨f.a/(f.g:Int),f.b/(f.g:Int),f.c/(f.g:Int),f.e/(f.g:Int),f.d/(f.g:Int)⟩:=by unfold Fr.low;rw[hs]
 rw[dp];have qu:∀ u:Int,f.g ∣ u.natAbs->u.natAbs<4611686018427387904->IntKind.i64.wrap (u.tdiv (f.g:Int))=u/(f.g:Int)/\(u/(f.g:Int)).natAbs<4611686018427387904:=λu hu hb=>by have hd:=C1 hu;rw[hs]at hd;have h2:=aJP u (f.g:Int);rw[Int.tdiv_eq_ediv_of_dvd hd,c8];omega
 obtain⟨a1,a2⟩:=qu f.a (NR f) (hW 0);obtain⟨b1,b2⟩:=qu f.b (NS f) (hW 1);obtain⟨c1,c2⟩:=qu f.c (NT f) (hW 2);obtain⟨e1,e2⟩:=qu f.e (NU f) (hW 3);obtain⟨d1,d2⟩:=qu f.d (E4 f) (hW 4);have tx:(f.g:Int)≠0:=by omega
 have of:=λ(z:Int) (h:z.natAbs<4611686018427387904)=>aVQ (z:=z) o_ o_
 exact gu mixed func80 200 (λw=>[hg.at 7,.pQ f80 17 .i64 f.a (f.g:Int) (f.a/(f.g:Int)) tx a1 k_,(of _ a2).at 18,.pQ f80 17 .i64 f.b (f.g:Int) (f.b/(f.g:Int)) tx b1 k_,(of _ b2).at 18,.pQ f80 17 .i64 f.c (f.g:Int) (f.c/(f.g:Int)) tx c1 k_,(of _ c2).at 18,.pQ f80 17 .i64 f.e (f.g:Int) (f.e/(f.g:Int)) tx e1 k_,(of _ e2).at 18,.pQ f80 24 .i64 f.d (f.g:Int) (f.d/(f.g:Int)) tx d1 k_,(of _ d2).at 25]) (λ_=>k_) k_ k_
def ji(q:RI):Bool:=xg q.neg q.aZ
theorem F0{q:RI}(h:ji q=true):bw (eg q)=q:=by
 obtain⟨n,l⟩:=q;unfold ji at h;unfold eg bw;rw[pU];cases l with
 |nil=>
  simp[xg]at h;subst h;simp[fP,sg,CJ]
 |cons c l=>
  simp[xg]at h;have hv:fP (c::l)≠0:=by have:=ZG (l:=l) h;have:=cG (n:=l.length) (show 0<256 by decide);omega
  have hm:cg (fP (c::l))=c::l:=aIv (by rintro c' r' e;injection e with e1 e2;rw[<-e1];exact h);show RI.mk (decide (sg n (fP (c::l))<0)) (cg (fP (c::l)))=_;rw[hm,VC (λ_=>hv)]
theorem xV(z:Int):eg (bw z)=z:=by
 show sg (decide (z<0)) (fP (cg z.natAbs))=z;rw[EP];unfold sg;by_cases h:z<0
 ·rw[aC h];simp;omega
 ·rw[aN h];simp;omega
theorem Lg(z:Int):ji (bw z)=true:=by show xg (decide (z<0)) (cg z.natAbs)=true;exact aC0 _ (λh=>by have:=kH h;omega)
def gm(r:RN):Fr:=⟨eg r.a,eg r.b,eg r.c,eg r.e,eg r.d⟩
def mY(r:RN):Bool:=ji r.a&&(ji r.b&&(ji r.c&&(ji r.e&&(ji r.d&&(decide (0<eg r.d)&&decide ((gm r).g=1))))))
theorem Lh{g:Nat}{q:RI}{n:Nat}(h:ji q=true)(h1:g<2^n)(h2:(eg q).natAbs<2^n)(hn:n<=aB):aE prog 56 [bM g,q.v] (bM (Nat.gcd g (eg q).natAbs:Nat)):=by have:=aVN (g:=g) (x:=eg q) h1 h2 hn hn;rw[aAO (eg q),F0 h]at this;exact this
theorem aO9:bM ((0:Nat):Int)=.agg #[.bool false,.string ⟨#[]⟩]:=by show(bw 0).v=_;rw[Bt];rfl
theorem Li{r:RN}{n:Nat}(bH:dD n (gm r))(hn:n<=aB):aE prog 36 [r.v] (.bool (mY r)):=by
 obtain⟨sa,sb,sc,se,sd⟩:=bH
 replace sa:(eg r.a).natAbs<2^n:=sa
 replace sb:(eg r.b).natAbs<2^n:=sb
 replace sc:(eg r.c).natAbs<2^n:=sc
 replace se:(eg r.e).natAbs<2^n:=se
 replace sd:(eg r.d).natAbs<2^n:=sd
 by_cases hw:∀ i,i<5->qh (fU r i)=true
 ·have wok:=aDu hw;have raw:∀ i,i<5->ji (fU r i)=true:=λi hi=>by have:=hw i hi;unfold qh at this;simp at this;exact this.2
  have hb:∀ i,(wv r 5 i).natAbs<4611686018427387904:=λi=>by
   unfold wv;split
   ·rename_i h;have hi:i<5:=by rw[AK]at h;exact h
    have:=hw i hi;unfold qh at this;simp at this;unfold eg;rw[pU];have h1:=AX (fU r i).aZ;have h2:(256:Nat)^(fU r i).aZ.length<=256^3:=cZ d_ this.1;exact cv h1 (de h2 d_)
   ·decide
  have wg:=aDw hb;have e1:G5 (wv r 5)=(gm r).g:=VN (gm r);rw[e1]at wg;have e2:mY r=(decide (0<eg r.d)&&decide ((gm r).g=1)):=by unfold mY;rw[show ji r.a=true from raw 0 o_,show ji r.b=true from raw 1 o_,show ji r.c=true from raw 2 o_,show ji r.e=true from raw 3 o_,show ji r.d=true from raw 4 o_];rfl
  rw[e2];by_cases hd:0<eg r.d
  ·rw[aC hd,kD];have VO:Value.bool (decide (eg r.d>0))=.bool true:=by rw[aC hd]
   exact gu mixed func36 200 (λw=>[wok.at 9,.rw 15 _ (.bool true) VO,wg.at 18,.fk 19 (gm r).g 1 _ rfl]) (λ_=>k_) k_ k_
  ·rw[aN hd,yO];have VO:Value.bool (decide (eg r.d>0))=.bool false:=by rw[aN hd]
   exact gu mixed func36 200 (λw=>[wok.at 9,.rw 15 _ (.bool false) VO]) (λ_=>k_) k_ k_
 ·obtain⟨m,F1⟩:=aDv hw;have hp:0<2^n:=cG d_;have va:=aVv r.a.neg r.a.aZ;have vb:=aVv r.b.neg r.b.aZ;have vc:=aVv r.c.neg r.c.aZ;have ve:=aVv r.e.neg r.e.aZ;have vd:=aVv r.d.neg r.d.aZ;unfold mY;change aE _ _ _ (.bool (ji r.a))at va;change aE _ _ _ (.bool (ji r.b))at vb;change aE _ _ _ (.bool (ji r.c))at vc;change aE _ _ _ (.bool (ji r.e))at ve;change aE _ _ _ (.bool (ji r.d))at vd;have go:∀ q b,ji q=b->ji q=b:=λ_ _ h=>h;rcases ha:ji r.a with _|_
  ·rw[ha]at va;exact gu mixed func36 200 (λw=>[F1.at 9,va.at 30]) (λ_=>k_) k_ k_
  rw[ha]at va;have g1:=Lh (g:=0) ha hp sa hn;rw[aO9]at g1;have s1:Nat.gcd 0 (eg r.a).natAbs<2^n:=by rw[TJ];exact sa
  rcases hb:ji r.b with _|_
  ·rw[hb]at vb;exact gu mixed func36 200 (λw=>[F1.at 9,va.at 30,g1.at 37,vb.at 30]) (λ_=>k_) k_ k_
  rw[hb]at vb;have g2:=Lh hb s1 sb hn;have s2:=y9 s1 sb;rcases hc:ji r.c with _|_
  ·rw[hc]at vc;exact gu mixed func36 200 (λw=>[F1.at 9,va.at 30,g1.at 37,vb.at 30,g2.at 37,vc.at 30]) (λ_=>k_) k_ k_
  rw[hc]at vc;have g3:=Lh hc s2 sc hn;have s3:=y9 s2 sc;rcases he:ji r.e with _|_
  ·rw[he]at ve;exact gu mixed func36 200 (λw=>[F1.at 9,va.at 30,g1.at 37,vb.at 30,g2.at 37,vc.at 30,g3.at 37,ve.at 30]) (λ_=>k_) k_ k_
  rw[he]at ve;have g4:=Lh he s3 se hn;have s4:=y9 s3 se;rcases hd:ji r.d with _|_
  ·rw[hd]at vd;exact gu mixed func36 200 (λw=>[F1.at 9,va.at 30,g1.at 37,vb.at 30,g2.at 37,vc.at 30,g3.at 37,ve.at 30,g4.at 37,vd.at 40]) (λ_=>k_) k_ k_
  rw[hd]at vd;have g5:=Lh hd s4 sd hn;have s5:=y9 s4 sd;have VM:Nat.gcd (Nat.gcd (Nat.gcd (Nat.gcd (Nat.gcd 0 (eg r.a).natAbs) (eg r.b).natAbs) (eg r.c).natAbs) (eg r.e).natAbs) (eg r.d).natAbs=(gm r).g:=VN (gm r);rw[VM]at g5 s5;have az:=aV8 (eg r.d);rw[aAO,F0 hd]at az;have Bq:=aVQ (z:=1) d_ d_;have one:(bw 1).Sm:=vH (n:=1) d_ d_;have sm:(bw ((gm r).g:Int)).Sm:=vH (z:=((gm r).g:Int)) (n:=n) (by rw[Bn];exact s5) hn;by_cases hp:0<eg r.d
  ·rw[aC hp];have VP:Value.bool (decide ((eg r.d).sign>0))=.bool true:=by rw[Bi hp];rfl
   have heq:∀ w,cB prog (aa.at w) (av f36 53) [(bw ((gm r).g:Int)).v,(bw 1).v] [] (.bool (decide ((gm r).g=1))) []:=λw=>C3 (neg:=true) k_ (bw ((gm r).g:Int)) (bw 1) sm one (by simp only[ql,sZ];exact⟨λh=>by rw[h];rfl,λh=>by have:=y8 h;omega⟩)
   exact gu mixed func36 200 (λw=>[F1.at 9,va.at 30,g1.at 37,vb.at 30,g2.at 37,vc.at 30,g3.at 37,ve.at 30,g4.at 37,vd.at 40,az.at 44,.rw 45 _ (.bool true) VP,g5.at 51,Bq.at 52,.step 53 (av f36 53) _ _ _ _ (heq w)]) (λ_=>k_) k_ k_
  ·rw[aN hp];have VP:Value.bool (decide ((eg r.d).sign>0))=.bool false:=by
    rw[aN];have h0:eg r.d<=0:=by omega
    rcases Int.lt_or_eq_of_le h0 with h|h
    ·rw[EZ h];decide
    ·rw[h];decide
   exact gu mixed func36 200 (λw=>[F1.at 9,va.at 30,g1.at 37,vb.at 30,g2.at 37,vc.at 30,g3.at 37,ve.at 30,g4.at 37,vd.at 40,az.at 44,.rw 45 _ (.bool false) VP]) (λ_=>k_) k_ k_
theorem VQ(f:Fr):gm (rW f)=f:=by show Fr.mk (eg (bw f.a)) (eg (bw f.b)) (eg (bw f.c)) (eg (bw f.e)) (eg (bw f.d))=f;rw[xV,xV,xV,xV,xV]
theorem aDy{f:Fr}(h:f.pg):mY (rW f)=true:=by unfold mY;rw[VQ,h.one];show(ji (bw f.a)&&(ji (bw f.b)&&(ji (bw f.c)&&(ji (bw f.e)&&(ji (bw f.d)&&(decide (0<eg (bw f.d))&&decide (1=1)))))))=true;rw[Lg,Lg,Lg,Lg,Lg,xV,aC h.pos];rfl
theorem aVq{f:Fr}{n:Nat}(hf:f.pg)(h:dD n f)(hn:n<=aB):aE prog 36 [gG f] (.bool true):=by have:=Li (r:=rW f) (n:=n) (by rw[VQ];exact h) hn;rw[aDy hf]at this;exact this
theorem aV9{x:K}{n:Nat}(h:Sz n x)(hn:n<=aB):aE prog 36 [bZ x] (.bool true):=aVq (ko x) h hn
theorem PM{r:RN}(h:mY r=true):r=dU (gm r).val:=by unfold mY at h;simp only[da,sZ]at h;obtain⟨h1,h2,h3,h4,h5,h6,h7⟩:=h;unfold dU;rw[E5 ⟨h6,h7⟩];obtain⟨a,b,c,e,d⟩:=r;show RN.mk a b c e d=RN.mk (bw (eg a)) (bw (eg b)) (bw (eg c)) (bw (eg e)) (bw (eg d));rw[F0 h1,F0 h2,F0 h3,F0 h4,F0 h5]
theorem aVX{x:K}{n:Nat}(h:Sz n x)(hn:n<=aB):aE prog 84 [bZ x] (bZ (-x)):=by
 have hv:=aV9 h hn;have e:bZ (-x)=gG (y7 (bJ x)):=by unfold bZ dU;rw[TB];rfl
 rw[e];exact aP func84 (λ_=>[hv.at 6,(aVz (bJ x).a).at 19,(aVz (bJ x).b).at 19,(aVz (bJ x).c).at 19,(aVz (bJ x).e).at 19])
theorem aPa(f:Fr):w5 (wv (rW f) 5)=w5 (cw f):=by show[Value.int .i64 (eg (bw f.a)),.int .i64 (eg (bw f.b)),.int .i64 (eg (bw f.c)),.int .i64 (eg (bw f.e)),.int .i64 (eg (bw f.d))]=_;rw[xV,xV,xV,xV,xV];rfl
def BX(f:Fr):Prop:=∀ i,i<5->qh (fU (rW f) i)=true
theorem PN{f:Fr}(h:BX f):∀ i,(cw f i).natAbs<16777216:=by
 have key:∀ z:Int,qh (bw z)=true->z.natAbs<16777216:=λz hz=>by
  unfold qh at hz;simp at hz;have h1:nd 256 z.natAbs<=3:=by have:=hz.1;show _<=3;rw[<-tn];exact this
  have h2:=dS (B:=256) d_ z.natAbs;have h3:(256:Nat)^nd 256 z.natAbs<=256^3:=cZ d_ h1;exact cv h2 (de h3 d_)
 intro i;rcases i with _|_|_|_|i
 ·exact key _ (h 0 o_)
 ·exact key _ (h 1 o_)
 ·exact key _ (h 2 o_)
 ·exact key _ (h 3 o_)
 ·exact key _ (h 4 o_)
theorem Ig{f:Fr}(h:BX f):aE prog 53 [gG f] (.tuple #[.agg (w5 (cw f)).toArray,.bool true]):=by have:=aDu h;rw[aPa]at this;exact this
theorem PO{f:Fr}(h:¬BX f):∃ n,aE prog 53 [gG f] (.tuple #[.agg (w5 (wv (rW f) n)).toArray,.bool false]):=aDv h
theorem kP{x y:Int}(hx:x.natAbs<16777216)(hy:y.natAbs<16777216):∃ p:Int,x*y=p/\-281474976710656<=p/\p<=281474976710656:=by refine⟨x*y,rfl,?_⟩;have h:=pN hx hy;rw[<-uK]at h;generalize x*y=p at *;have h2:p.natAbs<281474976710656:=h;omega
theorem oS{x y p:Int}(h:x*y=p)(h1:-281474976710656<=p)(h2:p<=281474976710656):IntKind.i64.wrap (x*y)=p:=by rw[h,c8];omega
theorem F2{c x:Int}(hc:0<=c)(di:c<=6)(hx:x.natAbs<16777216):IntKind.i64.wrap (c*x)=c*x:=by
 have h1:(c*x).natAbs<=6*16777216:=by rw[uK];exact wY o_ o_
 generalize c*x=p at *;rw[c8];omega
theorem F3{c x y p:Int}(hc:0<=c)(di:c<=6)(h:x*y=p)(h1:-281474976710656<=p)(h2:p<=281474976710656):IntKind.i64.wrap (c*x*y)=c*p:=by
 rw[Int.mul_assoc,h];have h1:(c*p).natAbs<=6*281474976710656:=by rw[uK];exact wY o_ o_
 generalize c*p=q at *;rw[c8];omega
theorem aV0{x y:K}{m n:Nat}(hx:Sz m x)(hy:Sz n y)(cS:m+n<aB):aE prog 45 [bZ x,bZ y] (bZ (x+y)):=by
 have v1:=aV9 hx o_;have v2:=aV9 hy o_;have pj:aB<=1099511627776:=by decide
 have xk:=(ko x).pos;have vF:=(ko y).pos;have hl:=aVO (c:=co (uL (bJ x) (bJ y))) (d:=(uL (bJ x) (bJ y)).d) (n:=m+n+1) (C2 o_ o_) (dD.add hx hy) o_;have e:bZ (x+y)=gG (uL (bJ x) (bJ y)).low:=by unfold bZ dU;rw[Tz];rfl
 rw[e];by_cases hw:BX (bJ x)/\BX (bJ y)
 ·obtain⟨w1,w2⟩:=hw;have q1:=Ig w1;have q2:=Ig w2;have b1:=PN w1;have b2:=PN w2;change aE _ _ [gG (bJ x)] _ at v1;change aE _ _ [gG (bJ y)] _ at v2;show aE _ _ [gG (bJ x),gG (bJ y)] _;clear hl hx hy e;generalize bJ x=f at *;generalize bJ y=g at *;obtain⟨p0,Df,lp0,up0⟩:=kP (b1 0) (b2 4);obtain⟨Ih,mL,lq0,uq0⟩:=kP (b2 0) (b1 4);obtain⟨p1,gY,lp1,up1⟩:=kP (b1 1) (b2 4);obtain⟨qm,tt,lq1,uq1⟩:=kP (b2 1) (b1 4);obtain⟨p2,wI,lp2,up2⟩:=kP (b1 2) (b2 4);obtain⟨A3,nu,lq2,uq2⟩:=kP (b2 2) (b1 4);obtain⟨p3,HY,lp3,up3⟩:=kP (b1 3) (b2 4);obtain⟨lG,VR,lq3,uq3⟩:=kP (b2 3) (b1 4);obtain⟨p4,PQ,lp4,up4⟩:=kP (b1 4) (b2 4);change f.a*g.d=p0 at Df;change g.a*f.d=Ih at mL;change f.b*g.d=p1 at gY;change g.b*f.d=qm at tt;change f.c*g.d=p2 at wI;change g.c*f.d=A3 at nu;change f.e*g.d=p3 at HY;change g.e*f.d=lG at VR;change f.d*g.d=p4 at PQ;have VT:uL f g=⟨p0+Ih,p1+qm,p2+A3,p3+lG,p4⟩:=by unfold uL;rw[Df,gY,wI,HY,PQ,mL,tt,nu,VR]
  have nm:=aDx (f:=uL f g) (by rw[VT];show 0<p4;rw[<-PQ];exact TE xk vF) (by
   rw[VT];intro i;rcases i with _|_|_|_|i
   ·show(p0+Ih).natAbs<_;omega
   ·show(p1+qm).natAbs<_;omega
   ·show(p2+A3).natAbs<_;omega
   ·show(p3+lG).natAbs<_;omega
   ·show p4.natAbs<_;omega)
  rw[VT]at nm ⊢;exact gu mixed func45 200 (λ_=>[v1.at 13,v2.at 17,q1.at 23,q2.at 29,.wr 43 .i64 (f.a*g.d) p0 (oS Df lp0 up0),.wr 49 .i64 (g.a*f.d) Ih (oS mL lq0 uq0),.wr 50 .i64 (p0+Ih) (p0+Ih) (by rw[c8];omega),.wr 43 .i64 (f.b*g.d) p1 (oS gY lp1 up1),.wr 49 .i64 (g.b*f.d) qm (oS tt lq1 uq1),.wr 50 .i64 (p1+qm) (p1+qm) (by rw[c8];omega),.wr 43 .i64 (f.c*g.d) p2 (oS wI lp2 up2),.wr 49 .i64 (g.c*f.d) A3 (oS nu lq2 uq2),.wr 50 .i64 (p2+A3) (p2+A3) (by rw[c8];omega),.wr 43 .i64 (f.e*g.d) p3 (oS HY lp3 up3),.wr 49 .i64 (g.e*f.d) lG (oS VR lq3 uq3),.wr 50 .i64 (p3+lG) (p3+lG) (by rw[c8];omega),.wr 56 .i64 (f.d*g.d) p4 (oS PQ lp4 up4),nm.at 59]) (λ_=>k_) k_ k_
 ·obtain⟨x1,x2,x3,x4,x5⟩:=hx;obtain⟨y1,y2,y3,y4,y5⟩:=hy;have mu:∀{u v:Int} {p q:Nat},u.natAbs<2^p->v.natAbs<2^q->p+q<=aB->aE prog 82 [bM u,bM v] (bM (u*v)):=λh1 h2 h3=>aVL h1 h2 o_ o_;have ad:∀{u v:Int},u.natAbs<2^m->v.natAbs<2^n->aE prog 81 [bM (u*(bJ y).d),bM (v*(bJ x).d)] (bM (u*(bJ y).d+v*(bJ x).d)):=λh1 h2=>
   aVd (eA h1 y5) (eA h2 x5) o_ o_
  by_cases w1:BX (bJ x)
  ·obtain⟨k,q2⟩:=PO (f:=bJ y) (λh=>hw ⟨w1,h⟩);have q1:=Ig w1;exact gu mixed func45 200 (λ_=>[v1.at 13,v2.at 17,q1.at 23,q2.at 29,(mu x1 y5 o_).at 71,(mu y1 x5 o_).at 78,(ad x1 y1).at 79,(mu x2 y5 o_).at 71,(mu y2 x5 o_).at 78,(ad x2 y2).at 79,(mu x3 y5 o_).at 71,(mu y3 x5 o_).at 78,(ad x3 y3).at 79,(mu x4 y5 o_).at 71,(mu y4 x5 o_).at 78,(ad x4 y4).at 79,(mu x5 y5 o_).at 86,hl.at 87]) (λ_=>k_) k_ k_
  ·obtain⟨k,q1⟩:=PO (f:=bJ x) w1;exact gu mixed func45 200 (λ_=>[v1.at 13,v2.at 17,q1.at 23,(mu x1 y5 o_).at 71,(mu y1 x5 o_).at 78,(ad x1 y1).at 79,(mu x2 y5 o_).at 71,(mu y2 x5 o_).at 78,(ad x2 y2).at 79,(mu x3 y5 o_).at 71,(mu y3 x5 o_).at 78,(ad x3 y3).at 79,(mu x4 y5 o_).at 71,(mu y4 x5 o_).at 78,(ad x4 y4).at 79,(mu x5 y5 o_).at 86,hl.at 87]) (λ_=>k_) k_ k_
theorem aVa{x y:K}{m n:Nat}(hx:Sz m x)(hy:Sz n y)(cS:m+n<aB):aE prog 86 [bZ x,bZ y] (bZ (x-y)):=by rw[CR.sub_def];exact aP func86 (λ_=>[(aVX hy o_).at 7,(aV0 hx hy.neg cS).at 8])
section
variable{Bs:aa}{a b:Nat->Int}
def VU(n:Nat):aW:=[(6,vI (n/4)),(7,vI (n%4)),(2,ptr 0),(3,ptr 1),(5,ptr 3)]
def Ii(a b c:Nat->Int):aH:=[(0,.aI (ic a) 29),(1,.aI (ic b) 29),(3,.aI (ic c) 29)]
theorem aPb(n:Nat)(hn:n<16){c:Nat->Int}{p q r:Nat}(ha:∀ i,(a i).natAbs<2^p)(hb:∀ i,(b i).natAbs<2^q)(hc:∀ i,(c i).natAbs<2^r)(N9:p+q+3<=aB)(hr:r<=aB):
  ag prog Bs 66 (.block 3 (af f83 3)) (VU n) (Ii a b c) (4+n) ⟨.normal,[],Ii a b (xn n a b c),5+n⟩:=by
 have pj:aB<=1099511627776:=by decide
 have qG:∀ m,(sq m).natAbs<2^3:=λm=>by unfold sq;split<;>decide
 have m1:=aVL (ha (n/4)) (hb (n%4)) o_ o_;have m2:=aVL (qG ((n/4)&&& (n%4))) (eA (ha (n/4)) (hb (n%4))) o_ o_;have ad:=aVd (hc ((n/4) ^^^ (n%4))) (eA (qG ((n/4)&&& (n%4))) (eA (ha (n/4)) (hb (n%4)))) o_ o_;have so:=aVQ (z:=sq ((n/4)&&& (n%4))) (by have:=qG ((n/4)&&& (n%4));omega) (by have:=qG ((n/4)&&& (n%4));omega);have sa:=aV8 (a (n/4));have sb:=aV8 (b (n%4));have z1:∀ z:Int,z=0->Value.bool (z.sign==0)=.bool true:=λz h=>by rw[h];rfl
 have z2:∀ z:Int,z≠0->Value.bool (z.sign==0)=.bool false:=λz h=>by congr 1;simp;exact h
 by_cases h1:a (n/4)=0
 ·rw[N8 (.inl h1)];have e:=z1 _ h1;rcases n with _|_|_|_|_|_|_|_|_|_|_|_|_|_|_|_|n
  all_goals first|omega|exact aA [sa.at 21,.rw 22 _ (.bool true) e]
 ·have e:=z2 _ h1;by_cases h2:b (n%4)=0
  ·rw[N8 (.inr h2)];have e':=z1 _ h2;rcases n with _|_|_|_|_|_|_|_|_|_|_|_|_|_|_|_|n
   all_goals first|omega|exact aA [sa.at 21,.rw 22 _ (.bool false) e,sb.at 27,.rw 28 _ (.bool true) e']
  ·have e':=z2 _ h2;rcases n with _|_|_|_|_|_|_|_|_|_|_|_|_|_|_|_|n
   all_goals first|omega|exact aA [sa.at 21,.rw 22 _ (.bool false) e,sb.at 27,.rw 28 _ (.bool false) e',so.at 45,m1.at 52,m2.at 53,ad.at 63]
end
theorem aDz{a b:Nat->Int}{m n:Nat}(ca:∀ i,(a i).natAbs<2^m)(cb:∀ i,(b i).natAbs<2^n)(cS:m+n+8<=aB):aE prog 83 [oh a,oh b] (oh (jF a b 16)):=by
 have pj:aB<=1099511627776:=by decide
 have hs:∀ i,i<=16->∀ k,(jF a b i k).natAbs<2^(m+n+8):=λi hi k=>by
  have h1:=TS ca cb i hi k;have h2:i*2^(m+n+3)<=16*2^(m+n+3):=e6 _ hi;have h3:2^(m+n+8)=32*2^(m+n+3):=by rw[show m+n+8=5+(m+n+3)by omega,ev]
  have h4:0<2^(m+n+3):=cG d_;omega
 have go:∀(w:World) (i:Nat),i<16->ag prog (aa.at w) 66 (.block 3 (af f83 3)) (VU i) (Ii a b (jF a b i)) (4+i) ⟨.normal,[],Ii a b (jF a b (i+1)),5+i⟩:=λw i hi=>
  aPb i hi ca cb (hs i o_) o_ o_
 have TT:∀(w:World),ag prog (aa.at w) 66 (.block 3 (af f83 3)) (VU 0) [(0,.aI (ic a) 29),(1,.aI (ic b) 29),(3,.aI [.bool false,.string ⟨#[]⟩,.bool false,.string ⟨#[]⟩,.bool false,.string ⟨#[]⟩,.bool false,.string ⟨#[]⟩] 29)] 4
   ⟨.normal,[],Ii a b (jF a b 1),5⟩:=λw=>by
  have h:=go w 0 o_;have e:Ii a b (jF a b 0)=[(0,.aI (ic a) 29),(1,.aI (ic b) 29),(3,.aI [.bool false,.string ⟨#[]⟩,.bool false,.string ⟨#[]⟩,.bool false,.string ⟨#[]⟩,.bool false,.string ⟨#[]⟩] 29)]:=by show[(0,Obj.aI (ic a) 29),(1,.aI (ic b) 29),(3,.aI (ic (λ_=>0)) 29)]=_;rw[aAX]
  rw[e]at h;exact h
 generalize jF a b=c at *;exact gu mixed func83 300 (λw=>[.code 3 _ _ _ _ _ (TT w),.code 3 _ _ _ _ _ (go w 1 o_),.code 3 _ _ _ _ _ (go w 2 o_),.code 3 _ _ _ _ _ (go w 3 o_),.code 3 _ _ _ _ _ (go w 4 o_),.code 3 _ _ _ _ _ (go w 5 o_),.code 3 _ _ _ _ _ (go w 6 o_),.code 3 _ _ _ _ _ (go w 7 o_),.code 3 _ _ _ _ _ (go w 8 o_),.code 3 _ _ _ _ _ (go w 9 o_),.code 3 _ _ _ _ _ (go w 10 o_),.code 3 _ _ _ _ _ (go w 11 o_),.code 3 _ _ _ _ _ (go w 12 o_),.code 3 _ _ _ _ _ (go w 13 o_),.code 3 _ _ _ _ _ (go w 14 o_),.code 3 _ _ _ _ _ (go w 15 o_)]) (λ_=>k_) k_ k_
theorem aVl{x y:K}{m n:Nat}(hx:Sz m x)(hy:Sz n y)(cS:m+n+8<=aB):aE prog 46 [bZ x,bZ y] (bZ (x*y)):=by
 have v1:=aV9 hx o_;have v2:=aV9 hy o_;have pj:aB<=1099511627776:=by decide
 have xk:=(ko x).pos;have vF:=(ko y).pos;have e:bZ (x*y)=gG (e9 (bJ x) (bJ y)).low:=by unfold bZ dU;rw[TA];rfl
 rw[e];by_cases hw:BX (bJ x)/\BX (bJ y)
 ·obtain⟨w1,w2⟩:=hw;have q1:=Ig w1;have q2:=Ig w2;have b1:=PN w1;have b2:=PN w2;change aE _ _ [gG (bJ x)] _ at v1;change aE _ _ [gG (bJ y)] _ at v2;show aE _ _ [gG (bJ x),gG (bJ y)] _;clear hx hy e;generalize bJ x=f at *;generalize bJ y=g at *;obtain⟨zW,VV,aPc,aPd⟩:=kP (b1 0) (b2 0);change f.a*g.a=zW at VV;obtain⟨zX,VW,aPe,aPf⟩:=kP (b1 0) (b2 1);change f.a*g.b=zX at VW;obtain⟨zY,VX,aPg,aPh⟩:=kP (b1 0) (b2 2);change f.a*g.c=zY at VX;obtain⟨zZ,VY,aPi,aPj⟩:=kP (b1 0) (b2 3);change f.a*g.e=zZ at VY;obtain⟨z7,VZ,aPk,aPl⟩:=kP (b1 1) (b2 0);change f.b*g.a=z7 at VZ;obtain⟨z8,V0,aPm,aPn⟩:=kP (b1 1) (b2 1);change f.b*g.b=z8 at V0;obtain⟨DN,V1,aPo,aPp⟩:=kP (b1 1) (b2 2);change f.b*g.c=DN at V1;obtain⟨DO,V2,aPq,aPr⟩:=kP (b1 1) (b2 3);change f.b*g.e=DO at V2;obtain⟨Aa,V4,aPs,aPt⟩:=kP (b1 2) (b2 0);change f.c*g.a=Aa at V4;obtain⟨Ij,V5,aPu,aPv⟩:=kP (b1 2) (b2 1);change f.c*g.b=Ij at V5;obtain⟨DP,V6,aPw,aPx⟩:=kP (b1 2) (b2 2);change f.c*g.c=DP at V6;obtain⟨DQ,V7,aPy,aPz⟩:=kP (b1 2) (b2 3);change f.c*g.e=DQ at V7;obtain⟨Ab,V8,aPA,aPB⟩:=kP (b1 3) (b2 0);change f.e*g.a=Ab at V8;obtain⟨Ik,V9,aPC,aPD⟩:=kP (b1 3) (b2 1);change f.e*g.b=Ik at V9;obtain⟨Il,Wa,aPE,aPF⟩:=kP (b1 3) (b2 2);change f.e*g.c=Il at Wa;obtain⟨Im,Wb,aPG,aPH⟩:=kP (b1 3) (b2 3);change f.e*g.e=Im at Wb;obtain⟨Lj,PR,aPI,aPJ⟩:=kP (b1 4) (b2 4);change f.d*g.d=Lj at PR;have hmul:e9 f g=⟨zW+2*z8+3*DP+6*Im,zX+z7+3*DQ+3*Il,zY+Aa+2*DO+2*Ik,zZ+Ab+DN+Ij,Lj⟩:=by
   unfold e9;simp only[Fr.mk.injEq];refine⟨?_,?_,?_,?_,PR⟩
   ·rw[VV,V0,V6,Wb]<;>omega
   ·rw[VW,VZ,V7,Wa]<;>omega
   ·rw[VX,V4,V2,V9]<;>omega
   ·rw[VY,V8,V1,V5]<;>omega
  have nm:=aDx (f:=e9 f g) (by rw[hmul];show 0<Lj;rw[<-PR];exact TE xk vF) (by
   rw[hmul];intro i;rcases i with _|_|_|_|i
   ·show(zW+2*z8+3*DP+6*Im).natAbs<_;omega
   ·show(zX+z7+3*DQ+3*Il).natAbs<_;omega
   ·show(zY+Aa+2*DO+2*Ik).natAbs<_;omega
   ·show(zZ+Ab+DN+Ij).natAbs<_;omega
   ·show Lj.natAbs<_;omega)
  rw[hmul]at nm ⊢;exact gu mixed func46 300 (λ_=>[v1.at 10,v2.at 14,q1.at 20,q2.at 26,.wr 34 .i64 (f.a*g.a) zW (oS VV aPc aPd),.wr 37 .i64 (2*f.b) (2*f.b) (F2 d_ d_ (b1 1)),.wr 40 .i64 (2*f.b*g.b) (2*z8) (F3 d_ d_ V0 aPm aPn),.wr 41 .i64 (zW+2*z8) (zW+2*z8) (by rw[c8];omega),.wr 44 .i64 (3*f.c) (3*f.c) (F2 d_ d_ (b1 2)),.wr 47 .i64 (3*f.c*g.c) (3*DP) (F3 d_ d_ V6 aPw aPx),.wr 48 .i64 (zW+2*z8+3*DP) (zW+2*z8+3*DP) (by rw[c8];omega),.wr 51 .i64 (6*f.e) (6*f.e) (F2 d_ d_ (b1 3)),.wr 54 .i64 (6*f.e*g.e) (6*Im) (F3 d_ d_ Wb aPG aPH),.wr 55 .i64 (zW+2*z8+3*DP+6*Im) (zW+2*z8+3*DP+6*Im) (by rw[c8];omega),.wr 60 .i64 (f.a*g.b) zX (oS VW aPe aPf),.wr 65 .i64 (f.b*g.a) z7 (oS VZ aPk aPl),.wr 66 .i64 (zX+z7) (zX+z7) (by rw[c8];omega),.wr 69 .i64 (3*f.c) (3*f.c) (F2 d_ d_ (b1 2)),.wr 72 .i64 (3*f.c*g.e) (3*DQ) (F3 d_ d_ V7 aPy aPz),.wr 73 .i64 (zX+z7+3*DQ) (zX+z7+3*DQ) (by rw[c8];omega),.wr 76 .i64 (3*f.e) (3*f.e) (F2 d_ d_ (b1 3)),.wr 79 .i64 (3*f.e*g.c) (3*Il) (F3 d_ d_ Wa aPE aPF),.wr 80 .i64 (zX+z7+3*DQ+3*Il) (zX+z7+3*DQ+3*Il) (by rw[c8];omega),.wr 85 .i64 (f.a*g.c) zY (oS VX aPg aPh),.wr 90 .i64 (f.c*g.a) Aa (oS V4 aPs aPt),.wr 91 .i64 (zY+Aa) (zY+Aa) (by rw[c8];omega),.wr 94 .i64 (2*f.b) (2*f.b) (F2 d_ d_ (b1 1)),.wr 97 .i64 (2*f.b*g.e) (2*DO) (F3 d_ d_ V2 aPq aPr),.wr 98 .i64 (zY+Aa+2*DO) (zY+Aa+2*DO) (by rw[c8];omega),.wr 101 .i64 (2*f.e) (2*f.e) (F2 d_ d_ (b1 3)),.wr 104 .i64 (2*f.e*g.b) (2*Ik) (F3 d_ d_ V9 aPC aPD),.wr 105 .i64 (zY+Aa+2*DO+2*Ik) (zY+Aa+2*DO+2*Ik) (by rw[c8];omega),
   .wr 110 .i64 (f.a*g.e) zZ (oS VY aPi aPj),.wr 115 .i64 (f.e*g.a) Ab (oS V8 aPA aPB),.wr 116 .i64 (zZ+Ab) (zZ+Ab) (by rw[c8];omega),.wr 121 .i64 (f.b*g.c) DN (oS V1 aPo aPp),.wr 122 .i64 (zZ+Ab+DN) (zZ+Ab+DN) (by rw[c8];omega),.wr 127 .i64 (f.c*g.b) Ij (oS V5 aPu aPv),.wr 128 .i64 (zZ+Ab+DN+Ij) (zZ+Ab+DN+Ij) (by rw[c8];omega),
   .wr 133 .i64 (f.d*g.d) Lj (oS PR aPI aPJ),nm.at 135]) (λ_=>k_) k_ k_
 ·have ca:=HD hx;have cb:=HD hy;have tm:=aDz ca cb cS;have hl:=aVO (c:=jF (co (bJ x)) (co (bJ y)) 16) (d:=(bJ x).d*(bJ y).d) (n:=m+n+4) (C2 o_ o_) (by rw[Km];exact dD.mul hx hy) o_;rw[Km]at hl;have md:=aVL hx.2.2.2.2 hy.2.2.2.2 o_ o_;generalize jF (co (bJ x)) (co (bJ y)) 16=c at *;by_cases w1:BX (bJ x)
  ·obtain⟨k,q2⟩:=PO (f:=bJ y) (λh=>hw ⟨w1,h⟩);have q1:=Ig w1;exact gu mixed func46 200 (λ_=>[v1.at 10,v2.at 14,q1.at 20,q2.at 26,tm.at 140,md.at 145,hl.at 146]) (λ_=>k_) k_ k_
  ·obtain⟨k,q1⟩:=PO (f:=bJ x) w1;exact gu mixed func46 200 (λ_=>[v1.at 10,v2.at 14,q1.at 20,tm.at 140,md.at 145,hl.at 146]) (λ_=>k_) k_ k_
theorem aDA{a s:Int}(ha:a.natAbs<=1)(hs:s.natAbs<=1):IntKind.i64.wrap (a*s)=a*s:=by
 have h1:a=-1\/a=0\/a=1:=by omega
 rcases h1 with h1|h1|h1<;>rw[h1,c8]<;>omega
theorem xW{a b:Int}(h:a=b):Value.bool (a==b)=.bool true:=by rw[h];simp
theorem pw{a b:Int}(h:a≠b):Value.bool (a==b)=.bool false:=by congr 1;simpa using h
theorem Wc{x y:Int}{p q:Nat}(h1:x.natAbs<2^p)(h2:y.natAbs<2^q)(hp:p+p+3<=aB)(hq:q+q+3<=aB):aE prog 133 [bM x,bM y] (.int .i64 (ph x y)):=by
 have pj:aB<=1099511627776:=by decide
 have s1:=aV8 x;have s2:=aV8 y;have l1:=Ff x;have l3:=Ff (x*x-2*(y*y));have m1:=aVL h1 h1 o_ o_;have o2:=aVQ (z:=2) d_ d_;have m2:=aVL h2 h2 o_ o_;have m3:=aVL (x:=2) (y:=y*y) (p:=2) d_ (eA h2 h2) d_ o_;have cm:=aVM (x:=x*x) (y:=2*(y*y)) (eA h1 h1) (eA (m:=2) (u:=2) d_ (eA h2 h2)) o_ o_;have hw:=aDA l1 l3;unfold ph tw;generalize (x*x-2*(y*y)).sign=t at *;generalize x.sign=a at *;generalize y.sign=b at *;by_cases h1:a=b
 ·rw[aw (.inl h1)];exact aP func133 (λ_=>[s1.at 8,s2.at 10,.rw 13 _ (.bool true) (xW h1)])
 ·by_cases h2:b=0
  ·rw[aw (.inr h2)];exact aP func133 (λ_=>[s1.at 8,s2.at 10,.rw 13 _ (.bool false) (pw h1),.rw 16 _ (.bool true) (xW h2)])
  ·rw[ao (λh=>h.elim h1 h2)];by_cases h3:a=0
   ·rw[aw h3];exact aP func133 (λ_=>[s1.at 8,s2.at 10,.rw 13 _ (.bool false) (pw h1),.rw 16 _ (.bool false) (pw h2),.rw 20 _ (.bool true) (xW h3)])
   ·rw[ao h3];exact aP func133 (λ_=>[s1.at 8,s2.at 10,.rw 13 _ (.bool false) (pw h1),.rw 16 _ (.bool false) (pw h2),.rw 20 _ (.bool false) (pw h3),m1.at 25,o2.at 26,m2.at 29,m3.at 30,cm.at 31,.wr 32 .i64 (a*t) (a*t) hw])
theorem Io{f g:Fr}{m n:Nat}(hf:dD m f)(hg:dD n g)(cS:m+n+8<=aB):aE prog 83 [oh (co f),oh (co g)] (oh (co (e9 f g))):=by
 have h:=aDz (HD hf) (HD hg) cS;have e:oh (jF (co f) (co g) 16)=oh (co (e9 f g)):=by rw[<-Km f g];rfl
 rw[e]at h;exact h
def f2(a b:Int):Fr:=⟨a,b,0,0,1⟩
theorem aPK(a b:Int):e9 (f2 a b) (f2 a b)=⟨a*a+2*(b*b),2*(a*b),0,0,1⟩:=by
 unfold e9 f2;simp only[Fr.mk.injEq];refine⟨?_,?_,?_,?_,?_⟩
 ·simp
 ·rw[S9 b a];simp;omega
 ·simp
 ·simp
 ·rfl
theorem aPL(a b:Int):oh (co (f2 a b))=.agg #[.bool (bw a).neg,.string (BA (bw a).aZ),.bool (bw b).neg,.string (BA (bw b).aZ),.bool false,.string ⟨#[]⟩,.bool false,.string ⟨#[]⟩]:=by show Value.agg #[.bool (bw a).neg,.string (BA (bw a).aZ),.bool (bw b).neg,.string (BA (bw b).aZ),.bool (bw 0).neg,.string (BA (bw 0).aZ),.bool (bw 0).neg,.string (BA (bw 0).aZ)]=_;rw[Bt];rfl
theorem aDB{a b:Int}{n:Nat}(ha:a.natAbs<2^n)(hb:b.natAbs<2^n)(hn:2*n+10<=aB):
  aE prog 83 [.agg #[.bool (bw a).neg,.string (BA (bw a).aZ),.bool (bw b).neg,.string (BA (bw b).aZ),.bool false,.string ⟨#[]⟩,.bool false,.string ⟨#[]⟩],.agg #[.bool (bw a).neg,.string (BA (bw a).aZ),.bool (bw b).neg,.string (BA (bw b).aZ),.bool false,.string ⟨#[]⟩,.bool false,.string ⟨#[]⟩]]
   (oh (co ⟨a*a+2*(b*b),2*(a*b),0,0,1⟩)):=by
 have hp:0<2^n:=cG d_;have h:dD (n+1) (f2 a b):=by have h2:2^n*2=2^(n+1):=(dx ..).symm;refine⟨?_,?_,?_,?_,?_⟩<;>unfold f2<;>dsimp only<;>omega
 have:=Io h h o_;rw[aPK,aPL]at this;exact this
theorem aVA{x:K}{n:Nat}(hx:Sz n x)(hn:4*n+30<=aB):aE prog 85 [bZ x] (.int .i64 (OF.az x)):=by
 have pj:aB<=1099511627776:=by decide
 have hv:=aV9 hx o_;rw[aAL];obtain⟨x1,x2,x3,x4,x5⟩:=hx;unfold bZ dU at *;generalize bJ x=f at *;have s1:=Wc x1 x2 o_ o_;have s2:=Wc x3 x4 o_ o_;have t1:=aDB x1 x2 o_;have t2:=aDB x3 x4 o_;have o3:=aVQ (z:=3) d_ d_;have z1:(f.a*f.a).natAbs<2^(n+n+2):=cv (eA x1 x1) (cZ d_ o_);have z2:(2*(f.b*f.b)).natAbs<2^(n+n+2):=by have:=eA (m:=2) (u:=2) d_ (eA x2 x2);rwa[show 2+(n+n)=n+n+2 by omega]at this
 have z3:(f.c*f.c).natAbs<2^(n+n+2):=cv (eA x3 x3) (cZ d_ o_);have z4:(2*(f.e*f.e)).natAbs<2^(n+n+2):=by have:=eA (m:=2) (u:=2) d_ (eA x4 x4);rwa[show 2+(n+n)=n+n+2 by omega]at this
 have z12:=HH z1 z2;have z34:=HH z3 z4;have y1:(2*(f.a*f.b)).natAbs<2^(n+n+2):=by have:=eA (m:=2) (u:=2) d_ (eA x1 x2);rwa[show 2+(n+n)=n+n+2 by omega]at this
 have y2:(2*(f.c*f.e)).natAbs<2^(n+n+2):=by have:=eA (m:=2) (u:=2) d_ (eA x3 x4);rwa[show 2+(n+n)=n+n+2 by omega]at this
 have m34:=aVL (x:=3) (p:=2) d_ z34 d_ o_;have zm:(3*(f.c*f.c+2*(f.e*f.e))).natAbs<2^(n+n+5):=by have:=eA (m:=2) (u:=3) d_ z34;rwa[show 2+(n+n+2+1)=n+n+5 by omega]at this
 have aDC:(f.a*f.a+2*(f.b*f.b)).natAbs<2^(n+n+5):=cv z12 (cZ d_ o_);have d1:=aVj aDC zm o_ o_;have my:=aVL (x:=3) (p:=2) d_ y2 d_ o_;have ym:(3*(2*(f.c*f.e))).natAbs<2^(n+n+4):=by have:=eA (m:=2) (u:=3) d_ y2;rwa[show 2+(n+n+2)=n+n+4 by omega]at this
 have y1':(2*(f.a*f.b)).natAbs<2^(n+n+4):=cv y1 (cZ d_ o_);have d2:=aVj y1' ym o_ o_;have s3:=Wc (Oa aDC zm) (Oa y1' ym) o_ o_;have e1:(f.a*f.a+2*(f.b*f.b))-3*(f.c*f.c+2*(f.e*f.e))=(f.a*f.a+2*(f.b*f.b))-(3*(f.c*f.c)+6*(f.e*f.e)):=by omega
 have e2:2*(f.a*f.b)-3*(2*(f.c*f.e))=2*(f.a*f.b)-6*(f.c*f.e):=by omega
 have xo:=Ob f.a f.b;have TW:=Ob ((f.a*f.a+2*(f.b*f.b))-(3*(f.c*f.c)+6*(f.e*f.e))) (2*(f.a*f.b)-6*(f.c*f.e));have hw:=aDA xo TW;rw[<-e1,<-e2]at hw;unfold N1 tw;rw[<-e1,<-e2];generalize ph ((f.a*f.a+2*(f.b*f.b))-3*(f.c*f.c+2*(f.e*f.e))) (2*(f.a*f.b)-3*(2*(f.c*f.e)))=t at *;generalize ph f.a f.b=p at *;generalize ph f.c f.e=q at *;by_cases h1:p=q
 ·rw[aw (.inl h1)];exact aP func85 (λ_=>[hv.at 9,s1.at 17,s2.at 24,.rw 27 _ (.bool true) (xW h1)])
 ·by_cases h2:q=0
  ·rw[aw (.inr h2)];exact aP func85 (λ_=>[hv.at 9,s1.at 17,s2.at 24,.rw 27 _ (.bool false) (pw h1),.rw 30 _ (.bool true) (xW h2)])
  ·rw[ao (λh=>h.elim h1 h2)];by_cases h3:p=0
   ·rw[aw h3];exact aP func85 (λ_=>[hv.at 9,s1.at 17,s2.at 24,.rw 27 _ (.bool false) (pw h1),.rw 30 _ (.bool false) (pw h2),.rw 34 _ (.bool true) (xW h3)])
   ·rw[ao h3];exact gu mixed func85 200 (λ_=>[hv.at 9,s1.at 17,s2.at 24,.rw 27 _ (.bool false) (pw h1),.rw 30 _ (.bool false) (pw h2),.rw 34 _ (.bool false) (pw h3),t1.at 50,t2.at 65,o3.at 66,m34.at 73,d1.at 74,my.at 80,d2.at 81,s3.at 82,.wr 83 .i64 (p*t) (p*t) hw]) (λ_=>k_) k_ k_
theorem aVn{x y:K}{m n:Nat}(hx:Sz m x)(hy:Sz n y)(cS:4*(m+n)+40<=aB):aE prog 48 [bZ x,bZ y] (.int .i64 (OF.az (x-y))):=
 aP func48 (λ_=>[(aV9 hx o_).at 6,(aV9 hy o_).at 10,(aVa hx hy o_).at 15,(aVA (hx.sub hy) o_).at 16])
theorem aVi{x:K}{n:Nat}(hx:Sz n x)(hn:4*n+30<=aB):aE prog 171 [bZ x] (bZ (iK x)):=by
 unfold iK;have n1:=aVX hx o_;have n2:=aVX hx.neg o_;rw[CR.neg_neg]at n2;by_cases h:OF.az x<0
 ·rw[aw h];exact aP func171 (λ_=>[(aVA hx hn).at 4,.rw 5 (.bool (decide (OF.az x<0))) (.bool true) (by rw[aC h]),n1.at 7])
 ·rw[ao h];exact aP func171 (λ_=>[(aVA hx hn).at 4,.rw 5 (.bool (decide (OF.az x<0))) (.bool false) (by rw[aN h]),n1.at 9,n2.at 10])
def sE(q:RI):Nat:=q.aZ.length
def sF(r:RN)(k:Nat):Bool:=decide (sE r.a<=k)&&(decide (sE r.b<=k)&&(decide (sE r.c<=k)&&(decide (sE r.e<=k)&&decide (sE r.d<=k))))
theorem Ac(l:List UInt8):Value.int .i64 ((BA l).size:Int)=vI l.length:=by rw[oG];rfl
theorem tW{a b:Nat}{t:Bool}(h:decide (a<=b)=!t):Value.bool (decide ((a:Int)>(b:Int)))=.bool t:=by
 congr 1
 cases t
 ·have:=kH h;exact aN o_
 ·have:=Hh h;exact aC o_
theorem PS(r:RN)(k:Nat):aE prog 33 [r.v,vI k] (.bool (sF r k)):=by
 unfold sF sE;have la:=Ac r.a.aZ;have lb:=Ac r.b.aZ;have lc:=Ac r.c.aZ;have le:=Ac r.e.aZ;have ld:=Ac r.d.aZ;rcases ha:decide (r.a.aZ.length<=k)with _|_
 ·exact aP func33 (λ_=>[.rw 15 _ (vI r.a.aZ.length) la,.rw 17 _ (.bool true) (tW (t:=true) ha)])
 rcases hb:decide (r.b.aZ.length<=k)with _|_
 ·exact aP func33 (λ_=>[.rw 15 _ (vI r.a.aZ.length) la,.rw 17 _ (.bool false) (tW (t:=false) ha),.rw 15 _ (vI r.b.aZ.length) lb,.rw 17 _ (.bool true) (tW (t:=true) hb)])
 rcases hc:decide (r.c.aZ.length<=k)with _|_
 ·exact aP func33 (λ_=>[.rw 15 _ (vI r.a.aZ.length) la,.rw 17 _ (.bool false) (tW (t:=false) ha),.rw 15 _ (vI r.b.aZ.length) lb,.rw 17 _ (.bool false) (tW (t:=false) hb),.rw 15 _ (vI r.c.aZ.length) lc,.rw 17 _ (.bool true) (tW (t:=true) hc)])
 rcases he:decide (r.e.aZ.length<=k)with _|_
 ·exact aP func33 (λ_=>[.rw 15 _ (vI r.a.aZ.length) la,.rw 17 _ (.bool false) (tW (t:=false) ha),.rw 15 _ (vI r.b.aZ.length) lb,.rw 17 _ (.bool false) (tW (t:=false) hb),.rw 15 _ (vI r.c.aZ.length) lc,.rw 17 _ (.bool false) (tW (t:=false) hc),.rw 15 _ (vI r.e.aZ.length) le,.rw 17 _ (.bool true) (tW (t:=true) he)])
 have hd:Value.bool (decide ((r.d.aZ.length:Int)<=(k:Int)))=.bool (decide (r.d.aZ.length<=k)):=by congr 1;rw[rI];omega
 exact aP func33 (λ_=>[.rw 15 _ (vI r.a.aZ.length) la,.rw 17 _ (.bool false) (tW (t:=false) ha),.rw 15 _ (vI r.b.aZ.length) lb,.rw 17 _ (.bool false) (tW (t:=false) hb),.rw 15 _ (vI r.c.aZ.length) lc,.rw 17 _ (.bool false) (tW (t:=false) hc),.rw 15 _ (vI r.e.aZ.length) le,.rw 17 _ (.bool false) (tW (t:=false) he),.rw 21 _ (vI r.d.aZ.length) ld,.rw 23 _ (.bool (decide (r.d.aZ.length<=k))) hd])
def wN(r:RN):Nat:=sE r.d+sE r.a+sE r.b+sE r.c+sE r.e
theorem PT{r:RN}(h:wN r<9223372036854775808):aE prog 52 [r.v] (vI (wN r)):=by unfold wN sE at *;have la:=Ac r.a.aZ;have lb:=Ac r.b.aZ;have lc:=Ac r.c.aZ;have le:=Ac r.e.aZ;have ld:=Ac r.d.aZ;exact aP func52 (λ_=>[.rw 8 _ (vI r.d.aZ.length) ld,.rw 19 _ (vI r.a.aZ.length) la,.sum 20 r.d.aZ.length r.a.aZ.length (r.d.aZ.length+r.a.aZ.length) rfl o_,.rw 19 _ (vI r.b.aZ.length) lb,.sum 20 (r.d.aZ.length+r.a.aZ.length) r.b.aZ.length (r.d.aZ.length+r.a.aZ.length+r.b.aZ.length) rfl o_,.rw 19 _ (vI r.c.aZ.length) lc,.sum 20 (r.d.aZ.length+r.a.aZ.length+r.b.aZ.length) r.c.aZ.length (r.d.aZ.length+r.a.aZ.length+r.b.aZ.length+r.c.aZ.length) rfl o_,.rw 19 _ (vI r.e.aZ.length) le,.sum 20 (r.d.aZ.length+r.a.aZ.length+r.b.aZ.length+r.c.aZ.length) r.e.aZ.length (r.d.aZ.length+r.a.aZ.length+r.b.aZ.length+r.c.aZ.length+r.e.aZ.length) rfl o_])
theorem Wd(p q r t:Rat)(k:Rat):(⟨⟨p,q⟩,⟨r,t⟩⟩:K)*⟨⟨k,0⟩,⟨0,0⟩⟩=⟨⟨p*k,q*k⟩,⟨r*k,t*k⟩⟩:=by
 apply bE.ext
 ·apply bE.ext
  ·show(p*k+2*(q*0))+(3*(r*0+2*(t*0))+2*(0*(r*0+t*0)))=p*k
   grind
  ·show(p*0+q*k)+(3*(r*0+t*0)+0*(r*0+2*(t*0)))=q*k
   grind
 ·apply bE.ext
  ·show(p*0+2*(q*0))+(r*k+2*(t*0))=r*k
   grind
  ·show(p*0+q*0)+(r*0+t*k)=t*k
   grind
theorem PU(u d k:Int):Rat.divInt (u*k) d=Rat.divInt u d*(k:Rat):=by
 rw[Bo,Bo,E8,E8];have:((u*k:Int):Rat)=(u:Rat)*(k:Rat):=by simp
 rw[this]
 grind
theorem aPM(a b c e d k:Int):Fr.val ⟨a*k,b*k,c*k,e*k,d⟩=Fr.val ⟨a,b,c,e,d⟩*kI k:=by unfold Fr.val kI;dsimp only;rw[Wd,PU,PU,PU,PU]
theorem PV{a b c e d:Int}(hd:d≠0):Fr.val ⟨a,b,c,e,d⟩*kI d=Fr.val ⟨a,b,c,e,1⟩:=by
 unfold Fr.val kI;dsimp only;have h1:∀ u:Int,Rat.divInt u 1=(u:Rat):=λu=>by rw[Bo,E8];grind
 rw[Wd,oM hd,oM hd,oM hd,oM hd,h1,h1,h1,h1]
theorem aPN(a b:Int):kI (a*b)=kI a*kI b:=by
 unfold kI;rw[Wd];have:((a*b:Int):Rat)=(a:Rat)*(b:Rat):=by simp
 rw[this];apply bE.ext<;>apply bE.ext<;>simp
theorem aPO:kI 1=1:=rfl
theorem PW{a:Int}(h:a≠0):kI a≠0:=λe=>by have h1:=cI (λx:K=>x.re.re) e;have h2:((a:Int):Rat)=0:=h1;exact h (by simpa using h2)
theorem We(f:Fr)(h:f.d=1):f.val=⟨⟨f.a,f.b⟩,⟨f.c,f.e⟩⟩:=by
 have h1:∀ u:Int,Rat.divInt u 1=(u:Rat):=λu=>by rw[Bo,E8];grind
 unfold Fr.val;rw[h,h1,h1,h1,h1]
theorem aPP(u v:K):lK (u*v)=lK u*lK v:=by
 obtain⟨⟨a,b⟩,⟨c,d⟩⟩:=u;obtain⟨⟨p,q⟩,⟨r,s⟩⟩:=v;apply bE.ext
 ·apply bE.ext
  ·show(a*p+2*(b*q))+(3*(c*r+2*(d*s))+2*(0*(c*s+d*r)))=(a*p+2*(-b*-q))+(3*(c*r+2*(-d*-s))+2*(0*(c*-s+-d*r)))
   grind
  ·show -((a*q+b*p)+(3*(c*s+d*r)+0*(c*r+2*(d*s))))=(a*-q+-b*p)+(3*(c*-s+-d*r)+0*(c*r+2*(-d*-s)))
   grind
 ·apply bE.ext
  ·show(a*r+2*(b*s))+(c*p+2*(d*q))=(a*r+2*(-b*-s))+(c*p+2*(-d*-q))
   grind
  ·show -((a*s+b*r)+(c*q+d*p))=(a*-s+-b*r)+(c*-q+-d*p)
   grind
def nf(f:Fr):Fr:=⟨f.a,f.b,f.c,f.e,1⟩
def PX(f:Fr):Fr:=⟨f.a,-f.b,-f.c,f.e,1⟩
def PY:Fr:=⟨1,0,0,0,1⟩
def ij(f:Fr):Fr:=e9 (e9 (e9 PY (xm (nf f))) (xl (nf f))) (PX f)
theorem aDD(f:Fr):(ij f).d=1:=rfl
theorem aPQ(f:Fr):(nf f).val*(ij f).val=qF (nf f).val:=by
 have h1:∀ g h:Fr,g.d=1->h.d=1->(e9 g h).val=g.val*h.val:=λg h e1 e2=>Ki (by rw[e1];decide) (by rw[e2];decide);have e3:PX f=xm (xl (nf f)):=by unfold PX xm xl nf;simp
 unfold ij;rw[h1 _ _ rfl rfl,h1 _ _ rfl rfl,h1 _ _ rfl rfl,e3,TP,TP,aAS];have eo:PY.val=1:=by rw[We _ rfl];rfl
 rw[eo];unfold qF two;rw[aPP];generalize (nf f).val=y;rw[CR.one_mul];exact OF.E3 y (lK y) (mP y) (lK (mP y)) (λy c b i=>y*(c*b*i)) (λy c b i=>y*b*(c*i)) d_
def mZ(f g:Fr):Fr:=⟨(e9 (nf f) (ij g)).a*g.d,(e9 (nf f) (ij g)).b*g.d,(e9 (nf f) (ij g)).c*g.d,(e9 (nf f) (ij g)).e*g.d,(e9 (nf g) (ij g)).a*f.d⟩
theorem aPR{g:Fr}(hg:g.d≠0)(h:g.val≠0):(e9 (nf g) (ij g)).a≠0/\kI (e9 (nf g) (ij g)).a=(nf g).val*(ij g).val:=by
 have hv:(e9 (nf g) (ij g)).val=(nf g).val*(ij g).val:=Ki (show(1:Int)≠0 by decide) (by rw[aDD];decide);have hy:(nf g).val≠0:=λe=>h (by
  have h1:=PV (a:=g.a) (b:=g.b) (c:=g.c) (e:=g.e) hg;have h2:Fr.val ⟨g.a,g.b,g.c,g.e,g.d⟩*kI g.d=0:=by rw[h1];exact e
  exact gN λh3=>OF.mul_ne_zero (a:=Fr.val ⟨g.a,g.b,g.c,g.e,g.d⟩) h3 (PW hg) h2)
 have hn:=aPQ g;rw[N6]at hn;have hq:=TQ hy;rw[<-hv,We _ (by rfl)]at hn;have e1:(((e9 (nf g) (ij g)).a:Int):Rat)=bE.nm (bE.nm (nf g).val):=cI (λx:K=>x.re.re) hn;have e2:(((e9 (nf g) (ij g)).b:Int):Rat)=0:=cI (λx:K=>x.re.im) hn;have e3:(((e9 (nf g) (ij g)).c:Int):Rat)=0:=cI (λx:K=>x.im.re) hn;have e4:(((e9 (nf g) (ij g)).e:Int):Rat)=0:=cI (λx:K=>x.im.im) hn;refine⟨λe=>hq (by rw[<-e1,e];rfl),?_⟩;rw[<-hv,We _ (by rfl),e2,e3,e4];rfl
theorem aPS{f g:Fr}(hf:f.d≠0)(hg:g.d≠0)(h:g.val≠0):(mZ f g).d≠0/\(mZ f g).val=f.val*(g.val)⁻¹:=by
 obtain⟨ha,hk⟩:=aPR hg h;have hd:(mZ f g).d≠0:=C2 ha hf;refine⟨hd,?_⟩;have h1:=PV (a:=(mZ f g).a) (b:=(mZ f g).b) (c:=(mZ f g).c) (e:=(mZ f g).e) hd;have h2:=aPM (e9 (nf f) (ij g)).a (e9 (nf f) (ij g)).b (e9 (nf f) (ij g)).c (e9 (nf f) (ij g)).e 1 g.d;have h3:(e9 (nf f) (ij g)).val=(nf f).val*(ij g).val:=Ki (show(1:Int)≠0 by decide) (by rw[aDD];decide);have h4:=PV (a:=f.a) (b:=f.b) (c:=f.c) (e:=f.e) hf;have h5:=PV (a:=g.a) (b:=g.b) (c:=g.c) (e:=g.e) hg;have h6:kI (mZ f g).d=(nf g).val*(ij g).val*kI f.d:=by show kI ((e9 (nf g) (ij g)).a*f.d)=_;rw[aPN,hk]
 have e1:(mZ f g).val*((nf g).val*(ij g).val*kI f.d)=(nf f).val*(ij g).val*kI g.d:=by rw[<-h6,<-h3];exact h1.trans h2
 replace h4:f.val*kI f.d=(nf f).val:=h4
 replace h5:g.val*kI g.d=(nf g).val:=h5
 rw[<-h4,<-h5]at e1;have hc:(ij g).val≠0:=λe=>by rw[e,CR.mul_zero]at hk;exact PW ha hk
 have hm:kI g.d*((ij g).val*kI f.d)≠0:=OF.mul_ne_zero (PW hg) (OF.mul_ne_zero hc (PW hf));have e2:(mZ f g).val*g.val*(kI g.d*((ij g).val*kI f.d))=f.val*(kI g.d*((ij g).val*kI f.d)):=by
  rw[show(mZ f g).val*g.val*(kI g.d*((ij g).val*kI f.d))=(mZ f g).val*(g.val*kI g.d*(ij g).val*kI f.d)from
   OF.Ka (mZ f g).val g.val (kI g.d) (ij g).val (kI f.d) (λd g k c l=>d*g*(k*(c*l))) (λd g k c l=>d*(g*k*c*l)) d_,e1]
  exact OF.E3 f.val (kI f.d) (ij g).val (kI g.d) (λf l c k=>f*l*c*k) (λf l c k=>f*(k*(c*l))) d_
 have e3:(mZ f g).val*g.val=f.val:=by have h7:=cI (λt=>t*(kI g.d*((ij g).val*kI f.d))⁻¹) e2;rw[CR.mul_assoc ((mZ f g).val*g.val),CR.mul_assoc f.val,OF.lJ _ hm,CR.mul_one,CR.mul_one]at h7;exact h7
 rw[<-e3,CR.mul_assoc,OF.lJ _ h,CR.mul_one]
theorem aPT:oh (co PY)=.agg #[.bool (bw 1).neg,.string (BA (bw 1).aZ),.bool false,.string ⟨#[]⟩,.bool false,.string ⟨#[]⟩,.bool false,.string ⟨#[]⟩]:=by show Value.agg #[.bool (bw 1).neg,.string (BA (bw 1).aZ),.bool (bw 0).neg,.string (BA (bw 0).aZ),.bool (bw 0).neg,.string (BA (bw 0).aZ),.bool (bw 0).neg,.string (BA (bw 0).aZ)]=_;rw[Bt];rfl
theorem aDE{n:Nat}{f:Fr}(h:dD n f)(hd:f.d≠0):dD n (nf f):=by
 obtain⟨h1,h2,h3,h4,h5⟩:=h;refine⟨h1,h2,h3,h4,?_⟩;show(1:Int).natAbs<2^n;have:f.d.natAbs≠0:=by omega
 show 1<2^n;omega
theorem aPU{n:Nat}{f:Fr}(h:dD n (nf f)):dD n (xm (nf f))/\dD n (xl (nf f))/\dD n (PX f):=by
 obtain⟨h1,h2,h3,h4,h5⟩:=h;have e:∀ z:Int,z.natAbs<2^n->(-z).natAbs<2^n:=λz hz=>by rw[JW];exact hz
 exact⟨⟨h1,e _ h2,h3,e _ h4,h5⟩,⟨h1,h2,e _ h3,e _ h4,h5⟩,⟨h1,e _ h2,e _ h3,h4,h5⟩⟩
theorem aVG{x y:K}{m n:Nat}(h:y≠0)(hx:Sz m x)(hy:Sz n y)(cS:m+4*n+60<=aB):aE prog 135 [bZ x,bZ y] (.tuple #[bZ (x*y⁻¹),.int .i64 0]):=by
 have pj:aB<=1099511627776:=by decide
 have v1:=aV9 hx o_;have v2:=aV9 hy o_;have sy:=aVA hy o_;have h26:Value.bool (OF.az y==0)=.bool false:=pw (λe=>h ((OF.e8 y).1 e));have vk:(bJ x).d≠0:=by have:=(ko x).pos;omega
 have n9:(bJ y).d≠0:=by have:=(ko y).pos;omega
 obtain⟨hd,hv⟩:=aPS vk n9 (by rw[oL];exact h);rw[oL,oL]at hv;have e:bZ (x*y⁻¹)=gG (mZ (bJ x) (bJ y)).low:=by unfold bZ dU;rw[<-hv,E6 hd];rfl
 rw[e];have so1:dD 1 PY:=⟨by decide,by decide,by decide,by decide,by decide⟩;have sg:=aDE hy n9;have sf:=aDE hx vk;obtain⟨c1,c2,c3⟩:=aPU sg;have s1:=dD.mul so1 c1;have s2:=dD.mul s1 c2;have s3:=dD.mul s2 c3;have sN:=dD.mul sg s3;have sM:=dD.mul sf s3;have t1:=Io so1 c1 o_;rw[aPT]at t1;have t2:=Io s1 c2 o_;have t3:=Io s2 c3 o_;have tN:=Io sg s3 o_;have tM:=Io sf s3 o_;have gd:=hy.2.2.2.2;have fd:=hx.2.2.2.2;have ma:=aVL sM.1 gd o_ o_;have mb:=aVL sM.2.1 gd o_ o_;have mc:=aVL sM.2.2.1 gd o_ o_;have me:=aVL sM.2.2.2.1 gd o_ o_;have md:=aVL sN.1 fd o_ o_;have za:=eA sM.1 gd;have zb:=eA sM.2.1 gd;have zc:=eA sM.2.2.1 gd;have ze:=eA sM.2.2.2.1 gd;have zd:=eA sN.1 fd;have xo:2^(m+(1+n+4+n+4+n+4)+4+n)<=2^(m+4*n+20):=cZ d_ o_;have VL:2^(n+(1+n+4+n+4+n+4)+4+m)<=2^(m+4*n+20):=cZ d_ o_;have hl:=aVO (c:=co (mZ (bJ x) (bJ y))) (d:=(mZ (bJ x) (bJ y)).d) (n:=m+4*n+20) hd ⟨cv za xo,cv zb xo,cv zc xo,cv ze xo,cv zd VL⟩ o_;have dp:nI (co (mZ (bJ x) (bJ y))) (mZ (bJ x) (bJ y)).d=mZ (bJ x) (bJ y):=rfl;rw[dp]at hl;have nb:=aVz (bJ y).b;have nc:=aVz (bJ y).c;have ne:=aVz (bJ y).e;have one:=aVQ (z:=1) d_ d_;generalize hD:(mZ (bJ x) (bJ y)).low=D at *;exact gu mixed func135 300 (λ_=>[v1.at 15,v2.at 19,sy.at 25,.rw 26 _ (.bool false) h26,one.at 28,nb.at 54,ne.at 54,t1.at 58,nc.at 54,ne.at 54,t2.at 58,nb.at 54,nc.at 54,t3.at 58,tN.at 62,tM.at 66,ma.at 77,mb.at 77,mc.at 77,me.at 77,md.at 84,hl.at 85]) (λ_=>k_) k_ k_
section
open V3 (dot ax cL smul)
def Lk(n:Nat)(r:RV):Prop:=dD n (gm r.x)/\dD n (gm r.y)/\dD n (gm r.z)
def Ad(r:RV):Bool:=mY r.x&&(mY r.y&&mY r.z)
theorem aVf{r:RV}{n:Nat}(h:Lk n r)(hn:n<=aB):aE prog 34 [r.v] (.bool (Ad r)):=by
 have hx:=Li h.1 hn;have hy:=Li h.2.1 hn;have hz:=Li h.2.2 hn;unfold Ad;generalize mY r.x=bb at *;rcases bb with _|_
 ·exact aP func34 (λ_=>[hx.at 5])
 generalize mY r.y=bb at *;rcases bb with _|_
 ·exact aP func34 (λ_=>[hx.at 5,hy.at 9])
 exact aP func34 (λ_=>[hx.at 5,hy.at 9,hz.at 14])
theorem PZ(x:K):mY (dU x)=true:=aDy (ko x)
theorem F4(x:K):gm (dU x)=bJ x:=VQ (bJ x)
theorem aDF{n:Nat}{v:V3 K}(h:aD n v):Lk n (cD v):=by
 refine⟨?_,?_,?_⟩
 ·show dD n (gm (dU v.x));rw[F4];exact h.1
 ·show dD n (gm (dU v.y));rw[F4];exact h.2.1
 ·show dD n (gm (dU v.z));rw[F4];exact h.2.2
theorem aDG(v:V3 K):Ad (cD v)=true:=by show(mY (dU v.x)&&(mY (dU v.y)&&mY (dU v.z)))=true;rw[PZ,PZ,PZ];rfl
theorem aVp{v:V3 K}{n:Nat}(h:aD n v)(hn:n<=aB):aE prog 34 [bB v] (.bool true):=by have:=aVf (aDF h) hn;rw[aDG]at this;exact this
def vZ(r:RV):V3 K:=⟨(gm r.x).val,(gm r.y).val,(gm r.z).val⟩
theorem aDH{r:RV}(h:Ad r=true):r=cD (vZ r):=by unfold Ad at h;simp only[da]at h;obtain⟨x,y,z⟩:=r;show RV.mk x y z=RV.mk (dU (gm x).val) (dU (gm y).val) (dU (gm z).val);rw[<-PM h.1,<-PM h.2.1,<-PM h.2.2]
theorem aV6{a b c:Int}(ha:a.natAbs<9223372036854775808)(hb:b.natAbs<9223372036854775808)(hc:c.natAbs<9223372036854775808):aE prog 27 [.int .i64 a,.int .i64 b,.int .i64 c] (bB ⟨kI a,kI b,kI c⟩):=
 aP func27 (λ_=>[(aVF ha).at 8,(aVF hb).at 10,(aVF hc).at 12])
theorem aVT{u v:V3 K}{m n:Nat}(hu:aD m u)(hv:aD n v)(cS:m+n<aB):aE prog 14 [bB u,bB v] (bB (u+v)):=
 aP func14 (λ_=>[(aVp hu o_).at 6,(aVp hv o_).at 10,(aV0 hu.1 hv.1 cS).at 18,(aV0 hu.2.1 hv.2.1 cS).at 23,(aV0 hu.2.2 hv.2.2 cS).at 28])
theorem aV2{v:V3 K}{n:Nat}(hv:aD n v)(hn:n<=aB):aE prog 47 [bB v] (bB (-v)):=
 aP func47 (λ_=>[(aVp hv hn).at 4,(aVX hv.1 hn).at 9,(aVX hv.2.1 hn).at 12,(aVX hv.2.2 hn).at 15])
theorem aVy{u v:V3 K}{m n:Nat}(hu:aD m u)(hv:aD n v)(cS:m+n<aB):aE prog 16 [bB u,bB v] (bB (u-v)):=by have e:u-v=u+-v:=V3.ext (CR.sub_def _ _) (CR.sub_def _ _) (CR.sub_def _ _);rw[e];exact aP func16 (λ_=>[(aV2 hv o_).at 7,(aVT hu hv.neg cS).at 8])
theorem aVx{v:V3 K}{k:K}{m n:Nat}(hv:aD m v)(hk:Sz n k)(cS:m+n+8<=aB):aE prog 15 [bB v,bZ k] (bB (smul v k)):=
 aP func15 (λ_=>[(aVp hv o_).at 6,(aV9 hk o_).at 10,(aVl hv.1 hk cS).at 17,(aVl hv.2.1 hk cS).at 21,(aVl hv.2.2 hk cS).at 25])
theorem aWa{u v:V3 K}{m n:Nat}(hu:aD m u)(hv:aD n v)(cS:3*(m+n)+16<aB):aE prog 49 [bB u,bB v] (bZ (dot u v)):=
 aP func49 (λ_=>[(aVp hu o_).at 6,(aVp hv o_).at 10,(aVl hu.1 hv.1 o_).at 18,(aVl hu.2.1 hv.2.1 o_).at 23,(aV0 (hu.1.mul hv.1) (hu.2.1.mul hv.2.1) o_).at 24,(aVl hu.2.2 hv.2.2 o_).at 29,(aV0 ((hu.1.mul hv.1).add (hu.2.1.mul hv.2.1)) (hu.2.2.mul hv.2.2) o_).at 30])
theorem aVC{a b c d:K}{m n:Nat}(ha:Sz m a)(hb:Sz m b)(hc:Sz n c)(hd:Sz n d)(cS:2*(m+n)+16<aB):aE prog 140 [bZ a,bZ b,bZ c,bZ d] (bZ (a*d-b*c)):=
 aP func140 (λ_=>[(aVl ha hd o_).at 11,(aVl hb hc o_).at 14,(aVa (ha.mul hd) (hb.mul hc) o_).at 15])
theorem aV7{u v:V3 K}{m n:Nat}(hu:aD m u)(hv:aD n v)(cS:2*(m+n)+16<aB):aE prog 99 [bB u,bB v] (bB (ax u v)):=
 aP func99 (λ_=>[(aVp hu o_).at 6,(aVp hv o_).at 10,(aVC hu.2.1 hu.2.2 hv.2.1 hv.2.2 cS).at 22,(aVC hu.2.2 hu.1 hv.2.2 hv.1 cS).at 31,(aVC hu.1 hu.2.1 hv.1 hv.2.1 cS).at 40])
theorem aV5{v:V3 K}{n:Nat}(hv:aD n v)(hn:n<=aB):aE prog 35 [bB v] (.bool (decide (v=0))):=by have hz:(⟨kI 0,kI 0,kI 0⟩:V3 K)=0:=rfl;exact aP func35 (λ_=>[(aV6 (a:=0) (b:=0) (c:=0) d_ d_ d_).at 4,.step 5 (av f35 5) _ _ _ _ (Fb (neg:=true) k_ (cD v) (cD ⟨kI 0,kI 0,kI 0⟩) (hv.sm hn) (KI.sm d_) (b:=decide (v=0)) (by rw[aw rfl,BL];exact⟨λh=>by rw[h,hz],λh=>OU h⟩))])
theorem aDI{u v w:V3 K}{l m n:Nat}(hu:aD l u)(hv:aD m v)(hw:aD n w)(cS:3*(l+(2*(m+n)+9))+16<aB):aE prog 141 [bB u,bB v,bB w] (bZ (cL u v w)):=
 aP func141 (λ_=>[(aVp hu o_).at 8,(aVp hv o_).at 12,(aVp hw o_).at 17,(aV7 hv hw o_).at 24,(aWa hu (hv.ax hw) o_).at 25])
theorem Ll{z:Int}{t:Bool}(h:decide (z≠0)=t):Value.bool (z !=0)=.bool t:=by
 rw[<-h];congr 1
 by_cases e:z=0
 ·subst e;rfl
 ·rw[aC e,uC];exact e
theorem aVY{u v:V3 K}{m n:Nat}(hu:aD m u)(hv:aD n v)(cS:4*(m+n)+40<=aB):aE prog 136 [bB u,bB v] (.int .i64 (dY u v)):=by
 rw[<-aB3];have h1:=aVp hu (show m<=aB by omega);have h2:=aVp hv (show n<=aB by omega);have c1:=aVn hu.1 hv.1 cS;have c2:=aVn hu.2.1 hv.2.1 cS;have c3:=aVn hu.2.2 hv.2.2 cS;generalize OF.az (u.x-v.x)=a at *;generalize OF.az (u.y-v.y)=b at *;generalize OF.az (u.z-v.z)=c at *;unfold OV;by_cases ha:a=0
 ·rw[ao (λh=>h ha)];by_cases hb:b=0
  ·rw[ao (λh=>h hb)];exact aP func136 (λ_=>[h1.at 8,h2.at 12,c1.at 19,.rw 21 _ (.bool false) (Ll (aN (λh=>h ha))),c2.at 27,.rw 29 _ (.bool false) (Ll (aN (λh=>h hb))),c3.at 35])
  ·rw[aw hb];exact aP func136 (λ_=>[h1.at 8,h2.at 12,c1.at 19,.rw 21 _ (.bool false) (Ll (aN (λh=>h ha))),c2.at 27,.rw 29 _ (.bool true) (Ll (aC hb))])
 ·rw[aw ha];exact aP func136 (λ_=>[h1.at 8,h2.at 12,c1.at 19,.rw 21 _ (.bool true) (Ll (aC ha))])
def qi(r:RV)(k:Nat):Bool:=sF r.x k&&(sF r.y k&&sF r.z k)
theorem Wf(r:RV)(k:Nat):aE prog 32 [r.v,vI k] (.bool (qi r k)):=by
 have hx:=PS r.x k;have hy:=PS r.y k;have hz:=PS r.z k;unfold qi;generalize sF r.x k=bb at *;rcases bb with _|_
 ·exact aP func32 (λ_=>[hx.at 8])
 generalize sF r.y k=bb at *;rcases bb with _|_
 ·exact aP func32 (λ_=>[hx.at 8,hy.at 13])
 exact aP func32 (λ_=>[hx.at 8,hy.at 13,hz.at 19])
def wV(r:RV):Nat:=wN r.x+wN r.y+wN r.z
theorem aPV{r:RV}(h:wV r<9223372036854775808):aE prog 51 [r.v] (vI (wV r)):=by unfold wV at *;exact aP func51 (λ_=>[(PT (r:=r.x) o_).at 5,(PT (r:=r.y) o_).at 8,.sum 9 (wN r.x) (wN r.y) (wN r.x+wN r.y) rfl o_,(PT (r:=r.z) o_).at 12,.sum 13 (wN r.x+wN r.y) (wN r.z) (wN r.x+wN r.y+wN r.z) rfl o_])
theorem P0{r:RN}{k n:Nat}(h:sF r k=true)(hn:8*k<=n):dD n (gm r):=by
 unfold sF sE at h;simp only[da,sZ]at h;have key:∀ q:RI,q.aZ.length<=k->(eg q).natAbs<2^n:=λq hq=>by
  unfold eg;rw[pU];have h1:=AX q.aZ;have h2:(256:Nat)^q.aZ.length<=256^k:=cZ d_ hq;have h3:(256:Nat)^k=2^(8*k):=by rw[rM]
  have h4:2^(8*k)<=2^n:=cZ d_ hn;omega
 exact⟨key _ h.1,key _ h.2.1,key _ h.2.2.1,key _ h.2.2.2.1,key _ h.2.2.2.2⟩
theorem aPW{r:RV}{k n:Nat}(h:qi r k=true)(hn:8*k<=n):Lk n r:=by unfold qi at h;simp only[da]at h;exact⟨P0 h.1 hn,P0 h.2.1 hn,P0 h.2.2 hn⟩
def Ae(n:Nat)(r:RP):Prop:=Lk n r.n/\dD n (gm r.d)
def pz(r:RP):Bool:=Ad r.n&&(decide (vZ r.n≠0)&&mY r.d)
def pZ(r:RP):HS K:=⟨vZ r.n,(gm r.d).val⟩
theorem aPX{r:RN}(h:mY r=true):bJ (gm r).val=gm r:=by unfold mY at h;simp only[da,sZ]at h;obtain⟨h1,h2,h3,h4,h5,h6,h7⟩:=h;exact E5 ⟨h6,h7⟩
theorem P1{r:RN}{n:Nat}(h:mY r=true)(hs:dD n (gm r)):Sz n (gm r).val:=by unfold Sz;rw[aPX h];exact hs
theorem aDJ{r:RV}{n:Nat}(h:Ad r=true)(hs:Lk n r):aD n (vZ r):=by unfold Ad at h;simp only[da]at h;exact⟨P1 h.1 hs.1,P1 h.2.1 hs.2.1,P1 h.2.2 hs.2.2⟩
theorem P2{r:RP}{n:Nat}(h:Ae n r)(hn:n<=aB):aE prog 10 [r.v] (.bool (pz r)):=by
 have hv:=aVf h.1 hn;have hd:=Li h.2 hn;unfold pz;rcases hb:Ad r.n with _|_
 ·rw[hb]at hv;exact aP func10 (λ_=>[hv.at 5])
 ·rw[hb]at hv;have hz:=aV5 (aDJ hb h.1) hn;unfold bB at hz;rw[<-aDH hb]at hz;by_cases h0:vZ r.n=0
  ·rw[aC h0]at hz;rw[aN (λe=>e h0)];exact aP func10 (λ_=>[hv.at 5,hz.at 9])
  ·rw[aN h0]at hz;rw[aC h0];exact aP func10 (λ_=>[hv.at 5,hz.at 9,hd.at 15])
theorem aPY(v:V3 K):vZ (cD v)=v:=by show V3.mk (gm (dU v.x)).val (gm (dU v.y)).val (gm (dU v.z)).val=v;rw[F4,F4,F4,oL,oL,oL]
theorem aDK(p:HS K):pz (cH p)=decide (p.n≠0):=by show(Ad (cD p.n)&&(decide (vZ (cD p.n)≠0)&&mY (dU p.d)))=_;rw[aDG,aPY,PZ,kD,iU]
theorem aDL{n:Nat}{p:HS K}(h:bt n p):Ae n (cH p):=⟨aDF h.1,by show dD n (gm (dU p.d));rw[F4];exact h.2⟩
theorem aVR{p:HS K}{n:Nat}(hp:bt n p)(hn:n<=aB):aE prog 10 [cC p] (.bool (decide (p.n≠0))):=by have:=P2 (aDL hp) hn;rw[aDK]at this;exact this
theorem Wg{r:RP}(h:pz r=true):r=cH (pZ r)/\(pZ r).n≠0:=by unfold pz at h;simp only[da,sZ]at h;obtain⟨n,d⟩:=r;refine⟨?_,h.2.1⟩;show RP.mk n d=RP.mk (cD (vZ n)) (dU (gm d).val);rw[<-aDH h.1,<-PM h.2.2]
theorem aDM{r:RP}{n:Nat}(h:pz r=true)(hs:Ae n r):bt n (pZ r):=by unfold pz at h;simp only[da]at h;exact⟨aDJ h.1 hs.1,P1 h.2.2 hs.2⟩
def xX(r:RP)(k:Nat):Bool:=qi r.n k&&sF r.d k
theorem Wh(r:RP)(k:Nat):aE prog 9 [r.v,vI k] (.bool (xX r k)):=by
 have hx:=Wf r.n k;have hd:=PS r.d k;unfold xX;generalize qi r.n k=bb at *;rcases bb with _|_
 ·exact aP func9 (λ_=>[hx.at 8])
 exact aP func9 (λ_=>[hx.at 8,hd.at 13])
theorem Wi{r:RP}{k n:Nat}(h:xX r k=true)(hn:8*k<=n):Ae n r:=by unfold xX at h;simp only[da]at h;exact⟨aPW h.1 hn,P0 h.2 hn⟩
theorem aVm{p:HS K}{v:V3 K}{m n:Nat}(hp:bt m p)(hv:aD n v)(cS:4*(3*(m+n)+14+m)+50<=aB)(h:p.n≠0):aE prog 18 [cC p,bB v] (.int .i64 (OF.az (dot p.n v-p.d))):=by have h1:=aVR hp o_;rw[aC h]at h1;exact aP func18 (λ_=>[h1.at 6,(aVp hv o_).at 10,(aWa hp.1 hv o_).at 16,(aVn (hp.1.dot hv) hp.2 o_).at 19])
def Ip(p q r:HS K):V3 K:=smul (ax q.n r.n) p.d+smul (ax r.n p.n) q.d+smul (ax p.n q.n) r.d
def kQ(p q r:HS K):V3 K:=smul (Ip p q r) (kI 1*(cL p.n q.n r.n)⁻¹)
theorem Sz.cL{n:Nat}{u v w:V3 K}(hu:aD n u)(hv:aD n v)(hw:aD n w):Sz (15*n+41) (V3.cL u v w):=(hu.dot (hv.ax hw)).mono o_
theorem aD.Ip{n:Nat}{p q r:HS K}(hp:bt n p)(hq:bt n q)(hr:bt n r):aD (15*n+41) (Go.Proofs.YtjjefbkbljlgdaaGreatDoor.Ip p q r):=
 (((hq.1.ax hr.1).smul hp.2).add ((hr.1.ax hp.1).smul hq.2)).add ((hp.1.ax hq.1).smul hr.2) |>.mono o_
theorem aD.kQ{n:Nat}{p q r:HS K}(hp:bt n p)(hq:bt n q)(hr:bt n r)(h:V3.cL p.n q.n r.n≠0):aD (120*n+365) (Go.Proofs.YtjjefbkbljlgdaaGreatDoor.kQ p q r):=
 (aD.Ip hp hq hr).smul (Sz.div (m:=1) h (qE d_ d_) (Sz.cL hp.1 hq.1 hr.1)) |>.mono o_
theorem aPZ(n:Nat):1+7*(15*n+41)+28<=105*n+316:=by omega
theorem aP0(n:Nat):15*n+41+(105*n+316)+8<=200*n+1000:=by omega
theorem aP1{n:Nat}(h:200*n+1000<=aB):15*n+41+(105*n+316)+8<=aB:=de (aP0 n) h
theorem aP2{p q r:HS K}{n:Nat}(hp:bt n p)(hq:bt n q)(hr:bt n r)(hn:200*n+1000<=aB)(pn:p.n≠0)(qn:q.n≠0)(rn:r.n≠0):
  aE prog 101 [cC p,cC q,cC r] (if cL p.n q.n r.n=0 then .tuple #[zV.v,.int .i64 11]else .tuple #[bB (kQ p q r),.int .i64 0]):=by
 have h1:=aVR hp o_;have h2:=aVR hq o_;have h3:=aVR hr o_;rw[aC pn]at h1;rw[aC qn]at h2;rw[aC rn]at h3;have dt:=aDI hp.1 hq.1 hr.1 o_;have sd:=Sz.cL hp.1 hq.1 hr.1;have sg:=aVA sd o_;have qG:=aPZ n;have pj:=aP1 hn;by_cases h:cL p.n q.n r.n=0
 ·rw[aw h];have Wj:Value.bool (OF.az (cL p.n q.n r.n)==0)=.bool true:=xW ((OF.e8 _).2 h);exact gu mixed func101 200 (λ_=>[h1.at 13,h2.at 17,h3.at 22,dt.at 32,sg.at 34,.rw 35 _ (.bool true) Wj]) (λ_=>k_) k_ k_
 ·rw[ao h];have Wj:Value.bool (OF.az (cL p.n q.n r.n)==0)=.bool false:=pw (λe=>h ((OF.e8 _).1 e));have c1:=aV7 hq.1 hr.1 o_;have c2:=aV7 hr.1 hp.1 o_;have c3:=aV7 hp.1 hq.1 o_;have s1:=aVx (hq.1.ax hr.1) hp.2 o_;have s2:=aVx (hr.1.ax hp.1) hq.2 o_;have s3:=aVx (hp.1.ax hq.1) hr.2 o_;have a1:=aVT ((hq.1.ax hr.1).smul hp.2) ((hr.1.ax hp.1).smul hq.2) o_;have zA:aD (10*n+27) (smul (ax q.n r.n) p.d+smul (ax r.n p.n) q.d):=aD.mono o_ (((hq.1.ax hr.1).smul hp.2).add ((hr.1.ax hp.1).smul hq.2));have zB:aD (5*n+13) (smul (ax p.n q.n) r.d):=aD.mono o_ ((hp.1.ax hq.1).smul hr.2);have a2:=aVT zA zB o_;have o1:=aVF (z:=1) d_;have so:Sz 1 (kI 1):=qE d_ d_;have dv:=aVG h so sd o_;have sq:Sz (105*n+316) (kI 1*(cL p.n q.n r.n)⁻¹):=Sz.mono qG (Sz.div h so sd);have fs:=aVx (aD.Ip hp hq hr) sq pj;exact gu mixed func101 200 (λ_=>[h1.at 13,h2.at 17,h3.at 22,dt.at 32,sg.at 34,.rw 35 _ (.bool false) Wj,c1.at 41,s1.at 44,c2.at 50,s2.at 53,a1.at 54,c3.at 60,s3.at 63,a2.at 64,o1.at 66,dv.at 68,fs.at 73]) (λ_=>k_) k_ k_
theorem aVo{p:HS K}{n:Nat}(hp:bt n p)(hn:16*n+100<=aB)(aU:p.n≠0):aE prog 142 [cC p] (.tuple #[cC (canon p),.int .i64 0]):=by
 have hv:=aVR hp o_;rw[aC aU]at hv;have sx:=aVA hp.1.1 o_;have sy:=aVA hp.1.2.1 o_;have o1:=aVF (z:=1) d_;have so:Sz 1 (kI 1):=qE d_ d_;have fin:∀ x:K,x≠0->Sz n x->aE prog 171 [bZ x] (bZ (iK x))/\aE prog 135 [bZ (kI 1),bZ (iK x)] (.tuple #[bZ (mr x),.int .i64 0])/\
   aE prog 15 [bB p.n,bZ (mr x)] (bB (smul p.n (mr x)))/\aE prog 46 [bZ p.d,bZ (mr x)] (bZ (p.d*mr x)):=λx hx hs=>
  ⟨aVi hs o_,aVG (OX hx) so hs.iK o_,aVx hp.1 (hs.mr hx) o_,aVl hp.2 (hs.mr hx) o_⟩
 have hc:canon p=Dk p (pY p.n):=rfl;unfold pY at hc;by_cases hx:p.n.x=0
 ·have ex:Value.bool (OF.az p.n.x==0)=.bool true:=xW ((OF.e8 _).2 hx);rw[ao (λe=>e hx)]at hc;by_cases hy:p.n.y=0
  ·have ey:Value.bool (OF.az p.n.y==0)=.bool true:=xW ((OF.e8 _).2 hy);rw[ao (λe=>e hy)]at hc;have hz:p.n.z≠0:=λhz=>aU (V3.ext hx hy hz);obtain⟨f1,f2,f3,f4⟩:=fin p.n.z hz hp.1.2.2;rw[hc];exact gu mixed func142 200 (λ_=>[hv.at 8,sx.at 15,.rw 16 _ (.bool true) ex,sy.at 21,.rw 22 _ (.bool true) ey,o1.at 27,f1.at 29,f2.at 30,f3.at 36,f4.at 40]) (λ_=>k_) k_ k_
  ·have ey:Value.bool (OF.az p.n.y==0)=.bool false:=pw (λe=>hy ((OF.e8 _).1 e));rw[aw hy]at hc;obtain⟨f1,f2,f3,f4⟩:=fin p.n.y hy hp.1.2.1;rw[hc];exact gu mixed func142 200 (λ_=>[hv.at 8,sx.at 15,.rw 16 _ (.bool true) ex,sy.at 21,.rw 22 _ (.bool false) ey,o1.at 27,f1.at 29,f2.at 30,f3.at 36,f4.at 40]) (λ_=>k_) k_ k_
 ·have ex:Value.bool (OF.az p.n.x==0)=.bool false:=pw (λe=>hx ((OF.e8 _).1 e));rw[aw hx]at hc;obtain⟨f1,f2,f3,f4⟩:=fin p.n.x hx hp.1.1;rw[hc];exact gu mixed func142 200 (λ_=>[hv.at 8,sx.at 15,.rw 16 _ (.bool false) ex,sx.at 21,.rw 22 _ (.bool false) ex,o1.at 27,f1.at 29,f2.at 30,f3.at 36,f4.at 40]) (λ_=>k_) k_ k_
theorem aVK{p q:HS K}{m n:Nat}(hp:bt m p)(hq:bt n q)(hm:16*m+100<=aB)(hn:16*n+100<=aB)(fT:p.n≠0)(zz:q.n≠0):aE prog 103 [cC p,cC q] (.bool (decide (canon p=canon q))):=
 aP func103 (λ_=>[(aVo hp hm fT).at 11,(aVo hq hn zz).at 16,.step 28 (av f103 28) _ _ _ _ (TI (neg:=true) k_ (cH (canon p)) (cH (canon q)) ((hp.canon fT).sm o_) ((hq.canon zz).sm o_) (b:=decide (canon p=canon q)) (by rw[aw rfl,BL];exact⟨λh=>by rw[h],λh=>OW h⟩))])
theorem aDN{g o a b:V3 K}{n:Nat}(hg:aD n g)(ho:aD n o)(ha:aD n a)(hb:aD n b)(hn:200*n+400<=aB):aE prog 144 [bB g,bB o,bB a,bB b] (.int .i64 (OF.az (cL g (a-o) (b-o)))):=
 aP func144 (λ_=>[(aVy ha ho o_).at 12,(aVy hb ho o_).at 15,(aDI hg (ha.sub ho) (hb.sub ho) o_).at 16,(aVA (hg.dot ((ha.sub ho).ax (hb.sub ho))) o_).at 17])
end
section
variable{Bs:aa}{a b:List RV}
def DR(n i:Nat):aW:=[(5,vI i),(0,sl 0 n),(1,sl 1 n)]
def wi(a b:List RV):aH:=[(0,.view (cF a)),(1,.view (cF b))]
noncomputable def svS{n i:Nat}{x y:RV}{t:Bool}(hi:i<n)(hx:a[i]?=some x)(hy:b[i]?=some y)(kL:x.Sm)(xF:y.Sm)(ht:(!t)=true↔x=y)(more:bA prog Bs 26):bA prog Bs 26:=
 .lt 14 i n true (aC hi)::.cY Tryz.f20 19 0 n i 30 hi k_::.ld Tryz.f20 20 33 0 (i*30) (.view (cF a)) x.v rfl (r6 hx) k_::.cY Tryz.f20 23 1 n i 30 hi k_::.ld Tryz.f20 24 33 1 (i*30) (.view (cF b)) y.v rfl (r6 hy) k_::
  .step 25 (av Tryz.f20 25) [x.v,y.v] [] (.bool t) [] (Fb (neg:=false) k_ x y kL xF ht)::more
theorem aDO{n i:Nat}{x:RV}(hi:i<n)(hx:a[i]?=some x)(hy:b[i]?=some x)(kL:x.Sm)(h63:n<9223372036854775807):
  ag prog Bs 26 (aF (af Tryz.f20 0)) (DR n i) (wi a b) 2 ⟨.normal,DR n (i+1),wi a b,2⟩:=
 aA (svS (t:=false) hi hx hy kL kL s_ [.sum 16 i 1 (i+1) rfl o_])
theorem aP3{n i:Nat}{x y:RV}(hi:i<n)(hx:a[i]?=some x)(hy:b[i]?=some y)(kL:x.Sm)(xF:y.Sm)(aU:x≠y):
  ag prog Bs 26 (aF (af Tryz.f20 0)) (DR n i) (wi a b) 2 ⟨.ret,[(4,.bool false)],wi a b,2⟩:=
 aA (svS (t:=true) hi hx hy kL xF (by simp[aU]) [])
theorem aP4{n:Nat}:ag prog Bs 26 (aF (af Tryz.f20 0)) (DR n n) (wi a b) 2 ⟨.exit 0,[],wi a b,2⟩:=
 aA [.lt 14 n n false s_]
theorem aP5(ha:∀ x∈a,x.Sm)(hb:∀ x∈b,x.Sm)(h63:a.length<9223372036854775807):cy prog 20 [.r a.length (cF a),.r b.length (cF b)] (.bool (decide (a=b))):=by
 have ay:([aR.r a.length (cF a),.r b.length (cF b)].all aR.ok)=true:=by simp only[dH,fp,aR.ok,gT ga,iU]
 by_cases hl:a.length=b.length
 ·rcases Dp a b hl with h|⟨e,x,y,h1,h2,h3,h4⟩
  ·rw[aC h];subst h;have lo:∀ B:aa,ag prog B 26 (.block 0 (af Tryz.f20 0)) (DR a.length 0) (wi a a) 2 ⟨.normal,[],wi a a,2⟩:=λB=>
    bT (id:=0) (cd a.length (λi=>DR a.length i) (λ_=>wi a a) (λi k _=>Iff.rfl) (λi hi=>by have hx:a[i]?=some a[i]:=bf hi;exact aDO hi hx hx (ha _ (dM hi)) h63) aP4 n_)
   exact dW func20 ay 26 (λw=>[.rw 10 _ (.bool false) (tS (x:=a.length) (y:=a.length) s_),.code 0 _ _ _ _ _ (lo _)])
  ·have b9:a≠b:=λh=>by subst h;rw[h1]at h2;injection h2 with h2;exact h3 h2
   rw[aN b9];have ak:=(ew.1 h1).1;have lo:∀ B:aa,ag prog B 26 (.block 0 (af Tryz.f20 0)) (DR a.length 0) (wi a b) 2 ⟨.ret,[(4,.bool false)],wi a b,2⟩:=λB=>
    bT (id:=0) (cd e (λi=>DR a.length i) (λ_=>wi a b) (λi k _=>Iff.rfl) (λi hi=>by have hx:a[i]?=some a[i]:=bf o_;have hy:b[i]?=some b[i]:=bf o_;have:=h4 i _ _ hi hx hy;rw[<-this]at hy;exact aDO o_ hx hy (ha _ (dM _)) h63) (aP3 ak h1 h2 (ha _ (cQ h1)) (hb _ (cQ h2)) h3) n_)
   have Bx:([aR.r a.length (cF a),.r a.length (cF b)].all aR.ok)=true:=by simp only[dH,fp,aR.ok,gT ga,iU]
   rw[<-hl];exact dW func20 Bx 26 (λw=>[.rw 10 _ (.bool false) (tS (x:=a.length) (y:=a.length) s_),.code 0 _ _ _ _ _ (lo _)])
 ·have b9:a≠b:=λh=>hl (by rw[h]);rw[aN b9];exact dW func20 ay 26 (λw=>[.rw 10 _ (.bool true) (tS (x:=a.length) (y:=b.length) (aC hl))])
end
section
variable{Bs:aa}{a b:List Int}
def DS(n i:Nat):aW:=[(5,vI i),(0,sl 0 n),(1,sl 1 n)]
def wj(a b:List Int):aH:=[(0,.view (eD a)),(1,.view (eD b))]
theorem neZ{x y:Int}{t:Bool}(h:decide (x≠y)=t):Value.bool (x !=y)=.bool t:=by
 rw[<-h];congr 1
 by_cases e:x=y
 ·subst e;simp
 ·rw[aC e,uC];exact e
noncomputable def siS{n i:Nat}{x y:Int}{t:Bool}(hi:i<n)(hx:a[i]?=some x)(hy:b[i]?=some y)(ht:decide (x≠y)=t)(more:bA prog Bs 26):bA prog Bs 26:=
 .lt 14 i n true (aC hi)::.ix Tryz.f25 19 0 n i hi k_::.ld Tryz.f25 20 3 0 i (.view (eD a)) (iV x) rfl (Po hx) k_::.ix Tryz.f25 23 1 n i hi k_::.ld Tryz.f25 24 3 1 i (.view (eD b)) (iV y) rfl (Po hy) k_::.rw 25 _ (.bool t) (neZ ht)::more
theorem aDP{n i:Nat}{x:Int}(hi:i<n)(hx:a[i]?=some x)(hy:b[i]?=some x)(h63:n<9223372036854775807):
  ag prog Bs 26 (aF (af Tryz.f25 0)) (DS n i) (wj a b) 2 ⟨.normal,DS n (i+1),wj a b,2⟩:=
 aA (siS (t:=false) hi hx hy s_ [.sum 16 i 1 (i+1) rfl o_])
theorem aP6{n i:Nat}{x y:Int}(hi:i<n)(hx:a[i]?=some x)(hy:b[i]?=some y)(aU:x≠y):
  ag prog Bs 26 (aF (af Tryz.f25 0)) (DS n i) (wj a b) 2 ⟨.ret,[(4,.bool false)],wj a b,2⟩:=
 aA (siS (t:=true) hi hx hy (aC aU) [])
theorem aP7{n:Nat}:ag prog Bs 26 (aF (af Tryz.f25 0)) (DS n n) (wj a b) 2 ⟨.exit 0,[],wj a b,2⟩:=
 aA [.lt 14 n n false s_]
theorem aDQ(l:List Int):(eD l).all flat=true:=bh.2 λu hu=>by obtain⟨x,_,rfl⟩:=dj.1 hu;rfl
theorem aP8(h63:a.length<9223372036854775807):cy prog 25 [.r a.length (eD a),.r b.length (eD b)] (.bool (decide (a=b))):=by
 have ay:([aR.r a.length (eD a),.r b.length (eD b)].all aR.ok)=true:=by simp only[dH,fp,aR.ok,aDQ,iU]
 by_cases hl:a.length=b.length
 ·rcases Dp a b hl with h|⟨e,x,y,h1,h2,h3,h4⟩
  ·rw[aC h];subst h;have lo:∀ B:aa,ag prog B 26 (.block 0 (af Tryz.f25 0)) (DS a.length 0) (wj a a) 2 ⟨.normal,[],wj a a,2⟩:=λB=>
    bT (id:=0) (cd a.length (λi=>DS a.length i) (λ_=>wj a a) (λi k _=>Iff.rfl) (λi hi=>by have hx:a[i]?=some a[i]:=bf hi;exact aDP hi hx hx h63) aP7 n_)
   exact dW func25 ay 26 (λw=>[.rw 10 _ (.bool false) (tS (x:=a.length) (y:=a.length) s_),.code 0 _ _ _ _ _ (lo _)])
  ·have b9:a≠b:=λh=>by subst h;rw[h1]at h2;injection h2 with h2;exact h3 h2
   rw[aN b9];have ak:=(ew.1 h1).1;have lo:∀ B:aa,ag prog B 26 (.block 0 (af Tryz.f25 0)) (DS a.length 0) (wj a b) 2 ⟨.ret,[(4,.bool false)],wj a b,2⟩:=λB=>
    bT (id:=0) (cd e (λi=>DS a.length i) (λ_=>wj a b) (λi k _=>Iff.rfl) (λi hi=>by have hx:a[i]?=some a[i]:=bf o_;have hy:b[i]?=some b[i]:=bf o_;have:=h4 i _ _ hi hx hy;rw[<-this]at hy;exact aDP o_ hx hy h63) (aP6 ak h1 h2 h3) n_)
   have Bx:([aR.r a.length (eD a),.r a.length (eD b)].all aR.ok)=true:=by simp only[dH,fp,aR.ok,aDQ,iU]
   rw[<-hl];exact dW func25 Bx 26 (λw=>[.rw 10 _ (.bool false) (tS (x:=a.length) (y:=a.length) s_),.code 0 _ _ _ _ _ (lo _)])
 ·have b9:a≠b:=λh=>hl (by rw[h]);rw[aN b9];exact dW func25 ay 26 (λw=>[.rw 10 _ (.bool true) (tS (x:=a.length) (y:=b.length) (aC hl))])
end
section
variable{α:Type}[DecidableEq α]
def dd:List α->List α
 |a::b::l=>if a=b then dd (b::l)else a::dd (b::l)
 |l=>l
theorem Lm(a b:α)(l:List α):dd (a::b::l)=if a=b then dd (b::l)else a::dd (b::l):=rfl
theorem aDR:∀(l:List α) (a b:α),dd (l++[a,b])=if a=b then dd (l++[a])else dd (l++[a])++[b]
 |[],a,b=>by
  show(if a=b then[b]else[a,b])=if a=b then[a]else[a]++[b]
  split
  ·rename_i h;rw[h]
  ·rfl
 |[c],a,b=>by
  show(if c=a then(if a=b then[b]else[a,b])else c::(if a=b then[b]else[a,b]))=if a=b then(if c=a then[a]else[c,a])else(if c=a then[a]else[c,a])++[b]
  by_cases h:a=b<;>by_cases k:c=a<;>simp[h,k]
 |c::d::l,a,b=>by
  show(if c=d then dd (d::(l++[a,b]))else c::dd (d::(l++[a,b])))=if a=b then(if c=d then dd (d::(l++[a]))else c::dd (d::(l++[a])))else(if c=d then dd (d::(l++[a]))else c::dd (d::(l++[a])))++[b]
  have ih:=aDR (d::l) a b;rw[EO,EO]at ih;rw[ih];by_cases h:a=b<;>by_cases k:c=d<;>simp[h,k]
theorem P3{l:List α}{j:Nat}{x y:α}(hj:l[j]?=some y)(hx:l[j+1]?=some x):dd (l.take (j+2))=if y=x then dd (l.take (j+1))else dd (l.take (j+1))++[x]:=by
 have e1:l.take (j+1)=l.take j++[y]:=by rw[tK,hj];rfl
 have e2:l.take (j+2)=l.take j++[y,x]:=by rw[tK,hx,e1,Ep];rfl
 rw[e1,e2,aDR]
theorem aDS{x:α}:∀{l:List α},x∈dd l↔x∈l
 |[]=>Iff.rfl
 |[a]=>Iff.rfl
 |a::b::l=>by
  rw[Lm];have ih:=aDS (x:=x) (l:=b::l);split
  ·rename_i h;subst h;rw[ih];simp
  ·rw[cx,ih];simp
def jU(l:List α)(j:Nat):List α:=dd (l.take j)++l.drop (dd (l.take j)).length
def iX(l:List α)(j:Nat):Nat:=(dd (l.take j)).length
theorem P4(l:List α):∀ j,iX l j<=j/\iX l j<=l.length
 |0=>by simp[iX,dd]
 |1=>by
  cases l with
  |nil=>simp[iX,dd]
  |cons a l=>simp[iX,dd]
 |j+2=>by
  have ih:=P4 l (j+1);rcases eF (j+1) l.length with h|h
  ·have hy:l[j]?=some l[j]:=bf o_;have hx:l[j+1]?=some l[j+1]:=bf h;have:=P3 hy hx;unfold iX at ih ⊢;rw[this];split
   ·omega
   ·rw[iZ,zC];omega
  ·have:l.take (j+2)=l.take (j+1):=by rw[ki h,ki o_]
   unfold iX at ih ⊢;rw[this];omega
theorem aDT(l:List α)(j:Nat):(jU l j).length=l.length:=by have:=(P4 l j).2;unfold iX at this;unfold jU;rw[iZ,vl];omega
theorem aDU{l:List α}{j i:Nat}(h:iX l j<=i):(jU l j)[i]?=l[i]?:=by
 unfold iX at h;unfold jU;rw[Eh h,D8]
 congr 1;omega
theorem P5{l:List α}{j:Nat}{x:α}(hj:l[j]?=some x)(hx:l[j+1]?=some x):jU l (j+2)=jU l (j+1)/\iX l (j+2)=iX l (j+1):=by unfold jU iX;rw[P3 hj hx,aw rfl];exact⟨rfl,rfl⟩
theorem aDV{l:List α}{j:Nat}{x y:α}(hj:l[j]?=some y)(hx:l[j+1]?=some x)(aU:y≠x)(hd:iX l (j+1)<l.length):(jU l (j+1)).set (iX l (j+1)) x=jU l (j+2)/\iX l (j+2)=iX l (j+1)+1:=by
 unfold jU iX at *;rw[P3 hj hx,ao aU];refine⟨?_,by rw[iZ];rfl⟩;rw[UL _ _ (bj _),vA,iZ,zC,Ep]
 congr 1
 rw[O1 hd];rfl
theorem Wk{l:List α}:∀(j:Nat),(∀ i x,i+1<j->l[i]?=some x->l[i+1]?≠some x)->j<=l.length->dd (l.take j)=l.take j
 |0,_,_=>rfl
 |1,_,_=>by
  cases l with
  |nil=>rfl
  |cons a l=>rfl
 |j+2,h,hl=>by
  have ih:=Wk (j+1) (λi x hi=>h i x o_) o_;have hy:l[j]?=some l[j]:=bf o_;have hx:l[j+1]?=some l[j+1]:=bf o_;rw[P3 hy hx,ao (λe=>h j _ o_ hy (by rw[hx,e])),ih];have e:l.take (j+2)=l.take (j+1)++[l[j+1]]:=by rw[tK,hx];rfl
  exact e.symm
theorem aDW(l:List α):∀ n,n<=l.length->(∀ i x,i+1<n->l[i]?=some x->l[i+1]?≠some x)\/∃ e x,e+1<n/\l[e]?=some x/\l[e+1]?=some x/\∀ i x,i+1<e+1->l[i]?=some x->l[i+1]?≠some x
 |0,_=>.inl λi x h=>by omega
 |1,_=>.inl λi x h=>by omega
 |n+2,hn=>by
  rcases aDW l (n+1) o_ with h|⟨e,x,h1,h2,h3,h4⟩
  ·have hy:l[n]?=some l[n]:=bf o_;have hx:l[n+1]?=some l[n+1]:=bf o_;by_cases he:l[n]=l[n+1]
   ·exact .inr ⟨n,l[n],by omega,hy,by rw[hx,he],h⟩
   ·refine .inl λi x hi AF=>?_;rcases eF (i+1) (n+1)with h1|h1
    ·exact h i x h1 AF
    ·have:i=n:=by omega
     subst this;rw[hy]at AF;injection AF with AF;rw[hx,<-AF];intro e;injection e with e;exact he e.symm
  ·exact .inr ⟨e,x,by omega,h2,h3,h4⟩
theorem aDX{β:Type}[DecidableEq β]{f:α->β}(hf:∀ a b,f a=f b->a=b):∀ l:List α,dd (l.map f)=(dd l).map f
 |[]=>rfl
 |[a]=>rfl
 |a::b::l=>by
  have ih:=aDX hf (b::l);rw[rF,rF,Lm,Lm];rw[rF]at ih;by_cases h:a=b
  ·subst h;rw[aw rfl,aw rfl,ih]
  ·rw[ao h,ao (λe=>h (hf _ _ e)),ih];rfl
end
section
variable{Bs:aa}{l:List RV}
def Ln:RI:=⟨false,[]⟩
def F5:RN:=⟨Ln,Ln,Ln,Ln,Ln⟩
def sG:RV:=⟨F5,F5,F5⟩
def F6(n i:Nat):aW:=[(3,vI i),(0,sl 1 n)]
def lk(l:List RV):aH:=[(1,.row (cF l) 33 30)]
def aP9(k a n:Nat):Value:=.slice (some ⟨k,a*30,some 7⟩) n a
def Lo(n e d k:Nat):aW:=[(5,vI k),(4,aP9 1 e (n-e)),(3,vI d),(0,sl 1 n)]
theorem stV{l:List RV}{i:Nat}{y:RV}(hi:i<l.length):eW prog 33 (cF l) (i*30) y.v=some (cF (l.set i y)):=aLJ ga k_ hi
theorem aDY{n i:Nat}{x y:RV}(hi:i+1<n)(h63:n<4611686018427387904)(hy:l[i]?=some y)(hx:l[i+1]?=some x)(xF:y.Sm)(kL:x.Sm)(aU:x≠y):
  ag prog Bs 61 (aF (af f118 0)) (F6 n (i+1)) (lk l) 2 ⟨.normal,F6 n (i+1+1),lk l,2⟩:=
 aA [.lt 13 (i+1) n true (aC hi),.cY f118 18 1 n (i+1) 30 hi k_,.ld f118 19 33 1 ((i+1)*30) (.row (cF l) 33 30) x.v rfl (r6 hx) k_,.eX 22 (i+1) 1 i rfl o_,.cY f118 23 1 n i 30 o_ k_,.ld f118 24 33 1 (i*30) (.row (cF l) 33 30) y.v rfl (r6 hy) k_,.step 25 (av f118 25) [x.v,y.v] [] (.bool false) [] (Fb (neg:=true) k_ x y kL xF (by simp[aU])),.sum 15 (i+1) 1 (i+1+1) rfl o_]
theorem aQa{n:Nat}:ag prog Bs 61 (aF (af f118 0)) (F6 n n) (lk l) 2 ⟨.exit 0,[(0,sl 1 n)],lk l,2⟩:=
 aA [.lt 13 n n false s_]
noncomputable def aDZ{n e k j:Nat}{r:List RV}{x y:RV}{t:Bool}(hk:k+1<n-e)(hj:e+k=j)(h63:n<4611686018427387904)(hy:r[j]?=some y)(hx:r[j+1]?=some x)(xF:y.Sm)(kL:x.Sm)(ht:(!t)=true↔x=y)(more:bA prog Bs 61):bA prog Bs 61:=
 .lt 32 (k+1) (n-e) true (aC hk)::.pr f118 37 1 e (n-e) e (k+1) (j+1) 30 hk o_ k_::.ld f118 38 33 1 ((j+1)*30) (.row (cF r) 33 30) x.v rfl (r6 hx) k_::.eX 41 (k+1) 1 k rfl o_::
  .pr f118 42 1 e (n-e) e k j 30 o_ hj k_::.ld f118 43 33 1 (j*30) (.row (cF r) 33 30) y.v rfl (r6 hy) k_::.step 44 (av f118 44) [x.v,y.v] [] (.bool t) [] (Fb (neg:=false) k_ x y kL xF ht)::more
theorem aQb{n e k d:Nat}(hl:l.length=n)(hk:e+1+k+1<n)(h63:n<4611686018427387904)(qe:∀ x∈l,x.Sm)(hd:d=iX l (e+1+k+1))(hde:d<=e+1+k):
  ag prog Bs 61 (aF (af f118 2)) (Lo n (e+1) d (k+1)) (lk (jU l (e+1+k+1))) 2 ⟨.normal,Lo n (e+1) (iX l (e+1+k+2)) (k+1+1),lk (jU l (e+1+k+2)),2⟩:=by
 have hy:l[e+1+k]?=some l[e+1+k]:=bf o_;have hx:l[e+1+k+1]?=some l[e+1+k+1]:=bf o_;have NY:(jU l (e+1+k+1))[e+1+k]?=some l[e+1+k]:=by rw[aDU o_];exact hy
 have rP:(jU l (e+1+k+1))[e+1+k+1]?=some l[e+1+k+1]:=by rw[aDU o_];exact hx
 have sy:=qe _ (cQ hy);have sx:=qe _ (cQ hx);by_cases h:l[e+1+k]=l[e+1+k+1]
 ·obtain⟨q1,q2⟩:=P5 hy (by rw[hx,h]);rw[q1,q2,<-hd];exact aA (aDZ (t:=false) o_ rfl h63 NY rP sy sx (by simp[h]) [.sum 34 (k+1) 1 (k+1+1) rfl o_])
 ·have ak:iX l (e+1+k+1)<l.length:=by omega
  obtain⟨q1,q2⟩:=aDV hy hx h ak;rw[<-hd]at q1 q2 ak;have bL:=stV (l:=jU l (e+1+k+1)) (i:=d) (y:=l[e+1+k+1]) (by rw[aDT];exact ak);rw[q1]at bL;rw[q2];generalize l[e+1+k+1]=x at *;generalize l[e+1+k]=y at *;generalize jU l (e+1+k+1)=r at *;generalize jU l (e+1+k+2)=r' at *;exact aA (aDZ (t:=true) o_ rfl h63 NY rP sy sx (by simp;exact λe=>h e.symm) [.pr f118 49 1 (e+1) (n-(e+1)) (e+1) (k+1) (e+1+k+1) 30 o_ o_ k_,.ld f118 50 33 1 ((e+1+k+1)*30) (.row (cF r) 33 30) x.v rfl (r6 rP) k_,.cY f118 51 1 n d 30 o_ k_,.st f118 100051 33 1 (d*30) (.row (cF r) 33 30) x.v (.row (cF r') 33 30) rfl bL rfl k_,.sum 53 d 1 (d+1) rfl o_,.sum 34 (k+1) 1 (k+1+1) rfl o_])
theorem aQc{n e d:Nat}{r:List RV}(he:e<=n):ag prog Bs 61 (aF (af f118 2)) (Lo n e d (n-e)) (lk r) 2 ⟨.exit 2,[(3,vI d),(0,sl 1 n)],lk r,2⟩:=
 aA [.lt 32 (n-e) (n-e) false s_]
theorem aQd{n e:Nat}{x:RV}(hl:l.length=n)(he:e+1<n)(h63:n<4611686018427387904)(qe:∀ x∈l,x.Sm)(hy:l[e]?=some x)(hx:l[e+1]?=some x)(gE:dd (l.take (e+1))=l.take (e+1)):
  ag prog Bs 61 (.block 2 (af f118 2)) (Lo n (e+1) (e+1) 1) (lk l) 2 ⟨.normal,[(3,vI (dd l).length),(0,sl 1 n)],lk (jU l n),2⟩/\(dd l).length<n:=by
 have h0:iX l (e+1)=e+1:=by unfold iX;rw[gE,jw];omega
 have h1:iX l (e+2)=e+1:=by rw[(P5 hy hx).2,h0]
 have gj:jU l (e+2)=l:=by rw[(P5 hy hx).1];unfold jU;rw[gE];rw[jw,nX o_,H5]
 have vp:∀ k,e+1+k+1<n->iX l (e+1+k+2)<=iX l (e+1+k+1)+1:=λk hk=>by
  have a:l[e+1+k]?=some l[e+1+k]:=bf o_;have b:l[e+1+k+1]?=some l[e+1+k+1]:=bf o_;by_cases h:l[e+1+k]=l[e+1+k+1]
  ·have:=(P5 a (by rw[b,h])).2;omega
  ·have:=(aDV a b h (by have:=(P4 l (e+1+k+1)).1;omega)).2;omega
 have El:∀ k,e+1+k<n->iX l (e+1+k+1)<=e+1+k:=by
  intro k;induction k with
  |zero=>intro _;show iX l (e+2)<=_;omega
  |succ k ih=>
   intro hk;have a:=ih o_;have b:=vp k o_;show iX l (e+1+k+2)<=_;omega
 have bd:iX l n=(dd l).length:=by unfold iX;rw[ki o_]
 refine⟨?_,?_⟩
 ·have:=cd (P:=prog) (B:=Bs) (N:=61) (b:=aF (af f118 2)) (next:=2) (n-(e+1)-1) (λk=>Lo n (e+1) (iX l (e+1+k+1)) (k+1)) (λk=>lk (jU l (e+1+k+1)))
   (r:=⟨.exit 2,[(3,vI (dd l).length),(0,sl 1 n)],lk (jU l n),2⟩) (λi k _=>jN (l:=lk (jU l (e+1+i+1))) (m:=lk (jU l (e+1+0+1))) rfl k)
   (λk hk=>aQb hl o_ h63 qe rfl (El k o_))
   (by
    have e1:e+1+(n-(e+1)-1)+1=n:=by omega
    have e2:n-(e+1)-1+1=n-(e+1):=by omega
    simp only[e1,e2,bd];exact aQc o_) n_
  have h2:=bT (id:=2) this;simp only[jY,jn,h1,gj]at h2;exact h2
 ·have:=El (n-(e+1)-1) o_;rw[show e+1+(n-(e+1)-1)+1=n by omega,bd]at this;omega
def Iq(l:List RV):List RV:=dd l++List.replicate (l.length-(dd l).length) sG
theorem aD0{l:List RV}(h:dd l=l):Iq l=l:=by unfold Iq;rw[h];simp
theorem aQe(qe:∀ x∈l,x.Sm)(h63:l.length<4611686018427387904):xC prog 118 2 [sl 1 l.length] (lk l) [] (sl 1 (dd l).length) (lk (Iq l)):=by
 by_cases h2:l.length<2
 ·have hd:dd l=l:=by
   cases l with
   |nil=>rfl
   |cons a l=>cases l with
    |nil=>rfl
    |cons b l=>simp at h2;omega
  rw[aD0 hd,hd];exact oq mixed func118 100 (N:=61) k_ (λ_=>[.lt 8 l.length 2 true (aC h2)]) (λ_=>k_)
 ·have ak:(Value.bool (decide ((l.length:Int)<(2:Int))))=.bool false:=by simp;omega
  rcases aDW l l.length (bj _)with h|⟨e,x,h3,h4,h5,h6⟩
  ·have hd:dd l=l:=by have:=Wk l.length h (bj _);rwa[mQ]at this
   rw[aD0 hd,hd];generalize hn:l.length=n at *;have lo:∀ B:aa,ag prog B 61 (.block 0 (af f118 0)) (F6 n 1) (lk l) 2 ⟨.normal,[(0,sl 1 n)],lk l,2⟩:=λB=>by
    have:=cd (P:=prog) (B:=B) (N:=61) (b:=aF (af f118 0)) (next:=2) (n-1) (λi=>F6 n (i+1)) (λ_=>lk l) (r:=⟨.exit 0,[(0,sl 1 n)],lk l,2⟩) (λi k _=>Iff.rfl)
     (λi hi=>by have hy:l[i]?=some l[i]:=bf o_;have hx:l[i+1]?=some l[i+1]:=bf o_;exact aDY o_ h63 hy hx (qe _ (cQ hy)) (qe _ (cQ hx)) λe=>h i _ o_ hy (by rw[hx,e]))
     (by rw[show n-1+1=n by omega];exact aQa) n_
    exact bT (id:=0) this
   exact oq mixed func118 100 (N:=61) k_ (λB=>[.rw 8 _ _ ak,.code 0 _ _ _ _ _ (lo B)]) (λ_=>k_)
  ·have gE:dd (l.take (e+1))=l.take (e+1):=Wk (e+1) h6 o_;have sx:=qe _ (cQ h4);generalize hn:l.length=n at *;have hz:dc RV.cs (List.replicate (n-(dd l).length) sG)=(Builtin.zeroCells (sG.v).cells (n-(dd l).length)).toList:=(aMM ga rfl d_ _).symm;unfold Iq;rw[hn];have ct:=λB=>aQd (Bs:=B) hn h3 h63 qe h4 h5 gE;have Nu:=(ct (aa.at default)).2;have zr:jU l n=dd l++l.drop (dd l).length:=by unfold jU;rw[ki o_]
   have aQf:iO (cF (jU l n)) ((dd l).length*30) (Builtin.zeroCells (sG.v).cells (n-(dd l).length)).toList=cF (dd l++List.replicate (n-(dd l).length) sG):=by rw[<-hz,zr];show iO (dc RV.cs (dd l++l.drop (dd l).length)) _ _=dc RV.cs _;rw[HT,HT];have:=O2 (dc RV.cs (List.replicate (n-(dd l).length) sG)) (dc RV.cs (dd l)) (dc RV.cs (l.drop (dd l).length)) 0;rw[tF ga,jn]at this;rw[this];have h2:=UM (dc RV.cs (List.replicate (n-(dd l).length) sG)) (dc RV.cs (l.drop (dd l).length)) [] (by rw[tF ga,tF ga,vl,H9,hn]);rw[je,je]at h2;rw[h2]
   have hlen:(dd l).length*30+(n-(dd l).length)*(sG.v).cells.size<=(cF (jU l n)).length:=by rw[tF ga,aDT,hn,show(sG.v).cells.size=30 from rfl,<-fA];exact e6 _ o_
   generalize jU l n=r at *;generalize (dd l++List.replicate (n-(dd l).length) sG)=r' at *;generalize (dd l).length=d at *;have lo:∀ B:aa,ag prog B 61 (.block 0 (af f118 0)) (F6 n 1) (lk l) 2 ⟨.ret,[(2,sl 1 d)],lk r',2⟩:=λB=>by
    have:=cd (P:=prog) (B:=B) (N:=61) (b:=aF (af f118 0)) (next:=2) e (λi=>F6 n (i+1)) (λ_=>lk l) (r:=⟨.ret,[(2,sl 1 d)],lk r',2⟩) (λi k _=>Iff.rfl)
     (λi hi=>by have hy:l[i]?=some l[i]:=bf o_;have hx:l[i+1]?=some l[i+1]:=bf o_;exact aDY o_ h63 hy hx (qe _ (cQ hy)) (qe _ (cQ hx)) λe=>h6 i _ o_ hy (by rw[hx,e]))
     (aA [.lt 13 (e+1) n true (aC h3),.cY f118 18 1 n (e+1) 30 h3 k_,.ld f118 19 33 1 ((e+1)*30) (.row (cF l) 33 30) x.v rfl (r6 h5) k_,.eX 22 (e+1) 1 e rfl o_,.cY f118 23 1 n e 30 o_ k_,.ld f118 24 33 1 (e*30) (.row (cF l) 33 30) x.v rfl (r6 h4) k_,.step 25 (av f118 25) [x.v,x.v] [] (.bool true) [] (Fb (neg:=true) k_ x x sx sx s_),.behind f118 28 1 n (e+1) (n-(e+1)) 30 o_ o_ k_,.code 2 _ _ _ _ _ (ct B).1,.behind f118 56 1 n d (n-d) 30 o_ o_ k_,.clear f118 99999 1 (d*30) (n-d) d 33 30 sG.v (cF r) (cF r') d_ o_ hlen aQf k_,.upto f118 59 1 n d 30 o_ k_]) n_
    exact bT (id:=0) this
   exact oq mixed func118 100 (N:=61) k_ (λB=>[.rw 8 _ _ ak,.code 0 _ _ _ _ _ (lo B)]) (λ_=>k_)
end
section
open Go.Shelf
def aD1:Go.Shelf.Ren:=⟨λ| 6=>116|15=>158|14=>157|28=>193|29=>194|20=>185|21=>186|22=>187|23=>188|24=>189|25=>190|26=>191|27=>192|46=>212|47=>213|48=>214|49=>215|50=>216|57=>228|n=>n,λ| 22=>23|24=>33|25=>140|3=>3|39=>118|0=>0|53=>176|55=>105|4=>4|46=>184|45=>183|50=>119|5=>5|9=>9|66=>203|70=>207|76=>219|77=>220|n=>n,λ| n=>n⟩
theorem aQg:Go.Proofs.SlLaysF0.n6 prog aD1:={
 mixed:=by kernel_rfl
 f6:=⟨f116.name,by decide,func116.trans (cI some k_)⟩
 f14:=⟨f157.name,by decide,func157.trans (cI some k_)⟩
 f15:=func158.trans (cI some k_)
 f20:=⟨f185.name,by decide,func185.trans (cI some k_)⟩
 f21:=⟨f186.name,by decide,func186.trans (cI some k_)⟩
 f22:=⟨f187.name,by decide,func187.trans (cI some k_)⟩
 f23:=⟨f188.name,by decide,func188.trans (cI some k_)⟩
 f24:=⟨f189.name,by decide,func189.trans (cI some k_)⟩
 f25:=⟨f190.name,by decide,func190.trans (cI some k_)⟩
 f26:=⟨f191.name,by decide,func191.trans (cI some k_)⟩
 f27:=⟨f192.name,by decide,func192.trans (cI some k_)⟩
 f28:=func193.trans (cI some k_)
 f29:=func194.trans (cI some k_)
 f46:=⟨f212.name,by decide,func212.trans (cI some k_)⟩
 f47:=func213.trans (cI some k_)
 f48:=func214.trans (cI some k_)
 f49:=⟨f215.name,by decide,func215.trans (cI some k_)⟩
 f50:=⟨f216.name,by decide,func216.trans (cI some k_)⟩
 f57:=⟨f228.name,by decide,func228.trans (cI some k_)⟩
 t0:=Tryz.underlying0
 a0:=isAgg0
 z0:=sizeOf0
 v0:=Tryz.zeroValue0
 t3:=Tryz.underlying3
 a3:=isAgg3
 z3:=sizeOf3
 v3:=Tryz.zeroValue3
 t4:=Tryz.underlying4
 a4:=isAgg4
 z4:=sizeOf4
 v4:=Tryz.zeroValue4
 t5:=Tryz.underlying5
 a5:=isAgg5
 z5:=sizeOf5
 v5:=Tryz.zeroValue5
 t9:=Tryz.underlying9
 a9:=isAgg9
 z9:=sizeOf9
 v9:=Tryz.zeroValue9
 t22:=Tryz.underlying23
 a22:=isAgg23
 z22:=sizeOf23
 v22:=Tryz.zeroValue23
 t25:=Tryz.underlying140
 a25:=isAgg140
 z25:=sizeOf140
 v25:=Tryz.zeroValue140
 t39:=Tryz.underlying118
 a39:=isAgg118
 z39:=sizeOf118
 v39:=Tryz.zeroValue118
 t45:=Tryz.underlying183
 a45:=isAgg183
 z45:=sizeOf183
 v45:=Tryz.zeroValue183
 t46:=Tryz.underlying184
 a46:=isAgg184
 z46:=sizeOf184
 v46:=Tryz.zeroValue184
 t50:=Tryz.underlying119
 a50:=isAgg119
 z50:=sizeOf119
 v50:=Tryz.zeroValue119
 t53:=Tryz.underlying176
 a53:=isAgg176
 z53:=sizeOf176
 v53:=Tryz.zeroValue176
 t55:=Tryz.underlying105
 a55:=isAgg105
 z55:=sizeOf105
 v55:=Tryz.zeroValue105
 t66:=Tryz.underlying203
 a66:=isAgg203
 z66:=sizeOf203
 v66:=Tryz.zeroValue203
 t70:=Tryz.underlying207
 a70:=isAgg207
 z70:=sizeOf207
 v70:=Tryz.zeroValue207
 t76:=Tryz.underlying219
 a76:=isAgg219
 z76:=sizeOf219
 v76:=Tryz.zeroValue219
 t77:=Tryz.underlying220
 a77:=isAgg220
 z77:=sizeOf220
 v77:=Tryz.zeroValue220 }
end
section
open CR OF
section
variable{F:Type}[OF F]
def sH(u v:V3 F):Bool:=decide (dY u v≠1)
theorem Ir{u v:V3 F}:sH u v=true↔jH u v\/u=v:=by unfold sH jH;rw[BL,<-KE];rcases HP u v with h|h|h<;>rw[h]<;>decide
theorem aD2(u v w:V3 F)(h:sH u v=true)(k:sH v w=true):sH u w=true:=by
 rw[Ir]at *;rcases h with h|rfl
 ·rcases k with k|rfl
  ·exact .inl (KF h k)
  ·exact .inl h
 ·exact k
theorem aQh(u v:V3 F):(sH u v||sH v u)=true:=by
 rw[uy,Ir,Ir];rcases HP u v with h|h|h
 ·exact .inl (.inl h)
 ·exact .inl (.inr (KE.1 h))
 ·exact .inr (.inl (KG h))
theorem aQi{u v:V3 F}(h:sH u v=true)(k:sH v u=true):u=v:=by
 rw[Ir]at h k;rcases h with h|h
 ·rcases k with k|k
  ·exact absurd (OS h k) id
  ·exact k.symm
 ·exact h
def qU(l:List (V3 F)):List (V3 F):=l.mergeSort sH
theorem Lp(l:List (V3 F)):(qU l).Perm l:=List.mergeSort_perm l sH
theorem aD3(l:List (V3 F)):(qU l).Pairwise λu v=>sH u v=true:=List.pairwise_mergeSort aD2 aQh l
theorem aQj{l d:List (V3 F)}(hp:d.Perm l)(hs:d.Pairwise λu v=>sH u v=true):d=qU l:=
 List.Perm.eq_of_pairwise (λ_ _ _ _=>aQi) hs (aD3 l) (hp.trans (Lp l).symm)
theorem aD4{α:Type}[DecidableEq α]:∀(a:α) (l:List α),∃ m,dd (a::l)=a::m
 |a,[]=>⟨[],rfl⟩
 |a,b::l=>by
  rw[Lm];by_cases h:a=b
  ·subst h;rw[aw rfl];exact aD4 a l
  ·rw[ao h];exact⟨_,rfl⟩
theorem aD5[DecidableEq (V3 F)]:∀{l:List (V3 F)},(l.Pairwise λu v=>sH u v=true)->(dd l).Pairwise jH
 |[],_=>aB1
 |[a],_=>aBF ..
 |a::b::l,h=>by
  have h':=(r5.1 h).2;have ih:=aD5 h';rw[Lm];by_cases b9:a=b
  ·rw[aw b9];exact ih
  ·rw[ao b9];refine r5.2 ⟨λx hx=>?_,ih⟩;have ak:jH a b:=(Ir.1 ((r5.1 h).1 b (aV ..))).resolve_right b9;obtain⟨m,hm⟩:=aD4 b l;rw[hm]at hx ih;rcases cx.1 hx with rfl|hx
   ·exact ak
   ·exact KF ak ((r5.1 ih).1 x hx)
theorem aD6[DecidableEq (V3 F)](l:List (V3 F)):dd (qU l)=KH l:=
 UB (aD5 (aD3 l)) (UD l) λx=>by rw[aDS,UC,(Lp l).mem_iff]
end
end
section
open V3 (dot ax cL smul)
open Go.Sort (SWO)
theorem aQk{ps:List (HS K)}{p q:HS K}{m:Nat}(bW:∀ p∈ps,bt m p)(hp:bt m p)(hq:bt m q)(lH:dZ p q≠0->dot (dZ p q) (dZ p q)≠0):∀ v∈qO ps p q,aD (10000*(m+10)) v:=by
 intro v hv;unfold qO FC at hv;have hD:=UT hp hq;by_cases h0:dZ p q=0
 ·rw[aw h0]at hv;cases hv
 ·rw[ao h0]at hv;obtain⟨r,hr⟩:∃ r,r=300*m+1000:=⟨_,rfl⟩;have hB:aD r (vW p q):=hr▸aCg hp hq h0 (lH h0);have FE:aD r (dZ p q):=hD.mono o_;obtain⟨zl,zh⟩:=Pa (m:=m) (q:=r) (z:=24*(m+r)+m+200) hB FE o_ ps ⟨none,none⟩ bW n_ n_;have key:∀ t,Sz (24*(m+r)+m+200) t->aD (10000*(m+10)) (vW p q+smul (dZ p q) t):=λt ht=>(hB.add (FE.smul ht)).mono o_;unfold KP at hv;split at hv
  ·rename_i x y he;split at he
   ·split at he
    ·rename_i l h e1 e2;injection he with he;injection he with f1 f2;subst f1;subst f2;simp only[cx,jg,jh]at hv;rcases hv with rfl|rfl
     ·exact key _ (zl _ e1)
     ·exact key _ (zh _ e2)
    ·cases he
   ·cases he
  ·cases hv
theorem aD7{ps:List (HS K)}{m:Nat}(bW:∀ p∈ps,bt m p)(lH:∀ p q:HS K,dZ p q≠0->dot (dZ p q) (dZ p q)≠0)(n:Nat):∀ v∈mU ps n,aD (10000*(m+10)) v:=by
 intro v hv;unfold mU at hv;rw[BM]at hv;obtain⟨i,_,hv⟩:=hv;unfold KW at hv;split at hv
 ·rename_i p hp;unfold lg at hv;rw[BM]at hv;obtain⟨q,hq,hv⟩:=hv;exact aQk bW (bW p (cQ hp)) (bW q (FD hq)) (lH p q) v hv
 ·cases hv
structure VS(m:Nat) where
 v:V3 K
 sz:aD m v
theorem VS.ext'{m:Nat}{a b:VS m}(h:a.v=b.v):a=b:=by cases a;cases b;cases h;rfl
def P6{m:Nat}(v:VS m):aj:=(cD v.v).cs
theorem Wl{m:Nat}:qJ (P6 (m:=m)) 30:=⟨λ_=>ga.len _,λ_=>ga.flat _,λ_=>ga.one _⟩
theorem Wm{m:Nat}(h:1<=m):aD m (⟨kI 0,kI 0,kI 0⟩:V3 K):=KI.mono h
def Lq{m:Nat}(u v:VS m):Bool:=Go.Proofs.ltOf (λa b:VS m=>dY a.v b.v) u v
theorem Wn{m:Nat}{u v:VS m}:Lq u v=true↔jH u.v v.v:=by show decide (dY u.v v.v<0)=true↔dY u.v v.v=-1;rw[BL];rcases HP u.v v.v with h|h|h<;>rw[h]<;>decide
theorem aD8{m:Nat}{u v:VS m}:Lq u v=false↔sH v.v u.v=true:=by
 rw[Bool.eq_false_iff,ne_eq,Wn,Ir];rcases HP u.v v.v with h|h|h
 ·exact⟨λk=>absurd h k,λk _=>by
   rcases k with k|k
   ·exact OS h k
   ·rw[k]at h;exact Di _ h⟩
 ·have:=KE.1 h;exact⟨λ_=>.inr this.symm,λ_ k=>by rw[this]at k;exact Di _ k⟩
 ·exact⟨λ_=>.inl (KG h),λ_ k=>OS k (KG h)⟩
theorem aQl{m:Nat}:SWO (Lq (m:=m)) where
 irrefl x:=by rw[Bool.eq_false_iff,ne_eq,Wn];exact Di _
 trans x y z h k:=by rw[Wn]at *;exact KF h k
 ntrans x y z h k:=by rw[aD8]at *;exact aD2 _ _ _ k h
theorem aQm{f:FuncId}(h:gi prog f=true):∀ args w,(callFunc f args).run prog w=.ok (.enter f args) w:=λargs w=>Mm h args w
def Is:Value:=.func (.func 117) #[] #[]
theorem aQn{m:Nat}(cX:1<=m)(hm:8*m+24<=aB)(l:List (VS m))(h63:l.length<4611686018427387904):
  letI:Inhabited (VS m):=⟨⟨_,Wm cX⟩⟩
  aCA prog 116 Is P6 30 Lq l:=by
 letI:Inhabited (VS m):=⟨⟨_,Wm cX⟩⟩
 intro aI cap w hH hblk
 have:=Go.Proofs.AnyQ.slices_SortFunc (P:=prog) (ρ:=aD1) aQg 30 isAgg33 sizeOf33 (P6 (m:=m)) Wl.len Wl.one (λa b=>dY a.v b.v) aQl 117 #[] aI 0 cap l.toArray w
  (aQm k_) (aMF (λx y=>UF x.sz y.sz o_) aI _ _ w) hH hblk (by simpa using h63)
 have e:l.toArray.size=l.length:=by simp
 rw[e]at this;exact this
theorem aQo:aE prog 185 [.slice none 0 0,vI 0,vI 0,Is] (.tuple #[]):=aP func185 (λ_=>[])
theorem aQp:aE prog 157 [.slice none 0 0,vI 0,vI 0,vI 0,Is] (.tuple #[]):=aP func157 (λ_=>[aQo.at 30])
theorem aQq:aE prog 194 [.int .u64 0] (vI 0):=aP func194 (λ_=>[])
theorem aQr:aE prog 158 [.int .u64 0] (vI 0):=aP func158 (λ_=>[aQq.at 7])
theorem aQs:aE prog 116 [.slice none 0 0,Is] (.tuple #[]):=aP func116 (λ_=>[aQr.at 11,aQp.at 13])
theorem aQt{Bs:aa}{l:List (V3 K)}{m:Nat}(cX:1<=m)(hm:8*m+24<=aB)(hl:∀ v∈l,aD m v)(h63:l.length<4611686018427387904){o:Oper}{x:Operand}(ho:dw o.op=some x)(k:Nat):
  cB prog Bs o [.func (.func 116) #[] #[],sl k l.length,Is] [(k,some (.row (aL l) 33 30))] (.tuple #[]) [(k,.row (aL (qU l)) 33 30)]:=by
 letI:Inhabited (VS m):=⟨⟨_,Wm cX⟩⟩
 have hex:∀ l:List (V3 K),(∀ v∈l,aD m v)->∃ l2:List (VS m),l2.map VS.v=l:=by
  intro l;induction l with
  |nil=>exact λ_=>⟨[],rfl⟩
  |cons a l ih=>
   intro h;obtain⟨l2,h2⟩:=ih λv hv=>h v (bF _ hv);exact⟨⟨a,h a (aV ..)⟩::l2,by rw[rF,h2]⟩
 obtain⟨l2,h2⟩:=hex l hl;obtain⟨l3,h3⟩:=hex (qU l) λv hv=>hl v ((Lp l).mem_iff.1 hv);have Ut:∀ a b:VS m,a.v=b.v->a=b:=λa b h=>VS.ext' h;have jm:∀ l2:List (VS m),dc P6 l2=aL (l2.map VS.v):=by intro l2;unfold aL cF dc;rw[Su,List.flatMap_map];rfl
 have hlen:l2.length=l.length:=by rw[<-h2,eY]
 have:=aMH (P:=prog) (B:=Bs) (l:=l2) (l':=l3) (o:=o) (x:=x) (ty:=33) (lt:=Lq) (g:=Is) Wl d_ (aQn cX hm l2 o_) k_ ho k_ k (λ_=>aQs) λd hd hs=>by
  have aQu:∀ a b:List (VS m),a.map VS.v=b.map VS.v->a=b:=by intro a b h;exact List.map_inj_right (λx y=>Ut x y) |>.1 h
  refine aQu _ _ ?_;rw[h3];refine aQj ?_ ?_
  ·rw[<-h2];exact hd.map _
  ·rw[List.pairwise_map,P7];intro i j hi hj mB;have:=hs i j mB hj _ _ (bf hi) (bf hj);exact aD8.1 this
 rw[jm,jm,h2,h3,hlen]at this;exact this
theorem Wo{m:Nat}(hm:10000000*(m+10)<=aB):1<=10000*(m+10)/\8*(10000*(m+10))+24<=aB/\10000*(m+10)<=aB:=by omega
def aM(ps:List (HS K)):List (V3 K):=KH (mU ps ps.length)
theorem aD9(l:List (V3 K)):dd (l.map cD)=(dd l).map cD:=aDX (λ_ _ h=>OU h) l
theorem aQv{ps:List (HS K)}{m:Nat}(bW:∀ p∈ps,bt m p)(hm:10000000*(m+10)<=aB)(h63:ps.length<=500)(lH:∀ p q:HS K,dZ p q≠0->dot (dZ p q) (dZ p q)≠0):
  lM prog 73 [fC ps] 33 30 (aM ps).length (aL (aM ps)):=by
 have ay:([fC ps].all aR.ok)=true:=by simp only[dH,fp,fC,aR.ok,cU,iU]
 have bH:=aD7 bW lH ps.length;have hl:=Pg ps.length (bj _) (ps:=ps);have jv:ps.length*(2*ps.length)<=500*1000:=wY o_ o_;have lj:(mU ps ps.length).length<=500000:=de hl jv;clear hl jv;have lo:=λBs=>aMs (Bs:=Bs) bW hm h63 lH;have hv:aM ps=dd (qU (mU ps ps.length)):=(aD6 _).symm;rw[hv];generalize mU ps ps.length=l at *;obtain⟨b1,b2,b3⟩:=Wo hm;have st:=λBs (o:Oper) x ho=>aQt (Bs:=Bs) (o:=o) (x:=x) (l:=l) (m:=10000*(m+10)) b1 b2 bH (eL lj d_) ho 1;have hp:=Lp l;have xP:(qU l).length=l.length:=hp.length_eq;have dC:=aQe (l:=(qU l).map cD) (λx hx=>by obtain⟨v,hv,rfl⟩:=dj.1 hx;exact(bH v (hp.mem_iff.1 hv)).sm b3) (by rw[eY,xP];exact eL lj d_)
 rw[eY,xP,aD9,eY]at dC;have hz:∃ t,cF (Iq ((qU l).map cD))=aL (dd (qU l))++cF t:=⟨_,by unfold Iq;rw[aD9];exact HT _ _⟩;obtain⟨t,hz⟩:=hz;unfold lk at dC;rw[hz]at dC;change xC prog _ 2 _ [(1,.row (aL (qU l)) 33 30)] _ _ _ at dC;have hlen:(aL (dd (qU l))).length=(dd (qU l)).length*30:=sk _;generalize dd (qU l)=d at *;generalize hS:qU l=s at *;intro w vs ct;obtain⟨ι,c,h1,h2,h3,h4,h5,h6,h7⟩:=vN ct (bh.1 ay) 0 _ _ (qx w) n_ (λ_ _=>rfl);refine rG (ms:=[(1,.row (aL d++cF t) 33 30)]) (v:=sl 1 d.length) mixed func73 (N:=42) k_ 100 (rs:=[.code 0 _ _ _ _ _ (lo _),.step 39 (av f73 39) _ _ _ _ (st _ _ (.func 116) k_),.step 41 (av f73 41) _ _ _ _ (OZ (args:=[sl 1 l.length]) (ca:=[]) (x:=.func 118) dC k_ k_ k_ k_ ?_ ?_ k_ k_ k_ k_)]) k_ h6 h2 h4 h3 λau bY v' w' hle hc hm dy=>⟨v',rfl,?_,hm.base⟩
 ·show((Nat.blt 1 2&&om 2 (1,.row (aL s) 33 30))&&true)=true;rw[zF (x:=.row (aL s) 33 30) λv hv=>bh.1 (dJ s) v hv];rfl
 ·show(om 2 (1,.row (aL d++cF t) 33 30)&&true)=true;rw[zF (x:=.row (aL d++cF t) 33 30) λv hv=>(ee.1 hv).elim (λh=>bh.1 (dJ d) v h) λh=>KN ga t v h];rfl
 ·have:=vx hm (dy (1,_) (aV ..)) hc (by rw[iZ];omega) λv hv=>by
   rcases ee.1 hv with h|h
   ·exact bh.1 (dJ d) v h
   ·exact KN ga t v h
  rwa[<-hlen,Rb]at this;rfl
end
section
open V3 (dot ax cL smul)
theorem It(l:List Nat):∀ v∈ai l,v.oneCell'=true:=λv hv=>by obtain⟨x,_,rfl⟩:=dj.1 hv;rfl
theorem aQw(l m:List Nat):ai l++ai m=ai (l++m):=by simp[ai]
theorem P8{l:List Nat}(h:l.length=0):ai l=[]:=by rw[lv h];rfl
def F7(l:List Nat):aR:=.r l.length (ai l)
theorem Wp(l:List Nat):(F7 l).ok=true:=gU l
theorem aQx{l:List Nat}(hl:0<l.length)(h63:l.length<=1000000):lM prog 166 [F7 l] 3 1 l.length (ai l):=
 zn (k:=2) mixed func166 (by simp only[dH,fp,Wp,iU]) 100 (N:=8) k_ (λ_=>[.step 4 (av f166 4) [sl 0 l.length,.slice none 0 0] [] (.bool false) [] (aCw k_ hl),.K3 f166 5 1 3 1 (vI 0) k_,.pa f166 7 2 1 0 l.length l.length 3 1 8 [] 0 (.view (ai l)) (ai l) o_ rfl (by rw[fX];exact lN l) rfl rfl (It l) d_ (by simp[maxLen];omega) o_ k_]) (λ_=>k_) (gU l) (by rw[lN];omega)
theorem Af(ps:List (HS K)):(aK ps).length=ps.length*40:=by unfold aK;rw[tF iC,eY]
theorem aEa(ps:List (HS K)):∀ v∈aK ps,v.oneCell'=true:=λv hv=>by unfold aK db dc at hv;rw[BM]at hv;obtain⟨x,_,hx⟩:=hv;exact iC.one x v hx
theorem aEb{ps:List (HS K)}(hl:0<ps.length)(h63:ps.length<=1000000):lM prog 41 [fC ps] 35 40 ps.length (aK ps):=
 zn (k:=2) mixed func41 (by simp only[dH,fp,fC,aR.ok,cU,iU]) 100 (N:=8) k_ (λ_=>[.step 4 (av f41 4) [sl 0 ps.length,.slice none 0 0] [] (.bool false) [] (aCw k_ hl),.K3 f41 5 1 35 40 (RP.v ⟨sG,F5⟩) k_,.pa f41 7 2 1 0 ps.length ps.length 35 40 480 [] 0 (.view (aK ps)) (aK ps) o_ rfl (Af ps) rfl rfl (aEa ps) d_ (by simp[maxLen];omega) o_ k_]) (λ_=>k_) (cU ps) (Af ps)
def nN(l:List Nat)(i:Nat):List Nat:=(List.range l.length).map λt=>if t<i\/l.length<=t+i then l.getD (l.length-1-t) 0 else l.getD t 0
theorem Wq(l:List Nat)(i:Nat):(nN l i).length=l.length:=by simp[nN]
theorem aQy(l:List Nat):nN l 0=l:=by
 apply wR
 ·simp[nN]
 ·intro t h1 h2;have:¬(l.length<=t):=by omega
  simp[nN,this,h2]
theorem aEc{l:List Nat}{i t:Nat}(h1:i<=t)(h2:t+i<l.length):(nN l i)[t]?=some (l.getD t 0):=by
 have:¬(t<i\/l.length<=t+i):=by omega
 simp[nN,show t<l.length by omega,this]
theorem aQz{l:List Nat}{i:Nat}(h:i+(i+1)<l.length):((nN l i).set i (l.getD (l.length-1-i) 0)).set (l.length-1-i) (l.getD i 0)=nN l (i+1):=by
 apply wR
 ·simp[nN]
 ·intro t h1 h2;rw[Wq]at h2;rw[GG,GG];simp only[nN,Cp,Cq];by_cases e1:l.length-1-i=t
  ·subst e1;rw[aw rfl,aw o_]
   congr 1;omega
  ·rw[ao e1];by_cases e2:i=t
   ·subst e2;rw[aw rfl,aw o_]
   ·rw[ao e2];by_cases e3:t<i\/l.length<=t+i
    ·rw[aw e3,aw o_]
    ·rw[ao e3,ao o_]
theorem aQA{l:List Nat}{i:Nat}(h:l.length<=i+(i+1))(h2:i+i<=l.length):nN l i=l.reverse:=by
 apply wR
 ·simp[nN]
 ·intro t h1 h3;rw[Wq]at h1;rw[List.getElem_reverse];simp only[nN,Cp,Cq];split
  ·rw[Eg,bf o_];rfl
  ·have:t=l.length-1-t:=by omega
   rw[Eg,bf o_];simp only[Option.getD_some]
   congr 1
section
variable{Bs:aa}{l:List Nat}
def P9(n i:Nat):aW:=[(2,vI i),(3,vI (n-1-i)),(0,sl 5 n)]
def xY(l:List Nat):aH:=[(5,.row (ai l) 3 1)]
theorem aQB{n i:Nat}(hn:l.length=n)(hi:i+(i+1)<n)(h63:n<4611686018427387904):
  ag prog Bs 28 (aF (af f167 0)) (P9 n i) (xY (nN l i)) 6 ⟨.normal,P9 n (i+1),xY (nN l (i+1)),6⟩:=by
 have g1:=aEc (l:=l) (i:=i) (t:=n-1-i) o_ o_;have g2:=aEc (l:=l) (i:=i) (t:=i) o_ o_;have hlen:=Wq l i;have vp:=aQz (l:=l) (i:=i) o_;rw[hn]at vp hlen;generalize l.getD (n-1-i) 0=y at *;generalize l.getD i 0=x at *;generalize nN l i=r at *;rw[<-vp];have s1:=wb (l:=r) (i:=i) (d:=y) o_;have s2:=wb (l:=r.set i y) (i:=n-1-i) (d:=x) (by rw[Vt];omega);exact aA [.lt 9 i (n-1-i) true (by simp;omega),.ix f167 20 5 n (n-1-i) o_ k_,.ld f167 21 3 5 (n-1-i) (.row (ai r) 3 1) (vI y) rfl (dO g1) k_,.ix f167 24 5 n i o_ k_,.ld f167 25 3 5 i (.row (ai r) 3 1) (vI x) rfl (dO g2) k_,.ix f167 26 5 n i o_ k_,.st f167 100026 3 5 i (.row (ai r) 3 1) (vI y) (.row (ai (r.set i y)) 3 1) rfl s1 rfl k_,.ix f167 27 5 n (n-1-i) o_ k_,.st f167 100027 3 5 (n-1-i) (.row (ai (r.set i y)) 3 1) (vI x) (.row (ai ((r.set i y).set (n-1-i) x)) 3 1) rfl s2 rfl k_,.sum 11 i 1 (i+1) rfl o_,.eX 13 (n-1-i) 1 (n-1-(i+1)) o_ o_]
theorem aQC{n:Nat}(hn:l.length=n)(h0:0<n)(h63:n<4611686018427387904):
  ag prog Bs 28 (.block 0 (af f167 0)) (P9 n 0) (xY l) 6 ⟨.normal,[],xY l.reverse,6⟩:=by
 have uP:l.reverse=nN l (n/2):=(aQA o_ o_).symm
 have:=cd (P:=prog) (B:=Bs) (N:=28) (b:=aF (af f167 0)) (next:=6) (n/2) (λi=>P9 n i) (λi=>xY (nN l i)) (r:=⟨.exit 0,[],xY l.reverse,6⟩) (λi k _=>jN (l:=xY (nN l i)) (m:=xY (nN l 0)) rfl k)
  (λi hi=>aQB hn o_ h63)
  (by rw[<-uP];generalize l.reverse=r;exact aA [.lt 9 (n/2) (n-1-n/2) false (by simp;omega)]) n_
 rw[aQy]at this;exact bT (id:=0) this
theorem aQD{l:List Nat}(h0:0<l.length)(h63:l.length<=1000000):xC prog 167 6 [sl 5 l.length] (xY l) [] (.tuple #[]) (xY l.reverse):=
 oq mixed func167 100 (N:=28) k_ (λB=>[.eX 6 l.length 1 (l.length-1) o_ o_,.code 0 _ _ _ _ _ (aQC rfl h0 o_)]) (λ_=>k_)
end
end
end Go.Proofs.YtjjefbkbljlgdaaGreatDoor
