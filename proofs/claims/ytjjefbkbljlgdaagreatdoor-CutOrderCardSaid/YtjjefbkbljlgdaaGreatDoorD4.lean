/- Two cuts in either order: the proof of CutOrderCardSaid (the law's function answers true at every set it can be given; theorem cutOrder_card, last part), part 4 of 7; no condition. -/
import Derived.Test.YtjjefbkbljlgdaaGreatDoorD3
namespace Go.Proofs.YtjjefbkbljlgdaaGreatDoor
open Go Go.RowKit Tryz
theorem aVY{a b n:Nat}(ha:a<bz^n)(hb:b<bz^n):a+b<bz^(n+1):=by have h1:bz^n*2<=bz^n*bz:=jr _ d_;rw[dw];omega
theorem Li{n i s:Nat}(hi:i<n){d:Nat}(hd:d=s/bz^i%bz):eU prog 3 (ai (eh bz n i s)) i (vI d)=some (ai (eh bz n (i+1) s)):=by rw[v8 (by rw[MS];exact hi),MT hi hd]
theorem Ve(n s:Nat):List.replicate n (vI 0)=ai (eh bz n 0 s):=by rw[R7,K8]
section
variable{Bs:aa}{ka kb n m a b:Nat}
def F1(ka kb n m a b i:Nat):aV:=[(7,vI i),(0,sl ka n),(1,sl kb m),(5,sl 2 (n+1)),(6,vI (eH bz a b i))]
def BM(ka kb n m a b i:Nat):aH:=[(ka,.view (ai (ae bz n a))),(kb,.view (ai (ae bz m b))),(2,.row (ai (eh bz (n+1) i (a+b))) 3 1)]
theorem aNi{i:Nat}(hk:(ka=0/\kb=1)\/(ka=1/\kb=0))(hi:i<n)(hb:b<bz^m)(h63:n<35184372088832):
  ah prog Bs 55 (aE (af f94 0)) (F1 ka kb n m a b i) (BM ka kb n m a b i) 3 ⟨.normal,F1 ka kb n m a b (i+1),BM ka kb n m a b (i+1),3⟩:=by
 have hx:=gP (B:=bz) d_ a i;have hy:=gP (B:=bz) d_ b i;have hc:=AO (B:=bz) d_ a b i;have hs:=GS (B:=bz) d_ a b i;have dj:=EI (B:=bz) d_ a b i;have bJ:=Li (n:=n+1) (i:=i) (s:=a+b) o_ rfl;have kP:du prog 3 (ai (ae bz n a)) i=some (vI (a/bz^i%bz)):=dJ (eg hi);have kZ:i<m->du prog 3 (ai (ae bz m b)) i=some (vI (b/bz^i%bz)):=λjC=>dJ (eg jC);have kF:¬i<m->b/bz^i%bz=0:=λjC=>qC hb o_ d_;unfold F1 BM;generalize ai (eh bz (n+1) (i+1) (a+b))=r1 at *;generalize ai (eh bz (n+1) i (a+b))=r0 at *;generalize ai (ae bz n a)=ra at *;generalize ai (ae bz m b)=rb at *;generalize eH bz a b (i+1)=c' at *;generalize eH bz a b i=c at *;generalize (a+b)/bz^i%bz=z at *;generalize a/bz^i%bz=x at *;generalize b/bz^i%bz=y at *;have e0:x+y+c=c+x+y:=by omega
 have e1:z=(c+x+y)%bz:=by rw[<-hs,e0]
 have e2:c'=(c+x+y)/bz:=by rw[<-dj,e0]
 have jK:bz=16777216:=rfl;by_cases jC:i<m
 ·have kZ:=kZ jC
  let S:Nat->Nat->bE prog Bs 55:=λka kb=>[.lt 22 i n true (by simp[hi]),.ix f94 28 ka n i hi k_,.ld f94 29 3 ka i (.view ra) (vI x) rfl kP k_,.sum 30 c x (c+x) rfl o_,.lt 34 i m true (by simp[jC]),.ix f94 38 kb m i jC k_,.ld f94 39 3 kb i (.view rb) (vI y) rfl kZ k_,.sum 40 (c+x) y (c+x+y) rfl o_,.FY 44 (c+x+y) bz z e1,.ix f94 45 2 (n+1) i o_ k_,.st f94 100045 3 2 i (.row r0 3 1) (vI z) (.row r1 3 1) rfl bJ rfl k_,.FZ 47 (c+x+y) bz c' e2 o_,.sum 24 i 1 (i+1) rfl o_]
  rcases hk with ⟨rfl,rfl⟩|⟨rfl,rfl⟩
  ·exact aA (S 0 1)
  ·exact aA (S 1 0)
 ·have wT:=kF jC;rw[wT,jn]at e1 e2
  let S:Nat->Nat->bE prog Bs 55:=λka kb=>[.lt 22 i n true (by simp[hi]),.ix f94 28 ka n i hi k_,.ld f94 29 3 ka i (.view ra) (vI x) rfl kP k_,.sum 30 c x (c+x) rfl o_,.lt 34 i m false (by simp[jC]),.FY 44 (c+x) bz z e1,.ix f94 45 2 (n+1) i o_ k_,.st f94 100045 3 2 i (.row r0 3 1) (vI z) (.row r1 3 1) rfl bJ rfl k_,.FZ 47 (c+x) bz c' e2 o_,.sum 24 i 1 (i+1) rfl o_]
  rcases hk with ⟨rfl,rfl⟩|⟨rfl,rfl⟩
  ·exact aA (S 0 1)
  ·exact aA (S 1 0)
theorem aNj(hk:(ka=0/\kb=1)\/(ka=1/\kb=0))(hb:b<bz^m)(h63:n<35184372088832):
  ah prog Bs 55 (.block 0 (af f94 0)) (F1 ka kb n m a b 0) (BM ka kb n m a b 0) 3 ⟨.normal,F1 ka kb n m a b n,BM ka kb n m a b n,3⟩:=
 bO (ch (b:=aE (af f94 0)) (r:=⟨.exit 0,F1 ka kb n m a b n,BM ka kb n m a b n,3⟩) n (F1 ka kb n m a b) (BM ka kb n m a b) (λi k _=>jP (l:=BM ka kb n m a b i) (m:=BM ka kb n m a b 0) rfl k) (λi hi=>aNi hk hi hb h63)
  (by rcases hk with ⟨rfl,rfl⟩|⟨rfl,rfl⟩<;>exact aA [.lt 22 n n false s_]) n_)
noncomputable def aCQ(hk:(ka=0/\kb=1)\/(ka=1/\kb=0))(hb:b<bz^m)(h63:n<35184372088832)(hs:a+b<bz^(n+1))
  (bJ:eU prog 3 (ai (eh bz (n+1) n (a+b))) n (vI (eH bz a b n))=some (ai (ae bz (n+1) (a+b)))):bE prog Bs 55:=
 [.sum 17 n 1 (n+1) rfl o_,.pS f94 18 2 (n+1) 3 8 (vI 0) (ai (eh bz (n+1) 0 (a+b))) (Ve _ _) rfl rfl o_ (by simp[maxLen];omega) k_,.rw 6 (.int .i64 0) (vI (eH bz a b 0)) (by rw[MV];rfl),.code 0 _ _ _ _ _ (aNj (ka:=ka) (kb:=kb) (a:=a) hk hb o_),.ix f94 52 2 (n+1) n o_ k_,.st f94 100052 3 2 n (.row (ai (eh bz (n+1) n (a+b))) 3 1) (vI (eH bz a b n)) (.row (ai (ae bz (n+1) (a+b))) 3 1) rfl bJ rfl k_,.Dx f94 54 2 (n+1) (a+b) (.row (ai (ae bz (n+1) (a+b))) 3 1) rfl rfl hs o_ k_]
end
theorem aV8{a b n:Nat}(ha:a<bz^n)(hb:b<bz^n):eU prog 3 (ai (eh bz (n+1) n (a+b))) n (vI (eH bz a b n))=some (ai (ae bz (n+1) (a+b))):=by have h1:=AO (B:=bz) d_ a b n;have h2:=R8 ha hb;rw[Li (A5 n) (by rw[<-h2];exact(dF (eW h1 d_)).symm),GQ]
theorem aCR{a b:Nat}(h1:nd bz a<35184372088832)(h2:nd bz b<35184372088832):lL prog 94 [ju a,ju b] 3 1 (nd bz (a+b)) (cJ (a+b)):=by
 have ha:=dO (B:=bz) d_ a;have hb:=dO (B:=bz) d_ b;have iW:=sB a;have jz:=sB b;have ay:([ju a,ju b].all aP.ok)=true:=by simp[Im]
 unfold ju cJ at ay ⊢;change lL _ _ _ _ _ _ (cJ (a+b));generalize nd bz a=n at *;generalize nd bz b=m at *;by_cases lv:n<m
 ·have hJ:=cx ha (cY (n:=bz) d_ (show n<=m by omega));have hs:=aVY hb hJ;rw[mF a b]
  exact Lg (k:=2) mixed func94 ay 100 (N:=55) k_ (λw=>(aX.lt 12 n m true (by simp[lv]):aX prog (aa.at w) 55)::aCQ (ka:=1) (kb:=0) (a:=b) (b:=a) (.inr ⟨rfl,rfl⟩) ha h2 hs (aV8 hb hJ))
   (λw=>k_) (gV _) (F0 hs) (BL hs)
 ·have gw:=cx hb (cY (n:=bz) d_ (show m<=n by omega));have hs:=aVY ha gw
  exact Lg (k:=2) mixed func94 ay 100 (N:=55) k_ (λw=>(aX.lt 12 n m false (by simp[lv]):aX prog (aa.at w) 55)::aCQ (ka:=0) (kb:=1) (a:=a) (b:=b) (.inl ⟨rfl,rfl⟩) hb h1 hs (aV8 ha gw))
   (λw=>k_) (gV _) (F0 hs) (BL hs)
section
variable{B:Nat}
def qi(B q V c i:Nat):Nat:=(q*(V%B^i)+c)/B^i
theorem aNk(q V c:Nat):qi B q V c 0=c:=by simp[qi,tf]
theorem aCS(hB:0<B)(q V c i:Nat):qi B q V c i+q*(V/B^i%B)=(q*(V%B^(i+1))+c)/B^i:=by unfold qi;rw[pg,oJ,<-fG,Nat.add_right_comm,ph _ _ (cG hB)]
theorem aNl(hB:0<B)(q V c i:Nat):(qi B q V c i+q*(V/B^i%B))/B=qi B q V c (i+1):=by rw[aCS hB,kB,<-dw];rfl
theorem aNm(hB:0<B)(q V c i:Nat):(qi B q V c i+q*(V/B^i%B))%B=(q*V+c)/B^i%B:=by
 rw[aCS hB];have h1:=je V (B^(i+1));have h2:q*V+c=(q*(V%B^(i+1))+c)+q*(V/B^(i+1))*B*B^i:=by
  have e:q*(V/B^(i+1))*B*B^i=q*(B^(i+1)*(V/B^(i+1))):=by rw[dw];simp only[cP,mG,fG]
  rw[e];have h3:q*V=q*(B^(i+1)*(V/B^(i+1)))+q*(V%B^(i+1)):=by rw[<-oJ,h1]
  omega
 conv=>rhs;rw[h2]
 rw[ph _ _ (cG hB),CK]
theorem aCT(hB:0<B){q c:Nat}(hq:q<B)(hc:c<=q)(V i:Nat):qi B q V c i<=q:=by
 unfold qi;have hp:0<B^i:=cG hB;have h1:V%B^i<B^i:=cH _ hp;have h2:=jr q (show V%B^i+1<=B^i from h1);rw[oJ,fZ]at h2;have h3:q*(V%B^i)+c<(q+1)*B^i:=by rw[ft,pU];omega
 have:=(iy hp).2 h3;omega
theorem aNn{q c V n:Nat}(hV:V<B^n):qi B q V c n=(q*V+c)/B^n:=by unfold qi;rw[dF hV]
theorem aNo(hB:0<B){a b:Nat}(bZ:b<=a)(i:Nat):
  (a-b)/B^i%B=if a/B^i%B<b/B^i%B+kC B a b i then a/B^i%B+B-b/B^i%B-kC B a b i else a/B^i%B-b/B^i%B-kC B a b i:=by
 rw[<-Sb hB bZ i];have hx:=gP hB a i;have hy:=gP hB b i;have hc:=MW (B:=B) a b i;generalize a/B^i%B=x at *;generalize b/B^i%B=y at *;generalize kC B a b i=c at *;by_cases h:x<y+c
 ·rw[aw h,show x+2*B-y-c=(x+B-y-c)+B by omega,J0,dF o_]
 ·rw[ao h,show x+2*B-y-c=(x-y-c)+B+B by omega,J0,J0,dF o_]
def qW(B p x b i k:Nat):Nat:=(p%B^(i+k)+x*(b%B^k)*B^i)/B^(i+k)
theorem aNp{p x b i:Nat}(hB:0<B):qW B p x b i 0=0:=by unfold qW;rw[rN,tf,Nat.mul_zero,lB,jn,jn];exact l4 (cH _ (cG hB))
theorem aCU(hB:0<B)(p x b i k:Nat):qW B p x b i k+(p/B^(i+k)%B+x*(b/B^k%B))=(p%B^(i+k+1)+x*(b%B^(k+1))*B^i)/B^(i+k):=by
 unfold qW;rw[<-ph _ _ (cG hB),pg p,pg b]
 congr 1
 rw[oJ,ft,ft,ep];have:x*(b/B^k%B*B^k)*B^i=x*(b/B^k%B)*(B^i*B^k):=by simp only[cP,mG]
 omega
theorem aNq(hB:0<B)(p x b i k:Nat):(qW B p x b i k+(p/B^(i+k)%B+x*(b/B^k%B)))/B=qW B p x b i (k+1):=by rw[aCU hB,kB,<-dw];rfl
theorem aNr(hB:0<B)(p x b i k:Nat):(qW B p x b i k+(p/B^(i+k)%B+x*(b/B^k%B)))%B=(p+x*b*B^i)/B^(i+k)%B:=by
 rw[aCU hB];have h1:=je p (B^(i+k+1));have h2:=je b (B^(k+1));have h3:p+x*b*B^i=(p%B^(i+k+1)+x*(b%B^(k+1))*B^i)+(p/B^(i+k+1)+x*(b/B^(k+1)))*B*B^(i+k):=by
  have e1:(p/B^(i+k+1)+x*(b/B^(k+1)))*B*B^(i+k)=B^(i+k+1)*(p/B^(i+k+1))+x*(B^(k+1)*(b/B^(k+1)))*B^i:=by
   rw[ft,ft]
   congr 1
   ·rw[dw];simp only[cP,mG,fG]
   ·rw[dw,ep];simp only[cP,mG,fG]
  have e2:x*b*B^i=x*(B^(k+1)*(b/B^(k+1)))*B^i+x*(b%B^(k+1))*B^i:=by rw[<-ft,<-oJ,h2]
  rw[e1];omega
 conv=>rhs;rw[h3]
 rw[ph _ _ (cG hB),CK]
theorem aCV(hB:0<B){x:Nat}(hx:x<B)(p b i k:Nat):qW B p x b i k<B:=by
 unfold qW;have hp:0<B^(i+k):=cG hB;rw[iy hp];have h1:p%B^(i+k)<B^(i+k):=cH _ hp;have h2:b%B^k<B^k:=cH _ (cG hB);have h3:x*(b%B^k)*B^i<=x*B^(i+k):=by rw[fG,ep];refine jr _ ?_;rw[cP];exact jr _ (iM h2)
 have h4:=e8 (B^(i+k)) (show x+1<=B from hx);rw[ft,pU]at h4;omega
theorem aNs{p x b i m:Nat}(hp:p<B^(i+m))(hb:b<B^m):qW B p x b i m=(p+x*b*B^i)/B^(i+m):=by unfold qW;rw[dF hp,dF hb]
end
section
variable{Bs:aa}{n m a b:Nat}
def F2(n m a b i:Nat):aV:=[(7,vI i),(0,sl 0 n),(1,sl 1 m),(5,sl 2 n),(6,vI (kC bz a b i))]
def zG(n m a b i:Nat):aH:=[(0,.view (ai (ae bz n a))),(1,.view (ai (ae bz m b))),(2,.row (ai (eh bz n i (a-b))) 3 1)]
theorem aCW{x y:Int}(h:-4611686018427387904<=x)(h2:x<=4611686018427387903)(h3:-4611686018427387904<=y)(h4:y<=4611686018427387904):IntKind.i64.wrap (x-y)=x-y:=by rw[c8];omega
theorem aNt{x y:Int}(h:-4611686018427387904<=x)(h2:x<=4611686018427387903)(h3:-4611686018427387904<=y)(h4:y<=4611686018427387904):IntKind.i64.wrap (x+y)=x+y:=by rw[c8];omega
theorem aNu{i:Nat}(bZ:b<=a)(hi:i<n)(hb:b<bz^m)(h63:n<35184372088832):
  ah prog Bs 44 (aE (af f97 0)) (F2 n m a b i) (zG n m a b i) 3 ⟨.normal,F2 n m a b (i+1),zG n m a b (i+1),3⟩:=by
 have hx:=gP (B:=bz) d_ a i;have hy:=gP (B:=bz) d_ b i;have hc:=MW (B:=bz) a b i;have hs:=aNo (B:=bz) d_ bZ i;have dj:=Sa (B:=bz) d_ a b i;have bJ:=Li (n:=n) (i:=i) (s:=a-b) hi rfl;have kP:du prog 3 (ai (ae bz n a)) i=some (vI (a/bz^i%bz)):=dJ (eg hi);have kZ:i<m->du prog 3 (ai (ae bz m b)) i=some (vI (b/bz^i%bz)):=λjC=>dJ (eg jC);have kF:¬i<m->b/bz^i%bz=0:=λjC=>qC hb o_ d_;have jK:bz=16777216:=rfl;unfold F2 zG;generalize ai (eh bz n (i+1) (a-b))=r1 at *;generalize ai (eh bz n i (a-b))=r0 at *;generalize ai (ae bz n a)=ra at *;generalize ai (ae bz m b)=rb at *;generalize kC bz a b (i+1)=c' at *;generalize kC bz a b i=c at *;generalize (a-b)/bz^i%bz=z at *;generalize a/bz^i%bz=x at *;generalize b/bz^i%bz=y at *;have w1:IntKind.i64.wrap ((x:Int)-(c:Int))=(x:Int)-(c:Int):=aCW o_ o_ o_ o_;have w2:IntKind.i64.wrap (((x:Int)-(c:Int))-(y:Int))=(x:Int)-(c:Int)-(y:Int):=aCW o_ o_ o_ o_;have tail:∀ d:Int,d=(x:Int)-c-y->(∃ t,decide (d<0)=t/\(t=true->IntKind.i64.wrap (d+16777216)=(z:Int)/\c'=1)/\(t=false->d=(z:Int)/\c'=0)):=by
  intro d hd;by_cases h:x<y+c
  ·rw[aw h]at hs dj;refine⟨true,aB o_,λ_=>⟨?_,dj.symm⟩,λe=>by cases e⟩;rw[aNt o_ o_ o_ o_];omega
  ·rw[ao h]at hs dj;exact⟨false,aJ o_,n_,λ_=>⟨by omega,dj.symm⟩⟩
 by_cases jC:i<m
 ·have kZ:=kZ jC;obtain⟨t,ht,h1,h2⟩:=tail _ rfl;cases t with
  |true=>
   obtain⟨q1,q2⟩:=h1 rfl;subst q2;exact aA [.lt 15 i n true (by simp[hi]),.ix f97 20 0 n i hi k_,.ld f97 21 3 0 i (.view ra) (vI x) rfl kP k_,.wr 23 .i64 ((x:Int)-(c:Int)) _ w1,.lt 27 i m true (by simp[jC]),.ix f97 31 1 m i jC k_,.ld f97 32 3 1 i (.view rb) (vI y) rfl kZ k_,.wr 33 .i64 ((x:Int)-(c:Int)-(y:Int)) _ w2,.rw 35 (.bool (decide ((x:Int)-(c:Int)-(y:Int)<0))) (.bool true) (by rw[ht]),.wr 37 .i64 _ (z:Int) q1,.ix f97 41 2 n i hi k_,.st f97 100041 3 2 i (.row r0 3 1) (vI z) (.row r1 3 1) rfl bJ rfl k_,.sum 17 i 1 (i+1) rfl o_]
  |false=>
   obtain⟨q1,q2⟩:=h2 rfl;subst q2;exact aA [.lt 15 i n true (by simp[hi]),.ix f97 20 0 n i hi k_,.ld f97 21 3 0 i (.view ra) (vI x) rfl kP k_,.wr 23 .i64 ((x:Int)-(c:Int)) _ w1,.lt 27 i m true (by simp[jC]),.ix f97 31 1 m i jC k_,.ld f97 32 3 1 i (.view rb) (vI y) rfl kZ k_,.wr 33 .i64 ((x:Int)-(c:Int)-(y:Int)) (z:Int) (w2.trans q1),.rw 35 (.bool (decide ((z:Int)<0))) (.bool false) (by rw[<-q1,ht]),.ix f97 41 2 n i hi k_,.st f97 100041 3 2 i (.row r0 3 1) (vI z) (.row r1 3 1) rfl bJ rfl k_,.sum 17 i 1 (i+1) rfl o_]
 ·have wT:=kF jC;subst wT;obtain⟨t,ht,h1,h2⟩:=tail ((x:Int)-c) o_;cases t with
  |true=>
   obtain⟨q1,q2⟩:=h1 rfl;subst q2;exact aA [.lt 15 i n true (by simp[hi]),.ix f97 20 0 n i hi k_,.ld f97 21 3 0 i (.view ra) (vI x) rfl kP k_,.wr 23 .i64 ((x:Int)-(c:Int)) _ w1,.lt 27 i m false (by simp[jC]),.rw 35 (.bool (decide ((x:Int)-(c:Int)<0))) (.bool true) (by rw[ht]),.wr 37 .i64 _ (z:Int) q1,.ix f97 41 2 n i hi k_,.st f97 100041 3 2 i (.row r0 3 1) (vI z) (.row r1 3 1) rfl bJ rfl k_,.sum 17 i 1 (i+1) rfl o_]
  |false=>
   obtain⟨q1,q2⟩:=h2 rfl;subst q2;exact aA [.lt 15 i n true (by simp[hi]),.ix f97 20 0 n i hi k_,.ld f97 21 3 0 i (.view ra) (vI x) rfl kP k_,.wr 23 .i64 ((x:Int)-(c:Int)) (z:Int) (w1.trans q1),.lt 27 i m false (by simp[jC]),.rw 35 (.bool (decide ((z:Int)<0))) (.bool false) (by rw[<-q1,ht]),.ix f97 41 2 n i hi k_,.st f97 100041 3 2 i (.row r0 3 1) (vI z) (.row r1 3 1) rfl bJ rfl k_,.sum 17 i 1 (i+1) rfl o_]
theorem aNv(bZ:b<=a)(hb:b<bz^m)(h63:n<35184372088832):
  ah prog Bs 44 (.block 0 (af f97 0)) (F2 n m a b 0) (zG n m a b 0) 3 ⟨.normal,F2 n m a b n,zG n m a b n,3⟩:=
 bO (ch (b:=aE (af f97 0)) (r:=⟨.exit 0,F2 n m a b n,zG n m a b n,3⟩) n (F2 n m a b) (zG n m a b) (λi k _=>jP (l:=zG n m a b i) (m:=zG n m a b 0) rfl k) (λi hi=>aNu bZ hi hb h63)
  (aA [.lt 15 n n false s_]) n_)
end
theorem aNw{a b:Nat}(bZ:b<=a)(h1:nd bz a<35184372088832):lL prog 97 [ju a,ju b] 3 1 (nd bz (a-b)) (cJ (a-b)):=by
 have ha:=dO (B:=bz) d_ a;have hb:=dO (B:=bz) d_ b;have ay:([ju a,ju b].all aP.ok)=true:=by simp[Im]
 unfold ju cJ at ay ⊢;change lL _ _ _ _ _ _ (cJ (a-b));generalize nd bz a=n at *;generalize nd bz b=m at *;have hs:a-b<bz^n:=eW (Bf _ _) ha;have lo:=λBs=>aNv (Bs:=Bs) (n:=n) (m:=m) bZ hb h1;unfold zG at lo;rw[GQ]at lo;exact Lg (k:=2) mixed func97 ay 100 (N:=44) k_ (λw=>[.pS f97 11 2 n 3 8 (vI 0) (ai (eh bz n 0 (a-b))) (Ve _ _) rfl rfl o_ (by simp[maxLen];omega) k_,.rw 6 (.int .i64 0) (vI (kC bz a b 0)) (by rw[R9];rfl),.code 0 _ _ _ _ _ (lo _),.Dx f97 43 2 n (a-b) (.row (ai (ae bz n (a-b))) 3 1) rfl rfl hs o_ k_])
   (λw=>k_) (gV _) (F0 hs) (BL hs)
section
variable{Bs:aa}{n a c:Nat}
def F3(n a c i:Nat):aV:=[(7,vI i),(0,sl 0 n),(5,sl 1 (n+1)),(6,vI (qi bz 2 a c i))]
def BN(n a c i:Nat):aH:=[(0,.view (ai (ae bz n a))),(1,.row (ai (eh bz (n+1) i (2*a+c))) 3 1)]
theorem aNx{i:Nat}(hc:c<=2)(hi:i<n)(h63:n<35184372088832):
  ah prog Bs 40 (aE (af f98 0)) (F3 n a c i) (BN n a c i) 2 ⟨.normal,F3 n a c (i+1),BN n a c (i+1),2⟩:=by
 have hx:=gP (B:=bz) d_ a i;have gm:=aCT (B:=bz) d_ (q:=2) d_ hc a i;have hs:=aNm (B:=bz) d_ 2 a c i;have dj:=aNl (B:=bz) d_ 2 a c i;have bJ:=Li (n:=n+1) (i:=i) (s:=2*a+c) o_ rfl;have kP:du prog 3 (ai (ae bz n a)) i=some (vI (a/bz^i%bz)):=dJ (eg hi);have jK:bz=16777216:=rfl;unfold F3 BN;generalize ai (eh bz (n+1) (i+1) (2*a+c))=r1 at *;generalize ai (eh bz (n+1) i (2*a+c))=r0 at *;generalize ai (ae bz n a)=ra at *;generalize qi bz 2 a c (i+1)=c' at *;generalize qi bz 2 a c i=g at *;generalize (2*a+c)/bz^i%bz=z at *;generalize a/bz^i%bz=x at *;exact aA [.lt 16 i n true (by simp[hi]),.ix f98 22 0 n i hi k_,.ld f98 23 3 0 i (.view ra) (vI x) rfl kP k_,.sD 24 2 x (2*x) rfl o_,.sum 25 g (2*x) (g+2*x) rfl o_,.FY 29 (g+2*x) bz z hs.symm,.ix f98 30 1 (n+1) i o_ k_,.st f98 100030 3 1 i (.row r0 3 1) (vI z) (.row r1 3 1) rfl bJ rfl k_,.FZ 32 (g+2*x) bz c' dj.symm o_,.sum 18 i 1 (i+1) rfl o_]
theorem aNy(hc:c<=2)(h63:n<35184372088832):
  ah prog Bs 40 (.block 0 (af f98 0)) (F3 n a c 0) (BN n a c 0) 2 ⟨.normal,F3 n a c n,BN n a c n,2⟩:=
 bO (ch (b:=aE (af f98 0)) (r:=⟨.exit 0,F3 n a c n,BN n a c n,2⟩) n (F3 n a c) (BN n a c) (λi k _=>jP (l:=BN n a c i) (m:=BN n a c 0) rfl k) (λi hi=>aNx hc hi h63)
  (aA [.lt 16 n n false s_]) n_)
end
theorem aNz{a c:Nat}(hc:c<=1)(h1:nd bz a<35184372088832):lL prog 98 [ju a,.p (vI c)] 3 1 (nd bz (2*a+c)) (cJ (2*a+c)):=by
 have ha:=dO (B:=bz) d_ a;have ay:([ju a,aP.p (vI c)].all aP.ok)=true:=by simp[Im];rfl
 unfold ju cJ at ay ⊢;change lL _ _ _ _ _ _ (cJ (2*a+c));generalize nd bz a=n at *;have hs:2*a+c<bz^(n+1):=by have h1:bz^n*2<=bz^n*bz:=jr _ d_;rw[dw];omega
 have bJ:eU prog 3 (ai (eh bz (n+1) n (2*a+c))) n (vI (qi bz 2 a c n))=some (ai (ae bz (n+1) (2*a+c))):=by have h1:=aCT (B:=bz) d_ (q:=2) d_ (show c<=2 by omega) a n;have h2:=aNn (B:=bz) (q:=2) (c:=c) ha;have jK:bz=16777216:=rfl;rw[Li (A5 n) (by rw[<-h2];exact(dF o_).symm),GQ]
 exact Lg (k:=1) mixed func98 ay 100 (N:=40) k_ (λw=>[.sum 10 n 1 (n+1) rfl o_,.pS f98 11 1 (n+1) 3 8 (vI 0) (ai (eh bz (n+1) 0 (2*a+c))) (Ve _ _) rfl rfl o_ (by simp[maxLen];omega) k_,.rw 6 (vI c) (vI (qi bz 2 a c 0)) (by rw[aNk]),.code 0 _ _ _ _ _ (aNy (a:=a) (c:=c) o_ h1),.ix f98 37 1 (n+1) n o_ k_,.st f98 100037 3 1 n (.row (ai (eh bz (n+1) n (2*a+c))) 3 1) (vI (qi bz 2 a c n)) (.row (ai (ae bz (n+1) (2*a+c))) 3 1) rfl bJ rfl k_,.Dx f98 39 1 (n+1) (2*a+c) (.row (ai (ae bz (n+1) (2*a+c))) 3 1) rfl rfl hs o_ k_])
   (λw=>k_) (gV _) (F0 hs) (BL hs)
section
variable{Bs:aa}{n m a b:Nat}
def we(n m a b i k:Nat):aj:=ai (cX bz (n+m) (i+k) (part bz a b (i+1) 0) (part bz a b i 0))
def DA(n m a b i k:Nat):aV:=[(8,vI k),(7,vI (qW bz (part bz a b i 0) (a/bz^i%bz) b i k)),(6,vI i),(0,sl 0 n),(1,sl 1 m),(5,sl 2 (n+m))]
def zH(n m a b i k:Nat):aH:=[(0,.view (ai (ae bz n a))),(1,.view (ai (ae bz m b))),(2,.row (we n m a b i k) 3 1)]
theorem Vf(i:Nat):part bz a b (i+1) 0=part bz a b i 0+a/bz^i%bz*b*bz^i:=by
 rw[Cs,Cs,pg,ft]
 congr 1
 simp only[cP,mG]
theorem aCX{i:Nat}(hb:b<bz^m):part bz a b i 0<bz^(i+m):=by rw[Cs,ep];exact pT (cH _ (cG d_)) hb
theorem aNA{i k:Nat}(hi:i<n)(hk:k<m)(h63:n+m<35184372088832):
  ah prog Bs 63 (aE (af f132 2)) (DA n m a b i k) (zH n m a b i k) 3 ⟨.normal,DA n m a b i (k+1),zH n m a b i (k+1),3⟩:=by
 have hx:=gP (B:=bz) d_ a i;have hy:=gP (B:=bz) d_ b k;have hr:=gP (B:=bz) d_ (part bz a b i 0) (i+k);have gm:=aCV (B:=bz) d_ hx (part bz a b i 0) b i k;have hs:=aNr (B:=bz) d_ (part bz a b i 0) (a/bz^i%bz) b i k;rw[<-Vf]at hs;have dj:=aNq (B:=bz) d_ (part bz a b i 0) (a/bz^i%bz) b i k;have kP:du prog 3 (ai (ae bz n a)) i=some (vI (a/bz^i%bz)):=dJ (eg hi);have kZ:du prog 3 (ai (ae bz m b)) k=some (vI (b/bz^k%bz)):=dJ (eg hk);have hlr:du prog 3 (we n m a b i k) (i+k)=some (vI (part bz a b i 0/bz^(i+k)%bz)):=dJ (Cr o_ (bh _));have bJ:eU prog 3 (we n m a b i k) (i+k) (vI (part bz a b (i+1) 0/bz^(i+k)%bz))=some (we n m a b i (k+1)):=by unfold we;rw[v8 (by rw[wR];omega),yE o_ rfl];rfl
 have jK:bz=16777216:=rfl;unfold DA zH;generalize we n m a b i (k+1)=r1 at *;generalize we n m a b i k=r0 at *;generalize ai (ae bz n a)=ra at *;generalize ai (ae bz m b)=rb at *;generalize qW bz (part bz a b i 0) (a/bz^i%bz) b i (k+1)=c' at *;generalize qW bz (part bz a b i 0) (a/bz^i%bz) b i k=g at *;generalize part bz a b (i+1) 0/bz^(i+k)%bz=z at *;generalize part bz a b i 0/bz^(i+k)%bz=r at *;generalize a/bz^i%bz=x at *;generalize b/bz^k%bz=y at *;have kk:x*y<bz*bz:=pT hx hy;rw[jK]at kk;generalize hp:x*y=p at *;exact aA [.lt 24 k m true (by simp[hk]),.sum 31 i k (i+k) rfl o_,.ix f132 32 2 (n+m) (i+k) o_ k_,.ld f132 33 3 2 (i+k) (.row r0 3 1) (vI r) rfl hlr k_,.ix f132 36 0 n i hi k_,.ld f132 37 3 0 i (.view ra) (vI x) rfl kP k_,.ix f132 40 1 m k hk k_,.ld f132 41 3 1 k (.view rb) (vI y) rfl kZ k_,.sD 42 x y p hp.symm o_,.sum 43 r p (r+p) rfl o_,.sum 44 g (r+p) (g+(r+p)) rfl o_,.sum 48 i k (i+k) rfl o_,.FY 50 (g+(r+p)) bz z hs.symm,.ix f132 51 2 (n+m) (i+k) o_ k_,.st f132 100051 3 2 (i+k) (.row r0 3 1) (vI z) (.row r1 3 1) rfl bJ rfl k_,.FZ 53 (g+(r+p)) bz c' dj.symm o_,.sum 26 k 1 (k+1) rfl o_]
theorem aNB{i:Nat}(hi:i<n)(h63:n+m<35184372088832):
  ah prog Bs 63 (.block 2 (af f132 2)) (DA n m a b i 0) (zH n m a b i 0) 3 ⟨.normal,DA n m a b i m,zH n m a b i m,3⟩:=
 bO (id:=2) (ch (b:=aE (af f132 2)) (r:=⟨.exit 2,DA n m a b i m,zH n m a b i m,3⟩) m (DA n m a b i) (zH n m a b i) (λk j _=>jP (l:=zH n m a b i k) (m:=zH n m a b i 0) rfl j) (λk hk=>aNA hi hk h63)
  (aA [.lt 24 m m false s_]) n_)
def DB(n m a b i:Nat):aj:=ai (ae bz (n+m) (part bz a b i 0))
def F4(n m i:Nat):aV:=[(6,vI i),(0,sl 0 n),(1,sl 1 m),(5,sl 2 (n+m))]
def zJ(n m a b i:Nat):aH:=[(0,.view (ai (ae bz n a))),(1,.view (ai (ae bz m b))),(2,.row (DB n m a b i) 3 1)]
theorem aNC(i:Nat):we n m a b i 0=DB n m a b i:=by unfold we DB;rw[Vf,jn,Y0 d_]
theorem aND{i:Nat}(hi:i<n)(hb:b<bz^m)(h63:n+m<35184372088832):
  ah prog Bs 63 (aE (af f132 0)) (F4 n m i) (zJ n m a b i) 3 ⟨.normal,F4 n m (i+1),zJ n m a b (i+1),3⟩:=by
 have lo:=aNB (Bs:=Bs) (a:=a) (b:=b) hi h63;unfold DA zH at lo;rw[aNC,aNp d_]at lo;have hp:=aCX (a:=a) (i:=i) hb;have gZ:=aCX (a:=a) (i:=i+1) hb;have he:=aNs (x:=a/bz^i%bz) hp hb;rw[<-Vf]at he;have hc:=aCV (B:=bz) d_ (gP (B:=bz) d_ a i) (part bz a b i 0) b i m;have bJ:eU prog 3 (we n m a b i m) (i+m) (vI (qW bz (part bz a b i 0) (a/bz^i%bz) b i m))=some (DB n m a b (i+1)):=by
  unfold we DB;have e:i+1+m=i+m+1:=by omega
  rw[e]at gZ;rw[v8 (by rw[wR];omega),yE o_ (by rw[he];rw[he]at hc;exact(dF hc).symm),E1 d_ (cx hp (cY d_ (yq _))) gZ]
 unfold F4 zJ;generalize DB n m a b (i+1)=r1 at *;generalize DB n m a b i=r0 at *;generalize we n m a b i m=r2 at *;generalize qW bz (part bz a b i 0) (a/bz^i%bz) b i m=c at *;generalize ai (ae bz n a)=ra at *;generalize ai (ae bz m b)=rb at *;exact aA [.lt 18 i n true (by simp[hi]),.code 2 _ _ _ _ _ lo,.sum 58 i m (i+m) rfl o_,.ix f132 60 2 (n+m) (i+m) o_ k_,.st f132 100060 3 2 (i+m) (.row r2 3 1) (vI c) (.row r1 3 1) rfl bJ rfl k_,.sum 20 i 1 (i+1) rfl o_]
theorem aNE(hb:b<bz^m)(h63:n+m<35184372088832):
  ah prog Bs 63 (.block 0 (af f132 0)) (F4 n m 0) (zJ n m a b 0) 3 ⟨.normal,F4 n m n,zJ n m a b n,3⟩:=
 bO (ch (b:=aE (af f132 0)) (r:=⟨.exit 0,F4 n m n,zJ n m a b n,3⟩) n (F4 n m) (zJ n m a b) (λk j _=>jP (l:=zJ n m a b k) (m:=zJ n m a b 0) rfl j) (λk hk=>aND hk hb h63)
  (aA [.lt 18 n n false s_]) n_)
end
theorem Vg{a b:Nat}(h63:nd bz a+nd bz b<35184372088832):lL prog 132 [ju a,ju b] 3 1 (nd bz (a*b)) (cJ (a*b)):=by
 have ha:=dO (B:=bz) d_ a;have hb:=dO (B:=bz) d_ b;have ay:([ju a,ju b].all aP.ok)=true:=by simp[Im]
 unfold ju cJ at ay ⊢;change lL _ _ _ _ _ _ (cJ (a*b));generalize nd bz a=n at *;generalize nd bz b=m at *;have hs:a*b<bz^(n+m):=by rw[ep];exact pT ha hb
 have lo:=λBs=>aNE (Bs:=Bs) (n:=n) (a:=a) hb h63;unfold zJ DB at lo;rw[Cs,Cs,dF ha,rN,tf,lB]at lo;have hz:List.replicate (n+m) (vI 0)=ai (ae bz (n+m) 0):=by
  rw[K8]
  congr 1
  unfold ae;symm;rw[List.eq_replicate_iff];simp
 exact Lg (k:=2) mixed func132 ay 100 (N:=63) k_ (λw=>[.sum 13 n m (n+m) rfl o_,.pS f132 14 2 (n+m) 3 8 (vI 0) (ai (ae bz (n+m) 0)) hz rfl rfl o_ (by simp[maxLen];omega) k_,.code 0 _ _ _ _ _ (lo _),.Dx f132 62 2 (n+m) (a*b) (.row (ai (ae bz (n+m) (a*b))) 3 1) rfl rfl hs o_ k_])
   (λw=>k_) (gV _) (F0 hs) (BL hs)
theorem xG(cells:aj)(i:Nat){z:Int}(h:cells[i]?=some (.int .u8 z)):du prog 5 cells i=some (.int .u8 z):=by
 have e:du prog 5 cells i=cells[i+0]?:=by kernel_rfl
 rw[e,jn,h]
theorem aNF(cells:aj)(i:Nat)(z:Int)(h:i<cells.length):eU prog 5 cells i (.int .u8 z)=some (cells.set i (.int .u8 z)):=by
 have e:eU prog 5 cells i (.int .u8 z)=if(Nat.ble (i+1) cells.length&&true)then some (iT cells i [.int .u8 z])else none:=by kernel_rfl
 rw[e,Mw h];rfl
section
variable{Bs:aa}{n a:Nat}
def tJ(n a i:Nat):aj:=gG (List.replicate (3*n-i) 0++gA i a)
def F5(n i:Nat):aV:=[(4,vI i),(0,sl 0 n),(3,sl 1 (3*n))]
def zK(n a i:Nat):aH:=[(0,.view (ai (ae bz n a))),(1,.row (tJ n a i) 5 1)]
theorem aNG{i:Nat}(hi:i<3*n):(tJ n a i).set (3*n-1-i) (vb (a/256^i%256))=tJ n a (i+1):=by
 unfold tJ;rw[w9,show 3*n-i=(3*n-1-i)+1 by omega,show 3*n-(i+1)=3*n-1-i by omega,List.replicate_succ',Ey];generalize 3*n-1-i=k;unfold gG;rw[sW,sW,UO _ _ s_];simp only[ek,Ip,ux,sW,rI,SE,EW,jo,List.set_cons_zero]
 congr 2
 rw[Nk,dF (cH _ d_)];rfl
theorem aNH(i:Nat)(hi:i<=3*n):(tJ n a i).length=3*n:=by unfold tJ;rw[EY,iJ,Ip,JY];omega
theorem aNI{i:Nat}:a/bz^(i/3)%bz/2^(8*(i%3))%256=a/256^i%256:=by
 have e1:bz^(i/3)=256^(3*(i/3)):=by rw[show bz=256^3 from Io,<-rO]
 have e2:(2:Nat)^(8*(i%3))=256^(i%3):=by rw[rO]
 have e3:256^i=256^(3*(i/3))*256^(i%3):=by rw[<-ep];congr 1;omega
 rw[e1,e2,e3,<-kB];generalize a/256^(3*(i/3))=c;have e4:bz=256^(i%3)*(256*256^(2-i%3)):=by rw[show bz=256^3 from Io,<-Nat.pow_succ',<-ep];congr 1;omega
 rw[e4,AU,JP]
theorem aNJ{i:Nat}(hi:i<3*n)(h63:n<35184372088832):
  ah prog Bs 45 (aE (af f131 0)) (F5 n i) (zK n a i) 2 ⟨.normal,F5 n (i+1),zK n a (i+1),2⟩:=by
 have hx:=gP (B:=bz) d_ a (i/3);have hb:=aNI (a:=a) (i:=i);have kP:du prog 3 (ai (ae bz n a)) (i/3)=some (vI (a/bz^(i/3)%bz)):=dJ (eg o_);have bJ:eU prog 5 (tJ n a i) (3*n-1-i) (vb (a/256^i%256))=some (tJ n a (i+1)):=by unfold vb;rw[aNF _ _ _ (by rw[aNH _ o_];omega)];exact cI some (aNG hi)
 unfold F5 zK;generalize tJ n a (i+1)=r1 at *;generalize tJ n a i=r0 at *;generalize ai (ae bz n a)=ra at *;generalize a/256^i%256=z at *;generalize a/bz^(i/3)%bz=x at *;have uV:(x:Int).fdiv (2^(min (8*(i%3)) IntKind.i64.bits))=((x/2^(8*(i%3)):Nat):Int):=by rw[show min (8*(i%3)) IntKind.i64.bits=8*(i%3)from nV (show 8*(i%3)<=64 by omega),rM _ (Hc d_),tg,Hd];rfl
 generalize x/2^(8*(i%3))=y at *;exact aA [.lt 12 i (3*n) true (by simp[hi]),.eV 18 (3*n) 1 (3*n-1) o_ o_,.eV 20 (3*n-1) i (3*n-1-i) o_ o_,.FZ 23 i 3 (i/3) rfl o_,.ix f131 24 0 n (i/3) o_ k_,.ld f131 25 3 0 (i/3) (.view ra) (vI x) rfl kP k_,.FY 27 i 3 (i%3) rfl,.sD 28 8 (i%3) (8*(i%3)) rfl o_,.shr f131 29 .i64 (x:Int) (y:Int) (8*(i%3)) uV k_,.wr 30 .u8 (y:Int) (z:Int) (by rw[ZN];omega),.ix f131 31 1 (3*n) (3*n-1-i) o_ k_,.st f131 100031 5 1 (3*n-1-i) (.row r0 5 1) (vb z) (.row r1 5 1) rfl bJ rfl k_,.sum 14 i 1 (i+1) rfl o_]
theorem Vh(h63:n<35184372088832):ah prog Bs 45 (.block 0 (af f131 0)) (F5 n 0) (zK n a 0) 2 ⟨.normal,F5 n (3*n),zK n a (3*n),2⟩:=
 bO (id:=0) (ch (b:=aE (af f131 0)) (r:=⟨.exit 0,F5 n (3*n),zK n a (3*n),2⟩) (3*n) (F5 n) (zK n a) (λk j _=>jP (l:=zK n a k) (m:=zK n a 0) rfl j) (λk hk=>aNJ hk h63)
  (aA [.lt 12 (3*n) (3*n) false s_]) n_)
def xH(L i:Nat):aV:=[(3,.slice (some ⟨1,i*1,some 7⟩) (L-i) i)]
def xI(L a:Nat):aH:=[(1,.row (gG (gA L a)) 5 1)]
theorem Vi{L a:Nat}(h:a<256^L):gA L a=List.replicate (L-nd 256 a) 0++cd a:=by have hle:=jd (B:=256) d_ h;have:=ZE (n:=nd 256 a) (k:=L-nd 256 a) (dO (B:=256) d_ a);rw[show L-nd 256 a+nd 256 a=L by omega]at this;exact this
theorem aNK{L i:Nat}(h:a<256^L)(h0:a≠0)(hi:i<L-nd 256 a)(h63:L<9223372036854775807):
  ah prog Bs 45 (aE (af f131 2)) (xH L i) (xI L a) 2 ⟨.normal,xH L (i+1),xI L a,2⟩:=by
 have hp:=ur (B:=256) d_ h0;have iX:du prog 5 (gG (gA L a)) i=some (vb 0):=xG _ _ (by rw[Vi h,Np,GI (by rw[EY];simpa using hi)];simp[gG,hi])
 unfold xH xI;generalize gG (gA L a)=r0 at *;obtain⟨m,hm⟩:∃ m,L-i=m+1:=⟨L-i-1,by omega⟩;have dx:L-(i+1)=m:=by omega
 rw[hm,dx];have e1:i*1=i:=fZ i;exact aA [.gt 34 (m+1) 0 true s_,.pD f131 37 1 i (m+1) i 0 i 1 o_ (jn i) k_,.ld f131 38 5 1 (i*1) (.row r0 5 1) (vb 0) rfl (by rw[e1];exact iX) k_,.fh 39 0 0 true rfl,.next f131 42 1 i m 1 o_ k_]
theorem aNL{L i:Nat}(h:a<256^L)(h0:a≠0)(hi:i=L-nd 256 a)(h63:L<9223372036854775807):
  ah prog Bs 45 (aE (af f131 2)) (xH L i) (xI L a) 2 ⟨.exit 2,xH L i,xI L a,2⟩:=by
 have hp:=ur (B:=256) d_ h0;have hle:=jd (B:=256) d_ h;obtain⟨c,l,hc,pP⟩:=Nl h0;have iX:du prog 5 (gG (gA L a)) i=some (vb c.toNat):=xG _ _ (by rw[Vi h,Np,Ci (by rw[EY];simp;omega),EY,hc,hi];simp[gG])
 have aU:c.toNat≠0:=λe=>pP (Nd.1 e);unfold xH xI;generalize gG (gA L a)=r0 at *;obtain⟨m,hm⟩:∃ m,L-i=m+1:=⟨L-i-1,by omega⟩;rw[hm];have e1:i*1=i:=fZ i;generalize c.toNat=d at *;exact aA [.gt 34 (m+1) 0 true s_,.pD f131 37 1 i (m+1) i 0 i 1 o_ (jn i) k_,.ld f131 38 5 1 (i*1) (.row r0 5 1) (vb d) rfl (by rw[e1];exact iX) k_,.fh 39 d 0 false (aJ aU)]
theorem aNM{L:Nat}(h:a<256^L)(h0:a≠0)(h63:L<9223372036854775807):
  ah prog Bs 45 (.block 2 (af f131 2)) (xH L 0) (xI L a) 2 ⟨.normal,xH L (L-nd 256 a),xI L a,2⟩:=
 bO (id:=2) (ch (b:=aE (af f131 2)) (r:=⟨.exit 2,xH L (L-nd 256 a),xI L a,2⟩) (L-nd 256 a) (xH L) (λ_=>xI L a) (λ_ _ _=>Iff.rfl) (λk hk=>aNK h h0 hk h63)
  (aNL h h0 rfl h63) n_)
end
theorem aNN{n a:Nat}(ha:a<bz^n)(h0:a≠0)(h63:n<35184372088832):cD prog 131 [.r n (ai (ae bz n a))] (.string (BA (cd a))):=by
 have hL:a<256^(3*n):=by rw[rO];exact ha
 have zq:=λBs=>Vh (Bs:=Bs) (a:=a) h63;have vN:=λBs=>aNM (Bs:=Bs) hL h0 o_;have e0:List.replicate (3*n) (vb 0)=tJ n a 0:=by unfold tJ gG;simp[Nj,vb]
 have e1:tJ n a (3*n)=gG (gA (3*n) a):=by unfold tJ;rw[ux];rfl
 have hle:=jd (B:=256) d_ hL;have ht:((gG (gA (3*n) a)).drop ((3*n-nd 256 a)*1)).take (nd 256 a)=gG (cd a):=by rw[Vi hL,Np,fZ,Rk (by rw[EY];simp),kj (by rw[EY,ti];exact bh _)]
 unfold zK at zq;rw[e1]at zq;rw[<-e0]at zq;unfold xI at vN;have hl:3*n-(3*n-nd 256 a)=nd 256 a:=by omega
 unfold xH at vN;rw[hl]at vN;exact fJ mixed func131 (by simp[aP.ok,gV]) 100 (N:=45) k_ (λw=>[.sD 7 3 n (3*n) rfl o_,.pS f131 8 1 (3*n) 5 1 (vb 0) (List.replicate (3*n) (vb 0)) rfl rfl rfl o_ (by simp[maxLen];omega) k_,.code 0 _ _ _ _ _ (zq _),.code 2 _ _ _ _ _ (vN _),.aNh f131 44 1 ((3*n-nd 256 a)*1) (nd 256 a) (3*n-nd 256 a) (cd a) (.row (gG (gA (3*n) a)) 5 1) rfl ht (ti a) k_]) (λw=>k_) rfl
theorem aNO:cD prog 131 [.r 0 (ai (ae bz 0 0))] (.string (BA (cd 0))):=by have zq:=λBs=>Vh (Bs:=Bs) (a:=0) (n:=0) o_;rw[CJ];exact fJ mixed func131 (by simp[aP.ok,gV]) 100 (N:=45) k_ (λw=>[.sD 7 3 0 0 rfl o_,.pS f131 8 1 0 5 1 (vb 0) [] rfl rfl rfl o_ (by simp[maxLen]) k_,.code 0 _ _ _ _ _ (zq _),.gt 34 0 0 false rfl,.SD f131 44 1 0 [] (.row [] 5 1) rfl rfl rfl k_]) (λw=>k_) rfl
noncomputable def DC(Bs:aa)(i m:Nat)(h:0<m)(hl:du prog 5 (gG (List.replicate 9 0)) (i*1)=some (vb 0)):bE prog Bs 45:=[.gt 34 (m+1) 0 true s_,.pD f131 37 1 i (m+1) i 0 i 1 o_ (jn i) k_,.ld f131 38 5 1 (i*1) (.row (gG (List.replicate 9 0)) 5 1) (vb 0) rfl hl k_,.fh 39 0 0 true rfl,.next f131 42 1 i m 1 h k_]
theorem aNP:cD prog 131 [.r 3 (ai (ae bz 3 0))] (.string (BA (cd 0))):=by
 have zq:=λBs=>Vh (Bs:=Bs) (a:=0) (n:=3) o_;rw[CJ];exact fJ mixed func131 (by simp[aP.ok,gV]) 300 (N:=45) k_ (λw=>[.sD 7 3 3 9 rfl o_,.pS f131 8 1 9 5 1 (vb 0) (List.replicate 9 (vb 0)) rfl rfl rfl o_ (by simp[maxLen]) k_,.code 0 _ _ _ _ _ (zq _)]++(DC _ 0 8 o_ (xG _ _ rfl)++(DC _ 1 7 o_ (xG _ _ rfl)++(DC _ 2 6 o_ (xG _ _ rfl)++(DC _ 3 5 o_ (xG _ _ rfl)++(DC _ 4 4 o_ (xG _ _ rfl)++(DC _ 5 3 o_ (xG _ _ rfl)++(DC _ 6 2 o_ (xG _ _ rfl)++(DC _ 7 1 o_ (xG _ _ rfl)++
  [.gt 34 1 0 true rfl,.pD f131 37 1 8 1 8 0 8 1 o_ rfl k_,.ld f131 38 5 1 8 (.row (gG (List.replicate 9 0)) 5 1) (vb 0) rfl (xG _ _ rfl) k_,.fh 39 0 0 true rfl,.aNg f131 42 1 8 1 8 1 2 (.row (gG (List.replicate 9 0)) 5 1) rfl k_,.gt 34 0 0 false rfl,.SD f131 44 2 0 [] (.view []) rfl rfl rfl k_]))))))))) (λw=>k_) rfl
structure PG(n a:Nat):Prop where
 lt:a<bz^n
 z:a=0->n=0\/n=3
 h63:n<35184372088832
theorem aCY{n a:Nat}(h:PG n a):cD prog 131 [.r n (ai (ae bz n a))] (.string (BA (cd a))):=by
 by_cases h0:a=0
 ·subst h0;rcases h.z rfl with rfl|rfl
  ·exact aNO
  ·exact aNP
 ·exact aNN h.lt h0 h.h63
theorem aNQ{a:Nat}(h:nd bz a<35184372088832):PG (nd bz a) a:=⟨dO d_ a,λe=>.inl (by rw[e,pf]),h⟩
theorem aCZ{n a:Nat}(neg:Bool)(h:PG n a):cD prog 79 [.p (.bool neg),.r n (ai (ae bz n a))] (bK (sg neg a)):=by
 rw[<-uE];have e:(!((BA (cd a)).toList==(ByteArray.mk #[]).toList))=decide (a≠0):=by rw[qF];simp
 cases neg
 ·exact fJ mixed func79 (by simp[aP.ok,gV];rfl) 100 (N:=15) k_ (λw=>[.step 7 (av f79 7) _ _ _ _ (dE (aCY h) (.w (k:=0) (cc:=0) (x:=.view (ai (ae bz n a))) rfl (gV _) (λe=>by subst e;rfl) .nil) (x:=.func 131) k_ k_ rfl)]) (λw=>k_) rfl
 ·exact fJ mixed func79 (by simp[aP.ok,gV];rfl) 100 (N:=15) k_ (λw=>[.step 7 (av f79 7) _ _ _ _ (dE (aCY h) (.w (k:=0) (cc:=0) (x:=.view (ai (ae bz n a))) rfl (gV _) (λe=>by subst e;rfl) .nil) (x:=.func 131) k_ k_ rfl),.rw 11 (.bool (!((BA (cd a)).toList==(ByteArray.mk #[]).toList))) (.bool (decide (a≠0))) (by rw[e])]) (λw=>k_) rfl
theorem aVv(neg:Bool)(l:List UInt8):aD prog 55 [.agg #[.bool neg,.string (BA l)]] (.bool (xg neg l)):=by
 cases l with
 |nil=>exact aK func55 (λ_=>[.rw 5 (.bool ((BA []).toList==(ByteArray.mk #[]).toList)) (.bool true) (by rw[EO];rfl)])
 |cons c l=>
  have e:(((c.toNat:Nat):Int)!=0)=decide (c≠0):=by
   by_cases h:c=0
   ·subst h;rfl
   ·rw[aB h,uu];intro h2;exact h (Nd.1 (by simpa using h2))
  exact aK func55 (λ_=>[.rw 5 (.bool ((BA (c::l)).toList==(ByteArray.mk #[]).toList)) (.bool false) (by rw[EO];rfl),.sx f55 11 (BA (c::l)) 0 c (by rw[JQ];rfl) k_,.rw 12 (.bool (((c.toNat:Nat):Int)!=0)) (.bool (decide (c≠0))) (by rw[e])])
theorem aC0(neg:Bool){m:Nat}(h:neg=true->m≠0):xg neg (cd m)=true:=by
 by_cases hm:m=0
 ·subst hm;rw[CJ];cases neg
  ·rfl
  ·exact absurd rfl (h rfl)
 ·obtain⟨c,l,h1,h2⟩:=Nl hm;rw[h1];exact aB h2
theorem aV6(neg:Bool){m:Nat}(h:neg=true->m≠0):aD prog 55 [sv neg m] (.bool true):=by have:=aVv neg (cd m);rw[aC0 neg h]at this;exact this
theorem aVE(z:Int):aD prog 55 [bK z] (.bool true):=
 rU (C:=λ_ v=>aD prog 55 [v] (.bool true)) (λ_=>aV6 false n_) (λ_ hm=>aV6 true λ_=>hm) z
theorem aVy{z:Int}(h:z.natAbs<=9223372036854775808)(hz2:z<9223372036854775808):aD prog 44 [.int .i64 z] (bK z):=by
 obtain⟨m,hm⟩:∃ m,m=z.natAbs:=⟨_,rfl⟩;have aUW:m<18446744073709551616:=by omega
 have hb:PG 3 m:=⟨by
  have e:bz^3=4722366482869645213696:=by decide
  rw[e];omega,λ_=>.inr rfl,by omega⟩
 have jm:ai (ae bz 3 m)=[vI (m/bz^0%bz),vI (m/bz^1%bz),vI (m/bz^2%bz)]:=rfl;have hs:=λneg=>aCZ neg hb;obtain⟨x0,kK⟩:∃ x,x=m/bz^0%bz:=⟨_,rfl⟩;obtain⟨x1,uD⟩:∃ x,x=m/bz^1%bz:=⟨_,rfl⟩;obtain⟨x2,gN⟩:∃ x,x=m/bz^2%bz:=⟨_,rfl⟩;rw[<-kK,<-uD,<-gN]at jm;rw[jm]at hs;have kK:m%16777216=x0:=by rw[kK,rN,ER]
 have uD:m/16777216%16777216=x1:=by rw[uD,CF]
 have gN:m/16777216/16777216=x2:=by rw[gN,show bz^2=16777216*16777216 by decide,<-kB];exact(dF (by show _<16777216;omega)).symm
 have u0:Int.tmod (m:Int) 16777216=(x0:Int):=by rw[yP o_];omega
 obtain⟨q,hq⟩:∃ q,q=m/16777216:=⟨_,rfl⟩;rw[<-hq]at uD gN;have uq:IntKind.u64.wrap (Int.tdiv (m:Int) 16777216)=(q:Int):=by rw[yO o_,jR];omega
 have u1:Int.tmod (q:Int) 16777216=(x1:Int):=by rw[yP o_];omega
 have u2:IntKind.u64.wrap (Int.tdiv (q:Int) 16777216)=(x2:Int):=by rw[yO o_,jR];omega
 have w0:IntKind.i64.wrap (x0:Int)=(x0:Int):=by rw[c8];omega
 have w1:IntKind.i64.wrap (x1:Int)=(x1:Int):=by rw[c8];omega
 have w2:IntKind.i64.wrap (x2:Int)=(x2:Int):=by rw[c8];omega
 have cN:∀ v∈[vI x0,vI x1,vI x2],flat v=true:=λv hv=>by simp at hv;rcases hv with rfl|rfl|rfl<;>rfl
 let tl:∀(Bs:aa) (t:Bool),bE prog Bs 25:=λBs t=>[.rw 11 (.bool (decide (z<0))) (.bool (decide (z<0))) rfl,.rw 13 (.int .u64 (Int.tmod (m:Int) 16777216)) (.int .u64 (x0:Int)) (by rw[u0]),.wr 14 .i64 (x0:Int) (x0:Int) w0,.wr 16 .u64 (Int.tdiv (m:Int) 16777216) (q:Int) uq,.rw 17 (.int .u64 (Int.tmod (q:Int) 16777216)) (.int .u64 (x1:Int)) (by rw[u1]),.wr 18 .i64 (x1:Int) (x1:Int) w1,.wr 20 .u64 (Int.tdiv (m:Int) 16777216) (q:Int) uq,.wr 21 .u64 (Int.tdiv (q:Int) 16777216) (x2:Int) u2,.wr 22 .i64 (x2:Int) (x2:Int) w2,.bs f44 23 1 3 3 1 [0,1,2] (vI 0) [vI x0,vI x1,vI x2] #[vI x0,vI x1,vI x2] (.row [vI x0,vI x1,vI x2] 3 1) rfl cN cN k_ rfl o_ o_ k_,.step 24 (av f44 24) _ _ _ _ (dE (hs t) (.p rfl (.w (k:=1) (cc:=0) (x:=.row [vI x0,vI x1,vI x2] 3 1) rfl rfl n_ .nil)) (x:=.func 79) k_ k_ rfl)]
 by_cases hz:z<0
 ·have e2:sg true m=z:=by show -(m:Int)=z;omega
  rw[<-show bK (sg true m)=bK z by rw[e2]];exact aK func44 (λ_=>.wr 5 .u64 z (z+18446744073709551616) (by rw[jR];omega)::.rw 7 (.bool (decide (z<0))) (.bool true) (by rw[aB hz])::
   .wr 9 .u64 (0-(z+18446744073709551616)) (m:Int) (by rw[jR];omega)::.rw 11 (.bool (decide (z<0))) (.bool true) (by rw[aB hz])::(tl _ true).tail)
 ·have e2:sg false m=z:=by show(m:Int)=z;omega
  rw[<-show bK (sg false m)=bK z by rw[e2]];exact aK func44 (λ_=>.wr 5 .u64 z (m:Int) (by rw[jR];omega)::.rw 7 (.bool (decide (z<0))) (.bool false) (by rw[aJ hz])::
   .rw 11 (.bool (decide (z<0))) (.bool false) (by rw[aJ hz])::(tl _ false).tail)
theorem aVX(z:Int):aD prog 57 [bK z] (.int .i64 z.sign):=by
 refine rU (C:=λz v=>aD prog 57 [v] (.int .i64 z.sign)) (λm=>?_) (λm hm=>?_) z
 ·by_cases h:m=0
  ·subst h;exact aK func57 (λ_=>[(aV6 false (m:=0) n_).at 5,.rw 10 (.bool ((BA (cd 0)).toList==(ByteArray.mk #[]).toList)) (.bool true) (by rw[qF];rfl)])
  ·have e:((m:Nat):Int).sign=1:=Be o_;rw[e];exact aK func57 (λ_=>[(aV6 false (m:=m) n_).at 5,.rw 10 (.bool ((BA (cd m)).toList==(ByteArray.mk #[]).toList)) (.bool false) (by rw[qF,aJ h])])
 ·have e:(-(m:Int)).sign=-1:=E6 o_;rw[e];exact aK func57 (λ_=>[(aV6 true (m:=m) (λ_=>hm)).at 5,.rw 10 (.bool ((BA (cd m)).toList==(ByteArray.mk #[]).toList)) (.bool false) (by rw[qF,aJ hm])])
theorem aVA(z:Int):aD prog 129 [bK z] (bK (-z)):=by
 refine rU (C:=λz v=>aD prog 129 [v] (bK (-z))) (λm=>?_) (λm hm=>?_) z
 ·by_cases h:m=0
  ·subst h;have e:bK (-((0:Nat):Int))=.agg #[.bool false,.string ⟨#[]⟩]:=by show Value.agg #[.bool false,.string (BA (cd 0))]=_;rw[CJ];rfl
   rw[e];exact aK func129 (λ_=>[(aV6 false (m:=0) n_).at 4,.rw 9 (.bool ((BA (cd 0)).toList==(ByteArray.mk #[]).toList)) (.bool true) (by rw[qF];rfl)])
  ·have e:=uE true m;rw[<-show sg true m=-(m:Int)from rfl,<-e];unfold E2;rw[aB h];exact aK func129 (λ_=>[(aV6 false (m:=m) n_).at 4,.rw 9 (.bool ((BA (cd m)).toList==(ByteArray.mk #[]).toList)) (.bool false) (by rw[qF,aJ h])])
 ·have e:=uE false m;rw[J7,<-show sg false m=(m:Int)from rfl,<-e];exact aK func129 (λ_=>[(aV6 true (m:=m) (λ_=>hm)).at 4,.rw 9 (.bool ((BA (cd m)).toList==(ByteArray.mk #[]).toList)) (.bool false) (by rw[qF,aJ hm])])
theorem aNR(z:Int):aD prog 128 [bK z] (bK (z.natAbs:Int)):=by
 refine rU (C:=λz v=>aD prog 128 [v] (bK (z.natAbs:Int))) (λm=>?_) (λm hm=>?_) z
 ·exact aK func128 (λ_=>[(aV6 false (m:=m) n_).at 4])
 ·rw[J6];exact aK func128 (λ_=>[(aV6 true (m:=m) (λ_=>hm)).at 4])
section
variable{Bs:aa}{n a b:Nat}
def BO(n i:Nat):aV:=[(5,df i),(0,sl 0 n),(1,sl 1 n)]
def sE(n a b:Nat):aH:=[(0,.view (ai (ae bz n a))),(1,.view (ai (ae bz n b)))]
theorem tK{x y:Nat}{t:Bool}(h:decide (x≠y)=t):Value.bool ((x:Int)!=(y:Int))=.bool t:=by
 rw[<-h];congr 1
 by_cases e:x=y
 ·subst e;simp
 ·rw[aB e,uu];omega
noncomputable def Vj(n a b j:Nat)(hj:j<n)(t:Bool)(h:decide (a/bz^j%bz≠b/bz^j%bz)=t)(more:bE prog Bs 41):bE prog Bs 41:=
 .rw 19 (df (j+1)) (vI j) (dT j)::.ge 20 j 0 true s_::.rw 24 (df (j+1)) (vI j) (dT j)::.ix f96 25 0 n j hj k_::.ld f96 26 3 0 j (.view (ai (ae bz n a))) (vI (a/bz^j%bz)) rfl (dJ (eg hj)) k_::
  .rw 28 (df (j+1)) (vI j) (dT j)::.ix f96 29 1 n j hj k_::.ld f96 30 3 1 j (.view (ai (ae bz n b))) (vI (b/bz^j%bz)) rfl (dJ (eg hj)) k_::.rw 31 _ (.bool t) (tK h)::more
noncomputable def aC1(n a b j:Nat)(hj:j<n)(t:Bool)(h:decide (a/bz^j%bz<b/bz^j%bz)=t):bE prog Bs 41:=
 [.rw 33 (df (j+1)) (vI j) (dT j),.ix f96 34 0 n j hj k_,.ld f96 35 3 0 j (.view (ai (ae bz n a))) (vI (a/bz^j%bz)) rfl (dJ (eg hj)) k_,.rw 37 (df (j+1)) (vI j) (dT j),.ix f96 38 1 n j hj k_,.ld f96 39 3 1 j (.view (ai (ae bz n b))) (vI (b/bz^j%bz)) rfl (dJ (eg hj)) k_,.lt 40 (a/bz^j%bz) (b/bz^j%bz) t h]
theorem aNS{j:Nat}(hj:j<n)(he:a/bz^j%bz=b/bz^j%bz)(h63:n<35184372088832):
  ah prog Bs 41 (aE (af f96 0)) (BO n (j+1)) (sE n a b) 2 ⟨.normal,BO n j,sE n a b,2⟩:=
 aA (Vj n a b j hj false (by simp[he]) [.rw 21 (df (j+1)) (vI j) (dT j),.wr 22 .i64 ((j:Int)-1) ((j:Int)-1) (oL o_)])
theorem aNT{j:Nat}(hj:j<n)(al:a/bz^j%bz<b/bz^j%bz):
  ah prog Bs 41 (aE (af f96 0)) (BO n (j+1)) (sE n a b) 2 ⟨.ret,[(4,.int .i64 (-1))],sE n a b,2⟩:=
 aA (Vj n a b j hj true (aB o_) (aC1 n a b j hj true (aB al)))
theorem aNU{j:Nat}(hj:j<n)(al:b/bz^j%bz<a/bz^j%bz):
  ah prog Bs 41 (aE (af f96 0)) (BO n (j+1)) (sE n a b) 2 ⟨.ret,[(4,.int .i64 1)],sE n a b,2⟩:=
 aA (Vj n a b j hj true (aB o_) (aC1 n a b j hj false (aJ o_)))
theorem aNV:ah prog Bs 41 (aE (af f96 0)) (BO n 0) (sE n a b) 2 ⟨.exit 0,[],sE n a b,2⟩:=
 aA [.rw 20 (.bool (decide (((0:Nat):Int)-1>=0))) (.bool false) rfl]
theorem aNW(ha:a<bz^n)(hb:b<bz^n)(h63:n<35184372088832):
  ah prog Bs 41 (.block 0 (af f96 0)) (BO n n) (sE n a b) 2 (if a=b then⟨.normal,[],sE n a b,2⟩else⟨.ret,[(4,.int .i64 (gQ a b))],sE n a b,2⟩):=by
 obtain⟨e,h1,h2,h3⟩:=yD (λt=>¬(t<n/\a/bz^(n-1-t)%bz=b/bz^(n-1-t)%bz)) n o_;have wZ:=Y7 ha hb e h1 λs hs=>(EP.1 (h3 s hs)).2;have go:∀(r:lZ),r.ex≠.normal->ah prog Bs 41 (aE (af f96 0)) (BO n (n-e)) (sE n a b) 2 r->ah prog Bs 41 (.loop (aE (af f96 0))) (BO n n) (sE n a b) 2 r:=by
  intro r hr vx
  exact ch (P:=prog) (B:=Bs) (N:=41) (b:=aE (af f96 0)) (next:=2) (r:=r) e (λi=>BO n (n-i)) (λ_=>sE n a b) (λi k _=>Iff.rfl)
   (λi hi=>by
    have q:=EP.1 (h3 i hi);have e1:n-i=(n-(i+1))+1:=by omega
    have e2:n-1-i=n-(i+1):=by omega
    simp only[e1];exact aNS o_ (by rw[<-e2];exact q.2) h63) vx hr
 by_cases CD:e=n
 ·have bZ:a=b:=by rw[CD,ux,rN,ER,ER]at wZ;exact wZ
  rw[aw bZ];have:=go ⟨.exit 0,[],sE n a b,2⟩ n_ (by rw[CD,ux];exact aNV);exact bO (id:=0) this
 ·have hj:n-e=(n-1-e)+1:=by omega
  have aU:a/bz^(n-1-e)%bz≠b/bz^(n-1-e)%bz:=λh=>h2 ⟨by omega,h⟩;rw[hj]at wZ go;have bZ:a≠b:=λh=>aU (by rw[h]);rw[ao bZ];rcases Et aU with al|s7
  ·have hl:=M5 wZ al;have e1:gQ a b=-1:=by unfold gQ;rw[aw hl]
   rw[e1];exact bO (id:=0) (go _ n_ (aNT o_ al))
  ·have hl:=M5 wZ.symm s7;have e1:gQ a b=1:=by unfold gQ;rw[ao o_,aw hl]
   rw[e1];exact bO (id:=0) (go _ n_ (aNU o_ s7))
end
theorem Vk{a b:Nat}(h1:nd bz a<35184372088832)(h2:nd bz b<35184372088832):cD prog 96 [ju a,ju b] (.int .i64 (gQ a b)):=by
 have ha:=dO (B:=bz) d_ a;have hb:=dO (B:=bz) d_ b;have cW:nd bz a<nd bz b->a<b:=λh=>by
  rcases eC a b with h1|h1
  ·exact h1
  ·have:=iL (B:=bz) d_ h1;omega
 have dx:nd bz b<nd bz a->b<a:=λh=>by
  rcases eC b a with h1|h1
  ·exact h1
  ·have:=iL (B:=bz) d_ h1;omega
 have ay:([ju a,ju b].all aP.ok)=true:=by simp[Im]
 unfold ju cJ at ay ⊢;generalize nd bz a=n at *;generalize nd bz b=m at *;by_cases lv:n=m
 ·subst lv;have lo:=λBs=>aNW (Bs:=Bs) ha hb h1;by_cases bZ:a=b
  ·simp only[aw bZ]at lo;have e1:gQ a b=0:=by unfold gQ;rw[ao o_,ao o_]
   rw[e1];exact fJ mixed func96 ay 100 (N:=41) k_ (λw=>[.rw 10 _ (.bool false) (tK (x:=n) (y:=n) s_),.wr 18 .i64 ((n:Int)-1) ((n:Int)-1) (oL o_),.code 0 _ _ _ _ _ (lo _)]) (λw=>k_) rfl
  ·simp only[ao bZ]at lo;exact fJ mixed func96 ay 100 (N:=41) k_ (λw=>[.rw 10 _ (.bool false) (tK (x:=n) (y:=n) s_),.wr 18 .i64 ((n:Int)-1) ((n:Int)-1) (oL o_),.code 0 _ _ _ _ _ (lo _)]) (λw=>k_) rfl
 ·rcases Et lv with al|s7
  ·have e1:gQ a b=-1:=by unfold gQ;rw[aw (cW al)]
   rw[e1];exact fJ mixed func96 ay 100 (N:=41) k_ (λw=>[.rw 10 _ (.bool true) (tK (x:=n) (y:=m) (aB lv)),.lt 15 n m true (aB al)]) (λw=>k_) rfl
  ·have e1:gQ a b=1:=by unfold gQ;rw[ao (by have:=dx s7;omega),aw (dx s7)]
   rw[e1];exact fJ mixed func96 ay 100 (N:=41) k_ (λw=>[.rw 10 _ (.bool true) (tK (x:=n) (y:=m) (aB lv)),.lt 15 n m false (aJ o_)]) (λw=>k_) rfl
section
variable{Bs:aa}{m:Nat}{neg:Bool}
def DD(m i:Nat):aV:=[(5,vI i),(1,ptr 0),(4,.int .u64 ((m/256^(nd 256 m-i):Nat):Int))]
def DE(neg:Bool)(m:Nat):aH:=[(0,.aI [.bool neg,.string (BA (cd m))] 28)]
theorem aNX{m i:Nat}(h:i<nd 256 m):∃ c,(BA (cd m))[nd 256 m-1-i]?=some c/\c.toNat=m/256^i%256:=by
 obtain⟨c,h1,h2⟩:=Sn (BA (cd m)) (i:=i) (by rw[oK,ti];exact h);rw[oK,ti]at h1;refine⟨c,h1,?_⟩;rw[h2]
 congr 2
 show fR (BA (cd m)).data.toList=m;exact EX m
theorem aNY{i:Nat}(hi:i<nd 256 m)(hm:nd 256 m<=7):
  ah prog Bs 52 (aE (af f138 0)) (DD m i) (DE neg m) 1 ⟨.normal,DD m (i+1),DE neg m,1⟩:=by
 have al:m<256^7:=cx (dO (B:=256) d_ m) (cY d_ hm);obtain⟨c,gm,dj⟩:=aNX (m:=m) (i:=nd 256 m-1-i) o_;have bA:(((BA (cd m)).size:Nat):Int)=(nd 256 m:Int):=by rw[oK,ti]
 unfold DD DE;generalize BA (cd m)=s at *;generalize nd 256 m=L at *;rw[show L-1-(L-1-i)=i by omega]at gm;obtain⟨j,hj⟩:∃ j,j=L-1-i:=⟨_,rfl⟩;have e1:L-i=j+1:=by omega
 have e2:L-(i+1)=j:=by omega
 rw[e1,e2];rw[<-hj]at dj;have hd:m/256^j=m/256^(j+1)*256+m/256^j%256:=wS m j;rw[<-dj]at hd;have hq:m/256^(j+1)<=m:=th _ _;have nq:m/256^(j+1)*256<=m:=by rw[dw,<-kB];exact dh (CP _ _) (th _ _)
 generalize m/256^(j+1)=x at *;generalize m/256^j=y at *;have hc3:=c.toNat_lt;have Vl:(256:Nat)^7=72057594037927936:=by decide
 rw[Vl]at al;have ws:IntKind.u64.wrap ((x:Int)*2^8)=((x*256:Nat):Int):=by rw[show((x:Int)*2^8)=((x*256:Nat):Int)by simp,jR];omega
 have wc:IntKind.u64.wrap (c.toNat:Int)=(c.toNat:Int):=by rw[jR];omega
 have wa:IntKind.u64.wrap (((x*256:Nat):Int)+(c.toNat:Int))=(y:Int):=by rw[jR];omega
 exact aA [.rw 18 (.int .i64 (s.size:Int)) (vI L) (by rw[bA];rfl),.lt 19 i L true (aB hi),.wr 23 .u64 ((x:Int)*2^8) _ ws,.sx f138 27 s i c gm k_,.wr 28 .u64 (c.toNat:Int) _ wc,.wr 29 .u64 _ _ wa,.sum 21 i 1 (i+1) rfl o_]
theorem aNZ(hm:nd 256 m<=7):ah prog Bs 52 (.block 0 (af f138 0)) (DD m 0) (DE neg m) 1 ⟨.normal,DD m (nd 256 m),DE neg m,1⟩:=
 bO (id:=0) (ch (b:=aE (af f138 0)) (r:=⟨.exit 0,DD m (nd 256 m),DE neg m,1⟩) (nd 256 m) (DD m) (λ_=>DE neg m) (λ_ _ _=>Iff.rfl) (λk hk=>aNY hk hm)
  (aA [.rw 18 (.int .i64 ((BA (cd m)).size:Int)) (vI (nd 256 m)) (by rw[oK,ti];rfl),.lt 19 (nd 256 m) (nd 256 m) false s_]) n_)
end
theorem aN0{m:Nat}{neg:Bool}(hv:neg=true->m≠0)(hm:nd 256 m<=7):aD prog 138 [sv neg m] (.tuple #[.int .i64 (sg neg m),.bool true]):=by
 have lo:=λBs=>aNZ (Bs:=Bs) (neg:=neg) hm;have al:m<256^7:=cx (dO (B:=256) d_ m) (cY d_ hm);have Vl:(256:Nat)^7=72057594037927936:=by decide
 rw[Vl]at al;have e0:m/256^(nd 256 m-0)=0:=l4 (dO (B:=256) d_ m);have e1:m/256^(nd 256 m-nd 256 m)=m:=by rw[ux,rN,ER]
 unfold DD at lo;simp only[e0,e1]at lo;have bA:(((BA (cd m)).size:Nat):Int)=(nd 256 m:Int):=by rw[oK,ti]
 have mT:=aV6 neg hv;unfold DE at lo;unfold sv pk at mT ⊢;generalize BA (cd m)=s at *;generalize nd 256 m=L at *;have hle:decide ((L:Int)>8)=false:=aJ o_;cases neg
 ·have w:IntKind.i64.wrap (m:Int)=(m:Int):=by rw[c8];omega
  exact aK func138 (λ_=>[mT.at 7,.rw 12 (.int .i64 (s.size:Int)) (vI L) (by rw[bA];rfl),.rw 13 (.bool (decide ((L:Int)>8))) (.bool false) (by rw[hle]),.code 0 _ _ _ _ _ (lo _),.rw 48 (.bool (decide ((m:Int)<9223372036854775808))) (.bool true) (by rw[aB o_]),.wr 51 .i64 (m:Int) (m:Int) w])
 ·have w0:IntKind.u64.wrap ((m:Int)-1)=(m:Int)-1:=by have:=hv rfl;rw[jR];omega
  have w1:IntKind.i64.wrap ((m:Int)-1)=(m:Int)-1:=by rw[c8];omega
  have w2:IntKind.i64.wrap (0-((m:Int)-1))=1-(m:Int):=by rw[c8];omega
  have w3:IntKind.i64.wrap (1-(m:Int)-1)=sg true m:=by rw[c8];show _=-(m:Int);omega
  exact aK func138 (λ_=>[mT.at 7,.rw 12 (.int .i64 (s.size:Int)) (vI L) (by rw[bA];rfl),.rw 13 (.bool (decide ((L:Int)>8))) (.bool false) (by rw[hle]),.code 0 _ _ _ _ _ (lo _),.rw 35 (.bool (decide ((m:Int)<=9223372036854775808))) (.bool true) (by rw[aB o_]),.wr 38 .u64 _ _ w0,.wr 39 .i64 _ _ w1,.wr 40 .i64 _ _ w2,.wr 41 .i64 _ _ w3])
theorem sF{m:Nat}{neg:Bool}(hv:neg=true->m≠0)(hm:nd 256 m<=7):aD prog 92 [sv neg m] (.tuple #[.int .i64 (sg neg m),.bool true]):=by
 have h:=aN0 hv hm;have bA:(((BA (cd m)).size:Nat):Int)=(nd 256 m:Int):=by rw[oK,ti]
 unfold sv pk at h ⊢;generalize BA (cd m)=s at *;generalize nd 256 m=L at *;exact aK func92 (λ_=>[.rw 8 (.int .i64 (s.size:Int)) (vI L) (by rw[bA];rfl),.rw 9 (.bool (decide ((L:Int)>7))) (.bool false) (by rw[aJ o_]),h.at 12])
theorem uW{m:Nat}{neg:Bool}(hm:¬nd 256 m<=7):aD prog 92 [sv neg m] (.tuple #[.int .i64 0,.bool false]):=by
 have bA:(((BA (cd m)).size:Nat):Int)=(nd 256 m:Int):=by rw[oK,ti]
 unfold sv pk;generalize BA (cd m)=s at *;generalize nd 256 m=L at *;exact aK func92 (λ_=>[.rw 8 (.int .i64 (s.size:Int)) (vI L) (by rw[bA];rfl),.rw 9 (.bool (decide ((L:Int)>7))) (.bool true) (by rw[aB o_])])
section
variable{Bs:aa}{N:Nat}
theorem aN1(m:Nat):(nd 256 m+2)/3=nd bz m:=by
 have e:bz=256^3:=by decide
 have h1:nd bz m<=(nd 256 m+2)/3:=jd d_ (by rw[e,<-rO];exact cx (dO (B:=256) d_ m) (cY d_ o_))
 have h2:nd 256 m<=3*nd bz m:=jd d_ (by have:=dO (B:=bz) d_ m;rw[e,<-rO]at this;rw[e];exact this)
 omega
theorem aC2{m:Nat}(h:nd 256 m<35184372088832):lL prog 93 [.p (pk m)] 3 1 (nd bz m) (cJ m):=by
 have hs:(BA (cd m)).size=nd 256 m:=by rw[oK,ti]
 have hv:km (BA (cd m))=m:=by show fR (BA (cd m)).data.toList=m;exact EX m
 have:=aNe (s:=BA (cd m)) (by rw[hs];exact h);rw[hs,hv,aN1]at this;exact this
theorem nK{x:Obj}{a k:Nat}(hr:x.reads=true)(hc:x.cells=cJ a){l:List aP}{vs:aj}{nd':List (Nat×Option Obj)}(h:fm Bs l vs nd'):fm Bs (ju a::l) (sl k (nd bz a)::vs) ((k,some x)::nd'):=by unfold ju;rw[<-hc];exact .w hr (by rw[hc];exact sB a) (λe=>by rw[hc];exact aMB e) h
def cr(a:Nat):Obj:=.row (cJ a) 3 1
def aX.eF(fn:Func)(key k m:Nat)(h:nd 256 m<35184372088832)(ho:dp (av fn key).op=some (.func 93)):aX prog Bs N:=
 .step key (av fn key) [.func (.func 93) #[] #[],pk m] [(k,none)] (sl k (nd bz m)) [(k,cr m)] (qL (aC2 h) (.p rfl .nil) ho k_ (sB m) k)
def aX.DF(fn:Func)(key k k1 k2 a b:Nat)(x1 x2:Obj)(tL:x1.reads=true)(gm:x1.cells=cJ a)(nB:x2.reads=true)(dj:x2.cells=cJ b)(h1:nd bz a<35184372088832)(h2:nd bz b<35184372088832)
  (ho:dp (av fn key).op=some (.func 94)):aX prog Bs N:=
 .step key (av fn key) [.func (.func 94) #[] #[],sl k1 (nd bz a),sl k2 (nd bz b)] [(k,none),(k1,some x1),(k2,some x2)] (sl k (nd bz (a+b))) [(k,cr (a+b))] (qL (aCR h1 h2) (nK tL gm (nK nB dj .nil)) ho k_ (sB _) k)
def aX.tO(fn:Func)(key k k1 k2 a b:Nat)(x1 x2:Obj)(tL:x1.reads=true)(gm:x1.cells=cJ a)(nB:x2.reads=true)(dj:x2.cells=cJ b)(bZ:b<=a)(h1:nd bz a<35184372088832)
  (ho:dp (av fn key).op=some (.func 97)):aX prog Bs N:=
 .step key (av fn key) [.func (.func 97) #[] #[],sl k1 (nd bz a),sl k2 (nd bz b)] [(k,none),(k1,some x1),(k2,some x2)] (sl k (nd bz (a-b))) [(k,cr (a-b))] (qL (aNw bZ h1) (nK tL gm (nK nB dj .nil)) ho k_ (sB _) k)
def aX.PH(fn:Func)(key k k1 k2 a b:Nat)(x1 x2:Obj)(tL:x1.reads=true)(gm:x1.cells=cJ a)(nB:x2.reads=true)(dj:x2.cells=cJ b)(h:nd bz a+nd bz b<35184372088832)
  (ho:dp (av fn key).op=some (.func 132)):aX prog Bs N:=
 .step key (av fn key) [.func (.func 132) #[] #[],sl k1 (nd bz a),sl k2 (nd bz b)] [(k,none),(k1,some x1),(k2,some x2)] (sl k (nd bz (a*b))) [(k,cr (a*b))] (qL (Vg h) (nK tL gm (nK nB dj .nil)) ho k_ (sB _) k)
def aX.uX(fn:Func)(key k1 k2 a b:Nat)(x1 x2:Obj)(tL:x1.reads=true)(gm:x1.cells=cJ a)(nB:x2.reads=true)(dj:x2.cells=cJ b)(h1:nd bz a<35184372088832)(h2:nd bz b<35184372088832)
  (ho:dp (av fn key).op=some (.func 96)):aX prog Bs N:=
 .step key (av fn key) [.func (.func 96) #[] #[],sl k1 (nd bz a),sl k2 (nd bz b)] [(k1,some x1),(k2,some x2)] (.int .i64 (gQ a b)) [] (dE (Vk h1 h2) (nK tL gm (nK nB dj .nil)) ho k_ rfl)
def aX.fp(fn:Func)(key k1 a:Nat)(neg:Bool)(x1:Obj)(tL:x1.reads=true)(gm:x1.cells=cJ a)(h1:nd bz a<35184372088832)
  (ho:dp (av fn key).op=some (.func 79)):aX prog Bs N:=
 .step key (av fn key) [.func (.func 79) #[] #[],.bool neg,sl k1 (nd bz a)] [(k1,some x1)] (bK (sg neg a)) [] (dE (aCZ neg (aNQ h1)) (.p rfl (nK tL gm .nil)) ho k_ rfl)
theorem tP{m n:Nat}(h:m<2^n):nd bz m<=n:=jd d_ (cx h (aAf d_ n))
end
theorem DH{a b:Nat}{t:Bool}(h:decide (b<=a)=t):Value.bool (decide (gQ a b>=0))=.bool t:=by
 rw[<-h];congr 1;rw[s9];unfold gQ
 by_cases h1:a<b
 ·rw[aw h1];omega
 ·rw[ao h1];by_cases h2:b<a
  ·rw[aw h2];omega
  ·rw[ao h2];omega
theorem Iq{m:Nat}(h:nd 256 m<=7):m<72057594037927936:=by have al:m<256^7:=cx (dO (B:=256) d_ m) (cY d_ h);rwa[show(256:Nat)^7=72057594037927936 by decide]at al
theorem DI(n:Bool)(m:Nat):-(m:Int)<=sg n m/\sg n m<=m:=by cases n<;>simp[sg]<;>omega
theorem aVG{n1 n2:Bool}{m1 m2 p q:Nat}(v1:n1=true->m1≠0)(v2:n2=true->m2≠0)(h1:m1<2^p)(h2:m2<2^q)(hp:p<=1099511627776)(hq:q<=1099511627776):
  aD prog 81 [sv n1 m1,sv n2 m2] (bK (sg n1 m1+sg n2 m2)):=by
 have b1:=tP h1;have b2:=tP h2;have c1:=vA h1;have c2:=vA h2;by_cases s1:nd 256 m1<=7/\nd 256 m2<=7
 ·obtain⟨s1,s2⟩:=s1;have g1:=DI n1 m1;have g2:=DI n2 m2;have l1:=Iq s1;have l2:=Iq s2;exact aK func81 (λ_=>[(aV6 _ v1).at 12,(aV6 _ v2).at 16,(sF v1 s1).at 22,(sF v2 s2).at 28,.wr 34 .i64 (sg n1 m1+sg n2 m2) (sg n1 m1+sg n2 m2) (by rw[c8];omega),(aVy (z:=sg n1 m1+sg n2 m2) o_ o_).at 35])
 by_cases s1:nd 256 m1<=7
 ·have s2:¬nd 256 m2<=7:=λh=>(by assumption:¬(nd 256 m1<=7/\nd 256 m2<=7)) ⟨s1,h⟩;have same:∀ n:Bool,n1=n->n2=n->aD prog 81 [sv n1 m1,sv n2 m2] (bK (sg n1 m1+sg n2 m2)):=by
   rintro n rfl rfl
   have bs:nd bz (m1+m2)<35184372088832:=by
    have:=tP (m:=m1+m2) (n:=p+q+1) (by have e1:=cY (show 0<2 by decide) (show p<=p+q by omega);have e2:=cY (show 0<2 by decide) (show q<=p+q by omega);rw[dw];omega)
    omega
   have e:sg n2 m1+sg n2 m2=sg n2 (m1+m2):=by cases n2<;>simp[sg]<;>omega
   rw[e];cases n2
   ·exact aK func81 (λ_=>[(aV6 _ v1).at 12,(aV6 _ v2).at 16,(sF v1 s1).at 22,(uW (neg:=false) s2).at 28,.eF f81 38 3 m1 o_ k_,.eF f81 41 4 m2 o_ k_,.DF f81 52 5 3 4 m1 m2 (cr m1) (cr m2) rfl rfl rfl rfl o_ o_ k_,.fp f81 53 5 (m1+m2) false (cr (m1+m2)) rfl rfl bs k_])
   ·exact aK func81 (λ_=>[(aV6 _ v1).at 12,(aV6 _ v2).at 16,(sF v1 s1).at 22,(uW (neg:=true) s2).at 28,.eF f81 38 3 m1 o_ k_,.eF f81 41 4 m2 o_ k_,.DF f81 52 5 3 4 m1 m2 (cr m1) (cr m2) rfl rfl rfl rfl o_ o_ k_,.fp f81 53 5 (m1+m2) true (cr (m1+m2)) rfl rfl bs k_])
  have diff:n1≠n2->aD prog 81 [sv n1 m1,sv n2 m2] (bK (sg n1 m1+sg n2 m2)):=by
   intro aU;by_cases dM:m2<=m1
   ·have bs:nd bz (m1-m2)<35184372088832:=by have:=iL (B:=bz) d_ (Bf m1 m2);omega
    have e:sg n1 m1+sg n2 m2=sg n1 (m1-m2):=by cases n1<;>cases n2<;>simp[sg]at aU ⊢<;>omega
    rw[e];cases n1<;>cases n2<;>first|exact absurd rfl aU|skip
    ·exact aK func81 (λ_=>[(aV6 _ v1).at 12,(aV6 _ v2).at 16,(sF v1 s1).at 22,(uW (neg:=true) s2).at 28,.eF f81 38 3 m1 o_ k_,.eF f81 41 4 m2 o_ k_,.uX f81 57 3 4 m1 m2 (cr m1) (cr m2) rfl rfl rfl rfl o_ o_ k_,.rw 58 _ (.bool true) (DH (aB dM)),.tO f81 63 5 3 4 m1 m2 (cr m1) (cr m2) rfl rfl rfl rfl dM o_ k_,.fp f81 64 5 (m1-m2) false (cr (m1-m2)) rfl rfl bs k_])
    ·exact aK func81 (λ_=>[(aV6 _ v1).at 12,(aV6 _ v2).at 16,(sF v1 s1).at 22,(uW (neg:=false) s2).at 28,.eF f81 38 3 m1 o_ k_,.eF f81 41 4 m2 o_ k_,.uX f81 57 3 4 m1 m2 (cr m1) (cr m2) rfl rfl rfl rfl o_ o_ k_,.rw 58 _ (.bool true) (DH (aB dM)),.tO f81 63 5 3 4 m1 m2 (cr m1) (cr m2) rfl rfl rfl rfl dM o_ k_,.fp f81 64 5 (m1-m2) true (cr (m1-m2)) rfl rfl bs k_])
   ·have bs:nd bz (m2-m1)<35184372088832:=by have:=iL (B:=bz) d_ (Bf m2 m1);omega
    have e:sg n1 m1+sg n2 m2=sg n2 (m2-m1):=by cases n1<;>cases n2<;>simp[sg]at aU ⊢<;>omega
    rw[e];cases n1<;>cases n2<;>first|exact absurd rfl aU|skip
    ·exact aK func81 (λ_=>[(aV6 _ v1).at 12,(aV6 _ v2).at 16,(sF v1 s1).at 22,(uW (neg:=true) s2).at 28,.eF f81 38 3 m1 o_ k_,.eF f81 41 4 m2 o_ k_,.uX f81 57 3 4 m1 m2 (cr m1) (cr m2) rfl rfl rfl rfl o_ o_ k_,.rw 58 _ (.bool false) (DH (aJ dM)),.tO f81 69 5 4 3 m2 m1 (cr m2) (cr m1) rfl rfl rfl rfl o_ o_ k_,.fp f81 70 5 (m2-m1) true (cr (m2-m1)) rfl rfl bs k_])
    ·exact aK func81 (λ_=>[(aV6 _ v1).at 12,(aV6 _ v2).at 16,(sF v1 s1).at 22,(uW (neg:=false) s2).at 28,.eF f81 38 3 m1 o_ k_,.eF f81 41 4 m2 o_ k_,.uX f81 57 3 4 m1 m2 (cr m1) (cr m2) rfl rfl rfl rfl o_ o_ k_,.rw 58 _ (.bool false) (DH (aJ dM)),.tO f81 69 5 4 3 m2 m1 (cr m2) (cr m1) rfl rfl rfl rfl o_ o_ k_,.fp f81 70 5 (m2-m1) false (cr (m2-m1)) rfl rfl bs k_])
  by_cases h:n1=n2
  ·exact same n2 h rfl
  ·exact diff h
 ·have same:∀ n:Bool,n1=n->n2=n->aD prog 81 [sv n1 m1,sv n2 m2] (bK (sg n1 m1+sg n2 m2)):=by
   rintro n rfl rfl
   have bs:nd bz (m1+m2)<35184372088832:=by
    have:=tP (m:=m1+m2) (n:=p+q+1) (by have e1:=cY (show 0<2 by decide) (show p<=p+q by omega);have e2:=cY (show 0<2 by decide) (show q<=p+q by omega);rw[dw];omega)
    omega
   have e:sg n2 m1+sg n2 m2=sg n2 (m1+m2):=by cases n2<;>simp[sg]<;>omega
   rw[e];cases n2
   ·exact aK func81 (λ_=>[(aV6 _ v1).at 12,(aV6 _ v2).at 16,(uW (neg:=false) s1).at 22,.eF f81 38 3 m1 o_ k_,.eF f81 41 4 m2 o_ k_,.DF f81 52 5 3 4 m1 m2 (cr m1) (cr m2) rfl rfl rfl rfl o_ o_ k_,.fp f81 53 5 (m1+m2) false (cr (m1+m2)) rfl rfl bs k_])
   ·exact aK func81 (λ_=>[(aV6 _ v1).at 12,(aV6 _ v2).at 16,(uW (neg:=true) s1).at 22,.eF f81 38 3 m1 o_ k_,.eF f81 41 4 m2 o_ k_,.DF f81 52 5 3 4 m1 m2 (cr m1) (cr m2) rfl rfl rfl rfl o_ o_ k_,.fp f81 53 5 (m1+m2) true (cr (m1+m2)) rfl rfl bs k_])
  have diff:n1≠n2->aD prog 81 [sv n1 m1,sv n2 m2] (bK (sg n1 m1+sg n2 m2)):=by
   intro aU;by_cases dM:m2<=m1
   ·have bs:nd bz (m1-m2)<35184372088832:=by have:=iL (B:=bz) d_ (Bf m1 m2);omega
    have e:sg n1 m1+sg n2 m2=sg n1 (m1-m2):=by cases n1<;>cases n2<;>simp[sg]at aU ⊢<;>omega
    rw[e];cases n1<;>cases n2<;>first|exact absurd rfl aU|skip
    ·exact aK func81 (λ_=>[(aV6 _ v1).at 12,(aV6 _ v2).at 16,(uW (neg:=false) s1).at 22,.eF f81 38 3 m1 o_ k_,.eF f81 41 4 m2 o_ k_,.uX f81 57 3 4 m1 m2 (cr m1) (cr m2) rfl rfl rfl rfl o_ o_ k_,.rw 58 _ (.bool true) (DH (aB dM)),.tO f81 63 5 3 4 m1 m2 (cr m1) (cr m2) rfl rfl rfl rfl dM o_ k_,.fp f81 64 5 (m1-m2) false (cr (m1-m2)) rfl rfl bs k_])
    ·exact aK func81 (λ_=>[(aV6 _ v1).at 12,(aV6 _ v2).at 16,(uW (neg:=true) s1).at 22,.eF f81 38 3 m1 o_ k_,.eF f81 41 4 m2 o_ k_,.uX f81 57 3 4 m1 m2 (cr m1) (cr m2) rfl rfl rfl rfl o_ o_ k_,.rw 58 _ (.bool true) (DH (aB dM)),.tO f81 63 5 3 4 m1 m2 (cr m1) (cr m2) rfl rfl rfl rfl dM o_ k_,.fp f81 64 5 (m1-m2) true (cr (m1-m2)) rfl rfl bs k_])
   ·have bs:nd bz (m2-m1)<35184372088832:=by have:=iL (B:=bz) d_ (Bf m2 m1);omega
    have e:sg n1 m1+sg n2 m2=sg n2 (m2-m1):=by cases n1<;>cases n2<;>simp[sg]at aU ⊢<;>omega
    rw[e];cases n1<;>cases n2<;>first|exact absurd rfl aU|skip
    ·exact aK func81 (λ_=>[(aV6 _ v1).at 12,(aV6 _ v2).at 16,(uW (neg:=false) s1).at 22,.eF f81 38 3 m1 o_ k_,.eF f81 41 4 m2 o_ k_,.uX f81 57 3 4 m1 m2 (cr m1) (cr m2) rfl rfl rfl rfl o_ o_ k_,.rw 58 _ (.bool false) (DH (aJ dM)),.tO f81 69 5 4 3 m2 m1 (cr m2) (cr m1) rfl rfl rfl rfl o_ o_ k_,.fp f81 70 5 (m2-m1) true (cr (m2-m1)) rfl rfl bs k_])
    ·exact aK func81 (λ_=>[(aV6 _ v1).at 12,(aV6 _ v2).at 16,(uW (neg:=true) s1).at 22,.eF f81 38 3 m1 o_ k_,.eF f81 41 4 m2 o_ k_,.uX f81 57 3 4 m1 m2 (cr m1) (cr m2) rfl rfl rfl rfl o_ o_ k_,.rw 58 _ (.bool false) (DH (aJ dM)),.tO f81 69 5 4 3 m2 m1 (cr m2) (cr m1) rfl rfl rfl rfl o_ o_ k_,.fp f81 70 5 (m2-m1) false (cr (m2-m1)) rfl rfl bs k_])
  by_cases h:n1=n2
  ·exact same n2 h rfl
  ·exact diff h
theorem aVr{x y:Int}{p q:Nat}(h1:x.natAbs<2^p)(h2:y.natAbs<2^q)(hp:p<=1099511627776)(hq:q<=1099511627776):aD prog 81 [bK x,bK y] (bK (x+y)):=by revert h1 h2;refine E7 (C:=λx y v u=>x.natAbs<2^p->y.natAbs<2^q->aD prog 81 [v,u] (bK (x+y))) (λn1 n2 m1 m2 v1 v2 h1 h2=>?_) x y;rw[qb]at h1 h2;exact aVG v1 v2 h1 h2 hp hq
theorem aVP{x y:Int}{p q:Nat}(h1:x.natAbs<2^p)(h2:y.natAbs<2^q)(hp:p<=1099511627776)(hq:q<=1099511627776):aD prog 134 [bK x,bK y] (bK (x-y)):=
 aK func134 (λ_=>[(aVE x).at 6,(aVE y).at 10,(aVA y).at 16,(aVr h1 (by rw[J6];exact h2) hp hq).at 17])
theorem Lj(m:Nat):Value.int .i64 ((BA (cd m)).size:Int)=vI (nd 256 m):=by rw[oK,ti];rfl
theorem aVl{x y:Int}{p q:Nat}(h1:x.natAbs<2^p)(h2:y.natAbs<2^q)(hp:p<=1099511627776)(hq:q<=1099511627776):aD prog 82 [bK x,bK y] (bK (x*y)):=by
 revert h1 h2;refine E7 (C:=λx y v u=>x.natAbs<2^p->y.natAbs<2^q->aD prog 82 [v,u] (bK (x*y))) (λn1 n2 m1 m2 v1 v2 h1 h2=>?_) x y;rw[qb]at h1 h2;have b1:=tP h1;have b2:=tP h2;have c1:=vA h1;have c2:=vA h2;have k1:=dO (B:=256) d_ m1;have k2:=dO (B:=256) d_ m2;have r1:=Lj m1;have r2:=Lj m2;have e:sg n1 m1*sg n2 m2=sg (n1 !=n2) (m1*m2):=by cases n1<;>cases n2<;>simp[sg,Hp,Hq]
 by_cases hs:nd 256 m1+nd 256 m2<=7
 ·have s1:=sF v1 (show nd 256 m1<=7 by omega);have s2:=sF v2 (show nd 256 m2<=7 by omega);have hb:m1*m2<72057594037927936:=by
   have h:m1*m2<256^(nd 256 m1+nd 256 m2):=by rw[ep];exact pT k1 k2
   have h7:=cY (n:=256) d_ hs;rw[show(256:Nat)^7=72057594037927936 by decide]at h7;omega
  have g:=DI (n1 !=n2) (m1*m2);rw[<-e]at g;have w:=aV6 n1 v1;have w2:=aV6 n2 v2;unfold sv pk at s1 s2 w w2 ⊢;generalize nd 256 m1=L1 at *;generalize nd 256 m2=L2 at *;exact aK func82 (λ_=>[w.at 10,w2.at 14,.rw 20 _ (vI L1) r1,.rw 23 _ (vI L2) r2,.sum 24 L1 L2 (L1+L2) rfl o_,.rw 25 (.bool (decide (((L1+L2:Nat):Int)<=7))) (.bool true) (by rw[aB o_]),s1.at 28,s2.at 33,.wr 38 .i64 (sg n1 m1*sg n2 m2) (sg n1 m1*sg n2 m2) (by rw[c8];omega),(aVy (z:=sg n1 m1*sg n2 m2) o_ o_).at 39])
 ·have bs:nd bz (m1*m2)<35184372088832:=by have:=tP (m:=m1*m2) (n:=p+q) (by rw[ep];exact pT h1 h2);omega
  rw[e];have w:=aV6 n1 v1;have w2:=aV6 n2 v2;cases n1<;>cases n2
  ·exact aK func82 (λ_=>[w.at 10,w2.at 14,.rw 20 _ (vI (nd 256 m1)) r1,.rw 23 _ (vI (nd 256 m2)) r2,.sum 24 (nd 256 m1) (nd 256 m2) (nd 256 m1+nd 256 m2) rfl o_,.rw 25 (.bool (decide (((nd 256 m1+nd 256 m2:Nat):Int)<=7))) (.bool false) (by rw[aJ o_]),.eF f82 47 3 m1 o_ k_,.eF f82 50 4 m2 o_ k_,.PH f82 51 5 3 4 m1 m2 (cr m1) (cr m2) rfl rfl rfl rfl o_ k_,.fp f82 52 5 (m1*m2) false (cr (m1*m2)) rfl rfl bs k_])
  ·exact aK func82 (λ_=>[w.at 10,w2.at 14,.rw 20 _ (vI (nd 256 m1)) r1,.rw 23 _ (vI (nd 256 m2)) r2,.sum 24 (nd 256 m1) (nd 256 m2) (nd 256 m1+nd 256 m2) rfl o_,.rw 25 (.bool (decide (((nd 256 m1+nd 256 m2:Nat):Int)<=7))) (.bool false) (by rw[aJ o_]),.eF f82 47 3 m1 o_ k_,.eF f82 50 4 m2 o_ k_,.PH f82 51 5 3 4 m1 m2 (cr m1) (cr m2) rfl rfl rfl rfl o_ k_,.fp f82 52 5 (m1*m2) true (cr (m1*m2)) rfl rfl bs k_])
  ·exact aK func82 (λ_=>[w.at 10,w2.at 14,.rw 20 _ (vI (nd 256 m1)) r1,.rw 23 _ (vI (nd 256 m2)) r2,.sum 24 (nd 256 m1) (nd 256 m2) (nd 256 m1+nd 256 m2) rfl o_,.rw 25 (.bool (decide (((nd 256 m1+nd 256 m2:Nat):Int)<=7))) (.bool false) (by rw[aJ o_]),.eF f82 47 3 m1 o_ k_,.eF f82 50 4 m2 o_ k_,.PH f82 51 5 3 4 m1 m2 (cr m1) (cr m2) rfl rfl rfl rfl o_ k_,.fp f82 52 5 (m1*m2) true (cr (m1*m2)) rfl rfl bs k_])
  ·exact aK func82 (λ_=>[w.at 10,w2.at 14,.rw 20 _ (vI (nd 256 m1)) r1,.rw 23 _ (vI (nd 256 m2)) r2,.sum 24 (nd 256 m1) (nd 256 m2) (nd 256 m1+nd 256 m2) rfl o_,.rw 25 (.bool (decide (((nd 256 m1+nd 256 m2:Nat):Int)<=7))) (.bool false) (by rw[aJ o_]),.eF f82 47 3 m1 o_ k_,.eF f82 50 4 m2 o_ k_,.PH f82 51 5 3 4 m1 m2 (cr m1) (cr m2) rfl rfl rfl rfl o_ k_,.fp f82 52 5 (m1*m2) false (cr (m1*m2)) rfl rfl bs k_])
theorem aV7{x y:Int}{p q:Nat}(h1:x.natAbs<2^p)(h2:y.natAbs<2^q)(hp:p<=1099511627776)(hq:q<=1099511627776):aD prog 170 [bK x,bK y] (.int .i64 (x-y).sign):=by
 have w1:=aVE x;have w2:=aVE y;have s1:=aVX x;have s2:=aVX y;have DJ:∀ z:Int,z.sign=-1/\z<0\/z.sign=0/\z=0\/z.sign=1/\0<z:=λz=>by
  rcases NV z 0 with h|h|h
  ·exact .inl ⟨E6 h,h⟩
  ·exact .inr (.inl ⟨by rw[h];rfl,h⟩)
  ·exact .inr (.inr ⟨Be h,h⟩)
 have b1:=tP h1;have b2:=tP h2;have c1:=vA h1;have c2:=vA h2;by_cases hs:x.sign=y.sign
 ·have ho:x.sign*gQ x.natAbs y.natAbs=(x-y).sign:=by unfold gQ;rcases DJ x with ⟨a1,a2⟩|⟨a1,a2⟩|⟨a1,a2⟩<;>rcases DJ y with ⟨d1,d2⟩|⟨d1,d2⟩|⟨d1,d2⟩<;>rcases DJ (x-y)with ⟨f1,f2⟩|⟨f1,f2⟩|⟨f1,f2⟩<;>rw[a1,f1]<;>rw[a1,d1]at hs<;>first|(exfalso;omega)|(split<;>first|omega|(split<;>omega))
  have hw:IntKind.i64.wrap (x.sign*gQ x.natAbs y.natAbs)=(x-y).sign:=by rw[ho,c8];rcases DJ (x-y)with ⟨f1,f2⟩|⟨f1,f2⟩|⟨f1,f2⟩<;>rw[f1]<;>rfl
  rw[<-hs]at s2;exact aK func170 (λ_=>[w1.at 8,w2.at 12,s1.at 16,s2.at 18,.rw 21 (.bool (x.sign !=x.sign)) (.bool false) s_,.eF f170 28 2 x.natAbs o_ k_,.eF f170 31 3 y.natAbs o_ k_,.uX f170 32 2 3 x.natAbs y.natAbs (cr x.natAbs) (cr y.natAbs) rfl rfl rfl rfl o_ o_ k_,.wr 33 .i64 _ _ hw])
 ·have aU:(x.sign !=y.sign)=true:=uu.2 hs;by_cases al:x.sign<y.sign
  ·have e:(x-y).sign=-1:=by rcases DJ x with ⟨a1,a2⟩|⟨a1,a2⟩|⟨a1,a2⟩<;>rcases DJ y with ⟨d1,d2⟩|⟨d1,d2⟩|⟨d1,d2⟩<;>rw[a1,d1]at al<;>first|omega|exact E6 o_
   rw[e];exact aK func170 (λ_=>[w1.at 8,w2.at 12,s1.at 16,s2.at 18,.rw 21 (.bool (x.sign !=y.sign)) (.bool true) (by rw[aU]),.rw 24 (.bool (decide (x.sign<y.sign))) (.bool true) (by rw[aB al])])
  ·have e:(x-y).sign=1:=by rcases DJ x with ⟨a1,a2⟩|⟨a1,a2⟩|⟨a1,a2⟩<;>rcases DJ y with ⟨d1,d2⟩|⟨d1,d2⟩|⟨d1,d2⟩<;>rw[a1,d1]at al hs<;>first|omega|exact Be o_
   rw[e];exact aK func170 (λ_=>[w1.at 8,w2.at 12,s1.at 16,s2.at 18,.rw 21 (.bool (x.sign !=y.sign)) (.bool true) (by rw[aU]),.rw 24 (.bool (decide (x.sign<y.sign))) (.bool false) (by rw[aJ al])])

section
variable{P:Program}{B:aa}{N:Nat}
def Vm(o:Oper):Bool:=match o.op with
 |.call c=>match c.callee,c.args.toList with
  |.builtin .min,[_,_]=>true
  |_,_=>false
 |_=>false
theorem aN2{o:Oper}(ho:Vm o=true){a b r:Nat}(hr:r=min a b):cA P B o [vI a,vI b] [] (vI r) []:=by
 unfold Vm at ho;split at ho
 ·rename_i c bN;split at ho
  ·rename_i p q h1 h2;refine(B8 (λu hu=>by simp at hu;rcases hu with rfl|rfl<;>rfl) rfl λρ fO w _=>?_).step;obtain⟨ce,ar,at'⟩:=c;dsimp only at h1 h2;subst h1;have e1:ar=#[p,q]:=by rw[<-zi (xs:=ar),h2]
   subst e1;rw[bN]at fO;simp[Op.operands,Call.operands]at fO;simp[execOp,bN,resolve,invoke,builtin,Builtin.min_,Builtin.min2,fO.1,fO.2,vI,hr];split<;>omega
  ·cases ho
 ·cases ho
def aX.PI(fn:Func)(key a b r:Nat)(hr:r=min a b)(ho:Vm (av fn key)=true):aX P B N:=
 .step key (av fn key) [vI a,vI b] [] (vI r) [] (aN2 ho hr)
theorem aN3{f:FuncId}{fn:Func}{l:List aP}{ty:TypeId}{size m:Nat}{xs cells:aj}{u:Value}{k:Nat}(gv:P.follows .mixedOrders=true)(hf:P.funcs[f]?=some fn)(hl:(l.all aP.ok)=true)(n:Nat){N:Nat}(hN:N=(eL 0 l).length+(fn.ntmps-(eL 0 l).length))
  (rs:∀ w,bE P (aa.at w) N) (h:∀ w,nt (fQ (P:=P) fn n (eL 0 l) (jt 0 l) (jG 0 l) (rs w)) [(k,.row cells ty size)]=nu (fQ fn n (eL 0 l) (jt 0 l) (jG 0 l) (rs w)) (.tuple #[.slice (some ⟨k,0,some 7⟩) m 0,u]) [(k,.row cells ty size)])
  (hx:(cells.all flat)=true) (hlen:m*size<=cells.length) (kM:cells.take (m*size)=xs) (hu:flat u=true):H9 P f l ty size m xs u:=by
 intro w vs ct;obtain⟨ι,c,h1,h2,h3,h4,h5,h6,h7⟩:=vK ct (bf.1 hl) 0 _ _ (qB w) n_ (λ_ _=>rfl);refine rJ gv hf hN n (h w) h6 h2 h4 h3 λau bY v' w' hle hc hm dz=>?_;obtain⟨cM,rfl,ba⟩:=hc.ub;obtain⟨p,q,hp,h8,h9⟩:=jx ba;have e:cM=#[p,q]:=vh.1 (by rw[hp]);subst e;rw[h9.eR hu];have:=vo hm (dz (k,_) (aT ..)) h8 hlen (bf.1 hx);rw[kM]at this;exact⟨p,rfl,this,hm.base⟩
theorem aN4{o:Oper}{x:Operand}{f:FuncId}{k j n m:Nat}{ty:TypeId}{cells xs:aj}{u:Value}(ho:dp o.op=some x)(eG:gk P f=true)(hn:0<n)(cN:∀ v∈cells,flat v=true)(AQ:∀ v∈xs,flat v=true)(hu:flat u=true)(kA:0<m)
  (h:∀ w g cap cur,w.heap[g]?=some (.cells cur ty (0,0))->n<=cap->cap<=maxLen->cur.size=cap*1->cur.toList.take cells.length=cells->Calls P f #[.slice (some ⟨g,0,none⟩) n cap] w λe w'=>∃ z c',e=.returned (.tuple #[.slice (some ⟨g,z,none⟩) m c',u])/\AP g w w'/\(∃ fN,w'.heap[g]?=some (.cells fN ty (0,0))/\fN.size=cap*1)/\cK w' (.slice (some ⟨g,z,none⟩) m c') m xs) :
  cA P B o [.func (.func f) #[] #[],.slice (some ⟨k,0,some 7⟩) n 0] [(k,some (.row cells ty 1)),(j,none)] (.tuple #[.slice (some ⟨j,0,some 7⟩) m 0,u]) [(j,.view xs),(k,.dead)]:=by
 refine jB (fi:=[]) (ca:=[]) ho eG λι c w hm jS args' ba=>?_;rw[jo,iY]at ba;obtain⟨v,rfl,hv⟩:=lT ba;have hk:c k=some (.row cells ty 1):=jS (k,_) s_;have hj:c j=none:=jS (j,none) s_;rcases hv.gW rfl with ⟨_,h0,_⟩|⟨g,oo,cap,c',hb,lp,mz,he⟩
 ·omega
 ·dsimp only at hb he;have ki:c'=cap:=by omega
  subst ki;obtain⟨l,q1,q2⟩:=hm.born k _ hk;rw[hb]at q1;injection q1 with q1;subst q1;rcases q2 with q2|⟨b,aO,cur,e1,lW,dy,fX,jc⟩
  ·cases q2.1
  ·injection e1 with e1 e2 e3;subst e1;subst e2;subst e3;rw[he];refine(h w g c' cur lW lp dy fX (nj jc cN)).mono ?_
   rintro e w' ⟨z,c2,rfl,pV,⟨fN,p1,p2⟩,jm⟩
   have m1:=hm.write (y:=.row [] ty 1) hk rfl hb pV.os pV.tape pV.output pV.size (λj hj EN=>pV.block j hj EN) (.inr ⟨g,c',fN,rfl,p1,dy,p2,.nil⟩) n_ rfl;have m2:=m1.kill k (by unfold aY;rw[aw rfl];exact n_);have bL:j≠k:=λe=>by rw[e,hk]at hj;cases hj
   have hj2:aY (aY c k (.row [] ty 1)) k .dead j=none:=by unfold aY;rw[ao bL,ao bL];exact hj
   obtain⟨au,q1,q2,q3⟩:=yy m2 hj2 jm AQ (λb o c3 e j' y o' aO iu hy uk=>by
    injection e with e _ _;injection e with e;injection e with e _ _;subst e;unfold aY at iu;by_cases PJ:j'=k
    ·rw[aw PJ]at iu;injection iu with iu;subst iu;cases hy
    ·rw[ao PJ,ao PJ]at iu;exact PJ (hm.inj j' k y _ _ _ _ _ _ iu hy hk rfl uk hb))
   refine⟨au,_,rfl,q1,.tup (.cons q3 (.cons (.same hu) .nil)),?_⟩;refine q2.ext λi=>?_;show aY (aY c k .dead) j (.view xs) i=_;unfold aY;by_cases h1:i=j
   ·rw[aw h1,aw h1]
   ·rw[ao h1,ao h1];by_cases h2:i=k
    ·rw[aw h2,aw h2]
    ·rw[ao h2,ao h2,ao h2]
theorem aC3(x:Int)(k:Nat)(hk:k<=62):IntKind.i64.wrap (((BitVec.ofInt IntKind.i64.bits x)&&& (BitVec.ofInt IntKind.i64.bits (((2^k-1:Nat)):Int))).toNat:Int)=x%((2^k:Nat):Int):=by
 show IntKind.i64.wrap (((BitVec.ofInt 64 x)&&& (BitVec.ofInt 64 (((2^k-1:Nat)):Int))).toNat:Int)=_;have h2:2^k<=2^62:=cY d_ hk;have h62:(2:Nat)^62=4611686018427387904:=by decide
 have hp:0<2^k:=cG d_;have e1:(BitVec.ofInt 64 (((2^k-1:Nat)):Int)).toNat=2^k-1:=by rw[BitVec.toNat_ofInt];omega
 have e2:((BitVec.ofInt 64 x).toNat:Int)=x%18446744073709551616:=by rw[BitVec.toNat_ofInt];omega
 rw[BitVec.toNat_and,e1,Nat.and_two_pow_sub_one_eq_mod,c8];have hd:((2^k:Nat):Int) ∣ 18446744073709551616:=by refine⟨((2^(64-k):Nat):Int),?_⟩;rw[<-nU,<-ep,show k+(64-k)=64 by omega];rfl
 have e3:(((BitVec.ofInt 64 x).toNat%2^k:Nat):Int)=x%((2^k:Nat):Int):=by rw[Vn,e2,Int.emod_emod_of_dvd _ hd]
 have h3:(BitVec.ofInt 64 x).toNat%2^k<2^k:=cH _ hp;rw[<-e3];omega
end
section
variable{Bs:aa}{n a d:Nat}
def aV5(n a d i:Nat):aV:=[(8,df i),(6,sl 1 n),(7,vI (a/bz^i%d)),(0,sl 0 n),(1,vI d)]
def aV9(n a d i:Nat):aH:=[(0,.view (ai (ae bz n a))),(1,.row (ai (gz bz n i (a/d))) 3 1)]
theorem aVk{j:Nat}(hj:j<n)(hd:0<d)(mH:d<bz)(h63:n<35184372088832):
  ah prog Bs 38 (aE (af f219 0)) (aV5 n a d (j+1)) (aV9 n a d (j+1)) 2 ⟨.normal,aV5 n a d j,aV9 n a d j,2⟩:=by
 have bJ:eU prog 3 (ai (gz bz n (j+1) (a/d))) j (vI (a/d/bz^j%bz))=some (ai (gz bz n j (a/d))):=by rw[v8 (by rw[MZ];exact hj),M4 hj rfl]
 have kP:du prog 3 (ai (ae bz n a)) j=some (vI (a/bz^j%bz)):=dJ (eg hj);have hr:a/bz^(j+1)%d<d:=cH _ hd;have hx:=gP (B:=bz) d_ a j;obtain⟨q1,q2⟩:=Y6 (B:=bz) d_ hd (iM mH) a j;have jK:bz=16777216:=rfl;unfold aV5 aV9;generalize ai (gz bz n (j+1) (a/d))=r0 at *;generalize ai (gz bz n j (a/d))=r1 at *;generalize ai (ae bz n a)=ra at *;generalize a/d/bz^j%bz=z at *;generalize a/bz^(j+1)%d=r at *;generalize a/bz^j%d=r' at *;generalize a/bz^j%bz=x at *;have nB:r<16777216:=by omega
 have hp:r*bz<281474976710656:=by rw[jK];omega
 generalize hpe:r*bz=p at *;have CU:(d:Int)≠0:=by omega
 have w1:IntKind.i64.wrap (Int.tdiv ((p+x:Nat):Int) (d:Int))=(z:Int):=by have hq:(p+x)/d<=p+x:=th _ _;rw[yO o_,<-tg,q1,c8];omega
 have w2:Int.tmod ((p+x:Nat):Int) (d:Int)=(r':Int):=by rw[yP o_,<-Vn,q2]
 exact aA [.rw 15 (df (j+1)) (vI j) (dT j),.ge 16 j 0 true s_,.sD 20 r bz p hpe.symm o_,.rw 22 (df (j+1)) (vI j) (dT j),.ix f219 23 0 n j hj k_,.ld f219 24 3 0 j (.view ra) (vI x) rfl kP k_,.sum 25 p x (p+x) rfl o_,.rw 27 (df (j+1)) (vI j) (dT j),.pW f219 30 .i64 ((p+x:Nat):Int) (d:Int) (z:Int) CU w1 k_,.ix f219 31 1 n j hj k_,.st f219 100031 3 1 j (.row r0 3 1) (vI z) (.row r1 3 1) rfl bJ rfl k_,.wX f219 34 .i64 ((p+x:Nat):Int) (d:Int) (r':Int) CU w2 k_,.rw 17 (df (j+1)) (vI j) (dT j),.wr 18 .i64 ((j:Int)-1) ((j:Int)-1) (oL o_)]
theorem aVM(hd:0<d)(mH:d<bz)(h63:n<35184372088832):
  ah prog Bs 38 (.block 0 (af f219 0)) (aV5 n a d n) (aV9 n a d n) 2 ⟨.normal,aV5 n a d 0,aV9 n a d 0,2⟩:=by
 have:=ch (P:=prog) (B:=Bs) (N:=38) (b:=aE (af f219 0)) (next:=2) (r:=⟨.exit 0,aV5 n a d 0,aV9 n a d 0,2⟩) n (λi=>aV5 n a d (n-i)) (λi=>aV9 n a d (n-i))
  (λi k _=>jP (l:=aV9 n a d (n-i)) (m:=aV9 n a d (n-0)) rfl k)
  (λi hi=>by
   have e:n-i=(n-(i+1))+1:=by omega
   simp only[e];exact aVk o_ hd mH h63)
  (by
   have e:n-n=0:=by omega
   simp only[e];exact aA [.rw 16 (.bool (decide (((0:Nat):Int)-1>=0))) (.bool false) rfl]) n_
 exact bO this
end
theorem aC4{a d:Nat}(hd:0<d)(mH:d<bz)(h1:nd bz a<35184372088832):H9 prog 219 [ju a,.p (vI d)] 3 1 (nd bz (a/d)) (cJ (a/d)) (vI (a%d)):=by
 have ha:=dO (B:=bz) d_ a;have ay:([ju a,aP.p (vI d)].all aP.ok)=true:=by simp[Im];rfl
 unfold ju cJ at ay ⊢;change H9 _ _ _ _ _ _ (cJ (a/d)) _;generalize nd bz a=n at *;have hs:a/d<bz^n:=eW (th _ _) ha;have e0:a/bz^n%d=0:=by rw[l4 ha];exact Nat.zero_mod _
 have e1:a/bz^0%d=a%d:=by rw[rN,ER]
 have lo:=λBs=>aVM (Bs:=Bs) (n:=n) (a:=a) hd mH h1;have ez:List.replicate n (vI 0)=ai (gz bz n n (a/d)):=by rw[M3,K8]
 unfold aV5 aV9 at lo;rw[e0,e1,<-ez,JI]at lo;generalize a%d=r at *;exact aN3 (k:=1) mixed func219 ay 100 (N:=38) k_ (λw=>[.pS f219 11 1 n 3 8 (vI 0) (List.replicate n (vI 0)) rfl rfl rfl o_ (by simp[maxLen];omega) k_,.wr 14 .i64 ((n:Int)-1) ((n:Int)-1) (oL o_),.code 0 _ _ _ _ _ (lo _),.Dx f219 36 1 n (a/d) (.row (ai (ae bz n (a/d))) 3 1) rfl rfl hs o_ k_])
   (λw=>k_) (gV _) (F0 hs) (BL hs) rfl
section
variable{B:Nat}
def sX(B U V q i:Nat):Int:=((U%B^i:Nat):Int)-(q:Int)*((V%B^i:Nat):Int)
def qX(B U V q i:Nat):Int:=sX B U V q i/((B^i:Nat):Int)
theorem aN5(U V q:Nat):qX B U V q 0=0:=by simp[qX,sX,tf]
theorem aN6(U V q i:Nat):sX B U V q (i+1)=sX B U V q i+(((U/B^i%B:Nat):Int)-(q:Int)*((V/B^i%B:Nat):Int))*((B^i:Nat):Int):=by unfold sX;rw[pg U i,pg V i];simp only[vz,nU,Int.sub_mul,Int.mul_add,Int.mul_assoc];omega
theorem Vo(hB:0<B)(U V q i:Nat):qX B U V q i+(((U/B^i%B:Nat):Int)-(q:Int)*((V/B^i%B:Nat):Int))=sX B U V q (i+1)/((B^i:Nat):Int):=by
 have hp:((B^i:Nat):Int)≠0:=by have:=cG (n:=i) hB;omega
 rw[aN6,aAk _ _ hp];rfl
theorem aN7(hB:0<B)(U V q i:Nat):(qX B U V q i+(((U/B^i%B:Nat):Int)-(q:Int)*((V/B^i%B:Nat):Int)))/(B:Int)=qX B U V q (i+1):=by
 have hp:(0:Int)<=((B^i:Nat):Int):=by omega
 rw[Vo hB,Int.ediv_ediv_of_nonneg hp];unfold qX
 congr 1
theorem aN8(hB:0<B)(U V q i:Nat):(sX B U V q i)%((B^i:Nat):Int)=((U:Int)-(q:Int)*(V:Int))%((B^i:Nat):Int):=by
 unfold sX;have e1:(U:Int)=((U%B^i:Nat):Int)+((B^i:Nat):Int)*((U/B^i:Nat):Int):=by rw[<-nU,<-vz,Nat.mod_add_div]
 have e2:(V:Int)=((V%B^i:Nat):Int)+((B^i:Nat):Int)*((V/B^i:Nat):Int):=by rw[<-nU,<-vz,Nat.mod_add_div]
 have e3:(U:Int)-(q:Int)*(V:Int)=(((U%B^i:Nat):Int)-(q:Int)*((V%B^i:Nat):Int))+((B^i:Nat):Int)*(((U/B^i:Nat):Int)-(q:Int)*((V/B^i:Nat):Int)):=by
  conv=>lhs;rw[e1,e2]
  rw[Int.mul_add,Int.mul_sub,Int.mul_left_comm (q:Int) ((B^i:Nat):Int)];omega
 rw[e3,aN9]
theorem aOa(hB:0<B){m U V q:Nat}(hq:q*V<=U+B^(m+1)):((fT B m U V q:Nat):Int)=((U:Int)-(q:Int)*(V:Int))%((B^(m+1):Nat):Int):=by
 unfold fT;rw[Vn,Int.natCast_sub hq,vz,nU];have:(U:Int)+((B^(m+1):Nat):Int)-(q:Int)*(V:Int)=((U:Int)-(q:Int)*(V:Int))+((B^(m+1):Nat):Int):=by omega
 rw[this,Int.add_emod_right]
theorem aOb(hB:0<B){m U V q i:Nat}(hq:q*V<=U+B^(m+1))(hi:i<=m):
  (qX B U V q i+(((U/B^i%B:Nat):Int)-(q:Int)*((V/B^i%B:Nat):Int)))%(B:Int)=((fT B m U V q/B^i%B:Nat):Int):=by
 rw[Vo hB];have hp:(0:Int)<=((B^i:Nat):Int):=by omega
 have jf:0<((B^i:Nat):Int):=by have:=cG (n:=i) hB;omega
 -- both are the same digit of the number aUX B^(i+1)
 have key:∀ x y:Int,x%((B^(i+1):Nat):Int)=y%((B^(i+1):Nat):Int)->x/((B^i:Nat):Int)%(B:Int)=y/((B^i:Nat):Int)%(B:Int):=by
  intro x y h;have one:∀ z:Int,z/((B^i:Nat):Int)%(B:Int)=z%((B^(i+1):Nat):Int)/((B^i:Nat):Int):=by
   intro z;have e:=Int.emod_add_mul_ediv z ((B^(i+1):Nat):Int);have hs:((B^(i+1):Nat):Int)=((B^i:Nat):Int)*(B:Int):=by rw[dw,nU]
   have e2:z/((B^i:Nat):Int)=z%((B^(i+1):Nat):Int)/((B^i:Nat):Int)+(B:Int)*(z/((B^(i+1):Nat):Int)):=by
    have h3:z=z%((B^(i+1):Nat):Int)+((B^i:Nat):Int)*((B:Int)*(z/((B^(i+1):Nat):Int))):=by rw[<-Int.mul_assoc,<-hs];exact e.symm
    conv=>lhs;rw[h3]
    rw[Int.add_mul_ediv_left _ _ o_]
   rw[e2,aN9];refine Int.emod_eq_of_lt (Int.ediv_nonneg (Int.emod_nonneg _ (by have:=cG (n:=i+1) hB;omega)) hp) ?_;have h4:z%((B^(i+1):Nat):Int)<((B^(i+1):Nat):Int):=Int.emod_lt_of_pos _ (by have:=cG (n:=i+1) hB;omega);rw[hs]at h4;exact Int.ediv_lt_of_lt_mul jf (by rw[Tg];exact h4)
  rw[one,one,h]
 have h1:=key (sX B U V q (i+1)) ((fT B m U V q:Nat):Int) (by
  rw[aN8 hB,aOa hB hq];have hd:((B^(i+1):Nat):Int) ∣ ((B^(m+1):Nat):Int):=by refine⟨((B^(m-i):Nat):Int),?_⟩;rw[<-nU,<-ep];congr 2;omega
  rw[Int.emod_emod_of_dvd _ hd])
 rw[h1];simp only[Vn,tg]
theorem aOc(hB:0<B){m U V q:Nat}(hV:V<B^m)(hU:U<V*B)(hb:q*V<U+V):
  qX B U V q m+((U/B^m%B:Nat):Int)=if U<q*V then -1 else((fT B m U V q/B^m%B:Nat):Int):=by
 have CQ:U<B^(m+1):=by rw[dw];exact cx hU (e8 _ (iM hV))
 have SK:V<=B^(m+1):=dh (iM hV) (cY hB o_);have hp:0<B^m:=cG hB;have h0:V/B^m%B=0:=qC hV (bh _) hB;have h1:=Vo hB U V q m;rw[h0,Int.natCast_zero,Int.mul_zero,Int.sub_zero]at h1;rw[h1];unfold sX;rw[dF CQ,dF (cx hV (cY hB o_))];by_cases h:U<q*V
 ·rw[aw h];have e:(U:Int)-(q:Int)*(V:Int)=((U+B^m-q*V:Nat):Int)+((B^m:Nat):Int)*(-1):=by have:((q*V:Nat):Int)=(q:Int)*(V:Int):=nU ..;omega
  rw[e,Int.add_mul_ediv_left _ _ o_,<-tg,l4 o_];rfl
 ·rw[ao h];have e:(U:Int)-(q:Int)*(V:Int)=((U-q*V:Nat):Int):=by have:((q*V:Nat):Int)=(q:Int)*(V:Int):=nU ..;omega
  have e2:fT B m U V q=U-q*V:=by
   unfold fT;have:U+B^(m+1)-q*V=(U-q*V)+B^(m+1):=by omega
   rw[this,J0,dF o_]
  have al:(U-q*V)/B^m<B:=by rw[iy hp,cP B,<-dw];show U-q*V<B^(m+1);omega
  rw[e,e2,dF al,<-tg]
theorem aOd(hB:0<B){m U V q:Nat}(hV:V<B^m)(hU:U<V*B)(hb:q*V<U+V)(h:U<q*V):eH B (fT B m U V q) V m=1:=by
 have SK:V<=B^m:=iM hV;have hp:0<B^m:=cG hB;have hs:B^(m+1)=B^m*B:=dw ..;have CQ:U<B^(m+1):=by rw[hs];exact cx hU (e8 _ SK)
 have hBm:B^m<=B^(m+1):=cY hB o_;obtain⟨t,ht⟩:∃ t,t=q*V-U:=⟨_,rfl⟩;have e1:fT B m U V q=B^(m+1)-t:=by unfold fT;rw[dF o_];omega
 have e2:(B^(m+1)-t)%B^m=B^m-t:=by
  obtain⟨c,hc⟩:∃ c,B=c+1:=⟨B-1,by omega⟩;have:B^(m+1)-t=(B^m-t)+B^m*c:=by
   have e3:B^m*B=B^m*c+B^m:=by rw[<-MX,Nat.succ_eq_add_one,<-hc]
   rw[hs,e3];omega
  rw[this,EK,dF o_]
 unfold eH;rw[e1,e2,dF hV];have:B^m-t+V=(V-t)+1*B^m:=by omega
 rw[this,ph _ _ hp,l4 o_]
end
theorem aC5{B:Nat}(hB:0<B)(U V q i:Nat):-(q:Int)<=qX B U V q i/\qX B U V q i<=0:=by
 unfold qX sX;have hp:0<B^i:=cG hB;have h1:U%B^i<B^i:=cH _ hp;have h2:V%B^i<B^i:=cH _ hp;have h3:=jr q (iM h2);generalize U%B^i=u at *;generalize V%B^i=v at *;have e1:(q:Int)*(v:Int)=((q*v:Nat):Int):=by simp
 rw[e1];generalize q*v=s at *;generalize B^i=b at *;constructor
 ·rw[Int.le_ediv_iff_mul_le o_];have:-(q:Int)*(b:Int)=-((q*b:Nat):Int):=by simp[Hp]
  rw[this];omega
 ·have:((u:Int)-(s:Int))/(b:Int)<1:=Int.ediv_lt_of_lt_mul o_ o_;omega
section
variable{Bs:aa}{e L j T v1 v2 u2:Nat}{ru rv:aj}
def xJ(e L j T q:Nat):aV:=[(15,vI q),(9,sl 3 (e+2)),(10,vI (e+2)),(14,vI T),(11,sl 8 L),(13,df (j+1))]
def xK(ru rv:aj):aH:=[(8,.row ru 3 1),(3,.row rv 3 1)]
structure GU(e L j T v1 v2 u2:Nat)(ru rv:aj):Prop where
 hL:j+(e+2)+1<=L
 l1:du prog 3 rv (e+1)=some (vI v1)
 l0:du prog 3 rv e=some (vI v2)
 lu:du prog 3 ru (j+e)=some (vI u2)
 b1:v1<bz
 b0:v2<bz
 bu:u2<bz
 h63:L<35184372088832
noncomputable def Vp(g:GU e L j T v1 v2 u2 ru rv)(q r:Nat)(hq:q<bz)(hr:q*v1+r=T)(nB:r<2*bz)(t:Bool)(ht:decide (r*bz+u2<q*v2)=t)(more:bE prog Bs 238):bE prog Bs 238:=
 .eV 102 (e+2) 2 e o_ (by have:=g.hL;have:=g.h63;omega)::.ix f200 103 3 (e+2) e o_ k_::.ld f200 104 3 3 e (.row rv 3 1) (vI v2) rfl g.l0 k_::
 .sD 105 q v2 (q*v2) rfl (by
  have:=pT hq g.b0;have jK:bz*bz=281474976710656:=by decide
  omega)::.eV 110 (e+2) 1 (e+1) o_ (by have:=g.hL;have:=g.h63;omega)::.ix f200 111 3 (e+2) (e+1) o_ k_::.ld f200 112 3 3 (e+1) (.row rv 3 1) (vI v1) rfl g.l1 k_::
 .sD 113 q v1 (q*v1) rfl (by
  have:=pT hq g.b1;have jK:bz*bz=281474976710656:=by decide
  omega)::.eV 114 T (q*v1) r o_ (by
  have:=pT hq g.b1;have jK:bz*bz=281474976710656:=by decide
  have jK:bz=16777216:=rfl;omega)::.sD 115 r bz (r*bz) rfl (by
  have jK:bz=16777216:=rfl;rw[jK];omega)::.rw 117 (df (j+1)) (vI j) (dT j)::.sum 119 j (e+2) (j+(e+2)) rfl (by have:=g.hL;have:=g.h63;omega)::.eV 120 (j+(e+2)) 2 (j+e) o_ (by have:=g.hL;have:=g.h63;omega)::
 .ix f200 121 8 L (j+e) (by have:=g.hL;omega) k_::.ld f200 122 3 8 (j+e) (.row ru 3 1) (vI u2) rfl g.lu k_::.sum 123 (r*bz) u2 (r*bz+u2) rfl (by have:=g.bu;have jK:bz=16777216:=rfl;rw[jK];omega)::.gt 124 (q*v2) (r*bz+u2) t ht::more
noncomputable def aC6(g:GU e L j T v1 v2 u2 ru rv)(q r:Nat)(hq:q<bz)(hr:q*v1+r=T)(nB:r<2*bz)(t:Bool)(ht:decide (r<bz)=t)(more:bE prog Bs 238):bE prog Bs 238:=
 .eV 130 (e+2) 1 (e+1) o_ (by have:=g.hL;have:=g.h63;omega)::.ix f200 131 3 (e+2) (e+1) o_ k_::.ld f200 132 3 3 (e+1) (.row rv 3 1) (vI v1) rfl g.l1 k_::
 .sD 133 q v1 (q*v1) rfl (by
  have:=pT hq g.b1;have jK:bz*bz=281474976710656:=by decide
  omega)::.eV 134 T (q*v1) r o_ (by
  have:=pT hq g.b1;have jK:bz*bz=281474976710656:=by decide
  have jK:bz=16777216:=rfl;omega)::.lt 135 r bz t ht::more
theorem aOe(g:GU e L j T v1 v2 u2 ru rv){q r:Nat}(hq:q+1<bz)(hr:(q+1)*v1+r=T)(nB:r<bz)(ht:r*bz+u2<(q+1)*v2):
  ah prog Bs 238 (aE (af f200 2)) (xJ e L j T (q+1)) (xK ru rv) 10 ⟨.normal,xJ e L j T q,xK ru rv,10⟩:=
 fe mixed 200 (Vp g (q+1) r hq hr o_ true (aB ht) (aC6 g (q+1) r hq hr o_ true (aB nB) [.eV 138 (q+1) 1 q rfl (by have jK:bz=16777216:=rfl;omega)])) k_
theorem aOf(g:GU e L j T v1 v2 u2 ru rv){q r:Nat}(hq:q<bz)(hr:q*v1+r=T)(nB:r<2*bz)(ht:¬r*bz+u2<q*v2):
  ah prog Bs 238 (aE (af f200 2)) (xJ e L j T q) (xK ru rv) 10 ⟨.exit 2,xJ e L j T q,xK ru rv,10⟩:=
 fe mixed 200 (Vp g q r hq hr nB false (aJ ht) []) k_
theorem aOg(g:GU e L j T v1 v2 u2 ru rv){q r:Nat}(hq:q<bz)(hr:q*v1+r=T)(nB:r<2*bz)(ht:r*bz+u2<q*v2)(hr3:¬r<bz):
  ah prog Bs 238 (aE (af f200 2)) (xJ e L j T q) (xK ru rv) 10 ⟨.exit 2,xJ e L j T q,xK ru rv,10⟩:=
 fe mixed 200 (Vp g q r hq hr nB true (aB ht) (aC6 g q r hq hr nB false (aJ hr3) [])) k_
theorem aOh(g:GU e L j T v1 v2 u2 ru rv){U V q0:Nat}(h:l9 bz e U V T u2 v1 v2)(mI:q0=min (T/v1) (bz-1)):
  ∃ q,q<bz/\q*V<U+V/\U/V<=q/\∀ Bs,ah prog Bs 238 (.block 2 (af f200 2)) (xJ e L j T q0) (xK ru rv) 10 ⟨.normal,xJ e L j T q,xK ru rv,10⟩:=by
 have jK:bz=16777216:=rfl;have kz:0<v1:=by have:=h.top;omega
 have oy:=h.small;have bJ:=h.start;have aUY:q0<bz:=by rw[mI];exact eW (Nat.min_le_right _ _) o_
 have aUZ:q0*v1<=T:=by
  have h1:q0<=T/v1:=by rw[mI];exact Nat.min_le_left _ _
  exact dh (e8 _ h1) (CP _ _)
 obtain⟨r0,oh⟩:∃ r0,r0=T-q0*v1:=⟨_,rfl⟩;have g0:A3 U V T v1 q0 r0:=⟨by omega,by rw[mI];exact Nat.le_min.2 ⟨bJ.le,by omega⟩⟩
 have aOi:r0<2*bz:=by
  have hTb:T<v1*bz+bz:=by
   have h1:U<V*bz:=h.hU;rw[h.hT,iy (cG d_)];have h2:V<(v1+1)*bz^(e+1):=by rw[h.kz];exact(iy (cG d_)).1 (A5 _)
   have h3:=A4 h2 (show 0<bz by decide);have h4:(v1+1)*bz^(e+1)*bz=(v1*bz+bz)*bz^(e+1):=by rw[A7,ft v1 1 bz,pU]
   omega
  by_cases hc:T/v1<=bz-1
  ·have e1:q0=T/v1:=by rw[mI];exact nV hc
   have e2:r0=T%v1:=by have:=je T v1;rw[oh,e1,cP];omega
   have:=cH T kz;have:=h.CN;omega
  ·have e1:q0=bz-1:=by rw[mI];exact Vq o_
   obtain⟨k,hk⟩:∃ k,bz=k+1:=⟨bz-1,by omega⟩;have e2:q0*v1+v1=v1*bz:=by rw[e1,hk,Nq,cP v1,ft,pU]
   have:=h.CN;omega
 obtain⟨c,c1,c2,c3⟩:=yD (λi=>¬((r0+i*v1)*bz+u2<(q0-i)*v2/\r0+i*v1<bz)) q0 (by rw[ux,lB];omega)
 have inv:∀ i,i<=c->A3 U V T v1 (q0-i) (r0+i*v1)/\r0+i*v1<2*bz/\i<=q0:=by
  intro i;induction i with
  |zero=>intro _;rw[GN,lB,jn];exact⟨g0,aOi,kU _⟩
  |succ i ih=>
   intro hi;obtain⟨i1,i2,i3⟩:=ih o_;obtain⟨k1,k2⟩:=EP.1 (c3 i o_);obtain⟨l1,l2⟩:=h.less i1 (.inr k1);have e1:r0+(i+1)*v1=r0+i*v1+v1:=by rw[ft,pU];omega
   have e2:q0-(i+1)=q0-i-1:=by omega
   have:=h.CN;rw[e1,e2];exact⟨l2,by omega,by omega⟩
 obtain⟨gc,gb,gq⟩:=inv c (bh _);have DK:=h.fin gc (by
  by_cases k1:(r0+c*v1)*bz+u2<(q0-c)*v2
  ·exact .inr (Ox λk2=>c2 ⟨k1,k2⟩)
  ·exact .inl ⟨by omega,by omega⟩)
 refine⟨q0-c,DK.1,DK.2,gc.le,λBs=>?_⟩
 have:=ch (P:=prog) (B:=Bs) (N:=238) (b:=aE (af f200 2)) (next:=10) (r:=⟨.exit 2,xJ e L j T (q0-c),xK ru rv,10⟩) c (λi=>xJ e L j T (q0-i)) (λ_=>xK ru rv) (λ_ _ _=>Iff.rfl)
  (λi hi=>by
   obtain⟨i1,i2,i3⟩:=inv i o_;obtain⟨j1,j2,j3⟩:=inv (i+1) o_;obtain⟨k1,k2⟩:=EP.1 (c3 i hi);obtain⟨q,hq⟩:∃ q,q0-i=q+1:=⟨q0-i-1,by omega⟩;have Bw:q0-(i+1)=q:=by omega
   simp only[hq,Bw]at i1 k1 ⊢;exact aOe g o_ i1.eq k2 k1)
  (by
   by_cases k1:(r0+c*v1)*bz+u2<(q0-c)*v2
   ·exact aOg g o_ gc.eq gb k1 (λk2=>c2 ⟨k1,k2⟩)
   ·exact aOf g o_ gc.eq gb k1) n_
 exact bO (id:=2) this
end
theorem aC7(x:Int):IntKind.i64.wrap (((BitVec.ofInt IntKind.i64.bits x)&&& (BitVec.ofInt IntKind.i64.bits 16777215)).toNat:Int)=x%16777216:=aC3 x 24 d_
theorem aC8(x:Int):x.fdiv ((2:Int)^24)=x/16777216:=rM _ d_
section
variable{Bs:aa}{e L j U V q R D:Nat}{rv:aj}
def DL(e L j U V q i:Nat):aV:=[(16,.int .i64 (qX bz U V q i)),(17,vI i),(10,vI (e+2)),(11,sl 8 L),(13,df (j+1)),(15,vI q),(9,sl 3 (e+2))]
def pE(L j R D i:Nat):aj:=ai (cX bz L (j+i) (gg bz j R D) R)
def zL(L j R D i:Nat)(rv:aj):aH:=[(8,.row (pE L j R D i) 3 1),(3,.row rv 3 1)]
structure SU(e L j U V q R D:Nat)(rv:aj):Prop where
 hL:j+(e+2)+1<=L
 hU:U=R/bz^j
 xL:rv=ai (ae bz (e+2) V)
 hq:q<bz
 hD:D=fT bz (e+2) U V q
 Lk:q*V<=U+bz^(e+2+1)
 h63:L<35184372088832
theorem aOj(g:SU e L j U V q R D rv){i:Nat}(hi:i<e+2):
  ah prog Bs 238 (aE (af f200 4)) (DL e L j U V q i) (zL L j R D i rv) 10 ⟨.normal,DL e L j U V q (i+1),zL L j R D (i+1) rv,10⟩:=by
 have h63:=g.h63;have hL:=g.hL;have hq:=g.hq;have hc:=aC5 (B:=bz) d_ U V q i;have hs:=aOb (B:=bz) d_ (i:=i) g.Lk o_;rw[<-g.hD]at hs;have dj:=aN7 (B:=bz) d_ U V q i;have Vr:du prog 3 (pE L j R D i) (j+i)=some (vI (U/bz^i%bz)):=by have:=dJ (Cr (B:=bz) (n:=L) (i:=j+i) (s:=gg bz j R D) (p:=R) (j:=j+i) o_ (bh _));rw[Hf,<-g.hU]at this;exact this
 have Vt:du prog 3 rv i=some (vI (V/bz^i%bz)):=by rw[g.xL];exact dJ (eg hi)
 have bJ:eU prog 3 (pE L j R D i) (j+i) (vI (D/bz^i%bz))=some (pE L j R D (i+1)):=by unfold pE;rw[v8 (by rw[wR];omega),yE o_ (xc d_ j R D i).symm];rfl
 have hu:=gP (B:=bz) d_ U i;have hv:=gP (B:=bz) d_ V i;have jK:bz=16777216:=rfl;have aOk:((bz:Nat):Int)=16777216:=rfl;rw[aOk]at hs dj;unfold DL zL;generalize pE L j R D (i+1)=r1 at *;generalize pE L j R D i=r0 at *;generalize qX bz U V q (i+1)=c' at *;generalize qX bz U V q i=c at *;generalize D/bz^i%bz=z at *;generalize U/bz^i%bz=u at *;generalize V/bz^i%bz=v at *;have hp:=pT hq hv;rw[show bz*bz=281474976710656 by decide]at hp;have e1:(q:Int)*(v:Int)=((q*v:Nat):Int):=by simp
 rw[e1]at hs dj;generalize Vu:q*v=p at *;have w1:IntKind.i64.wrap ((u:Int)-(p:Int))=(u:Int)-(p:Int):=by rw[c8];omega
 have w2:IntKind.i64.wrap (c+((u:Int)-(p:Int)))=c+((u:Int)-(p:Int)):=by rw[c8];omega
 generalize hx:c+((u:Int)-(p:Int))=x at *;have w3:=aC7 x;rw[hs]at w3;have w4:=aC8 x;rw[dj]at w4;exact fe mixed 200 [.lt 141 i (e+2) true (by simp[hi]),.rw 146 (df (j+1)) (vI j) (dT j),.sum 148 j i (j+i) rfl o_,.ix f200 149 8 L (j+i) o_ k_,.ld f200 150 3 8 (j+i) (.row r0 3 1) (vI u) rfl Vr k_,.ix f200 154 3 (e+2) i hi k_,.ld f200 155 3 3 i (.row rv 3 1) (vI v) rfl Vt k_,.sD 156 q v p Vu.symm o_,.wr 157 .i64 _ _ w1,.wr 158 .i64 (c+((u:Int)-(p:Int))) x (by rw[hx];exact w2),.rw 160 (df (j+1)) (vI j) (dT j),.sum 162 j i (j+i) rfl o_,.wr 164 .i64 _ (z:Int) w3,.ix f200 165 8 L (j+i) o_ k_,.st f200 100165 3 8 (j+i) (.row r0 3 1) (vI z) (.row r1 3 1) rfl bJ rfl k_,.quo 167 .i64 _ c' w4,.sum 143 i 1 (i+1) rfl o_] k_
theorem aOl(g:SU e L j U V q R D rv):ah prog Bs 238 (.block 4 (af f200 4)) (DL e L j U V q 0) (zL L j R D 0 rv) 10 ⟨.normal,DL e L j U V q (e+2),zL L j R D (e+2) rv,10⟩:=
 bO (id:=4) (ch (b:=aE (af f200 4)) (r:=⟨.exit 4,DL e L j U V q (e+2),zL L j R D (e+2) rv,10⟩) (e+2) (DL e L j U V q) (λi=>zL L j R D i rv) (λk t _=>jP (l:=zL L j R D k rv) (m:=zL L j R D 0 rv) rfl t) (λk hk=>aOj g hk)
  (fe mixed 200 [.lt 141 (e+2) (e+2) false s_] k_) n_)
def DM(e L j V D q i:Nat):aV:=[(16,vI (eH bz D V i)),(18,vI i),(10,vI (e+2)),(11,sl 8 L),(13,df (j+1)),(15,vI q),(9,sl 3 (e+2))]
def qj(L j R D E m i:Nat):aj:=(ai (cX bz L (j+i) (gg bz j R E) (gg bz j R D))).set (j+m) (.int .i64 (-1))
def zM(L j R D E m i:Nat)(rv:aj):aH:=[(8,.row (qj L j R D E m i) 3 1),(3,.row rv 3 1)]
theorem aOm{E:Nat}(hL:j+(e+2)+1<=L)(xL:rv=ai (ae bz (e+2) V))(hE:E=(D+V)%bz^(e+2+1))(h63:L<35184372088832){i:Nat}(hi:i<e+2):
  ah prog Bs 238 (aE (af f200 6)) (DM e L j V D q i) (zM L j R D E (e+2) i rv) 10 ⟨.normal,DM e L j V D q (i+1),zM L j R D E (e+2) (i+1) rv,10⟩:=by
 have hc:=AO (B:=bz) d_ D V i;have hs:=SL (B:=bz) (V:=V) d_ (D:=D) (show i<=e+2 by omega);rw[<-hE]at hs;have dj:=EI (B:=bz) d_ D V i;have Vr:du prog 3 (qj L j R D E (e+2) i) (j+i)=some (vI (D/bz^i%bz)):=by unfold qj;rw[FP,List.getElem?_set_ne o_,<-FP,dJ (Cr o_ (bh _)),xc d_]
 have Vt:du prog 3 rv i=some (vI (V/bz^i%bz)):=by rw[xL];exact dJ (eg hi)
 have bJ:eU prog 3 (qj L j R D E (e+2) i) (j+i) (vI (E/bz^i%bz))=some (qj L j R D E (e+2) (i+1)):=by unfold qj;unfold vI;rw[Pu _ _ _ (by rw[Vv,lM,wR];omega),List.set_comm _ _ o_];have:=Pv (cX bz L (j+i) (gg bz j R E) (gg bz j R D)) (j+i) (E/bz^i%bz);unfold vI at this;rw[this,yE o_ (xc d_ j R E i).symm];rfl
 have hu:=gP (B:=bz) d_ D i;have hv:=gP (B:=bz) d_ V i;have jK:bz=16777216:=rfl;unfold DM zM;generalize qj L j R D E (e+2) (i+1)=r1 at *;generalize qj L j R D E (e+2) i=r0 at *;generalize eH bz D V (i+1)=c' at *;generalize eH bz D V i=c at *;generalize E/bz^i%bz=z at *;generalize D/bz^i%bz=u at *;generalize V/bz^i%bz=v at *;rw[show u+v+c=c+(u+v)by omega]at hs dj;have w3:=aC7 ((c+(u+v):Nat):Int);have w4:=aC8 ((c+(u+v):Nat):Int);rw[show((c+(u+v):Nat):Int)%16777216=(z:Int)by rw[<-hs];rfl]at w3;rw[show((c+(u+v):Nat):Int)/16777216=(c':Int)by rw[<-dj];rfl]at w4;exact fe mixed 200 [.lt 188 i (e+2) true (by simp[hi]),.rw 193 (df (j+1)) (vI j) (dT j),.sum 195 j i (j+i) rfl o_,.ix f200 196 8 L (j+i) o_ k_,.ld f200 197 3 8 (j+i) (.row r0 3 1) (vI u) rfl Vr k_,.ix f200 200 3 (e+2) i hi k_,.ld f200 201 3 3 i (.row rv 3 1) (vI v) rfl Vt k_,.sum 202 u v (u+v) rfl o_,.sum 203 c (u+v) (c+(u+v)) rfl o_,.rw 205 (df (j+1)) (vI j) (dT j),.sum 207 j i (j+i) rfl o_,.wr 209 .i64 _ (z:Int) w3,.ix f200 210 8 L (j+i) o_ k_,.st f200 100210 3 8 (j+i) (.row r0 3 1) (vI z) (.row r1 3 1) rfl bJ rfl k_,.quo 212 .i64 _ (c':Int) w4,.sum 190 i 1 (i+1) rfl o_] k_
theorem aOn{E:Nat}(hL:j+(e+2)+1<=L)(xL:rv=ai (ae bz (e+2) V))(hE:E=(D+V)%bz^(e+2+1))(h63:L<35184372088832):
  ah prog Bs 238 (.block 6 (af f200 6)) (DM e L j V D q 0) (zM L j R D E (e+2) 0 rv) 10 ⟨.normal,DM e L j V D q (e+2),zM L j R D E (e+2) (e+2) rv,10⟩:=
 bO (id:=6) (ch (b:=aE (af f200 6)) (r:=⟨.exit 6,DM e L j V D q (e+2),zM L j R D E (e+2) (e+2) rv,10⟩) (e+2) (DM e L j V D q) (λi=>zM L j R D E (e+2) i rv) (λk t _=>jP (l:=zM L j R D E (e+2) k rv) (m:=zM L j R D E (e+2) 0 rv) rfl t) (λk hk=>aOm hL xL hE h63 hk)
  (fe mixed 200 [.lt 188 (e+2) (e+2) false s_] k_) n_)
end
theorem aOo{B L i S R:Nat}(hi:i<L)(hR:R<B^(i+1))(hS:S<B^(i+1))(hB:0<B)(x:Value):(ai (cX B L i S R)).set i x=(ai (ae B L S)).set i x:=by have h:=yE (B:=B) (n:=L) (i:=i) (s:=S) (p:=R) hi rfl;rw[E1 hB hR hS]at h;rw[<-h,<-Pv,List.set_set]
structure Ll(e L A V:Nat):Prop where
 hV:V<bz^(e+2)
 top:bz<=2*(V/bz^(e+1))
 hL:e+3<=L
 hA:A<V*bz^(L-(e+2))
 h63:L<35184372088832
theorem Ll.pos{e L A V:Nat}(h:Ll e L A V):0<V:=by
 rcases nZ V with e1|e1
 ·have:=h.hA;rw[e1,lB]at this;omega
 ·exact e1
section
variable{Bs:aa}{e L A V p:Nat}
def DN(e L p j:Nat):aV:=[(13,df j),(12,sl 9 p),(10,vI (e+2)),(9,sl 3 (e+2)),(11,sl 8 L)]
def zO(e L A V p j:Nat):aH:=[(8,.row (ai (ae bz L (A%(V*bz^j)))) 3 1),(9,.row (ai (gz bz p j (A/V))) 3 1),(3,.row (ai (ae bz (e+2) V)) 3 1)]
theorem aOp(h:Ll e L A V){j:Nat}(hp:p+(e+2)=L)(hj:j<p):
  ah prog Bs 238 (aE (af f200 0)) (DN e L p (j+1)) (zO e L A V p (j+1)) 10 ⟨.normal,DN e L p j,zO e L A V p j,10⟩:=by
 have h63:=h.h63;have qD:=h.pos;have hV:=h.hV;have AJ:j+(e+2)+1<=L:=by omega
 obtain⟨R,hR⟩:∃ R,R=A%(V*bz^(j+1)):=⟨_,rfl⟩;obtain⟨U,hU⟩:∃ U,U=R/bz^j:=⟨_,rfl⟩;have Ir:U<V*bz:=by rw[hU,hR];exact Z0 d_ qD A j
 have ry:=ZY (B:=bz) d_ A V j;have aC9:=ZZ (B:=bz) A V j;rw[<-hR,<-hU]at ry aC9;have yW:R<bz^(j+(e+2)+1):=by
  have h1:R<V*bz^(j+1):=by rw[hR];exact cH _ (qE qD (cG d_))
  have h2:V*bz^(j+1)<=bz^(e+2)*bz^(j+1):=e8 _ (iM hV);rw[<-ep,show e+2+(j+1)=j+(e+2)+1 by omega]at h2;omega
 have aOq:U<bz^(e+2+1):=by rw[dw];exact cx Ir (e8 _ (iM hV))
 obtain⟨T,hT⟩:∃ T,T=U/bz^(e+1):=⟨_,rfl⟩;obtain⟨v1,kz⟩:∃ v1,v1=V/bz^(e+1):=⟨_,rfl⟩;have aDa:V/bz^(e+1)%bz=v1:=by rw[kz];exact EH hV
 have aDb:v1<bz:=by rw[<-aDa];exact cH _ d_
 have ds:l9 bz e U V T (U/bz^e%bz) v1 (V/bz^e%bz):={ hB:=by decide,hU:=Ir,hT:=hT,hu:=rfl,kz:=kz,iw:=rfl,top:=by rw[kz];exact h.top,CN:=aDb };have lU:∀ i,i<=e+2->du prog 3 (ai (ae bz L R)) (j+i)=some (vI (U/bz^i%bz)):=λi hi=>by have:=dJ (eg (B:=bz) (n:=L) (a:=R) (i:=j+i) o_);rw[Hf,<-hU]at this;exact this
 obtain⟨rv,xL⟩:∃ rv,rv=ai (ae bz (e+2) V):=⟨_,rfl⟩;have Vw:du prog 3 rv (e+1)=some (vI v1):=by rw[xL,<-aDa];exact dJ (eg o_)
 have lV0:du prog 3 rv e=some (vI (V/bz^e%bz)):=by rw[xL];exact dJ (eg o_)
 have g:GU e L j T v1 (V/bz^e%bz) (U/bz^e%bz) (ai (ae bz L R)) rv:=⟨AJ,Vw,lV0,lU e o_,aDb,cH _ d_,cH _ d_,h63⟩;obtain⟨q0,mI⟩:∃ q0,q0=min (T/v1) (bz-1):=⟨_,rfl⟩;obtain⟨q,Hj,Lk,aOr,gl⟩:=aOh g ds mI;obtain⟨D,hD⟩:∃ D,D=fT bz (e+2) U V q:=⟨_,rfl⟩;have aOs:D<bz^(e+2+1):=by rw[hD];exact SJ d_
 have aU0:V<=bz^(e+2+1):=dh (iM hV) (cY d_ o_);have sg:SU e L j U V q R D rv:=⟨AJ,hU,xL,Hj,hD,by omega,h63⟩;have sl:=aOl (Bs:=Bs) sg;have Vx:gg bz j R D<bz^(j+(e+2)+1):=by have:=He (B:=bz) d_ (j:=j) R aOs;rwa[show j+(e+2+1)=j+(e+2)+1 by omega]at this
 have qc:pE L j R D 0=ai (ae bz L R):=by unfold pE;rw[jn,Nr d_]
 have iX:du prog 3 (pE L j R D (e+2)) (j+(e+2))=some (vI (U/bz^(e+2)%bz)):=by have:=dJ (Cr (B:=bz) (n:=L) (i:=j+(e+2)) (s:=gg bz j R D) (p:=R) (j:=j+(e+2)) o_ (bh _));rw[Hf,<-hU]at this;exact this
 have xe:=aOc (B:=bz) d_ hV Ir Lk;have hsb:=aC5 (B:=bz) d_ U V q (e+2);have Lm:U/bz^(e+2)%bz*bz+U/bz^(e+1)%bz=T:=by have h1:=wS (B:=bz) U (e+1);have h2:U/bz^(e+2)%bz=U/bz^(e+2):=EH aOq;rw[h2,hT];exact h1.symm
 have jO:U/bz^(e+2)%bz<bz:=cH _ d_;have vO:U/bz^(e+1)%bz<bz:=cH _ d_;have jw:=lU (e+2) (bh _);have u7:=lU (e+1) o_;have Vy:eU prog 3 (ai (gz bz p (j+1) (A/V))) j (vI (U/V))=some (ai (gz bz p j (A/V))):=by rw[v8 (by rw[MZ];exact hj),M4 hj aC9]
 have hTb:T<281474976710656+16777216:=by have jK:bz=16777216:=rfl;rw[jK]at jO vO Lm;omega
 have E3:(v1:Int)≠0:=by have:=ds.top;have jK:bz=16777216:=rfl;omega
 have wq:IntKind.i64.wrap (Int.tdiv (T:Int) (v1:Int))=((T/v1:Nat):Int):=by have hq:T/v1<=T:=th _ _;rw[yO o_,<-tg,c8];omega
 unfold DN zO;rw[<-hR,<-xL];unfold DL zL at sl;rw[qc,aN5]at sl;unfold xJ xK at gl;have gl:=gl Bs;have jK:bz=16777216:=rfl;rw[<-hD]at xe;by_cases hb:U<q*V
 ·-- the aU1 YR too aU2
  obtain⟨g1,g2⟩:=ZX (B:=bz) d_ hV Ir Lk hb;have J3:=aOd (B:=bz) d_ hV Ir Lk hb;rw[<-hD]at g2 J3;obtain⟨E,hE⟩:∃ E,E=(D+V)%bz^(e+2+1):=⟨_,rfl⟩;have bl:=aOn (Bs:=Bs) (q:=U/V) (R:=R) (D:=D) AJ xL hE h63;rw[<-hE]at g2;rw[<-g2]at ry;have aDc:E<bz^(e+2):=by rw[g2];exact l8 (cH _ qD) hV
  have hS2:gg bz j R E<bz^(j+(e+2)+1):=by have:=He (B:=bz) d_ (j:=j) R (cx aDc (cY (n:=bz) d_ (yq _)));rwa[show j+(e+2).succ=j+(e+2)+1 by omega]at this
  have kF:qj L j R D E (e+2) 0=(pE L j R D (e+2)).set (j+(e+2)) (.int .i64 (-1)):=by unfold qj pE;rw[aOo o_ yW Vx d_,jn,<-ZU d_ j R D E,Nr d_]
  have J1:eU prog 3 (pE L j R D (e+2)) (j+(e+2)) (.int .i64 (-1))=some (qj L j R D E (e+2) 0):=by rw[kF];exact Pu _ _ _ (by unfold pE;rw[lM,wR];omega)
  have DO:∀ i,du prog 3 (qj L j R D E (e+2) i) (j+(e+2))=some (.int .i64 (-1)):=λi=>by unfold qj;rw[FP,List.getElem?_set_self (by rw[lM,wR];omega)]
  have aOt:=DO 0;have aOu:=DO (e+2);have SP:eU prog 3 (qj L j R D E (e+2) (e+2)) (j+(e+2)) (.int .i64 0)=some (ai (ae bz L (A%(V*bz^j)))):=by unfold qj;rw[Pu _ _ _ (by rw[Vv,lM,wR];omega),List.set_set];have h1:=yE (B:=bz) (n:=L) (i:=j+(e+2)) (s:=gg bz j R E) (p:=gg bz j R D) (d:=0) o_ (by rw[xc d_,qC aDc (bh _) d_]);rw[E1 d_ Vx hS2]at h1;have h2:=Pv (cX bz L (j+(e+2)) (gg bz j R E) (gg bz j R D)) (j+(e+2)) 0;rw[h1]at h2;exact cI some (h2.trans (by rw[ry]))
  rw[aw hb]at xe;unfold DM zM at bl;rw[MV,J3]at bl;generalize ai (ae bz L (A%(V*bz^j)))=r9 at *;generalize ai (ae bz L R)=r0 at *;generalize pE L j R D (e+2)=r1 at *;generalize qj L j R D E (e+2) 0=r2 at *;generalize qj L j R D E (e+2) (e+2)=r3 at *;generalize ai (gz bz p (j+1) (A/V))=p0 at *;generalize ai (gz bz p j (A/V))=p1 at *;generalize qX bz U V q (e+2)=c at *;generalize U/bz^(e+2)%bz=t1 at *;generalize U/bz^(e+1)%bz=t0 at *;generalize U/V=qq at *;have Vz:IntKind.i64.wrap ((t1:Int)+c)=-1:=by rw[c8];omega
  have m1:t1*bz<281474976710656:=by rw[jK];omega
  obtain⟨x1,gZ⟩:∃ x1,x1=t1*bz:=⟨_,rfl⟩;rw[<-gZ]at Lm m1;exact fe mixed 400 [.rw 72 (df (j+1)) (vI j) (dT j),.ge 73 j 0 true s_,.rw 77 (df (j+1)) (vI j) (dT j),.sum 79 j (e+2) (j+(e+2)) rfl o_,.ix f200 80 8 L (j+(e+2)) o_ k_,.ld f200 81 3 8 (j+(e+2)) (.row r0 3 1) (vI t1) rfl jw k_,.sD 82 t1 bz x1 gZ o_,.rw 84 (df (j+1)) (vI j) (dT j),.sum 86 j (e+2) (j+(e+2)) rfl o_,.eV 87 (j+(e+2)) 1 (j+(e+1)) o_ o_,.ix f200 88 8 L (j+(e+1)) o_ k_,.ld f200 89 3 8 (j+(e+1)) (.row r0 3 1) (vI t0) rfl u7 k_,.sum 90 x1 t0 T Lm.symm o_,.eV 94 (e+2) 1 (e+1) o_ o_,.ix f200 95 3 (e+2) (e+1) o_ k_,.ld f200 96 3 3 (e+1) (.row rv 3 1) (vI v1) rfl Vw k_,.pW f200 97 .i64 (T:Int) (v1:Int) ((T/v1:Nat):Int) E3 wq k_,.PI f200 98 (T/v1) (bz-1) q0 mI k_,.code 2 _ _ _ _ _ gl,.code 4 _ _ _ _ _ sl,.rw 169 (df (j+1)) (vI j) (dT j),.sum 171 j (e+2) (j+(e+2)) rfl o_,.ix f200 172 8 L (j+(e+2)) o_ k_,.ld f200 173 3 8 (j+(e+2)) (.row r1 3 1) (vI t1) rfl iX k_,.wr 175 .i64 ((t1:Int)+c) (-1) Vz,.ix f200 176 8 L (j+(e+2)) o_ k_,.st f200 100176 3 8 (j+(e+2)) (.row r1 3 1) (.int .i64 (-1)) (.row r2 3 1) rfl J1 rfl k_,.rw 178 (df (j+1)) (vI j) (dT j),.sum 180 j (e+2) (j+(e+2)) rfl o_,.ix f200 181 8 L (j+(e+2)) o_ k_,.ld f200 182 3 8 (j+(e+2)) (.row r2 3 1) (.int .i64 (-1)) rfl aOt k_,.eV 185 q 1 qq o_ o_,.code 6 _ _ _ _ _ bl,.rw 214 (df (j+1)) (vI j) (dT j),.sum 216 j (e+2) (j+(e+2)) rfl o_,.ix f200 217 8 L (j+(e+2)) o_ k_,.ld f200 218 3 8 (j+(e+2)) (.row r3 3 1) (.int .i64 (-1)) rfl aOu k_,.wr 220 .i64 (-1+((1:Nat):Int)) 0 d_,.ix f200 221 8 L (j+(e+2)) o_ k_,.st f200 100221 3 8 (j+(e+2)) (.row r3 3 1) (.int .i64 0) (.row r9 3 1) rfl SP rfl k_,
   .rw 223 (df (j+1)) (vI j) (dT j),.ix f200 225 9 p j hj k_,.st f200 100225 3 9 j (.row p0 3 1) (vI qq) (.row p1 3 1) rfl Vy rfl k_,.rw 74 (df (j+1)) (vI j) (dT j),.wr 75 .i64 ((j:Int)-1) ((j:Int)-1) (oL o_)] k_
 ·obtain⟨g1,g2⟩:=ZW (B:=bz) d_ hV Ir aOr hb;rw[<-hD]at g2;rw[<-g2]at ry;have J1:eU prog 3 (pE L j R D (e+2)) (j+(e+2)) (vI (D/bz^(e+2)%bz))=some (ai (ae bz L (A%(V*bz^j)))):=by unfold pE;rw[v8 (by rw[wR];omega),yE o_ (xc d_ j R D (e+2)).symm,E1 d_ yW Vx,ry]
  have DO:du prog 3 (ai (ae bz L (A%(V*bz^j)))) (j+(e+2))=some (vI (D/bz^(e+2)%bz)):=by rw[<-ry,dJ (eg o_),xc d_]
  rw[ao hb]at xe;have Uj:D/bz^(e+2)%bz<bz:=cH _ d_;rw[<-g1]at Vy;generalize ai (ae bz L (A%(V*bz^j)))=r9 at *;generalize ai (ae bz L R)=r0 at *;generalize pE L j R D (e+2)=r1 at *;generalize ai (gz bz p (j+1) (A/V))=p0 at *;generalize ai (gz bz p j (A/V))=p1 at *;generalize qX bz U V q (e+2)=c at *;generalize U/bz^(e+2)%bz=t1 at *;generalize U/bz^(e+1)%bz=t0 at *;generalize D/bz^(e+2)%bz=d at *;have Vz:IntKind.i64.wrap ((t1:Int)+c)=(d:Int):=by rw[c8];omega
  have m1:t1*bz<281474976710656:=by rw[jK];omega
  obtain⟨x1,gZ⟩:∃ x1,x1=t1*bz:=⟨_,rfl⟩;rw[<-gZ]at Lm m1;exact fe mixed 400 [.rw 72 (df (j+1)) (vI j) (dT j),.ge 73 j 0 true s_,.rw 77 (df (j+1)) (vI j) (dT j),.sum 79 j (e+2) (j+(e+2)) rfl o_,.ix f200 80 8 L (j+(e+2)) o_ k_,.ld f200 81 3 8 (j+(e+2)) (.row r0 3 1) (vI t1) rfl jw k_,.sD 82 t1 bz x1 gZ o_,.rw 84 (df (j+1)) (vI j) (dT j),.sum 86 j (e+2) (j+(e+2)) rfl o_,.eV 87 (j+(e+2)) 1 (j+(e+1)) o_ o_,.ix f200 88 8 L (j+(e+1)) o_ k_,.ld f200 89 3 8 (j+(e+1)) (.row r0 3 1) (vI t0) rfl u7 k_,.sum 90 x1 t0 T Lm.symm o_,.eV 94 (e+2) 1 (e+1) o_ o_,.ix f200 95 3 (e+2) (e+1) o_ k_,.ld f200 96 3 3 (e+1) (.row rv 3 1) (vI v1) rfl Vw k_,.pW f200 97 .i64 (T:Int) (v1:Int) ((T/v1:Nat):Int) E3 wq k_,.PI f200 98 (T/v1) (bz-1) q0 mI k_,.code 2 _ _ _ _ _ gl,.code 4 _ _ _ _ _ sl,.rw 169 (df (j+1)) (vI j) (dT j),.sum 171 j (e+2) (j+(e+2)) rfl o_,.ix f200 172 8 L (j+(e+2)) o_ k_,.ld f200 173 3 8 (j+(e+2)) (.row r1 3 1) (vI t1) rfl iX k_,.wr 175 .i64 ((t1:Int)+c) (d:Int) Vz,.ix f200 176 8 L (j+(e+2)) o_ k_,.st f200 100176 3 8 (j+(e+2)) (.row r1 3 1) (vI d) (.row r9 3 1) rfl J1 rfl k_,.rw 178 (df (j+1)) (vI j) (dT j),.sum 180 j (e+2) (j+(e+2)) rfl o_,.ix f200 181 8 L (j+(e+2)) o_ k_,.ld f200 182 3 8 (j+(e+2)) (.row r9 3 1) (vI d) rfl DO k_,.lt 183 d 0 false s_,.rw 223 (df (j+1)) (vI j) (dT j),.ix f200 225 9 p j hj k_,.st f200 100225 3 9 j (.row p0 3 1) (vI q) (.row p1 3 1) rfl Vy rfl k_,.rw 74 (df (j+1)) (vI j) (dT j),.wr 75 .i64 ((j:Int)-1) ((j:Int)-1) (oL o_)] k_
theorem aOv(h:Ll e L A V)(hp:p+(e+2)=L):
  ah prog Bs 238 (.block 0 (af f200 0)) (DN e L p p) (zO e L A V p p) 10 ⟨.normal,DN e L p 0,zO e L A V p 0,10⟩:=by
 have:=ch (P:=prog) (B:=Bs) (N:=238) (b:=aE (af f200 0)) (next:=10) (r:=⟨.exit 0,DN e L p 0,zO e L A V p 0,10⟩) p (λi=>DN e L p (p-i)) (λi=>zO e L A V p (p-i)) (λi t _=>jP (l:=zO e L A V p (p-i)) (m:=zO e L A V p (p-0)) rfl t)
  (λi hi=>by
   have e1:p-i=(p-(i+1))+1:=by omega
   simp only[e1];exact aOp h hp o_)
  (by simp only[ux];exact aA [.rw 73 (.bool (decide (((0:Nat):Int)-1>=0))) (.bool false) rfl]) n_
 exact bO (id:=0) this
end
def BP(w:World)(v:Value)(a:Nat):Prop:=cK w v (nd bz a) (cJ a)
def uY(w w':World)(v:Value)(a:Nat):Prop:=w'.ownsRow w.heap.size 3 1 v (nd bz a) (cJ a)
theorem PK{w w':World}{ι:Map}{c:Nat->Option Obj}(hm:aM (aa.at w) ι c w'){k n a:Nat}{v:Value}(hk:c k=some (.row (ai (ae bz n a)) 3 1))(ha:a<bz^n)(hv:aG ι (sl k (nd bz a)) v):uY w w' v a:=by have:=vo hm hk hv (F0 ha) (kv _);rw[BL ha]at this;exact this
theorem PL{s:Nat}(h:s<bz):ae bz 1 s=[s]:=by simp[ae,dF h]
theorem VA{s:Nat}(h:s<bz)(h0:s≠0):nd bz s=1:=by have h3:=jd (B:=bz) (n:=1) d_ (by rw[CF];exact h);have h4:=ur (B:=bz) d_ h0;omega
theorem aOw{A n:Nat}(h:A<bz^n):ae bz (n+2) A=ae bz n A++[0,0]:=by unfold ae;rw[show n+2=n+1+1 from rfl,HM,HM,sW,sW,Ey];simp only[rI,SE,EW,jo];rw[qC h (bh _) d_,qC h (yq _) d_]
theorem aOx{B d:Nat}(hd:0<d)(mH:d<B)(he:B%2=0):B<=2*(d*(B/(d+1))):=by
 obtain⟨s,hs⟩:∃ s,s=B/(d+1):=⟨_,rfl⟩;rw[<-hs];have hdm:=je B (d+1);have Ni:=cH B (show 0<d+1 by omega);rw[<-hs]at hdm;have wJ:0<s:=by rw[hs];exact Nu mH (S1 d)
 rcases eC (2*d) B with h|h
 ·apply Ox;intro al;have al:2*(d*s)+2<=B:=by omega
  obtain⟨X,hX⟩:∃ X,X=(d+1)*s:=⟨_,rfl⟩;rw[<-hX]at hdm;have h1:=e8 (d+1) al;rw[ft,fG,fG d s,cP s,<-hX,oJ B,fZ]at h1;have h2:=jr d (show B<=X+d by omega);rw[oJ]at h2;obtain⟨k,hk⟩:∃ k,d=k+1:=⟨d-1,by omega⟩;have h3:=jr k (iM h);have h4:d*B=k*B+B:=by rw[hk,ft,pU]
  have h5:k*(2*d)+2*d=2*(d*d):=by
   have:d*d=k*d+d:=by conv=>lhs;rw[hk,ft,pU,<-hk]
   rw[this,mG];omega
  rw[cP B d]at h1;omega
 ·have:=jr d wJ;rw[fZ]at this;have:d*1<=d*s:=jr d wJ;omega
theorem VB{a b:Nat}{t:Bool}(h:decide (a<b)=t):Value.bool (decide (gQ a b<0))=.bool t:=by
 rw[<-h];congr 1;rw[s9];unfold gQ
 by_cases h1:a<b
 ·rw[aw h1];omega
 ·rw[ao h1];by_cases h2:b<a
  ·rw[aw h2];omega
  ·rw[ao h2];omega
theorem aVZ{w:World}{va vb:Value}{a b:Nat}(ga:BP w va a)(kY:BP w vb b)(bZ:a<b)(h1:nd bz a<35184372088832)(h2:nd bz b<35184372088832):
  Calls prog 200 #[va,vb] w λe w'=>e=.returned (.tuple #[.slice none 0 0,va])/\Below w.heap.size w w':=by
 have hl:∀ s∈[cz.row va (nd bz a) (cJ a),cz.row vb (nd bz b) (cJ b)],s.OK w:=by
  intro s hs;simp at hs;rcases hs with rfl|rfl
  ·exact⟨ga,kv _⟩
  ·exact⟨kY,kv _⟩
 refine lC (Q:=λe w'=>e=.returned (.tuple #[.slice none 0 0,va])/\Below w.heap.size w w') mixed func200 [cz.row va (nd bz a) (cJ a),cz.row vb (nd bz b) (cJ b)] hl 200 (N:=238) k_
  (rs:=[(.uX f200 23 0 1 a b (.view (cJ a)) (.view (cJ b)) rfl rfl rfl rfl h1 h2 k_:aX prog (aa.at w) 238),.rw 24 _ (.bool true) (VB (a:=a) (b:=b) (aB bZ))])
  (v:=.tuple #[.slice none 0 0,sl 0 (nd bz a)]) (ms:=[]) k_ λau bY v' w' jY bj _ de=>⟨?_,bj.base⟩
 obtain⟨cM,rfl,ba⟩:=jY.ub;obtain⟨p,q,hp,h3,h4⟩:=jx ba;cases de with
 |cons h5 _=>
 have:q=va:=Jy h4 h5;have e:cM=#[p,q]:=vh.1 (by rw[hp]);rw[e,h3.eR rfl,this]
theorem aU8{w:World}{va vb:Value}{a b:Nat}(ga:BP w va a)(kY:BP w vb b)(bZ:b<=a)(kF:b≠0)(hb:b<bz)(h1:nd bz a<35184372088832):
  Calls prog 200 #[va,vb] w λe w'=>∃ vq vr,e=.returned (.tuple #[vq,vr])/\uY w w' vq (a/b)/\uY w w' vr (a%b)/\Below w.heap.size w w':=by
 have cW:=VA hb kF;have mO:cJ b=[vI b]:=by unfold cJ;rw[cW,PL hb];rfl
 have E4:cK w vb 1 [vI b]:=by have:=kY;unfold BP at this;rw[cW,mO]at this;exact this
 have hl:∀ s∈[cz.row va (nd bz a) (cJ a),cz.row vb 1 [vI b]],s.OK w:=by
  intro s hs;simp at hs;rcases hs with rfl|rfl
  ·exact⟨ga,kv _⟩
  ·exact⟨E4,λv hv=>by simp at hv;subst hv;rfl⟩
 have hr:a%b<bz:=l8 (cH _ (te kF)) hb;have tL:a%b<bz^1:=by rw[CF];exact hr
 have kX:cA prog (aa.at w) (av f200 23) [.func (.func 96) #[] #[],sl 0 (nd bz a),sl 1 1] [(0,some (.view (cJ a))),(1,some (.view [vI b]))] (.int .i64 (gQ a b)) []:=by have:=dE (B:=aa.at w) (o:=av f200 23) (x:=.func 96) (Vk (a:=a) (b:=b) h1 o_) (nK (k:=0) (x:=.view (cJ a)) rfl rfl (nK (k:=1) (x:=.view (cJ b)) rfl rfl .nil)) k_ k_ rfl;rw[cW,mO]at this;exact this
 refine lC (Q:=λe w'=>∃ vq vr,e=.returned (.tuple #[vq,vr])/\uY w w' vq (a/b)/\uY w w' vr (a%b)/\Below w.heap.size w w') mixed func200 [cz.row va (nd bz a) (cJ a),cz.row vb 1 [vI b]] hl 200 (N:=238) k_
  (rs:=[(.step 23 (av f200 23) _ _ _ _ kX:aX prog (aa.at w) 238),.rw 24 _ (.bool false) (VB (a:=a) (b:=b) (aJ o_)),.ld f200 33 3 1 0 (.view [vI b]) (vI b) rfl (by rw[FP];rfl) k_,.step 34 (av f200 34) _ _ _ _ (UW (x:=.func 219) (aC4 (te kF) hb h1) (nK (k:=0) (x:=.view (cJ a)) rfl rfl (.p (v:=vI b) rfl .nil)) k_ k_ (sB _) rfl 2),.bs f200 39 3 1 3 1 [0] (vI 0) [vI (a%b)] #[vI (a%b)] (.row (ai (ae bz 1 (a%b))) 3 1) (by rw[PL hr];rfl) (λv hv=>by simp at hv;subst hv;rfl) (λv hv=>by simp at hv;subst hv;rfl) k_ rfl o_ o_ k_,.Dx f200 40 3 1 (a%b) (.row (ai (ae bz 1 (a%b))) 3 1) rfl rfl tL o_ k_])
  (v:=.tuple #[sl 2 (nd bz (a/b)),sl 3 (nd bz (a%b))]) (ms:=[(2,cr (a/b)),(3,.row (ai (ae bz 1 (a%b))) 3 1)]) k_ λau bY v' w' jY bj dz _=>?_
 obtain⟨cM,rfl,ba⟩:=jY.ub;obtain⟨p,q,hp,h3,h4⟩:=jx ba;have e:cM=#[p,q]:=vh.1 (by rw[hp]);subst e;exact⟨p,q,rfl,PK bj (dz _ (aT ..)) (dO d_ _) h3,PK bj (dz _ (bB _ (aT ..))) tL h4,bj.base⟩
theorem aVS{w:World}{va vb:Value}{a b e:Nat}(ga:BP w va a)(kY:BP w vb b)(bZ:b<=a)(hb:nd bz b=e+2)(h1:nd bz a<17592186044000):
  Calls prog 200 #[va,vb] w λe w'=>∃ vq vr,e=.returned (.tuple #[vq,vr])/\uY w w' vq (a/b)/\uY w w' vr (a%b)/\Below w.heap.size w w':=by
 have jK:bz=16777216:=rfl;have al:=dO (B:=bz) d_ b;rw[hb]at al;have hp:0<bz^(e+1):=cG d_;have dM:bz^(e+1)<=b:=YZ d_ o_;have kF:0<b:=cx hp dM;obtain⟨d,hd⟩:∃ d,d=b/bz^(e+1):=⟨_,rfl⟩;have lH:b/bz^(e+1)%bz=d:=by rw[hd];exact EH al
 have mH:d<bz:=by rw[<-lH];exact cH _ d_
 have CU:0<d:=by rw[hd];exact Nu dM hp
 obtain⟨s,hs⟩:∃ s,s=bz/(d+1):=⟨_,rfl⟩;have bJ:=aOx CU mH d_;rw[<-hs]at bJ;have qc:0<s:=by rw[hs];exact Nu mH (S1 d)
 have FQ:s*(d+1)<=bz:=by rw[hs];exact CP _ _
 have PM:s<bz:=by have:=jr s (show 2<=d+1 by omega);omega
 have xb:b*s<bz^(e+2):=by
  have h3:b<(d+1)*bz^(e+1):=by rw[hd];exact(iy hp).1 (A5 _)
  have h5:=A4 h3 qc;have h6:=e8 (bz^(e+1)) FQ;rw[cP bz,<-dw]at h6;have e1:(d+1)*bz^(e+1)*s=s*(d+1)*bz^(e+1):=by rw[cP _ s,fG]
  rw[e1]at h5;exact cx h5 h6
 have aDd:b<=b*s:=ES _ qc;have Ny:nd bz (b*s)=e+2:=ZG (jd d_ xb) (by rw[<-hb];exact iL d_ aDd);have xe:bz<=2*(b*s/bz^(e+1)):=by
  have:d*s<=b*s/bz^(e+1):=by rw[CO hp,A7];refine e8 _ ?_;rw[hd];exact CP _ _
  omega
 obtain⟨n,hn⟩:∃ n,n=nd bz (a*s):=⟨_,rfl⟩;have hA:=dO (B:=bz) d_ (a*s);rw[<-hn]at hA;have hnb:n<=nd bz a+1:=by rw[hn];refine jd d_ ?_;rw[dw];exact pT (dO (B:=bz) d_ a) PM
 have aU3:e+2<=n:=by rw[hn,<-hb];exact iL d_ (dh bZ (ES _ qc))
 obtain⟨p,Vu⟩:∃ p,p+(e+2)=n+2:=⟨n+2-(e+2),by omega⟩;have VC:a*s<b*s*bz^p:=by have h3:bz^(e+1)*bz^p<=b*s*bz^p:=e8 _ (dh dM aDd);rw[<-ep,show e+1+p=n+1 by omega]at h3;have h4:bz^n<=bz^(n+1):=cY d_ (yq _);omega
 have dv:Ll e (n+2) (a*s) (b*s):=⟨xb,xe,by omega,by rw[show n+2-(e+2)=p by omega];exact VC,by omega⟩;have lo:=λBs=>aOv (Bs:=Bs) dv Vu;have hQ:a*s/(b*s)=a/b:=Z4 _ _ qc;have S7:a*s%(b*s*bz^0)=a%b*s:=by rw[rN,fZ,Z3]
 have S6:a*s%(b*s*bz^p)=a*s:=dF VC;have J5:a/b<bz^p:=by rw[<-hQ,iy dv.pos,cP (bz^p)];exact VC
 have Ho:a%b*s<bz^(n+2):=by have h3:a%b*s<=a*s:=e8 _ (JH _ _);have h4:bz^n<=bz^(n+2):=cY d_ o_;omega
 have hnr:nd bz (a%b*s)<35184372088832:=by have:=jd (B:=bz) d_ Ho;omega
 unfold zO at lo;rw[S6,S7,hQ,M3,JI,<-K8]at lo;have hcA:cJ (a*s)++[vI 0,vI 0]=ai (ae bz (n+2) (a*s)):=by unfold cJ ai;rw[<-hn,aOw hA,sW];rfl
 have Ek:=VA PM o_;have fX:cJ s=[vI s]:=by unfold cJ;rw[Ek,PL PM];rfl
 have mO:cJ b=ai (ae bz (e+2) b):=by unfold cJ;rw[hb]
 have hcV:cJ (b*s)=ai (ae bz (e+2) (b*s)):=by unfold cJ;rw[Ny]
 have E4:cK w vb (e+2) (ai (ae bz (e+2) b)):=by have:=kY;unfold BP at this;rw[hb,mO]at this;exact this
 have hl:∀ s∈[cz.row va (nd bz a) (cJ a),cz.row vb (e+2) (ai (ae bz (e+2) b))],s.OK w:=by
  intro s hs;simp at hs;rcases hs with rfl|rfl
  ·exact⟨ga,kv _⟩
  ·exact⟨E4,kv _⟩
 have kX:cA prog (aa.at w) (av f200 23) [.func (.func 96) #[] #[],sl 0 (nd bz a),sl 1 (e+2)] [(0,some (.view (cJ a))),(1,some (.view (ai (ae bz (e+2) b))))] (.int .i64 (gQ a b)) []:=by have:=dE (B:=aa.at w) (o:=av f200 23) (x:=.func 96) (Vk (a:=a) (b:=b) o_ o_) (nK (k:=0) (x:=.view (cJ a)) rfl rfl (nK (k:=1) (x:=.view (cJ b)) rfl rfl .nil)) k_ k_ rfl;rw[hb,mO]at this;exact this
 have cW:cA prog (aa.at w) (av f200 52) [.func (.func 132) #[] #[],sl 1 (e+2),sl 2 1] [(3,none),(1,some (.view (ai (ae bz (e+2) b)))),(2,some (.row [vI s] 3 1))] (sl 3 (e+2)) [(3,.row (ai (ae bz (e+2) (b*s))) 3 1)]:=by have:=qL (B:=aa.at w) (o:=av f200 52) (x:=.func 132) (Vg (a:=b) (b:=s) o_) (nK (k:=1) (x:=.view (cJ b)) rfl rfl (nK (k:=2) (x:=.row (cJ s) 3 1) rfl rfl .nil)) k_ k_ (sB _) 3;rw[hb,mO,Ek,fX,Ny,hcV]at this;exact this
 have dx:cA prog (aa.at w) (av f200 58) [.func (.func 132) #[] #[],sl 0 (nd bz a),sl 2 1] [(5,none),(0,some (.view (cJ a))),(2,some (.row [vI s] 3 1))] (sl 5 n) [(5,.row (cJ (a*s)) 3 1)]:=by have:=qL (B:=aa.at w) (o:=av f200 58) (x:=.func 132) (Vg (a:=a) (b:=s) o_) (nK (k:=0) (x:=.view (cJ a)) rfl rfl (nK (k:=2) (x:=.row (cJ s) 3 1) rfl rfl .nil)) k_ k_ (sB _) 5;rw[Ek,fX,<-hn]at this;exact this
 have uV:∀(xr:aj),xr=ai (ae bz (n+2) (a%b*s))->cA prog (aa.at w) (av f200 232) [.func (.func 219) #[] #[],sl 8 (nd bz (a%b*s)),vI s] [(10,none),(8,some (.row xr 3 1))] (.tuple #[sl 10 (nd bz (a%b)),vI 0]) [(10,cr (a%b))]:=by
  rintro xr rfl
  have hq:a%b*s/s=a%b:=Sc _ qc;have hz:a%b*s%s=0:=Y1 _ _;have bW:=aC4 (a:=a%b*s) qc PM hnr;rw[hq,hz]at bW;have CT:((Obj.row (ai (ae bz (n+2) (a%b*s))) 3 1).cells.drop 0).take (nd bz (a%b*s))=cJ (a%b*s):=by rw[l5];have:=BL Ho;rwa[fZ]at this
  have yp:fm (aa.at w) [ju (a%b*s),.p (vI s)] [sl 8 (nd bz (a%b*s)),vI s] [(8,some (.row (ai (ae bz (n+2) (a%b*s))) 3 1))]:=by unfold ju;rw[<-CT];exact .r (k:=8) (off:=0) (cc:=0) rfl (gV _) (λh=>h) (.p rfl .nil)
  exact UW (x:=.func 219) bW yp k_ k_ (sB _) rfl 10
 have w48:IntKind.i64.wrap (Int.tdiv ((bz:Nat):Int) ((d+1:Nat):Int))=(s:Int):=by rw[yO o_,<-tg,<-hs,c8];omega
 have aOy:∀ v∈cJ (a*s),v.oneCell'=true:=λv hv=>by unfold cJ ai at hv;obtain⟨x,_,rfl⟩:=di.1 hv;rfl
 have hlen:(cJ (a*s)).length=n:=by rw[U5,hn]
 have lo:=lo (aa.at w);unfold DN at lo;have hxr:=uV _ rfl;have kZ:du prog 3 (ai (ae bz (e+2) b)) (e+1)=some (vI d):=by rw[<-lH];exact dJ (eg o_)
 have FD:nd bz (a%b*s)=nd bz (a%b*s):=rfl
 refine lC (Q:=λe w'=>∃ vq vr,e=.returned (.tuple #[vq,vr])/\uY w w' vq (a/b)/\uY w w' vr (a%b)/\Below w.heap.size w w') mixed func200 [cz.row va (nd bz a) (cJ a),cz.row vb (e+2) (ai (ae bz (e+2) b))] hl 400 (N:=238) k_
  (rs:=[(.step 23 (av f200 23) _ _ _ _ kX:aX prog (aa.at w) 238),.rw 24 _ (.bool false) (VB (a:=a) (b:=b) (aJ o_)),.fh 28 (e+2) 1 false s_,.eV 44 (e+2) 1 (e+1) rfl o_,.ix f200 45 1 (e+2) (e+1) o_ k_,.ld f200 46 3 1 (e+1) (.view (ai (ae bz (e+2) b))) (vI d) rfl kZ k_,.sum 47 d 1 (d+1) rfl o_,.pW f200 48 .i64 ((bz:Nat):Int) ((d+1:Nat):Int) (s:Int) o_ w48 k_,.bs f200 49 2 1 3 1 [0] (vI 0) [vI s] #[vI s] (.row [vI s] 3 1) rfl (λv hv=>by simp at hv;subst hv;rfl) (λv hv=>by simp at hv;subst hv;rfl) k_ rfl o_ o_ k_,.step 52 (av f200 52) _ _ _ _ cW,.Lc f200 55 4 3 1 (vI 0) k_,.step 58 (av f200 58) _ _ _ _ dx,.pj f200 59 6 4 0 n n 3 1 8 [] 5 (.row (cJ (a*s)) 3 1) (cJ (a*s)) (jZ n) rfl (by rw[fZ];exact hlen) rfl rfl aOy o_ (by simp[maxLen];omega) o_ k_,.bs f200 60 7 2 3 1 [0,1] (vI 0) [vI 0,vI 0] #[vI 0,vI 0] (.row [vI 0,vI 0] 3 1) rfl (λv hv=>by simp at hv;subst hv;rfl) (λv hv=>by simp at hv;subst hv;rfl) k_ rfl o_ o_ k_,.pj f200 61 8 6 n 2 (n+2) 3 1 8 (cJ (a*s)) 7 (.row [vI 0,vI 0] 3 1) (ai (ae bz (n+2) (a*s))) rfl rfl rfl (by rw[fZ];exact hlen) hcA (λv hv=>by simp[Obj.cells]at hv;subst hv;rfl) o_ (by simp[maxLen];omega) o_ k_,.eV 65 (n+2) (e+2) p o_ o_,.pS f200 66 9 p 3 8 (vI 0) (List.replicate p (vI 0)) rfl rfl rfl o_ (by simp[maxLen];omega) k_,.eV 70 (n+2) (e+2) p o_ o_,.wr 71 .i64 ((p:Int)-1) ((p:Int)-1) (oL o_),.code 0 _ _ _ _ _ lo,.Dx f200 228 8 (n+2) (a%b*s) (.row (ai (ae bz (n+2) (a%b*s))) 3 1) rfl rfl Ho o_ k_,.ld f200 231 3 2 0 (.row [vI s] 3 1) (vI s) rfl (by rw[FP];rfl) k_,.step 232 (av f200 232) _ _ _ _ hxr,.Dx f200 236 9 p (a/b) (.row (ai (ae bz p (a/b))) 3 1) rfl rfl J5 o_ k_])
  (v:=.tuple #[sl 9 (nd bz (a/b)),sl 10 (nd bz (a%b))]) (ms:=[(9,.row (ai (ae bz p (a/b))) 3 1),(10,cr (a%b))]) k_ λau bY v' w' jY bj dz _=>?_
 obtain⟨cM,rfl,ba⟩:=jY.ub;obtain⟨p,q,hp,h3,h4⟩:=jx ba;have e:cM=#[p,q]:=vh.1 (by rw[hp]);subst e;exact⟨p,q,rfl,PK bj (dz _ (aT ..)) J5 h3,PK bj (dz _ (bB _ (aT ..))) (dO d_ _) h4,bj.base⟩
section
variable{P:Program}{Bs B:aa}{N:Nat}
theorem aDe{f:FuncId}{l:List aP}{ty:TypeId}{size n:Nat}{xs:aj}{vs:aj}{nd:List (Nat×Option Obj)}{o:Oper}{x:Operand}(h:lL P f l ty size n xs)(hs:fm B l vs nd)(ho:dp o.op=some x)(eG:gk P f=true)(hx:(xs.all flat)=true)(k:Nat):
  cA P B o (.func (.func f) #[] #[]::vs) ((k,none)::nd) (.slice (some ⟨k,0,some 7⟩) n 0) [(k,.view xs)]:=by
 have:=jB (P:=P) (B:=B) (o:=o) (x:=x) (f:=f) (fi:=[]) (args:=vs) (ca:=[]) (need:=(k,none)::nd) (val:=.slice (some ⟨k,0,some 7⟩) n 0) (cR:=[(k,.view xs)]) ho eG ?_
 ·simpa using this
 ·intro ι c w hm hn args' ha;rw[jo,iY]at ha;refine(h w args' (Br hs hm (λp hp=>hn p (bB _ hp)) ha)).mono ?_
  rintro e w' ⟨v,rfl,h1,h2⟩
  obtain⟨au,q1,q2,q3⟩:=YW hm h2 (k:=k) (hn (k,none) (aT ..)) h1 (bf.1 hx);exact⟨au,v,rfl,q1,q3,q2⟩
def c7(a:Nat):Obj:=.view (cJ a)
def aX.lN(fn:Func)(key k m:Nat)(h:nd 256 m<35184372088832)(ho:dp (av fn key).op=some (.func 93)):aX prog Bs N:=
 .step key (av fn key) [.func (.func 93) #[] #[],pk m] [(k,none)] (sl k (nd bz m)) [(k,c7 m)] (aDe (aC2 h) (.p rfl .nil) ho k_ (sB m) k)
end
theorem aV1{Bs:aa}{o:Oper}{y:Operand}(ho:dp o.op=some y){k1 k2 kq kr a b:Nat}(hk:kr≠kq)(kF:b≠0)(h1:nd bz a<17592186044000)(h2:nd bz b<35184372088831):
  cA prog Bs o [.func (.func 200) #[] #[],sl k1 (nd bz a),sl k2 (nd bz b)] [(k1,some (c7 a)),(k2,some (c7 b)),(kq,none),(kr,none)] (.tuple #[sl kq (nd bz (a/b)),sl kr (nd bz (a%b))]) [(kr,c7 (a%b)),(kq,c7 (a/b))]:=by
 refine jB (fi:=[]) (ca:=[]) ho k_ λι c w hm hn args' ba=>?_;rw[jo,iY]at ba;obtain⟨va,vb,rfl,hv,iw⟩:=jx ba;have ig:c k1=some (c7 a):=hn (k1,_) s_;have fF:c k2=some (c7 b):=hn (k2,_) s_;have J8:c kq=none:=hn (kq,none) s_;have Ta:c kr=none:=hn (kr,none) s_;have nin:∀{k a v},c k=some (c7 a)->aG ι (sl k (nd bz a)) v->BP w v a:=λ{k a v} hk hv=>by have:=oH (len:=nd bz a) hm hk rfl (kv _) (λh=>h) hv;rwa[l5,kj (by show(cJ a).length<=_;rw[U5];exact bh _)]at this
 have ha:=nin ig hv;have hb:=nin fF iw;have fin:∀(w':World) (vq vr:Value),Below w.heap.size w w'->(∃ bM,Map.le ι bM/\aM Bs bM (aY c kq (c7 (a/b))) w'/\aG bM (sl kq (nd bz (a/b))) vq/\∃ dC,Map.le bM dC/\aM Bs dC (aY (aY c kq (c7 (a/b))) kr (c7 (a%b))) w'/\aG dC (sl kr (nd bz (a%b))) vr)->
   ∃ au v',Ending.returned (.tuple #[vq,vr])=.returned v'/\Map.le ι au/\aG au (.tuple #[sl kq (nd bz (a/b)),sl kr (nd bz (a%b))]) v'/\aM Bs au (ll c [(kr,c7 (a%b)),(kq,c7 (a/b))]) w':=by
  rintro w' vq vr fK ⟨bM,q1,q2,q3,dC,s1,s2,s3⟩
  exact⟨dC,_,rfl,q1.trans s1,.tup (.cons (q3.mono s1) (.cons s3 .nil)),s2⟩
 have J9:∀ x,aY c kq x kr=none:=λx=>by unfold aY;rw[ao hk];exact Ta
 have new:∀(w':World) (vq vr:Value),Below w.heap.size w w'->uY w w' vq (a/b)->uY w w' vr (a%b)->(∃ bM,Map.le ι bM/\aM Bs bM (aY c kq (c7 (a/b))) w'/\aG bM (sl kq (nd bz (a/b))) vq/\∃ dC,Map.le bM dC/\aM Bs dC (aY (aY c kq (c7 (a/b))) kr (c7 (a%b))) w'/\aG dC (sl kr (nd bz (a%b))) vr):=by intro w' vq vr fK h3 h4;have bj:=hm.call fK;obtain⟨bM,q1,q2,q3⟩:=NA bj J8 h3 (kv _) (NB hm);obtain⟨dC,s1,s2,s3⟩:=NA q2 (J9 _) h4 (kv _) (aAh bj q1 (NB hm));exact⟨bM,q1,q2,q3,dC,s1,s2,s3⟩
 by_cases bZ:a<b
 ·have e1:a/b=0:=l4 bZ;have e2:a%b=a:=dF bZ;refine(aVZ ha hb bZ o_ o_).mono ?_
  rintro e w' ⟨rfl,fK⟩
  refine fin w' _ _ fK ?_;have bj:=hm.call fK;obtain⟨bM,q1,q2,q3⟩:=yy (xs:=[]) (n:=0) (v:=.slice none 0 0) bj J8 (.inl ⟨rfl,rfl,rfl⟩) n_ n_;have ez:c7 (a/b)=.view []:=by unfold c7 cJ;rw[e1,pf];rfl
  have en:nd bz (a/b)=0:=by rw[e1,pf]
  rw[ez,en,e2];have Tb:cK w' va (nd bz a) (cJ a):=cK.gB ha fK;obtain⟨dC,s1,s2,s3⟩:=yy q2 (J9 _) Tb (kv _) (λb o c' e j y o' aO hj hy he=>by
   have A2:c j=some y:=by
    unfold aY at hj;by_cases bL:j=kq
    ·rw[aw bL]at hj;injection hj with hj;subst hj;cases hy
    ·rw[ao bL]at hj;exact hj
   obtain⟨l,e1,_⟩:=hm.born j y A2;have e2:=q1 j l e1;rw[he]at e2;injection e2 with e2;subst e2;subst e;rcases hv.gW rfl with ⟨_,_,_,_,e⟩|⟨b',o2,rl,c2,gw,_,_,e⟩
   ·cases e
   ·injection e with e _ _;injection e with e;injection e with e _ _;subst e;exact(hm.seen k1 _ _ _ _ ig rfl gw).2 j y _ _ A2 hy e1)
  exact⟨bM,q1,q2,q3,dC,s1,s2,s3⟩
 ·have Ka:b<=a:=JZ.1 bZ;have go:Calls prog 200 #[va,vb] w λe w'=>∃ vq vr,e=.returned (.tuple #[vq,vr])/\uY w w' vq (a/b)/\uY w w' vr (a%b)/\Below w.heap.size w w':=by
   by_cases al:b<bz
   ·exact aU8 ha hb Ka kF al o_
   ·have h3:2<=nd bz b:=by
     rcases eC (nd bz b) 2 with h|h
     ·have h4:=dO (B:=bz) d_ b;have h5:bz^nd bz b<=bz^1:=cY d_ o_;rw[CF]at h5;omega
     ·exact h
    exact aVS (e:=nd bz b-2) ha hb Ka o_ h1
  refine go.mono ?_
  rintro e w' ⟨vq,vr,rfl,h3,h4,fK⟩
  exact fin w' _ _ fK (new w' vq vr fK h3 h4)
theorem aOz(n1 n2:Bool)(a b:Nat):(sg n1 a).tdiv (sg n2 b)=sg (n1 !=n2) (a/b):=by cases n1<;>cases n2<;>simp[sg,Int.neg_tdiv,Int.tdiv_neg]
theorem aOA(n1 n2:Bool)(a b:Nat):(sg n1 a).tmod (sg n2 b)=sg n1 (a%b):=by cases n1<;>cases n2<;>simp[sg,Int.neg_tmod,Int.tmod_neg]<;>exact yP o_
theorem aOB{x:Int}(h1:-4611686018427387904<=x)(h2:x<=4611686018427387903):IntKind.i64.wrap x=x:=by rw[c8];omega
theorem VD:nd bz 1=1/\cJ 1=[vI 1]:=by have h:=VA (s:=1) d_ d_;exact⟨h,by unfold cJ;rw[h,PL d_];rfl⟩
theorem VE{n:Bool}{m:Nat}(h:n=true->m≠0):decide (sg n m<0)=n:=by
 cases n
 ·exact aJ (by simp[sg])
 ·exact aB (by have:=h rfl;simp[sg];omega)
theorem aOC(n:Bool)(m:Nat):(sg n m !=0)=decide (m≠0):=by
 by_cases h:m=0
 ·subst h;cases n<;>rfl
 ·rw[aB h,uu];cases n<;>simp[sg]<;>omega
theorem aVu{x y:Int}{p q:Nat}(hy:y≠0)(h1:x.natAbs<2^p)(h2:y.natAbs<2^q)(hp:p<=1099511627774)(hq:q<=1099511627774):
  aD prog 169 [bK x,bK y] (.tuple #[bK (x.fdiv y),bK (x.fmod y),.int .i64 0]):=by
 revert hy h1 h2;refine E7 (C:=λx y v u=>y≠0->x.natAbs<2^p->y.natAbs<2^q->aD prog 169 [v,u] (.tuple #[bK (x.fdiv y),bK (x.fmod y),.int .i64 0])) (λn1 n2 m1 m2 v1 v2 hy h1 h2=>?_) x y;rw[qb]at h1 h2;have Hu:m2≠0:=by intro e;rw[e]at hy;cases n2<;>exact hy rfl
 have b1:=tP h1;have b2:=tP h2;have c1:=vA h1;have c2:=vA h2;obtain⟨Q,hQ⟩:∃ Q,Q=m1/m2:=⟨_,rfl⟩;obtain⟨R,hR⟩:∃ R,R=m1%m2:=⟨_,rfl⟩;have Kd:m1=Q*m2+R:=by rw[hQ,hR,cP];exact(je _ _).symm
 have yW:R<m2:=by rw[hR];exact cH _ (te Hu)
 have Ti:Q<=m1:=by rw[hQ];exact th _ _
 have jf:((Q*m2:Nat):Int)=(Q:Int)*m2:=nU ..;have fix:R≠0->n1≠n2->(sg n1 m1).fdiv (sg n2 m2)=sg true (Q+1)/\(sg n1 m1).fmod (sg n2 m2)=sg n2 (m2-R):=λjs aU=>by
  refine NH ?_ ?_
  ·rw[Kd];have e:((m2-R:Nat):Int)=(m2:Int)-R:=by omega
   cases n1<;>cases n2<;>first|exact absurd rfl aU|(simp only[sg,qt,uA,uz,vz,jf,e,Hp,Hq,J7,Int.add_mul];omega)
  ·cases n2
   ·left;simp only[sg,uA,uz];omega
   ·right;simp only[sg,qt];omega
 have VF:¬(R≠0/\n1≠n2)->(sg n1 m1).fdiv (sg n2 m2)=sg (n1 !=n2) Q/\(sg n1 m1).fmod (sg n2 m2)=sg n2 R:=λh=>by
  have h0:n1≠n2->R=0:=λaU=>hZ λh3=>h ⟨h3,aU⟩;refine NH ?_ ?_
  ·rw[Kd];cases n1<;>cases n2<;>simp only[sg,Bool.bne_false,Bool.bne_true,JM,M7,qt,uA,uz,vz,jf,Hp,Hq,J7]<;>first|omega|(have:=h0 n_;omega)
  ·cases n2
   ·left;simp only[sg,uA,uz];omega
   ·right;simp only[sg,qt];omega
 have w1:=aV6 n1 v1;have w2:=aV6 n2 v2;have qk:((BA (cd m2)).toList==(ByteArray.mk #[]).toList)=false:=by rw[qF,aJ Hu]
 have r2:=Lj m2;by_cases hs:nd 256 m1<=7/\nd 256 m2<=7
 ·obtain⟨s1,s2⟩:=hs;have l1:=Iq s1;have l2:=Iq s2;have td:=aOz n1 n2 m1 m2;have tm:=aOA n1 n2 m1 m2;rw[<-hQ]at td;rw[<-hR]at tm;have q1:=sF v1 s1;have q2:=sF v2 s2;have gx:=DI n1 m1;have gy:=DI n2 m2;have gq:=DI (n1 !=n2) Q;have gr:=DI n2 R;have gr2:=DI n2 (m2-R);have t52:=aOC n1 R;have t55:=VE v1;have t57:=VE v2;have wq:IntKind.i64.wrap ((sg n1 m1).tdiv (sg n2 m2))=sg (n1 !=n2) Q:=by rw[td,c8];omega
  have back:∀ qq rr:Int,(sg n1 m1).fdiv (sg n2 m2)=qq->(sg n1 m1).fmod (sg n2 m2)=rr->sg n1 m1-qq*sg n2 m2=rr:=λqq rr e1 e2=>by have:=Int.mul_fdiv_add_fmod (sg n1 m1) (sg n2 m2);rw[e1,e2,Tg]at this;omega
  by_cases hf:R≠0/\n1≠n2
  ·obtain⟨js,aU⟩:=hf;obtain⟨f1,f2⟩:=fix js aU;have bk:=back _ _ f1 f2;rw[f1,f2];rw[aB js]at t52;have e1:sg (n1 !=n2) Q-1=sg true (Q+1):=by cases n1<;>cases n2<;>first|exact absurd rfl aU|(simp[sg];omega)
   have gq1:sg true (Q+1)=-((Q+1:Nat):Int):=rfl;have o1:=aVy (z:=sg true (Q+1)) o_ o_;have o2:=aVy (z:=sg n2 (m2-R)) o_ o_;have g1b:-4611686018427387904<=sg true (Q+1):=by rw[gq1];omega
   have g2b:sg true (Q+1)<=4611686018427387903:=by rw[gq1];omega
   have w61:IntKind.i64.wrap (sg (n1 !=n2) Q-1)=sg true (Q+1):=by rw[e1];exact aOB g1b g2b
   generalize hqq:sg true (Q+1)=qq at *;generalize hrr:sg n2 (m2-R)=rr at *;generalize sg n1 m1=X at *;generalize sg n2 m2=Y at *;have F6:IntKind.i64.wrap (qq*Y)=qq*Y:=by
    have:qq*Y=X-rr:=by omega
    rw[this,c8];omega
   have F7:IntKind.i64.wrap (X-qq*Y)=rr:=by rw[bk,c8];omega
   cases n1<;>cases n2<;>first|exact absurd rfl aU|skip
   ·exact aK func169 (λw=>[w1.at 15,w2.at 19,.rw 26 (.bool ((BA (cd m2)).toList==(ByteArray.mk #[]).toList)) (.bool false) (by rw[qk]),q1.at 31,.rw 38 _ (vI (nd 256 m2)) r2,.rw 39 (.bool (decide (((nd 256 m2:Nat):Int)<=7))) (.bool true) (by rw[aB o_]),q2.at 43,.pW f169 48 .i64 X Y _ hy wq k_,.wX f169 51 .i64 X Y _ hy tm k_,.rw 52 (.bool (sg false R !=0)) (.bool true) (by rw[t52]),.rw 55 (.bool (decide (X<0))) (.bool false) (by rw[t55]),.rw 57 (.bool (decide (Y<0))) (.bool true) (by rw[t57]),.wr 61 .i64 _ qq w61,o1.at 63,.wr 67 .i64 (qq*Y) (qq*Y) F6,.wr 68 .i64 (X-qq*Y) rr F7,o2.at 69])
   ·exact aK func169 (λw=>[w1.at 15,w2.at 19,.rw 26 (.bool ((BA (cd m2)).toList==(ByteArray.mk #[]).toList)) (.bool false) (by rw[qk]),q1.at 31,.rw 38 _ (vI (nd 256 m2)) r2,.rw 39 (.bool (decide (((nd 256 m2:Nat):Int)<=7))) (.bool true) (by rw[aB o_]),q2.at 43,.pW f169 48 .i64 X Y _ hy wq k_,.wX f169 51 .i64 X Y _ hy tm k_,.rw 52 (.bool (sg true R !=0)) (.bool true) (by rw[t52]),.rw 55 (.bool (decide (X<0))) (.bool true) (by rw[t55]),.rw 57 (.bool (decide (Y<0))) (.bool false) (by rw[t57]),.wr 61 .i64 _ qq w61,o1.at 63,.wr 67 .i64 (qq*Y) (qq*Y) F6,.wr 68 .i64 (X-qq*Y) rr F7,o2.at 69])
  ·obtain⟨f1,f2⟩:=VF hf;have bk:=back _ _ f1 f2;rw[f1,f2];have o1:=aVy (z:=sg (n1 !=n2) Q) o_ o_;have o2:=aVy (z:=sg n2 R) o_ o_;by_cases js:R=0
   ·rw[aJ (λh=>h js)]at t52;generalize hqq:sg (n1 !=n2) Q=qq at *;generalize hrr:sg n2 R=rr at *;generalize sg n1 m1=X at *;generalize sg n2 m2=Y at *;have F6:IntKind.i64.wrap (qq*Y)=qq*Y:=by
     have:qq*Y=X-rr:=by omega
     rw[this,c8];omega
    have F7:IntKind.i64.wrap (X-qq*Y)=rr:=by rw[bk,c8];omega
    exact aK func169 (λw=>[w1.at 15,w2.at 19,.rw 26 (.bool ((BA (cd m2)).toList==(ByteArray.mk #[]).toList)) (.bool false) (by rw[qk]),q1.at 31,.rw 38 _ (vI (nd 256 m2)) r2,.rw 39 (.bool (decide (((nd 256 m2:Nat):Int)<=7))) (.bool true) (by rw[aB o_]),q2.at 43,.pW f169 48 .i64 X Y _ hy wq k_,.wX f169 51 .i64 X Y _ hy tm k_,.rw 52 (.bool (sg n1 R !=0)) (.bool false) (by rw[t52]),o1.at 63,.wr 67 .i64 (qq*Y) (qq*Y) F6,.wr 68 .i64 (X-qq*Y) rr F7,o2.at 69])
   ·have aU:n1=n2:=hZ λh=>hf ⟨js,h⟩;subst aU;rw[aB js]at t52;generalize hqq:sg (n1 !=n1) Q=qq at *;generalize hrr:sg n1 R=rr at *;generalize sg n1 m1=X at *;generalize sg n1 m2=Y at *;have F6:IntKind.i64.wrap (qq*Y)=qq*Y:=by
     have:qq*Y=X-rr:=by omega
     rw[this,c8];omega
    have F7:IntKind.i64.wrap (X-qq*Y)=rr:=by rw[bk,c8];omega
    cases n1
    ·exact aK func169 (λw=>[w1.at 15,w2.at 19,.rw 26 (.bool ((BA (cd m2)).toList==(ByteArray.mk #[]).toList)) (.bool false) (by rw[qk]),q1.at 31,.rw 38 _ (vI (nd 256 m2)) r2,.rw 39 (.bool (decide (((nd 256 m2:Nat):Int)<=7))) (.bool true) (by rw[aB o_]),q2.at 43,.pW f169 48 .i64 X Y _ hy wq k_,.wX f169 51 .i64 X Y _ hy tm k_,.rw 52 (.bool (rr !=0)) (.bool true) (by rw[t52]),.rw 55 (.bool (decide (X<0))) (.bool false) (by rw[t55]),.rw 57 (.bool (decide (Y<0))) (.bool false) (by rw[t57]),o1.at 63,.wr 67 .i64 (qq*Y) (qq*Y) F6,.wr 68 .i64 (X-qq*Y) rr F7,o2.at 69])
    ·exact aK func169 (λw=>[w1.at 15,w2.at 19,.rw 26 (.bool ((BA (cd m2)).toList==(ByteArray.mk #[]).toList)) (.bool false) (by rw[qk]),q1.at 31,.rw 38 _ (vI (nd 256 m2)) r2,.rw 39 (.bool (decide (((nd 256 m2:Nat):Int)<=7))) (.bool true) (by rw[aB o_]),q2.at 43,.pW f169 48 .i64 X Y _ hy wq k_,.wX f169 51 .i64 X Y _ hy tm k_,.rw 52 (.bool (rr !=0)) (.bool true) (by rw[t52]),.rw 55 (.bool (decide (X<0))) (.bool true) (by rw[t55]),.rw 57 (.bool (decide (Y<0))) (.bool true) (by rw[t57]),o1.at 63,.wr 67 .i64 (qq*Y) (qq*Y) F6,.wr 68 .i64 (X-qq*Y) rr F7,o2.at 69])
 ·have bQ:nd bz Q<1099511627776:=by have:=iL (B:=bz) d_ Ti;omega
  have bR:nd bz R<1099511627776:=by have:=iL (B:=bz) d_ (iM yW);omega
  have bD:nd bz (m2-R)<1099511627776:=by have:=iL (B:=bz) d_ (Bf m2 R);omega
  have bQ1:nd bz (Q+1)<1099511627776:=by have:=tP (m:=Q+1) (n:=p+1) (by rw[dw];omega);omega
  have qa:∀ w,cA prog (aa.at w) (av f169 77) [.func (.func 200) #[] #[],sl 4 (nd bz m1),sl 5 (nd bz m2)] [(4,some (c7 m1)),(5,some (c7 m2)),(6,none),(7,none)] (.tuple #[sl 6 (nd bz Q),sl 7 (nd bz R)]) [(7,c7 R),(6,c7 Q)]:=λw=>by rw[hQ,hR];exact aV1 (Bs:=aa.at w) (o:=av f169 77) (y:=.func 200) k_ (k1:=4) (k2:=5) (kq:=6) (kr:=7) d_ Hu o_ o_
  have xM:∀ w,cA prog (aa.at w) (av f169 92) [.func (.func 94) #[] #[],sl 6 (nd bz Q),sl 8 1] [(9,none),(6,some (c7 Q)),(8,some (.row [vI 1] 3 1))] (sl 9 (nd bz (Q+1))) [(9,cr (Q+1))]:=λw=>by have:=qL (B:=aa.at w) (o:=av f169 92) (x:=.func 94) (aCR (a:=Q) (b:=1) o_ (by rw[VD.1];omega)) (nK (k:=6) (x:=c7 Q) rfl rfl (nK (k:=8) (x:=.row (cJ 1) 3 1) rfl rfl .nil)) k_ k_ (sB _) 9;rw[VD.1,VD.2]at this;exact this
  have uB:∀ t:Bool,decide (0<nd bz R)=t↔decide (R≠0)=t:=λt=>by have:(0<nd bz R)↔R≠0:=⟨λh e=>by rw[e,pf]at h;omega,λh=>ur d_ h⟩;rw[s9.2 this]
  by_cases s1:nd 256 m1<=7
  ·have s2:¬nd 256 m2<=7:=λh=>hs ⟨s1,h⟩;have q1:=sF v1 s1;by_cases hf:R≠0/\n1≠n2
   ·obtain⟨js,aU⟩:=hf;obtain⟨f1,f2⟩:=fix js aU;rw[f1,f2];cases n1<;>cases n2<;>first|exact absurd rfl aU|skip
    ·exact aK func169 (λw=>[w1.at 15,w2.at 19,.rw 26 (.bool ((BA (cd m2)).toList==(ByteArray.mk #[]).toList)) (.bool false) (by rw[qk]),q1.at 31,.rw 38 _ (vI (nd 256 m2)) r2,.rw 39 (.bool (decide (((nd 256 m2:Nat):Int)<=7))) (.bool false) (by rw[aJ o_]),.lN f169 73 4 m1 o_ k_,.lN f169 76 5 m2 o_ k_,.step 77 _ _ _ _ _ (qa w),.gt 88 (nd bz R) 0 true ((uB _).2 (aB js)),.bs f169 91 8 1 3 1 [0] (vI 0) [vI 1] #[vI 1] (.row [vI 1] 3 1) rfl (λv hv=>by simp at hv;subst hv;rfl) (λv hv=>by simp at hv;subst hv;rfl) k_ rfl o_ o_ k_,.step 92 (av f169 92) _ _ _ _ (xM w),.eF f169 95 10 m2 o_ k_,.tO f169 97 11 10 7 m2 R (cr m2) (c7 R) rfl rfl rfl rfl (iM yW) o_ k_,.fp f169 104 9 (Q+1) true (cr (Q+1)) rfl rfl o_ k_,.fp f169 108 11 (m2-R) true (cr (m2-R)) rfl rfl o_ k_])
    ·exact aK func169 (λw=>[w1.at 15,w2.at 19,.rw 26 (.bool ((BA (cd m2)).toList==(ByteArray.mk #[]).toList)) (.bool false) (by rw[qk]),q1.at 31,.rw 38 _ (vI (nd 256 m2)) r2,.rw 39 (.bool (decide (((nd 256 m2:Nat):Int)<=7))) (.bool false) (by rw[aJ o_]),.lN f169 73 4 m1 o_ k_,.lN f169 76 5 m2 o_ k_,.step 77 _ _ _ _ _ (qa w),.gt 88 (nd bz R) 0 true ((uB _).2 (aB js)),.bs f169 91 8 1 3 1 [0] (vI 0) [vI 1] #[vI 1] (.row [vI 1] 3 1) rfl (λv hv=>by simp at hv;subst hv;rfl) (λv hv=>by simp at hv;subst hv;rfl) k_ rfl o_ o_ k_,.step 92 (av f169 92) _ _ _ _ (xM w),.eF f169 95 10 m2 o_ k_,.tO f169 97 11 10 7 m2 R (cr m2) (c7 R) rfl rfl rfl rfl (iM yW) o_ k_,.fp f169 104 9 (Q+1) true (cr (Q+1)) rfl rfl o_ k_,.fp f169 108 11 (m2-R) false (cr (m2-R)) rfl rfl o_ k_])
   ·obtain⟨f1,f2⟩:=VF hf;rw[f1,f2];cases n1<;>cases n2
    ·exact aK func169 (λw=>[w1.at 15,w2.at 19,.rw 26 (.bool ((BA (cd m2)).toList==(ByteArray.mk #[]).toList)) (.bool false) (by rw[qk]),q1.at 31,.rw 38 _ (vI (nd 256 m2)) r2,.rw 39 (.bool (decide (((nd 256 m2:Nat):Int)<=7))) (.bool false) (by rw[aJ o_]),.lN f169 73 4 m1 o_ k_,.lN f169 76 5 m2 o_ k_,.step 77 _ _ _ _ _ (qa w),.fp f169 104 6 Q false (c7 Q) rfl rfl o_ k_,.fp f169 108 7 R false (c7 R) rfl rfl o_ k_])
    ·have js:R=0:=hZ λh3=>hf ⟨h3,λe=>by cases e⟩;exact aK func169 (λw=>[w1.at 15,w2.at 19,.rw 26 (.bool ((BA (cd m2)).toList==(ByteArray.mk #[]).toList)) (.bool false) (by rw[qk]),q1.at 31,.rw 38 _ (vI (nd 256 m2)) r2,.rw 39 (.bool (decide (((nd 256 m2:Nat):Int)<=7))) (.bool false) (by rw[aJ o_]),.lN f169 73 4 m1 o_ k_,.lN f169 76 5 m2 o_ k_,.step 77 _ _ _ _ _ (qa w),.gt 88 (nd bz R) 0 false ((uB _).2 (aJ (λh=>h js))),.fp f169 104 6 Q true (c7 Q) rfl rfl o_ k_,.fp f169 108 7 R true (c7 R) rfl rfl o_ k_])
    ·have js:R=0:=hZ λh3=>hf ⟨h3,λe=>by cases e⟩;exact aK func169 (λw=>[w1.at 15,w2.at 19,.rw 26 (.bool ((BA (cd m2)).toList==(ByteArray.mk #[]).toList)) (.bool false) (by rw[qk]),q1.at 31,.rw 38 _ (vI (nd 256 m2)) r2,.rw 39 (.bool (decide (((nd 256 m2:Nat):Int)<=7))) (.bool false) (by rw[aJ o_]),.lN f169 73 4 m1 o_ k_,.lN f169 76 5 m2 o_ k_,.step 77 _ _ _ _ _ (qa w),.gt 88 (nd bz R) 0 false ((uB _).2 (aJ (λh=>h js))),.fp f169 104 6 Q true (c7 Q) rfl rfl o_ k_,.fp f169 108 7 R false (c7 R) rfl rfl o_ k_])
    ·exact aK func169 (λw=>[w1.at 15,w2.at 19,.rw 26 (.bool ((BA (cd m2)).toList==(ByteArray.mk #[]).toList)) (.bool false) (by rw[qk]),q1.at 31,.rw 38 _ (vI (nd 256 m2)) r2,.rw 39 (.bool (decide (((nd 256 m2:Nat):Int)<=7))) (.bool false) (by rw[aJ o_]),.lN f169 73 4 m1 o_ k_,.lN f169 76 5 m2 o_ k_,.step 77 _ _ _ _ _ (qa w),.fp f169 104 6 Q false (c7 Q) rfl rfl o_ k_,.fp f169 108 7 R true (c7 R) rfl rfl o_ k_])
  ·have q1:=uW (neg:=n1) s1;by_cases hf:R≠0/\n1≠n2
   ·obtain⟨js,aU⟩:=hf;obtain⟨f1,f2⟩:=fix js aU;rw[f1,f2];cases n1<;>cases n2<;>first|exact absurd rfl aU|skip
    ·exact aK func169 (λw=>[w1.at 15,w2.at 19,.rw 26 (.bool ((BA (cd m2)).toList==(ByteArray.mk #[]).toList)) (.bool false) (by rw[qk]),q1.at 31,.lN f169 73 4 m1 o_ k_,.lN f169 76 5 m2 o_ k_,.step 77 _ _ _ _ _ (qa w),.gt 88 (nd bz R) 0 true ((uB _).2 (aB js)),.bs f169 91 8 1 3 1 [0] (vI 0) [vI 1] #[vI 1] (.row [vI 1] 3 1) rfl (λv hv=>by simp at hv;subst hv;rfl) (λv hv=>by simp at hv;subst hv;rfl) k_ rfl o_ o_ k_,.step 92 (av f169 92) _ _ _ _ (xM w),.eF f169 95 10 m2 o_ k_,.tO f169 97 11 10 7 m2 R (cr m2) (c7 R) rfl rfl rfl rfl (iM yW) o_ k_,.fp f169 104 9 (Q+1) true (cr (Q+1)) rfl rfl o_ k_,.fp f169 108 11 (m2-R) true (cr (m2-R)) rfl rfl o_ k_])
    ·exact aK func169 (λw=>[w1.at 15,w2.at 19,.rw 26 (.bool ((BA (cd m2)).toList==(ByteArray.mk #[]).toList)) (.bool false) (by rw[qk]),q1.at 31,.lN f169 73 4 m1 o_ k_,.lN f169 76 5 m2 o_ k_,.step 77 _ _ _ _ _ (qa w),.gt 88 (nd bz R) 0 true ((uB _).2 (aB js)),.bs f169 91 8 1 3 1 [0] (vI 0) [vI 1] #[vI 1] (.row [vI 1] 3 1) rfl (λv hv=>by simp at hv;subst hv;rfl) (λv hv=>by simp at hv;subst hv;rfl) k_ rfl o_ o_ k_,.step 92 (av f169 92) _ _ _ _ (xM w),.eF f169 95 10 m2 o_ k_,.tO f169 97 11 10 7 m2 R (cr m2) (c7 R) rfl rfl rfl rfl (iM yW) o_ k_,.fp f169 104 9 (Q+1) true (cr (Q+1)) rfl rfl o_ k_,.fp f169 108 11 (m2-R) false (cr (m2-R)) rfl rfl o_ k_])
   ·obtain⟨f1,f2⟩:=VF hf;rw[f1,f2];cases n1<;>cases n2
    ·exact aK func169 (λw=>[w1.at 15,w2.at 19,.rw 26 (.bool ((BA (cd m2)).toList==(ByteArray.mk #[]).toList)) (.bool false) (by rw[qk]),q1.at 31,.lN f169 73 4 m1 o_ k_,.lN f169 76 5 m2 o_ k_,.step 77 _ _ _ _ _ (qa w),.fp f169 104 6 Q false (c7 Q) rfl rfl o_ k_,.fp f169 108 7 R false (c7 R) rfl rfl o_ k_])
    ·have js:R=0:=hZ λh3=>hf ⟨h3,λe=>by cases e⟩;exact aK func169 (λw=>[w1.at 15,w2.at 19,.rw 26 (.bool ((BA (cd m2)).toList==(ByteArray.mk #[]).toList)) (.bool false) (by rw[qk]),q1.at 31,.lN f169 73 4 m1 o_ k_,.lN f169 76 5 m2 o_ k_,.step 77 _ _ _ _ _ (qa w),.gt 88 (nd bz R) 0 false ((uB _).2 (aJ (λh=>h js))),.fp f169 104 6 Q true (c7 Q) rfl rfl o_ k_,.fp f169 108 7 R true (c7 R) rfl rfl o_ k_])
    ·have js:R=0:=hZ λh3=>hf ⟨h3,λe=>by cases e⟩;exact aK func169 (λw=>[w1.at 15,w2.at 19,.rw 26 (.bool ((BA (cd m2)).toList==(ByteArray.mk #[]).toList)) (.bool false) (by rw[qk]),q1.at 31,.lN f169 73 4 m1 o_ k_,.lN f169 76 5 m2 o_ k_,.step 77 _ _ _ _ _ (qa w),.gt 88 (nd bz R) 0 false ((uB _).2 (aJ (λh=>h js))),.fp f169 104 6 Q true (c7 Q) rfl rfl o_ k_,.fp f169 108 7 R false (c7 R) rfl rfl o_ k_])
    ·exact aK func169 (λw=>[w1.at 15,w2.at 19,.rw 26 (.bool ((BA (cd m2)).toList==(ByteArray.mk #[]).toList)) (.bool false) (by rw[qk]),q1.at 31,.lN f169 73 4 m1 o_ k_,.lN f169 76 5 m2 o_ k_,.step 77 _ _ _ _ _ (qa w),.fp f169 104 6 Q false (c7 Q) rfl rfl o_ k_,.fp f169 108 7 R true (c7 R) rfl rfl o_ k_])

theorem aOD{Bs:aa}{o:Oper}{y:Operand}(ho:dp o.op=some y){k off n a cc:Nat}{x:Obj}(hx:x.reads=true)(cN:(x.cells.all flat)=true)(hc:(x.cells.drop off).take n=ai (ae bz n a))(ha:a<bz^n)(h63:n<=9223372036854775807):
  cA prog Bs o [.func (.func 139) #[] #[],.slice (some ⟨k,off,some 7⟩) n cc] [(k,some x)] (.slice (some ⟨k,off,some 7⟩) (nd bz a) cc) []:=by
 refine jB (fi:=[]) (ca:=[]) ho k_ λι c w hm hn args' de=>?_;obtain⟨v,rfl,h1⟩:=lT de;have hk:c k=some x:=hn _ (aT ..);have hr:=oH (len:=n) hm hk hx (bf.1 cN) (λh=>h) h1;rw[hc]at hr;refine(aCx hr ha h63).mono ?_
 rintro e w' ⟨rfl,hb⟩
 refine⟨ι,_,rfl,Map.le.refl _,?_,hm.call hb⟩;have jS:=jd (B:=bz) d_ ha;rcases h1.gW rfl with ⟨q1,q2,q3,q4,q5⟩|⟨b,oo,cap,c',q1,q2,q3,q5⟩
 ·rw[q5];have:nd bz a=0:=by omega
  dsimp only at q4;rw[this,q4,q3];exact .slcN q1
 ·rw[q5];exact .slc q1 o_ q3
theorem aOE(x:Int):IntKind.i64.wrap (((BitVec.ofInt IntKind.i64.bits x)&&& (BitVec.ofInt IntKind.i64.bits 1)).toNat:Int)=x%2:=aC3 x 1 d_
theorem aDf(x:Nat):IntKind.i64.wrap (((BitVec.ofInt IntKind.i64.bits (x:Int))&&& (BitVec.ofInt IntKind.i64.bits 1)).toNat:Int)=((x%2:Nat):Int):=by rw[aOE];rfl
theorem aOF{n z a:Nat}(hz:z<=n)(h0:∀ i,i<z->a/bz^i%bz=0):ae bz n a=List.replicate z 0++ae bz (n-z) (a/bz^z):=by
 apply wQ
 ·simp[oI];omega
 ·intro i h1 h2;rw[oI]at h1;by_cases hi:i<z
  ·rw[List.getElem_append_left (by simpa using hi)];simp only[ae,Cp,Cq,List.getElem_replicate];exact h0 i hi
  ·rw[List.getElem_append_right (by simp;omega)];simp only[ae,Cp,Cq,Ip];rw[kB,<-ep,show z+(i-z)=i by omega]
theorem aDg{a:Nat}:∀ z,(∀ i,i<z->a/bz^i%bz=0)->a%bz^z=0
 |0,_=>by rw[rN,tf]
 |z+1,h=>by rw[pg,aDg z (λi hi=>h i o_),h z o_];simp
theorem VG{d:Nat}:∀ r,(∀ i,i<r->d/2^i%2=0)->d%2^r=0
 |0,_=>by rw[rN,tf]
 |r+1,h=>by have e:=pg (B:=2) d r;rw[VG r (λi hi=>h i o_),h r o_]at e;rw[e];simp
theorem aOG{x y r:Nat}(hr:r<=24)(hx:x<bz)(hy:y<bz):x/2^r+y*2^(24-r)%bz=(y*bz+x)/2^r%bz:=by
 have hb:bz=2^(24-r)*2^r:=by rw[<-ep,show 24-r+r=24 by omega]
 have h2:0<2^r:=cG d_;obtain⟨c,hc⟩:∃ c,c=2^(24-r):=⟨_,rfl⟩;obtain⟨q,hq⟩:∃ q,q=2^r:=⟨_,rfl⟩;rw[<-hc,<-hq]at hb;rw[<-hc,<-hq];rw[<-hq]at h2;have h3:x/q<c:=by rw[iy h2,<-hb];exact hx
 have e1:(y*bz+x)/q=y*c+x/q:=by rw[hb,<-fG,mF,ph _ _ h2,mF]
 have e2:y*c%bz=c*(y%q):=by rw[hb,cP y c,Nat.mul_mod_mul_left]
 have e3:y*c=c*(y%q)+bz*(y/q):=by have:=je y q;rw[hb,fG,<-oJ,mF,this,cP]
 have h4:y%q<q:=cH _ h2;have h5:c*(y%q)+c<=bz:=by rw[hb,<-MX];exact jr _ h4
 have h6:c*(y%q)+x/q<bz:=by omega
 rw[e1,e2,e3,show c*(y%q)+bz*(y/q)+x/q=(c*(y%q)+x/q)+bz*(y/q)by omega,EK,dF h6];omega
section
variable{Bs:aa}{n a z r:Nat}
def xN(k n z:Nat):Value:=.slice (some ⟨k,z*1,some 7⟩) n z
def xO(n i:Nat):aV:=[(0,xN 0 (n-i) i),(4,vI (24*i))]
def mU(n a:Nat):aH:=[(0,.row (ai (ae bz n a)) 3 1)]
theorem aOH{i:Nat}(hi:i+1<n)(h0:a/bz^i%bz=0)(h63:n<35184372088832):
  ah prog Bs 62 (aE (af f95 0)) (xO n i) (mU n a) 1 ⟨.normal,xO n (i+1),mU n a,1⟩:=by
 have iX:du prog 3 (ai (ae bz n a)) (i*1)=some (vI 0):=by rw[fZ,dJ (eg o_),h0]
 unfold xO mU xN;generalize ai (ae bz n a)=r0 at *;obtain⟨m,hm⟩:∃ m,n-i=m+1:=⟨n-i-1,by omega⟩;have dx:n-(i+1)=m:=by omega
 rw[hm,dx];exact aA [.pD f95 8 0 i (m+1) i 0 i 1 o_ (jn i) k_,.ld f95 9 3 0 (i*1) (.row r0 3 1) (vI 0) rfl iX k_,.fh 10 0 0 true rfl,.next f95 12 0 i m 1 o_ k_,.sum 14 (24*i) 24 (24*(i+1)) o_ o_]
theorem aOI{i:Nat}(hi:i<n)(h0:a/bz^i%bz≠0):
  ah prog Bs 62 (aE (af f95 0)) (xO n i) (mU n a) 1 ⟨.exit 0,xO n i,mU n a,1⟩:=by
 have iX:du prog 3 (ai (ae bz n a)) (i*1)=some (vI (a/bz^i%bz)):=by rw[fZ,dJ (eg o_)]
 unfold xO mU xN;generalize ai (ae bz n a)=r0 at *;generalize a/bz^i%bz=d at *;exact aA [.pD f95 8 0 i (n-i) i 0 i 1 o_ (jn i) k_,.ld f95 9 3 0 (i*1) (.row r0 3 1) (vI d) rfl iX k_,.fh 10 d 0 false (aJ h0)]
theorem aOJ(hz:z<n)(h0:∀ i,i<z->a/bz^i%bz=0)(h1:a/bz^z%bz≠0)(h63:n<35184372088832):
  ah prog Bs 62 (.block 0 (af f95 0)) (xO n 0) (mU n a) 1 ⟨.normal,xO n z,mU n a,1⟩:=
 bO (id:=0) (ch (b:=aE (af f95 0)) (r:=⟨.exit 0,xO n z,mU n a,1⟩) z (xO n) (λ_=>mU n a) (λ_ _ _=>Iff.rfl) (λi hi=>aOH o_ (h0 i hi) h63) (aOI hz h1) n_)
def xP(n z i:Nat):aV:=[(0,xN 0 (n-z) z),(5,vI i)]
theorem aOK{i d:Nat}(hz:z<n)(hd:a/bz^z%bz=d)(DP:d<bz)(hi:i<24)(h0:d/2^i%2=0):
  ah prog Bs 62 (aE (af f95 2)) (xP n z i) (mU n a) 1 ⟨.normal,xP n z (i+1),mU n a,1⟩:=by
 have iX:du prog 3 (ai (ae bz n a)) (z*1)=some (vI d):=by rw[fZ,dJ (eg o_),hd]
 unfold xP mU xN;generalize ai (ae bz n a)=r0 at *;exact aA [.pD f95 16 0 z (n-z) z 0 z 1 o_ (jn z) k_,.ld f95 17 3 0 (z*1) (.row r0 3 1) (vI d) rfl iX k_,.shr f95 19 .i64 (d:Int) ((d/2^i:Nat):Int) i (by rw[show min i IntKind.i64.bits=i from nV (show i<=64 by omega),rM _ (Hc d_),tg,Hd];rfl) k_,.wr 20 .i64 _ ((d/2^i%2:Nat):Int) (aDf _),.fh 21 (d/2^i%2) 0 true (aB h0),.sum 23 i 1 (i+1) rfl o_]
theorem aOL{i d:Nat}(hz:z<n)(hd:a/bz^z%bz=d)(DP:d<bz)(hi:i<24)(h0:d/2^i%2≠0):
  ah prog Bs 62 (aE (af f95 2)) (xP n z i) (mU n a) 1 ⟨.exit 2,xP n z i,mU n a,1⟩:=by
 have iX:du prog 3 (ai (ae bz n a)) (z*1)=some (vI d):=by rw[fZ,dJ (eg o_),hd]
 unfold xP mU xN;generalize ai (ae bz n a)=r0 at *;exact aA [.pD f95 16 0 z (n-z) z 0 z 1 o_ (jn z) k_,.ld f95 17 3 0 (z*1) (.row r0 3 1) (vI d) rfl iX k_,.shr f95 19 .i64 (d:Int) ((d/2^i:Nat):Int) i (by rw[show min i IntKind.i64.bits=i from nV (show i<=64 by omega),rM _ (Hc d_),tg,Hd];rfl) k_,.wr 20 .i64 _ ((d/2^i%2:Nat):Int) (aDf _),.fh 21 (d/2^i%2) 0 false (aJ h0)]
theorem aOM{d:Nat}(hz:z<n)(hd:a/bz^z%bz=d)(DP:d<bz)(hr:r<24)(h0:∀ i,i<r->d/2^i%2=0)(h1:d/2^r%2≠0):
  ah prog Bs 62 (.block 2 (af f95 2)) (xP n z 0) (mU n a) 1 ⟨.normal,xP n z r,mU n a,1⟩:=
 bO (id:=2) (ch (b:=aE (af f95 2)) (r:=⟨.exit 2,xP n z r,mU n a,1⟩) r (xP n z) (λ_=>mU n a) (λ_ _ _=>Iff.rfl) (λi hi=>aOK hz hd DP o_ (h0 i hi)) (aOL hz hd DP hr h1) n_)
def DQ(l z r i:Nat):aV:=[(0,xN 0 l z),(5,vI r),(6,vI i)]
def oW(l z r a1 i:Nat):List Nat:=List.replicate z 0++cX bz l i (a1/2^r) a1
def zQ(l z r a1 i:Nat):aH:=[(0,.row (ai (oW l z r a1 i)) 3 1)]
theorem aDh{l a1 i j:Nat}(hj:j<l)(h:i<=j):(oW l z r a1 i)[z+j]?=some (a1/bz^j%bz):=by unfold oW;rw[Ci s_,Ip,EV];exact Cr hj h
theorem aDi{l a1 i d:Nat}(hi:i<l)(hd:d=a1/2^r/bz^i%bz):(oW l z r a1 i).set (z+i) d=oW l z r a1 (i+1):=by unfold oW;rw[UO _ _ s_,Ip,EV,yE hi hd]
theorem VH{l a1 i:Nat}:(oW l z r a1 i).length=z+l:=by unfold oW;rw[iJ,Ip,wR]
theorem aON{l a1 i:Nat}(hr:r<24)(hi:i<l)(ha:a1<bz^l)(h63:z+l<35184372088832):
  ah prog Bs 62 (aE (af f95 4)) (DQ l z r i) (zQ l z r a1 i) 1 ⟨.normal,DQ l z r (i+1),zQ l z r a1 (i+1),1⟩:=by
 have hx:=gP (B:=bz) d_ a1 i;have hy:=gP (B:=bz) d_ a1 (i+1);have uV:=aOG (r:=r) o_ hx hy;rw[Z1 (B:=bz) (k:=r) (X:=a1) (i:=i) d_ ⟨2^(24-r),by rw[<-ep,show r+(24-r)=24 by omega]⟩]at uV;have hw:=gP (B:=bz) d_ (a1/2^r) i;have hlx:du prog 3 (ai (oW l z r a1 i)) ((z+i)*1)=some (vI (a1/bz^i%bz)):=by rw[fZ];exact dJ (aDh hi (bh _))
 obtain⟨DR,Ds⟩:∃ DR,DR=(oW l z r a1 i).set (z+i) (a1/bz^i%bz/2^r):=⟨_,rfl⟩;have wJ:eU prog 3 (ai (oW l z r a1 i)) ((z+i)*1) (vI (a1/bz^i%bz/2^r))=some (ai DR):=by rw[fZ,v8 (by rw[VH];omega),Ds]
 have DO:du prog 3 (ai DR) ((z+i)*1)=some (vI (a1/bz^i%bz/2^r)):=by rw[fZ];refine dJ ?_;rw[Ds,List.getElem?_set_self (by rw[VH];omega)]
 have VI:i+1<l->du prog 3 (ai DR) ((z+(i+1))*1)=some (vI (a1/bz^(i+1)%bz)):=λh=>by rw[fZ];refine dJ ?_;rw[Ds,List.getElem?_set_ne o_];exact aDh h o_
 have uj:eU prog 3 (ai DR) ((z+i)*1) (vI (a1/2^r/bz^i%bz))=some (ai (oW l z r a1 (i+1))):=by rw[fZ,v8 (by rw[Ds,Vv,VH];omega),Ds,List.set_set,aDi hi rfl]
 have vx:¬i+1<l->ai DR=ai (oW l z r a1 (i+1))/\True:=λh=>by have h0:a1/bz^(i+1)%bz=0:=qC ha o_ d_;rw[h0,lB,Nat.zero_mod,jn]at uV;refine⟨?_,trivial⟩;rw[Ds,uV,aDi hi rfl]
 have jK:bz=16777216:=rfl;unfold DQ zQ xN;generalize ai (oW l z r a1 (i+1))=r2 at *;generalize ai (oW l z r a1 i)=r0 at *;generalize ai DR=r1 at *;generalize a1/2^r/bz^i%bz=w at *;generalize a1/bz^(i+1)%bz=y at *;generalize a1/bz^i%bz=x at *;have hq:(x:Int).fdiv (2^(min r IntKind.i64.bits))=((x/2^r:Nat):Int):=by rw[show min r IntKind.i64.bits=r from nV (show r<=64 by omega),rM _ (Hc d_),tg,Hd];rfl
 have hxq:x/2^r<=x:=th _ _;by_cases hl:i+1<l
 ·have VI:=VI hl;have h24:y*2^(24-r)<281474976710656:=by have h1:2^(24-r)<=2^24:=cY d_ o_;have h2:=Z5 hy h1 d_;rw[show bz*2^24=281474976710656 by decide]at h2;exact h2
  have aDj:IntKind.i64.wrap ((y:Int)*2^(min (24-r) IntKind.i64.bits))=((y*2^(24-r):Nat):Int):=by
   have e:(y:Int)*2^(24-r)=((y*2^(24-r):Nat):Int):=by simp
   rw[show min (24-r) IntKind.i64.bits=24-r from nV (show 24-r<=64 by omega),c8,e];omega
  obtain⟨g,hg⟩:∃ g,g=y*2^(24-r):=⟨_,rfl⟩;rw[<-hg]at uV aDj h24;obtain⟨v,hv⟩:∃ v,v=x/2^r:=⟨_,rfl⟩;rw[<-hv]at uV hq hxq wJ DO;exact fe mixed 200 [.lt 27 i l true (by simp[hi]),.pD f95 32 0 z l z i (z+i) 1 hi rfl k_,.ld f95 33 3 0 ((z+i)*1) (.row r0 3 1) (vI x) rfl hlx k_,.shr f95 35 .i64 (x:Int) (v:Int) r hq k_,.pD f95 36 0 z l z i (z+i) 1 hi rfl k_,.st f95 100036 3 0 ((z+i)*1) (.row r0 3 1) (vI v) (.row r1 3 1) rfl wJ rfl k_,.sum 38 i 1 (i+1) rfl o_,.lt 41 (i+1) l true (by simp[hl]),.pD f95 44 0 z l z i (z+i) 1 hi rfl k_,.ld f95 45 3 0 ((z+i)*1) (.row r1 3 1) (vI v) rfl DO k_,.sum 48 i 1 (i+1) rfl o_,.pD f95 49 0 z l z (i+1) (z+(i+1)) 1 hl rfl k_,.ld f95 50 3 0 ((z+(i+1))*1) (.row r1 3 1) (vI y) rfl VI k_,.eV 52 24 r (24-r) o_ o_,.shl f95 53 .i64 (y:Int) (g:Int) (24-r) aDj k_,.FY 54 g bz (g%bz) rfl,.sum 55 v (g%bz) w uV.symm o_,.pD f95 56 0 z l z i (z+i) 1 hi rfl k_,.st f95 100056 3 0 ((z+i)*1) (.row r1 3 1) (vI w) (.row r2 3 1) rfl uj rfl k_,.sum 29 i 1 (i+1) rfl o_] k_
 ·obtain⟨e1,_⟩:=vx hl;subst e1;obtain⟨v,hv⟩:∃ v,v=x/2^r:=⟨_,rfl⟩;rw[<-hv]at uV hq hxq wJ DO;exact fe mixed 200 [.lt 27 i l true (by simp[hi]),.pD f95 32 0 z l z i (z+i) 1 hi rfl k_,.ld f95 33 3 0 ((z+i)*1) (.row r0 3 1) (vI x) rfl hlx k_,.shr f95 35 .i64 (x:Int) (v:Int) r hq k_,.pD f95 36 0 z l z i (z+i) 1 hi rfl k_,.st f95 100036 3 0 ((z+i)*1) (.row r0 3 1) (vI v) (.row r1 3 1) rfl wJ rfl k_,.sum 38 i 1 (i+1) rfl o_,.lt 41 (i+1) l false (by simp[hl]),.sum 29 i 1 (i+1) rfl o_] k_
theorem aOO{l a1:Nat}(hr:r<24)(ha:a1<bz^l)(h63:z+l<35184372088832):
  ah prog Bs 62 (.block 4 (af f95 4)) (DQ l z r 0) (zQ l z r a1 0) 1 ⟨.normal,DQ l z r l,zQ l z r a1 l,1⟩:=
 bO (id:=4) (ch (b:=aE (af f95 4)) (r:=⟨.exit 4,DQ l z r l,zQ l z r a1 l,1⟩) l (DQ l z r) (zQ l z r a1) (λk j _=>jP (l:=zQ l z r a1 k) (m:=zQ l z r a1 0) rfl j) (λi hi=>aON hr hi ha h63)
  (aA [.lt 27 l l false s_]) n_)
end

theorem aDk{a:Nat}(h0:a≠0):∃ z r,z<nd bz a/\r<24/\(∀ i,i<z->a/bz^i%bz=0)/\a/bz^z%bz≠0/\(∀ i,i<r->a/bz^z%bz/2^i%2=0)/\a/bz^z%bz/2^r%2≠0/\
  a=a/bz^z/2^r*2^(24*z+r)/\a/bz^z/2^r%2=1:=by
 have hnp:=ur (B:=bz) d_ h0;have xe:¬a/bz^(nd bz a-1)%bz=0:=λh=>by have h1:=dO (B:=bz) d_ a;rw[show nd bz a=nd bz a-1+1 by omega]at h1;have h2:=(GP (B:=bz) d_ h1).1 h;have h3:=jd (B:=bz) d_ h2;omega
 obtain⟨z,z1,z2,z3⟩:=yD (λi=>¬a/bz^i%bz=0) _ xe;have z3':∀ i,i<z->a/bz^i%bz=0:=λi hi=>EP.1 (z3 i hi);obtain⟨d,hd⟩:∃ d,d=a/bz^z%bz:=⟨_,rfl⟩;have DP:d<bz:=by rw[hd];exact cH _ d_
 have CU:d≠0:=by rw[hd];exact z2
 have aOP:∃ i,i<24/\¬d/2^i%2=0:=hZ λgF=>CU (by have h:=VG (d:=d) 24 (λi hi=>hZ λh=>gF ⟨i,hi,h⟩);rw[dF (show d<2^24 from DP)]at h;exact h)
 obtain⟨i0,hi0,kF⟩:=aOP;obtain⟨r,r1,r2,r3⟩:=yD (λi=>¬d/2^i%2=0) _ kF;have VJ:∀ i,i<r->d/2^i%2=0:=λi hi=>EP.1 (r3 i hi);have e1:a%bz^z=0:=aDg z z3';have e2:d%2^r=0:=VG r VJ;obtain⟨a1,eA⟩:∃ a1,a1=a/bz^z:=⟨_,rfl⟩;have ea:a=a1*bz^z:=by have:=je a (bz^z);rw[e1,<-eA,cP]at this;omega
 have hb:bz=2^(24-r)*2^r:=by rw[<-ep,show 24-r+r=24 by omega]
 have ed:a1=bz*(a1/bz)+d:=by rw[hd,<-eA];exact(je _ _).symm
 have e3:a1%2^r=0:=by
  rw[ed]
  conv=>lhs;rw[hb]
  rw[A7,cP _ (2^r),Nat.mul_add_mod,e2]
 have ea1:a1=a1/2^r*2^r:=by have:=je a1 (2^r);rw[e3,cP]at this;omega
 have e4:a1/2^r%2=d/2^r%2:=by
  have h2:0<2^r:=cG d_;have h3:a1/2^r=2^(24-r)*(a1/bz)+d/2^r:=by
   conv=>lhs;rw[ed,hb]
   rw[A7,mF,ph _ _ h2,mF];rw[<-hb]
  rw[h3,show 24-r=(23-r)+1 by omega,dw,A7,mF,CK]
 rw[hd]at r2 VJ;refine⟨z,r,by omega,by omega,z3',z2,VJ,r2,?_,?_⟩
 ·rw[<-eA];have e5:bz^z=2^(24*z):=by rw[rO]
  rw[ep,cP (2^(24*z)),<-fG,<-ea1,<-e5];exact ea
 ·rw[<-eA,e4,hd];omega
theorem aOQ{a:Nat}(h0:a≠0)(h63:nd bz a<1099511627776):∃ s a2,a=a2*2^s/\a2%2=1/\s<35184372088832/\∀(Bs:aa) (o:Oper) (k j:Nat),dp o.op=some (.func 95)->
  cA prog Bs o [.func (.func 95) #[] #[],sl k (nd bz a)] [(k,some (cr a)),(j,none)] (.tuple #[sl j (nd bz a2),vI s]) [(j,c7 a2),(k,.dead)]:=by
 obtain⟨z,r,hz,hr,z3,z2,r3,r2,aDl,PN⟩:=aDk h0;have al:=dO (B:=bz) d_ a;obtain⟨a1,eA⟩:∃ a1,a1=a/bz^z:=⟨_,rfl⟩;obtain⟨a2,hJ⟩:∃ a2,a2=a1/2^r:=⟨_,rfl⟩;have DP:a/bz^z%bz<bz:=cH _ d_;rw[<-eA,<-hJ]at aDl PN;refine⟨24*z+r,a2,aDl,PN,by omega,λBs o k j ho=>?_⟩;have h20:a2≠0:=λe=>by rw[e]at PN;cases PN
 have sG:=aOF (n:=nd bz a) (z:=z) (a:=a) o_ z3;rw[<-eA]at sG;have jm:cr a=.row (ai (ae bz (nd bz a) a)) 3 1:=rfl;obtain⟨n,hn⟩:∃ n,n=nd bz a:=⟨_,rfl⟩;rw[jm];rw[<-hn]at hz al sG h63 ⊢;have aDm:a1<bz^(n-z):=by rw[eA,iy (cG d_),<-ep,show n-z+z=n by omega];exact al
 have VK:a2<bz^(n-z):=eW (by rw[hJ];exact th _ _) aDm;have l1:=λBs=>aOJ (Bs:=Bs) hz z3 z2 o_;have l2:=λBs=>aOM (Bs:=Bs) (r:=r) hz rfl DP hr r3 r2;have l3:=λBs=>aOO (Bs:=Bs) (z:=z) (l:=n-z) hr aDm o_;have e0:oW (n-z) z r a1 0=ae bz n a:=by unfold oW;rw[sG];unfold cX ae;simp
 have e1:oW (n-z) z r a1 (n-z)=List.replicate z 0++ae bz (n-z) a2:=by
  unfold oW;rw[<-hJ]
  congr 1
  unfold cX ae;refine yv λi hi=>?_;rw[aw (j5.1 hi)]
 obtain⟨fin,DK⟩:∃ fin,fin=ai (List.replicate z 0++ae bz (n-z) a2):=⟨_,rfl⟩;have aDn:(fin.drop (z*1)).take (n-z)=ai (ae bz (n-z) a2):=by rw[DK,fZ];unfold ai;rw[sW,Rk s_,kj (by simp[oI])]
 unfold zQ at l3;rw[e0,e1,<-DK]at l3;have aOR:nd bz a2<=n-z:=jd d_ VK;have CM:fin.all flat=true:=by rw[DK];exact gV _
 have CT:(fin.drop (z*1)).take (nd bz a2)=cJ a2:=by
  have h1:(ai (ae bz (n-z) a2)).take (nd bz a2)=cJ a2:=by have:=BL VK;rwa[fZ]at this
  rw[<-aDn,Ml,nV aOR]at h1;exact h1
 have kA:=ur (B:=bz) d_ h20;have htr:∀ Bs,cA prog Bs (av f95 58) [.func (.func 139) #[] #[],xN 0 (n-z) z] [(0,some (.row fin 3 1))] (xN 0 (nd bz a2) z) []:=λBs=>
  aOD (Bs:=Bs) (y:=.func 139) (k:=0) (off:=z*1) (cc:=z) (x:=.row fin 3 1) k_ rfl CM aDn VK o_
 unfold xO mU at l1;unfold xP mU at l2;unfold DQ at l3;refine aN4 (x:=.func 95) ho k_ o_ (kv _) (kv _) rfl kA λw g cap cur hg lp jy bA hc=>?_;have hm:=Se hg jy bA hc (kv _)
 refine rJ (M:=[(0,.row (ai (ae bz n a)) 3 1)]) (next:=1) (args:=[sl 0 n]) (args':=[.slice (some ⟨g,0,none⟩) n cap]) (v:=.tuple #[xN 0 (nd bz a2) z,vI (24*z+r)])
  (ms:=[(0,.row fin 3 1)]) (N:=62) mixed func95 k_ 200
  (rs:=[(.code 0 _ _ _ _ _ (l1 _):aX prog (aa.vu w g) 62),.code 2 _ _ _ _ _ (l2 _),.code 4 _ _ _ _ _ (l3 _),.step 58 (av f95 58) _ _ _ _ (htr _),.sum 61 (24*z) r (24*z+r) rfl o_]) k_ ?_ hm ?_ ?_ ?_
 ·exact .cons (.slc (off:=0) (fE _ _ _) lp o_) .nil
 ·exact Zg _ _ _
 ·intro k hk;unfold aY;rw[ao o_]
 ·intro au bY v' w' hle sV bj dz;have Dd:=dz _ (aT ..);have qp:=hle 0 _ (fE _ _ _);obtain⟨q1,fN,q2,q3,q4⟩:=Sf bj qp Dd (bf.1 CM);obtain⟨cM,rfl,ba⟩:=sV.ub;obtain⟨p,q,hp,h3,h4⟩:=jx ba;have e:cM=#[p,q]:=vh.1 (by rw[hp]);subst e;rw[h4.eR rfl];have ct:=oH (len:=nd bz a2) bj Dd rfl (bf.1 CM) (λh=>h) h3;have BQ:cK w' p (nd bz a2) ((fin.drop (z*1)).take (nd bz a2)):=ct;rw[CT]at BQ;rcases h3.gW rfl with ⟨_,Jn,_⟩|⟨b,oo,rl,c2,gw,_,_,he⟩
  ·omega
  ·dsimp only at gw he;rw[qp]at gw;injection gw with gw;injection gw with gw hb3 hb4;subst gw;subst hb3;rw[he]at BQ ⊢;exact⟨_,_,rfl,q1,⟨fN,q2,q3⟩,BQ⟩
theorem aDo{m:Nat}(h:m%2=1)(s:Nat):Nat.Coprime (2^s) m:=by refine Nat.Coprime.pow_left s ?_;show Nat.gcd 2 m=1;rw[Nat.gcd_rec,h];rfl
theorem aDp{x y s t:Nat}(h:x*2^s=y*2^t)(hx:x%2=1)(bJ:s<=t):x=y/\s=t:=by
 obtain⟨d,rfl⟩:∃ d,t=s+d:=⟨t-s,by omega⟩;have h2:0<2^s:=cG d_;rw[ep,cP (2^s),<-fG]at h;have h3:=aJL h2 h;cases d with
 |zero=>exact⟨by rw[h3];simp,rfl⟩
 |succ d=>
  exfalso;rw[dw,<-fG]at h3;rw[h3,Y1]at hx;cases hx
theorem aOS{x y s t:Nat}(h:x*2^s=y*2^t)(hx:x%2=1)(hy:y%2=1):x=y/\s=t:=by
 rcases NF s t with h1|h1
 ·exact aDp h hx h1
 ·obtain⟨e1,e2⟩:=aDp h.symm hy h1;exact⟨e1.symm,e2.symm⟩
noncomputable def gK(a:Nat):Nat:=by
 classical
 exact if h:∃ x s,a=x*2^s/\x%2=1 then h.choose else 1
theorem aDq{a x s:Nat}(h:a=x*2^s)(hx:x%2=1):gK a=x:=by have hex:∃ x s,a=x*2^s/\x%2=1:=⟨x,s,h,hx⟩;unfold gK;rw[dif_pos hex];obtain⟨t,h1,h2⟩:=hex.choose_spec;exact(aOS (h1.symm.trans h) h2 hx).1
theorem VL{a:Nat}(h0:a≠0):∃ s,a=gK a*2^s/\gK a%2=1/\gK a<=a:=by obtain⟨z,r,_,_,_,_,_,_,h1,h2⟩:=aDk h0;have e:=aDq h1 h2;rw[e];exact⟨_,h1,h2,dh (ES _ (cG d_)) (u9 h1.symm)⟩
noncomputable def gs(a b:Nat):Nat->Nat×Nat
 |0=>(a,b)
 |i+1=>(min (gs a b i).1 (gs a b i).2,gK (max (gs a b i).1 (gs a b i).2-min (gs a b i).1 (gs a b i).2))
theorem aOT{u v:Nat}(hu:u%2=1)(hv:v%2=1)(aU:u≠v):min u v%2=1/\gK (max u v-min u v)%2=1/\Nat.gcd (min u v) (gK (max u v-min u v))=Nat.gcd u v/\min u v+gK (max u v-min u v)<u+v/\max (min u v) (gK (max u v-min u v))<=max u v:=by
 have go:∀ u v,u%2=1->u<v->gK (v-u)%2=1/\Nat.gcd u (gK (v-u))=Nat.gcd u v/\u+gK (v-u)<u+v/\max u (gK (v-u))<=v:=by intro u v hu al;obtain⟨s,h1,h2,h3⟩:=VL (show v-u≠0 by omega);refine⟨h2,?_,by omega,Nat.max_le.2 ⟨by omega,by omega⟩⟩;have h4:=(aDo hu s).gcd_mul_right_cancel_right (gK (v-u));rw[<-h1]at h4;rw[<-h4,Nat.gcd_sub_self_right o_]
 rcases Et aU with h|h
 ·rw[nV o_,aDr o_];obtain⟨h1,h2,h3,h4⟩:=go u v hu h;exact⟨hu,h1,h2,h3,h4⟩
 ·rw[Vq o_,aDs o_];obtain⟨h1,h2,h3,h4⟩:=go v u hv h;exact⟨hv,h1,by rw[h2,Hr],by omega,h4⟩
theorem PO{a b:Nat}(ha:a%2=1)(hb:b%2=1):∀ i,(∀ j,j<i->(gs a b j).1≠(gs a b j).2)->(gs a b i).1%2=1/\(gs a b i).2%2=1/\Nat.gcd (gs a b i).1 (gs a b i).2=Nat.gcd a b/\(gs a b i).1+(gs a b i).2+i<=a+b/\max (gs a b i).1 (gs a b i).2<=max a b
 |0,_=>⟨ha,hb,rfl,bh _,bh _⟩
 |i+1,h=>by obtain⟨h1,h2,h3,h4,h5⟩:=PO ha hb i λj hj=>h j o_;obtain⟨k1,k2,k3,k4,k5⟩:=aOT h1 h2 (h i o_);exact⟨k1,k2,k3.trans h3,by show min _ _+gK _+(i+1)<=a+b;omega,dh k5 h5⟩
theorem aOU{a b:Nat}(ha:a%2=1)(hb:b%2=1):∃ n,(gs a b n).1=(gs a b n).2/\∀ i,i<n->(gs a b i).1≠(gs a b i).2:=by
 have key:∃ n,(gs a b n).1=(gs a b n).2:=hZ λgF=>by have:=PO ha hb (a+b+1) λj _ h=>gF ⟨j,h⟩;omega
 obtain⟨n,hn⟩:=key;obtain⟨e,h1,h2,h3⟩:=yD (λi=>(gs a b i).1=(gs a b i).2) n hn;exact⟨e,h2,h3⟩
theorem aOV{x y s t:Nat}(hx:x%2=1)(hy:y%2=1):Nat.gcd (x*2^s) (y*2^t)=Nat.gcd x y*2^(min s t):=by
 have go:∀ x y s t,x%2=1->s<=t->Nat.gcd (x*2^s) (y*2^t)=Nat.gcd x y*2^s:=by intro x y s t hx bJ;obtain⟨d,rfl⟩:∃ d,t=s+d:=⟨t-s,by omega⟩;rw[ep,cP (2^s),<-fG,Nat.gcd_mul_right,(aDo hx d).gcd_mul_right_cancel_right]
 rcases NF s t with h|h
 ·rw[nV h,go x y s t hx h]
 ·rw[Vq h,Hr,go y x t s hy h,Hr]
theorem VM{a b:Nat}{t:Bool}(h:decide (a=b)=t):Value.bool (gQ a b==0)=.bool t:=by
 rw[<-h];congr 1;unfold gQ
 by_cases h1:a<b
 ·rw[aw h1,aJ o_];rfl
 ·rw[ao h1];by_cases h2:b<a
  ·rw[aw h2,aJ o_];rfl
  ·rw[ao h2,aB o_];rfl
theorem aDt{a b:Nat}{t:Bool}(h:decide (b<a)=t):Value.bool (decide (gQ a b>0))=.bool t:=by
 rw[<-h];congr 1;rw[s9];unfold gQ
 by_cases h1:a<b
 ·rw[aw h1];omega
 ·rw[ao h1];by_cases h2:b<a
  ·rw[aw h2];omega
  ·rw[ao h2];omega
theorem PQ{a:Nat}(h0:a≠0)(h63:nd bz a<1099511627776):∃ s,a=gK a*2^s/\s<35184372088832/\∀(Bs:aa) (o:Oper) (k j:Nat),dp o.op=some (.func 95)->
  cA prog Bs o [.func (.func 95) #[] #[],sl k (nd bz a)] [(k,some (cr a)),(j,none)] (.tuple #[sl j (nd bz (gK a)),vI s]) [(j,c7 (gK a)),(k,.dead)]:=by
 obtain⟨s,a2,h1,h2,h3,h4⟩:=aOQ h0 h63;have e:=aDq h1 h2;rw[e];exact⟨s,h1,h3,h4⟩
section
variable{Bs:aa}
def gI(u v:Nat):aV:=[(9,sl 7 (nd bz u)),(10,sl 8 (nd bz v))]
def gX(u v:Nat):List Obj:=[c7 u,c7 v]
theorem aOW{u v:Nat}(al:u<v)(hu:nd bz u<1099511627776)(hv:nd bz v<1099511627776):
  ah prog Bs 111 (aE (af f56 2)) (gI u v) ([]++marks 7 (gX u v)) 9 ⟨.normal,gR 7 [some 7,some 10] (gI u (gK (v-u))),[]++dP [some 7,some 10] (gX u (gK (v-u))),11⟩:=by
 have hd:nd bz (v-u)<1099511627776:=eW (iL d_ (Bf _ _)) hv;obtain⟨s,_,_,ho⟩:=PQ (show v-u≠0 by omega) hd;exact aA [.uX f56 86 7 8 u v (c7 u) (c7 v) rfl rfl rfl rfl o_ o_ k_,.rw 88 _ (.bool false) (VM (a:=u) (b:=v) (aJ o_)),.rw 90 _ (.bool false) (aDt (a:=u) (b:=v) (aJ o_)),.tO f56 96 9 8 7 v u (c7 v) (c7 u) rfl rfl rfl rfl o_ o_ k_,.step 97 _ _ _ _ _ (ho Bs (av f56 97) 9 10 k_)]
theorem aOX{u v:Nat}(al:v<u)(hu:nd bz u<1099511627776)(hv:nd bz v<1099511627776):
  ah prog Bs 111 (aE (af f56 2)) (gI u v) ([]++marks 7 (gX u v)) 9 ⟨.normal,gR 7 [some 8,some 10] (gI v (gK (u-v))),[]++dP [some 8,some 10] (gX v (gK (u-v))),11⟩:=by
 have hd:nd bz (u-v)<1099511627776:=eW (iL d_ (Bf _ _)) hu;obtain⟨s,_,_,ho⟩:=PQ (show u-v≠0 by omega) hd;exact aA [.uX f56 86 7 8 u v (c7 u) (c7 v) rfl rfl rfl rfl o_ o_ k_,.rw 88 _ (.bool false) (VM (a:=u) (b:=v) (aJ o_)),.rw 90 _ (.bool true) (aDt (a:=u) (b:=v) (aB o_)),.tO f56 96 9 7 8 u v (c7 u) (c7 v) rfl rfl rfl rfl o_ o_ k_,.step 97 _ _ _ _ _ (ho Bs (av f56 97) 9 10 k_)]
theorem aOY{u:Nat}(hu:nd bz u<1099511627776):
  ah prog Bs 111 (aE (af f56 2)) (gI u u) ([]++marks 7 (gX u u)) 9 ⟨.exit 2,[(9,sl 7 (nd bz u))],[(7,c7 u)],9⟩:=
 aA [.uX f56 86 7 8 u u (c7 u) (c7 u) rfl rfl rfl rfl o_ o_ k_,.rw 88 _ (.bool true) (VM (a:=u) (b:=u) (aB rfl))]
theorem aOZ{a b:Nat}(ha:a%2=1)(hb:b%2=1)(hm:nd bz (max a b)<1099511627776):
  ah prog Bs 111 (.block 2 (af f56 2)) [(9,sl 5 (nd bz a)),(10,sl 6 (nd bz b))] [(5,c7 a),(6,c7 b)] 7 ⟨.normal,[(9,sl 7 (nd bz (Nat.gcd a b)))],[(7,c7 (Nat.gcd a b))],9⟩:=by
 obtain⟨n,hn,hi⟩:=aOU ha hb;have uK:=(PO ha hb n hi).2.2.1;rw[hn,Nat.gcd_self]at uK;have Eu:∀ i,i<=n->nd bz (gs a b i).1<1099511627776/\nd bz (gs a b i).2<1099511627776:=λi ct=>by have h:=(PO ha hb i λj hj=>hi j o_).2.2.2.2;have h1:=iL (B:=bz) d_ (dh (Nat.le_max_left _ _) h);have h2:=iL (B:=bz) d_ (dh (Nat.le_max_right _ _) h);omega
 have vx:ah prog Bs 111 (aE (af f56 2)) (gI (gs a b n).1 (gs a b n).2) ([]++marks 7 (gX (gs a b n).1 (gs a b n).2)) 9 ⟨.exit 2,[(9,sl 7 (nd bz (Nat.gcd a b)))],[(7,c7 (Nat.gcd a b))],9⟩:=by have gw:=(Eu n (bh _)).2;rw[hn,uK]at *;exact aOY gw
 have:=rS (P:=prog) (B:=Bs) (N:=111) (b:=aE (af f56 2)) (next:=7) (p:=2) (r:=⟨.exit 2,[(9,sl 7 (nd bz (Nat.gcd a b)))],[(7,c7 (Nat.gcd a b))],9⟩) n (λi=>gI (gs a b i).1 (gs a b i).2) (λ_=>[]) (λi=>gX (gs a b i).1 (gs a b i).2) [some 5,some 6] (λ_ _=>rfl)
  (λi _=>⟨λq hq=>(by cases hq),λz hz=>by simp[gX]at hz;rcases hz with rfl|rfl<;>exact G8 (kv _)⟩) k_ k_
  (λi al=>by
   have aU:=hi i al;obtain⟨b1,b2⟩:=Eu i o_;have e1:(gs a b (i+1)).1=min (gs a b i).1 (gs a b i).2:=rfl;have e2:(gs a b (i+1)).2=gK (max (gs a b i).1 (gs a b i).2-min (gs a b i).1 (gs a b i).2):=rfl;simp only[e1,e2];generalize (gs a b i).1=u at *;generalize (gs a b i).2=v at *;rcases Et aU with h|h
   ·rw[nV o_,aDr o_];exact⟨[some 7,some 10],11,k_,aOW h b1 b2⟩
   ·rw[Vq o_,aDs o_];exact⟨[some 8,some 10],11,k_,aOX h b1 b2⟩) vx n_
 exact bO (id:=2) this
def tI(g s t i:Nat):aV:=[(14,vI i),(9,sl 9 (nd bz (g*2^i))),(11,vI s),(12,vI t)]
theorem aO0{g s t i:Nat}(hi:i<min s t)(hg:nd bz (g*2^i)<35184372088832)(hs:s<35184372088832):
  ah prog Bs 111 (aE (af f56 4)) (tI g s t i) ([]++marks 9 [c7 (g*2^i)]) 10 ⟨.normal,gR 9 [some 10] (tI g s t (i+1)),[]++dP [some 10] [c7 (g*2^(i+1))],11⟩:=by
 have ht:=aDe (B:=Bs) (o:=av f56 108) (x:=.func 98) (aNz (a:=g*2^i) (c:=0) o_ hg) (nK (k:=9) (x:=c7 (g*2^i)) rfl rfl (.p (v:=vI 0) rfl .nil)) k_ k_ (sB _) 10;have e:2*(g*2^i)+0=g*2^(i+1):=by rw[dw,jn,mG,cP 2]
 rw[e]at ht;obtain⟨m,hm⟩:∃ m,m=min s t:=⟨_,rfl⟩;rw[<-hm]at hi;have dz:m<=s:=by rw[hm];exact Nat.min_le_left _ _
 unfold tI;generalize g*2^(i+1)=y at *;generalize g*2^i=x at *;exact aA [.PI f56 103 s t m hm k_,.lt 104 i m true (aB hi),.step 108 _ _ _ _ _ ht,.sum 106 i 1 (i+1) rfl o_]
theorem aO1{g s t:Nat}(hg:∀ i,i<=min s t->nd bz (g*2^i)<35184372088832)(hs:s<35184372088832):
  ah prog Bs 111 (.block 4 (af f56 4)) [(14,vI 0),(9,sl 7 (nd bz g)),(11,vI s),(12,vI t)] [(7,c7 g)] 9 ⟨.normal,[(9,sl 9 (nd bz (g*2^min s t)))],[(9,c7 (g*2^min s t))],10⟩:=by
 have:=rS (P:=prog) (B:=Bs) (N:=111) (b:=aE (af f56 4)) (next:=9) (p:=1) (r:=⟨.exit 4,[(9,sl 9 (nd bz (g*2^min s t)))],[(9,c7 (g*2^min s t))],10⟩) (min s t) (tI g s t) (λ_=>[]) (λi=>[c7 (g*2^i)]) [some 7] (λ_ _=>rfl)
  (λi _=>⟨λq hq=>(by cases hq),λz hz=>by simp at hz;subst hz;exact G8 (kv _)⟩) k_ k_
  (λi al=>⟨[some 10],11,k_,aO0 al (hg i o_) hs⟩)
  (by unfold tI;obtain⟨m,hm⟩:∃ m,m=min s t:=⟨_,rfl⟩;rw[<-hm];generalize g*2^m=x at *;exact aA [.PI f56 103 s t m hm k_,.lt 104 m m false s_]) n_
 have e0:g*2^0=g:=by simp
 unfold tI at this;rw[e0]at this;exact bO (id:=4) this
def aVd(u v:Nat):aV:=[(5,vI u),(7,vI v)]
theorem aVo{x y:Nat}:ah prog Bs 111 (.block 0 (af f56 0)) (aVd x y) [] 3 ⟨.normal,[(5,vI (Nat.gcd x y))],[],3⟩:=by
 obtain⟨n,hn,hi⟩:=ND x y (λ_ v=>decide (v≠0)) (λu v h=>kH h);have hz:(eu x y n).2=0:=by have:=Hs hn;omega
 have hg:=Kb x y n;rw[hz,Te]at hg;rw[<-hg];refine bO (id:=0) (ch (P:=prog) (B:=Bs) (N:=111) (b:=aE (af f56 0)) (next:=3) (r:=⟨.exit 0,[(5,vI (eu x y n).1)],[],3⟩) n (λi=>aVd (eu x y i).1 (eu x y i).2) (λ_=>[]) (λ_ _ _=>Iff.rfl) (λi al=>?_) ?_ n_)
 ·have h0:(eu x y i).2≠0:=kH (hi i al);show ah _ _ _ _ (aVd (eu x y i).1 (eu x y i).2) [] 3 ⟨.normal,aVd (eu x y i).2 ((eu x y i).1%(eu x y i).2),[],3⟩;generalize (eu x y i).1=u at *;generalize (eu x y i).2=v at *;exact aA [.rw 49 (.bool ((v:Int)!=0)) (.bool true) (by congr 1;rw[uu];omega),.wX f56 53 .i64 (u:Int) v ((u%v:Nat):Int) o_ (by rw[yP o_];rfl) k_]
 ·rw[hz];exact aA [.rw 49 (.bool (((0:Nat):Int)!=0)) (.bool false) rfl]
end
theorem aVa{n1 n2:Bool}{m1 m2 p q:Nat}(v1:n1=true->m1≠0)(v2:n2=true->m2≠0)(h1:m1<2^p)(h2:m2<2^q)(hp:p<=1099511627774)(hq:q<=1099511627774):
  aD prog 56 [sv n1 m1,sv n2 m2] (bK (Nat.gcd m1 m2:Nat)):=by
 have b1:=tP h1;have b2:=tP h2;have c1:=vA h1;have c2:=vA h2;have w1:=aV6 n1 v1;have w2:=aV6 n2 v2;have r1:=Lj m1;have r2:=Lj m2;by_cases hs:nd 256 m1<=7/\nd 256 m2<=7
 ·obtain⟨s1,s2⟩:=hs;have q1:=sF (neg:=false) (m:=m1) n_ s1;have q2:=sF (neg:=false) (m:=m2) n_ s2;have l1:=Iq s1;have l2:=Iq s2;have NG:Nat.gcd m1 m2<72057594037927936:=by
   by_cases h0:m1=0
   ·rw[h0,TQ];exact l2
   ·exact eW (aAO _ (te h0)) l1
  exact aK func56 (λw=>[w1.at 16,w2.at 20,.rw 26 _ (vI (nd 256 m1)) r1,.rw 27 (.bool (decide (((nd 256 m1:Nat):Int)<=7))) (.bool true) (by rw[aB o_]),.rw 31 _ (vI (nd 256 m2)) r2,.rw 32 (.bool (decide (((nd 256 m2:Nat):Int)<=7))) (.bool true) (by rw[aB o_]),q1.at 38,q2.at 45,.code 0 _ _ _ _ _ (aVo (x:=m1) (y:=m2)),(aVy (z:=((Nat.gcd m1 m2:Nat):Int)) o_ o_).at 55])
 ·by_cases hz:m1=0\/m2=0
  ·have e:Nat.gcd m1 m2=m1+m2:=by rcases hz with h|h<;>rw[h]<;>simp
   have bs:nd bz (m1+m2)<35184372088832:=by rcases hz with h|h<;>rw[h]<;>simp<;>omega
   rw[e];by_cases hL:nd 256 m1<=7
   ·by_cases h0:m1=0
    ·exact aK func56 (λw=>[w1.at 16,w2.at 20,.rw 26 _ (vI (nd 256 m1)) r1,.rw 27 (.bool (decide (((nd 256 m1:Nat):Int)<=7))) (.bool true) (by rw[aB o_]),.rw 31 _ (vI (nd 256 m2)) r2,.rw 32 (.bool (decide (((nd 256 m2:Nat):Int)<=7))) (.bool false) (by rw[aJ o_]),.eF f56 58 3 m1 o_ k_,.eF f56 61 4 m2 o_ k_,.fh 64 (nd bz m1) 0 true (aB (by rw[h0,pf])),.DF f56 72 5 3 4 m1 m2 (cr m1) (cr m2) rfl rfl rfl rfl o_ o_ k_,.fp f56 73 5 (m1+m2) false (cr (m1+m2)) rfl rfl bs k_])
    ·have h3:m2=0:=by omega
     have h4:=ur (B:=bz) d_ h0;exact aK func56 (λw=>[w1.at 16,w2.at 20,.rw 26 _ (vI (nd 256 m1)) r1,.rw 27 (.bool (decide (((nd 256 m1:Nat):Int)<=7))) (.bool true) (by rw[aB o_]),.rw 31 _ (vI (nd 256 m2)) r2,.rw 32 (.bool (decide (((nd 256 m2:Nat):Int)<=7))) (.bool false) (by rw[aJ o_]),.eF f56 58 3 m1 o_ k_,.eF f56 61 4 m2 o_ k_,.fh 64 (nd bz m1) 0 false (aJ o_),.fh 68 (nd bz m2) 0 true (aB (by rw[h3,pf])),.DF f56 72 5 3 4 m1 m2 (cr m1) (cr m2) rfl rfl rfl rfl o_ o_ k_,.fp f56 73 5 (m1+m2) false (cr (m1+m2)) rfl rfl bs k_])
   ·by_cases h0:m1=0
    ·exact aK func56 (λw=>[w1.at 16,w2.at 20,.rw 26 _ (vI (nd 256 m1)) r1,.rw 27 (.bool (decide (((nd 256 m1:Nat):Int)<=7))) (.bool false) (by rw[aJ o_]),.eF f56 58 3 m1 o_ k_,.eF f56 61 4 m2 o_ k_,.fh 64 (nd bz m1) 0 true (aB (by rw[h0,pf])),.DF f56 72 5 3 4 m1 m2 (cr m1) (cr m2) rfl rfl rfl rfl o_ o_ k_,.fp f56 73 5 (m1+m2) false (cr (m1+m2)) rfl rfl bs k_])
    ·have h3:m2=0:=by omega
     have h4:=ur (B:=bz) d_ h0;exact aK func56 (λw=>[w1.at 16,w2.at 20,.rw 26 _ (vI (nd 256 m1)) r1,.rw 27 (.bool (decide (((nd 256 m1:Nat):Int)<=7))) (.bool false) (by rw[aJ o_]),.eF f56 58 3 m1 o_ k_,.eF f56 61 4 m2 o_ k_,.fh 64 (nd bz m1) 0 false (aJ o_),.fh 68 (nd bz m2) 0 true (aB (by rw[h3,pf])),.DF f56 72 5 3 4 m1 m2 (cr m1) (cr m2) rfl rfl rfl rfl o_ o_ k_,.fp f56 73 5 (m1+m2) false (cr (m1+m2)) rfl rfl bs k_])
  ·have vy:m1≠0:=λe=>hz (.inl e);have EU:m2≠0:=λe=>hz (.inr e);have h41:=ur (B:=bz) d_ vy;have h42:=ur (B:=bz) d_ EU;obtain⟨s,es,hsb,os⟩:=PQ vy o_;obtain⟨t,et,htb,ot⟩:=PQ EU o_;obtain⟨_,_,o1,xo⟩:=VL vy;obtain⟨_,_,o2,VN⟩:=VL EU;have s7:=aOV (s:=s) (t:=t) o1 o2;rw[<-es,<-et]at s7;have Ur:nd bz (max (gK m1) (gK m2))<1099511627776:=by
    have k1:=iL (B:=bz) d_ xo;have k2:=iL (B:=bz) d_ VN;rcases NF (gK m1) (gK m2)with h|h
    ·rw[aDr h];omega
    ·rw[aDs h];omega
   have gl:=λBs=>aOZ (Bs:=Bs) o1 o2 Ur;have Ou:Nat.gcd m1 m2<=m1:=aAO _ (te vy);have tb:∀ i,i<=min s t->nd bz (Nat.gcd (gK m1) (gK m2)*2^i)<35184372088832:=λi hi=>by
    have k1:Nat.gcd (gK m1) (gK m2)*2^i<=Nat.gcd m1 m2:=by rw[s7];exact jr _ (cY d_ hi)
    have k2:=iL (B:=bz) d_ (dh k1 Ou);omega
   have tl:=λBs=>aO1 (Bs:=Bs) (g:=Nat.gcd (gK m1) (gK m2)) (s:=s) (t:=t) tb hsb;rw[<-s7]at tl;have bg:nd bz (Nat.gcd m1 m2)<35184372088832:=by have:=iL (B:=bz) d_ Ou;omega
   generalize Nat.gcd m1 m2=G at *;generalize Nat.gcd (gK m1) (gK m2)=G0 at *;generalize gK m1=x1 at *;generalize gK m2=x2 at *;by_cases hL:nd 256 m1<=7
   ·exact gE mixed func56 200 (λw=>[w1.at 16,w2.at 20,.rw 26 _ (vI (nd 256 m1)) r1,.rw 27 (.bool (decide (((nd 256 m1:Nat):Int)<=7))) (.bool true) (by rw[aB o_]),.rw 31 _ (vI (nd 256 m2)) r2,.rw 32 (.bool (decide (((nd 256 m2:Nat):Int)<=7))) (.bool false) (by rw[aJ o_]),.eF f56 58 3 m1 o_ k_,.eF f56 61 4 m2 o_ k_,.fh 64 (nd bz m1) 0 false (aJ o_),.fh 68 (nd bz m2) 0 false (aJ o_),.step 76 _ _ _ _ _ (os _ (av f56 76) 3 5 k_),.step 81 _ _ _ _ _ (ot _ (av f56 81) 4 6 k_),.code 2 _ _ _ _ _ (gl _),.code 4 _ _ _ _ _ (tl _),.fp f56 110 9 G false (c7 G) rfl rfl bg k_]) (λ_=>k_) k_ k_
   ·exact gE mixed func56 200 (λw=>[w1.at 16,w2.at 20,.rw 26 _ (vI (nd 256 m1)) r1,.rw 27 (.bool (decide (((nd 256 m1:Nat):Int)<=7))) (.bool false) (by rw[aJ o_]),.eF f56 58 3 m1 o_ k_,.eF f56 61 4 m2 o_ k_,.fh 64 (nd bz m1) 0 false (aJ o_),.fh 68 (nd bz m2) 0 false (aJ o_),.step 76 _ _ _ _ _ (os _ (av f56 76) 3 5 k_),.step 81 _ _ _ _ _ (ot _ (av f56 81) 4 6 k_),.code 2 _ _ _ _ _ (gl _),.code 4 _ _ _ _ _ (tl _),.fp f56 110 9 G false (c7 G) rfl rfl bg k_]) (λ_=>k_) k_ k_
theorem aVe{x y:Int}{p q:Nat}(h1:x.natAbs<2^p)(h2:y.natAbs<2^q)(hp:p<=1099511627774)(hq:q<=1099511627774):aD prog 56 [bK x,bK y] (bK (Nat.gcd x.natAbs y.natAbs:Nat)):=by revert h1 h2;refine E7 (C:=λx y v u=>x.natAbs<2^p->y.natAbs<2^q->aD prog 56 [v,u] (bK (Nat.gcd x.natAbs y.natAbs:Nat))) (λn1 n2 m1 m2 v1 v2 h1 h2=>?_) x y;rw[qb]at h1 h2;rw[qb,qb];exact aVa v1 v2 h1 h2 hp hq
theorem aVb{g:Nat}{x:Int}{p q:Nat}(h1:g<2^p)(h2:x.natAbs<2^q)(hp:p<=aC)(hq:q<=aC):aD prog 56 [bK g,bK x] (bK (Nat.gcd g x.natAbs:Nat)):=by have:=aVe (x:=(g:Int)) (y:=x) (by rw[C0];exact h1) h2 hp hq;rw[C0]at this;exact this
theorem aVq{x y:Int}{n:Nat}(hy:y≠0)(h1:x.natAbs<2^n)(h2:y.natAbs<2^n)(hn:n<=aC):aD prog 130 [bK x,bK y] (bK (x.fdiv y)):=
 aK func130 (λ_=>[(aVu hy h1 h2 hn hn).at 11])
theorem aVx{c:Nat->Int}{d:Int}{n:Nat}(hd:d≠0)(h:dD n (oS c d))(hn:n<=aC):aD prog 78 [pz c,bK d] (ik (oS c d).low):=by
 obtain⟨h0,h1,h2,h3,h4⟩:=h;have g1:=aVe h4 h0 hn hn;have s1:=yZ h4 h0;have g2:=aVb s1 h1 hn hn;have s2:=yZ s1 h1;have g3:=aVb s2 h2 hn hn;have s3:=yZ s2 h2;have g4:=aVb s3 h3 hn hn;obtain⟨f,hf⟩:∃ f,f=oS c d:=⟨_,rfl⟩;have vf:f.d≠0:=by rw[hf];exact hd
 have qc:=TE vf;have TS:=N0 f;have hg:f.g<2^n:=by
  have h5:f.d.natAbs<2^n:=by rw[hf];exact h4
  exact eW (Nat.le_of_dvd o_ (Fe f)) h5
 have bA:f.s.natAbs<2^n:=by rw[TS];exact hg
 have ov:∀ u:Int,f.g ∣ u.natAbs->u.natAbs<2^n->aD prog 130 [bK u,bK f.s] (bK (u/f.s)):=λu hu uI=>by have:=aVq qc uI bA hn;rw[Int.fdiv_eq_ediv_of_dvd (C1 hu)]at this;exact this
 have o0:=ov f.a (NW f) (by rw[hf];exact h0);have o1:=ov f.b (NX f) (by rw[hf];exact h1);have o2:=ov f.c (NY f) (by rw[hf];exact h2);have o3:=ov f.e (NZ f) (by rw[hf];exact h3);have o4:=ov f.d (Fe f) (by rw[hf];exact h4);have Bk:=aVy (z:=1) d_ d_;have az:=aVX d;have VO:Nat.gcd (Nat.gcd (Nat.gcd (Nat.gcd (oS c d).d.natAbs (oS c d).a.natAbs) (oS c d).b.natAbs) (oS c d).c.natAbs) (oS c d).e.natAbs=f.g:=by rw[hf];rfl
 rw[VO]at g4;have ab:=aNR (f.g:Int);rw[C0]at ab;rw[<-hf];have e0:f.a=c 0:=by rw[hf];rfl
 have e1:f.b=c 1:=by rw[hf];rfl
 have e2:f.c=c 2:=by rw[hf];rfl
 have e3:f.e=c 3:=by rw[hf];rfl
 have e4:f.d=d:=by rw[hf];rfl
 have one:(bF 1).Sm:=vE (n:=1) d_ d_;have sm:(bF f.s).Sm:=vE bA hn;by_cases Fl:d<0
 ·have hs:f.s=-(f.g:Int):=by unfold Fr.s;rw[e4,aw Fl]
  have aU:bF f.s≠bF 1:=λe=>by have:=yY e;omega
  have ng:=aVA (f.g:Int);rw[<-hs]at ng;rw[e0]at o0;rw[e1]at o1;rw[e2]at o2;rw[e3]at o3;rw[e4]at o4;have dq:f.low=⟨c 0/f.s,c 1/f.s,c 2/f.s,c 3/f.s,d/f.s⟩:=by unfold Fr.low;rw[e0,e1,e2,e3,e4]
  rw[dq];have Bl:decide (d.sign<0)=true:=aB (by rw[E6 Fl];decide);generalize f.s=s at *;exact gE mixed func78 200 (λ_=>[g1.at 18,g2.at 18,g3.at 18,g4.at 18,ab.at 20,az.at 22,.rw 23 (.bool (decide (d.sign<0))) (.bool true) (by rw[Bl]),ng.at 25,Bk.at 30,.step 31 (av f78 31) _ _ _ _ (C3 (neg:=false) k_ (bF s) (bF 1) sm one (b:=true) (by simp;exact aU)),o0.at 41,o1.at 41,o2.at 41,o3.at 41,o4.at 46]) (λ_=>k_) k_ k_
 ·have hs:f.s=(f.g:Int):=by unfold Fr.s;rw[e4,ao Fl]
  have Bl:decide (d.sign<0)=false:=aJ (by rw[Be o_];decide);by_cases tu:f.g=1
  ·have dq:f.low=f:=by unfold Fr.low;rw[hs,tu];simp
   rw[dq,hf];rw[tu]at g4 ab;exact gE mixed func78 200 (λ_=>[g1.at 18,g2.at 18,g3.at 18,g4.at 18,ab.at 20,az.at 22,.rw 23 (.bool (decide (d.sign<0))) (.bool false) (by rw[Bl]),Bk.at 30,.step 31 (av f78 31) _ _ _ _ (C3 (neg:=false) k_ (bF 1) (bF 1) one one (b:=false) s_)]) (λ_=>k_) k_ k_
  ·have aU:bF f.s≠bF 1:=λe=>by have:=yY e;omega
   rw[e0]at o0;rw[e1]at o1;rw[e2]at o2;rw[e3]at o3;rw[e4]at o4;have dq:f.low=⟨c 0/f.s,c 1/f.s,c 2/f.s,c 3/f.s,d/f.s⟩:=by unfold Fr.low;rw[e0,e1,e2,e3,e4]
   rw[dq];rw[<-hs]at g4 ab;generalize f.s=s at *;exact gE mixed func78 200 (λ_=>[g1.at 18,g2.at 18,g3.at 18,g4.at 18,ab.at 20,az.at 22,.rw 23 (.bool (decide (d.sign<0))) (.bool false) (by rw[Bl]),Bk.at 30,.step 31 (av f78 31) _ _ _ _ (C3 (neg:=false) k_ (bF s) (bF 1) sm one (b:=true) (by simp;exact aU)),o0.at 41,o1.at 41,o2.at 41,o3.at 41,o4.at 46]) (λ_=>k_) k_ k_
theorem aVU{z:Int}(h:z.natAbs<9223372036854775808):aD prog 28 [.int .i64 z] (b9 (kI z)):=by
 rw[aAQ];have e:ik ⟨z,0,0,0,1⟩=(RN.mk (bF z) ⟨false,[]⟩ ⟨false,[]⟩ ⟨false,[]⟩ (bF 1)).v:=by unfold ik rZ;rw[C7]
 rw[e];exact aK func28 (λ_=>[(aVy (z:=z) o_ o_).at 4,(aVy (z:=1) d_ d_).at 6])
section
variable{P:Program}{B:aa}{N:Nat}
def VP(o:Oper):Bool:=match o.op with
 |.call c=>match c.callee,c.args.toList with
  |.builtin .max,[_,_]=>true
  |_,_=>false
 |_=>false
theorem aO2{o:Oper}(ho:VP o=true){x:Int}:cA P B o [.int .i64 x,.int .i64 (-x)] [] (vI x.natAbs) []:=by
 unfold VP at ho;split at ho
 ·rename_i c bN;split at ho
  ·rename_i p q h1 h2;refine(B8 (λu hu=>by simp at hu;rcases hu with rfl|rfl<;>rfl) rfl λρ fO w _=>?_).step;obtain⟨ce,ar,at'⟩:=c;dsimp only at h1 h2;subst h1;have e1:ar=#[p,q]:=by rw[<-zi (xs:=ar),h2]
   subst e1;rw[bN]at fO;simp[Op.operands,Call.operands]at fO;simp[execOp,bN,resolve,invoke,builtin,Builtin.max_,Builtin.max2,fO.1,fO.2,vI];split<;>omega
  ·cases ho
 ·cases ho
def aX.Ln(fn:Func)(key:Nat)(x:Int)(ho:VP (av fn key)=true):aX P B N:=
 .step key (av fn key) [.int .i64 x,.int .i64 (-x)] [] (vI x.natAbs) [] (aO2 ho)
end
theorem aO3(l:List UInt8)(c:UInt8):fR (l++[c])=fR l*256+c.toNat:=by unfold fR;rw[aCj];rfl
def fW(r:RN):Nat->RI
 |0=>r.a
 |1=>r.b
 |2=>r.c
 |3=>r.e
 |_=>r.d
def dZ(r:RI):Int:=sg r.neg (fR r.aZ)
def w5(W:Nat->Int):aj:=[.int .i64 (W 0),.int .i64 (W 1),.int .i64 (W 2),.int .i64 (W 3),.int .i64 (W 4)]
def wv(r:RN)(i:Nat):Nat->Int:=λj=>match Nat.blt j i with|true=>dZ (fW r j)|false=>0
def aO4(W:Nat->Int)(i:Nat)(x:Int):Nat->Int:=λj=>match Nat.beq j i with|true=>x|false=>W j
section
variable{Bs:aa}{W:Nat->Int}{q:RI}
def BR(i k:Nat):aV:=[(5,vI i),(4,ptr 2),(6,ptr (3+i)),(7,vI k)]
def xQ(W:Nat->Int)(q:RI)(i k:Nat):aH:=[(2,.aI (w5 (aO4 W i (fR (q.aZ.take k):Nat))) 87),(3+i,.aI q.cs 28)]
theorem aO5{i k:Nat}(hi:i<5)(hk:k<q.aZ.length)(h3:q.aZ.length<=3):
  ah prog Bs 58 (aE (af f53 2)) (BR i k) (xQ W q i k) (4+i) ⟨.normal,BR i (k+1),xQ W q i (k+1),4+i⟩:=by
 obtain⟨c,hc⟩:∃ c,q.aZ[k]?=some c:=⟨q.aZ[k],bd hk⟩;have hv:fR (q.aZ.take (k+1))=fR (q.aZ.take k)*256+c.toNat:=by rw[vV,hc];exact aO3 _ _
 have hb:(BA q.aZ)[k]?=some c:=by rw[JQ];exact hc
 have bA:Value.int .i64 ((BA q.aZ).size:Int)=vI q.aZ.length:=by rw[oK];rfl
 have al:fR (q.aZ.take k)<65536:=by have h1:=AR (q.aZ.take k);have h2:(256:Nat)^(q.aZ.take k).length<=256^2:=cY d_ (by rw[jL];omega);exact cx h1 (dh h2 d_)
 have hc3:=c.toNat_lt;unfold BR xQ;rw[hv];generalize fR (q.aZ.take k)=x at *;have w1:IntKind.i64.wrap ((x:Int)*2^8)=((x*256:Nat):Int):=by rw[show((x:Int)*2^8)=((x*256:Nat):Int)by simp,c8];omega
 have w2:IntKind.i64.wrap (c.toNat:Int)=(c.toNat:Int):=by rw[c8];omega
 have w3:IntKind.i64.wrap (((x*256:Nat):Int)+(c.toNat:Int))=((x*256+c.toNat:Nat):Int):=by rw[c8];omega
 generalize x*256+c.toNat=y at *;generalize x*256=z at *;generalize q.aZ.length=L at *;rcases i with _|_|_|_|_|i
 all_goals first|omega|exact aA [.rw 33 _ (vI L) bA,.lt 34 k L true (aB hk),.wr 41 .i64 ((x:Int)*2^8) _ w1,.sx f53 45 (BA q.aZ) k c hb k_,.wr 46 .i64 (c.toNat:Int) _ w2,.wr 47 .i64 _ _ w3,.sum 36 k 1 (k+1) rfl o_]
theorem aO6{i:Nat}(hi:i<5)(h3:q.aZ.length<=3):
  ah prog Bs 58 (.block 2 (af f53 2)) (BR i 0) (xQ W q i 0) (4+i) ⟨.normal,BR i q.aZ.length,xQ W q i q.aZ.length,4+i⟩:=by
 have bA:Value.int .i64 ((BA q.aZ).size:Int)=vI q.aZ.length:=by rw[oK];rfl
 refine bO (id:=2) (ch (b:=aE (af f53 2)) (r:=⟨.exit 2,BR i q.aZ.length,xQ W q i q.aZ.length,4+i⟩) q.aZ.length (BR i) (xQ W q i) (λk t _=>jP (l:=xQ W q i k) (m:=xQ W q i 0) rfl t) (λk hk=>aO5 hi hk h3) ?_ n_);unfold BR xQ;generalize fR (q.aZ.take q.aZ.length)=x at *;generalize q.aZ.length=L at *;rcases i with _|_|_|_|_|i
 all_goals first|omega|exact aA [.rw 33 _ (vI L) bA,.lt 34 L L false s_]
def F8(i:Nat):aV:=[(5,vI i),(1,ptr 0),(2,ptr 1),(4,ptr 2)]
def F9(r:RN)(W:Nat->Int):aH:=[(0,.aI r.cs 31),(1,.aI (w5 λ_=>0) 87),(2,.aI (w5 W) 87)]
theorem aO7{r:RN}{i:Nat}(hi:i<5)(h3:(fW r i).aZ.length<=3)(hv:xg (fW r i).neg (fW r i).aZ=true):
  ah prog Bs 58 (.block 1 (af f53 1)) (F8 i) (F9 r (wv r i)) (3+i) ⟨.normal,F8 i,F9 r (wv r (i+1)),4+i⟩:=by
 have lo:=aO6 (Bs:=Bs) (W:=wv r i) (q:=fW r i) hi h3;have mT:=aVv (fW r i).neg (fW r i).aZ;rw[hv]at mT;have bA:Value.int .i64 ((BA (fW r i).aZ).size:Int)=vI (fW r i).aZ.length:=by rw[oK];rfl
 have lj:Value.bool (decide (((fW r i).aZ.length:Int)>3))=.bool false:=by rw[aJ o_]
 unfold xQ BR at lo;rw[ZH,nI]at lo;have e0:fR []=0:=rfl;rw[e0]at lo;have al:fR (fW r i).aZ<16777216:=by have h1:=AR (fW r i).aZ;have h2:(256:Nat)^(fW r i).aZ.length<=256^3:=cY d_ h3;exact cx h1 (dh h2 d_)
 have wn:IntKind.i64.wrap (0-(fR (fW r i).aZ:Int))=-(fR (fW r i).aZ:Int):=by rw[c8];omega
 rcases r with ⟨⟨an,am⟩,⟨bn,bm⟩,⟨cn,cm⟩,⟨en,em⟩,⟨dn,dm⟩⟩;rcases i with _|_|_|_|_|i
 ·cases an
  ·exact aA [.rw 22 _ (vI am.length) bA,.rw 23 _ (.bool false) lj,mT.at 26,.code 2 _ _ _ _ _ lo]
  ·exact aA [.rw 22 _ (vI am.length) bA,.rw 23 _ (.bool false) lj,mT.at 26,.code 2 _ _ _ _ _ lo,.wr 55 .i64 _ _ wn]
 ·cases bn
  ·exact aA [.rw 22 _ (vI bm.length) bA,.rw 23 _ (.bool false) lj,mT.at 26,.code 2 _ _ _ _ _ lo]
  ·exact aA [.rw 22 _ (vI bm.length) bA,.rw 23 _ (.bool false) lj,mT.at 26,.code 2 _ _ _ _ _ lo,.wr 55 .i64 _ _ wn]
 ·cases cn
  ·exact aA [.rw 22 _ (vI cm.length) bA,.rw 23 _ (.bool false) lj,mT.at 26,.code 2 _ _ _ _ _ lo]
  ·exact aA [.rw 22 _ (vI cm.length) bA,.rw 23 _ (.bool false) lj,mT.at 26,.code 2 _ _ _ _ _ lo,.wr 55 .i64 _ _ wn]
 ·cases en
  ·exact aA [.rw 22 _ (vI em.length) bA,.rw 23 _ (.bool false) lj,mT.at 26,.code 2 _ _ _ _ _ lo]
  ·exact aA [.rw 22 _ (vI em.length) bA,.rw 23 _ (.bool false) lj,mT.at 26,.code 2 _ _ _ _ _ lo,.wr 55 .i64 _ _ wn]
 ·cases dn
  ·exact aA [.rw 22 _ (vI dm.length) bA,.rw 23 _ (.bool false) lj,mT.at 26,.code 2 _ _ _ _ _ lo]
  ·exact aA [.rw 22 _ (vI dm.length) bA,.rw 23 _ (.bool false) lj,mT.at 26,.code 2 _ _ _ _ _ lo,.wr 55 .i64 _ _ wn]
 ·omega
theorem aO8{r:RN}{i:Nat}(hi:i<5)(h3:¬(fW r i).aZ.length<=3):
  ah prog Bs 58 (.block 1 (af f53 1)) (F8 i) (F9 r (wv r i)) (3+i) ⟨.ret,[(2,ptr 1),(3,.bool false)],[(1,.aI (w5 (wv r i)) 87)],4+i⟩:=by
 have bA:Value.int .i64 ((BA (fW r i).aZ).size:Int)=vI (fW r i).aZ.length:=by rw[oK];rfl
 have lj:Value.bool (decide (((fW r i).aZ.length:Int)>3))=.bool true:=by rw[aB o_]
 rcases r with ⟨⟨an,am⟩,⟨bn,bm⟩,⟨cn,cm⟩,⟨en,em⟩,⟨dn,dm⟩⟩;rcases i with _|_|_|_|_|i
 ·exact aA [.rw 22 _ (vI am.length) bA,.rw 23 _ (.bool true) lj]
 ·exact aA [.rw 22 _ (vI bm.length) bA,.rw 23 _ (.bool true) lj]
 ·exact aA [.rw 22 _ (vI cm.length) bA,.rw 23 _ (.bool true) lj]
 ·exact aA [.rw 22 _ (vI em.length) bA,.rw 23 _ (.bool true) lj]
 ·exact aA [.rw 22 _ (vI dm.length) bA,.rw 23 _ (.bool true) lj]
 ·omega
theorem aO9{r:RN}{i:Nat}(hi:i<5)(h3:(fW r i).aZ.length<=3)(hv:xg (fW r i).neg (fW r i).aZ=false):
  ah prog Bs 58 (.block 1 (af f53 1)) (F8 i) (F9 r (wv r i)) (3+i) ⟨.ret,[(2,ptr 1),(3,.bool false)],[(1,.aI (w5 (wv r i)) 87)],4+i⟩:=by
 have mT:=aVv (fW r i).neg (fW r i).aZ;rw[hv]at mT;have bA:Value.int .i64 ((BA (fW r i).aZ).size:Int)=vI (fW r i).aZ.length:=by rw[oK];rfl
 have lj:Value.bool (decide (((fW r i).aZ.length:Int)>3))=.bool false:=by rw[aJ o_]
 rcases r with ⟨⟨an,am⟩,⟨bn,bm⟩,⟨cn,cm⟩,⟨en,em⟩,⟨dn,dm⟩⟩;rcases i with _|_|_|_|_|i
 ·exact aA [.rw 22 _ (vI am.length) bA,.rw 23 _ (.bool false) lj,mT.at 26]
 ·exact aA [.rw 22 _ (vI bm.length) bA,.rw 23 _ (.bool false) lj,mT.at 26]
 ·exact aA [.rw 22 _ (vI cm.length) bA,.rw 23 _ (.bool false) lj,mT.at 26]
 ·exact aA [.rw 22 _ (vI em.length) bA,.rw 23 _ (.bool false) lj,mT.at 26]
 ·exact aA [.rw 22 _ (vI dm.length) bA,.rw 23 _ (.bool false) lj,mT.at 26]
 ·omega
end
def ql(q:RI):Bool:=decide (q.aZ.length<=3)&&xg q.neg q.aZ
theorem aPa{Bs:aa}{r:RN}{i:Nat}(hi:i<5)(h:ql (fW r i)=false):
  ah prog Bs 58 (.block 1 (af f53 1)) (F8 i) (F9 r (wv r i)) (3+i) ⟨.ret,[(2,ptr 1),(3,.bool false)],[(1,.aI (w5 (wv r i)) 87)],4+i⟩:=by
 unfold ql at h;by_cases h3:(fW r i).aZ.length<=3
 ·rw[aB h3,lD]at h;exact aO9 hi h3 h
 ·exact aO8 hi h3
theorem Is{Bs:aa}{r:RN}{i:Nat}(hi:i<5)(h:ql (fW r i)=true):
  ah prog Bs 58 (.block 1 (af f53 1)) (F8 i) (F9 r (wv r i)) (3+i) ⟨.normal,F8 i,F9 r (wv r (i+1)),4+i⟩:=by
 unfold ql at h;simp at h;exact aO7 hi h.1 h.2
theorem aDu{r:RN}(h:∀ i,i<5->ql (fW r i)=true):aD prog 53 [r.v] (.tuple #[.agg (w5 (wv r 5)).toArray,.bool true]):=
 gE mixed func53 200 (λw=>[.code 1 _ _ _ _ _ (Is o_ (h 0 o_)),.code 1 _ _ _ _ _ (Is o_ (h 1 o_)),.code 1 _ _ _ _ _ (Is o_ (h 2 o_)),.code 1 _ _ _ _ _ (Is o_ (h 3 o_)),.code 1 _ _ _ _ _ (Is o_ (h 4 o_))]) (λ_=>k_) k_ k_
theorem aDv{r:RN}(h:¬∀ i,i<5->ql (fW r i)=true):∃ n,aD prog 53 [r.v] (.tuple #[.agg (w5 (wv r n)).toArray,.bool false]):=by
 have hex:∃ n,n<5/\ql (fW r n)=false:=hZ λgF=>h λi hi=>by
  cases hb:ql (fW r i)with
  |true=>rfl
  |false=>exact absurd ⟨i,hi,hb⟩ gF
 obtain⟨n0,kh,kF⟩:=hex;obtain⟨n,h1,h2,h3⟩:=yD (λi=>ql (fW r i)=false) n0 kF;have ay:∀ i,i<n->ql (fW r i)=true:=λi hi=>by
  cases hb:ql (fW r i)with
  |true=>rfl
  |false=>exact absurd hb (h3 i hi)
 refine⟨n,?_⟩;have no:=λBs=>aPa (Bs:=Bs) (show n<5 by omega) h2;have yes:=λBs i (hi:i<n)=>Is (Bs:=Bs) (show i<5 by omega) (ay i hi)
 rcases n with _|_|_|_|_|n
 ·exact gE mixed func53 200 (λw=>[.code 1 _ _ _ _ _ (no _)]) (λ_=>k_) k_ k_
 ·exact gE mixed func53 200 (λw=>[.code 1 _ _ _ _ _ (yes _ 0 o_),.code 1 _ _ _ _ _ (no _)]) (λ_=>k_) k_ k_
 ·exact gE mixed func53 200 (λw=>[.code 1 _ _ _ _ _ (yes _ 0 o_),.code 1 _ _ _ _ _ (yes _ 1 o_),.code 1 _ _ _ _ _ (no _)]) (λ_=>k_) k_ k_
 ·exact gE mixed func53 200 (λw=>[.code 1 _ _ _ _ _ (yes _ 0 o_),.code 1 _ _ _ _ _ (yes _ 1 o_),.code 1 _ _ _ _ _ (yes _ 2 o_),.code 1 _ _ _ _ _ (no _)]) (λ_=>k_) k_ k_
 ·exact gE mixed func53 200 (λw=>[.code 1 _ _ _ _ _ (yes _ 0 o_),.code 1 _ _ _ _ _ (yes _ 1 o_),.code 1 _ _ _ _ _ (yes _ 2 o_),.code 1 _ _ _ _ _ (yes _ 3 o_),.code 1 _ _ _ _ _ (no _)]) (λ_=>k_) k_ k_
 ·omega
def G5(W:Nat->Int):Nat:=Nat.gcd (Nat.gcd (Nat.gcd (Nat.gcd (Nat.gcd 0 (W 0).natAbs) (W 1).natAbs) (W 2).natAbs) (W 3).natAbs) (W 4).natAbs
theorem Lo{Bs:aa}(x y:Nat):ah prog Bs 28 (.block 2 (af f54 2)) [(5,vI x),(6,vI y)] [] 1 ⟨.normal,[(5,vI (Nat.gcd x y))],[],1⟩:=by
 obtain⟨n,hn,hi⟩:=ND x y (λ_ v=>decide (v≠0)) (λu v h=>kH h);have hz:(eu x y n).2=0:=by have:=Hs hn;omega
 have hg:=Kb x y n;rw[hz,Te]at hg;rw[<-hg];refine bO (id:=2) (ch (P:=prog) (B:=Bs) (N:=28) (b:=aE (af f54 2)) (next:=1) (r:=⟨.exit 2,[(5,vI (eu x y n).1)],[],1⟩) n (λi=>[(5,vI (eu x y i).1),(6,vI (eu x y i).2)]) (λ_=>[]) (λ_ _ _=>Iff.rfl) (λi al=>?_) ?_ n_)
 ·have h0:(eu x y i).2≠0:=kH (hi i al);show ah _ _ _ _ [(5,vI (eu x y i).1),(6,vI (eu x y i).2)] [] 1 ⟨.normal,[(5,vI (eu x y i).2),(6,vI ((eu x y i).1%(eu x y i).2))],[],1⟩;generalize (eu x y i).1=u at *;generalize (eu x y i).2=v at *;exact aA [.rw 21 (.bool ((v:Int)!=0)) (.bool true) (by congr 1;rw[uu];omega),.wX f54 25 .i64 (u:Int) v ((u%v:Nat):Int) o_ (by rw[yP o_];rfl) k_]
 ·rw[hz];exact aA [.rw 21 (.bool (((0:Nat):Int)!=0)) (.bool false) rfl]
theorem aDw{W:Nat->Int}(hW:∀ i,(W i).natAbs<4611686018427387904):aD prog 54 [.agg (w5 W).toArray] (vI (G5 W)):=by
 have ng:∀ i,IntKind.i64.wrap (0-W i)=-(W i):=λi=>by have:=hW i;rw[c8];omega
 exact gE mixed func54 200 (λw=>[.wr 18 .i64 _ _ (ng 0),.Ln f54 19 (W 0) k_,.code 2 _ _ _ _ _ (Lo 0 (W 0).natAbs),.wr 18 .i64 _ _ (ng 1),.Ln f54 19 (W 1) k_,.code 2 _ _ _ _ _ (Lo (Nat.gcd 0 (W 0).natAbs) (W 1).natAbs),.wr 18 .i64 _ _ (ng 2),.Ln f54 19 (W 2) k_,.code 2 _ _ _ _ _ (Lo (Nat.gcd (Nat.gcd 0 (W 0).natAbs) (W 1).natAbs) (W 2).natAbs),.wr 18 .i64 _ _ (ng 3),.Ln f54 19 (W 3) k_,.code 2 _ _ _ _ _ (Lo (Nat.gcd (Nat.gcd (Nat.gcd 0 (W 0).natAbs) (W 1).natAbs) (W 2).natAbs) (W 3).natAbs),.wr 18 .i64 _ _ (ng 4),.Ln f54 19 (W 4) k_,.code 2 _ _ _ _ _ (Lo (Nat.gcd (Nat.gcd (Nat.gcd (Nat.gcd 0 (W 0).natAbs) (W 1).natAbs) (W 2).natAbs) (W 3).natAbs) (W 4).natAbs)]) (λ_=>k_) k_ k_
def cw(f:Fr):Nat->Int
 |0=>f.a
 |1=>f.b
 |2=>f.c
 |3=>f.e
 |_=>f.d
theorem VQ(f:Fr):G5 (cw f)=f.g:=by show Nat.gcd (Nat.gcd (Nat.gcd (Nat.gcd (Nat.gcd 0 f.a.natAbs) f.b.natAbs) f.c.natAbs) f.e.natAbs) f.d.natAbs=Nat.gcd (Nat.gcd (Nat.gcd (Nat.gcd f.d.natAbs f.a.natAbs) f.b.natAbs) f.c.natAbs) f.e.natAbs;rw[TQ];simp only[Hr,Nat.gcd_left_comm]
theorem aDx{f:Fr}(hd:0<f.d)(hW:∀ i,(cw f i).natAbs<4611686018427387904):aD prog 80 [.agg (w5 (cw f)).toArray] (ik f.low):=by
 have hg:=aDw hW;rw[VQ]at hg;have hg0:=TD (x:=f) o_;have hs:f.s=(f.g:Int):=by unfold Fr.s;rw[ao o_]
 have dq:f.low=⟨f.a/(f.g:Int),f.b/(f.g:Int),f.c/(f.g:Int),f.e/(f.g:Int),f.d/(f.g:Int)⟩:=by unfold Fr.low;rw[hs]
 rw[dq];have qu:∀ u:Int,f.g ∣ u.natAbs->u.natAbs<4611686018427387904->IntKind.i64.wrap (u.tdiv (f.g:Int))=u/(f.g:Int)/\(u/(f.g:Int)).natAbs<4611686018427387904:=λu hu hb=>by have hd:=C1 hu;rw[hs]at hd;have h2:=aJM u (f.g:Int);rw[Int.tdiv_eq_ediv_of_dvd hd,c8];omega
 obtain⟨a1,a2⟩:=qu f.a (NW f) (hW 0);obtain⟨b1,b2⟩:=qu f.b (NX f) (hW 1);obtain⟨c1,c2⟩:=qu f.c (NY f) (hW 2);obtain⟨e1,e2⟩:=qu f.e (NZ f) (hW 3);obtain⟨d1,d2⟩:=qu f.d (Fe f) (hW 4);have tu:(f.g:Int)≠0:=by omega
 have of:=λ(z:Int) (h:z.natAbs<4611686018427387904)=>aVy (z:=z) o_ o_
 exact gE mixed func80 200 (λw=>[hg.at 7,.pW f80 17 .i64 f.a (f.g:Int) (f.a/(f.g:Int)) tu a1 k_,(of _ a2).at 18,.pW f80 17 .i64 f.b (f.g:Int) (f.b/(f.g:Int)) tu b1 k_,(of _ b2).at 18,.pW f80 17 .i64 f.c (f.g:Int) (f.c/(f.g:Int)) tu c1 k_,(of _ c2).at 18,.pW f80 17 .i64 f.e (f.g:Int) (f.e/(f.g:Int)) tu e1 k_,(of _ e2).at 18,.pW f80 24 .i64 f.d (f.g:Int) (f.d/(f.g:Int)) tu d1 k_,(of _ d2).at 25]) (λ_=>k_) k_ k_
def jl(q:RI):Bool:=xg q.neg q.aZ
theorem Ga{q:RI}(h:jl q=true):bF (dZ q)=q:=by
 obtain⟨n,l⟩:=q;unfold jl at h;unfold dZ bF;rw[qb];cases l with
 |nil=>
  simp[xg]at h;subst h;simp[fR,sg,CJ]
 |cons c l=>
  simp[xg]at h;have hv:fR (c::l)≠0:=by have:=ZF (l:=l) h;have:=cG (n:=l.length) (show 0<256 by decide);omega
  have hm:cd (fR (c::l))=c::l:=aIs (by rintro c' r' e;injection e with e1 e2;rw[<-e1];exact h);show RI.mk (decide (sg n (fR (c::l))<0)) (cd (fR (c::l)))=_;rw[hm,VE (λ_=>hv)]
theorem xR(z:Int):dZ (bF z)=z:=by
 show sg (decide (z<0)) (fR (cd z.natAbs))=z;rw[EX];unfold sg;by_cases h:z<0
 ·rw[aB h];simp;omega
 ·rw[aJ h];simp;omega
theorem Lp(z:Int):jl (bF z)=true:=by show xg (decide (z<0)) (cd z.natAbs)=true;exact aC0 _ (λh=>by have:=kH h;omega)
def gu(r:RN):Fr:=⟨dZ r.a,dZ r.b,dZ r.c,dZ r.e,dZ r.d⟩
def mV(r:RN):Bool:=jl r.a&&(jl r.b&&(jl r.c&&(jl r.e&&(jl r.d&&(decide (0<dZ r.d)&&decide ((gu r).g=1))))))
theorem Lq{g:Nat}{q:RI}{n:Nat}(h:jl q=true)(h1:g<2^n)(h2:(dZ q).natAbs<2^n)(hn:n<=aC):aD prog 56 [bK g,q.v] (bK (Nat.gcd g (dZ q).natAbs:Nat)):=by have:=aVb (g:=g) (x:=dZ q) h1 h2 hn hn;rw[aAN (dZ q),Ga h]at this;exact this
theorem aPb:bK ((0:Nat):Int)=.agg #[.bool false,.string ⟨#[]⟩]:=by show(bF 0).v=_;rw[C7];rfl
theorem Lr{r:RN}{n:Nat}(bA:dD n (gu r))(hn:n<=aC):aD prog 36 [r.v] (.bool (mV r)):=by
 obtain⟨sa,sb,sc,se,sd⟩:=bA
 replace sa:(dZ r.a).natAbs<2^n:=sa
 replace sb:(dZ r.b).natAbs<2^n:=sb
 replace sc:(dZ r.c).natAbs<2^n:=sc
 replace se:(dZ r.e).natAbs<2^n:=se
 replace sd:(dZ r.d).natAbs<2^n:=sd
 by_cases hw:∀ i,i<5->ql (fW r i)=true
 ·have wok:=aDu hw;have raw:∀ i,i<5->jl (fW r i)=true:=λi hi=>by have:=hw i hi;unfold ql at this;simp at this;exact this.2
  have hb:∀ i,(wv r 5 i).natAbs<4611686018427387904:=λi=>by
   unfold wv;split
   ·rename_i h;have hi:i<5:=by rw[AF]at h;exact h
    have:=hw i hi;unfold ql at this;simp at this;unfold dZ;rw[qb];have h1:=AR (fW r i).aZ;have h2:(256:Nat)^(fW r i).aZ.length<=256^3:=cY d_ this.1;exact cx h1 (dh h2 d_)
   ·decide
  have wg:=aDw hb;have e1:G5 (wv r 5)=(gu r).g:=VQ (gu r);rw[e1]at wg;have e2:mV r=(decide (0<dZ r.d)&&decide ((gu r).g=1)):=by unfold mV;rw[show jl r.a=true from raw 0 o_,show jl r.b=true from raw 1 o_,show jl r.c=true from raw 2 o_,show jl r.e=true from raw 3 o_,show jl r.d=true from raw 4 o_];rfl
  rw[e2];by_cases hd:0<dZ r.d
  ·rw[aB hd,lD];have VR:Value.bool (decide (dZ r.d>0))=.bool true:=by rw[aB hd]
   exact gE mixed func36 200 (λw=>[wok.at 9,.rw 15 _ (.bool true) VR,wg.at 18,.fh 19 (gu r).g 1 _ rfl]) (λ_=>k_) k_ k_
  ·rw[aJ hd,yJ];have VR:Value.bool (decide (dZ r.d>0))=.bool false:=by rw[aJ hd]
   exact gE mixed func36 200 (λw=>[wok.at 9,.rw 15 _ (.bool false) VR]) (λ_=>k_) k_ k_
 ·obtain⟨m,Gb⟩:=aDv hw;have hp:0<2^n:=cG d_;have va:=aVv r.a.neg r.a.aZ;have vb:=aVv r.b.neg r.b.aZ;have vc:=aVv r.c.neg r.c.aZ;have ve:=aVv r.e.neg r.e.aZ;have vd:=aVv r.d.neg r.d.aZ;unfold mV;change aD _ _ _ (.bool (jl r.a))at va;change aD _ _ _ (.bool (jl r.b))at vb;change aD _ _ _ (.bool (jl r.c))at vc;change aD _ _ _ (.bool (jl r.e))at ve;change aD _ _ _ (.bool (jl r.d))at vd;have go:∀ q b,jl q=b->jl q=b:=λ_ _ h=>h;rcases ha:jl r.a with _|_
  ·rw[ha]at va;exact gE mixed func36 200 (λw=>[Gb.at 9,va.at 30]) (λ_=>k_) k_ k_
  rw[ha]at va;have g1:=Lq (g:=0) ha hp sa hn;rw[aPb]at g1;have s1:Nat.gcd 0 (dZ r.a).natAbs<2^n:=by rw[TQ];exact sa
  rcases hb:jl r.b with _|_
  ·rw[hb]at vb;exact gE mixed func36 200 (λw=>[Gb.at 9,va.at 30,g1.at 37,vb.at 30]) (λ_=>k_) k_ k_
  rw[hb]at vb;have g2:=Lq hb s1 sb hn;have s2:=yZ s1 sb;rcases hc:jl r.c with _|_
  ·rw[hc]at vc;exact gE mixed func36 200 (λw=>[Gb.at 9,va.at 30,g1.at 37,vb.at 30,g2.at 37,vc.at 30]) (λ_=>k_) k_ k_
  rw[hc]at vc;have g3:=Lq hc s2 sc hn;have s3:=yZ s2 sc;rcases he:jl r.e with _|_
  ·rw[he]at ve;exact gE mixed func36 200 (λw=>[Gb.at 9,va.at 30,g1.at 37,vb.at 30,g2.at 37,vc.at 30,g3.at 37,ve.at 30]) (λ_=>k_) k_ k_
  rw[he]at ve;have g4:=Lq he s3 se hn;have s4:=yZ s3 se;rcases hd:jl r.d with _|_
  ·rw[hd]at vd;exact gE mixed func36 200 (λw=>[Gb.at 9,va.at 30,g1.at 37,vb.at 30,g2.at 37,vc.at 30,g3.at 37,ve.at 30,g4.at 37,vd.at 40]) (λ_=>k_) k_ k_
  rw[hd]at vd;have g5:=Lq hd s4 sd hn;have s5:=yZ s4 sd;have VO:Nat.gcd (Nat.gcd (Nat.gcd (Nat.gcd (Nat.gcd 0 (dZ r.a).natAbs) (dZ r.b).natAbs) (dZ r.c).natAbs) (dZ r.e).natAbs) (dZ r.d).natAbs=(gu r).g:=VQ (gu r);rw[VO]at g5 s5;have az:=aVX (dZ r.d);rw[aAN,Ga hd]at az;have Bk:=aVy (z:=1) d_ d_;have one:(bF 1).Sm:=vE (n:=1) d_ d_;have sm:(bF ((gu r).g:Int)).Sm:=vE (z:=((gu r).g:Int)) (n:=n) (by rw[C0];exact s5) hn;by_cases hp:0<dZ r.d
  ·rw[aB hp];have VT:Value.bool (decide ((dZ r.d).sign>0))=.bool true:=by rw[Be hp];rfl
   have heq:∀ w,cA prog (aa.at w) (av f36 53) [(bF ((gu r).g:Int)).v,(bF 1).v] [] (.bool (decide ((gu r).g=1))) []:=λw=>C3 (neg:=true) k_ (bF ((gu r).g:Int)) (bF 1) sm one (by simp only[qt,sY];exact⟨λh=>by rw[h];rfl,λh=>by have:=yY h;omega⟩)
   exact gE mixed func36 200 (λw=>[Gb.at 9,va.at 30,g1.at 37,vb.at 30,g2.at 37,vc.at 30,g3.at 37,ve.at 30,g4.at 37,vd.at 40,az.at 44,.rw 45 _ (.bool true) VT,g5.at 51,Bk.at 52,.step 53 (av f36 53) _ _ _ _ (heq w)]) (λ_=>k_) k_ k_
  ·rw[aJ hp];have VT:Value.bool (decide ((dZ r.d).sign>0))=.bool false:=by
    rw[aJ];have h0:dZ r.d<=0:=by omega
    rcases Int.lt_or_eq_of_le h0 with h|h
    ·rw[E6 h];decide
    ·rw[h];decide
   exact gE mixed func36 200 (λw=>[Gb.at 9,va.at 30,g1.at 37,vb.at 30,g2.at 37,vc.at 30,g3.at 37,ve.at 30,g4.at 37,vd.at 40,az.at 44,.rw 45 _ (.bool false) VT]) (λ_=>k_) k_ k_
theorem VU(f:Fr):gu (rZ f)=f:=by show Fr.mk (dZ (bF f.a)) (dZ (bF f.b)) (dZ (bF f.c)) (dZ (bF f.e)) (dZ (bF f.d))=f;rw[xR,xR,xR,xR,xR]
theorem aDy{f:Fr}(h:f.pv):mV (rZ f)=true:=by unfold mV;rw[VU,h.one];show(jl (bF f.a)&&(jl (bF f.b)&&(jl (bF f.c)&&(jl (bF f.e)&&(jl (bF f.d)&&(decide (0<dZ (bF f.d))&&decide (1=1)))))))=true;rw[Lp,Lp,Lp,Lp,Lp,xR,aB h.pos];rfl
theorem aVO{f:Fr}{n:Nat}(hf:f.pv)(h:dD n f)(hn:n<=aC):aD prog 36 [ik f] (.bool true):=by have:=Lr (r:=rZ f) (n:=n) (by rw[VU];exact h) hn;rw[aDy hf]at this;exact this
theorem aVj{x:K}{n:Nat}(h:Sz n x)(hn:n<=aC):aD prog 36 [b9 x] (.bool true):=aVO (kp x) h hn
theorem PR{r:RN}(h:mV r=true):r=dQ (gu r).val:=by unfold mV at h;simp only[db,sY]at h;obtain⟨h1,h2,h3,h4,h5,h6,h7⟩:=h;unfold dQ;rw[Ff ⟨h6,h7⟩];obtain⟨a,b,c,e,d⟩:=r;show RN.mk a b c e d=RN.mk (bF (dZ a)) (bF (dZ b)) (bF (dZ c)) (bF (dZ e)) (bF (dZ d));rw[Ga h1,Ga h2,Ga h3,Ga h4,Ga h5]
theorem aV2{x:K}{n:Nat}(h:Sz n x)(hn:n<=aC):aD prog 84 [b9 x] (b9 (-x)):=by
 have hv:=aVj h hn;have e:b9 (-x)=ik (yX (bH x)):=by unfold b9 dQ;rw[TI];rfl
 rw[e];exact aK func84 (λ_=>[hv.at 6,(aVA (bH x).a).at 19,(aVA (bH x).b).at 19,(aVA (bH x).c).at 19,(aVA (bH x).e).at 19])
theorem aPc(f:Fr):w5 (wv (rZ f) 5)=w5 (cw f):=by show[Value.int .i64 (dZ (bF f.a)),.int .i64 (dZ (bF f.b)),.int .i64 (dZ (bF f.c)),.int .i64 (dZ (bF f.e)),.int .i64 (dZ (bF f.d))]=_;rw[xR,xR,xR,xR,xR];rfl
def BS(f:Fr):Prop:=∀ i,i<5->ql (fW (rZ f) i)=true
theorem PS{f:Fr}(h:BS f):∀ i,(cw f i).natAbs<16777216:=by
 have key:∀ z:Int,ql (bF z)=true->z.natAbs<16777216:=λz hz=>by
  unfold ql at hz;simp at hz;have h1:nd 256 z.natAbs<=3:=by have:=hz.1;show _<=3;rw[<-ti];exact this
  have h2:=dO (B:=256) d_ z.natAbs;have h3:(256:Nat)^nd 256 z.natAbs<=256^3:=cY d_ h1;exact cx h2 (dh h3 d_)
 intro i;rcases i with _|_|_|_|i
 ·exact key _ (h 0 o_)
 ·exact key _ (h 1 o_)
 ·exact key _ (h 2 o_)
 ·exact key _ (h 3 o_)
 ·exact key _ (h 4 o_)
theorem It{f:Fr}(h:BS f):aD prog 53 [ik f] (.tuple #[.agg (w5 (cw f)).toArray,.bool true]):=by have:=aDu h;rw[aPc]at this;exact this
theorem PT{f:Fr}(h:¬BS f):∃ n,aD prog 53 [ik f] (.tuple #[.agg (w5 (wv (rZ f) n)).toArray,.bool false]):=aDv h
theorem kQ{x y:Int}(hx:x.natAbs<16777216)(hy:y.natAbs<16777216):∃ p:Int,x*y=p/\-281474976710656<=p/\p<=281474976710656:=by refine⟨x*y,rfl,?_⟩;have h:=pT hx hy;rw[<-uG]at h;generalize x*y=p at *;have h2:p.natAbs<281474976710656:=h;omega
theorem oX{x y p:Int}(h:x*y=p)(h1:-281474976710656<=p)(h2:p<=281474976710656):IntKind.i64.wrap (x*y)=p:=by rw[h,c8];omega
theorem Gc{c x:Int}(hc:0<=c)(dj:c<=6)(hx:x.natAbs<16777216):IntKind.i64.wrap (c*x)=c*x:=by
 have h1:(c*x).natAbs<=6*16777216:=by rw[uG];exact yN o_ o_
 generalize c*x=p at *;rw[c8];omega
theorem Gd{c x y p:Int}(hc:0<=c)(dj:c<=6)(h:x*y=p)(h1:-281474976710656<=p)(h2:p<=281474976710656):IntKind.i64.wrap (c*x*y)=c*p:=by
 rw[Int.mul_assoc,h];have h1:(c*p).natAbs<=6*281474976710656:=by rw[uG];exact yN o_ o_
 generalize c*p=q at *;rw[c8];omega
theorem aV3{x y:K}{m n:Nat}(hx:Sz m x)(hy:Sz n y)(cT:m+n<aC):aD prog 45 [b9 x,b9 y] (b9 (x+y)):=by
 have v1:=aVj hx o_;have v2:=aVj hy o_;have pA:aC<=1099511627776:=by decide
 have xk:=(kp x).pos;have vC:=(kp y).pos;have hl:=aVx (c:=co (uH (bH x) (bH y))) (d:=(uH (bH x) (bH y)).d) (n:=m+n+1) (C2 o_ o_) (dD.add hx hy) o_;have e:b9 (x+y)=ik (uH (bH x) (bH y)).low:=by unfold b9 dQ;rw[TG];rfl
 rw[e];by_cases hw:BS (bH x)/\BS (bH y)
 ·obtain⟨w1,w2⟩:=hw;have q1:=It w1;have q2:=It w2;have b1:=PS w1;have b2:=PS w2;change aD _ _ [ik (bH x)] _ at v1;change aD _ _ [ik (bH y)] _ at v2;show aD _ _ [ik (bH x),ik (bH y)] _;clear hl hx hy e;generalize bH x=f at *;generalize bH y=g at *;obtain⟨p0,Dh,lp0,up0⟩:=kQ (b1 0) (b2 4);obtain⟨Iu,mI,lq0,uq0⟩:=kQ (b2 0) (b1 4);obtain⟨p1,gZ,lp1,up1⟩:=kQ (b1 1) (b2 4);obtain⟨qv,uC,lq1,uq1⟩:=kQ (b2 1) (b1 4);obtain⟨p2,wG,lp2,up2⟩:=kQ (b1 2) (b2 4);obtain⟨AZ,nq,lq2,uq2⟩:=kQ (b2 2) (b1 4);obtain⟨p3,Ic,lp3,up3⟩:=kQ (b1 3) (b2 4);obtain⟨lG,VV,lq3,uq3⟩:=kQ (b2 3) (b1 4);obtain⟨p4,PU,lp4,up4⟩:=kQ (b1 4) (b2 4);change f.a*g.d=p0 at Dh;change g.a*f.d=Iu at mI;change f.b*g.d=p1 at gZ;change g.b*f.d=qv at uC;change f.c*g.d=p2 at wG;change g.c*f.d=AZ at nq;change f.e*g.d=p3 at Ic;change g.e*f.d=lG at VV;change f.d*g.d=p4 at PU;have VW:uH f g=⟨p0+Iu,p1+qv,p2+AZ,p3+lG,p4⟩:=by unfold uH;rw[Dh,gZ,wG,Ic,PU,mI,uC,nq,VV]
  have nm:=aDx (f:=uH f g) (by rw[VW];show 0<p4;rw[<-PU];exact TL xk vC) (by
   rw[VW];intro i;rcases i with _|_|_|_|i
   ·show(p0+Iu).natAbs<_;omega
   ·show(p1+qv).natAbs<_;omega
   ·show(p2+AZ).natAbs<_;omega
   ·show(p3+lG).natAbs<_;omega
   ·show p4.natAbs<_;omega)
  rw[VW]at nm ⊢;exact gE mixed func45 200 (λ_=>[v1.at 13,v2.at 17,q1.at 23,q2.at 29,.wr 43 .i64 (f.a*g.d) p0 (oX Dh lp0 up0),.wr 49 .i64 (g.a*f.d) Iu (oX mI lq0 uq0),.wr 50 .i64 (p0+Iu) (p0+Iu) (by rw[c8];omega),.wr 43 .i64 (f.b*g.d) p1 (oX gZ lp1 up1),.wr 49 .i64 (g.b*f.d) qv (oX uC lq1 uq1),.wr 50 .i64 (p1+qv) (p1+qv) (by rw[c8];omega),.wr 43 .i64 (f.c*g.d) p2 (oX wG lp2 up2),.wr 49 .i64 (g.c*f.d) AZ (oX nq lq2 uq2),.wr 50 .i64 (p2+AZ) (p2+AZ) (by rw[c8];omega),.wr 43 .i64 (f.e*g.d) p3 (oX Ic lp3 up3),.wr 49 .i64 (g.e*f.d) lG (oX VV lq3 uq3),.wr 50 .i64 (p3+lG) (p3+lG) (by rw[c8];omega),.wr 56 .i64 (f.d*g.d) p4 (oX PU lp4 up4),nm.at 59]) (λ_=>k_) k_ k_
 ·obtain⟨x1,x2,x3,x4,x5⟩:=hx;obtain⟨y1,y2,y3,y4,y5⟩:=hy;have mu:∀{u v:Int} {p q:Nat},u.natAbs<2^p->v.natAbs<2^q->p+q<=aC->aD prog 82 [bK u,bK v] (bK (u*v)):=λh1 h2 h3=>aVl h1 h2 o_ o_;have ad:∀{u v:Int},u.natAbs<2^m->v.natAbs<2^n->aD prog 81 [bK (u*(bH y).d),bK (v*(bH x).d)] (bK (u*(bH y).d+v*(bH x).d)):=λh1 h2=>
   aVr (ev h1 y5) (ev h2 x5) o_ o_
  by_cases w1:BS (bH x)
  ·obtain⟨k,q2⟩:=PT (f:=bH y) (λh=>hw ⟨w1,h⟩);have q1:=It w1;exact gE mixed func45 200 (λ_=>[v1.at 13,v2.at 17,q1.at 23,q2.at 29,(mu x1 y5 o_).at 71,(mu y1 x5 o_).at 78,(ad x1 y1).at 79,(mu x2 y5 o_).at 71,(mu y2 x5 o_).at 78,(ad x2 y2).at 79,(mu x3 y5 o_).at 71,(mu y3 x5 o_).at 78,(ad x3 y3).at 79,(mu x4 y5 o_).at 71,(mu y4 x5 o_).at 78,(ad x4 y4).at 79,(mu x5 y5 o_).at 86,hl.at 87]) (λ_=>k_) k_ k_
  ·obtain⟨k,q1⟩:=PT (f:=bH x) w1;exact gE mixed func45 200 (λ_=>[v1.at 13,v2.at 17,q1.at 23,(mu x1 y5 o_).at 71,(mu y1 x5 o_).at 78,(ad x1 y1).at 79,(mu x2 y5 o_).at 71,(mu y2 x5 o_).at 78,(ad x2 y2).at 79,(mu x3 y5 o_).at 71,(mu y3 x5 o_).at 78,(ad x3 y3).at 79,(mu x4 y5 o_).at 71,(mu y4 x5 o_).at 78,(ad x4 y4).at 79,(mu x5 y5 o_).at 86,hl.at 87]) (λ_=>k_) k_ k_
theorem aVi{x y:K}{m n:Nat}(hx:Sz m x)(hy:Sz n y)(cT:m+n<aC):aD prog 86 [b9 x,b9 y] (b9 (x-y)):=by rw[CR.sub_def];exact aK func86 (λ_=>[(aV2 hy o_).at 7,(aV3 hx hy.neg cT).at 8])
section
variable{Bs:aa}{a b:Nat->Int}
def VX(n:Nat):aV:=[(6,vI (n/4)),(7,vI (n%4)),(2,ptr 0),(3,ptr 1),(5,ptr 3)]
def Iv(a b c:Nat->Int):aH:=[(0,.aI (ic a) 29),(1,.aI (ic b) 29),(3,.aI (ic c) 29)]
theorem aPd(n:Nat)(hn:n<16){c:Nat->Int}{p q r:Nat}(ha:∀ i,(a i).natAbs<2^p)(hb:∀ i,(b i).natAbs<2^q)(hc:∀ i,(c i).natAbs<2^r)(Od:p+q+3<=aC)(hr:r<=aC):
  ah prog Bs 66 (.block 3 (af f83 3)) (VX n) (Iv a b c) (4+n) ⟨.normal,[],Iv a b (xn n a b c),5+n⟩:=by
 have pA:aC<=1099511627776:=by decide
 have qJ:∀ m,(sq m).natAbs<2^3:=λm=>by unfold sq;split<;>decide
 have m1:=aVl (ha (n/4)) (hb (n%4)) o_ o_;have m2:=aVl (qJ ((n/4)&&& (n%4))) (ev (ha (n/4)) (hb (n%4))) o_ o_;have ad:=aVr (hc ((n/4) ^^^ (n%4))) (ev (qJ ((n/4)&&& (n%4))) (ev (ha (n/4)) (hb (n%4)))) o_ o_;have so:=aVy (z:=sq ((n/4)&&& (n%4))) (by have:=qJ ((n/4)&&& (n%4));omega) (by have:=qJ ((n/4)&&& (n%4));omega);have sa:=aVX (a (n/4));have sb:=aVX (b (n%4));have z1:∀ z:Int,z=0->Value.bool (z.sign==0)=.bool true:=λz h=>by rw[h];rfl
 have z2:∀ z:Int,z≠0->Value.bool (z.sign==0)=.bool false:=λz h=>by congr 1;simp;exact h
 by_cases h1:a (n/4)=0
 ·rw[Oc (.inl h1)];have e:=z1 _ h1;rcases n with _|_|_|_|_|_|_|_|_|_|_|_|_|_|_|_|n
  all_goals first|omega|exact aA [sa.at 21,.rw 22 _ (.bool true) e]
 ·have e:=z2 _ h1;by_cases h2:b (n%4)=0
  ·rw[Oc (.inr h2)];have e':=z1 _ h2;rcases n with _|_|_|_|_|_|_|_|_|_|_|_|_|_|_|_|n
   all_goals first|omega|exact aA [sa.at 21,.rw 22 _ (.bool false) e,sb.at 27,.rw 28 _ (.bool true) e']
  ·have e':=z2 _ h2;rcases n with _|_|_|_|_|_|_|_|_|_|_|_|_|_|_|_|n
   all_goals first|omega|exact aA [sa.at 21,.rw 22 _ (.bool false) e,sb.at 27,.rw 28 _ (.bool false) e',so.at 45,m1.at 52,m2.at 53,ad.at 63]
end
theorem aDz{a b:Nat->Int}{m n:Nat}(ca:∀ i,(a i).natAbs<2^m)(cb:∀ i,(b i).natAbs<2^n)(cT:m+n+8<=aC):aD prog 83 [pz a,pz b] (pz (jF a b 16)):=by
 have pA:aC<=1099511627776:=by decide
 have hs:∀ i,i<=16->∀ k,(jF a b i k).natAbs<2^(m+n+8):=λi hi k=>by
  have h1:=TY ca cb i hi k;have h2:i*2^(m+n+3)<=16*2^(m+n+3):=e8 _ hi;have h3:2^(m+n+8)=32*2^(m+n+3):=by rw[show m+n+8=5+(m+n+3)by omega,ep]
  have h4:0<2^(m+n+3):=cG d_;omega
 have go:∀(w:World) (i:Nat),i<16->ah prog (aa.at w) 66 (.block 3 (af f83 3)) (VX i) (Iv a b (jF a b i)) (4+i) ⟨.normal,[],Iv a b (jF a b (i+1)),5+i⟩:=λw i hi=>
  aPd i hi ca cb (hs i o_) o_ o_
 have TZ:∀(w:World),ah prog (aa.at w) 66 (.block 3 (af f83 3)) (VX 0) [(0,.aI (ic a) 29),(1,.aI (ic b) 29),(3,.aI [.bool false,.string ⟨#[]⟩,.bool false,.string ⟨#[]⟩,.bool false,.string ⟨#[]⟩,.bool false,.string ⟨#[]⟩] 29)] 4
   ⟨.normal,[],Iv a b (jF a b 1),5⟩:=λw=>by
  have h:=go w 0 o_;have e:Iv a b (jF a b 0)=[(0,.aI (ic a) 29),(1,.aI (ic b) 29),(3,.aI [.bool false,.string ⟨#[]⟩,.bool false,.string ⟨#[]⟩,.bool false,.string ⟨#[]⟩,.bool false,.string ⟨#[]⟩] 29)]:=by show[(0,Obj.aI (ic a) 29),(1,.aI (ic b) 29),(3,.aI (ic (λ_=>0)) 29)]=_;rw[aAW]
  rw[e]at h;exact h
 generalize jF a b=c at *;exact gE mixed func83 300 (λw=>[.code 3 _ _ _ _ _ (TZ w),.code 3 _ _ _ _ _ (go w 1 o_),.code 3 _ _ _ _ _ (go w 2 o_),.code 3 _ _ _ _ _ (go w 3 o_),.code 3 _ _ _ _ _ (go w 4 o_),.code 3 _ _ _ _ _ (go w 5 o_),.code 3 _ _ _ _ _ (go w 6 o_),.code 3 _ _ _ _ _ (go w 7 o_),.code 3 _ _ _ _ _ (go w 8 o_),.code 3 _ _ _ _ _ (go w 9 o_),.code 3 _ _ _ _ _ (go w 10 o_),.code 3 _ _ _ _ _ (go w 11 o_),.code 3 _ _ _ _ _ (go w 12 o_),.code 3 _ _ _ _ _ (go w 13 o_),.code 3 _ _ _ _ _ (go w 14 o_),.code 3 _ _ _ _ _ (go w 15 o_)]) (λ_=>k_) k_ k_
theorem aVV{x y:K}{m n:Nat}(hx:Sz m x)(hy:Sz n y)(cT:m+n+8<=aC):aD prog 46 [b9 x,b9 y] (b9 (x*y)):=by
 have v1:=aVj hx o_;have v2:=aVj hy o_;have pA:aC<=1099511627776:=by decide
 have xk:=(kp x).pos;have vC:=(kp y).pos;have e:b9 (x*y)=ik (e6 (bH x) (bH y)).low:=by unfold b9 dQ;rw[TH];rfl
 rw[e];by_cases hw:BS (bH x)/\BS (bH y)
 ·obtain⟨w1,w2⟩:=hw;have q1:=It w1;have q2:=It w2;have b1:=PS w1;have b2:=PS w2;change aD _ _ [ik (bH x)] _ at v1;change aD _ _ [ik (bH y)] _ at v2;show aD _ _ [ik (bH x),ik (bH y)] _;clear hx hy e;generalize bH x=f at *;generalize bH y=g at *;obtain⟨zR,VY,aPe,aPf⟩:=kQ (b1 0) (b2 0);change f.a*g.a=zR at VY;obtain⟨zT,VZ,aPg,aPh⟩:=kQ (b1 0) (b2 1);change f.a*g.b=zT at VZ;obtain⟨zU,V0,aPi,aPj⟩:=kQ (b1 0) (b2 2);change f.a*g.c=zU at V0;obtain⟨zW,V1,aPk,aPl⟩:=kQ (b1 0) (b2 3);change f.a*g.e=zW at V1;obtain⟨zX,V2,aPm,aPn⟩:=kQ (b1 1) (b2 0);change f.b*g.a=zX at V2;obtain⟨zY,V4,aPo,aPp⟩:=kQ (b1 1) (b2 1);change f.b*g.b=zY at V4;obtain⟨DS,V5,aPq,aPr⟩:=kQ (b1 1) (b2 2);change f.b*g.c=DS at V5;obtain⟨DT,V6,aPs,aPt⟩:=kQ (b1 1) (b2 3);change f.b*g.e=DT at V6;obtain⟨zZ,V7,aPu,aPv⟩:=kQ (b1 2) (b2 0);change f.c*g.a=zZ at V7;obtain⟨Iw,V8,aPw,aPx⟩:=kQ (b1 2) (b2 1);change f.c*g.b=Iw at V8;obtain⟨DU,V9,aPy,aPz⟩:=kQ (b1 2) (b2 2);change f.c*g.c=DU at V9;obtain⟨DW,Wa,aPA,aPB⟩:=kQ (b1 2) (b2 3);change f.c*g.e=DW at Wa;obtain⟨z7,Wb,aPC,aPD⟩:=kQ (b1 3) (b2 0);change f.e*g.a=z7 at Wb;obtain⟨Ix,Wc,aPE,aPF⟩:=kQ (b1 3) (b2 1);change f.e*g.b=Ix at Wc;obtain⟨Iy,Wd,aPG,aPH⟩:=kQ (b1 3) (b2 2);change f.e*g.c=Iy at Wd;obtain⟨Iz,We,aPI,aPJ⟩:=kQ (b1 3) (b2 3);change f.e*g.e=Iz at We;obtain⟨Ls,PV,aPK,aPL⟩:=kQ (b1 4) (b2 4);change f.d*g.d=Ls at PV;have hmul:e6 f g=⟨zR+2*zY+3*DU+6*Iz,zT+zX+3*DW+3*Iy,zU+zZ+2*DT+2*Ix,zW+z7+DS+Iw,Ls⟩:=by
   unfold e6;simp only[Fr.mk.injEq];refine⟨?_,?_,?_,?_,PV⟩
   ·rw[VY,V4,V9,We]<;>omega
   ·rw[VZ,V2,Wa,Wd]<;>omega
   ·rw[V0,V7,V6,Wc]<;>omega
   ·rw[V1,Wb,V5,V8]<;>omega
  have nm:=aDx (f:=e6 f g) (by rw[hmul];show 0<Ls;rw[<-PV];exact TL xk vC) (by
   rw[hmul];intro i;rcases i with _|_|_|_|i
   ·show(zR+2*zY+3*DU+6*Iz).natAbs<_;omega
   ·show(zT+zX+3*DW+3*Iy).natAbs<_;omega
   ·show(zU+zZ+2*DT+2*Ix).natAbs<_;omega
   ·show(zW+z7+DS+Iw).natAbs<_;omega
   ·show Ls.natAbs<_;omega)
  rw[hmul]at nm ⊢;exact gE mixed func46 300 (λ_=>[v1.at 10,v2.at 14,q1.at 20,q2.at 26,.wr 34 .i64 (f.a*g.a) zR (oX VY aPe aPf),.wr 37 .i64 (2*f.b) (2*f.b) (Gc d_ d_ (b1 1)),.wr 40 .i64 (2*f.b*g.b) (2*zY) (Gd d_ d_ V4 aPo aPp),.wr 41 .i64 (zR+2*zY) (zR+2*zY) (by rw[c8];omega),.wr 44 .i64 (3*f.c) (3*f.c) (Gc d_ d_ (b1 2)),.wr 47 .i64 (3*f.c*g.c) (3*DU) (Gd d_ d_ V9 aPy aPz),.wr 48 .i64 (zR+2*zY+3*DU) (zR+2*zY+3*DU) (by rw[c8];omega),.wr 51 .i64 (6*f.e) (6*f.e) (Gc d_ d_ (b1 3)),.wr 54 .i64 (6*f.e*g.e) (6*Iz) (Gd d_ d_ We aPI aPJ),.wr 55 .i64 (zR+2*zY+3*DU+6*Iz) (zR+2*zY+3*DU+6*Iz) (by rw[c8];omega),.wr 60 .i64 (f.a*g.b) zT (oX VZ aPg aPh),.wr 65 .i64 (f.b*g.a) zX (oX V2 aPm aPn),.wr 66 .i64 (zT+zX) (zT+zX) (by rw[c8];omega),.wr 69 .i64 (3*f.c) (3*f.c) (Gc d_ d_ (b1 2)),.wr 72 .i64 (3*f.c*g.e) (3*DW) (Gd d_ d_ Wa aPA aPB),.wr 73 .i64 (zT+zX+3*DW) (zT+zX+3*DW) (by rw[c8];omega),.wr 76 .i64 (3*f.e) (3*f.e) (Gc d_ d_ (b1 3)),.wr 79 .i64 (3*f.e*g.c) (3*Iy) (Gd d_ d_ Wd aPG aPH),.wr 80 .i64 (zT+zX+3*DW+3*Iy) (zT+zX+3*DW+3*Iy) (by rw[c8];omega),.wr 85 .i64 (f.a*g.c) zU (oX V0 aPi aPj),.wr 90 .i64 (f.c*g.a) zZ (oX V7 aPu aPv),.wr 91 .i64 (zU+zZ) (zU+zZ) (by rw[c8];omega),.wr 94 .i64 (2*f.b) (2*f.b) (Gc d_ d_ (b1 1)),.wr 97 .i64 (2*f.b*g.e) (2*DT) (Gd d_ d_ V6 aPs aPt),.wr 98 .i64 (zU+zZ+2*DT) (zU+zZ+2*DT) (by rw[c8];omega),.wr 101 .i64 (2*f.e) (2*f.e) (Gc d_ d_ (b1 3)),.wr 104 .i64 (2*f.e*g.b) (2*Ix) (Gd d_ d_ Wc aPE aPF),.wr 105 .i64 (zU+zZ+2*DT+2*Ix) (zU+zZ+2*DT+2*Ix) (by rw[c8];omega),
   .wr 110 .i64 (f.a*g.e) zW (oX V1 aPk aPl),.wr 115 .i64 (f.e*g.a) z7 (oX Wb aPC aPD),.wr 116 .i64 (zW+z7) (zW+z7) (by rw[c8];omega),.wr 121 .i64 (f.b*g.c) DS (oX V5 aPq aPr),.wr 122 .i64 (zW+z7+DS) (zW+z7+DS) (by rw[c8];omega),.wr 127 .i64 (f.c*g.b) Iw (oX V8 aPw aPx),.wr 128 .i64 (zW+z7+DS+Iw) (zW+z7+DS+Iw) (by rw[c8];omega),
   .wr 133 .i64 (f.d*g.d) Ls (oX PV aPK aPL),nm.at 135]) (λ_=>k_) k_ k_
 ·have ca:=HO hx;have cb:=HO hy;have tm:=aDz ca cb cT;have hl:=aVx (c:=jF (co (bH x)) (co (bH y)) 16) (d:=(bH x).d*(bH y).d) (n:=m+n+4) (C2 o_ o_) (by rw[Kx];exact dD.mul hx hy) o_;rw[Kx]at hl;have md:=aVl hx.2.2.2.2 hy.2.2.2.2 o_ o_;generalize jF (co (bH x)) (co (bH y)) 16=c at *;by_cases w1:BS (bH x)
  ·obtain⟨k,q2⟩:=PT (f:=bH y) (λh=>hw ⟨w1,h⟩);have q1:=It w1;exact gE mixed func46 200 (λ_=>[v1.at 10,v2.at 14,q1.at 20,q2.at 26,tm.at 140,md.at 145,hl.at 146]) (λ_=>k_) k_ k_
  ·obtain⟨k,q1⟩:=PT (f:=bH x) w1;exact gE mixed func46 200 (λ_=>[v1.at 10,v2.at 14,q1.at 20,tm.at 140,md.at 145,hl.at 146]) (λ_=>k_) k_ k_
theorem aDA{a s:Int}(ha:a.natAbs<=1)(hs:s.natAbs<=1):IntKind.i64.wrap (a*s)=a*s:=by
 have h1:a=-1\/a=0\/a=1:=by omega
 rcases h1 with h1|h1|h1<;>rw[h1,c8]<;>omega
theorem xT{a b:Int}(h:a=b):Value.bool (a==b)=.bool true:=by rw[h];simp
theorem pF{a b:Int}(h:a≠b):Value.bool (a==b)=.bool false:=by congr 1;simpa using h
theorem Wf{x y:Int}{p q:Nat}(h1:x.natAbs<2^p)(h2:y.natAbs<2^q)(hp:p+p+3<=aC)(hq:q+q+3<=aC):aD prog 133 [bK x,bK y] (.int .i64 (pw x y)):=by
 have pA:aC<=1099511627776:=by decide
 have s1:=aVX x;have s2:=aVX y;have l1:=Fo x;have l3:=Fo (x*x-2*(y*y));have m1:=aVl h1 h1 o_ o_;have o2:=aVy (z:=2) d_ d_;have m2:=aVl h2 h2 o_ o_;have m3:=aVl (x:=2) (y:=y*y) (p:=2) d_ (ev h2 h2) d_ o_;have cm:=aV7 (x:=x*x) (y:=2*(y*y)) (ev h1 h1) (ev (m:=2) (u:=2) d_ (ev h2 h2)) o_ o_;have hw:=aDA l1 l3;unfold pw tt;generalize (x*x-2*(y*y)).sign=t at *;generalize x.sign=a at *;generalize y.sign=b at *;by_cases h1:a=b
 ·rw[aw (.inl h1)];exact aK func133 (λ_=>[s1.at 8,s2.at 10,.rw 13 _ (.bool true) (xT h1)])
 ·by_cases h2:b=0
  ·rw[aw (.inr h2)];exact aK func133 (λ_=>[s1.at 8,s2.at 10,.rw 13 _ (.bool false) (pF h1),.rw 16 _ (.bool true) (xT h2)])
  ·rw[ao (λh=>h.elim h1 h2)];by_cases h3:a=0
   ·rw[aw h3];exact aK func133 (λ_=>[s1.at 8,s2.at 10,.rw 13 _ (.bool false) (pF h1),.rw 16 _ (.bool false) (pF h2),.rw 20 _ (.bool true) (xT h3)])
   ·rw[ao h3];exact aK func133 (λ_=>[s1.at 8,s2.at 10,.rw 13 _ (.bool false) (pF h1),.rw 16 _ (.bool false) (pF h2),.rw 20 _ (.bool false) (pF h3),m1.at 25,o2.at 26,m2.at 29,m3.at 30,cm.at 31,.wr 32 .i64 (a*t) (a*t) hw])
theorem IA{f g:Fr}{m n:Nat}(hf:dD m f)(hg:dD n g)(cT:m+n+8<=aC):aD prog 83 [pz (co f),pz (co g)] (pz (co (e6 f g))):=by
 have h:=aDz (HO hf) (HO hg) cT;have e:pz (jF (co f) (co g) 16)=pz (co (e6 f g)):=by rw[<-Kx f g];rfl
 rw[e]at h;exact h
def f2(a b:Int):Fr:=⟨a,b,0,0,1⟩
theorem aPM(a b:Int):e6 (f2 a b) (f2 a b)=⟨a*a+2*(b*b),2*(a*b),0,0,1⟩:=by
 unfold e6 f2;simp only[Fr.mk.injEq];refine⟨?_,?_,?_,?_,?_⟩
 ·simp
 ·rw[Tg b a];simp;omega
 ·simp
 ·simp
 ·rfl
theorem aPN(a b:Int):pz (co (f2 a b))=.agg #[.bool (bF a).neg,.string (BA (bF a).aZ),.bool (bF b).neg,.string (BA (bF b).aZ),.bool false,.string ⟨#[]⟩,.bool false,.string ⟨#[]⟩]:=by show Value.agg #[.bool (bF a).neg,.string (BA (bF a).aZ),.bool (bF b).neg,.string (BA (bF b).aZ),.bool (bF 0).neg,.string (BA (bF 0).aZ),.bool (bF 0).neg,.string (BA (bF 0).aZ)]=_;rw[C7];rfl
theorem aDB{a b:Int}{n:Nat}(ha:a.natAbs<2^n)(hb:b.natAbs<2^n)(hn:2*n+10<=aC):
  aD prog 83 [.agg #[.bool (bF a).neg,.string (BA (bF a).aZ),.bool (bF b).neg,.string (BA (bF b).aZ),.bool false,.string ⟨#[]⟩,.bool false,.string ⟨#[]⟩],.agg #[.bool (bF a).neg,.string (BA (bF a).aZ),.bool (bF b).neg,.string (BA (bF b).aZ),.bool false,.string ⟨#[]⟩,.bool false,.string ⟨#[]⟩]]
   (pz (co ⟨a*a+2*(b*b),2*(a*b),0,0,1⟩)):=by
 have hp:0<2^n:=cG d_;have h:dD (n+1) (f2 a b):=by have h2:2^n*2=2^(n+1):=(dw ..).symm;refine⟨?_,?_,?_,?_,?_⟩<;>unfold f2<;>dsimp only<;>omega
 have:=IA h h o_;rw[aPM,aPN]at this;exact this
theorem aVm{x:K}{n:Nat}(hx:Sz n x)(hn:4*n+30<=aC):aD prog 85 [b9 x] (.int .i64 (OF.az x)):=by
 have pA:aC<=1099511627776:=by decide
 have hv:=aVj hx o_;rw[aAK];obtain⟨x1,x2,x3,x4,x5⟩:=hx;unfold b9 dQ at *;generalize bH x=f at *;have s1:=Wf x1 x2 o_ o_;have s2:=Wf x3 x4 o_ o_;have t1:=aDB x1 x2 o_;have t2:=aDB x3 x4 o_;have o3:=aVy (z:=3) d_ d_;have z1:(f.a*f.a).natAbs<2^(n+n+2):=cx (ev x1 x1) (cY d_ o_);have z2:(2*(f.b*f.b)).natAbs<2^(n+n+2):=by have:=ev (m:=2) (u:=2) d_ (ev x2 x2);rwa[show 2+(n+n)=n+n+2 by omega]at this
 have z3:(f.c*f.c).natAbs<2^(n+n+2):=cx (ev x3 x3) (cY d_ o_);have z4:(2*(f.e*f.e)).natAbs<2^(n+n+2):=by have:=ev (m:=2) (u:=2) d_ (ev x4 x4);rwa[show 2+(n+n)=n+n+2 by omega]at this
 have z12:=HT z1 z2;have z34:=HT z3 z4;have y1:(2*(f.a*f.b)).natAbs<2^(n+n+2):=by have:=ev (m:=2) (u:=2) d_ (ev x1 x2);rwa[show 2+(n+n)=n+n+2 by omega]at this
 have y2:(2*(f.c*f.e)).natAbs<2^(n+n+2):=by have:=ev (m:=2) (u:=2) d_ (ev x3 x4);rwa[show 2+(n+n)=n+n+2 by omega]at this
 have m34:=aVl (x:=3) (p:=2) d_ z34 d_ o_;have zm:(3*(f.c*f.c+2*(f.e*f.e))).natAbs<2^(n+n+5):=by have:=ev (m:=2) (u:=3) d_ z34;rwa[show 2+(n+n+2+1)=n+n+5 by omega]at this
 have aDC:(f.a*f.a+2*(f.b*f.b)).natAbs<2^(n+n+5):=cx z12 (cY d_ o_);have d1:=aVP aDC zm o_ o_;have my:=aVl (x:=3) (p:=2) d_ y2 d_ o_;have ym:(3*(2*(f.c*f.e))).natAbs<2^(n+n+4):=by have:=ev (m:=2) (u:=3) d_ y2;rwa[show 2+(n+n+2)=n+n+4 by omega]at this
 have y1':(2*(f.a*f.b)).natAbs<2^(n+n+4):=cx y1 (cY d_ o_);have d2:=aVP y1' ym o_ o_;have s3:=Wf (Oe aDC zm) (Oe y1' ym) o_ o_;have e1:(f.a*f.a+2*(f.b*f.b))-3*(f.c*f.c+2*(f.e*f.e))=(f.a*f.a+2*(f.b*f.b))-(3*(f.c*f.c)+6*(f.e*f.e)):=by omega
 have e2:2*(f.a*f.b)-3*(2*(f.c*f.e))=2*(f.a*f.b)-6*(f.c*f.e):=by omega
 have xo:=Of f.a f.b;have T2:=Of ((f.a*f.a+2*(f.b*f.b))-(3*(f.c*f.c)+6*(f.e*f.e))) (2*(f.a*f.b)-6*(f.c*f.e));have hw:=aDA xo T2;rw[<-e1,<-e2]at hw;unfold N6 tt;rw[<-e1,<-e2];generalize pw ((f.a*f.a+2*(f.b*f.b))-3*(f.c*f.c+2*(f.e*f.e))) (2*(f.a*f.b)-3*(2*(f.c*f.e)))=t at *;generalize pw f.a f.b=p at *;generalize pw f.c f.e=q at *;by_cases h1:p=q
 ·rw[aw (.inl h1)];exact aK func85 (λ_=>[hv.at 9,s1.at 17,s2.at 24,.rw 27 _ (.bool true) (xT h1)])
 ·by_cases h2:q=0
  ·rw[aw (.inr h2)];exact aK func85 (λ_=>[hv.at 9,s1.at 17,s2.at 24,.rw 27 _ (.bool false) (pF h1),.rw 30 _ (.bool true) (xT h2)])
  ·rw[ao (λh=>h.elim h1 h2)];by_cases h3:p=0
   ·rw[aw h3];exact aK func85 (λ_=>[hv.at 9,s1.at 17,s2.at 24,.rw 27 _ (.bool false) (pF h1),.rw 30 _ (.bool false) (pF h2),.rw 34 _ (.bool true) (xT h3)])
   ·rw[ao h3];exact gE mixed func85 200 (λ_=>[hv.at 9,s1.at 17,s2.at 24,.rw 27 _ (.bool false) (pF h1),.rw 30 _ (.bool false) (pF h2),.rw 34 _ (.bool false) (pF h3),t1.at 50,t2.at 65,o3.at 66,m34.at 73,d1.at 74,my.at 80,d2.at 81,s3.at 82,.wr 83 .i64 (p*t) (p*t) hw]) (λ_=>k_) k_ k_
theorem aVK{x y:K}{m n:Nat}(hx:Sz m x)(hy:Sz n y)(cT:4*(m+n)+40<=aC):aD prog 48 [b9 x,b9 y] (.int .i64 (OF.az (x-y))):=
 aK func48 (λ_=>[(aVj hx o_).at 6,(aVj hy o_).at 10,(aVi hx hy o_).at 15,(aVm (hx.sub hy) o_).at 16])
theorem aVH{x:K}{n:Nat}(hx:Sz n x)(hn:4*n+30<=aC):aD prog 171 [b9 x] (b9 (iO x)):=by
 unfold iO;have n1:=aV2 hx o_;have n2:=aV2 hx.neg o_;rw[CR.neg_neg]at n2;by_cases h:OF.az x<0
 ·rw[aw h];exact aK func171 (λ_=>[(aVm hx hn).at 4,.rw 5 (.bool (decide (OF.az x<0))) (.bool true) (by rw[aB h]),n1.at 7])
 ·rw[ao h];exact aK func171 (λ_=>[(aVm hx hn).at 4,.rw 5 (.bool (decide (OF.az x<0))) (.bool false) (by rw[aJ h]),n1.at 9,n2.at 10])
def sH(q:RI):Nat:=q.aZ.length
def sI(r:RN)(k:Nat):Bool:=decide (sH r.a<=k)&&(decide (sH r.b<=k)&&(decide (sH r.c<=k)&&(decide (sH r.e<=k)&&decide (sH r.d<=k))))
theorem z8(l:List UInt8):Value.int .i64 ((BA l).size:Int)=vI l.length:=by rw[oK];rfl
theorem tQ{a b:Nat}{t:Bool}(h:decide (a<=b)=!t):Value.bool (decide ((a:Int)>(b:Int)))=.bool t:=by
 congr 1
 cases t
 ·have:=kH h;exact aJ o_
 ·have:=Hs h;exact aB o_
theorem PW(r:RN)(k:Nat):aD prog 33 [r.v,vI k] (.bool (sI r k)):=by
 unfold sI sH;have la:=z8 r.a.aZ;have lb:=z8 r.b.aZ;have lc:=z8 r.c.aZ;have le:=z8 r.e.aZ;have ld:=z8 r.d.aZ;rcases ha:decide (r.a.aZ.length<=k)with _|_
 ·exact aK func33 (λ_=>[.rw 15 _ (vI r.a.aZ.length) la,.rw 17 _ (.bool true) (tQ (t:=true) ha)])
 rcases hb:decide (r.b.aZ.length<=k)with _|_
 ·exact aK func33 (λ_=>[.rw 15 _ (vI r.a.aZ.length) la,.rw 17 _ (.bool false) (tQ (t:=false) ha),.rw 15 _ (vI r.b.aZ.length) lb,.rw 17 _ (.bool true) (tQ (t:=true) hb)])
 rcases hc:decide (r.c.aZ.length<=k)with _|_
 ·exact aK func33 (λ_=>[.rw 15 _ (vI r.a.aZ.length) la,.rw 17 _ (.bool false) (tQ (t:=false) ha),.rw 15 _ (vI r.b.aZ.length) lb,.rw 17 _ (.bool false) (tQ (t:=false) hb),.rw 15 _ (vI r.c.aZ.length) lc,.rw 17 _ (.bool true) (tQ (t:=true) hc)])
 rcases he:decide (r.e.aZ.length<=k)with _|_
 ·exact aK func33 (λ_=>[.rw 15 _ (vI r.a.aZ.length) la,.rw 17 _ (.bool false) (tQ (t:=false) ha),.rw 15 _ (vI r.b.aZ.length) lb,.rw 17 _ (.bool false) (tQ (t:=false) hb),.rw 15 _ (vI r.c.aZ.length) lc,.rw 17 _ (.bool false) (tQ (t:=false) hc),.rw 15 _ (vI r.e.aZ.length) le,.rw 17 _ (.bool true) (tQ (t:=true) he)])
 have hd:Value.bool (decide ((r.d.aZ.length:Int)<=(k:Int)))=.bool (decide (r.d.aZ.length<=k)):=by congr 1;rw[s9];omega
 exact aK func33 (λ_=>[.rw 15 _ (vI r.a.aZ.length) la,.rw 17 _ (.bool false) (tQ (t:=false) ha),.rw 15 _ (vI r.b.aZ.length) lb,.rw 17 _ (.bool false) (tQ (t:=false) hb),.rw 15 _ (vI r.c.aZ.length) lc,.rw 17 _ (.bool false) (tQ (t:=false) hc),.rw 15 _ (vI r.e.aZ.length) le,.rw 17 _ (.bool false) (tQ (t:=false) he),.rw 21 _ (vI r.d.aZ.length) ld,.rw 23 _ (.bool (decide (r.d.aZ.length<=k))) hd])
def wN(r:RN):Nat:=sH r.d+sH r.a+sH r.b+sH r.c+sH r.e
theorem PX{r:RN}(h:wN r<9223372036854775808):aD prog 52 [r.v] (vI (wN r)):=by unfold wN sH at *;have la:=z8 r.a.aZ;have lb:=z8 r.b.aZ;have lc:=z8 r.c.aZ;have le:=z8 r.e.aZ;have ld:=z8 r.d.aZ;exact aK func52 (λ_=>[.rw 8 _ (vI r.d.aZ.length) ld,.rw 19 _ (vI r.a.aZ.length) la,.sum 20 r.d.aZ.length r.a.aZ.length (r.d.aZ.length+r.a.aZ.length) rfl o_,.rw 19 _ (vI r.b.aZ.length) lb,.sum 20 (r.d.aZ.length+r.a.aZ.length) r.b.aZ.length (r.d.aZ.length+r.a.aZ.length+r.b.aZ.length) rfl o_,.rw 19 _ (vI r.c.aZ.length) lc,.sum 20 (r.d.aZ.length+r.a.aZ.length+r.b.aZ.length) r.c.aZ.length (r.d.aZ.length+r.a.aZ.length+r.b.aZ.length+r.c.aZ.length) rfl o_,.rw 19 _ (vI r.e.aZ.length) le,.sum 20 (r.d.aZ.length+r.a.aZ.length+r.b.aZ.length+r.c.aZ.length) r.e.aZ.length (r.d.aZ.length+r.a.aZ.length+r.b.aZ.length+r.c.aZ.length+r.e.aZ.length) rfl o_])
theorem Wg(p q r t:Rat)(k:Rat):(⟨⟨p,q⟩,⟨r,t⟩⟩:K)*⟨⟨k,0⟩,⟨0,0⟩⟩=⟨⟨p*k,q*k⟩,⟨r*k,t*k⟩⟩:=by
 apply bw.ext
 ·apply bw.ext
  ·show(p*k+2*(q*0))+(3*(r*0+2*(t*0))+2*(0*(r*0+t*0)))=p*k
   grind
  ·show(p*0+q*k)+(3*(r*0+t*0)+0*(r*0+2*(t*0)))=q*k
   grind
 ·apply bw.ext
  ·show(p*0+2*(q*0))+(r*k+2*(t*0))=r*k
   grind
  ·show(p*0+q*0)+(r*0+t*k)=t*k
   grind
theorem PY(u d k:Int):Rat.divInt (u*k) d=Rat.divInt u d*(k:Rat):=by
 rw[Bj,Bj,Fi,Fi];have:((u*k:Int):Rat)=(u:Rat)*(k:Rat):=by simp
 rw[this]
 grind
theorem aPO(a b c e d k:Int):Fr.val ⟨a*k,b*k,c*k,e*k,d⟩=Fr.val ⟨a,b,c,e,d⟩*kI k:=by unfold Fr.val kI;dsimp only;rw[Wg,PY,PY,PY,PY]
theorem PZ{a b c e d:Int}(hd:d≠0):Fr.val ⟨a,b,c,e,d⟩*kI d=Fr.val ⟨a,b,c,e,1⟩:=by
 unfold Fr.val kI;dsimp only;have h1:∀ u:Int,Rat.divInt u 1=(u:Rat):=λu=>by rw[Bj,Fi];grind
 rw[Wg,oR hd,oR hd,oR hd,oR hd,h1,h1,h1,h1]
theorem aPP(a b:Int):kI (a*b)=kI a*kI b:=by
 unfold kI;rw[Wg];have:((a*b:Int):Rat)=(a:Rat)*(b:Rat):=by simp
 rw[this];apply bw.ext<;>apply bw.ext<;>simp
theorem aPQ:kI 1=1:=rfl
theorem P0{a:Int}(h:a≠0):kI a≠0:=λe=>by have h1:=cI (λx:K=>x.re.re) e;have h2:((a:Int):Rat)=0:=h1;exact h (by simpa using h2)
theorem Wh(f:Fr)(h:f.d=1):f.val=⟨⟨f.a,f.b⟩,⟨f.c,f.e⟩⟩:=by
 have h1:∀ u:Int,Rat.divInt u 1=(u:Rat):=λu=>by rw[Bj,Fi];grind
 unfold Fr.val;rw[h,h1,h1,h1,h1]
theorem aPR(u v:K):lJ (u*v)=lJ u*lJ v:=by
 obtain⟨⟨a,b⟩,⟨c,d⟩⟩:=u;obtain⟨⟨p,q⟩,⟨r,s⟩⟩:=v;apply bw.ext
 ·apply bw.ext
  ·show(a*p+2*(b*q))+(3*(c*r+2*(d*s))+2*(0*(c*s+d*r)))=(a*p+2*(-b*-q))+(3*(c*r+2*(-d*-s))+2*(0*(c*-s+-d*r)))
   grind
  ·show -((a*q+b*p)+(3*(c*s+d*r)+0*(c*r+2*(d*s))))=(a*-q+-b*p)+(3*(c*-s+-d*r)+0*(c*r+2*(-d*-s)))
   grind
 ·apply bw.ext
  ·show(a*r+2*(b*s))+(c*p+2*(d*q))=(a*r+2*(-b*-s))+(c*p+2*(-d*-q))
   grind
  ·show -((a*s+b*r)+(c*q+d*p))=(a*-s+-b*r)+(c*-q+-d*p)
   grind
def nf(f:Fr):Fr:=⟨f.a,f.b,f.c,f.e,1⟩
def P1(f:Fr):Fr:=⟨f.a,-f.b,-f.c,f.e,1⟩
def P2:Fr:=⟨1,0,0,0,1⟩
def il(f:Fr):Fr:=e6 (e6 (e6 P2 (xm (nf f))) (xl (nf f))) (P1 f)
theorem aDD(f:Fr):(il f).d=1:=rfl
theorem aPS(f:Fr):(nf f).val*(il f).val=qI (nf f).val:=by
 have h1:∀ g h:Fr,g.d=1->h.d=1->(e6 g h).val=g.val*h.val:=λg h e1 e2=>Ks (by rw[e1];decide) (by rw[e2];decide);have e3:P1 f=xm (xl (nf f)):=by unfold P1 xm xl nf;simp
 unfold il;rw[h1 _ _ rfl rfl,h1 _ _ rfl rfl,h1 _ _ rfl rfl,e3,TV,TV,aAR];have eo:P2.val=1:=by rw[Wh _ rfl];rfl
 rw[eo];unfold qI two;rw[aPR];generalize (nf f).val=y;rw[CR.one_mul];exact OF.Fb y (lJ y) (mL y) (lJ (mL y)) (λy c b i=>y*(c*b*i)) (λy c b i=>y*b*(c*i)) d_
def mW(f g:Fr):Fr:=⟨(e6 (nf f) (il g)).a*g.d,(e6 (nf f) (il g)).b*g.d,(e6 (nf f) (il g)).c*g.d,(e6 (nf f) (il g)).e*g.d,(e6 (nf g) (il g)).a*f.d⟩
theorem aPT{g:Fr}(hg:g.d≠0)(h:g.val≠0):(e6 (nf g) (il g)).a≠0/\kI (e6 (nf g) (il g)).a=(nf g).val*(il g).val:=by
 have hv:(e6 (nf g) (il g)).val=(nf g).val*(il g).val:=Ks (show(1:Int)≠0 by decide) (by rw[aDD];decide);have hy:(nf g).val≠0:=λe=>h (by
  have h1:=PZ (a:=g.a) (b:=g.b) (c:=g.c) (e:=g.e) hg;have h2:Fr.val ⟨g.a,g.b,g.c,g.e,g.d⟩*kI g.d=0:=by rw[h1];exact e
  exact hZ λh3=>OF.mul_ne_zero (a:=Fr.val ⟨g.a,g.b,g.c,g.e,g.d⟩) h3 (P0 hg) h2)
 have hn:=aPS g;rw[Oa]at hn;have hq:=TW hy;rw[<-hv,Wh _ (by rfl)]at hn;have e1:(((e6 (nf g) (il g)).a:Int):Rat)=bw.nm (bw.nm (nf g).val):=cI (λx:K=>x.re.re) hn;have e2:(((e6 (nf g) (il g)).b:Int):Rat)=0:=cI (λx:K=>x.re.im) hn;have e3:(((e6 (nf g) (il g)).c:Int):Rat)=0:=cI (λx:K=>x.im.re) hn;have e4:(((e6 (nf g) (il g)).e:Int):Rat)=0:=cI (λx:K=>x.im.im) hn;refine⟨λe=>hq (by rw[<-e1,e];rfl),?_⟩;rw[<-hv,Wh _ (by rfl),e2,e3,e4];rfl
theorem aPU{f g:Fr}(hf:f.d≠0)(hg:g.d≠0)(h:g.val≠0):(mW f g).d≠0/\(mW f g).val=f.val*(g.val)⁻¹:=by
 obtain⟨ha,hk⟩:=aPT hg h;have hd:(mW f g).d≠0:=C2 ha hf;refine⟨hd,?_⟩;have h1:=PZ (a:=(mW f g).a) (b:=(mW f g).b) (c:=(mW f g).c) (e:=(mW f g).e) hd;have h2:=aPO (e6 (nf f) (il g)).a (e6 (nf f) (il g)).b (e6 (nf f) (il g)).c (e6 (nf f) (il g)).e 1 g.d;have h3:(e6 (nf f) (il g)).val=(nf f).val*(il g).val:=Ks (show(1:Int)≠0 by decide) (by rw[aDD];decide);have h4:=PZ (a:=f.a) (b:=f.b) (c:=f.c) (e:=f.e) hf;have h5:=PZ (a:=g.a) (b:=g.b) (c:=g.c) (e:=g.e) hg;have h6:kI (mW f g).d=(nf g).val*(il g).val*kI f.d:=by show kI ((e6 (nf g) (il g)).a*f.d)=_;rw[aPP,hk]
 have e1:(mW f g).val*((nf g).val*(il g).val*kI f.d)=(nf f).val*(il g).val*kI g.d:=by rw[<-h6,<-h3];exact h1.trans h2
 replace h4:f.val*kI f.d=(nf f).val:=h4
 replace h5:g.val*kI g.d=(nf g).val:=h5
 rw[<-h4,<-h5]at e1;have hc:(il g).val≠0:=λe=>by rw[e,CR.mul_zero]at hk;exact P0 ha hk
 have hm:kI g.d*((il g).val*kI f.d)≠0:=OF.mul_ne_zero (P0 hg) (OF.mul_ne_zero hc (P0 hf));have e2:(mW f g).val*g.val*(kI g.d*((il g).val*kI f.d))=f.val*(kI g.d*((il g).val*kI f.d)):=by
  rw[show(mW f g).val*g.val*(kI g.d*((il g).val*kI f.d))=(mW f g).val*(g.val*kI g.d*(il g).val*kI f.d)from
   OF.Kk (mW f g).val g.val (kI g.d) (il g).val (kI f.d) (λd g k c l=>d*g*(k*(c*l))) (λd g k c l=>d*(g*k*c*l)) d_,e1]
  exact OF.Fb f.val (kI f.d) (il g).val (kI g.d) (λf l c k=>f*l*c*k) (λf l c k=>f*(k*(c*l))) d_
 have e3:(mW f g).val*g.val=f.val:=by have h7:=cI (λt=>t*(kI g.d*((il g).val*kI f.d))⁻¹) e2;rw[CR.mul_assoc ((mW f g).val*g.val),CR.mul_assoc f.val,OF.lI _ hm,CR.mul_one,CR.mul_one]at h7;exact h7
 rw[<-e3,CR.mul_assoc,OF.lI _ h,CR.mul_one]
theorem aPV:pz (co P2)=.agg #[.bool (bF 1).neg,.string (BA (bF 1).aZ),.bool false,.string ⟨#[]⟩,.bool false,.string ⟨#[]⟩,.bool false,.string ⟨#[]⟩]:=by show Value.agg #[.bool (bF 1).neg,.string (BA (bF 1).aZ),.bool (bF 0).neg,.string (BA (bF 0).aZ),.bool (bF 0).neg,.string (BA (bF 0).aZ),.bool (bF 0).neg,.string (BA (bF 0).aZ)]=_;rw[C7];rfl
theorem aDE{n:Nat}{f:Fr}(h:dD n f)(hd:f.d≠0):dD n (nf f):=by
 obtain⟨h1,h2,h3,h4,h5⟩:=h;refine⟨h1,h2,h3,h4,?_⟩;show(1:Int).natAbs<2^n;have:f.d.natAbs≠0:=by omega
 show 1<2^n;omega
theorem aPW{n:Nat}{f:Fr}(h:dD n (nf f)):dD n (xm (nf f))/\dD n (xl (nf f))/\dD n (P1 f):=by
 obtain⟨h1,h2,h3,h4,h5⟩:=h;have e:∀ z:Int,z.natAbs<2^n->(-z).natAbs<2^n:=λz hz=>by rw[J6];exact hz
 exact⟨⟨h1,e _ h2,h3,e _ h4,h5⟩,⟨h1,h2,e _ h3,e _ h4,h5⟩,⟨h1,e _ h2,e _ h3,h4,h5⟩⟩
theorem aVR{x y:K}{m n:Nat}(h:y≠0)(hx:Sz m x)(hy:Sz n y)(cT:m+4*n+60<=aC):aD prog 135 [b9 x,b9 y] (.tuple #[b9 (x*y⁻¹),.int .i64 0]):=by
 have pA:aC<=1099511627776:=by decide
 have v1:=aVj hx o_;have v2:=aVj hy o_;have sy:=aVm hy o_;have h26:Value.bool (OF.az y==0)=.bool false:=pF (λe=>h ((OF.eZ y).1 e));have vf:(bH x).d≠0:=by have:=(kp x).pos;omega
 have nY:(bH y).d≠0:=by have:=(kp y).pos;omega
 obtain⟨hd,hv⟩:=aPU vf nY (by rw[oQ];exact h);rw[oQ,oQ]at hv;have e:b9 (x*y⁻¹)=ik (mW (bH x) (bH y)).low:=by unfold b9 dQ;rw[<-hv,Fg hd];rfl
 rw[e];have so1:dD 1 P2:=⟨by decide,by decide,by decide,by decide,by decide⟩;have sg:=aDE hy nY;have sf:=aDE hx vf;obtain⟨c1,c2,c3⟩:=aPW sg;have s1:=dD.mul so1 c1;have s2:=dD.mul s1 c2;have s3:=dD.mul s2 c3;have sN:=dD.mul sg s3;have sM:=dD.mul sf s3;have t1:=IA so1 c1 o_;rw[aPV]at t1;have t2:=IA s1 c2 o_;have t3:=IA s2 c3 o_;have tN:=IA sg s3 o_;have tM:=IA sf s3 o_;have gd:=hy.2.2.2.2;have fd:=hx.2.2.2.2;have ma:=aVl sM.1 gd o_ o_;have mb:=aVl sM.2.1 gd o_ o_;have mc:=aVl sM.2.2.1 gd o_ o_;have me:=aVl sM.2.2.2.1 gd o_ o_;have md:=aVl sN.1 fd o_ o_;have za:=ev sM.1 gd;have zb:=ev sM.2.1 gd;have zc:=ev sM.2.2.1 gd;have ze:=ev sM.2.2.2.1 gd;have zd:=ev sN.1 fd;have xo:2^(m+(1+n+4+n+4+n+4)+4+n)<=2^(m+4*n+20):=cY d_ o_;have VN:2^(n+(1+n+4+n+4+n+4)+4+m)<=2^(m+4*n+20):=cY d_ o_;have hl:=aVx (c:=co (mW (bH x) (bH y))) (d:=(mW (bH x) (bH y)).d) (n:=m+4*n+20) hd ⟨cx za xo,cx zb xo,cx zc xo,cx ze xo,cx zd VN⟩ o_;have dq:oS (co (mW (bH x) (bH y))) (mW (bH x) (bH y)).d=mW (bH x) (bH y):=rfl;rw[dq]at hl;have nb:=aVA (bH y).b;have nc:=aVA (bH y).c;have ne:=aVA (bH y).e;have one:=aVy (z:=1) d_ d_;generalize hD:(mW (bH x) (bH y)).low=D at *;exact gE mixed func135 300 (λ_=>[v1.at 15,v2.at 19,sy.at 25,.rw 26 _ (.bool false) h26,one.at 28,nb.at 54,ne.at 54,t1.at 58,nc.at 54,ne.at 54,t2.at 58,nb.at 54,nc.at 54,t3.at 58,tN.at 62,tM.at 66,ma.at 77,mb.at 77,mc.at 77,me.at 77,md.at 84,hl.at 85]) (λ_=>k_) k_ k_
section
open V3 (dot ax cL smul)
def Lt(n:Nat)(r:RV):Prop:=dD n (gu r.x)/\dD n (gu r.y)/\dD n (gu r.z)
def Aa(r:RV):Bool:=mV r.x&&(mV r.y&&mV r.z)
theorem aV0{r:RV}{n:Nat}(h:Lt n r)(hn:n<=aC):aD prog 34 [r.v] (.bool (Aa r)):=by
 have hx:=Lr h.1 hn;have hy:=Lr h.2.1 hn;have hz:=Lr h.2.2 hn;unfold Aa;generalize mV r.x=bb at *;rcases bb with _|_
 ·exact aK func34 (λ_=>[hx.at 5])
 generalize mV r.y=bb at *;rcases bb with _|_
 ·exact aK func34 (λ_=>[hx.at 5,hy.at 9])
 exact aK func34 (λ_=>[hx.at 5,hy.at 9,hz.at 14])
theorem P3(x:K):mV (dQ x)=true:=aDy (kp x)
theorem Ge(x:K):gu (dQ x)=bH x:=VU (bH x)
theorem aDF{n:Nat}{v:V3 K}(h:aF n v):Lt n (cC v):=by
 refine⟨?_,?_,?_⟩
 ·show dD n (gu (dQ v.x));rw[Ge];exact h.1
 ·show dD n (gu (dQ v.y));rw[Ge];exact h.2.1
 ·show dD n (gu (dQ v.z));rw[Ge];exact h.2.2
theorem aDG(v:V3 K):Aa (cC v)=true:=by show(mV (dQ v.x)&&(mV (dQ v.y)&&mV (dQ v.z)))=true;rw[P3,P3,P3];rfl
theorem aVW{v:V3 K}{n:Nat}(h:aF n v)(hn:n<=aC):aD prog 34 [bP v] (.bool true):=by have:=aV0 (aDF h) hn;rw[aDG]at this;exact this
def vZ(r:RV):V3 K:=⟨(gu r.x).val,(gu r.y).val,(gu r.z).val⟩
theorem aDH{r:RV}(h:Aa r=true):r=cC (vZ r):=by unfold Aa at h;simp only[db]at h;obtain⟨x,y,z⟩:=r;show RV.mk x y z=RV.mk (dQ (gu x).val) (dQ (gu y).val) (dQ (gu z).val);rw[<-PR h.1,<-PR h.2.1,<-PR h.2.2]
theorem aVt{a b c:Int}(ha:a.natAbs<9223372036854775808)(hb:b.natAbs<9223372036854775808)(hc:c.natAbs<9223372036854775808):aD prog 27 [.int .i64 a,.int .i64 b,.int .i64 c] (bP ⟨kI a,kI b,kI c⟩):=
 aK func27 (λ_=>[(aVU ha).at 8,(aVU hb).at 10,(aVU hc).at 12])
theorem aVp{u v:V3 K}{m n:Nat}(hu:aF m u)(hv:aF n v)(cT:m+n<aC):aD prog 14 [bP u,bP v] (bP (u+v)):=
 aK func14 (λ_=>[(aVW hu o_).at 6,(aVW hv o_).at 10,(aV3 hu.1 hv.1 cT).at 18,(aV3 hu.2.1 hv.2.1 cT).at 23,(aV3 hu.2.2 hv.2.2 cT).at 28])
theorem aVz{v:V3 K}{n:Nat}(hv:aF n v)(hn:n<=aC):aD prog 47 [bP v] (bP (-v)):=
 aK func47 (λ_=>[(aVW hv hn).at 4,(aV2 hv.1 hn).at 9,(aV2 hv.2.1 hn).at 12,(aV2 hv.2.2 hn).at 15])
theorem aVT{u v:V3 K}{m n:Nat}(hu:aF m u)(hv:aF n v)(cT:m+n<aC):aD prog 16 [bP u,bP v] (bP (u-v)):=by have e:u-v=u+-v:=V3.ext (CR.sub_def _ _) (CR.sub_def _ _) (CR.sub_def _ _);rw[e];exact aK func16 (λ_=>[(aVz hv o_).at 7,(aVp hu hv.neg cT).at 8])
theorem aVI{v:V3 K}{k:K}{m n:Nat}(hv:aF m v)(hk:Sz n k)(cT:m+n+8<=aC):aD prog 15 [bP v,b9 k] (bP (smul v k)):=
 aK func15 (λ_=>[(aVW hv o_).at 6,(aVj hk o_).at 10,(aVV hv.1 hk cT).at 17,(aVV hv.2.1 hk cT).at 21,(aVV hv.2.2 hk cT).at 25])
theorem aVn{u v:V3 K}{m n:Nat}(hu:aF m u)(hv:aF n v)(cT:3*(m+n)+16<aC):aD prog 49 [bP u,bP v] (b9 (dot u v)):=
 aK func49 (λ_=>[(aVW hu o_).at 6,(aVW hv o_).at 10,(aVV hu.1 hv.1 o_).at 18,(aVV hu.2.1 hv.2.1 o_).at 23,(aV3 (hu.1.mul hv.1) (hu.2.1.mul hv.2.1) o_).at 24,(aVV hu.2.2 hv.2.2 o_).at 29,(aV3 ((hu.1.mul hv.1).add (hu.2.1.mul hv.2.1)) (hu.2.2.mul hv.2.2) o_).at 30])
theorem aVN{a b c d:K}{m n:Nat}(ha:Sz m a)(hb:Sz m b)(hc:Sz n c)(hd:Sz n d)(cT:2*(m+n)+16<aC):aD prog 140 [b9 a,b9 b,b9 c,b9 d] (b9 (a*d-b*c)):=
 aK func140 (λ_=>[(aVV ha hd o_).at 11,(aVV hb hc o_).at 14,(aVi (ha.mul hd) (hb.mul hc) o_).at 15])
theorem aU9{u v:V3 K}{m n:Nat}(hu:aF m u)(hv:aF n v)(cT:2*(m+n)+16<aC):aD prog 99 [bP u,bP v] (bP (ax u v)):=
 aK func99 (λ_=>[(aVW hu o_).at 6,(aVW hv o_).at 10,(aVN hu.2.1 hu.2.2 hv.2.1 hv.2.2 cT).at 22,(aVN hu.2.2 hu.1 hv.2.2 hv.1 cT).at 31,(aVN hu.1 hu.2.1 hv.1 hv.2.1 cT).at 40])
theorem aVJ{v:V3 K}{n:Nat}(hv:aF n v)(hn:n<=aC):aD prog 35 [bP v] (.bool (decide (v=0))):=by have hz:(⟨kI 0,kI 0,kI 0⟩:V3 K)=0:=rfl;exact aK func35 (λ_=>[(aVt (a:=0) (b:=0) (c:=0) d_ d_ d_).at 4,.step 5 (av f35 5) _ _ _ _ (Fk (neg:=true) k_ (cC v) (cC ⟨kI 0,kI 0,kI 0⟩) (hv.sm hn) (KT.sm d_) (b:=decide (v=0)) (by rw[aw rfl,BE];exact⟨λh=>by rw[h,hz],λh=>OZ h⟩))])
theorem aDI{u v w:V3 K}{l m n:Nat}(hu:aF l u)(hv:aF m v)(hw:aF n w)(cT:3*(l+(2*(m+n)+9))+16<aC):aD prog 141 [bP u,bP v,bP w] (b9 (cL u v w)):=
 aK func141 (λ_=>[(aVW hu o_).at 8,(aVW hv o_).at 12,(aVW hw o_).at 17,(aU9 hv hw o_).at 24,(aVn hu (hv.ax hw) o_).at 25])
theorem Lu{z:Int}{t:Bool}(h:decide (z≠0)=t):Value.bool (z !=0)=.bool t:=by
 rw[<-h];congr 1
 by_cases e:z=0
 ·subst e;rfl
 ·rw[aB e,uu];exact e
theorem aVB{u v:V3 K}{m n:Nat}(hu:aF m u)(hv:aF n v)(cT:4*(m+n)+40<=aC):aD prog 136 [bP u,bP v] (.int .i64 (dU u v)):=by
 rw[<-aB2];have h1:=aVW hu (show m<=aC by omega);have h2:=aVW hv (show n<=aC by omega);have c1:=aVK hu.1 hv.1 cT;have c2:=aVK hu.2.1 hv.2.1 cT;have c3:=aVK hu.2.2 hv.2.2 cT;generalize OF.az (u.x-v.x)=a at *;generalize OF.az (u.y-v.y)=b at *;generalize OF.az (u.z-v.z)=c at *;unfold O0;by_cases ha:a=0
 ·rw[ao (λh=>h ha)];by_cases hb:b=0
  ·rw[ao (λh=>h hb)];exact aK func136 (λ_=>[h1.at 8,h2.at 12,c1.at 19,.rw 21 _ (.bool false) (Lu (aJ (λh=>h ha))),c2.at 27,.rw 29 _ (.bool false) (Lu (aJ (λh=>h hb))),c3.at 35])
  ·rw[aw hb];exact aK func136 (λ_=>[h1.at 8,h2.at 12,c1.at 19,.rw 21 _ (.bool false) (Lu (aJ (λh=>h ha))),c2.at 27,.rw 29 _ (.bool true) (Lu (aB hb))])
 ·rw[aw ha];exact aK func136 (λ_=>[h1.at 8,h2.at 12,c1.at 19,.rw 21 _ (.bool true) (Lu (aB ha))])
def qm(r:RV)(k:Nat):Bool:=sI r.x k&&(sI r.y k&&sI r.z k)
theorem Wi(r:RV)(k:Nat):aD prog 32 [r.v,vI k] (.bool (qm r k)):=by
 have hx:=PW r.x k;have hy:=PW r.y k;have hz:=PW r.z k;unfold qm;generalize sI r.x k=bb at *;rcases bb with _|_
 ·exact aK func32 (λ_=>[hx.at 8])
 generalize sI r.y k=bb at *;rcases bb with _|_
 ·exact aK func32 (λ_=>[hx.at 8,hy.at 13])
 exact aK func32 (λ_=>[hx.at 8,hy.at 13,hz.at 19])
def wV(r:RV):Nat:=wN r.x+wN r.y+wN r.z
theorem aPX{r:RV}(h:wV r<9223372036854775808):aD prog 51 [r.v] (vI (wV r)):=by unfold wV at *;exact aK func51 (λ_=>[(PX (r:=r.x) o_).at 5,(PX (r:=r.y) o_).at 8,.sum 9 (wN r.x) (wN r.y) (wN r.x+wN r.y) rfl o_,(PX (r:=r.z) o_).at 12,.sum 13 (wN r.x+wN r.y) (wN r.z) (wN r.x+wN r.y+wN r.z) rfl o_])
theorem P4{r:RN}{k n:Nat}(h:sI r k=true)(hn:8*k<=n):dD n (gu r):=by
 unfold sI sH at h;simp only[db,sY]at h;have key:∀ q:RI,q.aZ.length<=k->(dZ q).natAbs<2^n:=λq hq=>by
  unfold dZ;rw[qb];have h1:=AR q.aZ;have h2:(256:Nat)^q.aZ.length<=256^k:=cY d_ hq;have h3:(256:Nat)^k=2^(8*k):=by rw[rO]
  have h4:2^(8*k)<=2^n:=cY d_ hn;omega
 exact⟨key _ h.1,key _ h.2.1,key _ h.2.2.1,key _ h.2.2.2.1,key _ h.2.2.2.2⟩
theorem aPY{r:RV}{k n:Nat}(h:qm r k=true)(hn:8*k<=n):Lt n r:=by unfold qm at h;simp only[db]at h;exact⟨P4 h.1 hn,P4 h.2.1 hn,P4 h.2.2 hn⟩
def Ab(n:Nat)(r:RP):Prop:=Lt n r.n/\dD n (gu r.d)
def oz(r:RP):Bool:=Aa r.n&&(decide (vZ r.n≠0)&&mV r.d)
def pZ(r:RP):HS K:=⟨vZ r.n,(gu r.d).val⟩
theorem aPZ{r:RN}(h:mV r=true):bH (gu r).val=gu r:=by unfold mV at h;simp only[db,sY]at h;obtain⟨h1,h2,h3,h4,h5,h6,h7⟩:=h;exact Ff ⟨h6,h7⟩
theorem P5{r:RN}{n:Nat}(h:mV r=true)(hs:dD n (gu r)):Sz n (gu r).val:=by unfold Sz;rw[aPZ h];exact hs
theorem aDJ{r:RV}{n:Nat}(h:Aa r=true)(hs:Lt n r):aF n (vZ r):=by unfold Aa at h;simp only[db]at h;exact⟨P5 h.1 hs.1,P5 h.2.1 hs.2.1,P5 h.2.2 hs.2.2⟩
theorem Lv{r:RP}{n:Nat}(h:Ab n r)(hn:n<=aC):aD prog 10 [r.v] (.bool (oz r)):=by
 have hv:=aV0 h.1 hn;have hd:=Lr h.2 hn;unfold oz;rcases hb:Aa r.n with _|_
 ·rw[hb]at hv;exact aK func10 (λ_=>[hv.at 5])
 ·rw[hb]at hv;have hz:=aVJ (aDJ hb h.1) hn;unfold bP at hz;rw[<-aDH hb]at hz;by_cases h0:vZ r.n=0
  ·rw[aB h0]at hz;rw[aJ (λe=>e h0)];exact aK func10 (λ_=>[hv.at 5,hz.at 9])
  ·rw[aJ h0]at hz;rw[aB h0];exact aK func10 (λ_=>[hv.at 5,hz.at 9,hd.at 15])
theorem aP0(v:V3 K):vZ (cC v)=v:=by show V3.mk (gu (dQ v.x)).val (gu (dQ v.y)).val (gu (dQ v.z)).val=v;rw[Ge,Ge,Ge,oQ,oQ,oQ]
theorem aDK(p:HS K):oz (cF p)=decide (p.n≠0):=by show(Aa (cC p.n)&&(decide (vZ (cC p.n)≠0)&&mV (dQ p.d)))=_;rw[aDG,aP0,P3,lD,jk]
theorem aDL{n:Nat}{p:HS K}(h:bo n p):Ab n (cF p):=⟨aDF h.1,by show dD n (gu (dQ p.d));rw[Ge];exact h.2⟩
theorem aVL{p:HS K}{n:Nat}(hp:bo n p)(hn:n<=aC):aD prog 10 [cB p] (.bool (decide (p.n≠0))):=by have:=Lv (aDL hp) hn;rw[aDK]at this;exact this
theorem P6{r:RP}(h:oz r=true):r=cF (pZ r)/\(pZ r).n≠0:=by unfold oz at h;simp only[db,sY]at h;obtain⟨n,d⟩:=r;refine⟨?_,h.2.1⟩;show RP.mk n d=RP.mk (cC (vZ n)) (dQ (gu d).val);rw[<-aDH h.1,<-PR h.2.2]
theorem Wj{r:RP}{n:Nat}(h:oz r=true)(hs:Ab n r):bo n (pZ r):=by unfold oz at h;simp only[db]at h;exact⟨aDJ h.1 hs.1,P5 h.2.2 hs.2⟩
def uZ(r:RP)(k:Nat):Bool:=qm r.n k&&sI r.d k
theorem P7(r:RP)(k:Nat):aD prog 9 [r.v,vI k] (.bool (uZ r k)):=by
 have hx:=Wi r.n k;have hd:=PW r.d k;unfold uZ;generalize qm r.n k=bb at *;rcases bb with _|_
 ·exact aK func9 (λ_=>[hx.at 8])
 exact aK func9 (λ_=>[hx.at 8,hd.at 13])
theorem Lw{r:RP}{k n:Nat}(h:uZ r k=true)(hn:8*k<=n):Ab n r:=by unfold uZ at h;simp only[db]at h;exact⟨aPY h.1 hn,P4 h.2 hn⟩
theorem aVh{p:HS K}{v:V3 K}{m n:Nat}(hp:bo m p)(hv:aF n v)(cT:4*(3*(m+n)+14+m)+50<=aC)(h:p.n≠0):aD prog 18 [cB p,bP v] (.int .i64 (OF.az (dot p.n v-p.d))):=by have h1:=aVL hp o_;rw[aB h]at h1;exact aK func18 (λ_=>[h1.at 6,(aVW hv o_).at 10,(aVn hp.1 hv o_).at 16,(aVK (hp.1.dot hv) hp.2 o_).at 19])
def IB(p q r:HS K):V3 K:=smul (ax q.n r.n) p.d+smul (ax r.n p.n) q.d+smul (ax p.n q.n) r.d
def kR(p q r:HS K):V3 K:=smul (IB p q r) (kI 1*(cL p.n q.n r.n)⁻¹)
theorem Sz.cL{n:Nat}{u v w:V3 K}(hu:aF n u)(hv:aF n v)(hw:aF n w):Sz (15*n+41) (V3.cL u v w):=(hu.dot (hv.ax hw)).mono o_
theorem aF.IB{n:Nat}{p q r:HS K}(hp:bo n p)(hq:bo n q)(hr:bo n r):aF (15*n+41) (Go.Proofs.YtjjefbkbljlgdaaGreatDoor.IB p q r):=
 (((hq.1.ax hr.1).smul hp.2).add ((hr.1.ax hp.1).smul hq.2)).add ((hp.1.ax hq.1).smul hr.2) |>.mono o_
theorem aF.kR{n:Nat}{p q r:HS K}(hp:bo n p)(hq:bo n q)(hr:bo n r)(h:V3.cL p.n q.n r.n≠0):aF (120*n+365) (Go.Proofs.YtjjefbkbljlgdaaGreatDoor.kR p q r):=
 (aF.IB hp hq hr).smul (Sz.div (m:=1) h (qH d_ d_) (Sz.cL hp.1 hq.1 hr.1)) |>.mono o_
theorem aP1(n:Nat):1+7*(15*n+41)+28<=105*n+316:=by omega
theorem aP2(n:Nat):15*n+41+(105*n+316)+8<=200*n+1000:=by omega
theorem aP3{n:Nat}(h:200*n+1000<=aC):15*n+41+(105*n+316)+8<=aC:=dh (aP2 n) h
theorem aP4{p q r:HS K}{n:Nat}(hp:bo n p)(hq:bo n q)(hr:bo n r)(hn:200*n+1000<=aC)(pn:p.n≠0)(qn:q.n≠0)(rn:r.n≠0):
  aD prog 101 [cB p,cB q,cB r] (if cL p.n q.n r.n=0 then .tuple #[zV.v,.int .i64 11]else .tuple #[bP (kR p q r),.int .i64 0]):=by
 have h1:=aVL hp o_;have h2:=aVL hq o_;have h3:=aVL hr o_;rw[aB pn]at h1;rw[aB qn]at h2;rw[aB rn]at h3;have dt:=aDI hp.1 hq.1 hr.1 o_;have sd:=Sz.cL hp.1 hq.1 hr.1;have sg:=aVm sd o_;have qJ:=aP1 n;have pA:=aP3 hn;by_cases h:cL p.n q.n r.n=0
 ·rw[aw h];have Wk:Value.bool (OF.az (cL p.n q.n r.n)==0)=.bool true:=xT ((OF.eZ _).2 h);exact gE mixed func101 200 (λ_=>[h1.at 13,h2.at 17,h3.at 22,dt.at 32,sg.at 34,.rw 35 _ (.bool true) Wk]) (λ_=>k_) k_ k_
 ·rw[ao h];have Wk:Value.bool (OF.az (cL p.n q.n r.n)==0)=.bool false:=pF (λe=>h ((OF.eZ _).1 e));have c1:=aU9 hq.1 hr.1 o_;have c2:=aU9 hr.1 hp.1 o_;have c3:=aU9 hp.1 hq.1 o_;have s1:=aVI (hq.1.ax hr.1) hp.2 o_;have s2:=aVI (hr.1.ax hp.1) hq.2 o_;have s3:=aVI (hp.1.ax hq.1) hr.2 o_;have a1:=aVp ((hq.1.ax hr.1).smul hp.2) ((hr.1.ax hp.1).smul hq.2) o_;have zA:aF (10*n+27) (smul (ax q.n r.n) p.d+smul (ax r.n p.n) q.d):=aF.mono o_ (((hq.1.ax hr.1).smul hp.2).add ((hr.1.ax hp.1).smul hq.2));have zB:aF (5*n+13) (smul (ax p.n q.n) r.d):=aF.mono o_ ((hp.1.ax hq.1).smul hr.2);have a2:=aVp zA zB o_;have o1:=aVU (z:=1) d_;have so:Sz 1 (kI 1):=qH d_ d_;have dv:=aVR h so sd o_;have sq:Sz (105*n+316) (kI 1*(cL p.n q.n r.n)⁻¹):=Sz.mono qJ (Sz.div h so sd);have fs:=aVI (aF.IB hp hq hr) sq pA;exact gE mixed func101 200 (λ_=>[h1.at 13,h2.at 17,h3.at 22,dt.at 32,sg.at 34,.rw 35 _ (.bool false) Wk,c1.at 41,s1.at 44,c2.at 50,s2.at 53,a1.at 54,c3.at 60,s3.at 63,a2.at 64,o1.at 66,dv.at 68,fs.at 73]) (λ_=>k_) k_ k_
theorem aVQ{p:HS K}{n:Nat}(hp:bo n p)(hn:16*n+100<=aC)(aU:p.n≠0):aD prog 142 [cB p] (.tuple #[cB (canon p),.int .i64 0]):=by
 have hv:=aVL hp o_;rw[aB aU]at hv;have sx:=aVm hp.1.1 o_;have sy:=aVm hp.1.2.1 o_;have o1:=aVU (z:=1) d_;have so:Sz 1 (kI 1):=qH d_ d_;have fin:∀ x:K,x≠0->Sz n x->aD prog 171 [b9 x] (b9 (iO x))/\aD prog 135 [b9 (kI 1),b9 (iO x)] (.tuple #[b9 (mn x),.int .i64 0])/\
   aD prog 15 [bP p.n,b9 (mn x)] (bP (smul p.n (mn x)))/\aD prog 46 [b9 p.d,b9 (mn x)] (b9 (p.d*mn x)):=λx hx hs=>
  ⟨aVH hs o_,aVR (O2 hx) so hs.iO o_,aVI hp.1 (hs.mn hx) o_,aVV hp.2 (hs.mn hx) o_⟩
 have hc:canon p=Dn p (qf p.n):=rfl;unfold qf at hc;by_cases hx:p.n.x=0
 ·have ex:Value.bool (OF.az p.n.x==0)=.bool true:=xT ((OF.eZ _).2 hx);rw[ao (λe=>e hx)]at hc;by_cases hy:p.n.y=0
  ·have ey:Value.bool (OF.az p.n.y==0)=.bool true:=xT ((OF.eZ _).2 hy);rw[ao (λe=>e hy)]at hc;have hz:p.n.z≠0:=λhz=>aU (V3.ext hx hy hz);obtain⟨f1,f2,f3,f4⟩:=fin p.n.z hz hp.1.2.2;rw[hc];exact gE mixed func142 200 (λ_=>[hv.at 8,sx.at 15,.rw 16 _ (.bool true) ex,sy.at 21,.rw 22 _ (.bool true) ey,o1.at 27,f1.at 29,f2.at 30,f3.at 36,f4.at 40]) (λ_=>k_) k_ k_
  ·have ey:Value.bool (OF.az p.n.y==0)=.bool false:=pF (λe=>hy ((OF.eZ _).1 e));rw[aw hy]at hc;obtain⟨f1,f2,f3,f4⟩:=fin p.n.y hy hp.1.2.1;rw[hc];exact gE mixed func142 200 (λ_=>[hv.at 8,sx.at 15,.rw 16 _ (.bool true) ex,sy.at 21,.rw 22 _ (.bool false) ey,o1.at 27,f1.at 29,f2.at 30,f3.at 36,f4.at 40]) (λ_=>k_) k_ k_
 ·have ex:Value.bool (OF.az p.n.x==0)=.bool false:=pF (λe=>hx ((OF.eZ _).1 e));rw[aw hx]at hc;obtain⟨f1,f2,f3,f4⟩:=fin p.n.x hx hp.1.1;rw[hc];exact gE mixed func142 200 (λ_=>[hv.at 8,sx.at 15,.rw 16 _ (.bool false) ex,sx.at 21,.rw 22 _ (.bool false) ex,o1.at 27,f1.at 29,f2.at 30,f3.at 36,f4.at 40]) (λ_=>k_) k_ k_
theorem aVF{p q:HS K}{m n:Nat}(hp:bo m p)(hq:bo n q)(hm:16*m+100<=aC)(hn:16*n+100<=aC)(fV:p.n≠0)(zu:q.n≠0):aD prog 103 [cB p,cB q] (.bool (decide (canon p=canon q))):=
 aK func103 (λ_=>[(aVQ hp hm fV).at 11,(aVQ hq hn zu).at 16,.step 28 (av f103 28) _ _ _ _ (TP (neg:=true) k_ (cF (canon p)) (cF (canon q)) ((hp.canon fV).sm o_) ((hq.canon zu).sm o_) (b:=decide (canon p=canon q)) (by rw[aw rfl,BE];exact⟨λh=>by rw[h],λh=>O1 h⟩))])
theorem aDM{g o a b:V3 K}{n:Nat}(hg:aF n g)(ho:aF n o)(ha:aF n a)(hb:aF n b)(hn:200*n+400<=aC):aD prog 144 [bP g,bP o,bP a,bP b] (.int .i64 (OF.az (cL g (a-o) (b-o)))):=
 aK func144 (λ_=>[(aVT ha ho o_).at 12,(aVT hb ho o_).at 15,(aDI hg (ha.sub ho) (hb.sub ho) o_).at 16,(aVm (hg.dot ((ha.sub ho).ax (hb.sub ho))) o_).at 17])
end
section
variable{Bs:aa}{a b:List RV}
def DX(n i:Nat):aV:=[(5,vI i),(0,sl 0 n),(1,sl 1 n)]
def wh(a b:List RV):aH:=[(0,.view (cE a)),(1,.view (cE b))]
noncomputable def svS{n i:Nat}{x y:RV}{t:Bool}(hi:i<n)(hx:a[i]?=some x)(hy:b[i]?=some y)(kM:x.Sm)(xC:y.Sm)(ht:(!t)=true↔x=y)(more:bE prog Bs 26):bE prog Bs 26:=
 .lt 14 i n true (aB hi)::.c9 Tryz.f20 19 0 n i 30 hi k_::.ld Tryz.f20 20 33 0 (i*30) (.view (cE a)) x.v rfl (sj hx) k_::.c9 Tryz.f20 23 1 n i 30 hi k_::.ld Tryz.f20 24 33 1 (i*30) (.view (cE b)) y.v rfl (sj hy) k_::
  .step 25 (av Tryz.f20 25) [x.v,y.v] [] (.bool t) [] (Fk (neg:=false) k_ x y kM xC ht)::more
theorem aDN{n i:Nat}{x:RV}(hi:i<n)(hx:a[i]?=some x)(hy:b[i]?=some x)(kM:x.Sm)(h63:n<9223372036854775807):
  ah prog Bs 26 (aE (af Tryz.f20 0)) (DX n i) (wh a b) 2 ⟨.normal,DX n (i+1),wh a b,2⟩:=
 aA (svS (t:=false) hi hx hy kM kM s_ [.sum 16 i 1 (i+1) rfl o_])
theorem aP5{n i:Nat}{x y:RV}(hi:i<n)(hx:a[i]?=some x)(hy:b[i]?=some y)(kM:x.Sm)(xC:y.Sm)(aU:x≠y):
  ah prog Bs 26 (aE (af Tryz.f20 0)) (DX n i) (wh a b) 2 ⟨.ret,[(4,.bool false)],wh a b,2⟩:=
 aA (svS (t:=true) hi hx hy kM xC (by simp[aU]) [])
theorem aP6{n:Nat}:ah prog Bs 26 (aE (af Tryz.f20 0)) (DX n n) (wh a b) 2 ⟨.exit 0,[],wh a b,2⟩:=
 aA [.lt 14 n n false s_]
theorem aDO(ha:∀ x∈a,x.Sm)(hb:∀ x∈b,x.Sm)(h63:a.length<9223372036854775807):cD prog 20 [.r a.length (cE a),.r b.length (cE b)] (.bool (decide (a=b))):=by
 have ay:([aP.r a.length (cE a),.r b.length (cE b)].all aP.ok)=true:=by simp only[dG,fB,aP.ok,gU gh,jk]
 by_cases hl:a.length=b.length
 ·rcases Du a b hl with h|⟨e,x,y,h1,h2,h3,h4⟩
  ·rw[aB h];subst h;have lo:∀ B:aa,ah prog B 26 (.block 0 (af Tryz.f20 0)) (DX a.length 0) (wh a a) 2 ⟨.normal,[],wh a a,2⟩:=λB=>
    bO (id:=0) (ch a.length (λi=>DX a.length i) (λ_=>wh a a) (λi k _=>Iff.rfl) (λi hi=>by have hx:a[i]?=some a[i]:=bd hi;exact aDN hi hx hx (ha _ (dS hi)) h63) aP6 n_)
   exact dV func20 ay 26 (λw=>[.rw 10 _ (.bool false) (tK (x:=a.length) (y:=a.length) s_),.code 0 _ _ _ _ _ (lo _)])
  ·have bZ:a≠b:=λh=>by subst h;rw[h1]at h2;injection h2 with h2;exact h3 h2
   rw[aJ bZ];have al:=(eE.1 h1).1;have lo:∀ B:aa,ah prog B 26 (.block 0 (af Tryz.f20 0)) (DX a.length 0) (wh a b) 2 ⟨.ret,[(4,.bool false)],wh a b,2⟩:=λB=>
    bO (id:=0) (ch e (λi=>DX a.length i) (λ_=>wh a b) (λi k _=>Iff.rfl) (λi hi=>by have hx:a[i]?=some a[i]:=bd o_;have hy:b[i]?=some b[i]:=bd o_;have:=h4 i _ _ hi hx hy;rw[<-this]at hy;exact aDN o_ hx hy (ha _ (dS _)) h63) (aP5 al h1 h2 (ha _ (cQ h1)) (hb _ (cQ h2)) h3) n_)
   have Bp:([aP.r a.length (cE a),.r a.length (cE b)].all aP.ok)=true:=by simp only[dG,fB,aP.ok,gU gh,jk]
   rw[<-hl];exact dV func20 Bp 26 (λw=>[.rw 10 _ (.bool false) (tK (x:=a.length) (y:=a.length) s_),.code 0 _ _ _ _ _ (lo _)])
 ·have bZ:a≠b:=λh=>hl (by rw[h]);rw[aJ bZ];exact dV func20 ay 26 (λw=>[.rw 10 _ (.bool true) (tK (x:=a.length) (y:=b.length) (aB hl))])
end
section
variable{Bs:aa}{a b:List Int}
def DY(n i:Nat):aV:=[(5,vI i),(0,sl 0 n),(1,sl 1 n)]
def wi(a b:List Int):aH:=[(0,.view (eB a)),(1,.view (eB b))]
theorem neZ{x y:Int}{t:Bool}(h:decide (x≠y)=t):Value.bool (x !=y)=.bool t:=by
 rw[<-h];congr 1
 by_cases e:x=y
 ·subst e;simp
 ·rw[aB e,uu];exact e
noncomputable def siS{n i:Nat}{x y:Int}{t:Bool}(hi:i<n)(hx:a[i]?=some x)(hy:b[i]?=some y)(ht:decide (x≠y)=t)(more:bE prog Bs 26):bE prog Bs 26:=
 .lt 14 i n true (aB hi)::.ix Tryz.f25 19 0 n i hi k_::.ld Tryz.f25 20 3 0 i (.view (eB a)) (iV x) rfl (Pt hx) k_::.ix Tryz.f25 23 1 n i hi k_::.ld Tryz.f25 24 3 1 i (.view (eB b)) (iV y) rfl (Pt hy) k_::.rw 25 _ (.bool t) (neZ ht)::more
theorem aDP{n i:Nat}{x:Int}(hi:i<n)(hx:a[i]?=some x)(hy:b[i]?=some x)(h63:n<9223372036854775807):
  ah prog Bs 26 (aE (af Tryz.f25 0)) (DY n i) (wi a b) 2 ⟨.normal,DY n (i+1),wi a b,2⟩:=
 aA (siS (t:=false) hi hx hy s_ [.sum 16 i 1 (i+1) rfl o_])
theorem aP7{n i:Nat}{x y:Int}(hi:i<n)(hx:a[i]?=some x)(hy:b[i]?=some y)(aU:x≠y):
  ah prog Bs 26 (aE (af Tryz.f25 0)) (DY n i) (wi a b) 2 ⟨.ret,[(4,.bool false)],wi a b,2⟩:=
 aA (siS (t:=true) hi hx hy (aB aU) [])
theorem aP8{n:Nat}:ah prog Bs 26 (aE (af Tryz.f25 0)) (DY n n) (wi a b) 2 ⟨.exit 0,[],wi a b,2⟩:=
 aA [.lt 14 n n false s_]
theorem aDQ(l:List Int):(eB l).all flat=true:=bf.2 λu hu=>by obtain⟨x,_,rfl⟩:=di.1 hu;rfl
theorem aP9(h63:a.length<9223372036854775807):cD prog 25 [.r a.length (eB a),.r b.length (eB b)] (.bool (decide (a=b))):=by
 have ay:([aP.r a.length (eB a),.r b.length (eB b)].all aP.ok)=true:=by simp only[dG,fB,aP.ok,aDQ,jk]
 by_cases hl:a.length=b.length
 ·rcases Du a b hl with h|⟨e,x,y,h1,h2,h3,h4⟩
  ·rw[aB h];subst h;have lo:∀ B:aa,ah prog B 26 (.block 0 (af Tryz.f25 0)) (DY a.length 0) (wi a a) 2 ⟨.normal,[],wi a a,2⟩:=λB=>
    bO (id:=0) (ch a.length (λi=>DY a.length i) (λ_=>wi a a) (λi k _=>Iff.rfl) (λi hi=>by have hx:a[i]?=some a[i]:=bd hi;exact aDP hi hx hx h63) aP8 n_)
   exact dV func25 ay 26 (λw=>[.rw 10 _ (.bool false) (tK (x:=a.length) (y:=a.length) s_),.code 0 _ _ _ _ _ (lo _)])
  ·have bZ:a≠b:=λh=>by subst h;rw[h1]at h2;injection h2 with h2;exact h3 h2
   rw[aJ bZ];have al:=(eE.1 h1).1;have lo:∀ B:aa,ah prog B 26 (.block 0 (af Tryz.f25 0)) (DY a.length 0) (wi a b) 2 ⟨.ret,[(4,.bool false)],wi a b,2⟩:=λB=>
    bO (id:=0) (ch e (λi=>DY a.length i) (λ_=>wi a b) (λi k _=>Iff.rfl) (λi hi=>by have hx:a[i]?=some a[i]:=bd o_;have hy:b[i]?=some b[i]:=bd o_;have:=h4 i _ _ hi hx hy;rw[<-this]at hy;exact aDP o_ hx hy h63) (aP7 al h1 h2 h3) n_)
   have Bp:([aP.r a.length (eB a),.r a.length (eB b)].all aP.ok)=true:=by simp only[dG,fB,aP.ok,aDQ,jk]
   rw[<-hl];exact dV func25 Bp 26 (λw=>[.rw 10 _ (.bool false) (tK (x:=a.length) (y:=a.length) s_),.code 0 _ _ _ _ _ (lo _)])
 ·have bZ:a≠b:=λh=>hl (by rw[h]);rw[aJ bZ];exact dV func25 ay 26 (λw=>[.rw 10 _ (.bool true) (tK (x:=a.length) (y:=b.length) (aB hl))])
end
section
variable{α:Type}[DecidableEq α]
def dd:List α->List α
 |a::b::l=>if a=b then dd (b::l)else a::dd (b::l)
 |l=>l
theorem Lx(a b:α)(l:List α):dd (a::b::l)=if a=b then dd (b::l)else a::dd (b::l):=rfl
theorem aDR:∀(l:List α) (a b:α),dd (l++[a,b])=if a=b then dd (l++[a])else dd (l++[a])++[b]
 |[],a,b=>by
  show(if a=b then[b]else[a,b])=if a=b then[a]else[a]++[b]
  split
  ·rename_i h;rw[h]
  ·rfl
 |[c],a,b=>by
  show(if c=a then(if a=b then[b]else[a,b])else c::(if a=b then[b]else[a,b]))=if a=b then(if c=a then[a]else[c,a])else(if c=a then[a]else[c,a])++[b]
  by_cases h:a=b<;>by_cases k:c=a<;>simp[h,k]
 |c::d::l,a,b=>by
  show(if c=d then dd (d::(l++[a,b]))else c::dd (d::(l++[a,b])))=if a=b then(if c=d then dd (d::(l++[a]))else c::dd (d::(l++[a])))else(if c=d then dd (d::(l++[a]))else c::dd (d::(l++[a])))++[b]
  have ih:=aDR (d::l) a b;rw[EW,EW]at ih;rw[ih];by_cases h:a=b<;>by_cases k:c=d<;>simp[h,k]
theorem P8{l:List α}{j:Nat}{x y:α}(hj:l[j]?=some y)(hx:l[j+1]?=some x):dd (l.take (j+2))=if y=x then dd (l.take (j+1))else dd (l.take (j+1))++[x]:=by
 have e1:l.take (j+1)=l.take j++[y]:=by rw[vV,hj];rfl
 have e2:l.take (j+2)=l.take j++[y,x]:=by rw[vV,hx,e1,Ey];rfl
 rw[e1,e2,aDR]
theorem aDS{x:α}:∀{l:List α},x∈dd l↔x∈l
 |[]=>Iff.rfl
 |[a]=>Iff.rfl
 |a::b::l=>by
  rw[Lx];have ih:=aDS (x:=x) (l:=b::l);split
  ·rename_i h;subst h;rw[ih];simp
  ·rw[cy,ih];simp
def jV(l:List α)(j:Nat):List α:=dd (l.take j)++l.drop (dd (l.take j)).length
def jb(l:List α)(j:Nat):Nat:=(dd (l.take j)).length
theorem P9(l:List α):∀ j,jb l j<=j/\jb l j<=l.length
 |0=>by simp[jb,dd]
 |1=>by
  cases l with
  |nil=>simp[jb,dd]
  |cons a l=>simp[jb,dd]
 |j+2=>by
  have ih:=P9 l (j+1);rcases eC (j+1) l.length with h|h
  ·have hy:l[j]?=some l[j]:=bd o_;have hx:l[j+1]?=some l[j+1]:=bd h;have:=P8 hy hx;unfold jb at ih ⊢;rw[this];split
   ·omega
   ·rw[iJ,vS];omega
  ·have:l.take (j+2)=l.take (j+1):=by rw[kj h,kj o_]
   unfold jb at ih ⊢;rw[this];omega
theorem aDT(l:List α)(j:Nat):(jV l j).length=l.length:=by have:=(P9 l j).2;unfold jb at this;unfold jV;rw[iJ,vg];omega
theorem aDU{l:List α}{j i:Nat}(h:jb l j<=i):(jV l j)[i]?=l[i]?:=by
 unfold jb at h;unfold jV;rw[Ci h,Eh]
 congr 1;omega
theorem Qa{l:List α}{j:Nat}{x:α}(hj:l[j]?=some x)(hx:l[j+1]?=some x):jV l (j+2)=jV l (j+1)/\jb l (j+2)=jb l (j+1):=by unfold jV jb;rw[P8 hj hx,aw rfl];exact⟨rfl,rfl⟩
theorem aDV{l:List α}{j:Nat}{x y:α}(hj:l[j]?=some y)(hx:l[j+1]?=some x)(aU:y≠x)(hd:jb l (j+1)<l.length):(jV l (j+1)).set (jb l (j+1)) x=jV l (j+2)/\jb l (j+2)=jb l (j+1)+1:=by
 unfold jV jb at *;rw[P8 hj hx,ao aU];refine⟨?_,by rw[iJ];rfl⟩;rw[UO _ _ (bh _),ux,iJ,vS,Ey]
 congr 1
 rw[O7 hd];rfl
theorem Wl{l:List α}:∀(j:Nat),(∀ i x,i+1<j->l[i]?=some x->l[i+1]?≠some x)->j<=l.length->dd (l.take j)=l.take j
 |0,_,_=>rfl
 |1,_,_=>by
  cases l with
  |nil=>rfl
  |cons a l=>rfl
 |j+2,h,hl=>by
  have ih:=Wl (j+1) (λi x hi=>h i x o_) o_;have hy:l[j]?=some l[j]:=bd o_;have hx:l[j+1]?=some l[j+1]:=bd o_;rw[P8 hy hx,ao (λe=>h j _ o_ hy (by rw[hx,e])),ih];have e:l.take (j+2)=l.take (j+1)++[l[j+1]]:=by rw[vV,hx];rfl
  exact e.symm
theorem aDW(l:List α):∀ n,n<=l.length->(∀ i x,i+1<n->l[i]?=some x->l[i+1]?≠some x)\/∃ e x,e+1<n/\l[e]?=some x/\l[e+1]?=some x/\∀ i x,i+1<e+1->l[i]?=some x->l[i+1]?≠some x
 |0,_=>.inl λi x h=>by omega
 |1,_=>.inl λi x h=>by omega
 |n+2,hn=>by
  rcases aDW l (n+1) o_ with h|⟨e,x,h1,h2,h3,h4⟩
  ·have hy:l[n]?=some l[n]:=bd o_;have hx:l[n+1]?=some l[n+1]:=bd o_;by_cases he:l[n]=l[n+1]
   ·exact .inr ⟨n,l[n],by omega,hy,by rw[hx,he],h⟩
   ·refine .inl λi x hi AA=>?_;rcases eC (i+1) (n+1)with h1|h1
    ·exact h i x h1 AA
    ·have:i=n:=by omega
     subst this;rw[hy]at AA;injection AA with AA;rw[hx,<-AA];intro e;injection e with e;exact he e.symm
  ·exact .inr ⟨e,x,by omega,h2,h3,h4⟩
theorem aDX{β:Type}[DecidableEq β]{f:α->β}(hf:∀ a b,f a=f b->a=b):∀ l:List α,dd (l.map f)=(dd l).map f
 |[]=>rfl
 |[a]=>rfl
 |a::b::l=>by
  have ih:=aDX hf (b::l);rw[rI,rI,Lx,Lx];rw[rI]at ih;by_cases h:a=b
  ·subst h;rw[aw rfl,aw rfl,ih]
  ·rw[ao h,ao (λe=>h (hf _ _ e)),ih];rfl
end
section
variable{Bs:aa}{l:List RV}
def Ly:RI:=⟨false,[]⟩
def Gf:RN:=⟨Ly,Ly,Ly,Ly,Ly⟩
def sJ:RV:=⟨Gf,Gf,Gf⟩
def Gg(n i:Nat):aV:=[(3,vI i),(0,sl 1 n)]
def lk(l:List RV):aH:=[(1,.row (cE l) 33 30)]
def aQa(k a n:Nat):Value:=.slice (some ⟨k,a*30,some 7⟩) n a
def Lz(n e d k:Nat):aV:=[(5,vI k),(4,aQa 1 e (n-e)),(3,vI d),(0,sl 1 n)]
theorem stV{l:List RV}{i:Nat}{y:RV}(hi:i<l.length):eU prog 33 (cE l) (i*30) y.v=some (cE (l.set i y)):=aLI gh k_ hi
theorem aDY{n i:Nat}{x y:RV}(hi:i+1<n)(h63:n<4611686018427387904)(hy:l[i]?=some y)(hx:l[i+1]?=some x)(xC:y.Sm)(kM:x.Sm)(aU:x≠y):
  ah prog Bs 61 (aE (af f118 0)) (Gg n (i+1)) (lk l) 2 ⟨.normal,Gg n (i+1+1),lk l,2⟩:=
 aA [.lt 13 (i+1) n true (aB hi),.c9 f118 18 1 n (i+1) 30 hi k_,.ld f118 19 33 1 ((i+1)*30) (.row (cE l) 33 30) x.v rfl (sj hx) k_,.eV 22 (i+1) 1 i rfl o_,.c9 f118 23 1 n i 30 o_ k_,.ld f118 24 33 1 (i*30) (.row (cE l) 33 30) y.v rfl (sj hy) k_,.step 25 (av f118 25) [x.v,y.v] [] (.bool false) [] (Fk (neg:=true) k_ x y kM xC (by simp[aU])),.sum 15 (i+1) 1 (i+1+1) rfl o_]
theorem aQb{n:Nat}:ah prog Bs 61 (aE (af f118 0)) (Gg n n) (lk l) 2 ⟨.exit 0,[(0,sl 1 n)],lk l,2⟩:=
 aA [.lt 13 n n false s_]
noncomputable def aDZ{n e k j:Nat}{r:List RV}{x y:RV}{t:Bool}(hk:k+1<n-e)(hj:e+k=j)(h63:n<4611686018427387904)(hy:r[j]?=some y)(hx:r[j+1]?=some x)(xC:y.Sm)(kM:x.Sm)(ht:(!t)=true↔x=y)(more:bE prog Bs 61):bE prog Bs 61:=
 .lt 32 (k+1) (n-e) true (aB hk)::.pD f118 37 1 e (n-e) e (k+1) (j+1) 30 hk o_ k_::.ld f118 38 33 1 ((j+1)*30) (.row (cE r) 33 30) x.v rfl (sj hx) k_::.eV 41 (k+1) 1 k rfl o_::
  .pD f118 42 1 e (n-e) e k j 30 o_ hj k_::.ld f118 43 33 1 (j*30) (.row (cE r) 33 30) y.v rfl (sj hy) k_::.step 44 (av f118 44) [x.v,y.v] [] (.bool t) [] (Fk (neg:=false) k_ x y kM xC ht)::more
theorem aQc{n e k d:Nat}(hl:l.length=n)(hk:e+1+k+1<n)(h63:n<4611686018427387904)(oy:∀ x∈l,x.Sm)(hd:d=jb l (e+1+k+1))(hde:d<=e+1+k):
  ah prog Bs 61 (aE (af f118 2)) (Lz n (e+1) d (k+1)) (lk (jV l (e+1+k+1))) 2 ⟨.normal,Lz n (e+1) (jb l (e+1+k+2)) (k+1+1),lk (jV l (e+1+k+2)),2⟩:=by
 have hy:l[e+1+k]?=some l[e+1+k]:=bd o_;have hx:l[e+1+k+1]?=some l[e+1+k+1]:=bd o_;have N3:(jV l (e+1+k+1))[e+1+k]?=some l[e+1+k]:=by rw[aDU o_];exact hy
 have rR:(jV l (e+1+k+1))[e+1+k+1]?=some l[e+1+k+1]:=by rw[aDU o_];exact hx
 have sy:=oy _ (cQ hy);have sx:=oy _ (cQ hx);by_cases h:l[e+1+k]=l[e+1+k+1]
 ·obtain⟨q1,q2⟩:=Qa hy (by rw[hx,h]);rw[q1,q2,<-hd];exact aA (aDZ (t:=false) o_ rfl h63 N3 rR sy sx (by simp[h]) [.sum 34 (k+1) 1 (k+1+1) rfl o_])
 ·have al:jb l (e+1+k+1)<l.length:=by omega
  obtain⟨q1,q2⟩:=aDV hy hx h al;rw[<-hd]at q1 q2 al;have bJ:=stV (l:=jV l (e+1+k+1)) (i:=d) (y:=l[e+1+k+1]) (by rw[aDT];exact al);rw[q1]at bJ;rw[q2];generalize l[e+1+k+1]=x at *;generalize l[e+1+k]=y at *;generalize jV l (e+1+k+1)=r at *;generalize jV l (e+1+k+2)=r' at *;exact aA (aDZ (t:=true) o_ rfl h63 N3 rR sy sx (by simp;exact λe=>h e.symm) [.pD f118 49 1 (e+1) (n-(e+1)) (e+1) (k+1) (e+1+k+1) 30 o_ o_ k_,.ld f118 50 33 1 ((e+1+k+1)*30) (.row (cE r) 33 30) x.v rfl (sj rR) k_,.c9 f118 51 1 n d 30 o_ k_,.st f118 100051 33 1 (d*30) (.row (cE r) 33 30) x.v (.row (cE r') 33 30) rfl bJ rfl k_,.sum 53 d 1 (d+1) rfl o_,.sum 34 (k+1) 1 (k+1+1) rfl o_])
theorem aQd{n e d:Nat}{r:List RV}(he:e<=n):ah prog Bs 61 (aE (af f118 2)) (Lz n e d (n-e)) (lk r) 2 ⟨.exit 2,[(3,vI d),(0,sl 1 n)],lk r,2⟩:=
 aA [.lt 32 (n-e) (n-e) false s_]
theorem aQe{n e:Nat}{x:RV}(hl:l.length=n)(he:e+1<n)(h63:n<4611686018427387904)(oy:∀ x∈l,x.Sm)(hy:l[e]?=some x)(hx:l[e+1]?=some x)(gF:dd (l.take (e+1))=l.take (e+1)):
  ah prog Bs 61 (.block 2 (af f118 2)) (Lz n (e+1) (e+1) 1) (lk l) 2 ⟨.normal,[(3,vI (dd l).length),(0,sl 1 n)],lk (jV l n),2⟩/\(dd l).length<n:=by
 have h0:jb l (e+1)=e+1:=by unfold jb;rw[gF,jL];omega
 have h1:jb l (e+2)=e+1:=by rw[(Qa hy hx).2,h0]
 have gm:jV l (e+2)=l:=by rw[(Qa hy hx).1];unfold jV;rw[gF];rw[jL,nV o_,Ik]
 have vk:∀ k,e+1+k+1<n->jb l (e+1+k+2)<=jb l (e+1+k+1)+1:=λk hk=>by
  have a:l[e+1+k]?=some l[e+1+k]:=bd o_;have b:l[e+1+k+1]?=some l[e+1+k+1]:=bd o_;by_cases h:l[e+1+k]=l[e+1+k+1]
  ·have:=(Qa a (by rw[b,h])).2;omega
  ·have:=(aDV a b h (by have:=(P9 l (e+1+k+1)).1;omega)).2;omega
 have Eu:∀ k,e+1+k<n->jb l (e+1+k+1)<=e+1+k:=by
  intro k;induction k with
  |zero=>intro _;show jb l (e+2)<=_;omega
  |succ k ih=>
   intro hk;have a:=ih o_;have b:=vk k o_;show jb l (e+1+k+2)<=_;omega
 have ba:jb l n=(dd l).length:=by unfold jb;rw[kj o_]
 refine⟨?_,?_⟩
 ·have:=ch (P:=prog) (B:=Bs) (N:=61) (b:=aE (af f118 2)) (next:=2) (n-(e+1)-1) (λk=>Lz n (e+1) (jb l (e+1+k+1)) (k+1)) (λk=>lk (jV l (e+1+k+1)))
   (r:=⟨.exit 2,[(3,vI (dd l).length),(0,sl 1 n)],lk (jV l n),2⟩) (λi k _=>jP (l:=lk (jV l (e+1+i+1))) (m:=lk (jV l (e+1+0+1))) rfl k)
   (λk hk=>aQc hl o_ h63 oy rfl (Eu k o_))
   (by
    have e1:e+1+(n-(e+1)-1)+1=n:=by omega
    have e2:n-(e+1)-1+1=n-(e+1):=by omega
    simp only[e1,e2,ba];exact aQd o_) n_
  have h2:=bO (id:=2) this;simp only[jZ,jn,h1,gm]at h2;exact h2
 ·have:=Eu (n-(e+1)-1) o_;rw[show e+1+(n-(e+1)-1)+1=n by omega,ba]at this;omega
def IC(l:List RV):List RV:=dd l++List.replicate (l.length-(dd l).length) sJ
theorem aD0{l:List RV}(h:dd l=l):IC l=l:=by unfold IC;rw[h];simp
theorem aQf(oy:∀ x∈l,x.Sm)(h63:l.length<4611686018427387904):xz prog 118 2 [sl 1 l.length] (lk l) [] (sl 1 (dd l).length) (lk (IC l)):=by
 by_cases h2:l.length<2
 ·have hd:dd l=l:=by
   cases l with
   |nil=>rfl
   |cons a l=>cases l with
    |nil=>rfl
    |cons b l=>simp at h2;omega
  rw[aD0 hd,hd];exact ou mixed func118 100 (N:=61) k_ (λ_=>[.lt 8 l.length 2 true (aB h2)]) (λ_=>k_)
 ·have al:(Value.bool (decide ((l.length:Int)<(2:Int))))=.bool false:=by simp;omega
  rcases aDW l l.length (bh _)with h|⟨e,x,h3,h4,h5,h6⟩
  ·have hd:dd l=l:=by have:=Wl l.length h (bh _);rwa[nI]at this
   rw[aD0 hd,hd];generalize hn:l.length=n at *;have lo:∀ B:aa,ah prog B 61 (.block 0 (af f118 0)) (Gg n 1) (lk l) 2 ⟨.normal,[(0,sl 1 n)],lk l,2⟩:=λB=>by
    have:=ch (P:=prog) (B:=B) (N:=61) (b:=aE (af f118 0)) (next:=2) (n-1) (λi=>Gg n (i+1)) (λ_=>lk l) (r:=⟨.exit 0,[(0,sl 1 n)],lk l,2⟩) (λi k _=>Iff.rfl)
     (λi hi=>by have hy:l[i]?=some l[i]:=bd o_;have hx:l[i+1]?=some l[i+1]:=bd o_;exact aDY o_ h63 hy hx (oy _ (cQ hy)) (oy _ (cQ hx)) λe=>h i _ o_ hy (by rw[hx,e]))
     (by rw[show n-1+1=n by omega];exact aQb) n_
    exact bO (id:=0) this
   exact ou mixed func118 100 (N:=61) k_ (λB=>[.rw 8 _ _ al,.code 0 _ _ _ _ _ (lo B)]) (λ_=>k_)
  ·have gF:dd (l.take (e+1))=l.take (e+1):=Wl (e+1) h6 o_;have sx:=oy _ (cQ h4);generalize hn:l.length=n at *;have hz:dc RV.cs (List.replicate (n-(dd l).length) sJ)=(Builtin.zeroCells (sJ.v).cells (n-(dd l).length)).toList:=(aMO gh rfl d_ _).symm;unfold IC;rw[hn];have ct:=λB=>aQe (Bs:=B) hn h3 h63 oy h4 h5 gF;have Nz:=(ct (aa.at default)).2;have FE:jV l n=dd l++l.drop (dd l).length:=by unfold jV;rw[kj o_]
   have aQg:iT (cE (jV l n)) ((dd l).length*30) (Builtin.zeroCells (sJ.v).cells (n-(dd l).length)).toList=cE (dd l++List.replicate (n-(dd l).length) sJ):=by rw[<-hz,FE];show iT (dc RV.cs (dd l++l.drop (dd l).length)) _ _=dc RV.cs _;rw[H6,H6];have:=O8 (dc RV.cs (List.replicate (n-(dd l).length) sJ)) (dc RV.cs (dd l)) (dc RV.cs (l.drop (dd l).length)) 0;rw[tB gh,jn]at this;rw[this];have h2:=UP (dc RV.cs (List.replicate (n-(dd l).length) sJ)) (dc RV.cs (l.drop (dd l).length)) [] (by rw[tB gh,tB gh,vg,Ip,hn]);rw[iY,iY]at h2;rw[h2]
   have hlen:(dd l).length*30+(n-(dd l).length)*(sJ.v).cells.size<=(cE (jV l n)).length:=by rw[tB gh,aDT,hn,show(sJ.v).cells.size=30 from rfl,<-ft];exact e8 _ o_
   generalize jV l n=r at *;generalize (dd l++List.replicate (n-(dd l).length) sJ)=r' at *;generalize (dd l).length=d at *;have lo:∀ B:aa,ah prog B 61 (.block 0 (af f118 0)) (Gg n 1) (lk l) 2 ⟨.ret,[(2,sl 1 d)],lk r',2⟩:=λB=>by
    have:=ch (P:=prog) (B:=B) (N:=61) (b:=aE (af f118 0)) (next:=2) e (λi=>Gg n (i+1)) (λ_=>lk l) (r:=⟨.ret,[(2,sl 1 d)],lk r',2⟩) (λi k _=>Iff.rfl)
     (λi hi=>by have hy:l[i]?=some l[i]:=bd o_;have hx:l[i+1]?=some l[i+1]:=bd o_;exact aDY o_ h63 hy hx (oy _ (cQ hy)) (oy _ (cQ hx)) λe=>h6 i _ o_ hy (by rw[hx,e]))
     (aA [.lt 13 (e+1) n true (aB h3),.c9 f118 18 1 n (e+1) 30 h3 k_,.ld f118 19 33 1 ((e+1)*30) (.row (cE l) 33 30) x.v rfl (sj h5) k_,.eV 22 (e+1) 1 e rfl o_,.c9 f118 23 1 n e 30 o_ k_,.ld f118 24 33 1 (e*30) (.row (cE l) 33 30) x.v rfl (sj h4) k_,.step 25 (av f118 25) [x.v,x.v] [] (.bool true) [] (Fk (neg:=true) k_ x x sx sx s_),.behind f118 28 1 n (e+1) (n-(e+1)) 30 o_ o_ k_,.code 2 _ _ _ _ _ (ct B).1,.behind f118 56 1 n d (n-d) 30 o_ o_ k_,.clear f118 99999 1 (d*30) (n-d) d 33 30 sJ.v (cE r) (cE r') d_ o_ hlen aQg k_,.upto f118 59 1 n d 30 o_ k_]) n_
    exact bO (id:=0) this
   exact ou mixed func118 100 (N:=61) k_ (λB=>[.rw 8 _ _ al,.code 0 _ _ _ _ _ (lo B)]) (λ_=>k_)
end
section
open Go.Shelf
def aD1:Go.Shelf.Ren:=⟨λ| 6=>116|15=>158|14=>157|28=>193|29=>194|20=>185|21=>186|22=>187|23=>188|24=>189|25=>190|26=>191|27=>192|46=>212|47=>213|48=>214|49=>215|50=>216|57=>228|n=>n,λ| 22=>23|24=>33|25=>140|3=>3|39=>118|0=>0|53=>176|55=>105|4=>4|46=>184|45=>183|50=>119|5=>5|9=>9|66=>203|70=>207|76=>219|77=>220|n=>n,λ| n=>n⟩
theorem aQh:Go.Proofs.SlLaysF0.n6 prog aD1:={
 mixed:=by kernel_rfl
 f6:=⟨f116.name,by decide,func116.trans (cI some k_)⟩
 f14:=⟨f157.name,by decide,func157.trans (cI some k_)⟩
 f15:=func158.trans (cI some k_)
 f20:=⟨f185.name,by decide,func185.trans (cI some k_)⟩
 f21:=⟨f186.name,by decide,func186.trans (cI some k_)⟩
 f22:=⟨f187.name,by decide,func187.trans (cI some k_)⟩
 f23:=⟨f188.name,by decide,func188.trans (cI some k_)⟩
 f24:=⟨f189.name,by decide,func189.trans (cI some k_)⟩
 f25:=⟨f190.name,by decide,func190.trans (cI some k_)⟩
 f26:=⟨f191.name,by decide,func191.trans (cI some k_)⟩
 f27:=⟨f192.name,by decide,func192.trans (cI some k_)⟩
 f28:=func193.trans (cI some k_)
 f29:=func194.trans (cI some k_)
 f46:=⟨f212.name,by decide,func212.trans (cI some k_)⟩
 f47:=func213.trans (cI some k_)
 f48:=func214.trans (cI some k_)
 f49:=⟨f215.name,by decide,func215.trans (cI some k_)⟩
 f50:=⟨f216.name,by decide,func216.trans (cI some k_)⟩
 f57:=⟨f228.name,by decide,func228.trans (cI some k_)⟩
 t0:=Tryz.underlying0
 a0:=isAgg0
 z0:=sizeOf0
 v0:=Tryz.zeroValue0
 t3:=Tryz.underlying3
 a3:=isAgg3
 z3:=sizeOf3
 v3:=Tryz.zeroValue3
 t4:=Tryz.underlying4
 a4:=isAgg4
 z4:=sizeOf4
 v4:=Tryz.zeroValue4
 t5:=Tryz.underlying5
 a5:=isAgg5
 z5:=sizeOf5
 v5:=Tryz.zeroValue5
 t9:=Tryz.underlying9
 a9:=isAgg9
 z9:=sizeOf9
 v9:=Tryz.zeroValue9
 t22:=Tryz.underlying23
 a22:=isAgg23
 z22:=sizeOf23
 v22:=Tryz.zeroValue23
 t25:=Tryz.underlying140
 a25:=isAgg140
 z25:=sizeOf140
 v25:=Tryz.zeroValue140
 t39:=Tryz.underlying118
 a39:=isAgg118
 z39:=sizeOf118
 v39:=Tryz.zeroValue118
 t45:=Tryz.underlying183
 a45:=isAgg183
 z45:=sizeOf183
 v45:=Tryz.zeroValue183
 t46:=Tryz.underlying184
 a46:=isAgg184
 z46:=sizeOf184
 v46:=Tryz.zeroValue184
 t50:=Tryz.underlying119
 a50:=isAgg119
 z50:=sizeOf119
 v50:=Tryz.zeroValue119
 t53:=Tryz.underlying176
 a53:=isAgg176
 z53:=sizeOf176
 v53:=Tryz.zeroValue176
 t55:=Tryz.underlying105
 a55:=isAgg105
 z55:=sizeOf105
 v55:=Tryz.zeroValue105
 t66:=Tryz.underlying203
 a66:=isAgg203
 z66:=sizeOf203
 v66:=Tryz.zeroValue203
 t70:=Tryz.underlying207
 a70:=isAgg207
 z70:=sizeOf207
 v70:=Tryz.zeroValue207
 t76:=Tryz.underlying219
 a76:=isAgg219
 z76:=sizeOf219
 v76:=Tryz.zeroValue219
 t77:=Tryz.underlying220
 a77:=isAgg220
 z77:=sizeOf220
 v77:=Tryz.zeroValue220 }
end
section
open CR OF
section
variable{F:Type}[OF F]
def sK(u v:V3 F):Bool:=decide (dU u v≠1)
theorem ID{u v:V3 F}:sK u v=true↔jH u v\/u=v:=by unfold sK jH;rw[BE,<-KO];rcases H3 u v with h|h|h<;>rw[h]<;>decide
theorem aD2(u v w:V3 F)(h:sK u v=true)(k:sK v w=true):sK u w=true:=by
 rw[ID]at *;rcases h with h|rfl
 ·rcases k with k|rfl
  ·exact .inl (KP h k)
  ·exact .inl h
 ·exact k
theorem aQi(u v:V3 F):(sK u v||sK v u)=true:=by
 rw[um,ID,ID];rcases H3 u v with h|h|h
 ·exact .inl (.inl h)
 ·exact .inl (.inr (KO.1 h))
 ·exact .inr (.inl (KQ h))
theorem aQj{u v:V3 F}(h:sK u v=true)(k:sK v u=true):u=v:=by
 rw[ID]at h k;rcases h with h|h
 ·rcases k with k|k
  ·exact absurd (OW h k) id
  ·exact k.symm
 ·exact h
def qY(l:List (V3 F)):List (V3 F):=l.mergeSort sK
theorem LA(l:List (V3 F)):(qY l).Perm l:=List.mergeSort_perm l sK
theorem aD3(l:List (V3 F)):(qY l).Pairwise λu v=>sK u v=true:=List.pairwise_mergeSort aD2 aQi l
theorem aQk{l d:List (V3 F)}(hp:d.Perm l)(hs:d.Pairwise λu v=>sK u v=true):d=qY l:=
 List.Perm.eq_of_pairwise (λ_ _ _ _=>aQj) hs (aD3 l) (hp.trans (LA l).symm)
theorem aD4{α:Type}[DecidableEq α]:∀(a:α) (l:List α),∃ m,dd (a::l)=a::m
 |a,[]=>⟨[],rfl⟩
 |a,b::l=>by
  rw[Lx];by_cases h:a=b
  ·subst h;rw[aw rfl];exact aD4 a l
  ·rw[ao h];exact⟨_,rfl⟩
theorem aD5[DecidableEq (V3 F)]:∀{l:List (V3 F)},(l.Pairwise λu v=>sK u v=true)->(dd l).Pairwise jH
 |[],_=>aB0
 |[a],_=>aBE ..
 |a::b::l,h=>by
  have h':=(r8.1 h).2;have ih:=aD5 h';rw[Lx];by_cases bZ:a=b
  ·rw[aw bZ];exact ih
  ·rw[ao bZ];refine r8.2 ⟨λx hx=>?_,ih⟩;have al:jH a b:=(ID.1 ((r8.1 h).1 b (aT ..))).resolve_right bZ;obtain⟨m,hm⟩:=aD4 b l;rw[hm]at hx ih;rcases cy.1 hx with rfl|hx
   ·exact al
   ·exact KP al ((r8.1 ih).1 x hx)
theorem aD6[DecidableEq (V3 F)](l:List (V3 F)):dd (qY l)=KR l:=
 OY (aD5 (aD3 l)) (KS l) λx=>by rw[aDS,UG,(LA l).mem_iff]
end
end
section
open V3 (dot ax cL smul)
open Go.Sort (SWO)
theorem aQl{ps:List (HS K)}{p q:HS K}{m:Nat}(bW:∀ p∈ps,bo m p)(hp:bo m p)(hq:bo m q)(lH:dX p q≠0->dot (dX p q) (dX p q)≠0):∀ v∈qS ps p q,aF (10000*(m+10)) v:=by
 intro v hv;unfold qS FN at hv;have hD:=UX hp hq;by_cases h0:dX p q=0
 ·rw[aw h0]at hv;cases hv
 ·rw[ao h0]at hv;obtain⟨r,hr⟩:∃ r,r=300*m+1000:=⟨_,rfl⟩;have hB:aF r (vW p q):=hr▸aCf hp hq h0 (lH h0);have FO:aF r (dX p q):=hD.mono o_;obtain⟨zl,zh⟩:=Pg (m:=m) (q:=r) (z:=24*(m+r)+m+200) hB FO o_ ps ⟨none,none⟩ bW n_ n_;have key:∀ t,Sz (24*(m+r)+m+200) t->aF (10000*(m+10)) (vW p q+smul (dX p q) t):=λt ht=>(hB.add (FO.smul ht)).mono o_;unfold K0 at hv;split at hv
  ·rename_i x y he;split at he
   ·split at he
    ·rename_i l h e1 e2;injection he with he;injection he with f1 f2;subst f1;subst f2;simp only[cy,jh,ji]at hv;rcases hv with rfl|rfl
     ·exact key _ (zl _ e1)
     ·exact key _ (zh _ e2)
    ·cases he
   ·cases he
  ·cases hv
theorem aD7{ps:List (HS K)}{m:Nat}(bW:∀ p∈ps,bo m p)(lH:∀ p q:HS K,dX p q≠0->dot (dX p q) (dX p q)≠0)(n:Nat):∀ v∈mR ps n,aF (10000*(m+10)) v:=by
 intro v hv;unfold mR at hv;rw[BF]at hv;obtain⟨i,_,hv⟩:=hv;unfold K6 at hv;split at hv
 ·rename_i p hp;unfold lg at hv;rw[BF]at hv;obtain⟨q,hq,hv⟩:=hv;exact aQl bW (bW p (cQ hp)) (bW q (Ia hq)) (lH p q) v hv
 ·cases hv
structure VS(m:Nat) where
 v:V3 K
 sz:aF m v
theorem VS.ext'{m:Nat}{a b:VS m}(h:a.v=b.v):a=b:=by cases a;cases b;cases h;rfl
def Qb{m:Nat}(v:VS m):aj:=(cC v.v).cs
theorem Wm{m:Nat}:qM (Qb (m:=m)) 30:=⟨λ_=>gh.len _,λ_=>gh.flat _,λ_=>gh.one _⟩
theorem Wn{m:Nat}(h:1<=m):aF m (⟨kI 0,kI 0,kI 0⟩:V3 K):=KT.mono h
def LB{m:Nat}(u v:VS m):Bool:=Go.Proofs.ltOf (λa b:VS m=>dU a.v b.v) u v
theorem Wo{m:Nat}{u v:VS m}:LB u v=true↔jH u.v v.v:=by show decide (dU u.v v.v<0)=true↔dU u.v v.v=-1;rw[BE];rcases H3 u.v v.v with h|h|h<;>rw[h]<;>decide
theorem aD8{m:Nat}{u v:VS m}:LB u v=false↔sK v.v u.v=true:=by
 rw[Bool.eq_false_iff,ne_eq,Wo,ID];rcases H3 u.v v.v with h|h|h
 ·exact⟨λk=>absurd h k,λk _=>by
   rcases k with k|k
   ·exact OW h k
   ·rw[k]at h;exact Dl _ h⟩
 ·have:=KO.1 h;exact⟨λ_=>.inr this.symm,λ_ k=>by rw[this]at k;exact Dl _ k⟩
 ·exact⟨λ_=>.inl (KQ h),λ_ k=>OW k (KQ h)⟩
theorem aQm{m:Nat}:SWO (LB (m:=m)) where
 irrefl x:=by rw[Bool.eq_false_iff,ne_eq,Wo];exact Dl _
 trans x y z h k:=by rw[Wo]at *;exact KP h k
 ntrans x y z h k:=by rw[aD8]at *;exact aD2 _ _ _ k h
theorem aQn{f:FuncId}(h:gk prog f=true):∀ args w,(callFunc f args).run prog w=.ok (.enter f args) w:=λargs w=>Mt h args w
def IE:Value:=.func (.func 117) #[] #[]
theorem aQo{m:Nat}(cW:1<=m)(hm:8*m+24<=aC)(l:List (VS m))(h63:l.length<4611686018427387904):
  letI:Inhabited (VS m):=⟨⟨_,Wn cW⟩⟩
  aCA prog 116 IE Qb 30 LB l:=by
 letI:Inhabited (VS m):=⟨⟨_,Wn cW⟩⟩
 intro aI cap w hH hblk
 have:=Go.Proofs.AnyQ.slices_SortFunc (P:=prog) (ρ:=aD1) aQh 30 isAgg33 sizeOf33 (Qb (m:=m)) Wm.len Wm.one (λa b=>dU a.v b.v) aQm 117 #[] aI 0 cap l.toArray w
  (aQn k_) (aMH (λx y=>UI x.sz y.sz o_) aI _ _ w) hH hblk (by simpa using h63)
 have e:l.toArray.size=l.length:=by simp
 rw[e]at this;exact this
theorem aQp:aD prog 185 [.slice none 0 0,vI 0,vI 0,IE] (.tuple #[]):=aK func185 (λ_=>[])
theorem aQq:aD prog 157 [.slice none 0 0,vI 0,vI 0,vI 0,IE] (.tuple #[]):=aK func157 (λ_=>[aQp.at 30])
theorem aQr:aD prog 194 [.int .u64 0] (vI 0):=aK func194 (λ_=>[])
theorem aQs:aD prog 158 [.int .u64 0] (vI 0):=aK func158 (λ_=>[aQr.at 7])
theorem aQt:aD prog 116 [.slice none 0 0,IE] (.tuple #[]):=aK func116 (λ_=>[aQs.at 11,aQq.at 13])
theorem aQu{Bs:aa}{l:List (V3 K)}{m:Nat}(cW:1<=m)(hm:8*m+24<=aC)(hl:∀ v∈l,aF m v)(h63:l.length<4611686018427387904){o:Oper}{x:Operand}(ho:dp o.op=some x)(k:Nat):
  cA prog Bs o [.func (.func 116) #[] #[],sl k l.length,IE] [(k,some (.row (aR l) 33 30))] (.tuple #[]) [(k,.row (aR (qY l)) 33 30)]:=by
 letI:Inhabited (VS m):=⟨⟨_,Wn cW⟩⟩
 have hex:∀ l:List (V3 K),(∀ v∈l,aF m v)->∃ l2:List (VS m),l2.map VS.v=l:=by
  intro l;induction l with
  |nil=>exact λ_=>⟨[],rfl⟩
  |cons a l ih=>
   intro h;obtain⟨l2,h2⟩:=ih λv hv=>h v (bB _ hv);exact⟨⟨a,h a (aT ..)⟩::l2,by rw[rI,h2]⟩
 obtain⟨l2,h2⟩:=hex l hl;obtain⟨l3,h3⟩:=hex (qY l) λv hv=>hl v ((LA l).mem_iff.1 hv);have Uy:∀ a b:VS m,a.v=b.v->a=b:=λa b h=>VS.ext' h;have jm:∀ l2:List (VS m),dc Qb l2=aR (l2.map VS.v):=by intro l2;unfold aR cE dc;rw[SC,List.flatMap_map];rfl
 have hlen:l2.length=l.length:=by rw[<-h2,ek]
 have:=aMJ (P:=prog) (B:=Bs) (l:=l2) (l':=l3) (o:=o) (x:=x) (ty:=33) (lt:=LB) (g:=IE) Wm d_ (aQo cW hm l2 o_) k_ ho k_ k (λ_=>aQt) λd hd hs=>by
  have aQv:∀ a b:List (VS m),a.map VS.v=b.map VS.v->a=b:=by intro a b h;exact List.map_inj_right (λx y=>Uy x y) |>.1 h
  refine aQv _ _ ?_;rw[h3];refine aQk ?_ ?_
  ·rw[<-h2];exact hd.map _
  ·rw[List.pairwise_map,Qc];intro i j hi hj mw;have:=hs i j mw hj _ _ (bd hi) (bd hj);exact aD8.1 this
 rw[jm,jm,h2,h3,hlen]at this;exact this
theorem Wp{m:Nat}(hm:10000000*(m+10)<=aC):1<=10000*(m+10)/\8*(10000*(m+10))+24<=aC/\10000*(m+10)<=aC:=by omega
def bT(ps:List (HS K)):List (V3 K):=KR (mR ps ps.length)
theorem aD9(l:List (V3 K)):dd (l.map cC)=(dd l).map cC:=aDX (λ_ _ h=>OZ h) l
theorem aQw{ps:List (HS K)}{m:Nat}(bW:∀ p∈ps,bo m p)(hm:10000000*(m+10)<=aC)(h63:ps.length<=500)(lH:∀ p q:HS K,dX p q≠0->dot (dX p q) (dX p q)≠0):
  lL prog 73 [fC ps] 33 30 (bT ps).length (aR (bT ps)):=by
 have ay:([fC ps].all aP.ok)=true:=by simp only[dG,fB,fC,aP.ok,cZ,jk]
 have bA:=aD7 bW lH ps.length;have hl:=Pm ps.length (bh _) (ps:=ps);have jw:ps.length*(2*ps.length)<=500*1000:=yN o_ o_;have lj:(mR ps ps.length).length<=500000:=dh hl jw;clear hl jw;have lo:=λBs=>aMu (Bs:=Bs) bW hm h63 lH;have hv:bT ps=dd (qY (mR ps ps.length)):=(aD6 _).symm;rw[hv];generalize mR ps ps.length=l at *;obtain⟨b1,b2,b3⟩:=Wp hm;have st:=λBs (o:Oper) x ho=>aQu (Bs:=Bs) (o:=o) (x:=x) (l:=l) (m:=10000*(m+10)) b1 b2 bA (eW lj d_) ho 1;have hp:=LA l;have xM:(qY l).length=l.length:=hp.length_eq;have dy:=aQf (l:=(qY l).map cC) (λx hx=>by obtain⟨v,hv,rfl⟩:=di.1 hx;exact(bA v (hp.mem_iff.1 hv)).sm b3) (by rw[ek,xM];exact eW lj d_)
 rw[ek,xM,aD9,ek]at dy;have hz:∃ t,cE (IC ((qY l).map cC))=aR (dd (qY l))++cE t:=⟨_,by unfold IC;rw[aD9];exact H6 _ _⟩;obtain⟨t,hz⟩:=hz;unfold lk at dy;rw[hz]at dy;change xz prog _ 2 _ [(1,.row (aR (qY l)) 33 30)] _ _ _ at dy;have hlen:(aR (dd (qY l))).length=(dd (qY l)).length*30:=su _;generalize dd (qY l)=d at *;generalize hS:qY l=s at *;intro w vs ct;obtain⟨ι,c,h1,h2,h3,h4,h5,h6,h7⟩:=vK ct (bf.1 ay) 0 _ _ (qB w) n_ (λ_ _=>rfl);refine rJ (ms:=[(1,.row (aR d++cE t) 33 30)]) (v:=sl 1 d.length) mixed func73 (N:=42) k_ 100 (rs:=[.code 0 _ _ _ _ _ (lo _),.step 39 (av f73 39) _ _ _ _ (st _ _ (.func 116) k_),.step 41 (av f73 41) _ _ _ _ (O5 (args:=[sl 1 l.length]) (ca:=[]) (x:=.func 118) dy k_ k_ k_ k_ ?_ ?_ k_ k_ k_ k_)]) k_ h6 h2 h4 h3 λau bY v' w' hle hc hm dz=>⟨v',rfl,?_,hm.base⟩
 ·show((Nat.blt 1 2&&oq 2 (1,.row (aR s) 33 30))&&true)=true;rw[zy (x:=.row (aR s) 33 30) λv hv=>bf.1 (dW s) v hv];rfl
 ·show(oq 2 (1,.row (aR d++cE t) 33 30)&&true)=true;rw[zy (x:=.row (aR d++cE t) 33 30) λv hv=>(dY.1 hv).elim (λh=>bf.1 (dW d) v h) λh=>KY gh t v h];rfl
 ·have:=vo hm (dz (1,_) (aT ..)) hc (by rw[iJ];omega) λv hv=>by
   rcases dY.1 hv with h|h
   ·exact bf.1 (dW d) v h
   ·exact KY gh t v h
  rwa[<-hlen,Rj]at this;rfl
end
section
open V3 (dot ax cL smul)
theorem IF(l:List Nat):∀ v∈ai l,v.oneCell'=true:=λv hv=>by obtain⟨x,_,rfl⟩:=di.1 hv;rfl
theorem aQx(l m:List Nat):ai l++ai m=ai (l++m):=by simp[ai]
theorem Qd{l:List Nat}(h:l.length=0):ai l=[]:=by rw[lq h];rfl
def Gh(l:List Nat):aP:=.r l.length (ai l)
theorem Wq(l:List Nat):(Gh l).ok=true:=gV l
theorem aQy{l:List Nat}(hl:0<l.length)(h63:l.length<=1000000):lL prog 166 [Gh l] 3 1 l.length (ai l):=
 zg (k:=2) mixed func166 (by simp only[dG,fB,Wq,jk]) 100 (N:=8) k_ (λ_=>[.step 4 (av f166 4) [sl 0 l.length,.slice none 0 0] [] (.bool false) [] (aCw k_ hl),.Lc f166 5 1 3 1 (vI 0) k_,.pj f166 7 2 1 0 l.length l.length 3 1 8 [] 0 (.view (ai l)) (ai l) o_ rfl (by rw[fZ];exact lM l) rfl rfl (IF l) d_ (by simp[maxLen];omega) o_ k_]) (λ_=>k_) (gV l) (by rw[lM];omega)
theorem Ac(ps:List (HS K)):(aQ ps).length=ps.length*40:=by unfold aQ;rw[tB iD,ek]
theorem aEa(ps:List (HS K)):∀ v∈aQ ps,v.oneCell'=true:=λv hv=>by unfold aQ da dc at hv;rw[BF]at hv;obtain⟨x,_,hx⟩:=hv;exact iD.one x v hx
theorem aEb{ps:List (HS K)}(hl:0<ps.length)(h63:ps.length<=1000000):lL prog 41 [fC ps] 35 40 ps.length (aQ ps):=
 zg (k:=2) mixed func41 (by simp only[dG,fB,fC,aP.ok,cZ,jk]) 100 (N:=8) k_ (λ_=>[.step 4 (av f41 4) [sl 0 ps.length,.slice none 0 0] [] (.bool false) [] (aCw k_ hl),.Lc f41 5 1 35 40 (RP.v ⟨sJ,Gf⟩) k_,.pj f41 7 2 1 0 ps.length ps.length 35 40 480 [] 0 (.view (aQ ps)) (aQ ps) o_ rfl (Ac ps) rfl rfl (aEa ps) d_ (by simp[maxLen];omega) o_ k_]) (λ_=>k_) (cZ ps) (Ac ps)
def nL(l:List Nat)(i:Nat):List Nat:=(List.range l.length).map λt=>if t<i\/l.length<=t+i then l.getD (l.length-1-t) 0 else l.getD t 0
theorem Wr(l:List Nat)(i:Nat):(nL l i).length=l.length:=by simp[nL]
theorem aQz(l:List Nat):nL l 0=l:=by
 apply wQ
 ·simp[nL]
 ·intro t h1 h2;have:¬(l.length<=t):=by omega
  simp[nL,this,h2]
theorem aEc{l:List Nat}{i t:Nat}(h1:i<=t)(h2:t+i<l.length):(nL l i)[t]?=some (l.getD t 0):=by
 have:¬(t<i\/l.length<=t+i):=by omega
 simp[nL,show t<l.length by omega,this]
theorem aQA{l:List Nat}{i:Nat}(h:i+(i+1)<l.length):((nL l i).set i (l.getD (l.length-1-i) 0)).set (l.length-1-i) (l.getD i 0)=nL l (i+1):=by
 apply wQ
 ·simp[nL]
 ·intro t h1 h2;rw[Wr]at h2;rw[GR,GR];simp only[nL,Cp,Cq];by_cases e1:l.length-1-i=t
  ·subst e1;rw[aw rfl,aw o_]
   congr 1;omega
  ·rw[ao e1];by_cases e2:i=t
   ·subst e2;rw[aw rfl,aw o_]
   ·rw[ao e2];by_cases e3:t<i\/l.length<=t+i
    ·rw[aw e3,aw o_]
    ·rw[ao e3,ao o_]
theorem aQB{l:List Nat}{i:Nat}(h:l.length<=i+(i+1))(h2:i+i<=l.length):nL l i=l.reverse:=by
 apply wQ
 ·simp[nL]
 ·intro t h1 h3;rw[Wr]at h1;rw[List.getElem_reverse];simp only[nL,Cp,Cq];split
  ·rw[Ep,bd o_];rfl
  ·have:t=l.length-1-t:=by omega
   rw[Ep,bd o_];simp only[Option.getD_some]
   congr 1
section
variable{Bs:aa}{l:List Nat}
def Qe(n i:Nat):aV:=[(2,vI i),(3,vI (n-1-i)),(0,sl 5 n)]
def xU(l:List Nat):aH:=[(5,.row (ai l) 3 1)]
theorem aQC{n i:Nat}(hn:l.length=n)(hi:i+(i+1)<n)(h63:n<4611686018427387904):
  ah prog Bs 28 (aE (af f167 0)) (Qe n i) (xU (nL l i)) 6 ⟨.normal,Qe n (i+1),xU (nL l (i+1)),6⟩:=by
 have g1:=aEc (l:=l) (i:=i) (t:=n-1-i) o_ o_;have g2:=aEc (l:=l) (i:=i) (t:=i) o_ o_;have hlen:=Wr l i;have vk:=aQA (l:=l) (i:=i) o_;rw[hn]at vk hlen;generalize l.getD (n-1-i) 0=y at *;generalize l.getD i 0=x at *;generalize nL l i=r at *;rw[<-vk];have s1:=v8 (l:=r) (i:=i) (d:=y) o_;have s2:=v8 (l:=r.set i y) (i:=n-1-i) (d:=x) (by rw[Vv];omega);exact aA [.lt 9 i (n-1-i) true (by simp;omega),.ix f167 20 5 n (n-1-i) o_ k_,.ld f167 21 3 5 (n-1-i) (.row (ai r) 3 1) (vI y) rfl (dJ g1) k_,.ix f167 24 5 n i o_ k_,.ld f167 25 3 5 i (.row (ai r) 3 1) (vI x) rfl (dJ g2) k_,.ix f167 26 5 n i o_ k_,.st f167 100026 3 5 i (.row (ai r) 3 1) (vI y) (.row (ai (r.set i y)) 3 1) rfl s1 rfl k_,.ix f167 27 5 n (n-1-i) o_ k_,.st f167 100027 3 5 (n-1-i) (.row (ai (r.set i y)) 3 1) (vI x) (.row (ai ((r.set i y).set (n-1-i) x)) 3 1) rfl s2 rfl k_,.sum 11 i 1 (i+1) rfl o_,.eV 13 (n-1-i) 1 (n-1-(i+1)) o_ o_]
theorem aQD{n:Nat}(hn:l.length=n)(h0:0<n)(h63:n<4611686018427387904):
  ah prog Bs 28 (.block 0 (af f167 0)) (Qe n 0) (xU l) 6 ⟨.normal,[],xU l.reverse,6⟩:=by
 have uK:l.reverse=nL l (n/2):=(aQB o_ o_).symm
 have:=ch (P:=prog) (B:=Bs) (N:=28) (b:=aE (af f167 0)) (next:=6) (n/2) (λi=>Qe n i) (λi=>xU (nL l i)) (r:=⟨.exit 0,[],xU l.reverse,6⟩) (λi k _=>jP (l:=xU (nL l i)) (m:=xU (nL l 0)) rfl k)
  (λi hi=>aQC hn o_ h63)
  (by rw[<-uK];generalize l.reverse=r;exact aA [.lt 9 (n/2) (n-1-n/2) false (by simp;omega)]) n_
 rw[aQz]at this;exact bO (id:=0) this
theorem aQE{l:List Nat}(h0:0<l.length)(h63:l.length<=1000000):xz prog 167 6 [sl 5 l.length] (xU l) [] (.tuple #[]) (xU l.reverse):=
 ou mixed func167 100 (N:=28) k_ (λB=>[.eV 6 l.length 1 (l.length-1) o_ o_,.code 0 _ _ _ _ _ (aQD rfl h0 o_)]) (λ_=>k_)
end
end
end Go.Proofs.YtjjefbkbljlgdaaGreatDoor
