/- Weights of solids: the proof of MeasureWeightsCardSaid (the law's function answers true at every record and all densities it can be given; theorem measureWeights_card, last part), part 4 of 7; no condition. -/
import Derived.Test.YtmocejjfkdcgkaaGreatDoorMW3
namespace Go.Proofs.YtmocejjfkdcgkaaGreatDoor
open Go Go.RowKit Tryz
abbrev e_:=List (V3 K)
abbrev c_:=List (HS K)
variable{i k b size d off cc r k1 n2 k2 a1 m1 m2:Nat}{w w':h_}{ι:Map}{p:HS K}{o:Oper}{c:g_}{f:FuncId}{Bs:aa}{t:Bool}{ps:c_}{ty:TypeId}{xs vs:ak}{u va:i_}{fn:Func}{l:List aR}
theorem aX7{a n:Nat}(ha:a<bz^n)(hb:b<bz^n):a+b<bz^(n+1):=by have h1:bz^n*2<=bz^n*bz:=jK _ d_;rw[dG];omega
theorem Mt{n s:Nat}(hi:i<n)(hd:d=s/bz^i%bz):fo prog 3 (au (eQ bz n i s)) i (vI d)=some (au (eQ bz n (i+1) s)):=by rw[xe (by rw[N8];exact hi),N9 hi hd]
theorem Wq(n s:Nat):List.replicate n (vI 0)=au (eQ bz n 0 s):=by rw[Tf,Mf]
section
variable{Bs:aa}{ka kb n m a b:Nat}
def GN(ka kb n m a b i:Nat):aX:=[(7,vI i),(0,sl ka n),(1,sl kb m),(5,sl 2 (n+1)),(6,vI (e9 bz a b i))]
def CN(ka kb n m a b i:Nat):aL:=[(ka,.view (au (ae bz n a))),(kb,.view (au (ae bz m b))),(2,.row (au (eQ bz (n+1) i (a+b))) 3 1)]
theorem aOp(hk:(ka=0/\kb=1)\/(ka=1/\kb=0))(hi:i<n)(hb:b<bz^m)(h63:n<35184372088832):
  ai prog Bs 55 (aJ (ah f102 0)) (GN ka kb n m a b i) (CN ka kb n m a b i) 3 ⟨.normal,GN ka kb n m a b (i+1),CN ka kb n m a b (i+1),3⟩:=by
 have hx:=iB (B:=bz) d_ a i;have hy:=iB (B:=bz) d_ b i;have hc:=BJ (B:=bz) d_ a b i;have hs:=HQ (B:=bz) d_ a b i;have dp:=Fy (B:=bz) d_ a b i;have bP:=Mt (n:=n+1) (i:=i) (s:=a+b) o_ rfl;have lF:dI prog 3 (au (ae bz n a)) i=some (vI (a/bz^i%bz)):=ev (eP hi);have lR:i<m->dI prog 3 (au (ae bz m b)) i=some (vI (b/bz^i%bz)):=λjW=>ev (eP jW);have lB:¬i<m->b/bz^i%bz=0:=λjW=>rH hb o_ d_;unfold GN CN;generalize au (eQ bz (n+1) (i+1) (a+b))=r1 at *;generalize au (eQ bz (n+1) i (a+b))=r0 at *;generalize au (ae bz n a)=ra at *;generalize au (ae bz m b)=rb at *;generalize e9 bz a b (i+1)=c' at *;generalize e9 bz a b i=c at *;generalize (a+b)/bz^i%bz=z at *;generalize a/bz^i%bz=x at *;generalize b/bz^i%bz=y at *;have e0:x+y+c=c+x+y:=by omega
 have e1:z=(c+x+y)%bz:=by rw[<-hs,e0]
 have e2:c'=(c+x+y)/bz:=by rw[<-dp,e0]
 have ke:bz=16777216:=rfl;by_cases jW:i<m
 ·have lR:=lR jW
  let S:Nat->Nat->bM prog Bs 55:=λka kb=>[.lt 22 i n true (by simp[hi]),.ix f102 28 ka n i hi k_,.ld f102 29 3 ka i (.view ra) (vI x) rfl lF k_,.sum 30 c x (c+x) rfl o_,.lt 34 i m true (by simp[jW]),.ix f102 38 kb m i jW k_,.ld f102 39 3 kb i (.view rb) (vI y) rfl lR k_,.sum 40 (c+x) y (c+x+y) rfl o_,.GK 44 (c+x+y) bz z e1,.ix f102 45 2 (n+1) i o_ k_,.st f102 100045 3 2 i (.row r0 3 1) (vI z) (.row r1 3 1) rfl bP rfl k_,.GL 47 (c+x+y) bz c' e2 o_,.sum 24 i 1 (i+1) rfl o_]
  rcases hk with ⟨rfl,rfl⟩|⟨rfl,rfl⟩
  ·exact aE (S 0 1)
  ·exact aE (S 1 0)
 ·have xO:=lB jW;rw[xO,jf]at e1 e2
  let S:Nat->Nat->bM prog Bs 55:=λka kb=>[.lt 22 i n true (by simp[hi]),.ix f102 28 ka n i hi k_,.ld f102 29 3 ka i (.view ra) (vI x) rfl lF k_,.sum 30 c x (c+x) rfl o_,.lt 34 i m false (by simp[jW]),.GK 44 (c+x) bz z e1,.ix f102 45 2 (n+1) i o_ k_,.st f102 100045 3 2 i (.row r0 3 1) (vI z) (.row r1 3 1) rfl bP rfl k_,.GL 47 (c+x) bz c' e2 o_,.sum 24 i 1 (i+1) rfl o_]
  rcases hk with ⟨rfl,rfl⟩|⟨rfl,rfl⟩
  ·exact aE (S 0 1)
  ·exact aE (S 1 0)
theorem aOq(hk:(ka=0/\kb=1)\/(ka=1/\kb=0))(hb:b<bz^m)(h63:n<35184372088832):
  ai prog Bs 55 (.block 0 (ah f102 0)) (GN ka kb n m a b 0) (CN ka kb n m a b 0) 3 ⟨.normal,GN ka kb n m a b n,CN ka kb n m a b n,3⟩:=
 cd (cA (b:=aJ (ah f102 0)) (r:=⟨.exit 0,GN ka kb n m a b n,CN ka kb n m a b n,3⟩) n (GN ka kb n m a b) (CN ka kb n m a b) (λi k _=>km (l:=CN ka kb n m a b i) (m:=CN ka kb n m a b 0) rfl k) (λi hi=>aOp hk hi hb h63)
  (by rcases hk with ⟨rfl,rfl⟩|⟨rfl,rfl⟩<;>exact aE [.lt 22 n n false s_]) n_)
noncomputable def aDR(hk:(ka=0/\kb=1)\/(ka=1/\kb=0))(hb:b<bz^m)(h63:n<35184372088832)(hs:a+b<bz^(n+1))
  (bP:fo prog 3 (au (eQ bz (n+1) n (a+b))) n (vI (e9 bz a b n))=some (au (ae bz (n+1) (a+b)))):bM prog Bs 55:=
 [.sum 17 n 1 (n+1) rfl o_,.qD f102 18 2 (n+1) 3 8 (vI 0) (au (eQ bz (n+1) 0 (a+b))) (Wq _ _) rfl rfl o_ (by simp[maxLen];omega) k_,.rw 6 (.int .i64 0) (vI (e9 bz a b 0)) (by rw[Ob];rfl),.code 0 _ _ _ _ _ (aOq (ka:=ka) (kb:=kb) (a:=a) hk hb o_),.ix f102 52 2 (n+1) n o_ k_,.st f102 100052 3 2 n (.row (au (eQ bz (n+1) n (a+b))) 3 1) (vI (e9 bz a b n)) (.row (au (ae bz (n+1) (a+b))) 3 1) rfl bP rfl k_,.En f102 54 2 (n+1) (a+b) (.row (au (ae bz (n+1) (a+b))) 3 1) rfl rfl hs o_ k_]
end
theorem aYd{a n:Nat}(ha:a<bz^n)(hb:b<bz^n):fo prog 3 (au (eQ bz (n+1) n (a+b))) n (vI (e9 bz a b n))=some (au (ae bz (n+1) (a+b))):=by have h1:=BJ (B:=bz) d_ a b n;have h2:=Tg ha hb;rw[Mt (B5 n) (by rw[<-h2];exact(dW (fq h1 d_)).symm),HO]
theorem aDS{a:Nat}(h1:nd bz a<35184372088832)(h2:nd bz b<35184372088832):lV prog 102 [jQ a,jQ b] 3 1 (nd bz (a+b)) (cJ (a+b)):=by
 have ha:=ew (B:=bz) d_ a;have hb:=ew (B:=bz) d_ b;have jk:=tE a;have jU:=tE b;have aC:([jQ a,jQ b].all aR.ok)=true:=by simp[Je]
 unfold jQ cJ at aC ⊢;change lV _ _ _ _ _ _ (cJ (a+b));generalize nd bz a=n at *;generalize nd bz b=m at *;by_cases kE:n<m
 ·have gV:=cG ha (df (n:=bz) d_ (show n<=m by omega));have hs:=aX7 hb gV;rw[nG a b]
  exact Mq (k:=2) mixed func102 aC 100 (N:=55) k_ (λw=>(bd.lt 12 n m true (by simp[kE]):bd prog (aa.at w) 55)::aDR (ka:=1) (kb:=0) (a:=b) (b:=a) (.inr ⟨rfl,rfl⟩) ha h2 hs (aYd hb gV))
   (λw=>k_) (iK _) (GM hs) (CM hs)
 ·have gF:=cG hb (df (n:=bz) d_ (show m<=n by omega));have hs:=aX7 ha gF
  exact Mq (k:=2) mixed func102 aC 100 (N:=55) k_ (λw=>(bd.lt 12 n m false (by simp[kE]):bd prog (aa.at w) 55)::aDR (ka:=0) (kb:=1) (a:=a) (b:=b) (.inl ⟨rfl,rfl⟩) hb h1 hs (aYd ha gF))
   (λw=>k_) (iK _) (GM hs) (CM hs)
section
variable{B:Nat}
def qV(B q V c i:Nat):Nat:=(q*(V%B^i)+c)/B^i
theorem aOr(q V c:Nat):qV B q V c 0=c:=by simp[qV,uf]
theorem aDT(hB:0<B)(q V c i:Nat):qV B q V c i+q*(V/B^i%B)=(q*(V%B^(i+1))+c)/B^i:=by unfold qV;rw[pV,pr,<-gi,Nat.add_right_comm,pW _ _ (cP hB)]
theorem aOs(hB:0<B)(q V c i:Nat):(qV B q V c i+q*(V/B^i%B))/B=qV B q V c (i+1):=by rw[aDT hB,ll,<-dG];rfl
theorem aOt(hB:0<B)(q V c i:Nat):(qV B q V c i+q*(V/B^i%B))%B=(q*V+c)/B^i%B:=by
 rw[aDT hB];have h1:=jz V (B^(i+1));have h2:q*V+c=(q*(V%B^(i+1))+c)+q*(V/B^(i+1))*B*B^i:=by
  have e:q*(V/B^(i+1))*B*B^i=q*(B^(i+1)*(V/B^(i+1))):=by rw[dG];simp only[cX,nH,gi]
  rw[e];have h3:q*V=q*(B^(i+1)*(V/B^(i+1)))+q*(V%B^(i+1)):=by rw[<-pr,h1]
  omega
 conv=>rhs;rw[h2]
 rw[pW _ _ (cP hB),DH]
theorem aDU(hB:0<B){q c:Nat}(hq:q<B)(hc:c<=q)(V i:Nat):qV B q V c i<=q:=by
 unfold qV;have hp:0<B^i:=cP hB;have h1:V%B^i<B^i:=cM _ hp;have h2:=jK q (show V%B^i+1<=B^i from h1);rw[pr,gS]at h2;have h3:q*(V%B^i)+c<(q+1)*B^i:=by rw[fQ,pv];omega
 have:=(iP hp).2 h3;omega
theorem aOu{q c V n:Nat}(hV:V<B^n):qV B q V c n=(q*V+c)/B^n:=by unfold qV;rw[dW hV]
theorem aOv(hB:0<B){a:Nat}(ch:b<=a)(i:Nat):
  (a-b)/B^i%B=if a/B^i%B<b/B^i%B+lp B a b i then a/B^i%B+B-b/B^i%B-lp B a b i else a/B^i%B-b/B^i%B-lp B a b i:=by
 rw[<-Tj hB ch i];have hx:=iB hB a i;have hy:=iB hB b i;have hc:=Oc (B:=B) a b i;generalize a/B^i%B=x at *;generalize b/B^i%B=y at *;generalize lp B a b i=c at *;by_cases h:x<y+c
 ·rw[aB h,show x+2*B-y-c=(x+B-y-c)+B by omega,KR,dW o_]
 ·rw[av h,show x+2*B-y-c=(x-y-c)+B+B by omega,KR,KR,dW o_]
def r6(B p x b i k:Nat):Nat:=(p%B^(i+k)+x*(b%B^k)*B^i)/B^(i+k)
theorem aOw{p x:Nat}(hB:0<B):r6 B p x b i 0=0:=by unfold r6;rw[sU,uf,Nat.mul_zero,lP,jf,jf];exact mS (cM _ (cP hB))
theorem aDV(hB:0<B)(p x b i k:Nat):r6 B p x b i k+(p/B^(i+k)%B+x*(b/B^k%B))=(p%B^(i+k+1)+x*(b%B^(k+1))*B^i)/B^(i+k):=by
 unfold r6;rw[<-pW _ _ (cP hB),pV p,pV b]
 congr 1
 rw[pr,fQ,fQ,eR];have:x*(b/B^k%B*B^k)*B^i=x*(b/B^k%B)*(B^i*B^k):=by simp only[cX,nH]
 omega
theorem aOx(hB:0<B)(p x b i k:Nat):(r6 B p x b i k+(p/B^(i+k)%B+x*(b/B^k%B)))/B=r6 B p x b i (k+1):=by rw[aDV hB,ll,<-dG];rfl
theorem aOy(hB:0<B)(p x b i k:Nat):(r6 B p x b i k+(p/B^(i+k)%B+x*(b/B^k%B)))%B=(p+x*b*B^i)/B^(i+k)%B:=by
 rw[aDV hB];have h1:=jz p (B^(i+k+1));have h2:=jz b (B^(k+1));have h3:p+x*b*B^i=(p%B^(i+k+1)+x*(b%B^(k+1))*B^i)+(p/B^(i+k+1)+x*(b/B^(k+1)))*B*B^(i+k):=by
  have e1:(p/B^(i+k+1)+x*(b/B^(k+1)))*B*B^(i+k)=B^(i+k+1)*(p/B^(i+k+1))+x*(B^(k+1)*(b/B^(k+1)))*B^i:=by
   rw[fQ,fQ]
   congr 1
   ·rw[dG];simp only[cX,nH,gi]
   ·rw[dG,eR];simp only[cX,nH,gi]
  have e2:x*b*B^i=x*(B^(k+1)*(b/B^(k+1)))*B^i+x*(b%B^(k+1))*B^i:=by rw[<-fQ,<-pr,h2]
  rw[e1];omega
 conv=>rhs;rw[h3]
 rw[pW _ _ (cP hB),DH]
theorem aDW(hB:0<B){x:Nat}(hx:x<B)(p b i k:Nat):r6 B p x b i k<B:=by
 unfold r6;have hp:0<B^(i+k):=cP hB;rw[iP hp];have h1:p%B^(i+k)<B^(i+k):=cM _ hp;have h2:b%B^k<B^k:=cM _ (cP hB);have h3:x*(b%B^k)*B^i<=x*B^(i+k):=by rw[gi,eR];refine jK _ ?_;rw[cX];exact jK _ (jl h2)
 have h4:=eV (B^(i+k)) (show x+1<=B from hx);rw[fQ,pv]at h4;omega
theorem aOz{p x m:Nat}(hp:p<B^(i+m))(hb:b<B^m):r6 B p x b i m=(p+x*b*B^i)/B^(i+m):=by unfold r6;rw[dW hp,dW hb]
end
section
variable{Bs:aa}{n m a b:Nat}
def GO(n m a b i:Nat):aX:=[(7,vI i),(0,sl 0 n),(1,sl 1 m),(5,sl 2 n),(6,vI (lp bz a b i))]
def AJ(n m a b i:Nat):aL:=[(0,.view (au (ae bz n a))),(1,.view (au (ae bz m b))),(2,.row (au (eQ bz n i (a-b))) 3 1)]
theorem aDX{x y:Int}(h:-4611686018427387904<=x)(h2:x<=4611686018427387903)(h3:-4611686018427387904<=y)(h4:y<=4611686018427387904):IntKind.i64.wrap (x-y)=x-y:=by rw[dh];omega
theorem aOA{x y:Int}(h:-4611686018427387904<=x)(h2:x<=4611686018427387903)(h3:-4611686018427387904<=y)(h4:y<=4611686018427387904):IntKind.i64.wrap (x+y)=x+y:=by rw[dh];omega
theorem aOB(ch:b<=a)(hi:i<n)(hb:b<bz^m)(h63:n<35184372088832):
  ai prog Bs 44 (aJ (ah f104 0)) (GO n m a b i) (AJ n m a b i) 3 ⟨.normal,GO n m a b (i+1),AJ n m a b (i+1),3⟩:=by
 have hx:=iB (B:=bz) d_ a i;have hy:=iB (B:=bz) d_ b i;have hc:=Oc (B:=bz) a b i;have hs:=aOv (B:=bz) d_ ch i;have dp:=Ti (B:=bz) d_ a b i;have bP:=Mt (n:=n) (i:=i) (s:=a-b) hi rfl;have lF:dI prog 3 (au (ae bz n a)) i=some (vI (a/bz^i%bz)):=ev (eP hi);have lR:i<m->dI prog 3 (au (ae bz m b)) i=some (vI (b/bz^i%bz)):=λjW=>ev (eP jW);have lB:¬i<m->b/bz^i%bz=0:=λjW=>rH hb o_ d_;have ke:bz=16777216:=rfl;unfold GO AJ;generalize au (eQ bz n (i+1) (a-b))=r1 at *;generalize au (eQ bz n i (a-b))=r0 at *;generalize au (ae bz n a)=ra at *;generalize au (ae bz m b)=rb at *;generalize lp bz a b (i+1)=c' at *;generalize lp bz a b i=c at *;generalize (a-b)/bz^i%bz=z at *;generalize a/bz^i%bz=x at *;generalize b/bz^i%bz=y at *;have w1:IntKind.i64.wrap ((x:Int)-(c:Int))=(x:Int)-(c:Int):=aDX o_ o_ o_ o_;have w2:IntKind.i64.wrap (((x:Int)-(c:Int))-(y:Int))=(x:Int)-(c:Int)-(y:Int):=aDX o_ o_ o_ o_;have tail:∀ d:Int,d=(x:Int)-c-y->(∃ t,decide (d<0)=t/\(t=true->IntKind.i64.wrap (d+16777216)=(z:Int)/\c'=1)/\(t=false->d=(z:Int)/\c'=0)):=by
  intro d hd;by_cases h:x<y+c
  ·rw[aB h]at hs dp;refine⟨true,aH o_,λ_=>⟨?_,dp.symm⟩,λe=>by cases e⟩;rw[aOA o_ o_ o_ o_];omega
  ·rw[av h]at hs dp;exact⟨false,aP o_,n_,λ_=>⟨by omega,dp.symm⟩⟩
 by_cases jW:i<m
 ·have lR:=lR jW;obtain⟨t,ht,h1,h2⟩:=tail _ rfl;cases t with
  |true=>
   obtain⟨q1,q2⟩:=h1 rfl;subst q2;exact aE [.lt 15 i n true (by simp[hi]),.ix f104 20 0 n i hi k_,.ld f104 21 3 0 i (.view ra) (vI x) rfl lF k_,.wr 23 .i64 ((x:Int)-(c:Int)) _ w1,.lt 27 i m true (by simp[jW]),.ix f104 31 1 m i jW k_,.ld f104 32 3 1 i (.view rb) (vI y) rfl lR k_,.wr 33 .i64 ((x:Int)-(c:Int)-(y:Int)) _ w2,.rw 35 (.bool (decide ((x:Int)-(c:Int)-(y:Int)<0))) b_ (by rw[ht]),.wr 37 .i64 _ (z:Int) q1,.ix f104 41 2 n i hi k_,.st f104 100041 3 2 i (.row r0 3 1) (vI z) (.row r1 3 1) rfl bP rfl k_,.sum 17 i 1 (i+1) rfl o_]
  |false=>
   obtain⟨q1,q2⟩:=h2 rfl;subst q2;exact aE [.lt 15 i n true (by simp[hi]),.ix f104 20 0 n i hi k_,.ld f104 21 3 0 i (.view ra) (vI x) rfl lF k_,.wr 23 .i64 ((x:Int)-(c:Int)) _ w1,.lt 27 i m true (by simp[jW]),.ix f104 31 1 m i jW k_,.ld f104 32 3 1 i (.view rb) (vI y) rfl lR k_,.wr 33 .i64 ((x:Int)-(c:Int)-(y:Int)) (z:Int) (w2.trans q1),.rw 35 (.bool (decide ((z:Int)<0))) a_ (by rw[<-q1,ht]),.ix f104 41 2 n i hi k_,.st f104 100041 3 2 i (.row r0 3 1) (vI z) (.row r1 3 1) rfl bP rfl k_,.sum 17 i 1 (i+1) rfl o_]
 ·have xO:=lB jW;subst xO;obtain⟨t,ht,h1,h2⟩:=tail ((x:Int)-c) o_;cases t with
  |true=>
   obtain⟨q1,q2⟩:=h1 rfl;subst q2;exact aE [.lt 15 i n true (by simp[hi]),.ix f104 20 0 n i hi k_,.ld f104 21 3 0 i (.view ra) (vI x) rfl lF k_,.wr 23 .i64 ((x:Int)-(c:Int)) _ w1,.lt 27 i m false (by simp[jW]),.rw 35 (.bool (decide ((x:Int)-(c:Int)<0))) b_ (by rw[ht]),.wr 37 .i64 _ (z:Int) q1,.ix f104 41 2 n i hi k_,.st f104 100041 3 2 i (.row r0 3 1) (vI z) (.row r1 3 1) rfl bP rfl k_,.sum 17 i 1 (i+1) rfl o_]
  |false=>
   obtain⟨q1,q2⟩:=h2 rfl;subst q2;exact aE [.lt 15 i n true (by simp[hi]),.ix f104 20 0 n i hi k_,.ld f104 21 3 0 i (.view ra) (vI x) rfl lF k_,.wr 23 .i64 ((x:Int)-(c:Int)) (z:Int) (w1.trans q1),.lt 27 i m false (by simp[jW]),.rw 35 (.bool (decide ((z:Int)<0))) a_ (by rw[<-q1,ht]),.ix f104 41 2 n i hi k_,.st f104 100041 3 2 i (.row r0 3 1) (vI z) (.row r1 3 1) rfl bP rfl k_,.sum 17 i 1 (i+1) rfl o_]
theorem aOC(ch:b<=a)(hb:b<bz^m)(h63:n<35184372088832):
  ai prog Bs 44 (.block 0 (ah f104 0)) (GO n m a b 0) (AJ n m a b 0) 3 ⟨.normal,GO n m a b n,AJ n m a b n,3⟩:=
 cd (cA (b:=aJ (ah f104 0)) (r:=⟨.exit 0,GO n m a b n,AJ n m a b n,3⟩) n (GO n m a b) (AJ n m a b) (λi k _=>km (l:=AJ n m a b i) (m:=AJ n m a b 0) rfl k) (λi hi=>aOB ch hi hb h63)
  (aE [.lt 15 n n false s_]) n_)
end
theorem aOD{a:Nat}(ch:b<=a)(h1:nd bz a<35184372088832):lV prog 104 [jQ a,jQ b] 3 1 (nd bz (a-b)) (cJ (a-b)):=by
 have ha:=ew (B:=bz) d_ a;have hb:=ew (B:=bz) d_ b;have aC:([jQ a,jQ b].all aR.ok)=true:=by simp[Je]
 unfold jQ cJ at aC ⊢;change lV _ _ _ _ _ _ (cJ (a-b));generalize nd bz a=n at *;generalize nd bz b=m at *;have hs:a-b<bz^n:=fq (Cg _ _) ha;have lo:=λBs=>aOC (Bs:=Bs) (n:=n) (m:=m) ch hb h1;unfold AJ at lo;rw[HO]at lo;exact Mq (k:=2) mixed func104 aC 100 (N:=44) k_ (λw=>[.qD f104 11 2 n 3 8 (vI 0) (au (eQ bz n 0 (a-b))) (Wq _ _) rfl rfl o_ (by simp[maxLen];omega) k_,.rw 6 (.int .i64 0) (vI (lp bz a b 0)) (by rw[Th];rfl),.code 0 _ _ _ _ _ (lo _),.En f104 43 2 n (a-b) (.row (au (ae bz n (a-b))) 3 1) rfl rfl hs o_ k_])
   (λw=>k_) (iK _) (GM hs) (CM hs)
section
variable{Bs:aa}{n a c:Nat}
def GP(n a c i:Nat):aX:=[(7,vI i),(0,sl 0 n),(5,sl 1 (n+1)),(6,vI (qV bz 2 a c i))]
def CO(n a c i:Nat):aL:=[(0,.view (au (ae bz n a))),(1,.row (au (eQ bz (n+1) i (2*a+c))) 3 1)]
theorem aOE(hc:c<=2)(hi:i<n)(h63:n<35184372088832):
  ai prog Bs 40 (aJ (ah f135 0)) (GP n a c i) (CO n a c i) 2 ⟨.normal,GP n a c (i+1),CO n a c (i+1),2⟩:=by
 have hx:=iB (B:=bz) d_ a i;have gP:=aDU (B:=bz) d_ (q:=2) d_ hc a i;have hs:=aOt (B:=bz) d_ 2 a c i;have dp:=aOs (B:=bz) d_ 2 a c i;have bP:=Mt (n:=n+1) (i:=i) (s:=2*a+c) o_ rfl;have lF:dI prog 3 (au (ae bz n a)) i=some (vI (a/bz^i%bz)):=ev (eP hi);have ke:bz=16777216:=rfl;unfold GP CO;generalize au (eQ bz (n+1) (i+1) (2*a+c))=r1 at *;generalize au (eQ bz (n+1) i (2*a+c))=r0 at *;generalize au (ae bz n a)=ra at *;generalize qV bz 2 a c (i+1)=c' at *;generalize qV bz 2 a c i=g at *;generalize (2*a+c)/bz^i%bz=z at *;generalize a/bz^i%bz=x at *;exact aE [.lt 16 i n true (by simp[hi]),.ix f135 22 0 n i hi k_,.ld f135 23 3 0 i (.view ra) (vI x) rfl lF k_,.tG 24 2 x (2*x) rfl o_,.sum 25 g (2*x) (g+2*x) rfl o_,.GK 29 (g+2*x) bz z hs.symm,.ix f135 30 1 (n+1) i o_ k_,.st f135 100030 3 1 i (.row r0 3 1) (vI z) (.row r1 3 1) rfl bP rfl k_,.GL 32 (g+2*x) bz c' dp.symm o_,.sum 18 i 1 (i+1) rfl o_]
theorem aOF(hc:c<=2)(h63:n<35184372088832):
  ai prog Bs 40 (.block 0 (ah f135 0)) (GP n a c 0) (CO n a c 0) 2 ⟨.normal,GP n a c n,CO n a c n,2⟩:=
 cd (cA (b:=aJ (ah f135 0)) (r:=⟨.exit 0,GP n a c n,CO n a c n,2⟩) n (GP n a c) (CO n a c) (λi k _=>km (l:=CO n a c i) (m:=CO n a c 0) rfl k) (λi hi=>aOE hc hi h63)
  (aE [.lt 16 n n false s_]) n_)
end
theorem aOG{a c:Nat}(hc:c<=1)(h1:nd bz a<35184372088832):lV prog 135 [jQ a,.p (vI c)] 3 1 (nd bz (2*a+c)) (cJ (2*a+c)):=by
 have ha:=ew (B:=bz) d_ a;have aC:([jQ a,aR.p (vI c)].all aR.ok)=true:=by simp[Je];rfl
 unfold jQ cJ at aC ⊢;change lV _ _ _ _ _ _ (cJ (2*a+c));generalize nd bz a=n at *;have hs:2*a+c<bz^(n+1):=by have h1:bz^n*2<=bz^n*bz:=jK _ d_;rw[dG];omega
 have bP:fo prog 3 (au (eQ bz (n+1) n (2*a+c))) n (vI (qV bz 2 a c n))=some (au (ae bz (n+1) (2*a+c))):=by have h1:=aDU (B:=bz) d_ (q:=2) d_ (show c<=2 by omega) a n;have h2:=aOu (B:=bz) (q:=2) (c:=c) ha;have ke:bz=16777216:=rfl;rw[Mt (B5 n) (by rw[<-h2];exact(dW o_).symm),HO]
 exact Mq (k:=1) mixed func135 aC 100 (N:=40) k_ (λw=>[.sum 10 n 1 (n+1) rfl o_,.qD f135 11 1 (n+1) 3 8 (vI 0) (au (eQ bz (n+1) 0 (2*a+c))) (Wq _ _) rfl rfl o_ (by simp[maxLen];omega) k_,.rw 6 (vI c) (vI (qV bz 2 a c 0)) (by rw[aOr]),.code 0 _ _ _ _ _ (aOF (a:=a) (c:=c) o_ h1),.ix f135 37 1 (n+1) n o_ k_,.st f135 100037 3 1 n (.row (au (eQ bz (n+1) n (2*a+c))) 3 1) (vI (qV bz 2 a c n)) (.row (au (ae bz (n+1) (2*a+c))) 3 1) rfl bP rfl k_,.En f135 39 1 (n+1) (2*a+c) (.row (au (ae bz (n+1) (2*a+c))) 3 1) rfl rfl hs o_ k_])
   (λw=>k_) (iK _) (GM hs) (CM hs)
section
variable{Bs:aa}{n m a b:Nat}
def xg(n m a b i k:Nat):ak:=au (dc bz (n+m) (i+k) (part bz a b (i+1) 0) (part bz a b i 0))
def Ep(n m a b i k:Nat):aX:=[(8,vI k),(7,vI (r6 bz (part bz a b i 0) (a/bz^i%bz) b i k)),(6,vI i),(0,sl 0 n),(1,sl 1 m),(5,sl 2 (n+m))]
def AK(n m a b i k:Nat):aL:=[(0,.view (au (ae bz n a))),(1,.view (au (ae bz m b))),(2,.row (xg n m a b i k) 3 1)]
theorem Wr(i:Nat):part bz a b (i+1) 0=part bz a b i 0+a/bz^i%bz*b*bz^i:=by
 rw[Dp,Dp,pV,fQ]
 congr 1
 simp only[cX,nH]
theorem aDY(hb:b<bz^m):part bz a b i 0<bz^(i+m):=by rw[Dp,eR];exact qE (cM _ (cP d_)) hb
theorem aOH(hi:i<n)(hk:k<m)(h63:n+m<35184372088832):
  ai prog Bs 63 (aJ (ah f105 2)) (Ep n m a b i k) (AK n m a b i k) 3 ⟨.normal,Ep n m a b i (k+1),AK n m a b i (k+1),3⟩:=by
 have hx:=iB (B:=bz) d_ a i;have hy:=iB (B:=bz) d_ b k;have hr:=iB (B:=bz) d_ (part bz a b i 0) (i+k);have gP:=aDW (B:=bz) d_ hx (part bz a b i 0) b i k;have hs:=aOy (B:=bz) d_ (part bz a b i 0) (a/bz^i%bz) b i k;rw[<-Wr]at hs;have dp:=aOx (B:=bz) d_ (part bz a b i 0) (a/bz^i%bz) b i k;have lF:dI prog 3 (au (ae bz n a)) i=some (vI (a/bz^i%bz)):=ev (eP hi);have lR:dI prog 3 (au (ae bz m b)) k=some (vI (b/bz^k%bz)):=ev (eP hk);have hlr:dI prog 3 (xg n m a b i k) (i+k)=some (vI (part bz a b i 0/bz^(i+k)%bz)):=ev (Dn o_ (bC _));have bP:fo prog 3 (xg n m a b i k) (i+k) (vI (part bz a b (i+1) 0/bz^(i+k)%bz))=some (xg n m a b i (k+1)):=by unfold xg;rw[xe (by rw[xM];omega),zF o_ rfl];rfl
 have ke:bz=16777216:=rfl;unfold Ep AK;generalize xg n m a b i (k+1)=r1 at *;generalize xg n m a b i k=r0 at *;generalize au (ae bz n a)=ra at *;generalize au (ae bz m b)=rb at *;generalize r6 bz (part bz a b i 0) (a/bz^i%bz) b i (k+1)=c' at *;generalize r6 bz (part bz a b i 0) (a/bz^i%bz) b i k=g at *;generalize part bz a b (i+1) 0/bz^(i+k)%bz=z at *;generalize part bz a b i 0/bz^(i+k)%bz=r at *;generalize a/bz^i%bz=x at *;generalize b/bz^k%bz=y at *;have kU:x*y<bz*bz:=qE hx hy;rw[ke]at kU;generalize hp:x*y=p at *;exact aE [.lt 24 k m true (by simp[hk]),.sum 31 i k (i+k) rfl o_,.ix f105 32 2 (n+m) (i+k) o_ k_,.ld f105 33 3 2 (i+k) (.row r0 3 1) (vI r) rfl hlr k_,.ix f105 36 0 n i hi k_,.ld f105 37 3 0 i (.view ra) (vI x) rfl lF k_,.ix f105 40 1 m k hk k_,.ld f105 41 3 1 k (.view rb) (vI y) rfl lR k_,.tG 42 x y p hp.symm o_,.sum 43 r p (r+p) rfl o_,.sum 44 g (r+p) (g+(r+p)) rfl o_,.sum 48 i k (i+k) rfl o_,.GK 50 (g+(r+p)) bz z hs.symm,.ix f105 51 2 (n+m) (i+k) o_ k_,.st f105 100051 3 2 (i+k) (.row r0 3 1) (vI z) (.row r1 3 1) rfl bP rfl k_,.GL 53 (g+(r+p)) bz c' dp.symm o_,.sum 26 k 1 (k+1) rfl o_]
theorem aOI(hi:i<n)(h63:n+m<35184372088832):
  ai prog Bs 63 (.block 2 (ah f105 2)) (Ep n m a b i 0) (AK n m a b i 0) 3 ⟨.normal,Ep n m a b i m,AK n m a b i m,3⟩:=
 cd (id:=2) (cA (b:=aJ (ah f105 2)) (r:=⟨.exit 2,Ep n m a b i m,AK n m a b i m,3⟩) m (Ep n m a b i) (AK n m a b i) (λk j _=>km (l:=AK n m a b i k) (m:=AK n m a b i 0) rfl j) (λk hk=>aOH hi hk h63)
  (aE [.lt 24 m m false s_]) n_)
def Er(n m a b i:Nat):ak:=au (ae bz (n+m) (part bz a b i 0))
def GQ(n m i:Nat):aX:=[(6,vI i),(0,sl 0 n),(1,sl 1 m),(5,sl 2 (n+m))]
def AL(n m a b i:Nat):aL:=[(0,.view (au (ae bz n a))),(1,.view (au (ae bz m b))),(2,.row (Er n m a b i) 3 1)]
theorem aOJ(i:Nat):xg n m a b i 0=Er n m a b i:=by unfold xg Er;rw[Wr,jf,Z7 d_]
theorem aOK(hi:i<n)(hb:b<bz^m)(h63:n+m<35184372088832):
  ai prog Bs 63 (aJ (ah f105 0)) (GQ n m i) (AL n m a b i) 3 ⟨.normal,GQ n m (i+1),AL n m a b (i+1),3⟩:=by
 have lo:=aOI (Bs:=Bs) (a:=a) (b:=b) hi h63;unfold Ep AK at lo;rw[aOJ,aOw d_]at lo;have hp:=aDY (a:=a) (i:=i) hb;have gQ:=aDY (a:=a) (i:=i+1) hb;have he:=aOz (x:=a/bz^i%bz) hp hb;rw[<-Wr]at he;have hc:=aDW (B:=bz) d_ (iB (B:=bz) d_ a i) (part bz a b i 0) b i m;have bP:fo prog 3 (xg n m a b i m) (i+m) (vI (r6 bz (part bz a b i 0) (a/bz^i%bz) b i m))=some (Er n m a b (i+1)):=by
  unfold xg Er;have e:i+1+m=i+m+1:=by omega
  rw[e]at gQ;rw[xe (by rw[xM];omega),zF o_ (by rw[he];rw[he]at hc;exact(dW hc).symm),FO d_ (cG hp (df d_ (zq _))) gQ]
 unfold GQ AL;generalize Er n m a b (i+1)=r1 at *;generalize Er n m a b i=r0 at *;generalize xg n m a b i m=r2 at *;generalize r6 bz (part bz a b i 0) (a/bz^i%bz) b i m=c at *;generalize au (ae bz n a)=ra at *;generalize au (ae bz m b)=rb at *;exact aE [.lt 18 i n true (by simp[hi]),.code 2 _ _ _ _ _ lo,.sum 58 i m (i+m) rfl o_,.ix f105 60 2 (n+m) (i+m) o_ k_,.st f105 100060 3 2 (i+m) (.row r2 3 1) (vI c) (.row r1 3 1) rfl bP rfl k_,.sum 20 i 1 (i+1) rfl o_]
theorem aOL(hb:b<bz^m)(h63:n+m<35184372088832):
  ai prog Bs 63 (.block 0 (ah f105 0)) (GQ n m 0) (AL n m a b 0) 3 ⟨.normal,GQ n m n,AL n m a b n,3⟩:=
 cd (cA (b:=aJ (ah f105 0)) (r:=⟨.exit 0,GQ n m n,AL n m a b n,3⟩) n (GQ n m) (AL n m a b) (λk j _=>km (l:=AL n m a b k) (m:=AL n m a b 0) rfl j) (λk hk=>aOK hk hb h63)
  (aE [.lt 18 n n false s_]) n_)
end
theorem Ws{a:Nat}(h63:nd bz a+nd bz b<35184372088832):lV prog 105 [jQ a,jQ b] 3 1 (nd bz (a*b)) (cJ (a*b)):=by
 have ha:=ew (B:=bz) d_ a;have hb:=ew (B:=bz) d_ b;have aC:([jQ a,jQ b].all aR.ok)=true:=by simp[Je]
 unfold jQ cJ at aC ⊢;change lV _ _ _ _ _ _ (cJ (a*b));generalize nd bz a=n at *;generalize nd bz b=m at *;have hs:a*b<bz^(n+m):=by rw[eR];exact qE ha hb
 have lo:=λBs=>aOL (Bs:=Bs) (n:=n) (a:=a) hb h63;unfold AL Er at lo;rw[Dp,Dp,dW ha,sU,uf,lP]at lo;have hz:List.replicate (n+m) (vI 0)=au (ae bz (n+m) 0):=by
  rw[Mf]
  congr 1
  unfold ae;symm;rw[List.eq_replicate_iff];simp
 exact Mq (k:=2) mixed func105 aC 100 (N:=63) k_ (λw=>[.sum 13 n m (n+m) rfl o_,.qD f105 14 2 (n+m) 3 8 (vI 0) (au (ae bz (n+m) 0)) hz rfl rfl o_ (by simp[maxLen];omega) k_,.code 0 _ _ _ _ _ (lo _),.En f105 62 2 (n+m) (a*b) (.row (au (ae bz (n+m) (a*b))) 3 1) rfl rfl hs o_ k_])
   (λw=>k_) (iK _) (GM hs) (CM hs)
theorem yD(cells:ak)(i:Nat){z:Int}(h:cells[i]?=some (.int .u8 z)):dI prog 5 cells i=some (.int .u8 z):=by
 have e:dI prog 5 cells i=cells[i+0]?:=by kernel_rfl
 rw[e,jf,h]
theorem aOM(cells:ak)(i:Nat)(z:Int)(h:i<cells.length):fo prog 5 cells i (.int .u8 z)=some (cells.set i (.int .u8 z)):=by
 have e:fo prog 5 cells i (.int .u8 z)=if(Nat.ble (i+1) cells.length&&true)then some (je cells i [.int .u8 z])else none:=by kernel_rfl
 rw[e,NM h];rfl
section
variable{Bs:aa}{n a:Nat}
def uJ(n a i:Nat):ak:=ik (List.replicate (3*n-i) 0++hJ i a)
def GR(n i:Nat):aX:=[(4,vI i),(0,sl 0 n),(3,sl 1 (3*n))]
def AM(n a i:Nat):aL:=[(0,.view (au (ae bz n a))),(1,.row (uJ n a i) 5 1)]
theorem aON(hi:i<3*n):(uJ n a i).set (3*n-1-i) (vb (a/256^i%256))=uJ n a (i+1):=by
 unfold uJ;rw[xU,show 3*n-i=(3*n-1-i)+1 by omega,show 3*n-(i+1)=3*n-1-i by omega,List.replicate_succ',Fo];generalize 3*n-1-i=k;unfold ik;rw[vf,vf,V0 _ _ s_];simp only[eH,Jg,wI,vf,nE,TI,BX,jg,List.set_cons_zero]
 congr 2
 rw[OB,dW (cM _ d_)];rfl
theorem aOO(i:Nat)(hi:i<=3*n):(uJ n a i).length=3*n:=by unfold uJ;rw[FL,lh,Jg,KP];omega
theorem aOP:a/bz^(i/3)%bz/2^(8*(i%3))%256=a/256^i%256:=by
 have e1:bz^(i/3)=256^(3*(i/3)):=by rw[show bz=256^3 from Jf,<-sV]
 have e2:(2:Nat)^(8*(i%3))=256^(i%3):=by rw[sV]
 have e3:256^i=256^(3*(i/3))*256^(i%3):=by rw[<-eR];congr 1;omega
 rw[e1,e2,e3,<-ll];generalize a/256^(3*(i/3))=c;have e4:bz=256^(i%3)*(256*256^(2-i%3)):=by rw[show bz=256^3 from Jf,<-Nat.pow_succ',<-eR];congr 1;omega
 rw[e4,BO,KG]
theorem aOQ(hi:i<3*n)(h63:n<35184372088832):
  ai prog Bs 45 (aJ (ah f152 0)) (GR n i) (AM n a i) 2 ⟨.normal,GR n (i+1),AM n a (i+1),2⟩:=by
 have hx:=iB (B:=bz) d_ a (i/3);have hb:=aOP (a:=a) (i:=i);have lF:dI prog 3 (au (ae bz n a)) (i/3)=some (vI (a/bz^(i/3)%bz)):=ev (eP o_);have bP:fo prog 5 (uJ n a i) (3*n-1-i) (vb (a/256^i%256))=some (uJ n a (i+1)):=by unfold vb;rw[aOM _ _ _ (by rw[aOO _ o_];omega)];exact cO some (aON hi)
 unfold GR AM;generalize uJ n a (i+1)=r1 at *;generalize uJ n a i=r0 at *;generalize au (ae bz n a)=ra at *;generalize a/256^i%256=z at *;generalize a/bz^(i/3)%bz=x at *;have vW:(x:Int).fdiv (2^(min (8*(i%3)) IntKind.i64.bits))=((x/2^(8*(i%3)):Nat):Int):=by rw[show min (8*(i%3)) IntKind.i64.bits=8*(i%3)from oP (show 8*(i%3)<=64 by omega),sT _ (H8 d_),ug,H9];rfl
 generalize x/2^(8*(i%3))=y at *;exact aE [.lt 12 i (3*n) true (by simp[hi]),.fp 18 (3*n) 1 (3*n-1) o_ o_,.fp 20 (3*n-1) i (3*n-1-i) o_ o_,.GL 23 i 3 (i/3) rfl o_,.ix f152 24 0 n (i/3) o_ k_,.ld f152 25 3 0 (i/3) (.view ra) (vI x) rfl lF k_,.GK 27 i 3 (i%3) rfl,.tG 28 8 (i%3) (8*(i%3)) rfl o_,.shr f152 29 .i64 (x:Int) (y:Int) (8*(i%3)) vW k_,.wr 30 .u8 (y:Int) (z:Int) (by rw[aAR];omega),.ix f152 31 1 (3*n) (3*n-1-i) o_ k_,.st f152 100031 5 1 (3*n-1-i) (.row r0 5 1) (vb z) (.row r1 5 1) rfl bP rfl k_,.sum 14 i 1 (i+1) rfl o_]
theorem Wt(h63:n<35184372088832):ai prog Bs 45 (.block 0 (ah f152 0)) (GR n 0) (AM n a 0) 2 ⟨.normal,GR n (3*n),AM n a (3*n),2⟩:=
 cd (id:=0) (cA (b:=aJ (ah f152 0)) (r:=⟨.exit 0,GR n (3*n),AM n a (3*n),2⟩) (3*n) (GR n) (AM n a) (λk j _=>km (l:=AM n a k) (m:=AM n a 0) rfl j) (λk hk=>aOQ hk h63)
  (aE [.lt 12 (3*n) (3*n) false s_]) n_)
def yE(L i:Nat):aX:=[(3,.slice (some ⟨1,i*1,some 7⟩) (L-i) i)]
def yF(L a:Nat):aL:=[(1,.row (ik (hJ L a)) 5 1)]
theorem Wu{L a:Nat}(h:a<256^L):hJ L a=List.replicate (L-nd 256 a) 0++ct a:=by have hle:=jy (B:=256) d_ h;have:=aAI (n:=nd 256 a) (k:=L-nd 256 a) (ew (B:=256) d_ a);rw[show L-nd 256 a+nd 256 a=L by omega]at this;exact this
theorem aOR{L:Nat}(h:a<256^L)(h0:a≠0)(hi:i<L-nd 256 a)(h63:L<9223372036854775807):
  ai prog Bs 45 (aJ (ah f152 2)) (yE L i) (yF L a) 2 ⟨.normal,yE L (i+1),yF L a,2⟩:=by
 have hp:=vp (B:=256) d_ h0;have jm:dI prog 5 (ik (hJ L a)) i=some (vb 0):=yD _ _ (by rw[Wu h,OE,Kj (by rw[FL];simpa using hi)];simp[ik,hi])
 unfold yE yF;generalize ik (hJ L a)=r0 at *;obtain⟨m,hm⟩:∃ m,L-i=m+1:=⟨L-i-1,by omega⟩;have dH:L-(i+1)=m:=by omega
 rw[hm,dH];have e1:i*1=i:=gS i;exact aE [.gt 34 (m+1) 0 true s_,.qh f152 37 1 i (m+1) i 0 i 1 o_ (jf i) k_,.ld f152 38 5 1 (i*1) (.row r0 5 1) (vb 0) rfl (by rw[e1];exact jm) k_,.fN 39 0 0 true rfl,.next f152 42 1 i m 1 o_ k_]
theorem aOS{L:Nat}(h:a<256^L)(h0:a≠0)(hi:i=L-nd 256 a)(h63:L<9223372036854775807):
  ai prog Bs 45 (aJ (ah f152 2)) (yE L i) (yF L a) 2 ⟨.exit 2,yE L i,yF L a,2⟩:=by
 have hp:=vp (B:=256) d_ h0;have hle:=jy (B:=256) d_ h;obtain⟨c,l,hc,qB⟩:=OC h0;have jm:dI prog 5 (ik (hJ L a)) i=some (vb c.toNat):=yD _ _ (by rw[Wu h,OE,Fg (by rw[FL];simp;omega),FL,hc,hi];simp[ik])
 have aQ:c.toNat≠0:=λe=>qB (Ov.1 e);unfold yE yF;generalize ik (hJ L a)=r0 at *;obtain⟨m,hm⟩:∃ m,L-i=m+1:=⟨L-i-1,by omega⟩;rw[hm];have e1:i*1=i:=gS i;generalize c.toNat=d at *;exact aE [.gt 34 (m+1) 0 true s_,.qh f152 37 1 i (m+1) i 0 i 1 o_ (jf i) k_,.ld f152 38 5 1 (i*1) (.row r0 5 1) (vb d) rfl (by rw[e1];exact jm) k_,.fN 39 d 0 false (aP aQ)]
theorem aOT{L:Nat}(h:a<256^L)(h0:a≠0)(h63:L<9223372036854775807):
  ai prog Bs 45 (.block 2 (ah f152 2)) (yE L 0) (yF L a) 2 ⟨.normal,yE L (L-nd 256 a),yF L a,2⟩:=
 cd (id:=2) (cA (b:=aJ (ah f152 2)) (r:=⟨.exit 2,yE L (L-nd 256 a),yF L a,2⟩) (L-nd 256 a) (yE L) (λ_=>yF L a) (λ_ _ _=>Iff.rfl) (λk hk=>aOR h h0 hk h63)
  (aOS h h0 rfl h63) n_)
end
theorem aOU{n a:Nat}(ha:a<bz^n)(h0:a≠0)(h63:n<35184372088832):cE prog 152 [.r n (au (ae bz n a))] (.string (BA (ct a))):=by
 have hL:a<256^(3*n):=by rw[sV];exact ha
 have Aw:=λBs=>Wt (Bs:=Bs) (a:=a) h63;have wW:=λBs=>aOT (Bs:=Bs) hL h0 o_;have e0:List.replicate (3*n) (vb 0)=uJ n a 0:=by unfold uJ ik;simp[OA,vb]
 have e1:uJ n a (3*n)=ik (hJ (3*n) a):=by unfold uJ;rw[wI];rfl
 have hle:=jy (B:=256) d_ hL;have ht:((ik (hJ (3*n) a)).drop ((3*n-nd 256 a)*1)).take (nd 256 a)=ik (ct a):=by rw[Wu hL,OE,gS,Sv (by rw[FL];simp),kT (by rw[FL,uk];exact bC _)]
 unfold AM at Aw;rw[e1]at Aw;rw[<-e0]at Aw;unfold yF at wW;have hl:3*n-(3*n-nd 256 a)=nd 256 a:=by omega
 unfold yE at wW;rw[hl]at wW;exact jC mixed func152 (by simp[aR.ok,iK]) 100 (N:=45) k_ (λw=>[.tG 7 3 n (3*n) rfl o_,.qD f152 8 1 (3*n) 5 1 (vb 0) (List.replicate (3*n) (vb 0)) rfl rfl rfl o_ (by simp[maxLen];omega) k_,.code 0 _ _ _ _ _ (Aw _),.code 2 _ _ _ _ _ (wW _),.aOo f152 44 1 ((3*n-nd 256 a)*1) (nd 256 a) (3*n-nd 256 a) (ct a) (.row (ik (hJ (3*n) a)) 5 1) rfl ht (uk a) k_]) (λw=>k_) rfl
theorem aOV:cE prog 152 [.r 0 (au (ae bz 0 0))] (.string (BA (ct 0))):=by have Aw:=λBs=>Wt (Bs:=Bs) (a:=0) (n:=0) o_;rw[DF];exact jC mixed func152 (by simp[aR.ok,iK]) 100 (N:=45) k_ (λw=>[.tG 7 3 0 0 rfl o_,.qD f152 8 1 0 5 1 (vb 0) [] rfl rfl rfl o_ (by simp[maxLen]) k_,.code 0 _ _ _ _ _ (Aw _),.gt 34 0 0 false rfl,.TH f152 44 1 0 [] (.row [] 5 1) rfl rfl rfl k_]) (λw=>k_) rfl
noncomputable def Es(Bs:aa)(i m:Nat)(h:0<m)(hl:dI prog 5 (ik (List.replicate 9 0)) (i*1)=some (vb 0)):bM prog Bs 45:=[.gt 34 (m+1) 0 true s_,.qh f152 37 1 i (m+1) i 0 i 1 o_ (jf i) k_,.ld f152 38 5 1 (i*1) (.row (ik (List.replicate 9 0)) 5 1) (vb 0) rfl hl k_,.fN 39 0 0 true rfl,.next f152 42 1 i m 1 h k_]
theorem aOW:cE prog 152 [.r 3 (au (ae bz 3 0))] (.string (BA (ct 0))):=by
 have Aw:=λBs=>Wt (Bs:=Bs) (a:=0) (n:=3) o_;rw[DF];exact jC mixed func152 (by simp[aR.ok,iK]) 300 (N:=45) k_ (λw=>[.tG 7 3 3 9 rfl o_,.qD f152 8 1 9 5 1 (vb 0) (List.replicate 9 (vb 0)) rfl rfl rfl o_ (by simp[maxLen]) k_,.code 0 _ _ _ _ _ (Aw _)]++(Es _ 0 8 o_ (yD _ _ rfl)++(Es _ 1 7 o_ (yD _ _ rfl)++(Es _ 2 6 o_ (yD _ _ rfl)++(Es _ 3 5 o_ (yD _ _ rfl)++(Es _ 4 4 o_ (yD _ _ rfl)++(Es _ 5 3 o_ (yD _ _ rfl)++(Es _ 6 2 o_ (yD _ _ rfl)++(Es _ 7 1 o_ (yD _ _ rfl)++
  [.gt 34 1 0 true rfl,.qh f152 37 1 8 1 8 0 8 1 o_ rfl k_,.ld f152 38 5 1 8 (.row (ik (List.replicate 9 0)) 5 1) (vb 0) rfl (yD _ _ rfl) k_,.fN 39 0 0 true rfl,.aOn f152 42 1 8 1 8 1 2 (.row (ik (List.replicate 9 0)) 5 1) rfl k_,.gt 34 0 0 false rfl,.TH f152 44 2 0 [] (.view []) rfl rfl rfl k_]))))))))) (λw=>k_) rfl
structure QN(n a:Nat):Prop where
 lt:a<bz^n
 z:a=0->n=0\/n=3
 h63:n<35184372088832
theorem aDZ{n a:Nat}(h:QN n a):cE prog 152 [.r n (au (ae bz n a))] (.string (BA (ct a))):=by
 by_cases h0:a=0
 ·subst h0;rcases h.z rfl with rfl|rfl
  ·exact aOV
  ·exact aOW
 ·exact aOU h.lt h0 h.h63
variable{a:Nat}{z:Int}
theorem aOX(h:nd bz a<35184372088832):QN (nd bz a) a:=⟨ew d_ a,λe=>.inl (by rw[e,nF]),h⟩
theorem aD0{n:Nat}(neg:Bool)(h:QN n a):cE prog 101 [.p (.bool neg),.r n (au (ae bz n a))] (bf (sg neg a)):=by
 rw[<-vD];have e:(!((BA (ct a)).toList==(ByteArray.mk #[]).toList))=decide (a≠0):=by rw[qJ];simp
 cases neg
 ·exact jC mixed func101 (by simp[aR.ok,iK];rfl) 100 (N:=15) k_ (λw=>[.step 7 (aw f101 7) _ _ _ _ (dR (aDZ h) (.w (k:=0) (cc:=0) (x:=.view (au (ae bz n a))) rfl (iK _) (λe=>by subst e;rfl) .nil) (x:=.func 152) k_ k_ rfl)]) (λw=>k_) rfl
 ·exact jC mixed func101 (by simp[aR.ok,iK];rfl) 100 (N:=15) k_ (λw=>[.step 7 (aw f101 7) _ _ _ _ (dR (aDZ h) (.w (k:=0) (cc:=0) (x:=.view (au (ae bz n a))) rfl (iK _) (λe=>by subst e;rfl) .nil) (x:=.func 152) k_ k_ rfl),.rw 11 (.bool (!((BA (ct a)).toList==(ByteArray.mk #[]).toList))) (.bool (decide (a≠0))) (by rw[e])]) (λw=>k_) rfl
theorem aXG(neg:Bool)(l:List UInt8):aF prog 98 [.agg #[.bool neg,.string (BA l)]] (.bool (x7 neg l)):=by
 cases l with
 |nil=>exact aN func98 (λ_=>[.rw 5 (.bool ((BA []).toList==(ByteArray.mk #[]).toList)) b_ (by rw[FD];rfl)])
 |cons c l=>
  have e:(((c.toNat:Nat):Int)!=0)=decide (c≠0):=by
   by_cases h:c=0
   ·subst h;rfl
   ·rw[aH h,vt];intro h2;exact h (Ov.1 (by simpa using h2))
  exact aN func98 (λ_=>[.rw 5 (.bool ((BA (c::l)).toList==(ByteArray.mk #[]).toList)) a_ (by rw[FD];rfl),.sx f98 11 (BA (c::l)) 0 c (by rw[KH];rfl) k_,.rw 12 (.bool (((c.toNat:Nat):Int)!=0)) (.bool (decide (c≠0))) (by rw[e])])
theorem aD1(neg:Bool){m:Nat}(h:neg=true->m≠0):x7 neg (ct m)=true:=by
 by_cases hm:m=0
 ·subst hm;rw[DF];cases neg
  ·rfl
  ·exact absurd rfl (h rfl)
 ·obtain⟨c,l,h1,h2⟩:=OC hm;rw[h1];exact aH h2
theorem aXv(neg:Bool){m:Nat}(h:neg=true->m≠0):aF prog 98 [sv neg m] b_:=by have:=aXG neg (ct m);rw[aD1 neg h]at this;exact this
theorem aX3(z:Int):aF prog 98 [bf z] b_:=
 s8 (C:=λ_ v=>aF prog 98 [v] b_) (λ_=>aXv false n_) (λ_ hm=>aXv true λ_=>hm) z
theorem aXW(h:z.natAbs<=9223372036854775808)(hz2:z<9223372036854775808):aF prog 50 [.int .i64 z] (bf z):=by
 obtain⟨m,hm⟩:∃ m,m=z.natAbs:=⟨_,rfl⟩;have aWU:m<18446744073709551616:=by omega
 have hb:QN 3 m:=⟨by
  have e:bz^3=4722366482869645213696:=by decide
  rw[e];omega,λ_=>.inr rfl,by omega⟩
 have jI:au (ae bz 3 m)=[vI (m/bz^0%bz),vI (m/bz^1%bz),vI (m/bz^2%bz)]:=rfl;have hs:=λneg=>aD0 neg hb;obtain⟨x0,lC⟩:∃ x,x=m/bz^0%bz:=⟨_,rfl⟩;obtain⟨x1,vC⟩:∃ x,x=m/bz^1%bz:=⟨_,rfl⟩;obtain⟨x2,iv⟩:∃ x,x=m/bz^2%bz:=⟨_,rfl⟩;rw[<-lC,<-vC,<-iv]at jI;rw[jI]at hs;have lC:m%16777216=x0:=by rw[lC,sU,FF]
 have vC:m/16777216%16777216=x1:=by rw[vC,BS]
 have iv:m/16777216/16777216=x2:=by rw[iv,show bz^2=16777216*16777216 by decide,<-ll];exact(dW (by show _<16777216;omega)).symm
 have u0:Int.tmod (m:Int) 16777216=(x0:Int):=by rw[wH o_];omega
 obtain⟨q,hq⟩:∃ q,q=m/16777216:=⟨_,rfl⟩;rw[<-hq]at vC iv;have uq:IntKind.u64.wrap (Int.tdiv (m:Int) 16777216)=(q:Int):=by rw[BP o_,kp];omega
 have u1:Int.tmod (q:Int) 16777216=(x1:Int):=by rw[wH o_];omega
 have u2:IntKind.u64.wrap (Int.tdiv (q:Int) 16777216)=(x2:Int):=by rw[BP o_,kp];omega
 have w0:IntKind.i64.wrap (x0:Int)=(x0:Int):=by rw[dh];omega
 have w1:IntKind.i64.wrap (x1:Int)=(x1:Int):=by rw[dh];omega
 have w2:IntKind.i64.wrap (x2:Int)=(x2:Int):=by rw[dh];omega
 have cR:∀ v∈[vI x0,vI x1,vI x2],flat v=true:=λv hv=>by simp at hv;rcases hv with rfl|rfl|rfl<;>rfl
 let tl:∀(Bs:aa) (t:Bool),bM prog Bs 25:=λBs t=>[.rw 11 (.bool (decide (z<0))) (.bool (decide (z<0))) rfl,.rw 13 (.int .u64 (Int.tmod (m:Int) 16777216)) (.int .u64 (x0:Int)) (by rw[u0]),.wr 14 .i64 (x0:Int) (x0:Int) w0,.wr 16 .u64 (Int.tdiv (m:Int) 16777216) (q:Int) uq,.rw 17 (.int .u64 (Int.tmod (q:Int) 16777216)) (.int .u64 (x1:Int)) (by rw[u1]),.wr 18 .i64 (x1:Int) (x1:Int) w1,.wr 20 .u64 (Int.tdiv (m:Int) 16777216) (q:Int) uq,.wr 21 .u64 (Int.tdiv (q:Int) 16777216) (x2:Int) u2,.wr 22 .i64 (x2:Int) (x2:Int) w2,.bs Tryz.f50 23 1 3 3 1 [0,1,2] (vI 0) [vI x0,vI x1,vI x2] #[vI x0,vI x1,vI x2] (.row [vI x0,vI x1,vI x2] 3 1) rfl cR cR k_ rfl o_ o_ k_,.step 24 (aw Tryz.f50 24) _ _ _ _ (dR (hs t) (.p rfl (.w (k:=1) (cc:=0) (x:=.row [vI x0,vI x1,vI x2] 3 1) rfl rfl n_ .nil)) (x:=.func 101) k_ k_ rfl)]
 by_cases hz:z<0
 ·have e2:sg true m=z:=by show -(m:Int)=z;omega
  rw[<-show bf (sg true m)=bf z by rw[e2]];exact aN func50 (λ_=>.wr 5 .u64 z (z+18446744073709551616) (by rw[kp];omega)::.rw 7 (.bool (decide (z<0))) b_ (by rw[aH hz])::
   .wr 9 .u64 (0-(z+18446744073709551616)) (m:Int) (by rw[kp];omega)::.rw 11 (.bool (decide (z<0))) b_ (by rw[aH hz])::(tl _ true).tail)
 ·have e2:sg false m=z:=by show(m:Int)=z;omega
  rw[<-show bf (sg false m)=bf z by rw[e2]];exact aN func50 (λ_=>.wr 5 .u64 z (m:Int) (by rw[kp];omega)::.rw 7 (.bool (decide (z<0))) a_ (by rw[aP hz])::
   .rw 11 (.bool (decide (z<0))) a_ (by rw[aP hz])::(tl _ false).tail)
theorem aXM(z:Int):aF prog 80 [bf z] (.int .i64 z.sign):=by
 refine s8 (C:=λz v=>aF prog 80 [v] (.int .i64 z.sign)) (λm=>?_) (λm hm=>?_) z
 ·by_cases h:m=0
  ·subst h;exact aN func80 (λ_=>[(aXv false (m:=0) n_).at 5,.rw 10 (.bool ((BA (ct 0)).toList==(ByteArray.mk #[]).toList)) b_ (by rw[qJ];rfl)])
  ·have e:((m:Nat):Int).sign=1:=Cf o_;rw[e];exact aN func80 (λ_=>[(aXv false (m:=m) n_).at 5,.rw 10 (.bool ((BA (ct m)).toList==(ByteArray.mk #[]).toList)) a_ (by rw[qJ,aP h])])
 ·have e:(-(m:Int)).sign=-1:=FT o_;rw[e];exact aN func80 (λ_=>[(aXv true (m:=m) (λ_=>hm)).at 5,.rw 10 (.bool ((BA (ct m)).toList==(ByteArray.mk #[]).toList)) a_ (by rw[qJ,aP hm])])
theorem aXj(z:Int):aF prog 77 [bf z] (bf (-z)):=by
 refine s8 (C:=λz v=>aF prog 77 [v] (bf (-z))) (λm=>?_) (λm hm=>?_) z
 ·by_cases h:m=0
  ·subst h;have e:bf (-((0:Nat):Int))=.agg #[.bool false,.string ⟨#[]⟩]:=by show Value.agg #[.bool false,.string (BA (ct 0))]=_;rw[DF];rfl
   rw[e];exact aN func77 (λ_=>[(aXv false (m:=0) n_).at 4,.rw 9 (.bool ((BA (ct 0)).toList==(ByteArray.mk #[]).toList)) b_ (by rw[qJ];rfl)])
  ·have e:=vD true m;rw[<-show sg true m=-(m:Int)from rfl,<-e];unfold FP;rw[aH h];exact aN func77 (λ_=>[(aXv false (m:=m) n_).at 4,.rw 9 (.bool ((BA (ct m)).toList==(ByteArray.mk #[]).toList)) a_ (by rw[qJ,aP h])])
 ·have e:=vD false m;rw[KY,<-show sg false m=(m:Int)from rfl,<-e];exact aN func77 (λ_=>[(aXv true (m:=m) (λ_=>hm)).at 4,.rw 9 (.bool ((BA (ct m)).toList==(ByteArray.mk #[]).toList)) a_ (by rw[qJ,aP hm])])
theorem Wv(z:Int):aF prog 83 [bf z] (bf (z.natAbs:Int)):=by
 refine s8 (C:=λz v=>aF prog 83 [v] (bf (z.natAbs:Int))) (λm=>?_) (λm hm=>?_) z
 ·exact aN func83 (λ_=>[(aXv false (m:=m) n_).at 4])
 ·rw[KX];exact aN func83 (λ_=>[(aXv true (m:=m) (λ_=>hm)).at 4])
section
variable{Bs:aa}{n a b:Nat}
def CP(n i:Nat):aX:=[(5,dw i),(0,sl 0 n),(1,sl 1 n)]
def tH(n a b:Nat):aL:=[(0,.view (au (ae bz n a))),(1,.view (au (ae bz n b)))]
theorem uK{x y:Nat}(h:decide (x≠y)=t):Value.bool ((x:Int)!=(y:Int))=.bool t:=by
 rw[<-h];congr 1
 by_cases e:x=y
 ·subst e;simp
 ·rw[aH e,vt];omega
noncomputable def Ww(n a b j:Nat)(hj:j<n)(t:Bool)(h:decide (a/bz^j%bz≠b/bz^j%bz)=t)(more:bM prog Bs 41):bM prog Bs 41:=
 .rw 19 (dw (j+1)) (vI j) (eB j)::.ge 20 j 0 true s_::.rw 24 (dw (j+1)) (vI j) (eB j)::.ix f103 25 0 n j hj k_::.ld f103 26 3 0 j (.view (au (ae bz n a))) (vI (a/bz^j%bz)) rfl (ev (eP hj)) k_::
  .rw 28 (dw (j+1)) (vI j) (eB j)::.ix f103 29 1 n j hj k_::.ld f103 30 3 1 j (.view (au (ae bz n b))) (vI (b/bz^j%bz)) rfl (ev (eP hj)) k_::.rw 31 _ (.bool t) (uK h)::more
noncomputable def aD2(n a b j:Nat)(hj:j<n)(t:Bool)(h:decide (a/bz^j%bz<b/bz^j%bz)=t):bM prog Bs 41:=
 [.rw 33 (dw (j+1)) (vI j) (eB j),.ix f103 34 0 n j hj k_,.ld f103 35 3 0 j (.view (au (ae bz n a))) (vI (a/bz^j%bz)) rfl (ev (eP hj)) k_,.rw 37 (dw (j+1)) (vI j) (eB j),.ix f103 38 1 n j hj k_,.ld f103 39 3 1 j (.view (au (ae bz n b))) (vI (b/bz^j%bz)) rfl (ev (eP hj)) k_,.lt 40 (a/bz^j%bz) (b/bz^j%bz) t h]
theorem aOY{j:Nat}(hj:j<n)(he:a/bz^j%bz=b/bz^j%bz)(h63:n<35184372088832):
  ai prog Bs 41 (aJ (ah f103 0)) (CP n (j+1)) (tH n a b) 2 ⟨.normal,CP n j,tH n a b,2⟩:=
 aE (Ww n a b j hj false (by simp[he]) [.rw 21 (dw (j+1)) (vI j) (eB j),.wr 22 .i64 ((j:Int)-1) ((j:Int)-1) (pA o_)])
theorem aOZ{j:Nat}(hj:j<n)(al:a/bz^j%bz<b/bz^j%bz):
  ai prog Bs 41 (aJ (ah f103 0)) (CP n (j+1)) (tH n a b) 2 ⟨.ret,[(4,.int .i64 (-1))],tH n a b,2⟩:=
 aE (Ww n a b j hj true (aH o_) (aD2 n a b j hj true (aH al)))
theorem aO0{j:Nat}(hj:j<n)(al:b/bz^j%bz<a/bz^j%bz):
  ai prog Bs 41 (aJ (ah f103 0)) (CP n (j+1)) (tH n a b) 2 ⟨.ret,[(4,.int .i64 1)],tH n a b,2⟩:=
 aE (Ww n a b j hj true (aH o_) (aD2 n a b j hj false (aP o_)))
theorem aO1:ai prog Bs 41 (aJ (ah f103 0)) (CP n 0) (tH n a b) 2 ⟨.exit 0,[],tH n a b,2⟩:=
 aE [.rw 20 (.bool (decide (((0:Nat):Int)-1>=0))) a_ rfl]
theorem aO2(ha:a<bz^n)(hb:b<bz^n)(h63:n<35184372088832):
  ai prog Bs 41 (.block 0 (ah f103 0)) (CP n n) (tH n a b) 2 (if a=b then⟨.normal,[],tH n a b,2⟩else⟨.ret,[(4,.int .i64 (iC a b))],tH n a b,2⟩):=by
 obtain⟨e,h1,h2,h3⟩:=zE (λt=>¬(t<n/\a/bz^(n-1-t)%bz=b/bz^(n-1-t)%bz)) n o_;have vx:=aAf ha hb e h1 λs hs=>(FE.1 (h3 s hs)).2;have go:∀(r:mQ),r.ex≠.normal->ai prog Bs 41 (aJ (ah f103 0)) (CP n (n-e)) (tH n a b) 2 r->ai prog Bs 41 (.loop (aJ (ah f103 0))) (CP n n) (tH n a b) 2 r:=by
  intro r hr ui
  exact cA (P:=prog) (B:=Bs) (N:=41) (b:=aJ (ah f103 0)) (next:=2) (r:=r) e (λi=>CP n (n-i)) (λ_=>tH n a b) (λi k _=>Iff.rfl)
   (λi hi=>by
    have q:=FE.1 (h3 i hi);have e1:n-i=(n-(i+1))+1:=by omega
    have e2:n-1-i=n-(i+1):=by omega
    simp only[e1];exact aOY o_ (by rw[<-e2];exact q.2) h63) ui hr
 by_cases DA:e=n
 ·have ch:a=b:=by rw[DA,wI,sU,FF,FF]at vx;exact vx
  rw[aB ch];have:=go ⟨.exit 0,[],tH n a b,2⟩ n_ (by rw[DA,wI];exact aO1);exact cd (id:=0) this
 ·have hj:n-e=(n-1-e)+1:=by omega
  have aQ:a/bz^(n-1-e)%bz≠b/bz^(n-1-e)%bz:=λh=>h2 ⟨by omega,h⟩;rw[hj]at vx go;have ch:a≠b:=λh=>aQ (by rw[h]);rw[av ch];rcases Fj aQ with al|ub
  ·have hl:=Oi vx al;have e1:iC a b=-1:=by unfold iC;rw[aB hl]
   rw[e1];exact cd (id:=0) (go _ n_ (aOZ o_ al))
  ·have hl:=Oi vx.symm ub;have e1:iC a b=1:=by unfold iC;rw[av o_,aB hl]
   rw[e1];exact cd (id:=0) (go _ n_ (aO0 o_ ub))
end
theorem Wx(h1:nd bz a<35184372088832)(h2:nd bz b<35184372088832):cE prog 103 [jQ a,jQ b] (.int .i64 (iC a b)):=by
 have ha:=ew (B:=bz) d_ a;have hb:=ew (B:=bz) d_ b;have c8:nd bz a<nd bz b->a<b:=λh=>by
  rcases e7 a b with h1|h1
  ·exact h1
  ·have:=iX (B:=bz) d_ h1;omega
 have dH:nd bz b<nd bz a->b<a:=λh=>by
  rcases e7 b a with h1|h1
  ·exact h1
  ·have:=iX (B:=bz) d_ h1;omega
 have aC:([jQ a,jQ b].all aR.ok)=true:=by simp[Je]
 unfold jQ cJ at aC ⊢;generalize nd bz a=n at *;generalize nd bz b=m at *;by_cases kE:n=m
 ·subst kE;have lo:=λBs=>aO2 (Bs:=Bs) ha hb h1;by_cases ch:a=b
  ·simp only[aB ch]at lo;have e1:iC a b=0:=by unfold iC;rw[av o_,av o_]
   rw[e1];exact jC mixed func103 aC 100 (N:=41) k_ (λw=>[.rw 10 _ a_ (uK (x:=n) (y:=n) s_),.wr 18 .i64 ((n:Int)-1) ((n:Int)-1) (pA o_),.code 0 _ _ _ _ _ (lo _)]) (λw=>k_) rfl
  ·simp only[av ch]at lo;exact jC mixed func103 aC 100 (N:=41) k_ (λw=>[.rw 10 _ a_ (uK (x:=n) (y:=n) s_),.wr 18 .i64 ((n:Int)-1) ((n:Int)-1) (pA o_),.code 0 _ _ _ _ _ (lo _)]) (λw=>k_) rfl
 ·rcases Fj kE with al|ub
  ·have e1:iC a b=-1:=by unfold iC;rw[aB (c8 al)]
   rw[e1];exact jC mixed func103 aC 100 (N:=41) k_ (λw=>[.rw 10 _ b_ (uK (x:=n) (y:=m) (aH kE)),.lt 15 n m true (aH al)]) (λw=>k_) rfl
  ·have e1:iC a b=1:=by unfold iC;rw[av (by have:=dH ub;omega),aB (dH ub)]
   rw[e1];exact jC mixed func103 aC 100 (N:=41) k_ (λw=>[.rw 10 _ b_ (uK (x:=n) (y:=m) (aH kE)),.lt 15 n m false (aP o_)]) (λw=>k_) rfl
section
variable{Bs:aa}{m:Nat}{neg:Bool}
def Et(m i:Nat):aX:=[(5,vI i),(1,ptr 0),(4,.int .u64 ((m/256^(nd 256 m-i):Nat):Int))]
def Eu(neg:Bool)(m:Nat):aL:=[(0,.aM [.bool neg,.string (BA (ct m))] 31)]
theorem aO3{m:Nat}(h:i<nd 256 m):∃ c,(BA (ct m))[nd 256 m-1-i]?=some c/\c.toNat=m/256^i%256:=by
 obtain⟨c,h1,h2⟩:=Tu (BA (ct m)) (i:=i) (by rw[pw,uk];exact h);rw[pw,uk]at h1;refine⟨c,h1,?_⟩;rw[h2]
 congr 2
 show gw (BA (ct m)).data.toList=m;exact FK m
theorem aO4(hi:i<nd 256 m)(hm:nd 256 m<=7):
  ai prog Bs 52 (aJ (ah f151 0)) (Et m i) (Eu neg m) 1 ⟨.normal,Et m (i+1),Eu neg m,1⟩:=by
 have al:m<256^7:=cG (ew (B:=256) d_ m) (df d_ hm);obtain⟨c,gP,dp⟩:=aO3 (m:=m) (i:=nd 256 m-1-i) o_;have bH:(((BA (ct m)).size:Nat):Int)=(nd 256 m:Int):=by rw[pw,uk]
 unfold Et Eu;generalize BA (ct m)=s at *;generalize nd 256 m=L at *;rw[show L-1-(L-1-i)=i by omega]at gP;obtain⟨j,hj⟩:∃ j,j=L-1-i:=⟨_,rfl⟩;have e1:L-i=j+1:=by omega
 have e2:L-(i+1)=j:=by omega
 rw[e1,e2];rw[<-hj]at dp;have hd:m/256^j=m/256^(j+1)*256+m/256^j%256:=xN m j;rw[<-dp]at hd;have hq:m/256^(j+1)<=m:=uh _ _;have oh:m/256^(j+1)*256<=m:=by rw[dG,<-ll];exact dq (DM _ _) (uh _ _)
 generalize m/256^(j+1)=x at *;generalize m/256^j=y at *;have hc3:=c.toNat_lt;have Wy:(256:Nat)^7=72057594037927936:=by decide
 rw[Wy]at al;have ws:IntKind.u64.wrap ((x:Int)*2^8)=((x*256:Nat):Int):=by rw[show((x:Int)*2^8)=((x*256:Nat):Int)by simp,kp];omega
 have wc:IntKind.u64.wrap (c.toNat:Int)=(c.toNat:Int):=by rw[kp];omega
 have wa:IntKind.u64.wrap (((x*256:Nat):Int)+(c.toNat:Int))=(y:Int):=by rw[kp];omega
 exact aE [.rw 18 (.int .i64 (s.size:Int)) (vI L) (by rw[bH];rfl),.lt 19 i L true (aH hi),.wr 23 .u64 ((x:Int)*2^8) _ ws,.sx f151 27 s i c gP k_,.wr 28 .u64 (c.toNat:Int) _ wc,.wr 29 .u64 _ _ wa,.sum 21 i 1 (i+1) rfl o_]
theorem aO5(hm:nd 256 m<=7):ai prog Bs 52 (.block 0 (ah f151 0)) (Et m 0) (Eu neg m) 1 ⟨.normal,Et m (nd 256 m),Eu neg m,1⟩:=
 cd (id:=0) (cA (b:=aJ (ah f151 0)) (r:=⟨.exit 0,Et m (nd 256 m),Eu neg m,1⟩) (nd 256 m) (Et m) (λ_=>Eu neg m) (λ_ _ _=>Iff.rfl) (λk hk=>aO4 hk hm)
  (aE [.rw 18 (.int .i64 ((BA (ct m)).size:Int)) (vI (nd 256 m)) (by rw[pw,uk];rfl),.lt 19 (nd 256 m) (nd 256 m) false s_]) n_)
end
theorem aO6{m:Nat}{neg:Bool}(hv:neg=true->m≠0)(hm:nd 256 m<=7):aF prog 151 [sv neg m] (.tuple #[.int .i64 (sg neg m),.bool true]):=by
 have lo:=λBs=>aO5 (Bs:=Bs) (neg:=neg) hm;have al:m<256^7:=cG (ew (B:=256) d_ m) (df d_ hm);have Wy:(256:Nat)^7=72057594037927936:=by decide
 rw[Wy]at al;have e0:m/256^(nd 256 m-0)=0:=mS (ew (B:=256) d_ m);have e1:m/256^(nd 256 m-nd 256 m)=m:=by rw[wI,sU,FF]
 unfold Et at lo;simp only[e0,e1]at lo;have bH:(((BA (ct m)).size:Nat):Int)=(nd 256 m:Int):=by rw[pw,uk]
 have nS:=aXv neg hv;unfold Eu at lo;unfold sv oX at nS ⊢;generalize BA (ct m)=s at *;generalize nd 256 m=L at *;have hle:decide ((L:Int)>8)=false:=aP o_;cases neg
 ·have w:IntKind.i64.wrap (m:Int)=(m:Int):=by rw[dh];omega
  exact aN func151 (λ_=>[nS.at 7,.rw 12 (.int .i64 (s.size:Int)) (vI L) (by rw[bH];rfl),.rw 13 (.bool (decide ((L:Int)>8))) a_ (by rw[hle]),.code 0 _ _ _ _ _ (lo _),.rw 48 (.bool (decide ((m:Int)<9223372036854775808))) b_ (by rw[aH o_]),.wr 51 .i64 (m:Int) (m:Int) w])
 ·have w0:IntKind.u64.wrap ((m:Int)-1)=(m:Int)-1:=by have:=hv rfl;rw[kp];omega
  have w1:IntKind.i64.wrap ((m:Int)-1)=(m:Int)-1:=by rw[dh];omega
  have w2:IntKind.i64.wrap (0-((m:Int)-1))=1-(m:Int):=by rw[dh];omega
  have w3:IntKind.i64.wrap (1-(m:Int)-1)=sg true m:=by rw[dh];show _=-(m:Int);omega
  exact aN func151 (λ_=>[nS.at 7,.rw 12 (.int .i64 (s.size:Int)) (vI L) (by rw[bH];rfl),.rw 13 (.bool (decide ((L:Int)>8))) a_ (by rw[hle]),.code 0 _ _ _ _ _ (lo _),.rw 35 (.bool (decide ((m:Int)<=9223372036854775808))) b_ (by rw[aH o_]),.wr 38 .u64 _ _ w0,.wr 39 .i64 _ _ w1,.wr 40 .i64 _ _ w2,.wr 41 .i64 _ _ w3])
theorem tJ{m:Nat}{neg:Bool}(hv:neg=true->m≠0)(hm:nd 256 m<=7):aF prog 99 [sv neg m] (.tuple #[.int .i64 (sg neg m),.bool true]):=by
 have h:=aO6 hv hm;have bH:(((BA (ct m)).size:Nat):Int)=(nd 256 m:Int):=by rw[pw,uk]
 unfold sv oX at h ⊢;generalize BA (ct m)=s at *;generalize nd 256 m=L at *;exact aN func99 (λ_=>[.rw 8 (.int .i64 (s.size:Int)) (vI L) (by rw[bH];rfl),.rw 9 (.bool (decide ((L:Int)>7))) a_ (by rw[aP o_]),h.at 12])
theorem vX{m:Nat}{neg:Bool}(hm:¬nd 256 m<=7):aF prog 99 [sv neg m] (.tuple #[.int .i64 0,.bool false]):=by
 have bH:(((BA (ct m)).size:Nat):Int)=(nd 256 m:Int):=by rw[pw,uk]
 unfold sv oX;generalize BA (ct m)=s at *;generalize nd 256 m=L at *;exact aN func99 (λ_=>[.rw 8 (.int .i64 (s.size:Int)) (vI L) (by rw[bH];rfl),.rw 9 (.bool (decide ((L:Int)>7))) b_ (by rw[aH o_])])
section
variable{Bs:aa}{N:Nat}
theorem aO7(m:Nat):(nd 256 m+2)/3=nd bz m:=by
 have e:bz=256^3:=by decide
 have h1:nd bz m<=(nd 256 m+2)/3:=jy d_ (by rw[e,<-sV];exact cG (ew (B:=256) d_ m) (df d_ o_))
 have h2:nd 256 m<=3*nd bz m:=jy d_ (by have:=ew (B:=bz) d_ m;rw[e,<-sV]at this;rw[e];exact this)
 omega
theorem Jh{m:Nat}(h:nd 256 m<35184372088832):lV prog 100 [.p (oX m)] 3 1 (nd bz m) (cJ m):=by
 have hs:(BA (ct m)).size=nd 256 m:=by rw[pw,uk]
 have hv:kW (BA (ct m))=m:=by show gw (BA (ct m)).data.toList=m;exact FK m
 have:=aOl (s:=BA (ct m)) (by rw[hs];exact h);rw[hs,hv,aO7]at this;exact this
theorem oG{x:Obj}(hr:x.reads=true)(hc:x.cells=cJ a){nd':q_}(h:gB Bs l vs nd'):gB Bs (jQ a::l) (sl k (nd bz a)::vs) ((k,some x)::nd'):=by unfold jQ;rw[<-hc];exact .w hr (by rw[hc];exact tE a) (λe=>by rw[hc];exact aNK e) h
def cF(a:Nat):Obj:=.row (cJ a) 3 1
def bd.eY(fn:Func)(key k m:Nat)(h:nd 256 m<35184372088832)(ho:dD (aw fn key).op=some (.func 100)):bd prog Bs N:=
 .step key (aw fn key) [.func (.func 100) #[] #[],oX m] [(k,none)] (sl k (nd bz m)) [(k,cF m)] (rR (Jh h) (.p rfl .nil) ho k_ (tE m) k)
def bd.Ev(fn:Func)(key k k1 k2 a b:Nat)(x1 x2:Obj)(uL:x1.reads=true)(gP:x1.cells=cJ a)(lv:x2.reads=true)(dp:x2.cells=cJ b)(h1:nd bz a<35184372088832)(h2:nd bz b<35184372088832)
  (ho:dD (aw fn key).op=some (.func 102)):bd prog Bs N:=
 .step key (aw fn key) [.func (.func 102) #[] #[],sl k1 (nd bz a),sl k2 (nd bz b)] [(k,none),(k1,some x1),(k2,some x2)] (sl k (nd bz (a+b))) [(k,cF (a+b))] (rR (aDS h1 h2) (oG uL gP (oG lv dp .nil)) ho k_ (tE _) k)
def bd.uN(fn:Func)(key k k1 k2 a b:Nat)(x1 x2:Obj)(uL:x1.reads=true)(gP:x1.cells=cJ a)(lv:x2.reads=true)(dp:x2.cells=cJ b)(ch:b<=a)(h1:nd bz a<35184372088832)
  (ho:dD (aw fn key).op=some (.func 104)):bd prog Bs N:=
 .step key (aw fn key) [.func (.func 104) #[] #[],sl k1 (nd bz a),sl k2 (nd bz b)] [(k,none),(k1,some x1),(k2,some x2)] (sl k (nd bz (a-b))) [(k,cF (a-b))] (rR (aOD ch h1) (oG uL gP (oG lv dp .nil)) ho k_ (tE _) k)
def bd.QO(fn:Func)(key k k1 k2 a b:Nat)(x1 x2:Obj)(uL:x1.reads=true)(gP:x1.cells=cJ a)(lv:x2.reads=true)(dp:x2.cells=cJ b)(h:nd bz a+nd bz b<35184372088832)
  (ho:dD (aw fn key).op=some (.func 105)):bd prog Bs N:=
 .step key (aw fn key) [.func (.func 105) #[] #[],sl k1 (nd bz a),sl k2 (nd bz b)] [(k,none),(k1,some x1),(k2,some x2)] (sl k (nd bz (a*b))) [(k,cF (a*b))] (rR (Ws h) (oG uL gP (oG lv dp .nil)) ho k_ (tE _) k)
def bd.vY(fn:Func)(key k1 k2 a b:Nat)(x1 x2:Obj)(uL:x1.reads=true)(gP:x1.cells=cJ a)(lv:x2.reads=true)(dp:x2.cells=cJ b)(h1:nd bz a<35184372088832)(h2:nd bz b<35184372088832)
  (ho:dD (aw fn key).op=some (.func 103)):bd prog Bs N:=
 .step key (aw fn key) [.func (.func 103) #[] #[],sl k1 (nd bz a),sl k2 (nd bz b)] [(k1,some x1),(k2,some x2)] (.int .i64 (iC a b)) [] (dR (Wx h1 h2) (oG uL gP (oG lv dp .nil)) ho k_ rfl)
def bd.fO(fn:Func)(key k1 a:Nat)(neg:Bool)(x1:Obj)(uL:x1.reads=true)(gP:x1.cells=cJ a)(h1:nd bz a<35184372088832)
  (ho:dD (aw fn key).op=some (.func 101)):bd prog Bs N:=
 .step key (aw fn key) [.func (.func 101) #[] #[],.bool neg,sl k1 (nd bz a)] [(k1,some x1)] (bf (sg neg a)) [] (dR (aD0 neg (aOX h1)) (.p rfl (oG uL gP .nil)) ho k_ rfl)
theorem uO{m n:Nat}(h:m<2^n):nd bz m<=n:=jy d_ (cG h (aBj d_ n))
end
theorem Ew(h:decide (b<=a)=t):Value.bool (decide (iC a b>=0))=.bool t:=by
 rw[<-h];congr 1;rw[sQ];unfold iC
 by_cases h1:a<b
 ·rw[aB h1];omega
 ·rw[av h1];by_cases h2:b<a
  ·rw[aB h2];omega
  ·rw[av h2];omega
theorem Ji{m:Nat}(h:nd 256 m<=7):m<72057594037927936:=by have al:m<256^7:=cG (ew (B:=256) d_ m) (df d_ h);rwa[show(256:Nat)^7=72057594037927936 by decide]at al
theorem Ey(n:Bool)(m:Nat):-(m:Int)<=sg n m/\sg n m<=m:=by cases n<;>simp[sg]<;>omega
theorem aXt{n1 n2:Bool}{p q:Nat}(v1:n1=true->m1≠0)(v2:n2=true->m2≠0)(h1:m1<2^p)(h2:m2<2^q)(hp:p<=1099511627776)(hq:q<=1099511627776):
  aF prog 45 [sv n1 m1,sv n2 m2] (bf (sg n1 m1+sg n2 m2)):=by
 have b1:=uO h1;have b2:=uO h2;have c1:=wL h1;have c2:=wL h2;by_cases s1:nd 256 m1<=7/\nd 256 m2<=7
 ·obtain⟨s1,s2⟩:=s1;have g1:=Ey n1 m1;have g2:=Ey n2 m2;have l1:=Ji s1;have l2:=Ji s2;exact aN func45 (λ_=>[(aXv _ v1).at 12,(aXv _ v2).at 16,(tJ v1 s1).at 22,(tJ v2 s2).at 28,.wr 34 .i64 (sg n1 m1+sg n2 m2) (sg n1 m1+sg n2 m2) (by rw[dh];omega),(aXW (z:=sg n1 m1+sg n2 m2) o_ o_).at 35])
 by_cases s1:nd 256 m1<=7
 ·have s2:¬nd 256 m2<=7:=λh=>(by assumption:¬(nd 256 m1<=7/\nd 256 m2<=7)) ⟨s1,h⟩;have same:∀ n:Bool,n1=n->n2=n->aF prog 45 [sv n1 m1,sv n2 m2] (bf (sg n1 m1+sg n2 m2)):=by
   rintro n rfl rfl
   have bs:nd bz (m1+m2)<35184372088832:=by
    have:=uO (m:=m1+m2) (n:=p+q+1) (by have e1:=df (show 0<2 by decide) (show p<=p+q by omega);have e2:=df (show 0<2 by decide) (show q<=p+q by omega);rw[dG];omega)
    omega
   have e:sg n2 m1+sg n2 m2=sg n2 (m1+m2):=by cases n2<;>simp[sg]<;>omega
   rw[e];cases n2
   ·exact aN func45 (λ_=>[(aXv _ v1).at 12,(aXv _ v2).at 16,(tJ v1 s1).at 22,(vX (neg:=false) s2).at 28,.eY f45 38 3 m1 o_ k_,.eY f45 41 4 m2 o_ k_,.Ev f45 52 5 3 4 m1 m2 (cF m1) (cF m2) rfl rfl rfl rfl o_ o_ k_,.fO f45 53 5 (m1+m2) false (cF (m1+m2)) rfl rfl bs k_])
   ·exact aN func45 (λ_=>[(aXv _ v1).at 12,(aXv _ v2).at 16,(tJ v1 s1).at 22,(vX (neg:=true) s2).at 28,.eY f45 38 3 m1 o_ k_,.eY f45 41 4 m2 o_ k_,.Ev f45 52 5 3 4 m1 m2 (cF m1) (cF m2) rfl rfl rfl rfl o_ o_ k_,.fO f45 53 5 (m1+m2) true (cF (m1+m2)) rfl rfl bs k_])
  have diff:n1≠n2->aF prog 45 [sv n1 m1,sv n2 m2] (bf (sg n1 m1+sg n2 m2)):=by
   intro aQ;by_cases ep:m2<=m1
   ·have bs:nd bz (m1-m2)<35184372088832:=by have:=iX (B:=bz) d_ (Cg m1 m2);omega
    have e:sg n1 m1+sg n2 m2=sg n1 (m1-m2):=by cases n1<;>cases n2<;>simp[sg]at aQ ⊢<;>omega
    rw[e];cases n1<;>cases n2<;>first|exact absurd rfl aQ|skip
    ·exact aN func45 (λ_=>[(aXv _ v1).at 12,(aXv _ v2).at 16,(tJ v1 s1).at 22,(vX (neg:=true) s2).at 28,.eY f45 38 3 m1 o_ k_,.eY f45 41 4 m2 o_ k_,.vY f45 57 3 4 m1 m2 (cF m1) (cF m2) rfl rfl rfl rfl o_ o_ k_,.rw 58 _ b_ (Ew (aH ep)),.uN f45 63 5 3 4 m1 m2 (cF m1) (cF m2) rfl rfl rfl rfl ep o_ k_,.fO f45 64 5 (m1-m2) false (cF (m1-m2)) rfl rfl bs k_])
    ·exact aN func45 (λ_=>[(aXv _ v1).at 12,(aXv _ v2).at 16,(tJ v1 s1).at 22,(vX (neg:=false) s2).at 28,.eY f45 38 3 m1 o_ k_,.eY f45 41 4 m2 o_ k_,.vY f45 57 3 4 m1 m2 (cF m1) (cF m2) rfl rfl rfl rfl o_ o_ k_,.rw 58 _ b_ (Ew (aH ep)),.uN f45 63 5 3 4 m1 m2 (cF m1) (cF m2) rfl rfl rfl rfl ep o_ k_,.fO f45 64 5 (m1-m2) true (cF (m1-m2)) rfl rfl bs k_])
   ·have bs:nd bz (m2-m1)<35184372088832:=by have:=iX (B:=bz) d_ (Cg m2 m1);omega
    have e:sg n1 m1+sg n2 m2=sg n2 (m2-m1):=by cases n1<;>cases n2<;>simp[sg]at aQ ⊢<;>omega
    rw[e];cases n1<;>cases n2<;>first|exact absurd rfl aQ|skip
    ·exact aN func45 (λ_=>[(aXv _ v1).at 12,(aXv _ v2).at 16,(tJ v1 s1).at 22,(vX (neg:=true) s2).at 28,.eY f45 38 3 m1 o_ k_,.eY f45 41 4 m2 o_ k_,.vY f45 57 3 4 m1 m2 (cF m1) (cF m2) rfl rfl rfl rfl o_ o_ k_,.rw 58 _ a_ (Ew (aP ep)),.uN f45 69 5 4 3 m2 m1 (cF m2) (cF m1) rfl rfl rfl rfl o_ o_ k_,.fO f45 70 5 (m2-m1) true (cF (m2-m1)) rfl rfl bs k_])
    ·exact aN func45 (λ_=>[(aXv _ v1).at 12,(aXv _ v2).at 16,(tJ v1 s1).at 22,(vX (neg:=false) s2).at 28,.eY f45 38 3 m1 o_ k_,.eY f45 41 4 m2 o_ k_,.vY f45 57 3 4 m1 m2 (cF m1) (cF m2) rfl rfl rfl rfl o_ o_ k_,.rw 58 _ a_ (Ew (aP ep)),.uN f45 69 5 4 3 m2 m1 (cF m2) (cF m1) rfl rfl rfl rfl o_ o_ k_,.fO f45 70 5 (m2-m1) false (cF (m2-m1)) rfl rfl bs k_])
  by_cases h:n1=n2
  ·exact same n2 h rfl
  ·exact diff h
 ·have same:∀ n:Bool,n1=n->n2=n->aF prog 45 [sv n1 m1,sv n2 m2] (bf (sg n1 m1+sg n2 m2)):=by
   rintro n rfl rfl
   have bs:nd bz (m1+m2)<35184372088832:=by
    have:=uO (m:=m1+m2) (n:=p+q+1) (by have e1:=df (show 0<2 by decide) (show p<=p+q by omega);have e2:=df (show 0<2 by decide) (show q<=p+q by omega);rw[dG];omega)
    omega
   have e:sg n2 m1+sg n2 m2=sg n2 (m1+m2):=by cases n2<;>simp[sg]<;>omega
   rw[e];cases n2
   ·exact aN func45 (λ_=>[(aXv _ v1).at 12,(aXv _ v2).at 16,(vX (neg:=false) s1).at 22,.eY f45 38 3 m1 o_ k_,.eY f45 41 4 m2 o_ k_,.Ev f45 52 5 3 4 m1 m2 (cF m1) (cF m2) rfl rfl rfl rfl o_ o_ k_,.fO f45 53 5 (m1+m2) false (cF (m1+m2)) rfl rfl bs k_])
   ·exact aN func45 (λ_=>[(aXv _ v1).at 12,(aXv _ v2).at 16,(vX (neg:=true) s1).at 22,.eY f45 38 3 m1 o_ k_,.eY f45 41 4 m2 o_ k_,.Ev f45 52 5 3 4 m1 m2 (cF m1) (cF m2) rfl rfl rfl rfl o_ o_ k_,.fO f45 53 5 (m1+m2) true (cF (m1+m2)) rfl rfl bs k_])
  have diff:n1≠n2->aF prog 45 [sv n1 m1,sv n2 m2] (bf (sg n1 m1+sg n2 m2)):=by
   intro aQ;by_cases ep:m2<=m1
   ·have bs:nd bz (m1-m2)<35184372088832:=by have:=iX (B:=bz) d_ (Cg m1 m2);omega
    have e:sg n1 m1+sg n2 m2=sg n1 (m1-m2):=by cases n1<;>cases n2<;>simp[sg]at aQ ⊢<;>omega
    rw[e];cases n1<;>cases n2<;>first|exact absurd rfl aQ|skip
    ·exact aN func45 (λ_=>[(aXv _ v1).at 12,(aXv _ v2).at 16,(vX (neg:=false) s1).at 22,.eY f45 38 3 m1 o_ k_,.eY f45 41 4 m2 o_ k_,.vY f45 57 3 4 m1 m2 (cF m1) (cF m2) rfl rfl rfl rfl o_ o_ k_,.rw 58 _ b_ (Ew (aH ep)),.uN f45 63 5 3 4 m1 m2 (cF m1) (cF m2) rfl rfl rfl rfl ep o_ k_,.fO f45 64 5 (m1-m2) false (cF (m1-m2)) rfl rfl bs k_])
    ·exact aN func45 (λ_=>[(aXv _ v1).at 12,(aXv _ v2).at 16,(vX (neg:=true) s1).at 22,.eY f45 38 3 m1 o_ k_,.eY f45 41 4 m2 o_ k_,.vY f45 57 3 4 m1 m2 (cF m1) (cF m2) rfl rfl rfl rfl o_ o_ k_,.rw 58 _ b_ (Ew (aH ep)),.uN f45 63 5 3 4 m1 m2 (cF m1) (cF m2) rfl rfl rfl rfl ep o_ k_,.fO f45 64 5 (m1-m2) true (cF (m1-m2)) rfl rfl bs k_])
   ·have bs:nd bz (m2-m1)<35184372088832:=by have:=iX (B:=bz) d_ (Cg m2 m1);omega
    have e:sg n1 m1+sg n2 m2=sg n2 (m2-m1):=by cases n1<;>cases n2<;>simp[sg]at aQ ⊢<;>omega
    rw[e];cases n1<;>cases n2<;>first|exact absurd rfl aQ|skip
    ·exact aN func45 (λ_=>[(aXv _ v1).at 12,(aXv _ v2).at 16,(vX (neg:=false) s1).at 22,.eY f45 38 3 m1 o_ k_,.eY f45 41 4 m2 o_ k_,.vY f45 57 3 4 m1 m2 (cF m1) (cF m2) rfl rfl rfl rfl o_ o_ k_,.rw 58 _ a_ (Ew (aP ep)),.uN f45 69 5 4 3 m2 m1 (cF m2) (cF m1) rfl rfl rfl rfl o_ o_ k_,.fO f45 70 5 (m2-m1) true (cF (m2-m1)) rfl rfl bs k_])
    ·exact aN func45 (λ_=>[(aXv _ v1).at 12,(aXv _ v2).at 16,(vX (neg:=true) s1).at 22,.eY f45 38 3 m1 o_ k_,.eY f45 41 4 m2 o_ k_,.vY f45 57 3 4 m1 m2 (cF m1) (cF m2) rfl rfl rfl rfl o_ o_ k_,.rw 58 _ a_ (Ew (aP ep)),.uN f45 69 5 4 3 m2 m1 (cF m2) (cF m1) rfl rfl rfl rfl o_ o_ k_,.fO f45 70 5 (m2-m1) false (cF (m2-m1)) rfl rfl bs k_])
  by_cases h:n1=n2
  ·exact same n2 h rfl
  ·exact diff h
theorem aXE{x y:Int}{p q:Nat}(h1:x.natAbs<2^p)(h2:y.natAbs<2^q)(hp:p<=1099511627776)(hq:q<=1099511627776):aF prog 45 [bf x,bf y] (bf (x+y)):=by revert h1 h2;refine FU (C:=λx y v u=>x.natAbs<2^p->y.natAbs<2^q->aF prog 45 [v,u] (bf (x+y))) (λn1 n2 m1 m2 v1 v2 h1 h2=>?_) x y;rw[qM]at h1 h2;exact aXt v1 v2 h1 h2 hp hq
theorem aXV{x y:Int}{p q:Nat}(h1:x.natAbs<2^p)(h2:y.natAbs<2^q)(hp:p<=1099511627776)(hq:q<=1099511627776):aF prog 51 [bf x,bf y] (bf (x-y)):=
 aN func51 (λ_=>[(aX3 x).at 6,(aX3 y).at 10,(aXj y).at 16,(aXE h1 (by rw[KX];exact h2) hp hq).at 17])
theorem Mu(m:Nat):Value.int .i64 ((BA (ct m)).size:Int)=vI (nd 256 m):=by rw[pw,uk];rfl
theorem aXw{x y:Int}{p q:Nat}(h1:x.natAbs<2^p)(h2:y.natAbs<2^q)(hp:p<=1099511627776)(hq:q<=1099511627776):aF prog 46 [bf x,bf y] (bf (x*y)):=by
 revert h1 h2;refine FU (C:=λx y v u=>x.natAbs<2^p->y.natAbs<2^q->aF prog 46 [v,u] (bf (x*y))) (λn1 n2 m1 m2 v1 v2 h1 h2=>?_) x y;rw[qM]at h1 h2;have b1:=uO h1;have b2:=uO h2;have c1:=wL h1;have c2:=wL h2;have k1:=ew (B:=256) d_ m1;have k2:=ew (B:=256) d_ m2;have r1:=Mu m1;have r2:=Mu m2;have e:sg n1 m1*sg n2 m2=sg (n1 !=n2) (m1*m2):=by cases n1<;>cases n2<;>simp[sg,Io,Ip]
 by_cases hs:nd 256 m1+nd 256 m2<=7
 ·have s1:=tJ v1 (show nd 256 m1<=7 by omega);have s2:=tJ v2 (show nd 256 m2<=7 by omega);have hb:m1*m2<72057594037927936:=by
   have h:m1*m2<256^(nd 256 m1+nd 256 m2):=by rw[eR];exact qE k1 k2
   have h7:=df (n:=256) d_ hs;rw[show(256:Nat)^7=72057594037927936 by decide]at h7;omega
  have g:=Ey (n1 !=n2) (m1*m2);rw[<-e]at g;have w:=aXv n1 v1;have w2:=aXv n2 v2;unfold sv oX at s1 s2 w w2 ⊢;generalize nd 256 m1=L1 at *;generalize nd 256 m2=L2 at *;exact aN func46 (λ_=>[w.at 10,w2.at 14,.rw 20 _ (vI L1) r1,.rw 23 _ (vI L2) r2,.sum 24 L1 L2 (L1+L2) rfl o_,.rw 25 (.bool (decide (((L1+L2:Nat):Int)<=7))) b_ (by rw[aH o_]),s1.at 28,s2.at 33,.wr 38 .i64 (sg n1 m1*sg n2 m2) (sg n1 m1*sg n2 m2) (by rw[dh];omega),(aXW (z:=sg n1 m1*sg n2 m2) o_ o_).at 39])
 ·have bs:nd bz (m1*m2)<35184372088832:=by have:=uO (m:=m1*m2) (n:=p+q) (by rw[eR];exact qE h1 h2);omega
  rw[e];have w:=aXv n1 v1;have w2:=aXv n2 v2;cases n1<;>cases n2
  ·exact aN func46 (λ_=>[w.at 10,w2.at 14,.rw 20 _ (vI (nd 256 m1)) r1,.rw 23 _ (vI (nd 256 m2)) r2,.sum 24 (nd 256 m1) (nd 256 m2) (nd 256 m1+nd 256 m2) rfl o_,.rw 25 (.bool (decide (((nd 256 m1+nd 256 m2:Nat):Int)<=7))) a_ (by rw[aP o_]),.eY Tryz.f46 47 3 m1 o_ k_,.eY Tryz.f46 50 4 m2 o_ k_,.QO Tryz.f46 51 5 3 4 m1 m2 (cF m1) (cF m2) rfl rfl rfl rfl o_ k_,.fO Tryz.f46 52 5 (m1*m2) false (cF (m1*m2)) rfl rfl bs k_])
  ·exact aN func46 (λ_=>[w.at 10,w2.at 14,.rw 20 _ (vI (nd 256 m1)) r1,.rw 23 _ (vI (nd 256 m2)) r2,.sum 24 (nd 256 m1) (nd 256 m2) (nd 256 m1+nd 256 m2) rfl o_,.rw 25 (.bool (decide (((nd 256 m1+nd 256 m2:Nat):Int)<=7))) a_ (by rw[aP o_]),.eY Tryz.f46 47 3 m1 o_ k_,.eY Tryz.f46 50 4 m2 o_ k_,.QO Tryz.f46 51 5 3 4 m1 m2 (cF m1) (cF m2) rfl rfl rfl rfl o_ k_,.fO Tryz.f46 52 5 (m1*m2) true (cF (m1*m2)) rfl rfl bs k_])
  ·exact aN func46 (λ_=>[w.at 10,w2.at 14,.rw 20 _ (vI (nd 256 m1)) r1,.rw 23 _ (vI (nd 256 m2)) r2,.sum 24 (nd 256 m1) (nd 256 m2) (nd 256 m1+nd 256 m2) rfl o_,.rw 25 (.bool (decide (((nd 256 m1+nd 256 m2:Nat):Int)<=7))) a_ (by rw[aP o_]),.eY Tryz.f46 47 3 m1 o_ k_,.eY Tryz.f46 50 4 m2 o_ k_,.QO Tryz.f46 51 5 3 4 m1 m2 (cF m1) (cF m2) rfl rfl rfl rfl o_ k_,.fO Tryz.f46 52 5 (m1*m2) true (cF (m1*m2)) rfl rfl bs k_])
  ·exact aN func46 (λ_=>[w.at 10,w2.at 14,.rw 20 _ (vI (nd 256 m1)) r1,.rw 23 _ (vI (nd 256 m2)) r2,.sum 24 (nd 256 m1) (nd 256 m2) (nd 256 m1+nd 256 m2) rfl o_,.rw 25 (.bool (decide (((nd 256 m1+nd 256 m2:Nat):Int)<=7))) a_ (by rw[aP o_]),.eY Tryz.f46 47 3 m1 o_ k_,.eY Tryz.f46 50 4 m2 o_ k_,.QO Tryz.f46 51 5 3 4 m1 m2 (cF m1) (cF m2) rfl rfl rfl rfl o_ k_,.fO Tryz.f46 52 5 (m1*m2) false (cF (m1*m2)) rfl rfl bs k_])
theorem aXR{x y:Int}{p q:Nat}(h1:x.natAbs<2^p)(h2:y.natAbs<2^q)(hp:p<=1099511627776)(hq:q<=1099511627776):aF prog 106 [bf x,bf y] (.int .i64 (x-y).sign):=by
 have w1:=aX3 x;have w2:=aX3 y;have s1:=aXM x;have s2:=aXM y;have Ez:∀ z:Int,z.sign=-1/\z<0\/z.sign=0/\z=0\/z.sign=1/\0<z:=λz=>by
  rcases Pb z 0 with h|h|h
  ·exact .inl ⟨FT h,h⟩
  ·exact .inr (.inl ⟨by rw[h];rfl,h⟩)
  ·exact .inr (.inr ⟨Cf h,h⟩)
 have b1:=uO h1;have b2:=uO h2;have c1:=wL h1;have c2:=wL h2;by_cases hs:x.sign=y.sign
 ·have ho:x.sign*iC x.natAbs y.natAbs=(x-y).sign:=by unfold iC;rcases Ez x with ⟨a1,a2⟩|⟨a1,a2⟩|⟨a1,a2⟩<;>rcases Ez y with ⟨d1,d2⟩|⟨d1,d2⟩|⟨d1,d2⟩<;>rcases Ez (x-y)with ⟨f1,f2⟩|⟨f1,f2⟩|⟨f1,f2⟩<;>rw[a1,f1]<;>rw[a1,d1]at hs<;>first|(exfalso;omega)|(split<;>first|omega|(split<;>omega))
  have hw:IntKind.i64.wrap (x.sign*iC x.natAbs y.natAbs)=(x-y).sign:=by rw[ho,dh];rcases Ez (x-y)with ⟨f1,f2⟩|⟨f1,f2⟩|⟨f1,f2⟩<;>rw[f1]<;>rfl
  rw[<-hs]at s2;exact aN func106 (λ_=>[w1.at 8,w2.at 12,s1.at 16,s2.at 18,.rw 21 (.bool (x.sign !=x.sign)) a_ s_,.eY f106 28 2 x.natAbs o_ k_,.eY f106 31 3 y.natAbs o_ k_,.vY f106 32 2 3 x.natAbs y.natAbs (cF x.natAbs) (cF y.natAbs) rfl rfl rfl rfl o_ o_ k_,.wr 33 .i64 _ _ hw])
 ·have aQ:(x.sign !=y.sign)=true:=vt.2 hs;by_cases al:x.sign<y.sign
  ·have e:(x-y).sign=-1:=by rcases Ez x with ⟨a1,a2⟩|⟨a1,a2⟩|⟨a1,a2⟩<;>rcases Ez y with ⟨d1,d2⟩|⟨d1,d2⟩|⟨d1,d2⟩<;>rw[a1,d1]at al<;>first|omega|exact FT o_
   rw[e];exact aN func106 (λ_=>[w1.at 8,w2.at 12,s1.at 16,s2.at 18,.rw 21 (.bool (x.sign !=y.sign)) b_ (by rw[aQ]),.rw 24 (.bool (decide (x.sign<y.sign))) b_ (by rw[aH al])])
  ·have e:(x-y).sign=1:=by rcases Ez x with ⟨a1,a2⟩|⟨a1,a2⟩|⟨a1,a2⟩<;>rcases Ez y with ⟨d1,d2⟩|⟨d1,d2⟩|⟨d1,d2⟩<;>rw[a1,d1]at al hs<;>first|omega|exact Cf o_
   rw[e];exact aN func106 (λ_=>[w1.at 8,w2.at 12,s1.at 16,s2.at 18,.rw 21 (.bool (x.sign !=y.sign)) b_ (by rw[aQ]),.rw 24 (.bool (decide (x.sign<y.sign))) a_ (by rw[aP al])])

section
variable{P:j_}{B:aa}{N:Nat}
def Wz(o:Oper):Bool:=match o.op with
 |.call c=>match c.callee,c.args.toList with
  |.builtin .min,[_,_]=>true
  |_,_=>false
 |_=>false
theorem aO8(ho:Wz o=true)(hr:r=min a b):cI P B o [vI a,vI b] [] (vI r) []:=by
 unfold Wz at ho;split at ho
 ·rename_i c cg;split at ho
  ·rename_i p q h1 h2;refine(C7 (λu hu=>by simp at hu;rcases hu with rfl|rfl<;>rfl) rfl λρ gp w _=>?_).step;obtain⟨ce,ar,at'⟩:=c;dsimp only at h1 h2;subst h1;have e1:ar=#[p,q]:=by rw[<-An (xs:=ar),h2]
   subst e1;rw[cg]at gp;simp[Op.operands,Call.operands]at gp;simp[execOp,cg,resolve,invoke,builtin,Builtin.min_,Builtin.min2,gp.1,gp.2,vI,hr];split<;>omega
  ·cases ho
 ·cases ho
def bd.QP(fn:Func)(key a b r:Nat)(hr:r=min a b)(ho:Wz (aw fn key)=true):bd P B N:=
 .step key (aw fn key) [vI a,vI b] [] (vI r) [] (aO8 ho hr)
theorem aO9{m:Nat}{cells:ak}(gW:P.follows .mixedOrders=true)(hf:P.funcs[f]?=some fn)(hl:(l.all aR.ok)=true)(n:Nat){N:Nat}(hN:N=(eC 0 l).length+(fn.ntmps-(eC 0 l).length))
  (rs:∀ w,bM P (aa.at w) N) (h:∀ w,oq (gv (P:=P) fn n (eC 0 l) (ja 0 l) (jo 0 l) (rs w)) [(k,.row cells ty size)]=ou (gv fn n (eC 0 l) (ja 0 l) (jo 0 l) (rs w)) (.tuple #[.slice (some ⟨k,0,some 7⟩) m 0,u]) [(k,.row cells ty size)])
  (hx:(cells.all flat)=true) (hlen:m*size<=cells.length) (oE:cells.take (m*size)=xs) (hu:flat u=true):I4 P f l ty size m xs u:=by
 intro w vs cz;obtain⟨ι,c,h1,h2,h3,h4,h5,h6,h7⟩:=wS cz (bB.1 hl) 0 _ _ (rG w) n_ (λ_ _=>rfl);refine sO gW hf hN n (h w) h6 h2 h4 h3 λaz cr v' w' hle hc hm dQ=>?_;obtain⟨cT,rfl,bh⟩:=hc.uY;obtain⟨p,q,hp,h8,h9⟩:=jv bh;have e:cT=#[p,q]:=wz.1 (by rw[hp]);subst e;rw[h9.eZ hu];have:=xI hm (dQ (k,_) (aT ..)) h8 hlen (bB.1 hx);rw[oE]at this;exact⟨p,rfl,this,hm.base⟩
theorem aPa{x:m_}{j n m:Nat}{cells:ak}(ho:dD o.op=some x)(e8:gO P f=true)(hn:0<n)(cR:∀ v∈cells,flat v=true)(BM:∀ v∈xs,flat v=true)(hu:flat u=true)(kC:0<m)
  (h:∀ w g cap cur,w.heap[g]?=some (.cells cur ty (0,0))->n<=cap->cap<=maxLen->cur.size=cap*1->cur.toList.take cells.length=cells->Calls P f #[.slice (some ⟨g,0,none⟩) n cap] w λe w'=>∃ z c',e=.returned (.tuple #[.slice (some ⟨g,z,none⟩) m c',u])/\BL g w w'/\(∃ gn,w'.heap[g]?=some (.cells gn ty (0,0))/\gn.size=cap*1)/\cW w' (.slice (some ⟨g,z,none⟩) m c') m xs) :
  cI P B o [.func (.func f) #[] #[],.slice (some ⟨k,0,some 7⟩) n 0] [(k,some (.row cells ty 1)),(j,none)] (.tuple #[.slice (some ⟨j,0,some 7⟩) m 0,u]) [(j,.view xs),(k,.dead)]:=by
 refine jV (fi:=[]) (ca:=[]) ho e8 λι c w hm fv args' bh=>?_;rw[jg,jL]at bh;obtain⟨v,rfl,hv⟩:=ob bh;have hk:c k=some (.row cells ty 1):=fv (k,_) s_;have hj:c j=none:=fv (j,none) s_;rcases hv.iF rfl with ⟨_,h0,_⟩|⟨g,oo,cap,c',hb,lg,nA,he⟩
 ·omega
 ·dsimp only at hb he;have kS:c'=cap:=by omega
  subst kS;obtain⟨l,q1,q2⟩:=hm.born k _ hk;rw[hb]at q1;injection q1 with q1;subst q1;rcases q2 with q2|⟨b,aU,cur,e1,mN,dO,gh,jw⟩
  ·cases q2.1
  ·injection e1 with e1 e2 e3;subst e1;subst e2;subst e3;rw[he];refine(h w g c' cur mN lg dO gh (oc jw cR)).mono ?_
   rintro e w' ⟨z,c2,rfl,qF,⟨gn,p1,p2⟩,jI⟩
   have m1:=hm.write (y:=.row [] ty 1) hk rfl hb qF.os qF.tape qF.output qF.size (λj hj FC=>qF.block j hj FC) (.inr ⟨g,c',gn,rfl,p1,dO,p2,.nil⟩) n_ rfl;have m2:=m1.kill k (by unfold bA;rw[aB rfl];exact n_);have b9:j≠k:=λe=>by rw[e,hk]at hj;cases hj
   have hj2:bA (bA c k (.row [] ty 1)) k .dead j=none:=by unfold bA;rw[av b9,av b9];exact hj
   obtain⟨az,q1,q2,q3⟩:=zy m2 hj2 jI BM (λb o c3 e j' y o' aU gM hy pT=>by
    injection e with e _ _;injection e with e;injection e with e _ _;subst e;unfold bA at gM;by_cases QQ:j'=k
    ·rw[aB QQ]at gM;injection gM with gM;subst gM;cases hy
    ·rw[av QQ,av QQ]at gM;exact QQ (hm.inj j' k y _ _ _ _ _ _ gM hy hk rfl pT hb))
   refine⟨az,_,rfl,q1,.tup (.cons q3 (.cons (.same hu) .nil)),?_⟩;refine q2.ext λi=>?_;show bA (bA c k .dead) j (.view xs) i=_;unfold bA;by_cases h1:i=j
   ·rw[aB h1,aB h1]
   ·rw[av h1,av h1];by_cases h2:i=k
    ·rw[aB h2,aB h2]
    ·rw[av h2,av h2,av h2]
theorem aD3(x:Int)(k:Nat)(hk:k<=62):IntKind.i64.wrap (((BitVec.ofInt IntKind.i64.bits x)&&& (BitVec.ofInt IntKind.i64.bits (((2^k-1:Nat)):Int))).toNat:Int)=x%((2^k:Nat):Int):=by
 show IntKind.i64.wrap (((BitVec.ofInt 64 x)&&& (BitVec.ofInt 64 (((2^k-1:Nat)):Int))).toNat:Int)=_;have h2:2^k<=2^62:=df d_ hk;have h62:(2:Nat)^62=4611686018427387904:=by decide
 have hp:0<2^k:=cP d_;have e1:(BitVec.ofInt 64 (((2^k-1:Nat)):Int)).toNat=2^k-1:=by rw[BitVec.toNat_ofInt];omega
 have e2:((BitVec.ofInt 64 x).toNat:Int)=x%18446744073709551616:=by rw[BitVec.toNat_ofInt];omega
 rw[BitVec.toNat_and,e1,Nat.and_two_pow_sub_one_eq_mod,dh];have hd:((2^k:Nat):Int) ∣ 18446744073709551616:=by refine⟨((2^(64-k):Nat):Int),?_⟩;rw[<-oO,<-eR,show k+(64-k)=64 by omega];rfl
 have e3:(((BitVec.ofInt 64 x).toNat%2^k:Nat):Int)=x%((2^k:Nat):Int):=by rw[WA,e2,Int.emod_emod_of_dvd _ hd]
 have h3:(BitVec.ofInt 64 x).toNat%2^k<2^k:=cM _ hp;rw[<-e3];omega
end
section
variable{Bs:aa}{n a d:Nat}
def aXO(n a d i:Nat):aX:=[(8,dw i),(6,sl 1 n),(7,vI (a/bz^i%d)),(0,sl 0 n),(1,vI d)]
def aXx(n a d i:Nat):aL:=[(0,.view (au (ae bz n a))),(1,.row (au (gY bz n i (a/d))) 3 1)]
theorem aX1{j:Nat}(hj:j<n)(hd:0<d)(nI:d<bz)(h63:n<35184372088832):
  ai prog Bs 38 (aJ (ah f204 0)) (aXO n a d (j+1)) (aXx n a d (j+1)) 2 ⟨.normal,aXO n a d j,aXx n a d j,2⟩:=by
 have bP:fo prog 3 (au (gY bz n (j+1) (a/d))) j (vI (a/d/bz^j%bz))=some (au (gY bz n j (a/d))):=by rw[xe (by rw[Of];exact hj),Oh hj rfl]
 have lF:dI prog 3 (au (ae bz n a)) j=some (vI (a/bz^j%bz)):=ev (eP hj);have hr:a/bz^(j+1)%d<d:=cM _ hd;have hx:=iB (B:=bz) d_ a j;obtain⟨q1,q2⟩:=aAe (B:=bz) d_ hd (jl nI) a j;have ke:bz=16777216:=rfl;unfold aXO aXx;generalize au (gY bz n (j+1) (a/d))=r0 at *;generalize au (gY bz n j (a/d))=r1 at *;generalize au (ae bz n a)=ra at *;generalize a/d/bz^j%bz=z at *;generalize a/bz^(j+1)%d=r at *;generalize a/bz^j%d=r' at *;generalize a/bz^j%bz=x at *;have lv:r<16777216:=by omega
 have hp:r*bz<281474976710656:=by rw[ke];omega
 generalize hpe:r*bz=p at *;have DQ:(d:Int)≠0:=by omega
 have w1:IntKind.i64.wrap (Int.tdiv ((p+x:Nat):Int) (d:Int))=(z:Int):=by have hq:(p+x)/d<=p+x:=uh _ _;rw[BP o_,<-ug,q1,dh];omega
 have w2:Int.tmod ((p+x:Nat):Int) (d:Int)=(r':Int):=by rw[wH o_,<-WA,q2]
 exact aE [.rw 15 (dw (j+1)) (vI j) (eB j),.ge 16 j 0 true s_,.tG 20 r bz p hpe.symm o_,.rw 22 (dw (j+1)) (vI j) (eB j),.ix f204 23 0 n j hj k_,.ld f204 24 3 0 j (.view ra) (vI x) rfl lF k_,.sum 25 p x (p+x) rfl o_,.rw 27 (dw (j+1)) (vI j) (eB j),.rI f204 30 .i64 ((p+x:Nat):Int) (d:Int) (z:Int) DQ w1 k_,.ix f204 31 1 n j hj k_,.st f204 100031 3 1 j (.row r0 3 1) (vI z) (.row r1 3 1) rfl bP rfl k_,.vu f204 34 .i64 ((p+x:Nat):Int) (d:Int) (r':Int) DQ w2 k_,.rw 17 (dw (j+1)) (vI j) (eB j),.wr 18 .i64 ((j:Int)-1) ((j:Int)-1) (pA o_)]
theorem aXJ(hd:0<d)(nI:d<bz)(h63:n<35184372088832):
  ai prog Bs 38 (.block 0 (ah f204 0)) (aXO n a d n) (aXx n a d n) 2 ⟨.normal,aXO n a d 0,aXx n a d 0,2⟩:=by
 have:=cA (P:=prog) (B:=Bs) (N:=38) (b:=aJ (ah f204 0)) (next:=2) (r:=⟨.exit 0,aXO n a d 0,aXx n a d 0,2⟩) n (λi=>aXO n a d (n-i)) (λi=>aXx n a d (n-i))
  (λi k _=>km (l:=aXx n a d (n-i)) (m:=aXx n a d (n-0)) rfl k)
  (λi hi=>by
   have e:n-i=(n-(i+1))+1:=by omega
   simp only[e];exact aX1 o_ hd nI h63)
  (by
   have e:n-n=0:=by omega
   simp only[e];exact aE [.rw 16 (.bool (decide (((0:Nat):Int)-1>=0))) a_ rfl]) n_
 exact cd this
end
theorem aD4(hd:0<d)(nI:d<bz)(h1:nd bz a<35184372088832):I4 prog 204 [jQ a,.p (vI d)] 3 1 (nd bz (a/d)) (cJ (a/d)) (vI (a%d)):=by
 have ha:=ew (B:=bz) d_ a;have aC:([jQ a,aR.p (vI d)].all aR.ok)=true:=by simp[Je];rfl
 unfold jQ cJ at aC ⊢;change I4 _ _ _ _ _ _ (cJ (a/d)) _;generalize nd bz a=n at *;have hs:a/d<bz^n:=fq (uh _ _) ha;have e0:a/bz^n%d=0:=by rw[mS ha];exact Nat.zero_mod _
 have e1:a/bz^0%d=a%d:=by rw[sU,FF]
 have lo:=λBs=>aXJ (Bs:=Bs) (n:=n) (a:=a) hd nI h1;have ez:List.replicate n (vI 0)=au (gY bz n n (a/d)):=by rw[Og,Mf]
 unfold aXO aXx at lo;rw[e0,e1,<-ez,Kz]at lo;generalize a%d=r at *;exact aO9 (k:=1) mixed func204 aC 100 (N:=38) k_ (λw=>[.qD f204 11 1 n 3 8 (vI 0) (List.replicate n (vI 0)) rfl rfl rfl o_ (by simp[maxLen];omega) k_,.wr 14 .i64 ((n:Int)-1) ((n:Int)-1) (pA o_),.code 0 _ _ _ _ _ (lo _),.En f204 36 1 n (a/d) (.row (au (ae bz n (a/d))) 3 1) rfl rfl hs o_ k_])
   (λw=>k_) (iK _) (GM hs) (CM hs) rfl
section
variable{B:Nat}
def sX(B U V q i:Nat):Int:=((U%B^i:Nat):Int)-(q:Int)*((V%B^i:Nat):Int)
def r7(B U V q i:Nat):Int:=sX B U V q i/((B^i:Nat):Int)
theorem aPb(U V q:Nat):r7 B U V q 0=0:=by simp[r7,sX,uf]
theorem aPc(U V q i:Nat):sX B U V q (i+1)=sX B U V q i+(((U/B^i%B:Nat):Int)-(q:Int)*((V/B^i%B:Nat):Int))*((B^i:Nat):Int):=by unfold sX;rw[pV U i,pV V i];simp only[wK,oO,Int.sub_mul,Int.mul_add,Int.mul_assoc];omega
theorem WB(hB:0<B)(U V q i:Nat):r7 B U V q i+(((U/B^i%B:Nat):Int)-(q:Int)*((V/B^i%B:Nat):Int))=sX B U V q (i+1)/((B^i:Nat):Int):=by
 have hp:((B^i:Nat):Int)≠0:=by have:=cP (n:=i) hB;omega
 rw[aPc,aBo _ _ hp];rfl
theorem aPd(hB:0<B)(U V q i:Nat):(r7 B U V q i+(((U/B^i%B:Nat):Int)-(q:Int)*((V/B^i%B:Nat):Int)))/(B:Int)=r7 B U V q (i+1):=by
 have hp:(0:Int)<=((B^i:Nat):Int):=by omega
 rw[WB hB,Int.ediv_ediv_of_nonneg hp];unfold r7
 congr 1
theorem aPe(hB:0<B)(U V q i:Nat):(sX B U V q i)%((B^i:Nat):Int)=((U:Int)-(q:Int)*(V:Int))%((B^i:Nat):Int):=by
 unfold sX;have e1:(U:Int)=((U%B^i:Nat):Int)+((B^i:Nat):Int)*((U/B^i:Nat):Int):=by rw[<-oO,<-wK,Nat.mod_add_div]
 have e2:(V:Int)=((V%B^i:Nat):Int)+((B^i:Nat):Int)*((V/B^i:Nat):Int):=by rw[<-oO,<-wK,Nat.mod_add_div]
 have e3:(U:Int)-(q:Int)*(V:Int)=(((U%B^i:Nat):Int)-(q:Int)*((V%B^i:Nat):Int))+((B^i:Nat):Int)*(((U/B^i:Nat):Int)-(q:Int)*((V/B^i:Nat):Int)):=by
  conv=>lhs;rw[e1,e2]
  rw[Int.mul_add,Int.mul_sub,Int.mul_left_comm (q:Int) ((B^i:Nat):Int)];omega
 rw[e3,aPf]
theorem aPg(hB:0<B){m U V q:Nat}(hq:q*V<=U+B^(m+1)):((gz B m U V q:Nat):Int)=((U:Int)-(q:Int)*(V:Int))%((B^(m+1):Nat):Int):=by
 unfold gz;rw[WA,Int.natCast_sub hq,wK,oO];have:(U:Int)+((B^(m+1):Nat):Int)-(q:Int)*(V:Int)=((U:Int)-(q:Int)*(V:Int))+((B^(m+1):Nat):Int):=by omega
 rw[this,Int.add_emod_right]
theorem aPh(hB:0<B){m U V q:Nat}(hq:q*V<=U+B^(m+1))(hi:i<=m):
  (r7 B U V q i+(((U/B^i%B:Nat):Int)-(q:Int)*((V/B^i%B:Nat):Int)))%(B:Int)=((gz B m U V q/B^i%B:Nat):Int):=by
 rw[WB hB];have hp:(0:Int)<=((B^i:Nat):Int):=by omega
 have fE:0<((B^i:Nat):Int):=by have:=cP (n:=i) hB;omega
 -- both are the same digit of the number aWV B^(i+1)
 have key:∀ x y:Int,x%((B^(i+1):Nat):Int)=y%((B^(i+1):Nat):Int)->x/((B^i:Nat):Int)%(B:Int)=y/((B^i:Nat):Int)%(B:Int):=by
  intro x y h;have one:∀ z:Int,z/((B^i:Nat):Int)%(B:Int)=z%((B^(i+1):Nat):Int)/((B^i:Nat):Int):=by
   intro z;have e:=Int.emod_add_mul_ediv z ((B^(i+1):Nat):Int);have hs:((B^(i+1):Nat):Int)=((B^i:Nat):Int)*(B:Int):=by rw[dG,oO]
   have e2:z/((B^i:Nat):Int)=z%((B^(i+1):Nat):Int)/((B^i:Nat):Int)+(B:Int)*(z/((B^(i+1):Nat):Int)):=by
    have h3:z=z%((B^(i+1):Nat):Int)+((B^i:Nat):Int)*((B:Int)*(z/((B^(i+1):Nat):Int))):=by rw[<-Int.mul_assoc,<-hs];exact e.symm
    conv=>lhs;rw[h3]
    rw[Int.add_mul_ediv_left _ _ o_]
   rw[e2,aPf];refine Int.emod_eq_of_lt (Int.ediv_nonneg (Int.emod_nonneg _ (by have:=cP (n:=i+1) hB;omega)) hp) ?_;have h4:z%((B^(i+1):Nat):Int)<((B^(i+1):Nat):Int):=Int.emod_lt_of_pos _ (by have:=cP (n:=i+1) hB;omega);rw[hs]at h4;exact Int.ediv_lt_of_lt_mul fE (by rw[Uh];exact h4)
  rw[one,one,h]
 have h1:=key (sX B U V q (i+1)) ((gz B m U V q:Nat):Int) (by
  rw[aPe hB,aPg hB hq];have hd:((B^(i+1):Nat):Int) ∣ ((B^(m+1):Nat):Int):=by refine⟨((B^(m-i):Nat):Int),?_⟩;rw[<-oO,<-eR];congr 2;omega
  rw[Int.emod_emod_of_dvd _ hd])
 rw[h1];simp only[WA,ug]
theorem aPi(hB:0<B){m U V q:Nat}(hV:V<B^m)(hU:U<V*B)(hb:q*V<U+V):
  r7 B U V q m+((U/B^m%B:Nat):Int)=if U<q*V then -1 else((gz B m U V q/B^m%B:Nat):Int):=by
 have DN:U<B^(m+1):=by rw[dG];exact cG hU (eV _ (jl hV))
 have TO:V<=B^(m+1):=dq (jl hV) (df hB o_);have hp:0<B^m:=cP hB;have h0:V/B^m%B=0:=rH hV (bC _) hB;have h1:=WB hB U V q m;rw[h0,Int.natCast_zero,Int.mul_zero,Int.sub_zero]at h1;rw[h1];unfold sX;rw[dW DN,dW (cG hV (df hB o_))];by_cases h:U<q*V
 ·rw[aB h];have e:(U:Int)-(q:Int)*(V:Int)=((U+B^m-q*V:Nat):Int)+((B^m:Nat):Int)*(-1):=by have:((q*V:Nat):Int)=(q:Int)*(V:Int):=oO ..;omega
  rw[e,Int.add_mul_ediv_left _ _ o_,<-ug,mS o_];rfl
 ·rw[av h];have e:(U:Int)-(q:Int)*(V:Int)=((U-q*V:Nat):Int):=by have:((q*V:Nat):Int)=(q:Int)*(V:Int):=oO ..;omega
  have e2:gz B m U V q=U-q*V:=by
   unfold gz;have:U+B^(m+1)-q*V=(U-q*V)+B^(m+1):=by omega
   rw[this,KR,dW o_]
  have al:(U-q*V)/B^m<B:=by rw[iP hp,cX B,<-dG];show U-q*V<B^(m+1);omega
  rw[e,e2,dW al,<-ug]
theorem aPj(hB:0<B){m U V q:Nat}(hV:V<B^m)(hU:U<V*B)(hb:q*V<U+V)(h:U<q*V):e9 B (gz B m U V q) V m=1:=by
 have TO:V<=B^m:=jl hV;have hp:0<B^m:=cP hB;have hs:B^(m+1)=B^m*B:=dG ..;have DN:U<B^(m+1):=by rw[hs];exact cG hU (eV _ TO)
 have hBm:B^m<=B^(m+1):=df hB o_;obtain⟨t,ht⟩:∃ t,t=q*V-U:=⟨_,rfl⟩;have e1:gz B m U V q=B^(m+1)-t:=by unfold gz;rw[dW o_];omega
 have e2:(B^(m+1)-t)%B^m=B^m-t:=by
  obtain⟨c,hc⟩:∃ c,B=c+1:=⟨B-1,by omega⟩;have:B^(m+1)-t=(B^m-t)+B^m*c:=by
   have e3:B^m*B=B^m*c+B^m:=by rw[<-Od,Nat.succ_eq_add_one,<-hc]
   rw[hs,e3];omega
  rw[this,Fz,dW o_]
 unfold e9;rw[e1,e2,dW hV];have:B^m-t+V=(V-t)+1*B^m:=by omega
 rw[this,pW _ _ hp,mS o_]
end
theorem aD5{B:Nat}(hB:0<B)(U V q i:Nat):-(q:Int)<=r7 B U V q i/\r7 B U V q i<=0:=by
 unfold r7 sX;have hp:0<B^i:=cP hB;have h1:U%B^i<B^i:=cM _ hp;have h2:V%B^i<B^i:=cM _ hp;have h3:=jK q (jl h2);generalize U%B^i=u at *;generalize V%B^i=v at *;have e1:(q:Int)*(v:Int)=((q*v:Nat):Int):=by simp
 rw[e1];generalize q*v=s at *;generalize B^i=b at *;constructor
 ·rw[Int.le_ediv_iff_mul_le o_];have:-(q:Int)*(b:Int)=-((q*b:Nat):Int):=by simp[Io]
  rw[this];omega
 ·have:((u:Int)-(s:Int))/(b:Int)<1:=Int.ediv_lt_of_lt_mul o_ o_;omega
section
variable{Bs:aa}{e L j T v1 v2 u2:Nat}{ru rv:ak}
def yG(e L j T q:Nat):aX:=[(15,vI q),(9,sl 3 (e+2)),(10,vI (e+2)),(14,vI T),(11,sl 8 L),(13,dw (j+1))]
def yH(ru rv:ak):aL:=[(8,.row ru 3 1),(3,.row rv 3 1)]
structure GU(e L j T v1 v2 u2:Nat)(ru rv:ak):Prop where
 hL:j+(e+2)+1<=L
 l1:dI prog 3 rv (e+1)=some (vI v1)
 l0:dI prog 3 rv e=some (vI v2)
 lu:dI prog 3 ru (j+e)=some (vI u2)
 b1:v1<bz
 b0:v2<bz
 bu:u2<bz
 h63:L<35184372088832
noncomputable def WC(g:GU e L j T v1 v2 u2 ru rv)(q r:Nat)(hq:q<bz)(hr:q*v1+r=T)(lv:r<2*bz)(t:Bool)(ht:decide (r*bz+u2<q*v2)=t)(more:bM prog Bs 238):bM prog Bs 238:=
 .fp 102 (e+2) 2 e o_ (by have:=g.hL;have:=g.h63;omega)::.ix f175 103 3 (e+2) e o_ k_::.ld f175 104 3 3 e (.row rv 3 1) (vI v2) rfl g.l0 k_::
 .tG 105 q v2 (q*v2) rfl (by
  have:=qE hq g.b0;have ke:bz*bz=281474976710656:=by decide
  omega)::.fp 110 (e+2) 1 (e+1) o_ (by have:=g.hL;have:=g.h63;omega)::.ix f175 111 3 (e+2) (e+1) o_ k_::.ld f175 112 3 3 (e+1) (.row rv 3 1) (vI v1) rfl g.l1 k_::
 .tG 113 q v1 (q*v1) rfl (by
  have:=qE hq g.b1;have ke:bz*bz=281474976710656:=by decide
  omega)::.fp 114 T (q*v1) r o_ (by
  have:=qE hq g.b1;have ke:bz*bz=281474976710656:=by decide
  have ke:bz=16777216:=rfl;omega)::.tG 115 r bz (r*bz) rfl (by
  have ke:bz=16777216:=rfl;rw[ke];omega)::.rw 117 (dw (j+1)) (vI j) (eB j)::.sum 119 j (e+2) (j+(e+2)) rfl (by have:=g.hL;have:=g.h63;omega)::.fp 120 (j+(e+2)) 2 (j+e) o_ (by have:=g.hL;have:=g.h63;omega)::
 .ix f175 121 8 L (j+e) (by have:=g.hL;omega) k_::.ld f175 122 3 8 (j+e) (.row ru 3 1) (vI u2) rfl g.lu k_::.sum 123 (r*bz) u2 (r*bz+u2) rfl (by have:=g.bu;have ke:bz=16777216:=rfl;rw[ke];omega)::.gt 124 (q*v2) (r*bz+u2) t ht::more
noncomputable def aD6(g:GU e L j T v1 v2 u2 ru rv)(q r:Nat)(hq:q<bz)(hr:q*v1+r=T)(lv:r<2*bz)(t:Bool)(ht:decide (r<bz)=t)(more:bM prog Bs 238):bM prog Bs 238:=
 .fp 130 (e+2) 1 (e+1) o_ (by have:=g.hL;have:=g.h63;omega)::.ix f175 131 3 (e+2) (e+1) o_ k_::.ld f175 132 3 3 (e+1) (.row rv 3 1) (vI v1) rfl g.l1 k_::
 .tG 133 q v1 (q*v1) rfl (by
  have:=qE hq g.b1;have ke:bz*bz=281474976710656:=by decide
  omega)::.fp 134 T (q*v1) r o_ (by
  have:=qE hq g.b1;have ke:bz*bz=281474976710656:=by decide
  have ke:bz=16777216:=rfl;omega)::.lt 135 r bz t ht::more
theorem aPk(g:GU e L j T v1 v2 u2 ru rv){q:Nat}(hq:q+1<bz)(hr:(q+1)*v1+r=T)(lv:r<bz)(ht:r*bz+u2<(q+1)*v2):
  ai prog Bs 238 (aJ (ah f175 2)) (yG e L j T (q+1)) (yH ru rv) 10 ⟨.normal,yG e L j T q,yH ru rv,10⟩:=
 fD mixed 200 (WC g (q+1) r hq hr o_ true (aH ht) (aD6 g (q+1) r hq hr o_ true (aH lv) [.fp 138 (q+1) 1 q rfl (by have ke:bz=16777216:=rfl;omega)])) k_
theorem aPl(g:GU e L j T v1 v2 u2 ru rv){q:Nat}(hq:q<bz)(hr:q*v1+r=T)(lv:r<2*bz)(ht:¬r*bz+u2<q*v2):
  ai prog Bs 238 (aJ (ah f175 2)) (yG e L j T q) (yH ru rv) 10 ⟨.exit 2,yG e L j T q,yH ru rv,10⟩:=
 fD mixed 200 (WC g q r hq hr lv false (aP ht) []) k_
theorem aPm(g:GU e L j T v1 v2 u2 ru rv){q:Nat}(hq:q<bz)(hr:q*v1+r=T)(lv:r<2*bz)(ht:r*bz+u2<q*v2)(hr3:¬r<bz):
  ai prog Bs 238 (aJ (ah f175 2)) (yG e L j T q) (yH ru rv) 10 ⟨.exit 2,yG e L j T q,yH ru rv,10⟩:=
 fD mixed 200 (WC g q r hq hr lv true (aH ht) (aD6 g q r hq hr lv false (aP hr3) [])) k_
theorem aPn(g:GU e L j T v1 v2 u2 ru rv){U V:Nat}(h:mV bz e U V T u2 v1 v2)(nJ:n2=min (T/v1) (bz-1)):
  ∃ q,q<bz/\q*V<U+V/\U/V<=q/\∀ Bs,ai prog Bs 238 (.block 2 (ah f175 2)) (yG e L j T n2) (yH ru rv) 10 ⟨.normal,yG e L j T q,yH ru rv,10⟩:=by
 have ke:bz=16777216:=rfl;have kB:0<v1:=by have:=h.top;omega
 have qW:=h.small;have bP:=h.start;have aWW:n2<bz:=by rw[nJ];exact fq (Nat.min_le_right _ _) o_
 have aWX:n2*v1<=T:=by
  have h1:n2<=T/v1:=by rw[nJ];exact Nat.min_le_left _ _
  exact dq (eV _ h1) (DM _ _)
 obtain⟨r0,nK⟩:∃ r0,r0=T-n2*v1:=⟨_,rfl⟩;have g0:B3 U V T v1 n2 r0:=⟨by omega,by rw[nJ];exact Nat.le_min.2 ⟨bP.le,by omega⟩⟩
 have aPo:r0<2*bz:=by
  have hTb:T<v1*bz+bz:=by
   have h1:U<V*bz:=h.hU;rw[h.hT,iP (cP d_)];have h2:V<(v1+1)*bz^(e+1):=by rw[h.kB];exact(iP (cP d_)).1 (B5 _)
   have h3:=B4 h2 (show 0<bz by decide);have h4:(v1+1)*bz^(e+1)*bz=(v1*bz+bz)*bz^(e+1):=by rw[B7,fQ v1 1 bz,pv]
   omega
  by_cases hc:T/v1<=bz-1
  ·have e1:n2=T/v1:=by rw[nJ];exact oP hc
   have e2:r0=T%v1:=by have:=jz T v1;rw[nK,e1,cX];omega
   have:=cM T kB;have:=h.DK;omega
  ·have e1:n2=bz-1:=by rw[nJ];exact WD o_
   obtain⟨k,hk⟩:∃ k,bz=k+1:=⟨bz-1,by omega⟩;have e2:n2*v1+v1=v1*bz:=by rw[e1,hk,OG,cX v1,fQ,pv]
   have:=h.DK;omega
 obtain⟨c,c1,c2,c3⟩:=zE (λi=>¬((r0+i*v1)*bz+u2<(n2-i)*v2/\r0+i*v1<bz)) n2 (by rw[wI,lP];omega)
 have inv:∀ i,i<=c->B3 U V T v1 (n2-i) (r0+i*v1)/\r0+i*v1<2*bz/\i<=n2:=by
  intro i;induction i with
  |zero=>intro _;rw[HL,lP,jf];exact⟨g0,aPo,lM _⟩
  |succ i ih=>
   intro hi;obtain⟨i1,i2,i3⟩:=ih o_;obtain⟨k1,k2⟩:=FE.1 (c3 i o_);obtain⟨l1,l2⟩:=h.less i1 (.inr k1);have e1:r0+(i+1)*v1=r0+i*v1+v1:=by rw[fQ,pv];omega
   have e2:n2-(i+1)=n2-i-1:=by omega
   have:=h.DK;rw[e1,e2];exact⟨l2,by omega,by omega⟩
 obtain⟨gc,gb,gq⟩:=inv c (bC _);have EA:=h.fin gc (by
  by_cases k1:(r0+c*v1)*bz+u2<(n2-c)*v2
  ·exact .inr (PH λk2=>c2 ⟨k1,k2⟩)
  ·exact .inl ⟨by omega,by omega⟩)
 refine⟨n2-c,EA.1,EA.2,gc.le,λBs=>?_⟩
 have:=cA (P:=prog) (B:=Bs) (N:=238) (b:=aJ (ah f175 2)) (next:=10) (r:=⟨.exit 2,yG e L j T (n2-c),yH ru rv,10⟩) c (λi=>yG e L j T (n2-i)) (λ_=>yH ru rv) (λ_ _ _=>Iff.rfl)
  (λi hi=>by
   obtain⟨i1,i2,i3⟩:=inv i o_;obtain⟨j1,j2,j3⟩:=inv (i+1) o_;obtain⟨k1,k2⟩:=FE.1 (c3 i hi);obtain⟨q,hq⟩:∃ q,n2-i=q+1:=⟨n2-i-1,by omega⟩;have pJ:n2-(i+1)=q:=by omega
   simp only[hq,pJ]at i1 k1 ⊢;exact aPk g o_ i1.eq k2 k1)
  (by
   by_cases k1:(r0+c*v1)*bz+u2<(n2-c)*v2
   ·exact aPm g o_ gc.eq gb k1 (λk2=>c2 ⟨k1,k2⟩)
   ·exact aPl g o_ gc.eq gb k1) n_
 exact cd (id:=2) this
end
theorem aD7(x:Int):IntKind.i64.wrap (((BitVec.ofInt IntKind.i64.bits x)&&& (BitVec.ofInt IntKind.i64.bits 16777215)).toNat:Int)=x%16777216:=aD3 x 24 d_
theorem aD8(x:Int):x.fdiv ((2:Int)^24)=x/16777216:=sT _ d_
section
variable{Bs:aa}{e L j U V q R D:Nat}{rv:ak}
def EB(e L j U V q i:Nat):aX:=[(16,.int .i64 (r7 bz U V q i)),(17,vI i),(10,vI (e+2)),(11,sl 8 L),(13,dw (j+1)),(15,vI q),(9,sl 3 (e+2))]
def qi(L j R D i:Nat):ak:=au (dc bz L (j+i) (gK bz j R D) R)
def AN(L j R D i:Nat)(rv:ak):aL:=[(8,.row (qi L j R D i) 3 1),(3,.row rv 3 1)]
structure SU(e L j U V q R D:Nat)(rv:ak):Prop where
 hL:j+(e+2)+1<=L
 hU:U=R/bz^j
 yI:rv=au (ae bz (e+2) V)
 hq:q<bz
 hD:D=gz bz (e+2) U V q
 Mv:q*V<=U+bz^(e+2+1)
 h63:L<35184372088832
theorem aPp(g:SU e L j U V q R D rv)(hi:i<e+2):
  ai prog Bs 238 (aJ (ah f175 4)) (EB e L j U V q i) (AN L j R D i rv) 10 ⟨.normal,EB e L j U V q (i+1),AN L j R D (i+1) rv,10⟩:=by
 have h63:=g.h63;have hL:=g.hL;have hq:=g.hq;have hc:=aD5 (B:=bz) d_ U V q i;have hs:=aPh (B:=bz) d_ (i:=i) g.Mv o_;rw[<-g.hD]at hs;have dp:=aPd (B:=bz) d_ U V q i;have WE:dI prog 3 (qi L j R D i) (j+i)=some (vI (U/bz^i%bz)):=by have:=ev (Dn (B:=bz) (n:=L) (i:=j+i) (s:=gK bz j R D) (p:=R) (j:=j+i) o_ (bC _));rw[Ib,<-g.hU]at this;exact this
 have WG:dI prog 3 rv i=some (vI (V/bz^i%bz)):=by rw[g.yI];exact ev (eP hi)
 have bP:fo prog 3 (qi L j R D i) (j+i) (vI (D/bz^i%bz))=some (qi L j R D (i+1)):=by unfold qi;rw[xe (by rw[xM];omega),zF o_ (xX d_ j R D i).symm];rfl
 have hu:=iB (B:=bz) d_ U i;have hv:=iB (B:=bz) d_ V i;have ke:bz=16777216:=rfl;have aPq:((bz:Nat):Int)=16777216:=rfl;rw[aPq]at hs dp;unfold EB AN;generalize qi L j R D (i+1)=r1 at *;generalize qi L j R D i=r0 at *;generalize r7 bz U V q (i+1)=c' at *;generalize r7 bz U V q i=c at *;generalize D/bz^i%bz=z at *;generalize U/bz^i%bz=u at *;generalize V/bz^i%bz=v at *;have hp:=qE hq hv;rw[show bz*bz=281474976710656 by decide]at hp;have e1:(q:Int)*(v:Int)=((q*v:Nat):Int):=by simp
 rw[e1]at hs dp;generalize GS:q*v=p at *;have w1:IntKind.i64.wrap ((u:Int)-(p:Int))=(u:Int)-(p:Int):=by rw[dh];omega
 have w2:IntKind.i64.wrap (c+((u:Int)-(p:Int)))=c+((u:Int)-(p:Int)):=by rw[dh];omega
 generalize hx:c+((u:Int)-(p:Int))=x at *;have w3:=aD7 x;rw[hs]at w3;have w4:=aD8 x;rw[dp]at w4;exact fD mixed 200 [.lt 141 i (e+2) true (by simp[hi]),.rw 146 (dw (j+1)) (vI j) (eB j),.sum 148 j i (j+i) rfl o_,.ix f175 149 8 L (j+i) o_ k_,.ld f175 150 3 8 (j+i) (.row r0 3 1) (vI u) rfl WE k_,.ix f175 154 3 (e+2) i hi k_,.ld f175 155 3 3 i (.row rv 3 1) (vI v) rfl WG k_,.tG 156 q v p GS.symm o_,.wr 157 .i64 _ _ w1,.wr 158 .i64 (c+((u:Int)-(p:Int))) x (by rw[hx];exact w2),.rw 160 (dw (j+1)) (vI j) (eB j),.sum 162 j i (j+i) rfl o_,.wr 164 .i64 _ (z:Int) w3,.ix f175 165 8 L (j+i) o_ k_,.st f175 100165 3 8 (j+i) (.row r0 3 1) (vI z) (.row r1 3 1) rfl bP rfl k_,.quo 167 .i64 _ c' w4,.sum 143 i 1 (i+1) rfl o_] k_
theorem aPr(g:SU e L j U V q R D rv):ai prog Bs 238 (.block 4 (ah f175 4)) (EB e L j U V q 0) (AN L j R D 0 rv) 10 ⟨.normal,EB e L j U V q (e+2),AN L j R D (e+2) rv,10⟩:=
 cd (id:=4) (cA (b:=aJ (ah f175 4)) (r:=⟨.exit 4,EB e L j U V q (e+2),AN L j R D (e+2) rv,10⟩) (e+2) (EB e L j U V q) (λi=>AN L j R D i rv) (λk t _=>km (l:=AN L j R D k rv) (m:=AN L j R D 0 rv) rfl t) (λk hk=>aPp g hk)
  (fD mixed 200 [.lt 141 (e+2) (e+2) false s_] k_) n_)
def EC(e L j V D q i:Nat):aX:=[(16,vI (e9 bz D V i)),(18,vI i),(10,vI (e+2)),(11,sl 8 L),(13,dw (j+1)),(15,vI q),(9,sl 3 (e+2))]
def qX(L j R D E m i:Nat):ak:=(au (dc bz L (j+i) (gK bz j R E) (gK bz j R D))).set (j+m) (.int .i64 (-1))
def AO(L j R D E m i:Nat)(rv:ak):aL:=[(8,.row (qX L j R D E m i) 3 1),(3,.row rv 3 1)]
theorem aPs{E:Nat}(hL:j+(e+2)+1<=L)(yI:rv=au (ae bz (e+2) V))(hE:E=(D+V)%bz^(e+2+1))(h63:L<35184372088832)(hi:i<e+2):
  ai prog Bs 238 (aJ (ah f175 6)) (EC e L j V D q i) (AO L j R D E (e+2) i rv) 10 ⟨.normal,EC e L j V D q (i+1),AO L j R D E (e+2) (i+1) rv,10⟩:=by
 have hc:=BJ (B:=bz) d_ D V i;have hs:=TP (B:=bz) (V:=V) d_ (D:=D) (show i<=e+2 by omega);rw[<-hE]at hs;have dp:=Fy (B:=bz) d_ D V i;have WE:dI prog 3 (qX L j R D E (e+2) i) (j+i)=some (vI (D/bz^i%bz)):=by unfold qX;rw[GF,List.getElem?_set_ne o_,<-GF,ev (Dn o_ (bC _)),xX d_]
 have WG:dI prog 3 rv i=some (vI (V/bz^i%bz)):=by rw[yI];exact ev (eP hi)
 have bP:fo prog 3 (qX L j R D E (e+2) i) (j+i) (vI (E/bz^i%bz))=some (qX L j R D E (e+2) (i+1)):=by unfold qX;unfold vI;rw[QD _ _ _ (by rw[WH,oF,xM];omega),List.set_comm _ _ o_];have:=QE (dc bz L (j+i) (gK bz j R E) (gK bz j R D)) (j+i) (E/bz^i%bz);unfold vI at this;rw[this,zF o_ (xX d_ j R E i).symm];rfl
 have hu:=iB (B:=bz) d_ D i;have hv:=iB (B:=bz) d_ V i;have ke:bz=16777216:=rfl;unfold EC AO;generalize qX L j R D E (e+2) (i+1)=r1 at *;generalize qX L j R D E (e+2) i=r0 at *;generalize e9 bz D V (i+1)=c' at *;generalize e9 bz D V i=c at *;generalize E/bz^i%bz=z at *;generalize D/bz^i%bz=u at *;generalize V/bz^i%bz=v at *;rw[show u+v+c=c+(u+v)by omega]at hs dp;have w3:=aD7 ((c+(u+v):Nat):Int);have w4:=aD8 ((c+(u+v):Nat):Int);rw[show((c+(u+v):Nat):Int)%16777216=(z:Int)by rw[<-hs];rfl]at w3;rw[show((c+(u+v):Nat):Int)/16777216=(c':Int)by rw[<-dp];rfl]at w4;exact fD mixed 200 [.lt 188 i (e+2) true (by simp[hi]),.rw 193 (dw (j+1)) (vI j) (eB j),.sum 195 j i (j+i) rfl o_,.ix f175 196 8 L (j+i) o_ k_,.ld f175 197 3 8 (j+i) (.row r0 3 1) (vI u) rfl WE k_,.ix f175 200 3 (e+2) i hi k_,.ld f175 201 3 3 i (.row rv 3 1) (vI v) rfl WG k_,.sum 202 u v (u+v) rfl o_,.sum 203 c (u+v) (c+(u+v)) rfl o_,.rw 205 (dw (j+1)) (vI j) (eB j),.sum 207 j i (j+i) rfl o_,.wr 209 .i64 _ (z:Int) w3,.ix f175 210 8 L (j+i) o_ k_,.st f175 100210 3 8 (j+i) (.row r0 3 1) (vI z) (.row r1 3 1) rfl bP rfl k_,.quo 212 .i64 _ (c':Int) w4,.sum 190 i 1 (i+1) rfl o_] k_
theorem aPt{E:Nat}(hL:j+(e+2)+1<=L)(yI:rv=au (ae bz (e+2) V))(hE:E=(D+V)%bz^(e+2+1))(h63:L<35184372088832):
  ai prog Bs 238 (.block 6 (ah f175 6)) (EC e L j V D q 0) (AO L j R D E (e+2) 0 rv) 10 ⟨.normal,EC e L j V D q (e+2),AO L j R D E (e+2) (e+2) rv,10⟩:=
 cd (id:=6) (cA (b:=aJ (ah f175 6)) (r:=⟨.exit 6,EC e L j V D q (e+2),AO L j R D E (e+2) (e+2) rv,10⟩) (e+2) (EC e L j V D q) (λi=>AO L j R D E (e+2) i rv) (λk t _=>km (l:=AO L j R D E (e+2) k rv) (m:=AO L j R D E (e+2) 0 rv) rfl t) (λk hk=>aPs hL yI hE h63 hk)
  (fD mixed 200 [.lt 188 (e+2) (e+2) false s_] k_) n_)
end
variable{q j:Nat}
theorem aPu{B L S R:Nat}(hi:i<L)(hR:R<B^(i+1))(hS:S<B^(i+1))(hB:0<B)(x:i_):(au (dc B L i S R)).set i x=(au (ae B L S)).set i x:=by have h:=zF (B:=B) (n:=L) (i:=i) (s:=S) (p:=R) hi rfl;rw[FO hB hR hS]at h;rw[<-h,<-QE,List.set_set]
structure Mw(e L A V:Nat):Prop where
 hV:V<bz^(e+2)
 top:bz<=2*(V/bz^(e+1))
 hL:e+3<=L
 hA:A<V*bz^(L-(e+2))
 h63:L<35184372088832
theorem Mw.pos{e L A V:Nat}(h:Mw e L A V):0<V:=by
 rcases oV V with e1|e1
 ·have:=h.hA;rw[e1,lP]at this;omega
 ·exact e1
variable{e A:Nat}
section
variable{Bs:aa}{e L A V p:Nat}
def ED(e L p j:Nat):aX:=[(13,dw j),(12,sl 9 p),(10,vI (e+2)),(9,sl 3 (e+2)),(11,sl 8 L)]
def AP(e L A V p j:Nat):aL:=[(8,.row (au (ae bz L (A%(V*bz^j)))) 3 1),(9,.row (au (gY bz p j (A/V))) 3 1),(3,.row (au (ae bz (e+2) V)) 3 1)]
theorem aPv(h:Mw e L A V)(hp:p+(e+2)=L)(hj:j<p):
  ai prog Bs 238 (aJ (ah f175 0)) (ED e L p (j+1)) (AP e L A V p (j+1)) 10 ⟨.normal,ED e L p j,AP e L A V p j,10⟩:=by
 have h63:=h.h63;have rK:=h.pos;have hV:=h.hV;have BE:j+(e+2)+1<=L:=by omega
 obtain⟨R,hR⟩:∃ R,R=A%(V*bz^(j+1)):=⟨_,rfl⟩;obtain⟨U,hU⟩:∃ U,U=R/bz^j:=⟨_,rfl⟩;have Jj:U<V*bz:=by rw[hU,hR];exact aA4 d_ rK A j
 have sG:=aA2 (B:=bz) d_ A V j;have aD9:=aA3 (B:=bz) A V j;rw[<-hR,<-hU]at sG aD9;have z7:R<bz^(j+(e+2)+1):=by
  have h1:R<V*bz^(j+1):=by rw[hR];exact cM _ (rL rK (cP d_))
  have h2:V*bz^(j+1)<=bz^(e+2)*bz^(j+1):=eV _ (jl hV);rw[<-eR,show e+2+(j+1)=j+(e+2)+1 by omega]at h2;omega
 have aPw:U<bz^(e+2+1):=by rw[dG];exact cG Jj (eV _ (jl hV))
 obtain⟨T,hT⟩:∃ T,T=U/bz^(e+1):=⟨_,rfl⟩;obtain⟨v1,kB⟩:∃ v1,v1=V/bz^(e+1):=⟨_,rfl⟩;have aEa:V/bz^(e+1)%bz=v1:=by rw[kB];exact Fx hV
 have aEb:v1<bz:=by rw[<-aEa];exact cM _ d_
 have ds:mV bz e U V T (U/bz^e%bz) v1 (V/bz^e%bz):={ hB:=by decide,hU:=Jj,hT:=hT,hu:=rfl,kB:=kB,iz:=rfl,top:=by rw[kB];exact h.top,DK:=aEb };have lU:∀ i,i<=e+2->dI prog 3 (au (ae bz L R)) (j+i)=some (vI (U/bz^i%bz)):=λi hi=>by have:=ev (eP (B:=bz) (n:=L) (a:=R) (i:=j+i) o_);rw[Ib,<-hU]at this;exact this
 obtain⟨rv,yI⟩:∃ rv,rv=au (ae bz (e+2) V):=⟨_,rfl⟩;have WI:dI prog 3 rv (e+1)=some (vI v1):=by rw[yI,<-aEa];exact ev (eP o_)
 have lV0:dI prog 3 rv e=some (vI (V/bz^e%bz)):=by rw[yI];exact ev (eP o_)
 have g:GU e L j T v1 (V/bz^e%bz) (U/bz^e%bz) (au (ae bz L R)) rv:=⟨BE,WI,lV0,lU e o_,aEb,cM _ d_,cM _ d_,h63⟩;obtain⟨q0,nJ⟩:∃ q0,q0=min (T/v1) (bz-1):=⟨_,rfl⟩;obtain⟨q,Ih,Mv,aPx,gl⟩:=aPn g ds nJ;obtain⟨D,hD⟩:∃ D,D=gz bz (e+2) U V q:=⟨_,rfl⟩;have aPy:D<bz^(e+2+1):=by rw[hD];exact TN d_
 have aWY:V<=bz^(e+2+1):=dq (jl hV) (df d_ o_);have sg:SU e L j U V q R D rv:=⟨BE,hU,yI,Ih,hD,by omega,h63⟩;have sl:=aPr (Bs:=Bs) sg;have WJ:gK bz j R D<bz^(j+(e+2)+1):=by have:=Ia (B:=bz) d_ (j:=j) R aPy;rwa[show j+(e+2+1)=j+(e+2)+1 by omega]at this
 have qN:qi L j R D 0=au (ae bz L R):=by unfold qi;rw[jf,OH d_]
 have jm:dI prog 3 (qi L j R D (e+2)) (j+(e+2))=some (vI (U/bz^(e+2)%bz)):=by have:=ev (Dn (B:=bz) (n:=L) (i:=j+(e+2)) (s:=gK bz j R D) (p:=R) (j:=j+(e+2)) o_ (bC _));rw[Ib,<-hU]at this;exact this
 have xZ:=aPi (B:=bz) d_ hV Jj Mv;have hsb:=aD5 (B:=bz) d_ U V q (e+2);have Mx:U/bz^(e+2)%bz*bz+U/bz^(e+1)%bz=T:=by have h1:=xN (B:=bz) U (e+1);have h2:U/bz^(e+2)%bz=U/bz^(e+2):=Fx aPw;rw[h2,hT];exact h1.symm
 have kk:U/bz^(e+2)%bz<bz:=cM _ d_;have wX:U/bz^(e+1)%bz<bz:=cM _ d_;have ju:=lU (e+2) (bC _);have wo:=lU (e+1) o_;have WK:fo prog 3 (au (gY bz p (j+1) (A/V))) j (vI (U/V))=some (au (gY bz p j (A/V))):=by rw[xe (by rw[Of];exact hj),Oh hj aD9]
 have hTb:T<281474976710656+16777216:=by have ke:bz=16777216:=rfl;rw[ke]at kk wX Mx;omega
 have FQ:(v1:Int)≠0:=by have:=ds.top;have ke:bz=16777216:=rfl;omega
 have wq:IntKind.i64.wrap (Int.tdiv (T:Int) (v1:Int))=((T/v1:Nat):Int):=by have hq:T/v1<=T:=uh _ _;rw[BP o_,<-ug,dh];omega
 unfold ED AP;rw[<-hR,<-yI];unfold EB AN at sl;rw[qN,aPb]at sl;unfold yG yH at gl;have gl:=gl Bs;have ke:bz=16777216:=rfl;rw[<-hD]at xZ;by_cases hb:U<q*V
 ·-- the aWZ ZY too aW0
  obtain⟨g1,g2⟩:=aA1 (B:=bz) d_ hV Jj Mv hb;have KU:=aPj (B:=bz) d_ hV Jj Mv hb;rw[<-hD]at g2 KU;obtain⟨E,hE⟩:∃ E,E=(D+V)%bz^(e+2+1):=⟨_,rfl⟩;have bl:=aPt (Bs:=Bs) (q:=U/V) (R:=R) (D:=D) BE yI hE h63;rw[<-hE]at g2;rw[<-g2]at sG;have aEc:E<bz^(e+2):=by rw[g2];exact mU (cM _ rK) hV
  have hS2:gK bz j R E<bz^(j+(e+2)+1):=by have:=Ia (B:=bz) d_ (j:=j) R (cG aEc (df (n:=bz) d_ (zq _)));rwa[show j+(e+2).succ=j+(e+2)+1 by omega]at this
  have lB:qX L j R D E (e+2) 0=(qi L j R D (e+2)).set (j+(e+2)) (.int .i64 (-1)):=by unfold qX qi;rw[aPu o_ z7 WJ d_,jf,<-aAY d_ j R D E,OH d_]
  have KS:fo prog 3 (qi L j R D (e+2)) (j+(e+2)) (.int .i64 (-1))=some (qX L j R D E (e+2) 0):=by rw[lB];exact QD _ _ _ (by unfold qi;rw[oF,xM];omega)
  have EE:∀ i,dI prog 3 (qX L j R D E (e+2) i) (j+(e+2))=some (.int .i64 (-1)):=λi=>by unfold qX;rw[GF,List.getElem?_set_self (by rw[oF,xM];omega)]
  have aPz:=EE 0;have aPA:=EE (e+2);have TT:fo prog 3 (qX L j R D E (e+2) (e+2)) (j+(e+2)) (.int .i64 0)=some (au (ae bz L (A%(V*bz^j)))):=by unfold qX;rw[QD _ _ _ (by rw[WH,oF,xM];omega),List.set_set];have h1:=zF (B:=bz) (n:=L) (i:=j+(e+2)) (s:=gK bz j R E) (p:=gK bz j R D) (d:=0) o_ (by rw[xX d_,rH aEc (bC _) d_]);rw[FO d_ WJ hS2]at h1;have h2:=QE (dc bz L (j+(e+2)) (gK bz j R E) (gK bz j R D)) (j+(e+2)) 0;rw[h1]at h2;exact cO some (h2.trans (by rw[sG]))
  rw[aB hb]at xZ;unfold EC AO at bl;rw[Ob,KU]at bl;generalize au (ae bz L (A%(V*bz^j)))=r9 at *;generalize au (ae bz L R)=r0 at *;generalize qi L j R D (e+2)=r1 at *;generalize qX L j R D E (e+2) 0=r2 at *;generalize qX L j R D E (e+2) (e+2)=r3 at *;generalize au (gY bz p (j+1) (A/V))=p0 at *;generalize au (gY bz p j (A/V))=p1 at *;generalize r7 bz U V q (e+2)=c at *;generalize U/bz^(e+2)%bz=t1 at *;generalize U/bz^(e+1)%bz=t0 at *;generalize U/V=qq at *;have WL:IntKind.i64.wrap ((t1:Int)+c)=-1:=by rw[dh];omega
  have m1:t1*bz<281474976710656:=by rw[ke];omega
  obtain⟨x1,gQ⟩:∃ x1,x1=t1*bz:=⟨_,rfl⟩;rw[<-gQ]at Mx m1;exact fD mixed 400 [.rw 72 (dw (j+1)) (vI j) (eB j),.ge 73 j 0 true s_,.rw 77 (dw (j+1)) (vI j) (eB j),.sum 79 j (e+2) (j+(e+2)) rfl o_,.ix f175 80 8 L (j+(e+2)) o_ k_,.ld f175 81 3 8 (j+(e+2)) (.row r0 3 1) (vI t1) rfl ju k_,.tG 82 t1 bz x1 gQ o_,.rw 84 (dw (j+1)) (vI j) (eB j),.sum 86 j (e+2) (j+(e+2)) rfl o_,.fp 87 (j+(e+2)) 1 (j+(e+1)) o_ o_,.ix f175 88 8 L (j+(e+1)) o_ k_,.ld f175 89 3 8 (j+(e+1)) (.row r0 3 1) (vI t0) rfl wo k_,.sum 90 x1 t0 T Mx.symm o_,.fp 94 (e+2) 1 (e+1) o_ o_,.ix f175 95 3 (e+2) (e+1) o_ k_,.ld f175 96 3 3 (e+1) (.row rv 3 1) (vI v1) rfl WI k_,.rI f175 97 .i64 (T:Int) (v1:Int) ((T/v1:Nat):Int) FQ wq k_,.QP f175 98 (T/v1) (bz-1) q0 nJ k_,.code 2 _ _ _ _ _ gl,.code 4 _ _ _ _ _ sl,.rw 169 (dw (j+1)) (vI j) (eB j),.sum 171 j (e+2) (j+(e+2)) rfl o_,.ix f175 172 8 L (j+(e+2)) o_ k_,.ld f175 173 3 8 (j+(e+2)) (.row r1 3 1) (vI t1) rfl jm k_,.wr 175 .i64 ((t1:Int)+c) (-1) WL,.ix f175 176 8 L (j+(e+2)) o_ k_,.st f175 100176 3 8 (j+(e+2)) (.row r1 3 1) (.int .i64 (-1)) (.row r2 3 1) rfl KS rfl k_,.rw 178 (dw (j+1)) (vI j) (eB j),.sum 180 j (e+2) (j+(e+2)) rfl o_,.ix f175 181 8 L (j+(e+2)) o_ k_,.ld f175 182 3 8 (j+(e+2)) (.row r2 3 1) (.int .i64 (-1)) rfl aPz k_,.fp 185 q 1 qq o_ o_,.code 6 _ _ _ _ _ bl,.rw 214 (dw (j+1)) (vI j) (eB j),.sum 216 j (e+2) (j+(e+2)) rfl o_,.ix f175 217 8 L (j+(e+2)) o_ k_,.ld f175 218 3 8 (j+(e+2)) (.row r3 3 1) (.int .i64 (-1)) rfl aPA k_,.wr 220 .i64 (-1+((1:Nat):Int)) 0 d_,.ix f175 221 8 L (j+(e+2)) o_ k_,.st f175 100221 3 8 (j+(e+2)) (.row r3 3 1) (.int .i64 0) (.row r9 3 1) rfl TT rfl k_,
   .rw 223 (dw (j+1)) (vI j) (eB j),.ix f175 225 9 p j hj k_,.st f175 100225 3 9 j (.row p0 3 1) (vI qq) (.row p1 3 1) rfl WK rfl k_,.rw 74 (dw (j+1)) (vI j) (eB j),.wr 75 .i64 ((j:Int)-1) ((j:Int)-1) (pA o_)] k_
 ·obtain⟨g1,g2⟩:=aA0 (B:=bz) d_ hV Jj aPx hb;rw[<-hD]at g2;rw[<-g2]at sG;have KS:fo prog 3 (qi L j R D (e+2)) (j+(e+2)) (vI (D/bz^(e+2)%bz))=some (au (ae bz L (A%(V*bz^j)))):=by unfold qi;rw[xe (by rw[xM];omega),zF o_ (xX d_ j R D (e+2)).symm,FO d_ z7 WJ,sG]
  have EE:dI prog 3 (au (ae bz L (A%(V*bz^j)))) (j+(e+2))=some (vI (D/bz^(e+2)%bz)):=by rw[<-sG,ev (eP o_),xX d_]
  rw[av hb]at xZ;have Gq:D/bz^(e+2)%bz<bz:=cM _ d_;rw[<-g1]at WK;generalize au (ae bz L (A%(V*bz^j)))=r9 at *;generalize au (ae bz L R)=r0 at *;generalize qi L j R D (e+2)=r1 at *;generalize au (gY bz p (j+1) (A/V))=p0 at *;generalize au (gY bz p j (A/V))=p1 at *;generalize r7 bz U V q (e+2)=c at *;generalize U/bz^(e+2)%bz=t1 at *;generalize U/bz^(e+1)%bz=t0 at *;generalize D/bz^(e+2)%bz=d at *;have WL:IntKind.i64.wrap ((t1:Int)+c)=(d:Int):=by rw[dh];omega
  have m1:t1*bz<281474976710656:=by rw[ke];omega
  obtain⟨x1,gQ⟩:∃ x1,x1=t1*bz:=⟨_,rfl⟩;rw[<-gQ]at Mx m1;exact fD mixed 400 [.rw 72 (dw (j+1)) (vI j) (eB j),.ge 73 j 0 true s_,.rw 77 (dw (j+1)) (vI j) (eB j),.sum 79 j (e+2) (j+(e+2)) rfl o_,.ix f175 80 8 L (j+(e+2)) o_ k_,.ld f175 81 3 8 (j+(e+2)) (.row r0 3 1) (vI t1) rfl ju k_,.tG 82 t1 bz x1 gQ o_,.rw 84 (dw (j+1)) (vI j) (eB j),.sum 86 j (e+2) (j+(e+2)) rfl o_,.fp 87 (j+(e+2)) 1 (j+(e+1)) o_ o_,.ix f175 88 8 L (j+(e+1)) o_ k_,.ld f175 89 3 8 (j+(e+1)) (.row r0 3 1) (vI t0) rfl wo k_,.sum 90 x1 t0 T Mx.symm o_,.fp 94 (e+2) 1 (e+1) o_ o_,.ix f175 95 3 (e+2) (e+1) o_ k_,.ld f175 96 3 3 (e+1) (.row rv 3 1) (vI v1) rfl WI k_,.rI f175 97 .i64 (T:Int) (v1:Int) ((T/v1:Nat):Int) FQ wq k_,.QP f175 98 (T/v1) (bz-1) q0 nJ k_,.code 2 _ _ _ _ _ gl,.code 4 _ _ _ _ _ sl,.rw 169 (dw (j+1)) (vI j) (eB j),.sum 171 j (e+2) (j+(e+2)) rfl o_,.ix f175 172 8 L (j+(e+2)) o_ k_,.ld f175 173 3 8 (j+(e+2)) (.row r1 3 1) (vI t1) rfl jm k_,.wr 175 .i64 ((t1:Int)+c) (d:Int) WL,.ix f175 176 8 L (j+(e+2)) o_ k_,.st f175 100176 3 8 (j+(e+2)) (.row r1 3 1) (vI d) (.row r9 3 1) rfl KS rfl k_,.rw 178 (dw (j+1)) (vI j) (eB j),.sum 180 j (e+2) (j+(e+2)) rfl o_,.ix f175 181 8 L (j+(e+2)) o_ k_,.ld f175 182 3 8 (j+(e+2)) (.row r9 3 1) (vI d) rfl EE k_,.lt 183 d 0 false s_,.rw 223 (dw (j+1)) (vI j) (eB j),.ix f175 225 9 p j hj k_,.st f175 100225 3 9 j (.row p0 3 1) (vI q) (.row p1 3 1) rfl WK rfl k_,.rw 74 (dw (j+1)) (vI j) (eB j),.wr 75 .i64 ((j:Int)-1) ((j:Int)-1) (pA o_)] k_
theorem aPB(h:Mw e L A V)(hp:p+(e+2)=L):
  ai prog Bs 238 (.block 0 (ah f175 0)) (ED e L p p) (AP e L A V p p) 10 ⟨.normal,ED e L p 0,AP e L A V p 0,10⟩:=by
 have:=cA (P:=prog) (B:=Bs) (N:=238) (b:=aJ (ah f175 0)) (next:=10) (r:=⟨.exit 0,ED e L p 0,AP e L A V p 0,10⟩) p (λi=>ED e L p (p-i)) (λi=>AP e L A V p (p-i)) (λi t _=>km (l:=AP e L A V p (p-i)) (m:=AP e L A V p (p-0)) rfl t)
  (λi hi=>by
   have e1:p-i=(p-(i+1))+1:=by omega
   simp only[e1];exact aPv h hp o_)
  (by simp only[wI];exact aE [.rw 73 (.bool (decide (((0:Nat):Int)-1>=0))) a_ rfl]) n_
 exact cd (id:=0) this
end
def CQ(w:h_)(v:i_)(a:Nat):Prop:=cW w v (nd bz a) (cJ a)
def v7(w w':h_)(v:i_)(a:Nat):Prop:=w'.ownsRow w.heap.size 3 1 v (nd bz a) (cJ a)
theorem QR(hm:aO (aa.at w) ι c w'){n:Nat}{v:i_}(hk:c k=some (.row (au (ae bz n a)) 3 1))(ha:a<bz^n)(hv:aK ι (sl k (nd bz a)) v):v7 w w' v a:=by have:=xI hm hk hv (GM ha) (nk _);rw[CM ha]at this;exact this
theorem CS{s:Nat}(h:s<bz):ae bz 1 s=[s]:=by simp[ae,dW h]
theorem v8{s:Nat}(h:s<bz)(h0:s≠0):nd bz s=1:=by have h3:=jy (B:=bz) (n:=1) d_ (by rw[BS];exact h);have h4:=vp (B:=bz) d_ h0;omega
theorem aPC{n:Nat}(h:A<bz^n):ae bz (n+2) A=ae bz n A++[0,0]:=by unfold ae;rw[show n+2=n+1+1 from rfl,Li,Li,vf,vf,Fo];simp only[nE,TI,BX,jg];rw[rH h (bC _) d_,rH h (zq _) d_]
theorem aPD{B:Nat}(hd:0<d)(nI:d<B)(he:B%2=0):B<=2*(d*(B/(d+1))):=by
 obtain⟨s,hs⟩:∃ s,s=B/(d+1):=⟨_,rfl⟩;rw[<-hs];have hdm:=jz B (d+1);have Oz:=cM B (show 0<d+1 by omega);rw[<-hs]at hdm;have tY:0<s:=by rw[hs];exact OL nI (T2 d)
 rcases e7 (2*d) B with h|h
 ·apply PH;intro al;have al:2*(d*s)+2<=B:=by omega
  obtain⟨X,hX⟩:∃ X,X=(d+1)*s:=⟨_,rfl⟩;rw[<-hX]at hdm;have h1:=eV (d+1) al;rw[fQ,gi,gi d s,cX s,<-hX,pr B,gS]at h1;have h2:=jK d (show B<=X+d by omega);rw[pr]at h2;obtain⟨k,hk⟩:∃ k,d=k+1:=⟨d-1,by omega⟩;have h3:=jK k (jl h);have h4:d*B=k*B+B:=by rw[hk,fQ,pv]
  have h5:k*(2*d)+2*d=2*(d*d):=by
   have:d*d=k*d+d:=by conv=>lhs;rw[hk,fQ,pv,<-hk]
   rw[this,nH];omega
  rw[cX B d]at h1;omega
 ·have:=jK d tY;rw[gS]at this;have:d*1<=d*s:=jK d tY;omega
theorem WM(h:decide (a<b)=t):Value.bool (decide (iC a b<0))=.bool t:=by
 rw[<-h];congr 1;rw[sQ];unfold iC
 by_cases h1:a<b
 ·rw[aB h1];omega
 ·rw[av h1];by_cases h2:b<a
  ·rw[aB h2];omega
  ·rw[av h2];omega
theorem aXe{vb:i_}(gJ:CQ w va a)(lQ:CQ w vb b)(ch:a<b)(h1:nd bz a<35184372088832)(h2:nd bz b<35184372088832):
  Calls prog 175 #[va,vb] w λe w'=>e=.returned (.tuple #[.slice none 0 0,va])/\Below w.heap.size w w':=by
 have hl:∀ s∈[cH.row va (nd bz a) (cJ a),cH.row vb (nd bz b) (cJ b)],s.OK w:=by
  intro s hs;simp at hs;rcases hs with rfl|rfl
  ·exact⟨gJ,nk _⟩
  ·exact⟨lQ,nk _⟩
 refine mh (Q:=λe w'=>e=.returned (.tuple #[.slice none 0 0,va])/\Below w.heap.size w w') mixed func175 [cH.row va (nd bz a) (cJ a),cH.row vb (nd bz b) (cJ b)] hl 200 (N:=238) k_
  (rs:=[(.vY f175 23 0 1 a b (.view (cJ a)) (.view (cJ b)) rfl rfl rfl rfl h1 h2 k_:bd prog (aa.at w) 238),.rw 24 _ b_ (WM (a:=a) (b:=b) (aH ch))])
  (v:=.tuple #[.slice none 0 0,sl 0 (nd bz a)]) (ms:=[]) k_ λaz cr v' w' kz bE _ du=>⟨?_,bE.base⟩
 obtain⟨cT,rfl,bh⟩:=kz.uY;obtain⟨p,q,hp,h3,h4⟩:=jv bh;cases du with
 |cons h5 _=>
 have:q=va:=Ko h4 h5;have e:cT=#[p,q]:=wz.1 (by rw[hp]);rw[e,h3.eZ rfl,this]
theorem aYa{vb:i_}(gJ:CQ w va a)(lQ:CQ w vb b)(ch:b<=a)(lB:b≠0)(hb:b<bz)(h1:nd bz a<35184372088832):
  Calls prog 175 #[va,vb] w λe w'=>∃ vq vr,e=.returned (.tuple #[vq,vr])/\v7 w w' vq (a/b)/\v7 w w' vr (a%b)/\Below w.heap.size w w':=by
 have c8:=v8 hb lB;have kv:cJ b=[vI b]:=by unfold cJ;rw[c8,CS hb];rfl
 have FR:cW w vb 1 [vI b]:=by have:=lQ;unfold CQ at this;rw[c8,kv]at this;exact this
 have hl:∀ s∈[cH.row va (nd bz a) (cJ a),cH.row vb 1 [vI b]],s.OK w:=by
  intro s hs;simp at hs;rcases hs with rfl|rfl
  ·exact⟨gJ,nk _⟩
  ·exact⟨FR,λv hv=>by simp at hv;subst hv;rfl⟩
 have hr:a%b<bz:=mU (cM _ (ue lB)) hb;have uL:a%b<bz^1:=by rw[BS];exact hr
 have lO:cI prog (aa.at w) (aw f175 23) [.func (.func 103) #[] #[],sl 0 (nd bz a),sl 1 1] [(0,some (.view (cJ a))),(1,some (.view [vI b]))] (.int .i64 (iC a b)) []:=by have:=dR (B:=aa.at w) (o:=aw f175 23) (x:=.func 103) (Wx (a:=a) (b:=b) h1 o_) (oG (k:=0) (x:=.view (cJ a)) rfl rfl (oG (k:=1) (x:=.view (cJ b)) rfl rfl .nil)) k_ k_ rfl;rw[c8,kv]at this;exact this
 refine mh (Q:=λe w'=>∃ vq vr,e=.returned (.tuple #[vq,vr])/\v7 w w' vq (a/b)/\v7 w w' vr (a%b)/\Below w.heap.size w w') mixed func175 [cH.row va (nd bz a) (cJ a),cH.row vb 1 [vI b]] hl 200 (N:=238) k_
  (rs:=[(.step 23 (aw f175 23) _ _ _ _ lO:bd prog (aa.at w) 238),.rw 24 _ a_ (WM (a:=a) (b:=b) (aP o_)),.ld f175 33 3 1 0 (.view [vI b]) (vI b) rfl (by rw[GF];rfl) k_,.step 34 (aw f175 34) _ _ _ _ (V8 (x:=.func 204) (aD4 (ue lB) hb h1) (oG (k:=0) (x:=.view (cJ a)) rfl rfl (.p (v:=vI b) rfl .nil)) k_ k_ (tE _) rfl 2),.bs f175 39 3 1 3 1 [0] (vI 0) [vI (a%b)] #[vI (a%b)] (.row (au (ae bz 1 (a%b))) 3 1) (by rw[CS hr];rfl) (λv hv=>by simp at hv;subst hv;rfl) (λv hv=>by simp at hv;subst hv;rfl) k_ rfl o_ o_ k_,.En f175 40 3 1 (a%b) (.row (au (ae bz 1 (a%b))) 3 1) rfl rfl uL o_ k_])
  (v:=.tuple #[sl 2 (nd bz (a/b)),sl 3 (nd bz (a%b))]) (ms:=[(2,cF (a/b)),(3,.row (au (ae bz 1 (a%b))) 3 1)]) k_ λaz cr v' w' kz bE dQ _=>?_
 obtain⟨cT,rfl,bh⟩:=kz.uY;obtain⟨p,q,hp,h3,h4⟩:=jv bh;have e:cT=#[p,q]:=wz.1 (by rw[hp]);subst e;exact⟨p,q,rfl,QR bE (dQ _ (aT ..)) (ew d_ _) h3,QR bE (dQ _ (bF _ (aT ..))) uL h4,bE.base⟩
theorem aXo{vb:i_}(gJ:CQ w va a)(lQ:CQ w vb b)(ch:b<=a)(hb:nd bz b=e+2)(h1:nd bz a<17592186044000):
  Calls prog 175 #[va,vb] w λe w'=>∃ vq vr,e=.returned (.tuple #[vq,vr])/\v7 w w' vq (a/b)/\v7 w w' vr (a%b)/\Below w.heap.size w w':=by
 have ke:bz=16777216:=rfl;have al:=ew (B:=bz) d_ b;rw[hb]at al;have hp:0<bz^(e+1):=cP d_;have ep:bz^(e+1)<=b:=Z6 d_ o_;have lB:0<b:=cG hp ep;obtain⟨d,hd⟩:∃ d,d=b/bz^(e+1):=⟨_,rfl⟩;have mA:b/bz^(e+1)%bz=d:=by rw[hd];exact Fx al
 have nI:d<bz:=by rw[<-mA];exact cM _ d_
 have DQ:0<d:=by rw[hd];exact OL ep hp
 obtain⟨s,hs⟩:∃ s,s=bz/(d+1):=⟨_,rfl⟩;have bP:=aPD DQ nI d_;rw[<-hs]at bP;have qN:0<s:=by rw[hs];exact OL nI (T2 d)
 have Wj:s*(d+1)<=bz:=by rw[hs];exact DM _ _
 have QS:s<bz:=by have:=jK s (show 2<=d+1 by omega);omega
 have xW:b*s<bz^(e+2):=by
  have h3:b<(d+1)*bz^(e+1):=by rw[hd];exact(iP hp).1 (B5 _)
  have h5:=B4 h3 qN;have h6:=eV (bz^(e+1)) Wj;rw[cX bz,<-dG]at h6;have e1:(d+1)*bz^(e+1)*s=s*(d+1)*bz^(e+1):=by rw[cX _ s,gi]
  rw[e1]at h5;exact cG h5 h6
 have aEd:b<=b*s:=FG _ qN;have OP:nd bz (b*s)=e+2:=aAK (jy d_ xW) (by rw[<-hb];exact iX d_ aEd);have xZ:bz<=2*(b*s/bz^(e+1)):=by
  have:d*s<=b*s/bz^(e+1):=by rw[DL hp,B7];refine eV _ ?_;rw[hd];exact DM _ _
  omega
 obtain⟨n,hn⟩:∃ n,n=nd bz (a*s):=⟨_,rfl⟩;have hA:=ew (B:=bz) d_ (a*s);rw[<-hn]at hA;have hnb:n<=nd bz a+1:=by rw[hn];refine jy d_ ?_;rw[dG];exact qE (ew (B:=bz) d_ a) QS
 have aW1:e+2<=n:=by rw[hn,<-hb];exact iX d_ (dq ch (FG _ qN))
 obtain⟨p,GS⟩:∃ p,p+(e+2)=n+2:=⟨n+2-(e+2),by omega⟩;have WN:a*s<b*s*bz^p:=by have h3:bz^(e+1)*bz^p<=b*s*bz^p:=eV _ (dq ep aEd);rw[<-eR,show e+1+p=n+1 by omega]at h3;have h4:bz^n<=bz^(n+1):=df d_ (zq _);omega
 have dv:Mw e (n+2) (a*s) (b*s):=⟨xW,xZ,by omega,by rw[show n+2-(e+2)=p by omega];exact WN,by omega⟩;have lo:=λBs=>aPB (Bs:=Bs) dv GS;have hQ:a*s/(b*s)=a/b:=aA8 _ _ qN;have T8:a*s%(b*s*bz^0)=a%b*s:=by rw[sU,gS,aA7]
 have T7:a*s%(b*s*bz^p)=a*s:=dW WN;have KW:a/b<bz^p:=by rw[<-hQ,iP dv.pos,cX (bz^p)];exact WN
 have Im:a%b*s<bz^(n+2):=by have h3:a%b*s<=a*s:=eV _ (Ky _ _);have h4:bz^n<=bz^(n+2):=df d_ o_;omega
 have hnr:nd bz (a%b*s)<35184372088832:=by have:=jy (B:=bz) d_ Im;omega
 unfold AP at lo;rw[T7,T8,hQ,Og,Kz,<-Mf]at lo;have hcA:cJ (a*s)++[vI 0,vI 0]=au (ae bz (n+2) (a*s)):=by unfold cJ au;rw[<-hn,aPC hA,vf];rfl
 have E7:=v8 QS o_;have gh:cJ s=[vI s]:=by unfold cJ;rw[E7,CS QS];rfl
 have kv:cJ b=au (ae bz (e+2) b):=by unfold cJ;rw[hb]
 have hcV:cJ (b*s)=au (ae bz (e+2) (b*s)):=by unfold cJ;rw[OP]
 have FR:cW w vb (e+2) (au (ae bz (e+2) b)):=by have:=lQ;unfold CQ at this;rw[hb,kv]at this;exact this
 have hl:∀ s∈[cH.row va (nd bz a) (cJ a),cH.row vb (e+2) (au (ae bz (e+2) b))],s.OK w:=by
  intro s hs;simp at hs;rcases hs with rfl|rfl
  ·exact⟨gJ,nk _⟩
  ·exact⟨FR,nk _⟩
 have lO:cI prog (aa.at w) (aw f175 23) [.func (.func 103) #[] #[],sl 0 (nd bz a),sl 1 (e+2)] [(0,some (.view (cJ a))),(1,some (.view (au (ae bz (e+2) b))))] (.int .i64 (iC a b)) []:=by have:=dR (B:=aa.at w) (o:=aw f175 23) (x:=.func 103) (Wx (a:=a) (b:=b) o_ o_) (oG (k:=0) (x:=.view (cJ a)) rfl rfl (oG (k:=1) (x:=.view (cJ b)) rfl rfl .nil)) k_ k_ rfl;rw[hb,kv]at this;exact this
 have c8:cI prog (aa.at w) (aw f175 52) [.func (.func 105) #[] #[],sl 1 (e+2),sl 2 1] [(3,none),(1,some (.view (au (ae bz (e+2) b)))),(2,some (.row [vI s] 3 1))] (sl 3 (e+2)) [(3,.row (au (ae bz (e+2) (b*s))) 3 1)]:=by have:=rR (B:=aa.at w) (o:=aw f175 52) (x:=.func 105) (Ws (a:=b) (b:=s) o_) (oG (k:=1) (x:=.view (cJ b)) rfl rfl (oG (k:=2) (x:=.row (cJ s) 3 1) rfl rfl .nil)) k_ k_ (tE _) 3;rw[hb,kv,E7,gh,OP,hcV]at this;exact this
 have dH:cI prog (aa.at w) (aw f175 58) [.func (.func 105) #[] #[],sl 0 (nd bz a),sl 2 1] [(5,none),(0,some (.view (cJ a))),(2,some (.row [vI s] 3 1))] (sl 5 n) [(5,.row (cJ (a*s)) 3 1)]:=by have:=rR (B:=aa.at w) (o:=aw f175 58) (x:=.func 105) (Ws (a:=a) (b:=s) o_) (oG (k:=0) (x:=.view (cJ a)) rfl rfl (oG (k:=2) (x:=.row (cJ s) 3 1) rfl rfl .nil)) k_ k_ (tE _) 5;rw[E7,gh,<-hn]at this;exact this
 have vW:∀(xr:ak),xr=au (ae bz (n+2) (a%b*s))->cI prog (aa.at w) (aw f175 232) [.func (.func 204) #[] #[],sl 8 (nd bz (a%b*s)),vI s] [(10,none),(8,some (.row xr 3 1))] (.tuple #[sl 10 (nd bz (a%b)),vI 0]) [(10,cF (a%b))]:=by
  rintro xr rfl
  have hq:a%b*s/s=a%b:=Tk _ qN;have hz:a%b*s%s=0:=Z8 _ _;have ck:=aD4 (a:=a%b*s) qN QS hnr;rw[hq,hz]at ck;have DP:((Obj.row (au (ae bz (n+2) (a%b*s))) 3 1).cells.drop 0).take (nd bz (a%b*s))=cJ (a%b*s):=by rw[mT];have:=CM Im;rwa[gS]at this
  have zp:gB (aa.at w) [jQ (a%b*s),.p (vI s)] [sl 8 (nd bz (a%b*s)),vI s] [(8,some (.row (au (ae bz (n+2) (a%b*s))) 3 1))]:=by unfold jQ;rw[<-DP];exact .r (k:=8) (off:=0) (cc:=0) rfl (iK _) (λh=>h) (.p rfl .nil)
  exact V8 (x:=.func 204) ck zp k_ k_ (tE _) rfl 10
 have w48:IntKind.i64.wrap (Int.tdiv ((bz:Nat):Int) ((d+1:Nat):Int))=(s:Int):=by rw[BP o_,<-ug,<-hs,dh];omega
 have aPE:∀ v∈cJ (a*s),v.oneCell'=true:=λv hv=>by unfold cJ au at hv;obtain⟨x,_,rfl⟩:=db.1 hv;rfl
 have hlen:(cJ (a*s)).length=n:=by rw[Wh,hn]
 have lo:=lo (aa.at w);unfold ED at lo;have hxr:=vW _ rfl;have lR:dI prog 3 (au (ae bz (e+2) b)) (e+1)=some (vI d):=by rw[<-mA];exact ev (eP o_)
 have Gr:nd bz (a%b*s)=nd bz (a%b*s):=rfl
 refine mh (Q:=λe w'=>∃ vq vr,e=.returned (.tuple #[vq,vr])/\v7 w w' vq (a/b)/\v7 w w' vr (a%b)/\Below w.heap.size w w') mixed func175 [cH.row va (nd bz a) (cJ a),cH.row vb (e+2) (au (ae bz (e+2) b))] hl 400 (N:=238) k_
  (rs:=[(.step 23 (aw f175 23) _ _ _ _ lO:bd prog (aa.at w) 238),.rw 24 _ a_ (WM (a:=a) (b:=b) (aP o_)),.fN 28 (e+2) 1 false s_,.fp 44 (e+2) 1 (e+1) rfl o_,.ix f175 45 1 (e+2) (e+1) o_ k_,.ld f175 46 3 1 (e+1) (.view (au (ae bz (e+2) b))) (vI d) rfl lR k_,.sum 47 d 1 (d+1) rfl o_,.rI f175 48 .i64 ((bz:Nat):Int) ((d+1:Nat):Int) (s:Int) o_ w48 k_,.bs f175 49 2 1 3 1 [0] (vI 0) [vI s] #[vI s] (.row [vI s] 3 1) rfl (λv hv=>by simp at hv;subst hv;rfl) (λv hv=>by simp at hv;subst hv;rfl) k_ rfl o_ o_ k_,.step 52 (aw f175 52) _ _ _ _ c8,.Mj f175 55 4 3 1 (vI 0) k_,.step 58 (aw f175 58) _ _ _ _ dH,.qH f175 59 6 4 0 n n 3 1 8 [] 5 (.row (cJ (a*s)) 3 1) (cJ (a*s)) (kA n) rfl (by rw[gS];exact hlen) rfl rfl aPE o_ (by simp[maxLen];omega) o_ k_,.bs f175 60 7 2 3 1 [0,1] (vI 0) [vI 0,vI 0] #[vI 0,vI 0] (.row [vI 0,vI 0] 3 1) rfl (λv hv=>by simp at hv;subst hv;rfl) (λv hv=>by simp at hv;subst hv;rfl) k_ rfl o_ o_ k_,.qH f175 61 8 6 n 2 (n+2) 3 1 8 (cJ (a*s)) 7 (.row [vI 0,vI 0] 3 1) (au (ae bz (n+2) (a*s))) rfl rfl rfl (by rw[gS];exact hlen) hcA (λv hv=>by simp[Obj.cells]at hv;subst hv;rfl) o_ (by simp[maxLen];omega) o_ k_,.fp 65 (n+2) (e+2) p o_ o_,.qD f175 66 9 p 3 8 (vI 0) (List.replicate p (vI 0)) rfl rfl rfl o_ (by simp[maxLen];omega) k_,.fp 70 (n+2) (e+2) p o_ o_,.wr 71 .i64 ((p:Int)-1) ((p:Int)-1) (pA o_),.code 0 _ _ _ _ _ lo,.En f175 228 8 (n+2) (a%b*s) (.row (au (ae bz (n+2) (a%b*s))) 3 1) rfl rfl Im o_ k_,.ld f175 231 3 2 0 (.row [vI s] 3 1) (vI s) rfl (by rw[GF];rfl) k_,.step 232 (aw f175 232) _ _ _ _ hxr,.En f175 236 9 p (a/b) (.row (au (ae bz p (a/b))) 3 1) rfl rfl KW o_ k_])
  (v:=.tuple #[sl 9 (nd bz (a/b)),sl 10 (nd bz (a%b))]) (ms:=[(9,.row (au (ae bz p (a/b))) 3 1),(10,cF (a%b))]) k_ λaz cr v' w' kz bE dQ _=>?_
 obtain⟨cT,rfl,bh⟩:=kz.uY;obtain⟨p,q,hp,h3,h4⟩:=jv bh;have e:cT=#[p,q]:=wz.1 (by rw[hp]);subst e;exact⟨p,q,rfl,QR bE (dQ _ (aT ..)) KW h3,QR bE (dQ _ (bF _ (aT ..))) (ew d_ _) h4,bE.base⟩
section
variable{P:j_}{Bs B:aa}{N:Nat}
theorem aEe{n:Nat}{nd:q_}{x:m_}(h:lV P f l ty size n xs)(hs:gB B l vs nd)(ho:dD o.op=some x)(e8:gO P f=true)(hx:(xs.all flat)=true)(k:Nat):
  cI P B o (.func (.func f) #[] #[]::vs) ((k,none)::nd) (.slice (some ⟨k,0,some 7⟩) n 0) [(k,.view xs)]:=by
 have:=jV (P:=P) (B:=B) (o:=o) (x:=x) (f:=f) (fi:=[]) (args:=vs) (ca:=[]) (need:=(k,none)::nd) (val:=.slice (some ⟨k,0,some 7⟩) n 0) (cZ:=[(k,.view xs)]) ho e8 ?_
 ·simpa using this
 ·intro ι c w hm hn args' ha;rw[jg,jL]at ha;refine(h w args' (Cv hs hm (λp hp=>hn p (bF _ hp)) ha)).mono ?_
  rintro e w' ⟨v,rfl,h1,h2⟩
  obtain⟨az,q1,q2,q3⟩:=Z3 hm h2 (k:=k) (hn (k,none) (aT ..)) h1 (bB.1 hx);exact⟨az,v,rfl,q1,q3,q2⟩
def di(a:Nat):Obj:=.view (cJ a)
def bd.mF(fn:Func)(key k m:Nat)(h:nd 256 m<35184372088832)(ho:dD (aw fn key).op=some (.func 100)):bd prog Bs N:=
 .step key (aw fn key) [.func (.func 100) #[] #[],oX m] [(k,none)] (sl k (nd bz m)) [(k,di m)] (aEe (Jh h) (.p rfl .nil) ho k_ (tE m) k)
end
theorem aXs{y:m_}(ho:dD o.op=some y){kq kr:Nat}(hk:kr≠kq)(lB:b≠0)(h1:nd bz a<17592186044000)(h2:nd bz b<35184372088831):
  cI prog Bs o [.func (.func 175) #[] #[],sl k1 (nd bz a),sl k2 (nd bz b)] [(k1,some (di a)),(k2,some (di b)),(kq,none),(kr,none)] (.tuple #[sl kq (nd bz (a/b)),sl kr (nd bz (a%b))]) [(kr,di (a%b)),(kq,di (a/b))]:=by
 refine jV (fi:=[]) (ca:=[]) ho k_ λι c w hm hn args' bh=>?_;rw[jg,jL]at bh;obtain⟨va,vb,rfl,hv,iz⟩:=jv bh;have iA:c k1=some (di a):=hn (k1,_) s_;have fP:c k2=some (di b):=hn (k2,_) s_;have KZ:c kq=none:=hn (kq,none) s_;have Ub:c kr=none:=hn (kr,none) s_;have nin:∀{k a v},c k=some (di a)->aK ι (sl k (nd bz a)) v->CQ w v a:=λ{k a v} hk hv=>by have:=po (len:=nd bz a) hm hk rfl (nk _) (λh=>h) hv;rwa[mT,kT (by show(cJ a).length<=_;rw[Wh];exact bC _)]at this
 have ha:=nin iA hv;have hb:=nin fP iz;have fin:∀(w':h_) (vq vr:i_),Below w.heap.size w w'->(∃ bX,Map.le ι bX/\aO Bs bX (bA c kq (di (a/b))) w'/\aK bX (sl kq (nd bz (a/b))) vq/\∃ dP,Map.le bX dP/\aO Bs dP (bA (bA c kq (di (a/b))) kr (di (a%b))) w'/\aK dP (sl kr (nd bz (a%b))) vr)->
   ∃ az v',Ending.returned (.tuple #[vq,vr])=.returned v'/\Map.le ι az/\aK az (.tuple #[sl kq (nd bz (a/b)),sl kr (nd bz (a%b))]) v'/\aO Bs az (l9 c [(kr,di (a%b)),(kq,di (a/b))]) w':=by
  rintro w' vq vr gm ⟨bX,q1,q2,q3,dP,s1,s2,s3⟩
  exact⟨dP,_,rfl,q1.trans s1,.tup (.cons (q3.mono s1) (.cons s3 .nil)),s2⟩
 have K0:∀ x,bA c kq x kr=none:=λx=>by unfold bA;rw[av hk];exact Ub
 have new:∀(w':h_) (vq vr:i_),Below w.heap.size w w'->v7 w w' vq (a/b)->v7 w w' vr (a%b)->(∃ bX,Map.le ι bX/\aO Bs bX (bA c kq (di (a/b))) w'/\aK bX (sl kq (nd bz (a/b))) vq/\∃ dP,Map.le bX dP/\aO Bs dP (bA (bA c kq (di (a/b))) kr (di (a%b))) w'/\aK dP (sl kr (nd bz (a%b))) vr):=by intro w' vq vr gm h3 h4;have bE:=hm.call gm;obtain⟨bX,q1,q2,q3⟩:=OR bE KZ h3 (nk _) (OS hm);obtain⟨dP,s1,s2,s3⟩:=OR q2 (K0 _) h4 (nk _) (aBl bE q1 (OS hm));exact⟨bX,q1,q2,q3,dP,s1,s2,s3⟩
 by_cases ch:a<b
 ·have e1:a/b=0:=mS ch;have e2:a%b=a:=dW ch;refine(aXe ha hb ch o_ o_).mono ?_
  rintro e w' ⟨rfl,gm⟩
  refine fin w' _ _ gm ?_;have bE:=hm.call gm;obtain⟨bX,q1,q2,q3⟩:=zy (xs:=[]) (n:=0) (v:=.slice none 0 0) bE KZ (.inl ⟨rfl,rfl,rfl⟩) n_ n_;have ez:di (a/b)=.view []:=by unfold di cJ;rw[e1,nF];rfl
  have en:nd bz (a/b)=0:=by rw[e1,nF]
  rw[ez,en,e2];have Uc:cW w' va (nd bz a) (cJ a):=cW.iu ha gm;obtain⟨dP,s1,s2,s3⟩:=zy q2 (K0 _) Uc (nk _) (λb o c' e j y o' aU hj hy he=>by
   have B0:c j=some y:=by
    unfold bA at hj;by_cases b9:j=kq
    ·rw[aB b9]at hj;injection hj with hj;subst hj;cases hy
    ·rw[av b9]at hj;exact hj
   obtain⟨l,e1,_⟩:=hm.born j y B0;have e2:=q1 j l e1;rw[he]at e2;injection e2 with e2;subst e2;subst e;rcases hv.iF rfl with ⟨_,_,_,_,e⟩|⟨b',o2,qx,c2,gF,_,_,e⟩
   ·cases e
   ·injection e with e _ _;injection e with e;injection e with e _ _;subst e;exact(hm.seen k1 _ _ _ _ iA rfl gF).2 j y _ _ B0 hy e1)
  exact⟨bX,q1,q2,q3,dP,s1,s2,s3⟩
 ·have K1:b<=a:=KQ.1 ch;have go:Calls prog 175 #[va,vb] w λe w'=>∃ vq vr,e=.returned (.tuple #[vq,vr])/\v7 w w' vq (a/b)/\v7 w w' vr (a%b)/\Below w.heap.size w w':=by
   by_cases al:b<bz
   ·exact aYa ha hb K1 lB al o_
   ·have h3:2<=nd bz b:=by
     rcases e7 (nd bz b) 2 with h|h
     ·have h4:=ew (B:=bz) d_ b;have h5:bz^nd bz b<=bz^1:=df d_ o_;rw[BS]at h5;omega
     ·exact h
    exact aXo (e:=nd bz b-2) ha hb K1 o_ h1
  refine go.mono ?_
  rintro e w' ⟨vq,vr,rfl,h3,h4,gm⟩
  exact fin w' _ _ gm (new w' vq vr gm h3 h4)
theorem aPF(n1 n2:Bool)(a b:Nat):(sg n1 a).tdiv (sg n2 b)=sg (n1 !=n2) (a/b):=by cases n1<;>cases n2<;>simp[sg,Int.neg_tdiv,Int.tdiv_neg]
theorem aPG(n1 n2:Bool)(a b:Nat):(sg n1 a).tmod (sg n2 b)=sg n1 (a%b):=by cases n1<;>cases n2<;>simp[sg,Int.neg_tmod,Int.tmod_neg]<;>exact wH o_
theorem aPH{x:Int}(h1:-4611686018427387904<=x)(h2:x<=4611686018427387903):IntKind.i64.wrap x=x:=by rw[dh];omega
theorem WO:nd bz 1=1/\cJ 1=[vI 1]:=by have h:=v8 (s:=1) d_ d_;exact⟨h,by unfold cJ;rw[h,CS d_];rfl⟩
theorem WQ{n:Bool}{m:Nat}(h:n=true->m≠0):decide (sg n m<0)=n:=by
 cases n
 ·exact aP (by simp[sg])
 ·exact aH (by have:=h rfl;simp[sg];omega)
theorem aPI(n:Bool)(m:Nat):(sg n m !=0)=decide (m≠0):=by
 by_cases h:m=0
 ·subst h;cases n<;>rfl
 ·rw[aH h,vt];cases n<;>simp[sg]<;>omega
theorem aXg{x y:Int}{p:Nat}(hy:y≠0)(h1:x.natAbs<2^p)(h2:y.natAbs<2^q)(hp:p<=1099511627774)(hq:q<=1099511627774):
  aF prog 136 [bf x,bf y] (.tuple #[bf (x.fdiv y),bf (x.fmod y),.int .i64 0]):=by
 revert hy h1 h2;refine FU (C:=λx y v u=>y≠0->x.natAbs<2^p->y.natAbs<2^q->aF prog 136 [v,u] (.tuple #[bf (x.fdiv y),bf (x.fmod y),.int .i64 0])) (λn1 n2 m1 m2 v1 v2 hy h1 h2=>?_) x y;rw[qM]at h1 h2;have It:m2≠0:=by intro e;rw[e]at hy;cases n2<;>exact hy rfl
 have b1:=uO h1;have b2:=uO h2;have c1:=wL h1;have c2:=wL h2;obtain⟨Q,hQ⟩:∃ Q,Q=m1/m2:=⟨_,rfl⟩;obtain⟨R,hR⟩:∃ R,R=m1%m2:=⟨_,rfl⟩;have K4:m1=Q*m2+R:=by rw[hQ,hR,cX];exact(jz _ _).symm
 have z7:R<m2:=by rw[hR];exact cM _ (ue It)
 have Uj:Q<=m1:=by rw[hQ];exact uh _ _
 have fE:((Q*m2:Nat):Int)=(Q:Int)*m2:=oO ..;have fix:R≠0->n1≠n2->(sg n1 m1).fdiv (sg n2 m2)=sg true (Q+1)/\(sg n1 m1).fmod (sg n2 m2)=sg n2 (m2-R):=λjM aQ=>by
  refine OX ?_ ?_
  ·rw[K4];have e:((m2-R:Nat):Int)=(m2:Int)-R:=by omega
   cases n1<;>cases n2<;>first|exact absurd rfl aQ|(simp only[sg,rm,vz,vy,wK,fE,e,Io,Ip,KY,Int.add_mul];omega)
  ·cases n2
   ·left;simp only[sg,vz,vy];omega
   ·right;simp only[sg,rm];omega
 have WR:¬(R≠0/\n1≠n2)->(sg n1 m1).fdiv (sg n2 m2)=sg (n1 !=n2) Q/\(sg n1 m1).fmod (sg n2 m2)=sg n2 R:=λh=>by
  have h0:n1≠n2->R=0:=λaQ=>gR λh3=>h ⟨h3,aQ⟩;refine OX ?_ ?_
  ·rw[K4];cases n1<;>cases n2<;>simp only[sg,Bool.bne_false,Bool.bne_true,KD,Om,rm,vz,vy,wK,fE,Io,Ip,KY]<;>first|omega|(have:=h0 n_;omega)
  ·cases n2
   ·left;simp only[sg,vz,vy];omega
   ·right;simp only[sg,rm];omega
 have w1:=aXv n1 v1;have w2:=aXv n2 v2;have qY:((BA (ct m2)).toList==(ByteArray.mk #[]).toList)=false:=by rw[qJ,aP It]
 have r2:=Mu m2;by_cases hs:nd 256 m1<=7/\nd 256 m2<=7
 ·obtain⟨s1,s2⟩:=hs;have l1:=Ji s1;have l2:=Ji s2;have td:=aPF n1 n2 m1 m2;have tm:=aPG n1 n2 m1 m2;rw[<-hQ]at td;rw[<-hR]at tm;have q1:=tJ v1 s1;have q2:=tJ v2 s2;have gx:=Ey n1 m1;have gy:=Ey n2 m2;have gq:=Ey (n1 !=n2) Q;have gr:=Ey n2 R;have gr2:=Ey n2 (m2-R);have t52:=aPI n1 R;have t55:=WQ v1;have t57:=WQ v2;have wq:IntKind.i64.wrap ((sg n1 m1).tdiv (sg n2 m2))=sg (n1 !=n2) Q:=by rw[td,dh];omega
  have back:∀ qq rr:Int,(sg n1 m1).fdiv (sg n2 m2)=qq->(sg n1 m1).fmod (sg n2 m2)=rr->sg n1 m1-qq*sg n2 m2=rr:=λqq rr e1 e2=>by have:=Int.mul_fdiv_add_fmod (sg n1 m1) (sg n2 m2);rw[e1,e2,Uh]at this;omega
  by_cases hf:R≠0/\n1≠n2
  ·obtain⟨jM,aQ⟩:=hf;obtain⟨f1,f2⟩:=fix jM aQ;have bk:=back _ _ f1 f2;rw[f1,f2];rw[aH jM]at t52;have e1:sg (n1 !=n2) Q-1=sg true (Q+1):=by cases n1<;>cases n2<;>first|exact absurd rfl aQ|(simp[sg];omega)
   have gq1:sg true (Q+1)=-((Q+1:Nat):Int):=rfl;have o1:=aXW (z:=sg true (Q+1)) o_ o_;have o2:=aXW (z:=sg n2 (m2-R)) o_ o_;have g1b:-4611686018427387904<=sg true (Q+1):=by rw[gq1];omega
   have g2b:sg true (Q+1)<=4611686018427387903:=by rw[gq1];omega
   have w61:IntKind.i64.wrap (sg (n1 !=n2) Q-1)=sg true (Q+1):=by rw[e1];exact aPH g1b g2b
   generalize QT:sg true (Q+1)=qq at *;generalize hrr:sg n2 (m2-R)=rr at *;generalize sg n1 m1=X at *;generalize sg n2 m2=Y at *;have GV:IntKind.i64.wrap (qq*Y)=qq*Y:=by
    have:qq*Y=X-rr:=by omega
    rw[this,dh];omega
   have GW:IntKind.i64.wrap (X-qq*Y)=rr:=by rw[bk,dh];omega
   cases n1<;>cases n2<;>first|exact absurd rfl aQ|skip
   ·exact aN func136 (λw=>[w1.at 15,w2.at 19,.rw 26 (.bool ((BA (ct m2)).toList==(ByteArray.mk #[]).toList)) a_ (by rw[qY]),q1.at 31,.rw 38 _ (vI (nd 256 m2)) r2,.rw 39 (.bool (decide (((nd 256 m2:Nat):Int)<=7))) b_ (by rw[aH o_]),q2.at 43,.rI f136 48 .i64 X Y _ hy wq k_,.vu f136 51 .i64 X Y _ hy tm k_,.rw 52 (.bool (sg false R !=0)) b_ (by rw[t52]),.rw 55 (.bool (decide (X<0))) a_ (by rw[t55]),.rw 57 (.bool (decide (Y<0))) b_ (by rw[t57]),.wr 61 .i64 _ qq w61,o1.at 63,.wr 67 .i64 (qq*Y) (qq*Y) GV,.wr 68 .i64 (X-qq*Y) rr GW,o2.at 69])
   ·exact aN func136 (λw=>[w1.at 15,w2.at 19,.rw 26 (.bool ((BA (ct m2)).toList==(ByteArray.mk #[]).toList)) a_ (by rw[qY]),q1.at 31,.rw 38 _ (vI (nd 256 m2)) r2,.rw 39 (.bool (decide (((nd 256 m2:Nat):Int)<=7))) b_ (by rw[aH o_]),q2.at 43,.rI f136 48 .i64 X Y _ hy wq k_,.vu f136 51 .i64 X Y _ hy tm k_,.rw 52 (.bool (sg true R !=0)) b_ (by rw[t52]),.rw 55 (.bool (decide (X<0))) b_ (by rw[t55]),.rw 57 (.bool (decide (Y<0))) a_ (by rw[t57]),.wr 61 .i64 _ qq w61,o1.at 63,.wr 67 .i64 (qq*Y) (qq*Y) GV,.wr 68 .i64 (X-qq*Y) rr GW,o2.at 69])
  ·obtain⟨f1,f2⟩:=WR hf;have bk:=back _ _ f1 f2;rw[f1,f2];have o1:=aXW (z:=sg (n1 !=n2) Q) o_ o_;have o2:=aXW (z:=sg n2 R) o_ o_;by_cases jM:R=0
   ·rw[aP (λh=>h jM)]at t52;generalize QT:sg (n1 !=n2) Q=qq at *;generalize hrr:sg n2 R=rr at *;generalize sg n1 m1=X at *;generalize sg n2 m2=Y at *;have GV:IntKind.i64.wrap (qq*Y)=qq*Y:=by
     have:qq*Y=X-rr:=by omega
     rw[this,dh];omega
    have GW:IntKind.i64.wrap (X-qq*Y)=rr:=by rw[bk,dh];omega
    exact aN func136 (λw=>[w1.at 15,w2.at 19,.rw 26 (.bool ((BA (ct m2)).toList==(ByteArray.mk #[]).toList)) a_ (by rw[qY]),q1.at 31,.rw 38 _ (vI (nd 256 m2)) r2,.rw 39 (.bool (decide (((nd 256 m2:Nat):Int)<=7))) b_ (by rw[aH o_]),q2.at 43,.rI f136 48 .i64 X Y _ hy wq k_,.vu f136 51 .i64 X Y _ hy tm k_,.rw 52 (.bool (sg n1 R !=0)) a_ (by rw[t52]),o1.at 63,.wr 67 .i64 (qq*Y) (qq*Y) GV,.wr 68 .i64 (X-qq*Y) rr GW,o2.at 69])
   ·have aQ:n1=n2:=gR λh=>hf ⟨jM,h⟩;subst aQ;rw[aH jM]at t52;generalize QT:sg (n1 !=n1) Q=qq at *;generalize hrr:sg n1 R=rr at *;generalize sg n1 m1=X at *;generalize sg n1 m2=Y at *;have GV:IntKind.i64.wrap (qq*Y)=qq*Y:=by
     have:qq*Y=X-rr:=by omega
     rw[this,dh];omega
    have GW:IntKind.i64.wrap (X-qq*Y)=rr:=by rw[bk,dh];omega
    cases n1
    ·exact aN func136 (λw=>[w1.at 15,w2.at 19,.rw 26 (.bool ((BA (ct m2)).toList==(ByteArray.mk #[]).toList)) a_ (by rw[qY]),q1.at 31,.rw 38 _ (vI (nd 256 m2)) r2,.rw 39 (.bool (decide (((nd 256 m2:Nat):Int)<=7))) b_ (by rw[aH o_]),q2.at 43,.rI f136 48 .i64 X Y _ hy wq k_,.vu f136 51 .i64 X Y _ hy tm k_,.rw 52 (.bool (rr !=0)) b_ (by rw[t52]),.rw 55 (.bool (decide (X<0))) a_ (by rw[t55]),.rw 57 (.bool (decide (Y<0))) a_ (by rw[t57]),o1.at 63,.wr 67 .i64 (qq*Y) (qq*Y) GV,.wr 68 .i64 (X-qq*Y) rr GW,o2.at 69])
    ·exact aN func136 (λw=>[w1.at 15,w2.at 19,.rw 26 (.bool ((BA (ct m2)).toList==(ByteArray.mk #[]).toList)) a_ (by rw[qY]),q1.at 31,.rw 38 _ (vI (nd 256 m2)) r2,.rw 39 (.bool (decide (((nd 256 m2:Nat):Int)<=7))) b_ (by rw[aH o_]),q2.at 43,.rI f136 48 .i64 X Y _ hy wq k_,.vu f136 51 .i64 X Y _ hy tm k_,.rw 52 (.bool (rr !=0)) b_ (by rw[t52]),.rw 55 (.bool (decide (X<0))) b_ (by rw[t55]),.rw 57 (.bool (decide (Y<0))) b_ (by rw[t57]),o1.at 63,.wr 67 .i64 (qq*Y) (qq*Y) GV,.wr 68 .i64 (X-qq*Y) rr GW,o2.at 69])
 ·have bQ:nd bz Q<1099511627776:=by have:=iX (B:=bz) d_ Uj;omega
  have bR:nd bz R<1099511627776:=by have:=iX (B:=bz) d_ (jl z7);omega
  have bD:nd bz (m2-R)<1099511627776:=by have:=iX (B:=bz) d_ (Cg m2 R);omega
  have bQ1:nd bz (Q+1)<1099511627776:=by have:=uO (m:=Q+1) (n:=p+1) (by rw[dG];omega);omega
  have qL:∀ w,cI prog (aa.at w) (aw f136 77) [.func (.func 175) #[] #[],sl 4 (nd bz m1),sl 5 (nd bz m2)] [(4,some (di m1)),(5,some (di m2)),(6,none),(7,none)] (.tuple #[sl 6 (nd bz Q),sl 7 (nd bz R)]) [(7,di R),(6,di Q)]:=λw=>by rw[hQ,hR];exact aXs (Bs:=aa.at w) (o:=aw f136 77) (y:=.func 175) k_ (k1:=4) (k2:=5) (kq:=6) (kr:=7) d_ It o_ o_
  have EF:∀ w,cI prog (aa.at w) (aw f136 92) [.func (.func 102) #[] #[],sl 6 (nd bz Q),sl 8 1] [(9,none),(6,some (di Q)),(8,some (.row [vI 1] 3 1))] (sl 9 (nd bz (Q+1))) [(9,cF (Q+1))]:=λw=>by have:=rR (B:=aa.at w) (o:=aw f136 92) (x:=.func 102) (aDS (a:=Q) (b:=1) o_ (by rw[WO.1];omega)) (oG (k:=6) (x:=di Q) rfl rfl (oG (k:=8) (x:=.row (cJ 1) 3 1) rfl rfl .nil)) k_ k_ (tE _) 9;rw[WO.1,WO.2]at this;exact this
  have vA:∀ t:Bool,decide (0<nd bz R)=t↔decide (R≠0)=t:=λt=>by have:(0<nd bz R)↔R≠0:=⟨λh e=>by rw[e,nF]at h;omega,λh=>vp d_ h⟩;rw[sQ.2 this]
  by_cases s1:nd 256 m1<=7
  ·have s2:¬nd 256 m2<=7:=λh=>hs ⟨s1,h⟩;have q1:=tJ v1 s1;by_cases hf:R≠0/\n1≠n2
   ·obtain⟨jM,aQ⟩:=hf;obtain⟨f1,f2⟩:=fix jM aQ;rw[f1,f2];cases n1<;>cases n2<;>first|exact absurd rfl aQ|skip
    ·exact aN func136 (λw=>[w1.at 15,w2.at 19,.rw 26 (.bool ((BA (ct m2)).toList==(ByteArray.mk #[]).toList)) a_ (by rw[qY]),q1.at 31,.rw 38 _ (vI (nd 256 m2)) r2,.rw 39 (.bool (decide (((nd 256 m2:Nat):Int)<=7))) a_ (by rw[aP o_]),.mF f136 73 4 m1 o_ k_,.mF f136 76 5 m2 o_ k_,.step 77 _ _ _ _ _ (qL w),.gt 88 (nd bz R) 0 true ((vA _).2 (aH jM)),.bs f136 91 8 1 3 1 [0] (vI 0) [vI 1] #[vI 1] (.row [vI 1] 3 1) rfl (λv hv=>by simp at hv;subst hv;rfl) (λv hv=>by simp at hv;subst hv;rfl) k_ rfl o_ o_ k_,.step 92 (aw f136 92) _ _ _ _ (EF w),.eY f136 95 10 m2 o_ k_,.uN f136 97 11 10 7 m2 R (cF m2) (di R) rfl rfl rfl rfl (jl z7) o_ k_,.fO f136 104 9 (Q+1) true (cF (Q+1)) rfl rfl o_ k_,.fO f136 108 11 (m2-R) true (cF (m2-R)) rfl rfl o_ k_])
    ·exact aN func136 (λw=>[w1.at 15,w2.at 19,.rw 26 (.bool ((BA (ct m2)).toList==(ByteArray.mk #[]).toList)) a_ (by rw[qY]),q1.at 31,.rw 38 _ (vI (nd 256 m2)) r2,.rw 39 (.bool (decide (((nd 256 m2:Nat):Int)<=7))) a_ (by rw[aP o_]),.mF f136 73 4 m1 o_ k_,.mF f136 76 5 m2 o_ k_,.step 77 _ _ _ _ _ (qL w),.gt 88 (nd bz R) 0 true ((vA _).2 (aH jM)),.bs f136 91 8 1 3 1 [0] (vI 0) [vI 1] #[vI 1] (.row [vI 1] 3 1) rfl (λv hv=>by simp at hv;subst hv;rfl) (λv hv=>by simp at hv;subst hv;rfl) k_ rfl o_ o_ k_,.step 92 (aw f136 92) _ _ _ _ (EF w),.eY f136 95 10 m2 o_ k_,.uN f136 97 11 10 7 m2 R (cF m2) (di R) rfl rfl rfl rfl (jl z7) o_ k_,.fO f136 104 9 (Q+1) true (cF (Q+1)) rfl rfl o_ k_,.fO f136 108 11 (m2-R) false (cF (m2-R)) rfl rfl o_ k_])
   ·obtain⟨f1,f2⟩:=WR hf;rw[f1,f2];cases n1<;>cases n2
    ·exact aN func136 (λw=>[w1.at 15,w2.at 19,.rw 26 (.bool ((BA (ct m2)).toList==(ByteArray.mk #[]).toList)) a_ (by rw[qY]),q1.at 31,.rw 38 _ (vI (nd 256 m2)) r2,.rw 39 (.bool (decide (((nd 256 m2:Nat):Int)<=7))) a_ (by rw[aP o_]),.mF f136 73 4 m1 o_ k_,.mF f136 76 5 m2 o_ k_,.step 77 _ _ _ _ _ (qL w),.fO f136 104 6 Q false (di Q) rfl rfl o_ k_,.fO f136 108 7 R false (di R) rfl rfl o_ k_])
    ·have jM:R=0:=gR λh3=>hf ⟨h3,λe=>by cases e⟩;exact aN func136 (λw=>[w1.at 15,w2.at 19,.rw 26 (.bool ((BA (ct m2)).toList==(ByteArray.mk #[]).toList)) a_ (by rw[qY]),q1.at 31,.rw 38 _ (vI (nd 256 m2)) r2,.rw 39 (.bool (decide (((nd 256 m2:Nat):Int)<=7))) a_ (by rw[aP o_]),.mF f136 73 4 m1 o_ k_,.mF f136 76 5 m2 o_ k_,.step 77 _ _ _ _ _ (qL w),.gt 88 (nd bz R) 0 false ((vA _).2 (aP (λh=>h jM))),.fO f136 104 6 Q true (di Q) rfl rfl o_ k_,.fO f136 108 7 R true (di R) rfl rfl o_ k_])
    ·have jM:R=0:=gR λh3=>hf ⟨h3,λe=>by cases e⟩;exact aN func136 (λw=>[w1.at 15,w2.at 19,.rw 26 (.bool ((BA (ct m2)).toList==(ByteArray.mk #[]).toList)) a_ (by rw[qY]),q1.at 31,.rw 38 _ (vI (nd 256 m2)) r2,.rw 39 (.bool (decide (((nd 256 m2:Nat):Int)<=7))) a_ (by rw[aP o_]),.mF f136 73 4 m1 o_ k_,.mF f136 76 5 m2 o_ k_,.step 77 _ _ _ _ _ (qL w),.gt 88 (nd bz R) 0 false ((vA _).2 (aP (λh=>h jM))),.fO f136 104 6 Q true (di Q) rfl rfl o_ k_,.fO f136 108 7 R false (di R) rfl rfl o_ k_])
    ·exact aN func136 (λw=>[w1.at 15,w2.at 19,.rw 26 (.bool ((BA (ct m2)).toList==(ByteArray.mk #[]).toList)) a_ (by rw[qY]),q1.at 31,.rw 38 _ (vI (nd 256 m2)) r2,.rw 39 (.bool (decide (((nd 256 m2:Nat):Int)<=7))) a_ (by rw[aP o_]),.mF f136 73 4 m1 o_ k_,.mF f136 76 5 m2 o_ k_,.step 77 _ _ _ _ _ (qL w),.fO f136 104 6 Q false (di Q) rfl rfl o_ k_,.fO f136 108 7 R true (di R) rfl rfl o_ k_])
  ·have q1:=vX (neg:=n1) s1;by_cases hf:R≠0/\n1≠n2
   ·obtain⟨jM,aQ⟩:=hf;obtain⟨f1,f2⟩:=fix jM aQ;rw[f1,f2];cases n1<;>cases n2<;>first|exact absurd rfl aQ|skip
    ·exact aN func136 (λw=>[w1.at 15,w2.at 19,.rw 26 (.bool ((BA (ct m2)).toList==(ByteArray.mk #[]).toList)) a_ (by rw[qY]),q1.at 31,.mF f136 73 4 m1 o_ k_,.mF f136 76 5 m2 o_ k_,.step 77 _ _ _ _ _ (qL w),.gt 88 (nd bz R) 0 true ((vA _).2 (aH jM)),.bs f136 91 8 1 3 1 [0] (vI 0) [vI 1] #[vI 1] (.row [vI 1] 3 1) rfl (λv hv=>by simp at hv;subst hv;rfl) (λv hv=>by simp at hv;subst hv;rfl) k_ rfl o_ o_ k_,.step 92 (aw f136 92) _ _ _ _ (EF w),.eY f136 95 10 m2 o_ k_,.uN f136 97 11 10 7 m2 R (cF m2) (di R) rfl rfl rfl rfl (jl z7) o_ k_,.fO f136 104 9 (Q+1) true (cF (Q+1)) rfl rfl o_ k_,.fO f136 108 11 (m2-R) true (cF (m2-R)) rfl rfl o_ k_])
    ·exact aN func136 (λw=>[w1.at 15,w2.at 19,.rw 26 (.bool ((BA (ct m2)).toList==(ByteArray.mk #[]).toList)) a_ (by rw[qY]),q1.at 31,.mF f136 73 4 m1 o_ k_,.mF f136 76 5 m2 o_ k_,.step 77 _ _ _ _ _ (qL w),.gt 88 (nd bz R) 0 true ((vA _).2 (aH jM)),.bs f136 91 8 1 3 1 [0] (vI 0) [vI 1] #[vI 1] (.row [vI 1] 3 1) rfl (λv hv=>by simp at hv;subst hv;rfl) (λv hv=>by simp at hv;subst hv;rfl) k_ rfl o_ o_ k_,.step 92 (aw f136 92) _ _ _ _ (EF w),.eY f136 95 10 m2 o_ k_,.uN f136 97 11 10 7 m2 R (cF m2) (di R) rfl rfl rfl rfl (jl z7) o_ k_,.fO f136 104 9 (Q+1) true (cF (Q+1)) rfl rfl o_ k_,.fO f136 108 11 (m2-R) false (cF (m2-R)) rfl rfl o_ k_])
   ·obtain⟨f1,f2⟩:=WR hf;rw[f1,f2];cases n1<;>cases n2
    ·exact aN func136 (λw=>[w1.at 15,w2.at 19,.rw 26 (.bool ((BA (ct m2)).toList==(ByteArray.mk #[]).toList)) a_ (by rw[qY]),q1.at 31,.mF f136 73 4 m1 o_ k_,.mF f136 76 5 m2 o_ k_,.step 77 _ _ _ _ _ (qL w),.fO f136 104 6 Q false (di Q) rfl rfl o_ k_,.fO f136 108 7 R false (di R) rfl rfl o_ k_])
    ·have jM:R=0:=gR λh3=>hf ⟨h3,λe=>by cases e⟩;exact aN func136 (λw=>[w1.at 15,w2.at 19,.rw 26 (.bool ((BA (ct m2)).toList==(ByteArray.mk #[]).toList)) a_ (by rw[qY]),q1.at 31,.mF f136 73 4 m1 o_ k_,.mF f136 76 5 m2 o_ k_,.step 77 _ _ _ _ _ (qL w),.gt 88 (nd bz R) 0 false ((vA _).2 (aP (λh=>h jM))),.fO f136 104 6 Q true (di Q) rfl rfl o_ k_,.fO f136 108 7 R true (di R) rfl rfl o_ k_])
    ·have jM:R=0:=gR λh3=>hf ⟨h3,λe=>by cases e⟩;exact aN func136 (λw=>[w1.at 15,w2.at 19,.rw 26 (.bool ((BA (ct m2)).toList==(ByteArray.mk #[]).toList)) a_ (by rw[qY]),q1.at 31,.mF f136 73 4 m1 o_ k_,.mF f136 76 5 m2 o_ k_,.step 77 _ _ _ _ _ (qL w),.gt 88 (nd bz R) 0 false ((vA _).2 (aP (λh=>h jM))),.fO f136 104 6 Q true (di Q) rfl rfl o_ k_,.fO f136 108 7 R false (di R) rfl rfl o_ k_])
    ·exact aN func136 (λw=>[w1.at 15,w2.at 19,.rw 26 (.bool ((BA (ct m2)).toList==(ByteArray.mk #[]).toList)) a_ (by rw[qY]),q1.at 31,.mF f136 73 4 m1 o_ k_,.mF f136 76 5 m2 o_ k_,.step 77 _ _ _ _ _ (qL w),.fO f136 104 6 Q false (di Q) rfl rfl o_ k_,.fO f136 108 7 R true (di R) rfl rfl o_ k_])

theorem aPJ{y:m_}(ho:dD o.op=some y){n:Nat}{x:Obj}(hx:x.reads=true)(cR:(x.cells.all flat)=true)(hc:(x.cells.drop off).take n=au (ae bz n a))(ha:a<bz^n)(h63:n<=9223372036854775807):
  cI prog Bs o [.func (.func 137) #[] #[],.slice (some ⟨k,off,some 7⟩) n cc] [(k,some x)] (.slice (some ⟨k,off,some 7⟩) (nd bz a) cc) []:=by
 refine jV (fi:=[]) (ca:=[]) ho k_ λι c w hm hn args' du=>?_;obtain⟨v,rfl,h1⟩:=ob du;have hk:c k=some x:=hn _ (aT ..);have hr:=po (len:=n) hm hk hx (bB.1 cR) (λh=>h) h1;rw[hc]at hr;refine(aDu hr ha h63).mono ?_
 rintro e w' ⟨rfl,hb⟩
 refine⟨ι,_,rfl,Map.le.refl _,?_,hm.call hb⟩;have fv:=jy (B:=bz) d_ ha;rcases h1.iF rfl with ⟨q1,q2,q3,q4,q5⟩|⟨b,oo,cap,c',q1,q2,q3,q5⟩
 ·rw[q5];have:nd bz a=0:=by omega
  dsimp only at q4;rw[this,q4,q3];exact .slcN q1
 ·rw[q5];exact .slc q1 o_ q3
theorem aPK(x:Int):IntKind.i64.wrap (((BitVec.ofInt IntKind.i64.bits x)&&& (BitVec.ofInt IntKind.i64.bits 1)).toNat:Int)=x%2:=aD3 x 1 d_
theorem aEf(x:Nat):IntKind.i64.wrap (((BitVec.ofInt IntKind.i64.bits (x:Int))&&& (BitVec.ofInt IntKind.i64.bits 1)).toNat:Int)=((x%2:Nat):Int):=by rw[aPK];rfl
theorem aPL{n z:Nat}(hz:z<=n)(h0:∀ i,i<z->a/bz^i%bz=0):ae bz n a=List.replicate z 0++ae bz (n-z) (a/bz^z):=by
 apply xL
 ·simp[pq];omega
 ·intro i h1 h2;rw[pq]at h1;by_cases hi:i<z
  ·rw[List.getElem_append_left (by simpa using hi)];simp only[ae,Dl,Dm,List.getElem_replicate];exact h0 i hi
  ·rw[List.getElem_append_right (by simp;omega)];simp only[ae,Dl,Dm,Jg];rw[ll,<-eR,show z+(i-z)=i by omega]
theorem aEg{a:Nat}:∀ z,(∀ i,i<z->a/bz^i%bz=0)->a%bz^z=0
 |0,_=>by rw[sU,uf]
 |z+1,h=>by rw[pV,aEg z (λi hi=>h i o_),h z o_];simp
theorem WS{d:Nat}:∀ r,(∀ i,i<r->d/2^i%2=0)->d%2^r=0
 |0,_=>by rw[sU,uf]
 |r+1,h=>by have e:=pV (B:=2) d r;rw[WS r (λi hi=>h i o_),h r o_]at e;rw[e];simp
theorem aPM{x y:Nat}(hr:r<=24)(hx:x<bz)(hy:y<bz):x/2^r+y*2^(24-r)%bz=(y*bz+x)/2^r%bz:=by
 have hb:bz=2^(24-r)*2^r:=by rw[<-eR,show 24-r+r=24 by omega]
 have h2:0<2^r:=cP d_;obtain⟨c,hc⟩:∃ c,c=2^(24-r):=⟨_,rfl⟩;obtain⟨q,hq⟩:∃ q,q=2^r:=⟨_,rfl⟩;rw[<-hc,<-hq]at hb;rw[<-hc,<-hq];rw[<-hq]at h2;have h3:x/q<c:=by rw[iP h2,<-hb];exact hx
 have e1:(y*bz+x)/q=y*c+x/q:=by rw[hb,<-gi,nG,pW _ _ h2,nG]
 have e2:y*c%bz=c*(y%q):=by rw[hb,cX y c,Nat.mul_mod_mul_left]
 have e3:y*c=c*(y%q)+bz*(y/q):=by have:=jz y q;rw[hb,gi,<-pr,nG,this,cX]
 have h4:y%q<q:=cM _ h2;have h5:c*(y%q)+c<=bz:=by rw[hb,<-Od];exact jK _ h4
 have h6:c*(y%q)+x/q<bz:=by omega
 rw[e1,e2,e3,show c*(y%q)+bz*(y/q)+x/q=(c*(y%q)+x/q)+bz*(y/q)by omega,Fz,dW h6];omega
section
variable{Bs:aa}{n a z r:Nat}
def yJ(k n z:Nat):Value:=.slice (some ⟨k,z*1,some 7⟩) n z
def yK(n i:Nat):aX:=[(0,yJ 0 (n-i) i),(4,vI (24*i))]
def nT(n a:Nat):aL:=[(0,.row (au (ae bz n a)) 3 1)]
theorem aPN(hi:i+1<n)(h0:a/bz^i%bz=0)(h63:n<35184372088832):
  ai prog Bs 62 (aJ (ah f134 0)) (yK n i) (nT n a) 1 ⟨.normal,yK n (i+1),nT n a,1⟩:=by
 have jm:dI prog 3 (au (ae bz n a)) (i*1)=some (vI 0):=by rw[gS,ev (eP o_),h0]
 unfold yK nT yJ;generalize au (ae bz n a)=r0 at *;obtain⟨m,hm⟩:∃ m,n-i=m+1:=⟨n-i-1,by omega⟩;have dH:n-(i+1)=m:=by omega
 rw[hm,dH];exact aE [.qh f134 8 0 i (m+1) i 0 i 1 o_ (jf i) k_,.ld f134 9 3 0 (i*1) (.row r0 3 1) (vI 0) rfl jm k_,.fN 10 0 0 true rfl,.next f134 12 0 i m 1 o_ k_,.sum 14 (24*i) 24 (24*(i+1)) o_ o_]
theorem aPO(hi:i<n)(h0:a/bz^i%bz≠0):
  ai prog Bs 62 (aJ (ah f134 0)) (yK n i) (nT n a) 1 ⟨.exit 0,yK n i,nT n a,1⟩:=by
 have jm:dI prog 3 (au (ae bz n a)) (i*1)=some (vI (a/bz^i%bz)):=by rw[gS,ev (eP o_)]
 unfold yK nT yJ;generalize au (ae bz n a)=r0 at *;generalize a/bz^i%bz=d at *;exact aE [.qh f134 8 0 i (n-i) i 0 i 1 o_ (jf i) k_,.ld f134 9 3 0 (i*1) (.row r0 3 1) (vI d) rfl jm k_,.fN 10 d 0 false (aP h0)]
theorem aPP(hz:z<n)(h0:∀ i,i<z->a/bz^i%bz=0)(h1:a/bz^z%bz≠0)(h63:n<35184372088832):
  ai prog Bs 62 (.block 0 (ah f134 0)) (yK n 0) (nT n a) 1 ⟨.normal,yK n z,nT n a,1⟩:=
 cd (id:=0) (cA (b:=aJ (ah f134 0)) (r:=⟨.exit 0,yK n z,nT n a,1⟩) z (yK n) (λ_=>nT n a) (λ_ _ _=>Iff.rfl) (λi hi=>aPN o_ (h0 i hi) h63) (aPO hz h1) n_)
def yL(n z i:Nat):aX:=[(0,yJ 0 (n-z) z),(5,vI i)]
theorem aPQ(hz:z<n)(hd:a/bz^z%bz=d)(EG:d<bz)(hi:i<24)(h0:d/2^i%2=0):
  ai prog Bs 62 (aJ (ah f134 2)) (yL n z i) (nT n a) 1 ⟨.normal,yL n z (i+1),nT n a,1⟩:=by
 have jm:dI prog 3 (au (ae bz n a)) (z*1)=some (vI d):=by rw[gS,ev (eP o_),hd]
 unfold yL nT yJ;generalize au (ae bz n a)=r0 at *;exact aE [.qh f134 16 0 z (n-z) z 0 z 1 o_ (jf z) k_,.ld f134 17 3 0 (z*1) (.row r0 3 1) (vI d) rfl jm k_,.shr f134 19 .i64 (d:Int) ((d/2^i:Nat):Int) i (by rw[show min i IntKind.i64.bits=i from oP (show i<=64 by omega),sT _ (H8 d_),ug,H9];rfl) k_,.wr 20 .i64 _ ((d/2^i%2:Nat):Int) (aEf _),.fN 21 (d/2^i%2) 0 true (aH h0),.sum 23 i 1 (i+1) rfl o_]
theorem aPR(hz:z<n)(hd:a/bz^z%bz=d)(EG:d<bz)(hi:i<24)(h0:d/2^i%2≠0):
  ai prog Bs 62 (aJ (ah f134 2)) (yL n z i) (nT n a) 1 ⟨.exit 2,yL n z i,nT n a,1⟩:=by
 have jm:dI prog 3 (au (ae bz n a)) (z*1)=some (vI d):=by rw[gS,ev (eP o_),hd]
 unfold yL nT yJ;generalize au (ae bz n a)=r0 at *;exact aE [.qh f134 16 0 z (n-z) z 0 z 1 o_ (jf z) k_,.ld f134 17 3 0 (z*1) (.row r0 3 1) (vI d) rfl jm k_,.shr f134 19 .i64 (d:Int) ((d/2^i:Nat):Int) i (by rw[show min i IntKind.i64.bits=i from oP (show i<=64 by omega),sT _ (H8 d_),ug,H9];rfl) k_,.wr 20 .i64 _ ((d/2^i%2:Nat):Int) (aEf _),.fN 21 (d/2^i%2) 0 false (aP h0)]
theorem aPS(hz:z<n)(hd:a/bz^z%bz=d)(EG:d<bz)(hr:r<24)(h0:∀ i,i<r->d/2^i%2=0)(h1:d/2^r%2≠0):
  ai prog Bs 62 (.block 2 (ah f134 2)) (yL n z 0) (nT n a) 1 ⟨.normal,yL n z r,nT n a,1⟩:=
 cd (id:=2) (cA (b:=aJ (ah f134 2)) (r:=⟨.exit 2,yL n z r,nT n a,1⟩) r (yL n z) (λ_=>nT n a) (λ_ _ _=>Iff.rfl) (λi hi=>aPQ hz hd EG o_ (h0 i hi)) (aPR hz hd EG hr h1) n_)
def EH(l z r i:Nat):aX:=[(0,yJ 0 l z),(5,vI r),(6,vI i)]
def pK(l z r a1 i:Nat):List Nat:=List.replicate z 0++dc bz l i (a1/2^r) a1
def AQ(l z r a1 i:Nat):aL:=[(0,.row (au (pK l z r a1 i)) 3 1)]
theorem aEh{l:Nat}(hj:j<l)(h:i<=j):(pK l z r a1 i)[z+j]?=some (a1/bz^j%bz):=by unfold pK;rw[Fg s_,Jg,FJ];exact Dn hj h
theorem aEi{l:Nat}(hi:i<l)(hd:d=a1/2^r/bz^i%bz):(pK l z r a1 i).set (z+i) d=pK l z r a1 (i+1):=by unfold pK;rw[V0 _ _ s_,Jg,FJ,zF hi hd]
theorem WT{l:Nat}:(pK l z r a1 i).length=z+l:=by unfold pK;rw[lh,Jg,xM]
theorem aPT{l:Nat}(hr:r<24)(hi:i<l)(ha:a1<bz^l)(h63:z+l<35184372088832):
  ai prog Bs 62 (aJ (ah f134 4)) (EH l z r i) (AQ l z r a1 i) 1 ⟨.normal,EH l z r (i+1),AQ l z r a1 (i+1),1⟩:=by
 have hx:=iB (B:=bz) d_ a1 i;have hy:=iB (B:=bz) d_ a1 (i+1);have vW:=aPM (r:=r) o_ hx hy;rw[aA5 (B:=bz) (k:=r) (X:=a1) (i:=i) d_ ⟨2^(24-r),by rw[<-eR,show r+(24-r)=24 by omega]⟩]at vW;have hw:=iB (B:=bz) d_ (a1/2^r) i;have hlx:dI prog 3 (au (pK l z r a1 i)) ((z+i)*1)=some (vI (a1/bz^i%bz)):=by rw[gS];exact ev (aEh hi (bC _))
 obtain⟨o9,Ei⟩:∃ o9,o9=(pK l z r a1 i).set (z+i) (a1/bz^i%bz/2^r):=⟨_,rfl⟩;have tY:fo prog 3 (au (pK l z r a1 i)) ((z+i)*1) (vI (a1/bz^i%bz/2^r))=some (au o9):=by rw[gS,xe (by rw[WT];omega),Ei]
 have EE:dI prog 3 (au o9) ((z+i)*1)=some (vI (a1/bz^i%bz/2^r)):=by rw[gS];refine ev ?_;rw[Ei,List.getElem?_set_self (by rw[WT];omega)]
 have WU:i+1<l->dI prog 3 (au o9) ((z+(i+1))*1)=some (vI (a1/bz^(i+1)%bz)):=λh=>by rw[gS];refine ev ?_;rw[Ei,List.getElem?_set_ne o_];exact aEh h o_
 have vk:fo prog 3 (au o9) ((z+i)*1) (vI (a1/2^r/bz^i%bz))=some (au (pK l z r a1 (i+1))):=by rw[gS,xe (by rw[Ei,WH,WT];omega),Ei,List.set_set,aEi hi rfl]
 have ui:¬i+1<l->au o9=au (pK l z r a1 (i+1))/\True:=λh=>by have h0:a1/bz^(i+1)%bz=0:=rH ha o_ d_;rw[h0,lP,Nat.zero_mod,jf]at vW;refine⟨?_,trivial⟩;rw[Ei,vW,aEi hi rfl]
 have ke:bz=16777216:=rfl;unfold EH AQ yJ;generalize au (pK l z r a1 (i+1))=r2 at *;generalize au (pK l z r a1 i)=r0 at *;generalize au o9=r1 at *;generalize a1/2^r/bz^i%bz=w at *;generalize a1/bz^(i+1)%bz=y at *;generalize a1/bz^i%bz=x at *;have hq:(x:Int).fdiv (2^(min r IntKind.i64.bits))=((x/2^r:Nat):Int):=by rw[show min r IntKind.i64.bits=r from oP (show r<=64 by omega),sT _ (H8 d_),ug,H9];rfl
 have hxq:x/2^r<=x:=uh _ _;by_cases hl:i+1<l
 ·have WU:=WU hl;have h24:y*2^(24-r)<281474976710656:=by have h1:2^(24-r)<=2^24:=df d_ o_;have h2:=aA9 hy h1 d_;rw[show bz*2^24=281474976710656 by decide]at h2;exact h2
  have aEj:IntKind.i64.wrap ((y:Int)*2^(min (24-r) IntKind.i64.bits))=((y*2^(24-r):Nat):Int):=by
   have e:(y:Int)*2^(24-r)=((y*2^(24-r):Nat):Int):=by simp
   rw[show min (24-r) IntKind.i64.bits=24-r from oP (show 24-r<=64 by omega),dh,e];omega
  obtain⟨g,hg⟩:∃ g,g=y*2^(24-r):=⟨_,rfl⟩;rw[<-hg]at vW aEj h24;obtain⟨v,hv⟩:∃ v,v=x/2^r:=⟨_,rfl⟩;rw[<-hv]at vW hq hxq tY EE;exact fD mixed 200 [.lt 27 i l true (by simp[hi]),.qh f134 32 0 z l z i (z+i) 1 hi rfl k_,.ld f134 33 3 0 ((z+i)*1) (.row r0 3 1) (vI x) rfl hlx k_,.shr f134 35 .i64 (x:Int) (v:Int) r hq k_,.qh f134 36 0 z l z i (z+i) 1 hi rfl k_,.st f134 100036 3 0 ((z+i)*1) (.row r0 3 1) (vI v) (.row r1 3 1) rfl tY rfl k_,.sum 38 i 1 (i+1) rfl o_,.lt 41 (i+1) l true (by simp[hl]),.qh f134 44 0 z l z i (z+i) 1 hi rfl k_,.ld f134 45 3 0 ((z+i)*1) (.row r1 3 1) (vI v) rfl EE k_,.sum 48 i 1 (i+1) rfl o_,.qh f134 49 0 z l z (i+1) (z+(i+1)) 1 hl rfl k_,.ld f134 50 3 0 ((z+(i+1))*1) (.row r1 3 1) (vI y) rfl WU k_,.fp 52 24 r (24-r) o_ o_,.shl f134 53 .i64 (y:Int) (g:Int) (24-r) aEj k_,.GK 54 g bz (g%bz) rfl,.sum 55 v (g%bz) w vW.symm o_,.qh f134 56 0 z l z i (z+i) 1 hi rfl k_,.st f134 100056 3 0 ((z+i)*1) (.row r1 3 1) (vI w) (.row r2 3 1) rfl vk rfl k_,.sum 29 i 1 (i+1) rfl o_] k_
 ·obtain⟨e1,_⟩:=ui hl;subst e1;obtain⟨v,hv⟩:∃ v,v=x/2^r:=⟨_,rfl⟩;rw[<-hv]at vW hq hxq tY EE;exact fD mixed 200 [.lt 27 i l true (by simp[hi]),.qh f134 32 0 z l z i (z+i) 1 hi rfl k_,.ld f134 33 3 0 ((z+i)*1) (.row r0 3 1) (vI x) rfl hlx k_,.shr f134 35 .i64 (x:Int) (v:Int) r hq k_,.qh f134 36 0 z l z i (z+i) 1 hi rfl k_,.st f134 100036 3 0 ((z+i)*1) (.row r0 3 1) (vI v) (.row r1 3 1) rfl tY rfl k_,.sum 38 i 1 (i+1) rfl o_,.lt 41 (i+1) l false (by simp[hl]),.sum 29 i 1 (i+1) rfl o_] k_
theorem aPU{l:Nat}(hr:r<24)(ha:a1<bz^l)(h63:z+l<35184372088832):
  ai prog Bs 62 (.block 4 (ah f134 4)) (EH l z r 0) (AQ l z r a1 0) 1 ⟨.normal,EH l z r l,AQ l z r a1 l,1⟩:=
 cd (id:=4) (cA (b:=aJ (ah f134 4)) (r:=⟨.exit 4,EH l z r l,AQ l z r a1 l,1⟩) l (EH l z r) (AQ l z r a1) (λk j _=>km (l:=AQ l z r a1 k) (m:=AQ l z r a1 0) rfl j) (λi hi=>aPT hr hi ha h63)
  (aE [.lt 27 l l false s_]) n_)
end

theorem aEk(h0:a≠0):∃ z r,z<nd bz a/\r<24/\(∀ i,i<z->a/bz^i%bz=0)/\a/bz^z%bz≠0/\(∀ i,i<r->a/bz^z%bz/2^i%2=0)/\a/bz^z%bz/2^r%2≠0/\
  a=a/bz^z/2^r*2^(24*z+r)/\a/bz^z/2^r%2=1:=by
 have EI:=vp (B:=bz) d_ h0;have xZ:¬a/bz^(nd bz a-1)%bz=0:=λh=>by have h1:=ew (B:=bz) d_ a;rw[show nd bz a=nd bz a-1+1 by omega]at h1;have h2:=(HN (B:=bz) d_ h1).1 h;have h3:=jy (B:=bz) d_ h2;omega
 obtain⟨z,z1,z2,z3⟩:=zE (λi=>¬a/bz^i%bz=0) _ xZ;have z3':∀ i,i<z->a/bz^i%bz=0:=λi hi=>FE.1 (z3 i hi);obtain⟨d,hd⟩:∃ d,d=a/bz^z%bz:=⟨_,rfl⟩;have EG:d<bz:=by rw[hd];exact cM _ d_
 have DQ:d≠0:=by rw[hd];exact z2
 have aPV:∃ i,i<24/\¬d/2^i%2=0:=gR λfX=>DQ (by have h:=WS (d:=d) 24 (λi hi=>gR λh=>fX ⟨i,hi,h⟩);rw[dW (show d<2^24 from EG)]at h;exact h)
 obtain⟨i0,hi0,lB⟩:=aPV;obtain⟨r,r1,r2,r3⟩:=zE (λi=>¬d/2^i%2=0) _ lB;have WV:∀ i,i<r->d/2^i%2=0:=λi hi=>FE.1 (r3 i hi);have e1:a%bz^z=0:=aEg z z3';have e2:d%2^r=0:=WS r WV;obtain⟨a1,eG⟩:∃ a1,a1=a/bz^z:=⟨_,rfl⟩;have ea:a=a1*bz^z:=by have:=jz a (bz^z);rw[e1,<-eG,cX]at this;omega
 have hb:bz=2^(24-r)*2^r:=by rw[<-eR,show 24-r+r=24 by omega]
 have ed:a1=bz*(a1/bz)+d:=by rw[hd,<-eG];exact(jz _ _).symm
 have e3:a1%2^r=0:=by
  rw[ed]
  conv=>lhs;rw[hb]
  rw[B7,cX _ (2^r),Nat.mul_add_mod,e2]
 have ea1:a1=a1/2^r*2^r:=by have:=jz a1 (2^r);rw[e3,cX]at this;omega
 have e4:a1/2^r%2=d/2^r%2:=by
  have h2:0<2^r:=cP d_;have h3:a1/2^r=2^(24-r)*(a1/bz)+d/2^r:=by
   conv=>lhs;rw[ed,hb]
   rw[B7,nG,pW _ _ h2,nG];rw[<-hb]
  rw[h3,show 24-r=(23-r)+1 by omega,dG,B7,nG,DH]
 rw[hd]at r2 WV;refine⟨z,r,by omega,by omega,z3',z2,WV,r2,?_,?_⟩
 ·rw[<-eG];have e5:bz^z=2^(24*z):=by rw[sV]
  rw[eR,cX (2^(24*z)),<-gi,<-ea1,<-e5];exact ea
 ·rw[<-eG,e4,hd];omega
theorem aPW(h0:a≠0)(h63:nd bz a<1099511627776):∃ s a2,a=a2*2^s/\a2%2=1/\s<35184372088832/\∀(Bs:aa) (o:Oper) (k j:Nat),dD o.op=some (.func 134)->
  cI prog Bs o [.func (.func 134) #[] #[],sl k (nd bz a)] [(k,some (cF a)),(j,none)] (.tuple #[sl j (nd bz a2),vI s]) [(j,di a2),(k,.dead)]:=by
 obtain⟨z,r,hz,hr,z3,z2,r3,r2,aEl,QU⟩:=aEk h0;have al:=ew (B:=bz) d_ a;obtain⟨a1,eG⟩:∃ a1,a1=a/bz^z:=⟨_,rfl⟩;obtain⟨a2,gV⟩:∃ a2,a2=a1/2^r:=⟨_,rfl⟩;have EG:a/bz^z%bz<bz:=cM _ d_;rw[<-eG,<-gV]at aEl QU;refine⟨24*z+r,a2,aEl,QU,by omega,λBs o k j ho=>?_⟩;have h20:a2≠0:=λe=>by rw[e]at QU;cases QU
 have GX:=aPL (n:=nd bz a) (z:=z) (a:=a) o_ z3;rw[<-eG]at GX;have jI:cF a=.row (au (ae bz (nd bz a) a)) 3 1:=rfl;obtain⟨n,hn⟩:∃ n,n=nd bz a:=⟨_,rfl⟩;rw[jI];rw[<-hn]at hz al GX h63 ⊢;have aEm:a1<bz^(n-z):=by rw[eG,iP (cP d_),<-eR,show n-z+z=n by omega];exact al
 have WW:a2<bz^(n-z):=fq (by rw[gV];exact uh _ _) aEm;have l1:=λBs=>aPP (Bs:=Bs) hz z3 z2 o_;have l2:=λBs=>aPS (Bs:=Bs) (r:=r) hz rfl EG hr r3 r2;have l3:=λBs=>aPU (Bs:=Bs) (z:=z) (l:=n-z) hr aEm o_;have e0:pK (n-z) z r a1 0=ae bz n a:=by unfold pK;rw[GX];unfold dc ae;simp
 have e1:pK (n-z) z r a1 (n-z)=List.replicate z 0++ae bz (n-z) a2:=by
  unfold pK;rw[<-gV]
  congr 1
  unfold dc ae;refine vm λi hi=>?_;rw[aB (jT.1 hi)]
 obtain⟨fin,EA⟩:∃ fin,fin=au (List.replicate z 0++ae bz (n-z) a2):=⟨_,rfl⟩;have aEn:(fin.drop (z*1)).take (n-z)=au (ae bz (n-z) a2):=by rw[EA,gS];unfold au;rw[vf,Sv s_,kT (by simp[pq])]
 unfold AQ at l3;rw[e0,e1,<-EA]at l3;have aPX:nd bz a2<=n-z:=jy d_ WW;have DJ:fin.all flat=true:=by rw[EA];exact iK _
 have DP:(fin.drop (z*1)).take (nd bz a2)=cJ a2:=by
  have h1:(au (ae bz (n-z) a2)).take (nd bz a2)=cJ a2:=by have:=CM WW;rwa[gS]at this
  rw[<-aEn,NC,oP aPX]at h1;exact h1
 have kC:=vp (B:=bz) d_ h20;have htr:∀ Bs,cI prog Bs (aw f134 58) [.func (.func 137) #[] #[],yJ 0 (n-z) z] [(0,some (.row fin 3 1))] (yJ 0 (nd bz a2) z) []:=λBs=>
  aPJ (Bs:=Bs) (y:=.func 137) (k:=0) (off:=z*1) (cc:=z) (x:=.row fin 3 1) k_ rfl DJ aEn WW o_
 unfold yK nT at l1;unfold yL nT at l2;unfold EH at l3;refine aPa (x:=.func 134) ho k_ o_ (nk _) (nk _) rfl kC λw g cap cur hg lg jS bH hc=>?_;have hm:=Tm hg jS bH hc (nk _)
 refine sO (M:=[(0,.row (au (ae bz n a)) 3 1)]) (next:=1) (args:=[sl 0 n]) (args':=[.slice (some ⟨g,0,none⟩) n cap]) (v:=.tuple #[yJ 0 (nd bz a2) z,vI (24*z+r)])
  (ms:=[(0,.row fin 3 1)]) (N:=62) mixed func134 k_ 200
  (rs:=[(.code 0 _ _ _ _ _ (l1 _):bd prog (aa.wG w g) 62),.code 2 _ _ _ _ _ (l2 _),.code 4 _ _ _ _ _ (l3 _),.step 58 (aw f134 58) _ _ _ _ (htr _),.sum 61 (24*z) r (24*z+r) rfl o_]) k_ ?_ hm ?_ ?_ ?_
 ·exact .cons (.slc (off:=0) (gg _ _ _) lg o_) .nil
 ·exact aAo _ _ _
 ·intro k hk;unfold bA;rw[av o_]
 ·intro az cr v' w' hle tW bE dQ;have yn:=dQ _ (aT ..);have rl:=hle 0 _ (gg _ _ _);obtain⟨q1,gn,q2,q3,q4⟩:=Tn bE rl yn (bB.1 DJ);obtain⟨cT,rfl,bh⟩:=tW.uY;obtain⟨p,q,hp,h3,h4⟩:=jv bh;have e:cT=#[p,q]:=wz.1 (by rw[hp]);subst e;rw[h4.eZ rfl];have cz:=po (len:=nd bz a2) bE yn rfl (bB.1 DJ) (λh=>h) h3;have CT:cW w' p (nd bz a2) ((fin.drop (z*1)).take (nd bz a2)):=cz;rw[DP]at CT;rcases h3.iF rfl with ⟨_,Kb,_⟩|⟨b,oo,qx,c2,gF,_,_,he⟩
  ·omega
  ·dsimp only at gF he;rw[rl]at gF;injection gF with gF;injection gF with gF hb3 hb4;subst gF;subst hb3;rw[he]at CT ⊢;exact⟨_,_,rfl,q1,⟨gn,q2,q3⟩,CT⟩
theorem aEo{m:Nat}(h:m%2=1)(s:Nat):Nat.Coprime (2^s) m:=by refine Nat.Coprime.pow_left s ?_;show Nat.gcd 2 m=1;rw[Nat.gcd_rec,h];rfl
theorem aEp{x y s t:Nat}(h:x*2^s=y*2^t)(hx:x%2=1)(bP:s<=t):x=y/\s=t:=by
 obtain⟨d,rfl⟩:∃ d,t=s+d:=⟨t-s,by omega⟩;have h2:0<2^s:=cP d_;rw[eR,cX (2^s),<-gi]at h;have h3:=aK4 h2 h;cases d with
 |zero=>exact⟨by rw[h3];simp,rfl⟩
 |succ d=>
  exfalso;rw[dG,<-gi]at h3;rw[h3,Z8]at hx;cases hx
theorem aPY{x y s t:Nat}(h:x*2^s=y*2^t)(hx:x%2=1)(hy:y%2=1):x=y/\s=t:=by
 rcases OV s t with h1|h1
 ·exact aEp h hx h1
 ·obtain⟨e1,e2⟩:=aEp h.symm hy h1;exact⟨e1.symm,e2.symm⟩
noncomputable def il(a:Nat):Nat:=by
 classical
 exact if h:∃ x s,a=x*2^s/\x%2=1 then h.choose else 1
theorem aEq{x s:Nat}(h:a=x*2^s)(hx:x%2=1):il a=x:=by have hex:∃ x s,a=x*2^s/\x%2=1:=⟨x,s,h,hx⟩;unfold il;rw[dif_pos hex];obtain⟨t,h1,h2⟩:=hex.choose_spec;exact(aPY (h1.symm.trans h) h2 hx).1
theorem WX(h0:a≠0):∃ s,a=il a*2^s/\il a%2=1/\il a<=a:=by obtain⟨z,r,_,_,_,_,_,_,h1,h2⟩:=aEk h0;have e:=aEq h1 h2;rw[e];exact⟨_,h1,h2,dq (FG _ (cP d_)) (u5 h1.symm)⟩
noncomputable def gs(a b:Nat):Nat->Nat×Nat
 |0=>(a,b)
 |i+1=>(min (gs a b i).1 (gs a b i).2,il (max (gs a b i).1 (gs a b i).2-min (gs a b i).1 (gs a b i).2))
theorem aPZ{u v:Nat}(hu:u%2=1)(hv:v%2=1)(aQ:u≠v):min u v%2=1/\il (max u v-min u v)%2=1/\Nat.gcd (min u v) (il (max u v-min u v))=Nat.gcd u v/\min u v+il (max u v-min u v)<u+v/\max (min u v) (il (max u v-min u v))<=max u v:=by
 have go:∀ u v,u%2=1->u<v->il (v-u)%2=1/\Nat.gcd u (il (v-u))=Nat.gcd u v/\u+il (v-u)<u+v/\max u (il (v-u))<=v:=by intro u v hu al;obtain⟨s,h1,h2,h3⟩:=WX (show v-u≠0 by omega);refine⟨h2,?_,by omega,Nat.max_le.2 ⟨by omega,by omega⟩⟩;have h4:=(aEo hu s).gcd_mul_right_cancel_right (il (v-u));rw[<-h1]at h4;rw[<-h4,Nat.gcd_sub_self_right o_]
 rcases Fj aQ with h|h
 ·rw[oP o_,aEr o_];obtain⟨h1,h2,h3,h4⟩:=go u v hu h;exact⟨hu,h1,h2,h3,h4⟩
 ·rw[WD o_,aEs o_];obtain⟨h1,h2,h3,h4⟩:=go v u hv h;exact⟨hv,h1,by rw[h2,Iq],by omega,h4⟩
theorem QV{a b:Nat}(ha:a%2=1)(hb:b%2=1):∀ i,(∀ j,j<i->(gs a b j).1≠(gs a b j).2)->(gs a b i).1%2=1/\(gs a b i).2%2=1/\Nat.gcd (gs a b i).1 (gs a b i).2=Nat.gcd a b/\(gs a b i).1+(gs a b i).2+i<=a+b/\max (gs a b i).1 (gs a b i).2<=max a b
 |0,_=>⟨ha,hb,rfl,bC _,bC _⟩
 |i+1,h=>by obtain⟨h1,h2,h3,h4,h5⟩:=QV ha hb i λj hj=>h j o_;obtain⟨k1,k2,k3,k4,k5⟩:=aPZ h1 h2 (h i o_);exact⟨k1,k2,k3.trans h3,by show min _ _+il _+(i+1)<=a+b;omega,dq k5 h5⟩
theorem aP0(ha:a%2=1)(hb:b%2=1):∃ n,(gs a b n).1=(gs a b n).2/\∀ i,i<n->(gs a b i).1≠(gs a b i).2:=by
 have key:∃ n,(gs a b n).1=(gs a b n).2:=gR λfX=>by have:=QV ha hb (a+b+1) λj _ h=>fX ⟨j,h⟩;omega
 obtain⟨n,hn⟩:=key;obtain⟨e,h1,h2,h3⟩:=zE (λi=>(gs a b i).1=(gs a b i).2) n hn;exact⟨e,h2,h3⟩
theorem aP1{x y s t:Nat}(hx:x%2=1)(hy:y%2=1):Nat.gcd (x*2^s) (y*2^t)=Nat.gcd x y*2^(min s t):=by
 have go:∀ x y s t,x%2=1->s<=t->Nat.gcd (x*2^s) (y*2^t)=Nat.gcd x y*2^s:=by intro x y s t hx bP;obtain⟨d,rfl⟩:∃ d,t=s+d:=⟨t-s,by omega⟩;rw[eR,cX (2^s),<-gi,Nat.gcd_mul_right,(aEo hx d).gcd_mul_right_cancel_right]
 rcases OV s t with h|h
 ·rw[oP h,go x y s t hx h]
 ·rw[WD h,Iq,go y x t s hy h,Iq]
theorem WY(h:decide (a=b)=t):Value.bool (iC a b==0)=.bool t:=by
 rw[<-h];congr 1;unfold iC
 by_cases h1:a<b
 ·rw[aB h1,aP o_];rfl
 ·rw[av h1];by_cases h2:b<a
  ·rw[aB h2,aP o_];rfl
  ·rw[av h2,aH o_];rfl
theorem aEt(h:decide (b<a)=t):Value.bool (decide (iC a b>0))=.bool t:=by
 rw[<-h];congr 1;rw[sQ];unfold iC
 by_cases h1:a<b
 ·rw[aB h1];omega
 ·rw[av h1];by_cases h2:b<a
  ·rw[aB h2];omega
  ·rw[av h2];omega
theorem QW(h0:a≠0)(h63:nd bz a<1099511627776):∃ s,a=il a*2^s/\s<35184372088832/\∀(Bs:aa) (o:Oper) (k j:Nat),dD o.op=some (.func 134)->
  cI prog Bs o [.func (.func 134) #[] #[],sl k (nd bz a)] [(k,some (cF a)),(j,none)] (.tuple #[sl j (nd bz (il a)),vI s]) [(j,di (il a)),(k,.dead)]:=by
 obtain⟨s,a2,h1,h2,h3,h4⟩:=aPW h0 h63;have e:=aEq h1 h2;rw[e];exact⟨s,h1,h3,h4⟩
section
variable{Bs:aa}
def gI(u v:Nat):aX:=[(9,sl 7 (nd bz u)),(10,sl 8 (nd bz v))]
def gX(u v:Nat):List Obj:=[di u,di v]
theorem aP2{u v:Nat}(al:u<v)(hu:nd bz u<1099511627776)(hv:nd bz v<1099511627776):
  ai prog Bs 111 (aJ (ah f81 2)) (gI u v) ([]++marks 7 (gX u v)) 9 ⟨.normal,gZ 7 [some 7,some 10] (gI u (il (v-u))),[]++dY [some 7,some 10] (gX u (il (v-u))),11⟩:=by
 have hd:nd bz (v-u)<1099511627776:=fq (iX d_ (Cg _ _)) hv;obtain⟨s,_,_,ho⟩:=QW (show v-u≠0 by omega) hd;exact aE [.vY f81 86 7 8 u v (di u) (di v) rfl rfl rfl rfl o_ o_ k_,.rw 88 _ a_ (WY (a:=u) (b:=v) (aP o_)),.rw 90 _ a_ (aEt (a:=u) (b:=v) (aP o_)),.uN f81 96 9 8 7 v u (di v) (di u) rfl rfl rfl rfl o_ o_ k_,.step 97 _ _ _ _ _ (ho Bs (aw f81 97) 9 10 k_)]
theorem aP3{u v:Nat}(al:v<u)(hu:nd bz u<1099511627776)(hv:nd bz v<1099511627776):
  ai prog Bs 111 (aJ (ah f81 2)) (gI u v) ([]++marks 7 (gX u v)) 9 ⟨.normal,gZ 7 [some 8,some 10] (gI v (il (u-v))),[]++dY [some 8,some 10] (gX v (il (u-v))),11⟩:=by
 have hd:nd bz (u-v)<1099511627776:=fq (iX d_ (Cg _ _)) hu;obtain⟨s,_,_,ho⟩:=QW (show u-v≠0 by omega) hd;exact aE [.vY f81 86 7 8 u v (di u) (di v) rfl rfl rfl rfl o_ o_ k_,.rw 88 _ a_ (WY (a:=u) (b:=v) (aP o_)),.rw 90 _ b_ (aEt (a:=u) (b:=v) (aH o_)),.uN f81 96 9 7 8 u v (di u) (di v) rfl rfl rfl rfl o_ o_ k_,.step 97 _ _ _ _ _ (ho Bs (aw f81 97) 9 10 k_)]
theorem aP4{u:Nat}(hu:nd bz u<1099511627776):
  ai prog Bs 111 (aJ (ah f81 2)) (gI u u) ([]++marks 7 (gX u u)) 9 ⟨.exit 2,[(9,sl 7 (nd bz u))],[(7,di u)],9⟩:=
 aE [.vY f81 86 7 8 u u (di u) (di u) rfl rfl rfl rfl o_ o_ k_,.rw 88 _ b_ (WY (a:=u) (b:=u) (aH rfl))]
theorem aP5(ha:a%2=1)(hb:b%2=1)(hm:nd bz (max a b)<1099511627776):
  ai prog Bs 111 (.block 2 (ah f81 2)) [(9,sl 5 (nd bz a)),(10,sl 6 (nd bz b))] [(5,di a),(6,di b)] 7 ⟨.normal,[(9,sl 7 (nd bz (Nat.gcd a b)))],[(7,di (Nat.gcd a b))],9⟩:=by
 obtain⟨n,hn,hi⟩:=aP0 ha hb;have vK:=(QV ha hb n hi).2.2.1;rw[hn,Nat.gcd_self]at vK;have Fk:∀ i,i<=n->nd bz (gs a b i).1<1099511627776/\nd bz (gs a b i).2<1099511627776:=λi cz=>by have h:=(QV ha hb i λj hj=>hi j o_).2.2.2.2;have h1:=iX (B:=bz) d_ (dq (Nat.le_max_left _ _) h);have h2:=iX (B:=bz) d_ (dq (Nat.le_max_right _ _) h);omega
 have ui:ai prog Bs 111 (aJ (ah f81 2)) (gI (gs a b n).1 (gs a b n).2) ([]++marks 7 (gX (gs a b n).1 (gs a b n).2)) 9 ⟨.exit 2,[(9,sl 7 (nd bz (Nat.gcd a b)))],[(7,di (Nat.gcd a b))],9⟩:=by have gF:=(Fk n (bC _)).2;rw[hn,vK]at *;exact aP4 gF
 have:=rJ (P:=prog) (B:=Bs) (N:=111) (b:=aJ (ah f81 2)) (next:=7) (p:=2) (r:=⟨.exit 2,[(9,sl 7 (nd bz (Nat.gcd a b)))],[(7,di (Nat.gcd a b))],9⟩) n (λi=>gI (gs a b i).1 (gs a b i).2) (λ_=>[]) (λi=>gX (gs a b i).1 (gs a b i).2) [some 5,some 6] (λ_ _=>rfl)
  (λi _=>⟨λq hq=>(by cases hq),λz hz=>by simp[gX]at hz;rcases hz with rfl|rfl<;>exact H4 (nk _)⟩) k_ k_
  (λi al=>by
   have aQ:=hi i al;obtain⟨b1,b2⟩:=Fk i o_;have e1:(gs a b (i+1)).1=min (gs a b i).1 (gs a b i).2:=rfl;have e2:(gs a b (i+1)).2=il (max (gs a b i).1 (gs a b i).2-min (gs a b i).1 (gs a b i).2):=rfl;simp only[e1,e2];generalize (gs a b i).1=u at *;generalize (gs a b i).2=v at *;rcases Fj aQ with h|h
   ·rw[oP o_,aEr o_];exact⟨[some 7,some 10],11,k_,aP2 h b1 b2⟩
   ·rw[WD o_,aEs o_];exact⟨[some 8,some 10],11,k_,aP3 h b1 b2⟩) ui n_
 exact cd (id:=2) this
def tI(g s t i:Nat):aX:=[(14,vI i),(9,sl 9 (nd bz (g*2^i))),(11,vI s),(12,vI t)]
theorem aP6{g s t:Nat}(hi:i<min s t)(hg:nd bz (g*2^i)<35184372088832)(hs:s<35184372088832):
  ai prog Bs 111 (aJ (ah f81 4)) (tI g s t i) ([]++marks 9 [di (g*2^i)]) 10 ⟨.normal,gZ 9 [some 10] (tI g s t (i+1)),[]++dY [some 10] [di (g*2^(i+1))],11⟩:=by
 have ht:=aEe (B:=Bs) (o:=aw f81 108) (x:=.func 135) (aOG (a:=g*2^i) (c:=0) o_ hg) (oG (k:=9) (x:=di (g*2^i)) rfl rfl (.p (v:=vI 0) rfl .nil)) k_ k_ (tE _) 10;have e:2*(g*2^i)+0=g*2^(i+1):=by rw[dG,jf,nH,cX 2]
 rw[e]at ht;obtain⟨m,hm⟩:∃ m,m=min s t:=⟨_,rfl⟩;rw[<-hm]at hi;have dQ:m<=s:=by rw[hm];exact Nat.min_le_left _ _
 unfold tI;generalize g*2^(i+1)=y at *;generalize g*2^i=x at *;exact aE [.QP f81 103 s t m hm k_,.lt 104 i m true (aH hi),.step 108 _ _ _ _ _ ht,.sum 106 i 1 (i+1) rfl o_]
theorem aP7{g s t:Nat}(hg:∀ i,i<=min s t->nd bz (g*2^i)<35184372088832)(hs:s<35184372088832):
  ai prog Bs 111 (.block 4 (ah f81 4)) [(14,vI 0),(9,sl 7 (nd bz g)),(11,vI s),(12,vI t)] [(7,di g)] 9 ⟨.normal,[(9,sl 9 (nd bz (g*2^min s t)))],[(9,di (g*2^min s t))],10⟩:=by
 have:=rJ (P:=prog) (B:=Bs) (N:=111) (b:=aJ (ah f81 4)) (next:=9) (p:=1) (r:=⟨.exit 4,[(9,sl 9 (nd bz (g*2^min s t)))],[(9,di (g*2^min s t))],10⟩) (min s t) (tI g s t) (λ_=>[]) (λi=>[di (g*2^i)]) [some 7] (λ_ _=>rfl)
  (λi _=>⟨λq hq=>(by cases hq),λz hz=>by simp at hz;subst hz;exact H4 (nk _)⟩) k_ k_
  (λi al=>⟨[some 10],11,k_,aP6 al (hg i o_) hs⟩)
  (by unfold tI;obtain⟨m,hm⟩:∃ m,m=min s t:=⟨_,rfl⟩;rw[<-hm];generalize g*2^m=x at *;exact aE [.QP f81 103 s t m hm k_,.lt 104 m m false s_]) n_
 have e0:g*2^0=g:=by simp
 unfold tI at this;rw[e0]at this;exact cd (id:=4) this
def aXA(u v:Nat):aX:=[(5,vI u),(7,vI v)]
theorem aXh{x y:Nat}:ai prog Bs 111 (.block 0 (ah f81 0)) (aXA x y) [] 3 ⟨.normal,[(5,vI (Nat.gcd x y))],[],3⟩:=by
 obtain⟨n,hn,hi⟩:=OU x y (λ_ v=>decide (v≠0)) (λu v h=>kX h);have hz:(eu x y n).2=0:=by have:=Ir hn;omega
 have hg:=K3 x y n;rw[hz,Uf]at hg;rw[<-hg];refine cd (id:=0) (cA (P:=prog) (B:=Bs) (N:=111) (b:=aJ (ah f81 0)) (next:=3) (r:=⟨.exit 0,[(5,vI (eu x y n).1)],[],3⟩) n (λi=>aXA (eu x y i).1 (eu x y i).2) (λ_=>[]) (λ_ _ _=>Iff.rfl) (λi al=>?_) ?_ n_)
 ·have h0:(eu x y i).2≠0:=kX (hi i al);show ai _ _ _ _ (aXA (eu x y i).1 (eu x y i).2) [] 3 ⟨.normal,aXA (eu x y i).2 ((eu x y i).1%(eu x y i).2),[],3⟩;generalize (eu x y i).1=u at *;generalize (eu x y i).2=v at *;exact aE [.rw 49 (.bool ((v:Int)!=0)) b_ (by congr 1;rw[vt];omega),.vu f81 53 .i64 (u:Int) v ((u%v:Nat):Int) o_ (by rw[wH o_];rfl) k_]
 ·rw[hz];exact aE [.rw 49 (.bool (((0:Nat):Int)!=0)) a_ rfl]
end
theorem aYb{n1 n2:Bool}{p:Nat}(v1:n1=true->m1≠0)(v2:n2=true->m2≠0)(h1:m1<2^p)(h2:m2<2^q)(hp:p<=1099511627774)(hq:q<=1099511627774):
  aF prog 81 [sv n1 m1,sv n2 m2] (bf (Nat.gcd m1 m2:Nat)):=by
 have b1:=uO h1;have b2:=uO h2;have c1:=wL h1;have c2:=wL h2;have w1:=aXv n1 v1;have w2:=aXv n2 v2;have r1:=Mu m1;have r2:=Mu m2;by_cases hs:nd 256 m1<=7/\nd 256 m2<=7
 ·obtain⟨s1,s2⟩:=hs;have q1:=tJ (neg:=false) (m:=m1) n_ s1;have q2:=tJ (neg:=false) (m:=m2) n_ s2;have l1:=Ji s1;have l2:=Ji s2;have OW:Nat.gcd m1 m2<72057594037927936:=by
   by_cases h0:m1=0
   ·rw[h0,UQ];exact l2
   ·exact fq (aBQ _ (ue h0)) l1
  exact aN func81 (λw=>[w1.at 16,w2.at 20,.rw 26 _ (vI (nd 256 m1)) r1,.rw 27 (.bool (decide (((nd 256 m1:Nat):Int)<=7))) b_ (by rw[aH o_]),.rw 31 _ (vI (nd 256 m2)) r2,.rw 32 (.bool (decide (((nd 256 m2:Nat):Int)<=7))) b_ (by rw[aH o_]),q1.at 38,q2.at 45,.code 0 _ _ _ _ _ (aXh (x:=m1) (y:=m2)),(aXW (z:=((Nat.gcd m1 m2:Nat):Int)) o_ o_).at 55])
 ·by_cases hz:m1=0\/m2=0
  ·have e:Nat.gcd m1 m2=m1+m2:=by rcases hz with h|h<;>rw[h]<;>simp
   have bs:nd bz (m1+m2)<35184372088832:=by rcases hz with h|h<;>rw[h]<;>simp<;>omega
   rw[e];by_cases hL:nd 256 m1<=7
   ·by_cases h0:m1=0
    ·exact aN func81 (λw=>[w1.at 16,w2.at 20,.rw 26 _ (vI (nd 256 m1)) r1,.rw 27 (.bool (decide (((nd 256 m1:Nat):Int)<=7))) b_ (by rw[aH o_]),.rw 31 _ (vI (nd 256 m2)) r2,.rw 32 (.bool (decide (((nd 256 m2:Nat):Int)<=7))) a_ (by rw[aP o_]),.eY f81 58 3 m1 o_ k_,.eY f81 61 4 m2 o_ k_,.fN 64 (nd bz m1) 0 true (aH (by rw[h0,nF])),.Ev f81 72 5 3 4 m1 m2 (cF m1) (cF m2) rfl rfl rfl rfl o_ o_ k_,.fO f81 73 5 (m1+m2) false (cF (m1+m2)) rfl rfl bs k_])
    ·have h3:m2=0:=by omega
     have h4:=vp (B:=bz) d_ h0;exact aN func81 (λw=>[w1.at 16,w2.at 20,.rw 26 _ (vI (nd 256 m1)) r1,.rw 27 (.bool (decide (((nd 256 m1:Nat):Int)<=7))) b_ (by rw[aH o_]),.rw 31 _ (vI (nd 256 m2)) r2,.rw 32 (.bool (decide (((nd 256 m2:Nat):Int)<=7))) a_ (by rw[aP o_]),.eY f81 58 3 m1 o_ k_,.eY f81 61 4 m2 o_ k_,.fN 64 (nd bz m1) 0 false (aP o_),.fN 68 (nd bz m2) 0 true (aH (by rw[h3,nF])),.Ev f81 72 5 3 4 m1 m2 (cF m1) (cF m2) rfl rfl rfl rfl o_ o_ k_,.fO f81 73 5 (m1+m2) false (cF (m1+m2)) rfl rfl bs k_])
   ·by_cases h0:m1=0
    ·exact aN func81 (λw=>[w1.at 16,w2.at 20,.rw 26 _ (vI (nd 256 m1)) r1,.rw 27 (.bool (decide (((nd 256 m1:Nat):Int)<=7))) a_ (by rw[aP o_]),.eY f81 58 3 m1 o_ k_,.eY f81 61 4 m2 o_ k_,.fN 64 (nd bz m1) 0 true (aH (by rw[h0,nF])),.Ev f81 72 5 3 4 m1 m2 (cF m1) (cF m2) rfl rfl rfl rfl o_ o_ k_,.fO f81 73 5 (m1+m2) false (cF (m1+m2)) rfl rfl bs k_])
    ·have h3:m2=0:=by omega
     have h4:=vp (B:=bz) d_ h0;exact aN func81 (λw=>[w1.at 16,w2.at 20,.rw 26 _ (vI (nd 256 m1)) r1,.rw 27 (.bool (decide (((nd 256 m1:Nat):Int)<=7))) a_ (by rw[aP o_]),.eY f81 58 3 m1 o_ k_,.eY f81 61 4 m2 o_ k_,.fN 64 (nd bz m1) 0 false (aP o_),.fN 68 (nd bz m2) 0 true (aH (by rw[h3,nF])),.Ev f81 72 5 3 4 m1 m2 (cF m1) (cF m2) rfl rfl rfl rfl o_ o_ k_,.fO f81 73 5 (m1+m2) false (cF (m1+m2)) rfl rfl bs k_])
  ·have wJ:m1≠0:=λe=>hz (.inl e);have FI:m2≠0:=λe=>hz (.inr e);have h41:=vp (B:=bz) d_ wJ;have h42:=vp (B:=bz) d_ FI;obtain⟨s,es,hsb,os⟩:=QW wJ o_;obtain⟨t,et,htb,ot⟩:=QW FI o_;obtain⟨_,_,o1,yi⟩:=WX wJ;obtain⟨_,_,o2,WZ⟩:=WX FI;have ub:=aP1 (s:=s) (t:=t) o1 o2;rw[<-es,<-et]at ub;have Vw:nd bz (max (il m1) (il m2))<1099511627776:=by
    have k1:=iX (B:=bz) d_ yi;have k2:=iX (B:=bz) d_ WZ;rcases OV (il m1) (il m2)with h|h
    ·rw[aEr h];omega
    ·rw[aEs h];omega
   have gl:=λBs=>aP5 (Bs:=Bs) o1 o2 Vw;have PG:Nat.gcd m1 m2<=m1:=aBQ _ (ue wJ);have tb:∀ i,i<=min s t->nd bz (Nat.gcd (il m1) (il m2)*2^i)<35184372088832:=λi hi=>by
    have k1:Nat.gcd (il m1) (il m2)*2^i<=Nat.gcd m1 m2:=by rw[ub];exact jK _ (df d_ hi)
    have k2:=iX (B:=bz) d_ (dq k1 PG);omega
   have tl:=λBs=>aP7 (Bs:=Bs) (g:=Nat.gcd (il m1) (il m2)) (s:=s) (t:=t) tb hsb;rw[<-ub]at tl;have bg:nd bz (Nat.gcd m1 m2)<35184372088832:=by have:=iX (B:=bz) d_ PG;omega
   generalize Nat.gcd m1 m2=G at *;generalize Nat.gcd (il m1) (il m2)=G0 at *;generalize il m1=x1 at *;generalize il m2=x2 at *;by_cases hL:nd 256 m1<=7
   ·exact fW mixed func81 200 (λw=>[w1.at 16,w2.at 20,.rw 26 _ (vI (nd 256 m1)) r1,.rw 27 (.bool (decide (((nd 256 m1:Nat):Int)<=7))) b_ (by rw[aH o_]),.rw 31 _ (vI (nd 256 m2)) r2,.rw 32 (.bool (decide (((nd 256 m2:Nat):Int)<=7))) a_ (by rw[aP o_]),.eY f81 58 3 m1 o_ k_,.eY f81 61 4 m2 o_ k_,.fN 64 (nd bz m1) 0 false (aP o_),.fN 68 (nd bz m2) 0 false (aP o_),.step 76 _ _ _ _ _ (os _ (aw f81 76) 3 5 k_),.step 81 _ _ _ _ _ (ot _ (aw f81 81) 4 6 k_),.code 2 _ _ _ _ _ (gl _),.code 4 _ _ _ _ _ (tl _),.fO f81 110 9 G false (di G) rfl rfl bg k_]) (λ_=>k_) k_ k_
   ·exact fW mixed func81 200 (λw=>[w1.at 16,w2.at 20,.rw 26 _ (vI (nd 256 m1)) r1,.rw 27 (.bool (decide (((nd 256 m1:Nat):Int)<=7))) a_ (by rw[aP o_]),.eY f81 58 3 m1 o_ k_,.eY f81 61 4 m2 o_ k_,.fN 64 (nd bz m1) 0 false (aP o_),.fN 68 (nd bz m2) 0 false (aP o_),.step 76 _ _ _ _ _ (os _ (aw f81 76) 3 5 k_),.step 81 _ _ _ _ _ (ot _ (aw f81 81) 4 6 k_),.code 2 _ _ _ _ _ (gl _),.code 4 _ _ _ _ _ (tl _),.fO f81 110 9 G false (di G) rfl rfl bg k_]) (λ_=>k_) k_ k_
theorem aX2{x y:Int}{p:Nat}(h1:x.natAbs<2^p)(h2:y.natAbs<2^q)(hp:p<=1099511627774)(hq:q<=1099511627774):aF prog 81 [bf x,bf y] (bf (Nat.gcd x.natAbs y.natAbs:Nat)):=by revert h1 h2;refine FU (C:=λx y v u=>x.natAbs<2^p->y.natAbs<2^q->aF prog 81 [v,u] (bf (Nat.gcd x.natAbs y.natAbs:Nat))) (λn1 n2 m1 m2 v1 v2 h1 h2=>?_) x y;rw[qM]at h1 h2;rw[qM,qM];exact aYb v1 v2 h1 h2 hp hq
theorem aX9{g:Nat}{x:Int}{p:Nat}(h1:g<2^p)(h2:x.natAbs<2^q)(hp:p<=aD)(hq:q<=aD):aF prog 81 [bf g,bf x] (bf (Nat.gcd g x.natAbs:Nat)):=by have:=aX2 (x:=(g:Int)) (y:=x) (by rw[yb];exact h1) h2 hp hq;rw[yb]at this;exact this
theorem aXL{x y:Int}{n:Nat}(hy:y≠0)(h1:x.natAbs<2^n)(h2:y.natAbs<2^n)(hn:n<=aD):aF prog 82 [bf x,bf y] (bf (x.fdiv y)):=
 aN func82 (λ_=>[(aXg hy h1 h2 hn hn).at 11])
theorem aXC{c:Nat->Int}{d:Int}{n:Nat}(hd:d≠0)(h:dU n (pH c d))(hn:n<=aD):aF prog 47 [qd c,bf d] (iE (pH c d).low):=by
 obtain⟨h0,h1,h2,h3,h4⟩:=h;have g1:=aX2 h4 h0 hn hn;have s1:=Ac h4 h0;have g2:=aX9 s1 h1 hn hn;have s2:=Ac s1 h1;have g3:=aX9 s2 h2 hn hn;have s3:=Ac s2 h2;have g4:=aX9 s3 h3 hn hn;obtain⟨f,hf⟩:∃ f,f=pH c d:=⟨_,rfl⟩;have wx:f.d≠0:=by rw[hf];exact hd
 have qN:=UF wx;have UR:=Pg f;have hg:f.g<2^n:=by
  have h5:f.d.natAbs<2^n:=by rw[hf];exact h4
  exact fq (Nat.le_of_dvd o_ (F2 f)) h5
 have bH:f.s.natAbs<2^n:=by rw[UR];exact hg
 have ov:∀ u:Int,f.g ∣ u.natAbs->u.natAbs<2^n->aF prog 82 [bf u,bf f.s] (bf (u/f.s)):=λu hu vH=>by have:=aXL qN vH bH hn;rw[Int.fdiv_eq_ediv_of_dvd (DX hu)]at this;exact this
 have o0:=ov f.a (Pc f) (by rw[hf];exact h0);have o1:=ov f.b (Pd f) (by rw[hf];exact h1);have o2:=ov f.c (Pe f) (by rw[hf];exact h2);have o3:=ov f.e (Pf f) (by rw[hf];exact h3);have o4:=ov f.d (F2 f) (by rw[hf];exact h4);have Cn:=aXW (z:=1) d_ d_;have aG:=aXM d;have W0:Nat.gcd (Nat.gcd (Nat.gcd (Nat.gcd (pH c d).d.natAbs (pH c d).a.natAbs) (pH c d).b.natAbs) (pH c d).c.natAbs) (pH c d).e.natAbs=f.g:=by rw[hf];rfl
 rw[W0]at g4;have ab:=Wv (f.g:Int);rw[yb]at ab;rw[<-hf];have e0:f.a=c 0:=by rw[hf];rfl
 have e1:f.b=c 1:=by rw[hf];rfl
 have e2:f.c=c 2:=by rw[hf];rfl
 have e3:f.e=c 3:=by rw[hf];rfl
 have e4:f.d=d:=by rw[hf];rfl
 have one:(bN 1).Sm:=uu (n:=1) d_ d_;have sm:(bN f.s).Sm:=uu bH hn;by_cases Ga:d<0
 ·have hs:f.s=-(f.g:Int):=by unfold Fr.s;rw[e4,aB Ga]
  have aQ:bN f.s≠bN 1:=λe=>by have:=yd e;omega
  have ng:=aXj (f.g:Int);rw[<-hs]at ng;rw[e0]at o0;rw[e1]at o1;rw[e2]at o2;rw[e3]at o3;rw[e4]at o4;have dJ:f.low=⟨c 0/f.s,c 1/f.s,c 2/f.s,c 3/f.s,d/f.s⟩:=by unfold Fr.low;rw[e0,e1,e2,e3,e4]
  rw[dJ];have Co:decide (d.sign<0)=true:=aH (by rw[FT Ga];decide);generalize f.s=s at *;exact fW mixed func47 200 (λ_=>[g1.at 18,g2.at 18,g3.at 18,g4.at 18,ab.at 20,aG.at 22,.rw 23 (.bool (decide (d.sign<0))) b_ (by rw[Co]),ng.at 25,Cn.at 30,.step 31 (aw Tryz.f47 31) _ _ _ _ (Cm (neg:=false) k_ (bN s) (bN 1) sm one (b:=true) (by simp;exact aQ)),o0.at 41,o1.at 41,o2.at 41,o3.at 41,o4.at 46]) (λ_=>k_) k_ k_
 ·have hs:f.s=(f.g:Int):=by unfold Fr.s;rw[e4,av Ga]
  have Co:decide (d.sign<0)=false:=aP (by rw[Cf o_];decide);by_cases uy:f.g=1
  ·have dJ:f.low=f:=by unfold Fr.low;rw[hs,uy];simp
   rw[dJ,hf];rw[uy]at g4 ab;exact fW mixed func47 200 (λ_=>[g1.at 18,g2.at 18,g3.at 18,g4.at 18,ab.at 20,aG.at 22,.rw 23 (.bool (decide (d.sign<0))) a_ (by rw[Co]),Cn.at 30,.step 31 (aw Tryz.f47 31) _ _ _ _ (Cm (neg:=false) k_ (bN 1) (bN 1) one one (b:=false) s_)]) (λ_=>k_) k_ k_
  ·have aQ:bN f.s≠bN 1:=λe=>by have:=yd e;omega
   rw[e0]at o0;rw[e1]at o1;rw[e2]at o2;rw[e3]at o3;rw[e4]at o4;have dJ:f.low=⟨c 0/f.s,c 1/f.s,c 2/f.s,c 3/f.s,d/f.s⟩:=by unfold Fr.low;rw[e0,e1,e2,e3,e4]
   rw[dJ];rw[<-hs]at g4 ab;generalize f.s=s at *;exact fW mixed func47 200 (λ_=>[g1.at 18,g2.at 18,g3.at 18,g4.at 18,ab.at 20,aG.at 22,.rw 23 (.bool (decide (d.sign<0))) a_ (by rw[Co]),Cn.at 30,.step 31 (aw Tryz.f47 31) _ _ _ _ (Cm (neg:=false) k_ (bN s) (bN 1) sm one (b:=true) (by simp;exact aQ)),o0.at 41,o1.at 41,o2.at 41,o3.at 41,o4.at 46]) (λ_=>k_) k_ k_
theorem aXp(h:z.natAbs<9223372036854775808):aF prog 35 [.int .i64 z] (bI (kI z)):=by
 rw[aBS];have e:iE ⟨z,0,0,0,1⟩=(RN.mk (bN z) ⟨false,[]⟩ ⟨false,[]⟩ ⟨false,[]⟩ (bN 1)).v:=by unfold iE th;rw[D1]
 rw[e];exact aN func35 (λ_=>[(aXW (z:=z) o_ o_).at 4,(aXW (z:=1) d_ d_).at 6])
section
variable{P:j_}{B:aa}{N:Nat}
def W3(o:Oper):Bool:=match o.op with
 |.call c=>match c.callee,c.args.toList with
  |.builtin .max,[_,_]=>true
  |_,_=>false
 |_=>false
theorem aP8(ho:W3 o=true){x:Int}:cI P B o [.int .i64 x,.int .i64 (-x)] [] (vI x.natAbs) []:=by
 unfold W3 at ho;split at ho
 ·rename_i c cg;split at ho
  ·rename_i p q h1 h2;refine(C7 (λu hu=>by simp at hu;rcases hu with rfl|rfl<;>rfl) rfl λρ gp w _=>?_).step;obtain⟨ce,ar,at'⟩:=c;dsimp only at h1 h2;subst h1;have e1:ar=#[p,q]:=by rw[<-An (xs:=ar),h2]
   subst e1;rw[cg]at gp;simp[Op.operands,Call.operands]at gp;simp[execOp,cg,resolve,invoke,builtin,Builtin.max_,Builtin.max2,gp.1,gp.2,vI];split<;>omega
  ·cases ho
 ·cases ho
def bd.My(fn:Func)(key:Nat)(x:Int)(ho:W3 (aw fn key)=true):bd P B N:=
 .step key (aw fn key) [.int .i64 x,.int .i64 (-x)] [] (vI x.natAbs) [] (aP8 ho)
end
theorem aP9(l:List UInt8)(c:UInt8):gw (l++[c])=gw l*256+c.toNat:=by unfold gw;rw[aDh];rfl
def gD(r:RN):Nat->RI
 |0=>r.a
 |1=>r.b
 |2=>r.c
 |3=>r.e
 |_=>r.d
def eL(r:RI):Int:=sg r.neg (gw r.bw)
def w5(W:Nat->Int):ak:=[.int .i64 (W 0),.int .i64 (W 1),.int .i64 (W 2),.int .i64 (W 3),.int .i64 (W 4)]
def wv(r:RN)(i:Nat):Nat->Int:=λj=>match Nat.blt j i with|true=>eL (gD r j)|false=>0
def aQa(W:Nat->Int)(i:Nat)(x:Int):Nat->Int:=λj=>match Nat.beq j i with|true=>x|false=>W j
section
variable{Bs:aa}{W:Nat->Int}{q:RI}
def CU(i k:Nat):aX:=[(5,vI i),(4,ptr 2),(6,ptr (3+i)),(7,vI k)]
def yM(W:Nat->Int)(q:RI)(i k:Nat):aL:=[(2,.aM (w5 (aQa W i (gw (q.bw.take k):Nat))) 73),(3+i,.aM q.cs 31)]
theorem aQb(hi:i<5)(hk:k<q.bw.length)(h3:q.bw.length<=3):
  ai prog Bs 58 (aJ (ah f43 2)) (CU i k) (yM W q i k) (4+i) ⟨.normal,CU i (k+1),yM W q i (k+1),4+i⟩:=by
 obtain⟨c,hc⟩:∃ c,q.bw[k]?=some c:=⟨q.bw[k],bo hk⟩;have hv:gw (q.bw.take (k+1))=gw (q.bw.take k)*256+c.toNat:=by rw[vS,hc];exact aP9 _ _
 have hb:(BA q.bw)[k]?=some c:=by rw[KH];exact hc
 have bH:Value.int .i64 ((BA q.bw).size:Int)=vI q.bw.length:=by rw[pw];rfl
 have al:gw (q.bw.take k)<65536:=by have h1:=BN (q.bw.take k);have h2:(256:Nat)^(q.bw.take k).length<=256^2:=df d_ (by rw[jH];omega);exact cG h1 (dq h2 d_)
 have hc3:=c.toNat_lt;unfold CU yM;rw[hv];generalize gw (q.bw.take k)=x at *;have w1:IntKind.i64.wrap ((x:Int)*2^8)=((x*256:Nat):Int):=by rw[show((x:Int)*2^8)=((x*256:Nat):Int)by simp,dh];omega
 have w2:IntKind.i64.wrap (c.toNat:Int)=(c.toNat:Int):=by rw[dh];omega
 have w3:IntKind.i64.wrap (((x*256:Nat):Int)+(c.toNat:Int))=((x*256+c.toNat:Nat):Int):=by rw[dh];omega
 generalize x*256+c.toNat=y at *;generalize x*256=z at *;generalize q.bw.length=L at *;rcases i with _|_|_|_|_|i
 all_goals first|omega|exact aE [.rw 33 _ (vI L) bH,.lt 34 k L true (aH hk),.wr 41 .i64 ((x:Int)*2^8) _ w1,.sx f43 45 (BA q.bw) k c hb k_,.wr 46 .i64 (c.toNat:Int) _ w2,.wr 47 .i64 _ _ w3,.sum 36 k 1 (k+1) rfl o_]
theorem aQc(hi:i<5)(h3:q.bw.length<=3):
  ai prog Bs 58 (.block 2 (ah f43 2)) (CU i 0) (yM W q i 0) (4+i) ⟨.normal,CU i q.bw.length,yM W q i q.bw.length,4+i⟩:=by
 have bH:Value.int .i64 ((BA q.bw).size:Int)=vI q.bw.length:=by rw[pw];rfl
 refine cd (id:=2) (cA (b:=aJ (ah f43 2)) (r:=⟨.exit 2,CU i q.bw.length,yM W q i q.bw.length,4+i⟩) q.bw.length (CU i) (yM W q i) (λk t _=>km (l:=yM W q i k) (m:=yM W q i 0) rfl t) (λk hk=>aQb hi hk h3) ?_ n_);unfold CU yM;generalize gw (q.bw.take q.bw.length)=x at *;generalize q.bw.length=L at *;rcases i with _|_|_|_|_|i
 all_goals first|omega|exact aE [.rw 33 _ (vI L) bH,.lt 34 L L false s_]
def GY(i:Nat):aX:=[(5,vI i),(1,ptr 0),(2,ptr 1),(4,ptr 2)]
def GZ(r:RN)(W:Nat->Int):aL:=[(0,.aM r.cs 34),(1,.aM (w5 λ_=>0) 73),(2,.aM (w5 W) 73)]
theorem aQd{r:RN}(hi:i<5)(h3:(gD r i).bw.length<=3)(hv:x7 (gD r i).neg (gD r i).bw=true):
  ai prog Bs 58 (.block 1 (ah f43 1)) (GY i) (GZ r (wv r i)) (3+i) ⟨.normal,GY i,GZ r (wv r (i+1)),4+i⟩:=by
 have lo:=aQc (Bs:=Bs) (W:=wv r i) (q:=gD r i) hi h3;have nS:=aXG (gD r i).neg (gD r i).bw;rw[hv]at nS;have bH:Value.int .i64 ((BA (gD r i).bw).size:Int)=vI (gD r i).bw.length:=by rw[pw];rfl
 have lZ:Value.bool (decide (((gD r i).bw.length:Int)>3))=.bool false:=by rw[aP o_]
 unfold yM CU at lo;rw[aAL,o5]at lo;have e0:gw []=0:=rfl;rw[e0]at lo;have al:gw (gD r i).bw<16777216:=by have h1:=BN (gD r i).bw;have h2:(256:Nat)^(gD r i).bw.length<=256^3:=df d_ h3;exact cG h1 (dq h2 d_)
 have wn:IntKind.i64.wrap (0-(gw (gD r i).bw:Int))=-(gw (gD r i).bw:Int):=by rw[dh];omega
 rcases r with ⟨⟨an,am⟩,⟨bn,bm⟩,⟨cn,cm⟩,⟨en,em⟩,⟨dn,dm⟩⟩;rcases i with _|_|_|_|_|i
 ·cases an
  ·exact aE [.rw 22 _ (vI am.length) bH,.rw 23 _ a_ lZ,nS.at 26,.code 2 _ _ _ _ _ lo]
  ·exact aE [.rw 22 _ (vI am.length) bH,.rw 23 _ a_ lZ,nS.at 26,.code 2 _ _ _ _ _ lo,.wr 55 .i64 _ _ wn]
 ·cases bn
  ·exact aE [.rw 22 _ (vI bm.length) bH,.rw 23 _ a_ lZ,nS.at 26,.code 2 _ _ _ _ _ lo]
  ·exact aE [.rw 22 _ (vI bm.length) bH,.rw 23 _ a_ lZ,nS.at 26,.code 2 _ _ _ _ _ lo,.wr 55 .i64 _ _ wn]
 ·cases cn
  ·exact aE [.rw 22 _ (vI cm.length) bH,.rw 23 _ a_ lZ,nS.at 26,.code 2 _ _ _ _ _ lo]
  ·exact aE [.rw 22 _ (vI cm.length) bH,.rw 23 _ a_ lZ,nS.at 26,.code 2 _ _ _ _ _ lo,.wr 55 .i64 _ _ wn]
 ·cases en
  ·exact aE [.rw 22 _ (vI em.length) bH,.rw 23 _ a_ lZ,nS.at 26,.code 2 _ _ _ _ _ lo]
  ·exact aE [.rw 22 _ (vI em.length) bH,.rw 23 _ a_ lZ,nS.at 26,.code 2 _ _ _ _ _ lo,.wr 55 .i64 _ _ wn]
 ·cases dn
  ·exact aE [.rw 22 _ (vI dm.length) bH,.rw 23 _ a_ lZ,nS.at 26,.code 2 _ _ _ _ _ lo]
  ·exact aE [.rw 22 _ (vI dm.length) bH,.rw 23 _ a_ lZ,nS.at 26,.code 2 _ _ _ _ _ lo,.wr 55 .i64 _ _ wn]
 ·omega
theorem aQe{r:RN}(hi:i<5)(h3:¬(gD r i).bw.length<=3):
  ai prog Bs 58 (.block 1 (ah f43 1)) (GY i) (GZ r (wv r i)) (3+i) ⟨.ret,[(2,ptr 1),(3,.bool false)],[(1,.aM (w5 (wv r i)) 73)],4+i⟩:=by
 have bH:Value.int .i64 ((BA (gD r i).bw).size:Int)=vI (gD r i).bw.length:=by rw[pw];rfl
 have lZ:Value.bool (decide (((gD r i).bw.length:Int)>3))=.bool true:=by rw[aH o_]
 rcases r with ⟨⟨an,am⟩,⟨bn,bm⟩,⟨cn,cm⟩,⟨en,em⟩,⟨dn,dm⟩⟩;rcases i with _|_|_|_|_|i
 ·exact aE [.rw 22 _ (vI am.length) bH,.rw 23 _ b_ lZ]
 ·exact aE [.rw 22 _ (vI bm.length) bH,.rw 23 _ b_ lZ]
 ·exact aE [.rw 22 _ (vI cm.length) bH,.rw 23 _ b_ lZ]
 ·exact aE [.rw 22 _ (vI em.length) bH,.rw 23 _ b_ lZ]
 ·exact aE [.rw 22 _ (vI dm.length) bH,.rw 23 _ b_ lZ]
 ·omega
theorem aQf{r:RN}(hi:i<5)(h3:(gD r i).bw.length<=3)(hv:x7 (gD r i).neg (gD r i).bw=false):
  ai prog Bs 58 (.block 1 (ah f43 1)) (GY i) (GZ r (wv r i)) (3+i) ⟨.ret,[(2,ptr 1),(3,.bool false)],[(1,.aM (w5 (wv r i)) 73)],4+i⟩:=by
 have nS:=aXG (gD r i).neg (gD r i).bw;rw[hv]at nS;have bH:Value.int .i64 ((BA (gD r i).bw).size:Int)=vI (gD r i).bw.length:=by rw[pw];rfl
 have lZ:Value.bool (decide (((gD r i).bw.length:Int)>3))=.bool false:=by rw[aP o_]
 rcases r with ⟨⟨an,am⟩,⟨bn,bm⟩,⟨cn,cm⟩,⟨en,em⟩,⟨dn,dm⟩⟩;rcases i with _|_|_|_|_|i
 ·exact aE [.rw 22 _ (vI am.length) bH,.rw 23 _ a_ lZ,nS.at 26]
 ·exact aE [.rw 22 _ (vI bm.length) bH,.rw 23 _ a_ lZ,nS.at 26]
 ·exact aE [.rw 22 _ (vI cm.length) bH,.rw 23 _ a_ lZ,nS.at 26]
 ·exact aE [.rw 22 _ (vI em.length) bH,.rw 23 _ a_ lZ,nS.at 26]
 ·exact aE [.rw 22 _ (vI dm.length) bH,.rw 23 _ a_ lZ,nS.at 26]
 ·omega
end
def qZ(q:RI):Bool:=decide (q.bw.length<=3)&&x7 q.neg q.bw
theorem aQg{r:RN}(hi:i<5)(h:qZ (gD r i)=false):
  ai prog Bs 58 (.block 1 (ah f43 1)) (GY i) (GZ r (wv r i)) (3+i) ⟨.ret,[(2,ptr 1),(3,.bool false)],[(1,.aM (w5 (wv r i)) 73)],4+i⟩:=by
 unfold qZ at h;by_cases h3:(gD r i).bw.length<=3
 ·rw[aH h3,kF]at h;exact aQf hi h3 h
 ·exact aQe hi h3
theorem Jk{r:RN}(hi:i<5)(h:qZ (gD r i)=true):
  ai prog Bs 58 (.block 1 (ah f43 1)) (GY i) (GZ r (wv r i)) (3+i) ⟨.normal,GY i,GZ r (wv r (i+1)),4+i⟩:=by
 unfold qZ at h;simp at h;exact aQd hi h.1 h.2
theorem aEu{r:RN}(h:∀ i,i<5->qZ (gD r i)=true):aF prog 43 [r.v] (.tuple #[.agg (w5 (wv r 5)).toArray,.bool true]):=
 fW mixed func43 200 (λw=>[.code 1 _ _ _ _ _ (Jk o_ (h 0 o_)),.code 1 _ _ _ _ _ (Jk o_ (h 1 o_)),.code 1 _ _ _ _ _ (Jk o_ (h 2 o_)),.code 1 _ _ _ _ _ (Jk o_ (h 3 o_)),.code 1 _ _ _ _ _ (Jk o_ (h 4 o_))]) (λ_=>k_) k_ k_
theorem aEv{r:RN}(h:¬∀ i,i<5->qZ (gD r i)=true):∃ n,aF prog 43 [r.v] (.tuple #[.agg (w5 (wv r n)).toArray,.bool false]):=by
 have hex:∃ n,n<5/\qZ (gD r n)=false:=gR λfX=>h λi hi=>by
  cases hb:qZ (gD r i)with
  |true=>rfl
  |false=>exact absurd ⟨i,hi,hb⟩ fX
 obtain⟨n0,kQ,lB⟩:=hex;obtain⟨n,h1,h2,h3⟩:=zE (λi=>qZ (gD r i)=false) n0 lB;have aC:∀ i,i<n->qZ (gD r i)=true:=λi hi=>by
  cases hb:qZ (gD r i)with
  |true=>rfl
  |false=>exact absurd hb (h3 i hi)
 refine⟨n,?_⟩;have no:=λBs=>aQg (Bs:=Bs) (show n<5 by omega) h2;have yes:=λBs i (hi:i<n)=>Jk (Bs:=Bs) (show i<5 by omega) (aC i hi)
 rcases n with _|_|_|_|_|n
 ·exact fW mixed func43 200 (λw=>[.code 1 _ _ _ _ _ (no _)]) (λ_=>k_) k_ k_
 ·exact fW mixed func43 200 (λw=>[.code 1 _ _ _ _ _ (yes _ 0 o_),.code 1 _ _ _ _ _ (no _)]) (λ_=>k_) k_ k_
 ·exact fW mixed func43 200 (λw=>[.code 1 _ _ _ _ _ (yes _ 0 o_),.code 1 _ _ _ _ _ (yes _ 1 o_),.code 1 _ _ _ _ _ (no _)]) (λ_=>k_) k_ k_
 ·exact fW mixed func43 200 (λw=>[.code 1 _ _ _ _ _ (yes _ 0 o_),.code 1 _ _ _ _ _ (yes _ 1 o_),.code 1 _ _ _ _ _ (yes _ 2 o_),.code 1 _ _ _ _ _ (no _)]) (λ_=>k_) k_ k_
 ·exact fW mixed func43 200 (λw=>[.code 1 _ _ _ _ _ (yes _ 0 o_),.code 1 _ _ _ _ _ (yes _ 1 o_),.code 1 _ _ _ _ _ (yes _ 2 o_),.code 1 _ _ _ _ _ (yes _ 3 o_),.code 1 _ _ _ _ _ (no _)]) (λ_=>k_) k_ k_
 ·omega
def G5(W:Nat->Int):Nat:=Nat.gcd (Nat.gcd (Nat.gcd (Nat.gcd (Nat.gcd 0 (W 0).natAbs) (W 1).natAbs) (W 2).natAbs) (W 3).natAbs) (W 4).natAbs
theorem Mz(x y:Nat):ai prog Bs 28 (.block 2 (ah f97 2)) [(5,vI x),(6,vI y)] [] 1 ⟨.normal,[(5,vI (Nat.gcd x y))],[],1⟩:=by
 obtain⟨n,hn,hi⟩:=OU x y (λ_ v=>decide (v≠0)) (λu v h=>kX h);have hz:(eu x y n).2=0:=by have:=Ir hn;omega
 have hg:=K3 x y n;rw[hz,Uf]at hg;rw[<-hg];refine cd (id:=2) (cA (P:=prog) (B:=Bs) (N:=28) (b:=aJ (ah f97 2)) (next:=1) (r:=⟨.exit 2,[(5,vI (eu x y n).1)],[],1⟩) n (λi=>[(5,vI (eu x y i).1),(6,vI (eu x y i).2)]) (λ_=>[]) (λ_ _ _=>Iff.rfl) (λi al=>?_) ?_ n_)
 ·have h0:(eu x y i).2≠0:=kX (hi i al);show ai _ _ _ _ [(5,vI (eu x y i).1),(6,vI (eu x y i).2)] [] 1 ⟨.normal,[(5,vI (eu x y i).2),(6,vI ((eu x y i).1%(eu x y i).2))],[],1⟩;generalize (eu x y i).1=u at *;generalize (eu x y i).2=v at *;exact aE [.rw 21 (.bool ((v:Int)!=0)) b_ (by congr 1;rw[vt];omega),.vu f97 25 .i64 (u:Int) v ((u%v:Nat):Int) o_ (by rw[wH o_];rfl) k_]
 ·rw[hz];exact aE [.rw 21 (.bool (((0:Nat):Int)!=0)) a_ rfl]
theorem aEw{W:Nat->Int}(hW:∀ i,(W i).natAbs<4611686018427387904):aF prog 97 [.agg (w5 W).toArray] (vI (G5 W)):=by
 have ng:∀ i,IntKind.i64.wrap (0-W i)=-(W i):=λi=>by have:=hW i;rw[dh];omega
 exact fW mixed func97 200 (λw=>[.wr 18 .i64 _ _ (ng 0),.My f97 19 (W 0) k_,.code 2 _ _ _ _ _ (Mz 0 (W 0).natAbs),.wr 18 .i64 _ _ (ng 1),.My f97 19 (W 1) k_,.code 2 _ _ _ _ _ (Mz (Nat.gcd 0 (W 0).natAbs) (W 1).natAbs),.wr 18 .i64 _ _ (ng 2),.My f97 19 (W 2) k_,.code 2 _ _ _ _ _ (Mz (Nat.gcd (Nat.gcd 0 (W 0).natAbs) (W 1).natAbs) (W 2).natAbs),.wr 18 .i64 _ _ (ng 3),.My f97 19 (W 3) k_,.code 2 _ _ _ _ _ (Mz (Nat.gcd (Nat.gcd (Nat.gcd 0 (W 0).natAbs) (W 1).natAbs) (W 2).natAbs) (W 3).natAbs),.wr 18 .i64 _ _ (ng 4),.My f97 19 (W 4) k_,.code 2 _ _ _ _ _ (Mz (Nat.gcd (Nat.gcd (Nat.gcd (Nat.gcd 0 (W 0).natAbs) (W 1).natAbs) (W 2).natAbs) (W 3).natAbs) (W 4).natAbs)]) (λ_=>k_) k_ k_
def cw(f:Fr):Nat->Int
 |0=>f.a
 |1=>f.b
 |2=>f.c
 |3=>f.e
 |_=>f.d
theorem W5(f:Fr):G5 (cw f)=f.g:=by show Nat.gcd (Nat.gcd (Nat.gcd (Nat.gcd (Nat.gcd 0 f.a.natAbs) f.b.natAbs) f.c.natAbs) f.e.natAbs) f.d.natAbs=Nat.gcd (Nat.gcd (Nat.gcd (Nat.gcd f.d.natAbs f.a.natAbs) f.b.natAbs) f.c.natAbs) f.e.natAbs;rw[UQ];simp only[Iq,Nat.gcd_left_comm]
theorem aEx{f:Fr}(hd:0<f.d)(hW:∀ i,(cw f i).natAbs<4611686018427387904):aF prog 44 [.agg (w5 (cw f)).toArray] (iE f.low):=by
 have hg:=aEw hW;rw[W5]at hg;have hg0:=UE (x:=f) o_;have hs:f.s=(f.g:Int):=by unfold Fr.s;rw[av o_]
 have dJ:f.low=⟨f.a/(f.g:Int),f.b/(f.g:Int),f.c/(f.g:Int),f.e/(f.g:Int),f.d/(f.g:Int)⟩:=by unfold Fr.low;rw[hs]
 rw[dJ];have qu:∀ u:Int,f.g ∣ u.natAbs->u.natAbs<4611686018427387904->IntKind.i64.wrap (u.tdiv (f.g:Int))=u/(f.g:Int)/\(u/(f.g:Int)).natAbs<4611686018427387904:=λu hu hb=>by have hd:=DX hu;rw[hs]at hd;have h2:=aK5 u (f.g:Int);rw[Int.tdiv_eq_ediv_of_dvd hd,dh];omega
 obtain⟨a1,a2⟩:=qu f.a (Pc f) (hW 0);obtain⟨b1,b2⟩:=qu f.b (Pd f) (hW 1);obtain⟨c1,c2⟩:=qu f.c (Pe f) (hW 2);obtain⟨e1,e2⟩:=qu f.e (Pf f) (hW 3);obtain⟨d1,d2⟩:=qu f.d (F2 f) (hW 4);have uy:(f.g:Int)≠0:=by omega
 have of:=λ(z:Int) (h:z.natAbs<4611686018427387904)=>aXW (z:=z) o_ o_
 exact fW mixed func44 200 (λw=>[hg.at 7,.rI f44 17 .i64 f.a (f.g:Int) (f.a/(f.g:Int)) uy a1 k_,(of _ a2).at 18,.rI f44 17 .i64 f.b (f.g:Int) (f.b/(f.g:Int)) uy b1 k_,(of _ b2).at 18,.rI f44 17 .i64 f.c (f.g:Int) (f.c/(f.g:Int)) uy c1 k_,(of _ c2).at 18,.rI f44 17 .i64 f.e (f.g:Int) (f.e/(f.g:Int)) uy e1 k_,(of _ e2).at 18,.rI f44 24 .i64 f.d (f.g:Int) (f.d/(f.g:Int)) uy d1 k_,(of _ d2).at 25]) (λ_=>k_) k_ k_
def jF(q:RI):Bool:=x7 q.neg q.bw
theorem G1{q:RI}(h:jF q=true):bN (eL q)=q:=by
 obtain⟨n,l⟩:=q;unfold jF at h;unfold eL bN;rw[qM];cases l with
 |nil=>
  simp[x7]at h;subst h;simp[gw,sg,DF]
 |cons c l=>
  simp[x7]at h;have hv:gw (c::l)≠0:=by have:=aAJ (l:=l) h;have:=cP (n:=l.length) (show 0<256 by decide);omega
  have hm:ct (gw (c::l))=c::l:=aJL (by rintro c' r' e;injection e with e1 e2;rw[<-e1];exact h);show RI.mk (decide (sg n (gw (c::l))<0)) (ct (gw (c::l)))=_;rw[hm,WQ (λ_=>hv)]
theorem yN(z:Int):eL (bN z)=z:=by
 show sg (decide (z<0)) (gw (ct z.natAbs))=z;rw[FK];unfold sg;by_cases h:z<0
 ·rw[aH h];simp;omega
 ·rw[aP h];simp;omega
theorem MA(z:Int):jF (bN z)=true:=by show x7 (decide (z<0)) (ct z.natAbs)=true;exact aD1 _ (λh=>by have:=kX h;omega)
def gU(r:RN):Fr:=⟨eL r.a,eL r.b,eL r.c,eL r.e,eL r.d⟩
def nU(r:RN):Bool:=jF r.a&&(jF r.b&&(jF r.c&&(jF r.e&&(jF r.d&&(decide (0<eL r.d)&&decide ((gU r).g=1))))))
theorem MB{g:Nat}{q:RI}{n:Nat}(h:jF q=true)(h1:g<2^n)(h2:(eL q).natAbs<2^n)(hn:n<=aD):aF prog 81 [bf g,q.v] (bf (Nat.gcd g (eL q).natAbs:Nat)):=by have:=aX9 (g:=g) (x:=eL q) h1 h2 hn hn;rw[aBP (eL q),G1 h]at this;exact this
theorem aQh:bf ((0:Nat):Int)=.agg #[.bool false,.string ⟨#[]⟩]:=by show(bN 0).v=_;rw[D1];rfl
theorem MC{r:RN}{n:Nat}(bH:dU n (gU r))(hn:n<=aD):aF prog 42 [r.v] (.bool (nU r)):=by
 obtain⟨sa,sb,sc,se,sd⟩:=bH
 replace sa:(eL r.a).natAbs<2^n:=sa
 replace sb:(eL r.b).natAbs<2^n:=sb
 replace sc:(eL r.c).natAbs<2^n:=sc
 replace se:(eL r.e).natAbs<2^n:=se
 replace sd:(eL r.d).natAbs<2^n:=sd
 by_cases hw:∀ i,i<5->qZ (gD r i)=true
 ·have wok:=aEu hw;have raw:∀ i,i<5->jF (gD r i)=true:=λi hi=>by have:=hw i hi;unfold qZ at this;simp at this;exact this.2
  have hb:∀ i,(wv r 5 i).natAbs<4611686018427387904:=λi=>by
   unfold wv;split
   ·rename_i h;have hi:i<5:=by rw[BB]at h;exact h
    have:=hw i hi;unfold qZ at this;simp at this;unfold eL;rw[qM];have h1:=BN (gD r i).bw;have h2:(256:Nat)^(gD r i).bw.length<=256^3:=df d_ this.1;exact cG h1 (dq h2 d_)
   ·decide
  have wg:=aEw hb;have e1:G5 (wv r 5)=(gU r).g:=W5 (gU r);rw[e1]at wg;have e2:nU r=(decide (0<eL r.d)&&decide ((gU r).g=1)):=by unfold nU;rw[show jF r.a=true from raw 0 o_,show jF r.b=true from raw 1 o_,show jF r.c=true from raw 2 o_,show jF r.e=true from raw 3 o_,show jF r.d=true from raw 4 o_];rfl
  rw[e2];by_cases hd:0<eL r.d
  ·rw[aH hd,kF];have W6:Value.bool (decide (eL r.d>0))=.bool true:=by rw[aH hd]
   exact fW mixed func42 200 (λw=>[wok.at 9,.rw 15 _ b_ W6,wg.at 18,.fN 19 (gU r).g 1 _ rfl]) (λ_=>k_) k_ k_
  ·rw[aP hd,zL];have W6:Value.bool (decide (eL r.d>0))=.bool false:=by rw[aP hd]
   exact fW mixed func42 200 (λw=>[wok.at 9,.rw 15 _ a_ W6]) (λ_=>k_) k_ k_
 ·obtain⟨m,G2⟩:=aEv hw;have hp:0<2^n:=cP d_;have va:=aXG r.a.neg r.a.bw;have vb:=aXG r.b.neg r.b.bw;have vc:=aXG r.c.neg r.c.bw;have ve:=aXG r.e.neg r.e.bw;have vd:=aXG r.d.neg r.d.bw;unfold nU;change aF _ _ _ (.bool (jF r.a))at va;change aF _ _ _ (.bool (jF r.b))at vb;change aF _ _ _ (.bool (jF r.c))at vc;change aF _ _ _ (.bool (jF r.e))at ve;change aF _ _ _ (.bool (jF r.d))at vd;have go:∀ q b,jF q=b->jF q=b:=λ_ _ h=>h;rcases ha:jF r.a with _|_
  ·rw[ha]at va;exact fW mixed func42 200 (λw=>[G2.at 9,va.at 30]) (λ_=>k_) k_ k_
  rw[ha]at va;have g1:=MB (g:=0) ha hp sa hn;rw[aQh]at g1;have s1:Nat.gcd 0 (eL r.a).natAbs<2^n:=by rw[UQ];exact sa
  rcases hb:jF r.b with _|_
  ·rw[hb]at vb;exact fW mixed func42 200 (λw=>[G2.at 9,va.at 30,g1.at 37,vb.at 30]) (λ_=>k_) k_ k_
  rw[hb]at vb;have g2:=MB hb s1 sb hn;have s2:=Ac s1 sb;rcases hc:jF r.c with _|_
  ·rw[hc]at vc;exact fW mixed func42 200 (λw=>[G2.at 9,va.at 30,g1.at 37,vb.at 30,g2.at 37,vc.at 30]) (λ_=>k_) k_ k_
  rw[hc]at vc;have g3:=MB hc s2 sc hn;have s3:=Ac s2 sc;rcases he:jF r.e with _|_
  ·rw[he]at ve;exact fW mixed func42 200 (λw=>[G2.at 9,va.at 30,g1.at 37,vb.at 30,g2.at 37,vc.at 30,g3.at 37,ve.at 30]) (λ_=>k_) k_ k_
  rw[he]at ve;have g4:=MB he s3 se hn;have s4:=Ac s3 se;rcases hd:jF r.d with _|_
  ·rw[hd]at vd;exact fW mixed func42 200 (λw=>[G2.at 9,va.at 30,g1.at 37,vb.at 30,g2.at 37,vc.at 30,g3.at 37,ve.at 30,g4.at 37,vd.at 40]) (λ_=>k_) k_ k_
  rw[hd]at vd;have g5:=MB hd s4 sd hn;have s5:=Ac s4 sd;have W0:Nat.gcd (Nat.gcd (Nat.gcd (Nat.gcd (Nat.gcd 0 (eL r.a).natAbs) (eL r.b).natAbs) (eL r.c).natAbs) (eL r.e).natAbs) (eL r.d).natAbs=(gU r).g:=W5 (gU r);rw[W0]at g5 s5;have aG:=aXM (eL r.d);rw[aBP,G1 hd]at aG;have Cn:=aXW (z:=1) d_ d_;have one:(bN 1).Sm:=uu (n:=1) d_ d_;have sm:(bN ((gU r).g:Int)).Sm:=uu (z:=((gU r).g:Int)) (n:=n) (by rw[yb];exact s5) hn;by_cases hp:0<eL r.d
  ·rw[aH hp];have W7:Value.bool (decide ((eL r.d).sign>0))=.bool true:=by rw[Cf hp];rfl
   have heq:∀ w,cI prog (aa.at w) (aw f42 53) [(bN ((gU r).g:Int)).v,(bN 1).v] [] (.bool (decide ((gU r).g=1))) []:=λw=>Cm (neg:=true) k_ (bN ((gU r).g:Int)) (bN 1) sm one (by simp only[rm,tZ];exact⟨λh=>by rw[h];rfl,λh=>by have:=yd h;omega⟩)
   exact fW mixed func42 200 (λw=>[G2.at 9,va.at 30,g1.at 37,vb.at 30,g2.at 37,vc.at 30,g3.at 37,ve.at 30,g4.at 37,vd.at 40,aG.at 44,.rw 45 _ b_ W7,g5.at 51,Cn.at 52,.step 53 (aw f42 53) _ _ _ _ (heq w)]) (λ_=>k_) k_ k_
  ·rw[aP hp];have W7:Value.bool (decide ((eL r.d).sign>0))=.bool false:=by
    rw[aP];have h0:eL r.d<=0:=by omega
    rcases Int.lt_or_eq_of_le h0 with h|h
    ·rw[FT h];decide
    ·rw[h];decide
   exact fW mixed func42 200 (λw=>[G2.at 9,va.at 30,g1.at 37,vb.at 30,g2.at 37,vc.at 30,g3.at 37,ve.at 30,g4.at 37,vd.at 40,aG.at 44,.rw 45 _ a_ W7]) (λ_=>k_) k_ k_
theorem W8(f:Fr):gU (th f)=f:=by show Fr.mk (eL (bN f.a)) (eL (bN f.b)) (eL (bN f.c)) (eL (bN f.e)) (eL (bN f.d))=f;rw[yN,yN,yN,yN,yN]
theorem aEy{f:Fr}(h:f.qa):nU (th f)=true:=by unfold nU;rw[W8,h.one];show(jF (bN f.a)&&(jF (bN f.b)&&(jF (bN f.c)&&(jF (bN f.e)&&(jF (bN f.d)&&(decide (0<eL (bN f.d))&&decide (1=1)))))))=true;rw[MA,MA,MA,MA,MA,yN,aH h.pos];rfl
theorem aXy{f:Fr}{n:Nat}(hf:f.qa)(h:dU n f)(hn:n<=aD):aF prog 42 [iE f] b_:=by have:=MC (r:=th f) (n:=n) (by rw[W8];exact h) hn;rw[aEy hf]at this;exact this
theorem aXf{x:K}{n:Nat}(h:Sz n x)(hn:n<=aD):aF prog 42 [bI x] b_:=aXy (kY x) h hn
theorem QX{r:RN}(h:nU r=true):r=de (gU r).val:=by unfold nU at h;simp only[dr,tZ]at h;obtain⟨h1,h2,h3,h4,h5,h6,h7⟩:=h;unfold de;rw[F3 ⟨h6,h7⟩];obtain⟨a,b,c,e,d⟩:=r;show RN.mk a b c e d=RN.mk (bN (eL a)) (bN (eL b)) (bN (eL c)) (bN (eL e)) (bN (eL d));rw[G1 h1,G1 h2,G1 h3,G1 h4,G1 h5]
theorem aX6{x:K}{n:Nat}(h:Sz n x)(hn:n<=aD):aF prog 32 [bI x] (bI (-x)):=by
 have hv:=aXf h hn;have e:bI (-x)=iE (Ab (bT x)):=by unfold bI de;rw[UJ];rfl
 rw[e];exact aN func32 (λ_=>[hv.at 6,(aXj (bT x).a).at 19,(aXj (bT x).b).at 19,(aXj (bT x).c).at 19,(aXj (bT x).e).at 19])
theorem aQi(f:Fr):w5 (wv (th f) 5)=w5 (cw f):=by show[Value.int .i64 (eL (bN f.a)),.int .i64 (eL (bN f.b)),.int .i64 (eL (bN f.c)),.int .i64 (eL (bN f.e)),.int .i64 (eL (bN f.d))]=_;rw[yN,yN,yN,yN,yN];rfl
def CV(f:Fr):Prop:=∀ i,i<5->qZ (gD (th f) i)=true
theorem QY{f:Fr}(h:CV f):∀ i,(cw f i).natAbs<16777216:=by
 have key:∀ z:Int,qZ (bN z)=true->z.natAbs<16777216:=λz hz=>by
  unfold qZ at hz;simp at hz;have h1:nd 256 z.natAbs<=3:=by have:=hz.1;show _<=3;rw[<-uk];exact this
  have h2:=ew (B:=256) d_ z.natAbs;have h3:(256:Nat)^nd 256 z.natAbs<=256^3:=df d_ h1;exact cG h2 (dq h3 d_)
 intro i;rcases i with _|_|_|_|i
 ·exact key _ (h 0 o_)
 ·exact key _ (h 1 o_)
 ·exact key _ (h 2 o_)
 ·exact key _ (h 3 o_)
 ·exact key _ (h 4 o_)
theorem Jl{f:Fr}(h:CV f):aF prog 43 [iE f] (.tuple #[.agg (w5 (cw f)).toArray,.bool true]):=by have:=aEu h;rw[aQi]at this;exact this
theorem QZ{f:Fr}(h:¬CV f):∃ n,aF prog 43 [iE f] (.tuple #[.agg (w5 (wv (th f) n)).toArray,.bool false]):=aEv h
theorem lG{x y:Int}(hx:x.natAbs<16777216)(hy:y.natAbs<16777216):∃ p:Int,x*y=p/\-281474976710656<=p/\p<=281474976710656:=by refine⟨x*y,rfl,?_⟩;have h:=qE hx hy;rw[<-vF]at h;generalize x*y=p at *;have h2:p.natAbs<281474976710656:=h;omega
theorem pL{x y p:Int}(h:x*y=p)(h1:-281474976710656<=p)(h2:p<=281474976710656):IntKind.i64.wrap (x*y)=p:=by rw[h,dh];omega
theorem G3{c x:Int}(hc:0<=c)(dp:c<=6)(hx:x.natAbs<16777216):IntKind.i64.wrap (c*x)=c*x:=by
 have h1:(c*x).natAbs<=6*16777216:=by rw[vF];exact qG o_ o_
 generalize c*x=p at *;rw[dh];omega
theorem G4{c x y p:Int}(hc:0<=c)(dp:c<=6)(h:x*y=p)(h1:-281474976710656<=p)(h2:p<=281474976710656):IntKind.i64.wrap (c*x*y)=c*p:=by
 rw[Int.mul_assoc,h];have h1:(c*p).natAbs<=6*281474976710656:=by rw[vF];exact qG o_ o_
 generalize c*p=q at *;rw[dh];omega
theorem aXI{x y:K}{m n:Nat}(hx:Sz m x)(hy:Sz n y)(cN:m+n<aD):aF prog 11 [bI x,bI y] (bI (x+y)):=by
 have v1:=aXf hx o_;have v2:=aXf hy o_;have qf:aD<=1099511627776:=by decide
 have yc:=(kY x).pos;have wO:=(kY y).pos;have hl:=aXC (c:=co (vG (bT x) (bT y))) (d:=(vG (bT x) (bT y)).d) (n:=m+n+1) (DY o_ o_) (dU.add hx hy) o_;have e:bI (x+y)=iE (vG (bT x) (bT y)).low:=by unfold bI de;rw[UH];rfl
 rw[e];by_cases hw:CV (bT x)/\CV (bT y)
 ·obtain⟨w1,w2⟩:=hw;have q1:=Jl w1;have q2:=Jl w2;have b1:=QY w1;have b2:=QY w2;change aF _ _ [iE (bT x)] _ at v1;change aF _ _ [iE (bT y)] _ at v2;show aF _ _ [iE (bT x),iE (bT y)] _;clear hl hx hy e;generalize bT x=f at *;generalize bT y=g at *;obtain⟨p0,Eb,lp0,up0⟩:=lG (b1 0) (b2 4);obtain⟨Jm,nJ,lq0,uq0⟩:=lG (b2 0) (b1 4);obtain⟨p1,gQ,lp1,up1⟩:=lG (b1 1) (b2 4);obtain⟨rp,vB,lq1,uq1⟩:=lG (b2 1) (b1 4);obtain⟨p2,xB,lp2,up2⟩:=lG (b1 2) (b2 4);obtain⟨BV,oh,lq2,uq2⟩:=lG (b2 2) (b1 4);obtain⟨p3,I7,lp3,up3⟩:=lG (b1 3) (b2 4);obtain⟨mz,W9,lq3,uq3⟩:=lG (b2 3) (b1 4);obtain⟨p4,Q0,lp4,up4⟩:=lG (b1 4) (b2 4);change f.a*g.d=p0 at Eb;change g.a*f.d=Jm at nJ;change f.b*g.d=p1 at gQ;change g.b*f.d=rp at vB;change f.c*g.d=p2 at xB;change g.c*f.d=BV at oh;change f.e*g.d=p3 at I7;change g.e*f.d=mz at W9;change f.d*g.d=p4 at Q0;have MD:vG f g=⟨p0+Jm,p1+rp,p2+BV,p3+mz,p4⟩:=by unfold vG;rw[Eb,gQ,xB,I7,Q0,nJ,vB,oh,W9]
  have nm:=aEx (f:=vG f g) (by rw[MD];show 0<p4;rw[<-Q0];exact UM yc wO) (by
   rw[MD];intro i;rcases i with _|_|_|_|i
   ·show(p0+Jm).natAbs<_;omega
   ·show(p1+rp).natAbs<_;omega
   ·show(p2+BV).natAbs<_;omega
   ·show(p3+mz).natAbs<_;omega
   ·show p4.natAbs<_;omega)
  rw[MD]at nm ⊢;exact fW mixed func11 200 (λ_=>[v1.at 13,v2.at 17,q1.at 23,q2.at 29,.wr 43 .i64 (f.a*g.d) p0 (pL Eb lp0 up0),.wr 49 .i64 (g.a*f.d) Jm (pL nJ lq0 uq0),.wr 50 .i64 (p0+Jm) (p0+Jm) (by rw[dh];omega),.wr 43 .i64 (f.b*g.d) p1 (pL gQ lp1 up1),.wr 49 .i64 (g.b*f.d) rp (pL vB lq1 uq1),.wr 50 .i64 (p1+rp) (p1+rp) (by rw[dh];omega),.wr 43 .i64 (f.c*g.d) p2 (pL xB lp2 up2),.wr 49 .i64 (g.c*f.d) BV (pL oh lq2 uq2),.wr 50 .i64 (p2+BV) (p2+BV) (by rw[dh];omega),.wr 43 .i64 (f.e*g.d) p3 (pL I7 lp3 up3),.wr 49 .i64 (g.e*f.d) mz (pL W9 lq3 uq3),.wr 50 .i64 (p3+mz) (p3+mz) (by rw[dh];omega),.wr 56 .i64 (f.d*g.d) p4 (pL Q0 lp4 up4),nm.at 59]) (λ_=>k_) k_ k_
 ·obtain⟨x1,x2,x3,x4,x5⟩:=hx;obtain⟨y1,y2,y3,y4,y5⟩:=hy;have mu:∀{u v:Int} {p q:Nat},u.natAbs<2^p->v.natAbs<2^q->p+q<=aD->aF prog 46 [bf u,bf v] (bf (u*v)):=λh1 h2 h3=>aXw h1 h2 o_ o_;have ad:∀{u v:Int},u.natAbs<2^m->v.natAbs<2^n->aF prog 45 [bf (u*(bT y).d),bf (v*(bT x).d)] (bf (u*(bT y).d+v*(bT x).d)):=λh1 h2=>
   aXE (eT h1 y5) (eT h2 x5) o_ o_
  by_cases w1:CV (bT x)
  ·obtain⟨k,q2⟩:=QZ (f:=bT y) (λh=>hw ⟨w1,h⟩);have q1:=Jl w1;exact fW mixed func11 200 (λ_=>[v1.at 13,v2.at 17,q1.at 23,q2.at 29,(mu x1 y5 o_).at 71,(mu y1 x5 o_).at 78,(ad x1 y1).at 79,(mu x2 y5 o_).at 71,(mu y2 x5 o_).at 78,(ad x2 y2).at 79,(mu x3 y5 o_).at 71,(mu y3 x5 o_).at 78,(ad x3 y3).at 79,(mu x4 y5 o_).at 71,(mu y4 x5 o_).at 78,(ad x4 y4).at 79,(mu x5 y5 o_).at 86,hl.at 87]) (λ_=>k_) k_ k_
  ·obtain⟨k,q1⟩:=QZ (f:=bT x) w1;exact fW mixed func11 200 (λ_=>[v1.at 13,v2.at 17,q1.at 23,(mu x1 y5 o_).at 71,(mu y1 x5 o_).at 78,(ad x1 y1).at 79,(mu x2 y5 o_).at 71,(mu y2 x5 o_).at 78,(ad x2 y2).at 79,(mu x3 y5 o_).at 71,(mu y3 x5 o_).at 78,(ad x3 y3).at 79,(mu x4 y5 o_).at 71,(mu y4 x5 o_).at 78,(ad x4 y4).at 79,(mu x5 y5 o_).at 86,hl.at 87]) (λ_=>k_) k_ k_
theorem aXP{x y:K}{m n:Nat}(hx:Sz m x)(hy:Sz n y)(cN:m+n<aD):aF prog 78 [bI x,bI y] (bI (x-y)):=by rw[CR.sub_def];exact aN func78 (λ_=>[(aX6 hy o_).at 7,(aXI hx hy.neg cN).at 8])
section
variable{Bs:aa}{a b:Nat->Int}
def Xa(n:Nat):aX:=[(6,vI (n/4)),(7,vI (n%4)),(2,ptr 0),(3,ptr 1),(5,ptr 3)]
def Jn(a b c:Nat->Int):aL:=[(0,.aM (ic a) 32),(1,.aM (ic b) 32),(3,.aM (ic c) 32)]
theorem aQj(n:Nat)(hn:n<16){c:Nat->Int}{p:Nat}(ha:∀ i,(a i).natAbs<2^p)(hb:∀ i,(b i).natAbs<2^q)(hc:∀ i,(c i).natAbs<2^r)(Gb:p+q+3<=aD)(hr:r<=aD):
  ai prog Bs 66 (.block 3 (ah Tryz.f49 3)) (Xa n) (Jn a b c) (4+n) ⟨.normal,[],Jn a b (yg n a b c),5+n⟩:=by
 have qf:aD<=1099511627776:=by decide
 have rQ:∀ m,(sq m).natAbs<2^3:=λm=>by unfold sq;split<;>decide
 have m1:=aXw (ha (n/4)) (hb (n%4)) o_ o_;have m2:=aXw (rQ ((n/4)&&& (n%4))) (eT (ha (n/4)) (hb (n%4))) o_ o_;have ad:=aXE (hc ((n/4) ^^^ (n%4))) (eT (rQ ((n/4)&&& (n%4))) (eT (ha (n/4)) (hb (n%4)))) o_ o_;have so:=aXW (z:=sq ((n/4)&&& (n%4))) (by have:=rQ ((n/4)&&& (n%4));omega) (by have:=rQ ((n/4)&&& (n%4));omega);have sa:=aXM (a (n/4));have sb:=aXM (b (n%4));have z1:∀ z:Int,z=0->Value.bool (z.sign==0)=.bool true:=λz h=>by rw[h];rfl
 have z2:∀ z:Int,z≠0->Value.bool (z.sign==0)=.bool false:=λz h=>by congr 1;simp;exact h
 by_cases h1:a (n/4)=0
 ·rw[Pt (.inl h1)];have e:=z1 _ h1;rcases n with _|_|_|_|_|_|_|_|_|_|_|_|_|_|_|_|n
  all_goals first|omega|exact aE [sa.at 21,.rw 22 _ b_ e]
 ·have e:=z2 _ h1;by_cases h2:b (n%4)=0
  ·rw[Pt (.inr h2)];have e':=z1 _ h2;rcases n with _|_|_|_|_|_|_|_|_|_|_|_|_|_|_|_|n
   all_goals first|omega|exact aE [sa.at 21,.rw 22 _ a_ e,sb.at 27,.rw 28 _ b_ e']
  ·have e':=z2 _ h2;rcases n with _|_|_|_|_|_|_|_|_|_|_|_|_|_|_|_|n
   all_goals first|omega|exact aE [sa.at 21,.rw 22 _ a_ e,sb.at 27,.rw 28 _ a_ e',so.at 45,m1.at 52,m2.at 53,ad.at 63]
end
theorem aEz{a b:Nat->Int}{m n:Nat}(ca:∀ i,(a i).natAbs<2^m)(cb:∀ i,(b i).natAbs<2^n)(cN:m+n+8<=aD):aF prog 49 [qd a,qd b] (qd (j0 a b 16)):=by
 have qf:aD<=1099511627776:=by decide
 have hs:∀ i,i<=16->∀ k,(j0 a b i k).natAbs<2^(m+n+8):=λi hi k=>by
  have h1:=UX ca cb i hi k;have h2:i*2^(m+n+3)<=16*2^(m+n+3):=eV _ hi;have h3:2^(m+n+8)=32*2^(m+n+3):=by rw[show m+n+8=5+(m+n+3)by omega,eR]
  have h4:0<2^(m+n+3):=cP d_;omega
 have go:∀(w:h_) (i:Nat),i<16->ai prog (aa.at w) 66 (.block 3 (ah Tryz.f49 3)) (Xa i) (Jn a b (j0 a b i)) (4+i) ⟨.normal,[],Jn a b (j0 a b (i+1)),5+i⟩:=λw i hi=>
  aQj i hi ca cb (hs i o_) o_ o_
 have UY:∀(w:h_),ai prog (aa.at w) 66 (.block 3 (ah Tryz.f49 3)) (Xa 0) [(0,.aM (ic a) 32),(1,.aM (ic b) 32),(3,.aM [.bool false,.string ⟨#[]⟩,.bool false,.string ⟨#[]⟩,.bool false,.string ⟨#[]⟩,.bool false,.string ⟨#[]⟩] 32)] 4
   ⟨.normal,[],Jn a b (j0 a b 1),5⟩:=λw=>by
  have h:=go w 0 o_;have e:Jn a b (j0 a b 0)=[(0,.aM (ic a) 32),(1,.aM (ic b) 32),(3,.aM [.bool false,.string ⟨#[]⟩,.bool false,.string ⟨#[]⟩,.bool false,.string ⟨#[]⟩,.bool false,.string ⟨#[]⟩] 32)]:=by show[(0,Obj.aM (ic a) 32),(1,.aM (ic b) 32),(3,.aM (ic (λ_=>0)) 32)]=_;rw[aBZ]
  rw[e]at h;exact h
 generalize j0 a b=c at *;exact fW mixed func49 300 (λw=>[.code 3 _ _ _ _ _ (UY w),.code 3 _ _ _ _ _ (go w 1 o_),.code 3 _ _ _ _ _ (go w 2 o_),.code 3 _ _ _ _ _ (go w 3 o_),.code 3 _ _ _ _ _ (go w 4 o_),.code 3 _ _ _ _ _ (go w 5 o_),.code 3 _ _ _ _ _ (go w 6 o_),.code 3 _ _ _ _ _ (go w 7 o_),.code 3 _ _ _ _ _ (go w 8 o_),.code 3 _ _ _ _ _ (go w 9 o_),.code 3 _ _ _ _ _ (go w 10 o_),.code 3 _ _ _ _ _ (go w 11 o_),.code 3 _ _ _ _ _ (go w 12 o_),.code 3 _ _ _ _ _ (go w 13 o_),.code 3 _ _ _ _ _ (go w 14 o_),.code 3 _ _ _ _ _ (go w 15 o_)]) (λ_=>k_) k_ k_
theorem aX8{x y:K}{m n:Nat}(hx:Sz m x)(hy:Sz n y)(cN:m+n+8<=aD):aF prog 66 [bI x,bI y] (bI (x*y)):=by
 have v1:=aXf hx o_;have v2:=aXf hy o_;have qf:aD<=1099511627776:=by decide
 have yc:=(kY x).pos;have wO:=(kY y).pos;have e:bI (x*y)=iE (fe (bT x) (bT y)).low:=by unfold bI de;rw[UI];rfl
 rw[e];by_cases hw:CV (bT x)/\CV (bT y)
 ·obtain⟨w1,w2⟩:=hw;have q1:=Jl w1;have q2:=Jl w2;have b1:=QY w1;have b2:=QY w2;change aF _ _ [iE (bT x)] _ at v1;change aF _ _ [iE (bT y)] _ at v2;show aF _ _ [iE (bT x),iE (bT y)] _;clear hx hy e;generalize bT x=f at *;generalize bT y=g at *;obtain⟨AR,Xb,aQk,aQl⟩:=lG (b1 0) (b2 0);change f.a*g.a=AR at Xb;obtain⟨AU,Xc,aQm,aQn⟩:=lG (b1 0) (b2 1);change f.a*g.b=AU at Xc;obtain⟨AV,Xd,aQo,aQp⟩:=lG (b1 0) (b2 2);change f.a*g.c=AV at Xd;obtain⟨AW,Xe,aQq,aQr⟩:=lG (b1 0) (b2 3);change f.a*g.e=AW at Xe;obtain⟨AX,Xf,aQs,aQt⟩:=lG (b1 1) (b2 0);change f.b*g.a=AX at Xf;obtain⟨AY,Xg,aQu,aQv⟩:=lG (b1 1) (b2 1);change f.b*g.b=AY at Xg;obtain⟨EJ,Xh,aQw,aQx⟩:=lG (b1 1) (b2 2);change f.b*g.c=EJ at Xh;obtain⟨EK,Xi,aQy,aQz⟩:=lG (b1 1) (b2 3);change f.b*g.e=EK at Xi;obtain⟨AZ,Xj,aQA,aQB⟩:=lG (b1 2) (b2 0);change f.c*g.a=AZ at Xj;obtain⟨Jo,Xk,aQC,aQD⟩:=lG (b1 2) (b2 1);change f.c*g.b=Jo at Xk;obtain⟨EL,Xl,aQE,aQF⟩:=lG (b1 2) (b2 2);change f.c*g.c=EL at Xl;obtain⟨EM,Xm,aQG,aQH⟩:=lG (b1 2) (b2 3);change f.c*g.e=EM at Xm;obtain⟨A0,Xn,aQI,aQJ⟩:=lG (b1 3) (b2 0);change f.e*g.a=A0 at Xn;obtain⟨Jp,Xo,aQK,aQL⟩:=lG (b1 3) (b2 1);change f.e*g.b=Jp at Xo;obtain⟨Jq,Xp,aQM,aQN⟩:=lG (b1 3) (b2 2);change f.e*g.c=Jq at Xp;obtain⟨Jr,Xq,aQO,aQP⟩:=lG (b1 3) (b2 3);change f.e*g.e=Jr at Xq;obtain⟨ME,Q1,aQQ,aQR⟩:=lG (b1 4) (b2 4);change f.d*g.d=ME at Q1;have hmul:fe f g=⟨AR+2*AY+3*EL+6*Jr,AU+AX+3*EM+3*Jq,AV+AZ+2*EK+2*Jp,AW+A0+EJ+Jo,ME⟩:=by
   unfold fe;simp only[Fr.mk.injEq];refine⟨?_,?_,?_,?_,Q1⟩
   ·rw[Xb,Xg,Xl,Xq]<;>omega
   ·rw[Xc,Xf,Xm,Xp]<;>omega
   ·rw[Xd,Xj,Xi,Xo]<;>omega
   ·rw[Xe,Xn,Xh,Xk]<;>omega
  have nm:=aEx (f:=fe f g) (by rw[hmul];show 0<ME;rw[<-Q1];exact UM yc wO) (by
   rw[hmul];intro i;rcases i with _|_|_|_|i
   ·show(AR+2*AY+3*EL+6*Jr).natAbs<_;omega
   ·show(AU+AX+3*EM+3*Jq).natAbs<_;omega
   ·show(AV+AZ+2*EK+2*Jp).natAbs<_;omega
   ·show(AW+A0+EJ+Jo).natAbs<_;omega
   ·show ME.natAbs<_;omega)
  rw[hmul]at nm ⊢;exact fW mixed func66 300 (λ_=>[v1.at 10,v2.at 14,q1.at 20,q2.at 26,.wr 34 .i64 (f.a*g.a) AR (pL Xb aQk aQl),.wr 37 .i64 (2*f.b) (2*f.b) (G3 d_ d_ (b1 1)),.wr 40 .i64 (2*f.b*g.b) (2*AY) (G4 d_ d_ Xg aQu aQv),.wr 41 .i64 (AR+2*AY) (AR+2*AY) (by rw[dh];omega),.wr 44 .i64 (3*f.c) (3*f.c) (G3 d_ d_ (b1 2)),.wr 47 .i64 (3*f.c*g.c) (3*EL) (G4 d_ d_ Xl aQE aQF),.wr 48 .i64 (AR+2*AY+3*EL) (AR+2*AY+3*EL) (by rw[dh];omega),.wr 51 .i64 (6*f.e) (6*f.e) (G3 d_ d_ (b1 3)),.wr 54 .i64 (6*f.e*g.e) (6*Jr) (G4 d_ d_ Xq aQO aQP),.wr 55 .i64 (AR+2*AY+3*EL+6*Jr) (AR+2*AY+3*EL+6*Jr) (by rw[dh];omega),.wr 60 .i64 (f.a*g.b) AU (pL Xc aQm aQn),.wr 65 .i64 (f.b*g.a) AX (pL Xf aQs aQt),.wr 66 .i64 (AU+AX) (AU+AX) (by rw[dh];omega),.wr 69 .i64 (3*f.c) (3*f.c) (G3 d_ d_ (b1 2)),.wr 72 .i64 (3*f.c*g.e) (3*EM) (G4 d_ d_ Xm aQG aQH),.wr 73 .i64 (AU+AX+3*EM) (AU+AX+3*EM) (by rw[dh];omega),.wr 76 .i64 (3*f.e) (3*f.e) (G3 d_ d_ (b1 3)),.wr 79 .i64 (3*f.e*g.c) (3*Jq) (G4 d_ d_ Xp aQM aQN),.wr 80 .i64 (AU+AX+3*EM+3*Jq) (AU+AX+3*EM+3*Jq) (by rw[dh];omega),.wr 85 .i64 (f.a*g.c) AV (pL Xd aQo aQp),.wr 90 .i64 (f.c*g.a) AZ (pL Xj aQA aQB),.wr 91 .i64 (AV+AZ) (AV+AZ) (by rw[dh];omega),.wr 94 .i64 (2*f.b) (2*f.b) (G3 d_ d_ (b1 1)),.wr 97 .i64 (2*f.b*g.e) (2*EK) (G4 d_ d_ Xi aQy aQz),.wr 98 .i64 (AV+AZ+2*EK) (AV+AZ+2*EK) (by rw[dh];omega),.wr 101 .i64 (2*f.e) (2*f.e) (G3 d_ d_ (b1 3)),.wr 104 .i64 (2*f.e*g.b) (2*Jp) (G4 d_ d_ Xo aQK aQL),.wr 105 .i64 (AV+AZ+2*EK+2*Jp) (AV+AZ+2*EK+2*Jp) (by rw[dh];omega),
   .wr 110 .i64 (f.a*g.e) AW (pL Xe aQq aQr),.wr 115 .i64 (f.e*g.a) A0 (pL Xn aQI aQJ),.wr 116 .i64 (AW+A0) (AW+A0) (by rw[dh];omega),.wr 121 .i64 (f.b*g.c) EJ (pL Xh aQw aQx),.wr 122 .i64 (AW+A0+EJ) (AW+A0+EJ) (by rw[dh];omega),.wr 127 .i64 (f.c*g.b) Jo (pL Xk aQC aQD),.wr 128 .i64 (AW+A0+EJ+Jo) (AW+A0+EJ+Jo) (by rw[dh];omega),
   .wr 133 .i64 (f.d*g.d) ME (pL Q1 aQQ aQR),nm.at 135]) (λ_=>k_) k_ k_
 ·have ca:=IP hx;have cb:=IP hy;have tm:=aEz ca cb cN;have hl:=aXC (c:=j0 (co (bT x)) (co (bT y)) 16) (d:=(bT x).d*(bT y).d) (n:=m+n+4) (DY o_ o_) (by rw[Lo];exact dU.mul hx hy) o_;rw[Lo]at hl;have md:=aXw hx.2.2.2.2 hy.2.2.2.2 o_ o_;generalize j0 (co (bT x)) (co (bT y)) 16=c at *;by_cases w1:CV (bT x)
  ·obtain⟨k,q2⟩:=QZ (f:=bT y) (λh=>hw ⟨w1,h⟩);have q1:=Jl w1;exact fW mixed func66 200 (λ_=>[v1.at 10,v2.at 14,q1.at 20,q2.at 26,tm.at 140,md.at 145,hl.at 146]) (λ_=>k_) k_ k_
  ·obtain⟨k,q1⟩:=QZ (f:=bT x) w1;exact fW mixed func66 200 (λ_=>[v1.at 10,v2.at 14,q1.at 20,tm.at 140,md.at 145,hl.at 146]) (λ_=>k_) k_ k_
theorem aEA{a s:Int}(ha:a.natAbs<=1)(hs:s.natAbs<=1):IntKind.i64.wrap (a*s)=a*s:=by
 have h1:a=-1\/a=0\/a=1:=by omega
 rcases h1 with h1|h1|h1<;>rw[h1,dh]<;>omega
theorem yO{a b:Int}(h:a=b):Value.bool (a==b)=.bool true:=by rw[h];simp
theorem qj{a b:Int}(h:a≠b):Value.bool (a==b)=.bool false:=by congr 1;simpa using h
theorem Xr{x y:Int}{p:Nat}(h1:x.natAbs<2^p)(h2:y.natAbs<2^q)(hp:p+p+3<=aD)(hq:q+q+3<=aD):aF prog 48 [bf x,bf y] (.int .i64 (qc x y)):=by
 have qf:aD<=1099511627776:=by decide
 have s1:=aXM x;have s2:=aXM y;have l1:=Gd x;have l3:=Gd (x*x-2*(y*y));have m1:=aXw h1 h1 o_ o_;have o2:=aXW (z:=2) d_ d_;have m2:=aXw h2 h2 o_ o_;have m3:=aXw (x:=2) (y:=y*y) (p:=2) d_ (eT h2 h2) d_ o_;have cm:=aXR (x:=x*x) (y:=2*(y*y)) (eT h1 h1) (eT (m:=2) (u:=2) d_ (eT h2 h2)) o_ o_;have hw:=aEA l1 l3;unfold qc ur;generalize (x*x-2*(y*y)).sign=t at *;generalize x.sign=a at *;generalize y.sign=b at *;by_cases h1:a=b
 ·rw[aB (.inl h1)];exact aN func48 (λ_=>[s1.at 8,s2.at 10,.rw 13 _ b_ (yO h1)])
 ·by_cases h2:b=0
  ·rw[aB (.inr h2)];exact aN func48 (λ_=>[s1.at 8,s2.at 10,.rw 13 _ a_ (qj h1),.rw 16 _ b_ (yO h2)])
  ·rw[av (λh=>h.elim h1 h2)];by_cases h3:a=0
   ·rw[aB h3];exact aN func48 (λ_=>[s1.at 8,s2.at 10,.rw 13 _ a_ (qj h1),.rw 16 _ a_ (qj h2),.rw 20 _ b_ (yO h3)])
   ·rw[av h3];exact aN func48 (λ_=>[s1.at 8,s2.at 10,.rw 13 _ a_ (qj h1),.rw 16 _ a_ (qj h2),.rw 20 _ a_ (qj h3),m1.at 25,o2.at 26,m2.at 29,m3.at 30,cm.at 31,.wr 32 .i64 (a*t) (a*t) hw])
theorem Js{f g:Fr}{m n:Nat}(hf:dU m f)(hg:dU n g)(cN:m+n+8<=aD):aF prog 49 [qd (co f),qd (co g)] (qd (co (fe f g))):=by
 have h:=aEz (IP hf) (IP hg) cN;have e:qd (j0 (co f) (co g) 16)=qd (co (fe f g)):=by rw[<-Lo f g];rfl
 rw[e]at h;exact h
def f2(a b:Int):Fr:=⟨a,b,0,0,1⟩
theorem aQS(a b:Int):fe (f2 a b) (f2 a b)=⟨a*a+2*(b*b),2*(a*b),0,0,1⟩:=by
 unfold fe f2;simp only[Fr.mk.injEq];refine⟨?_,?_,?_,?_,?_⟩
 ·simp
 ·rw[Uh b a];simp;omega
 ·simp
 ·simp
 ·rfl
theorem aQT(a b:Int):qd (co (f2 a b))=.agg #[.bool (bN a).neg,.string (BA (bN a).bw),.bool (bN b).neg,.string (BA (bN b).bw),.bool false,.string ⟨#[]⟩,.bool false,.string ⟨#[]⟩]:=by show Value.agg #[.bool (bN a).neg,.string (BA (bN a).bw),.bool (bN b).neg,.string (BA (bN b).bw),.bool (bN 0).neg,.string (BA (bN 0).bw),.bool (bN 0).neg,.string (BA (bN 0).bw)]=_;rw[D1];rfl
theorem aEB{a b:Int}{n:Nat}(ha:a.natAbs<2^n)(hb:b.natAbs<2^n)(hn:2*n+10<=aD):
  aF prog 49 [.agg #[.bool (bN a).neg,.string (BA (bN a).bw),.bool (bN b).neg,.string (BA (bN b).bw),.bool false,.string ⟨#[]⟩,.bool false,.string ⟨#[]⟩],.agg #[.bool (bN a).neg,.string (BA (bN a).bw),.bool (bN b).neg,.string (BA (bN b).bw),.bool false,.string ⟨#[]⟩,.bool false,.string ⟨#[]⟩]]
   (qd (co ⟨a*a+2*(b*b),2*(a*b),0,0,1⟩)):=by
 have hp:0<2^n:=cP d_;have h:dU (n+1) (f2 a b):=by have h2:2^n*2=2^(n+1):=(dG ..).symm;refine⟨?_,?_,?_,?_,?_⟩<;>unfold f2<;>dsimp only<;>omega
 have:=Js h h o_;rw[aQS,aQT]at this;exact this
theorem aXu{x:K}{n:Nat}(hx:Sz n x)(hn:4*n+30<=aD):aF prog 12 [bI x] (.int .i64 (OF.aG x)):=by
 have qf:aD<=1099511627776:=by decide
 have hv:=aXf hx o_;rw[aBN];obtain⟨x1,x2,x3,x4,x5⟩:=hx;unfold bI de at *;generalize bT x=f at *;have s1:=Xr x1 x2 o_ o_;have s2:=Xr x3 x4 o_ o_;have t1:=aEB x1 x2 o_;have t2:=aEB x3 x4 o_;have o3:=aXW (z:=3) d_ d_;have z1:(f.a*f.a).natAbs<2^(n+n+2):=cG (eT x1 x1) (df d_ o_);have z2:(2*(f.b*f.b)).natAbs<2^(n+n+2):=by have:=eT (m:=2) (u:=2) d_ (eT x2 x2);rwa[show 2+(n+n)=n+n+2 by omega]at this
 have z3:(f.c*f.c).natAbs<2^(n+n+2):=cG (eT x3 x3) (df d_ o_);have z4:(2*(f.e*f.e)).natAbs<2^(n+n+2):=by have:=eT (m:=2) (u:=2) d_ (eT x4 x4);rwa[show 2+(n+n)=n+n+2 by omega]at this
 have z12:=IW z1 z2;have z34:=IW z3 z4;have y1:(2*(f.a*f.b)).natAbs<2^(n+n+2):=by have:=eT (m:=2) (u:=2) d_ (eT x1 x2);rwa[show 2+(n+n)=n+n+2 by omega]at this
 have y2:(2*(f.c*f.e)).natAbs<2^(n+n+2):=by have:=eT (m:=2) (u:=2) d_ (eT x3 x4);rwa[show 2+(n+n)=n+n+2 by omega]at this
 have m34:=aXw (x:=3) (p:=2) d_ z34 d_ o_;have zm:(3*(f.c*f.c+2*(f.e*f.e))).natAbs<2^(n+n+5):=by have:=eT (m:=2) (u:=3) d_ z34;rwa[show 2+(n+n+2+1)=n+n+5 by omega]at this
 have aEC:(f.a*f.a+2*(f.b*f.b)).natAbs<2^(n+n+5):=cG z12 (df d_ o_);have d1:=aXV aEC zm o_ o_;have my:=aXw (x:=3) (p:=2) d_ y2 d_ o_;have ym:(3*(2*(f.c*f.e))).natAbs<2^(n+n+4):=by have:=eT (m:=2) (u:=3) d_ y2;rwa[show 2+(n+n+2)=n+n+4 by omega]at this
 have y1':(2*(f.a*f.b)).natAbs<2^(n+n+4):=cG y1 (df d_ o_);have d2:=aXV y1' ym o_ o_;have s3:=Xr (Pu aEC zm) (Pu y1' ym) o_ o_;have e1:(f.a*f.a+2*(f.b*f.b))-3*(f.c*f.c+2*(f.e*f.e))=(f.a*f.a+2*(f.b*f.b))-(3*(f.c*f.c)+6*(f.e*f.e)):=by omega
 have e2:2*(f.a*f.b)-3*(2*(f.c*f.e))=2*(f.a*f.b)-6*(f.c*f.e):=by omega
 have yi:=Pv f.a f.b;have U1:=Pv ((f.a*f.a+2*(f.b*f.b))-(3*(f.c*f.c)+6*(f.e*f.e))) (2*(f.a*f.b)-6*(f.c*f.e));have hw:=aEA yi U1;rw[<-e1,<-e2]at hw;unfold Pn ur;rw[<-e1,<-e2];generalize qc ((f.a*f.a+2*(f.b*f.b))-3*(f.c*f.c+2*(f.e*f.e))) (2*(f.a*f.b)-3*(2*(f.c*f.e)))=t at *;generalize qc f.a f.b=p at *;generalize qc f.c f.e=q at *;by_cases h1:p=q
 ·rw[aB (.inl h1)];exact aN func12 (λ_=>[hv.at 9,s1.at 17,s2.at 24,.rw 27 _ b_ (yO h1)])
 ·by_cases h2:q=0
  ·rw[aB (.inr h2)];exact aN func12 (λ_=>[hv.at 9,s1.at 17,s2.at 24,.rw 27 _ a_ (qj h1),.rw 30 _ b_ (yO h2)])
  ·rw[av (λh=>h.elim h1 h2)];by_cases h3:p=0
   ·rw[aB h3];exact aN func12 (λ_=>[hv.at 9,s1.at 17,s2.at 24,.rw 27 _ a_ (qj h1),.rw 30 _ a_ (qj h2),.rw 34 _ b_ (yO h3)])
   ·rw[av h3];exact fW mixed func12 200 (λ_=>[hv.at 9,s1.at 17,s2.at 24,.rw 27 _ a_ (qj h1),.rw 30 _ a_ (qj h2),.rw 34 _ a_ (qj h3),t1.at 50,t2.at 65,o3.at 66,m34.at 73,d1.at 74,my.at 80,d2.at 81,s3.at 82,.wr 83 .i64 (p*t) (p*t) hw]) (λ_=>k_) k_ k_
theorem aXK{x y:K}{m n:Nat}(hx:Sz m x)(hy:Sz n y)(cN:4*(m+n)+40<=aD):aF prog 33 [bI x,bI y] (.int .i64 (OF.aG (x-y))):=
 aN func33 (λ_=>[(aXf hx o_).at 6,(aXf hy o_).at 10,(aXP hx hy o_).at 15,(aXu (hx.sub hy) o_).at 16])
theorem aXN{x:K}{n:Nat}(hx:Sz n x)(hn:4*n+30<=aD):aF prog 223 [bI x] (bI (iZ x)):=by
 unfold iZ;have n1:=aX6 hx o_;have n2:=aX6 hx.neg o_;rw[CR.neg_neg]at n2;by_cases h:OF.aG x<0
 ·rw[aB h];exact aN func223 (λ_=>[(aXu hx hn).at 4,.rw 5 (.bool (decide (OF.aG x<0))) b_ (by rw[aH h]),n1.at 7])
 ·rw[av h];exact aN func223 (λ_=>[(aXu hx hn).at 4,.rw 5 (.bool (decide (OF.aG x<0))) a_ (by rw[aP h]),n1.at 9,n2.at 10])
def tK(q:RI):Nat:=q.bw.length
def tL(r:RN)(k:Nat):Bool:=decide (tK r.a<=k)&&(decide (tK r.b<=k)&&(decide (tK r.c<=k)&&(decide (tK r.e<=k)&&decide (tK r.d<=k))))
theorem A1(l:List UInt8):Value.int .i64 ((BA l).size:Int)=vI l.length:=by rw[pw];rfl
theorem uP(h:decide (a<=b)=!t):Value.bool (decide ((a:Int)>(b:Int)))=.bool t:=by
 congr 1
 cases t
 ·have:=kX h;exact aP o_
 ·have:=Ir h;exact aH o_
theorem Q2(r:RN)(k:Nat):aF prog 72 [r.v,vI k] (.bool (tL r k)):=by
 unfold tL tK;have la:=A1 r.a.bw;have lb:=A1 r.b.bw;have lc:=A1 r.c.bw;have le:=A1 r.e.bw;have ld:=A1 r.d.bw;rcases ha:decide (r.a.bw.length<=k)with _|_
 ·exact aN func72 (λ_=>[.rw 15 _ (vI r.a.bw.length) la,.rw 17 _ b_ (uP (t:=true) ha)])
 rcases hb:decide (r.b.bw.length<=k)with _|_
 ·exact aN func72 (λ_=>[.rw 15 _ (vI r.a.bw.length) la,.rw 17 _ a_ (uP (t:=false) ha),.rw 15 _ (vI r.b.bw.length) lb,.rw 17 _ b_ (uP (t:=true) hb)])
 rcases hc:decide (r.c.bw.length<=k)with _|_
 ·exact aN func72 (λ_=>[.rw 15 _ (vI r.a.bw.length) la,.rw 17 _ a_ (uP (t:=false) ha),.rw 15 _ (vI r.b.bw.length) lb,.rw 17 _ a_ (uP (t:=false) hb),.rw 15 _ (vI r.c.bw.length) lc,.rw 17 _ b_ (uP (t:=true) hc)])
 rcases he:decide (r.e.bw.length<=k)with _|_
 ·exact aN func72 (λ_=>[.rw 15 _ (vI r.a.bw.length) la,.rw 17 _ a_ (uP (t:=false) ha),.rw 15 _ (vI r.b.bw.length) lb,.rw 17 _ a_ (uP (t:=false) hb),.rw 15 _ (vI r.c.bw.length) lc,.rw 17 _ a_ (uP (t:=false) hc),.rw 15 _ (vI r.e.bw.length) le,.rw 17 _ b_ (uP (t:=true) he)])
 have hd:Value.bool (decide ((r.d.bw.length:Int)<=(k:Int)))=.bool (decide (r.d.bw.length<=k)):=by congr 1;rw[sQ];omega
 exact aN func72 (λ_=>[.rw 15 _ (vI r.a.bw.length) la,.rw 17 _ a_ (uP (t:=false) ha),.rw 15 _ (vI r.b.bw.length) lb,.rw 17 _ a_ (uP (t:=false) hb),.rw 15 _ (vI r.c.bw.length) lc,.rw 17 _ a_ (uP (t:=false) hc),.rw 15 _ (vI r.e.bw.length) le,.rw 17 _ a_ (uP (t:=false) he),.rw 21 _ (vI r.d.bw.length) ld,.rw 23 _ (.bool (decide (r.d.bw.length<=k))) hd])
def wN(r:RN):Nat:=tK r.d+tK r.a+tK r.b+tK r.c+tK r.e
theorem Q3{r:RN}(h:wN r<9223372036854775808):aF prog 109 [r.v] (vI (wN r)):=by unfold wN tK at *;have la:=A1 r.a.bw;have lb:=A1 r.b.bw;have lc:=A1 r.c.bw;have le:=A1 r.e.bw;have ld:=A1 r.d.bw;exact aN func109 (λ_=>[.rw 8 _ (vI r.d.bw.length) ld,.rw 19 _ (vI r.a.bw.length) la,.sum 20 r.d.bw.length r.a.bw.length (r.d.bw.length+r.a.bw.length) rfl o_,.rw 19 _ (vI r.b.bw.length) lb,.sum 20 (r.d.bw.length+r.a.bw.length) r.b.bw.length (r.d.bw.length+r.a.bw.length+r.b.bw.length) rfl o_,.rw 19 _ (vI r.c.bw.length) lc,.sum 20 (r.d.bw.length+r.a.bw.length+r.b.bw.length) r.c.bw.length (r.d.bw.length+r.a.bw.length+r.b.bw.length+r.c.bw.length) rfl o_,.rw 19 _ (vI r.e.bw.length) le,.sum 20 (r.d.bw.length+r.a.bw.length+r.b.bw.length+r.c.bw.length) r.e.bw.length (r.d.bw.length+r.a.bw.length+r.b.bw.length+r.c.bw.length+r.e.bw.length) rfl o_])
theorem Xs(p q r t:Rat)(k:Rat):(⟨⟨p,q⟩,⟨r,t⟩⟩:K)*⟨⟨k,0⟩,⟨0,0⟩⟩=⟨⟨p*k,q*k⟩,⟨r*k,t*k⟩⟩:=by
 apply bK.ext
 ·apply bK.ext
  ·show(p*k+2*(q*0))+(3*(r*0+2*(t*0))+2*(0*(r*0+t*0)))=p*k
   grind
  ·show(p*0+q*k)+(3*(r*0+t*0)+0*(r*0+2*(t*0)))=q*k
   grind
 ·apply bK.ext
  ·show(p*0+2*(q*0))+(r*k+2*(t*0))=r*k
   grind
  ·show(p*0+q*0)+(r*0+t*k)=t*k
   grind
theorem Q4(u d k:Int):Rat.divInt (u*k) d=Rat.divInt u d*(k:Rat):=by
 rw[Ck,Ck,F6,F6];have:((u*k:Int):Rat)=(u:Rat)*(k:Rat):=by simp
 rw[this]
 grind
theorem aQU(a b c e d k:Int):Fr.val ⟨a*k,b*k,c*k,e*k,d⟩=Fr.val ⟨a,b,c,e,d⟩*kI k:=by unfold Fr.val kI;dsimp only;rw[Xs,Q4,Q4,Q4,Q4]
theorem Q5{a b c e d:Int}(hd:d≠0):Fr.val ⟨a,b,c,e,d⟩*kI d=Fr.val ⟨a,b,c,e,1⟩:=by
 unfold Fr.val kI;dsimp only;have h1:∀ u:Int,Rat.divInt u 1=(u:Rat):=λu=>by rw[Ck,F6];grind
 rw[Xs,pG hd,pG hd,pG hd,pG hd,h1,h1,h1,h1]
theorem aQV(a b:Int):kI (a*b)=kI a*kI b:=by
 unfold kI;rw[Xs];have:((a*b:Int):Rat)=(a:Rat)*(b:Rat):=by simp
 rw[this];apply bK.ext<;>apply bK.ext<;>simp
theorem aQW:kI 1=1:=rfl
theorem Q6{a:Int}(h:a≠0):kI a≠0:=λe=>by have h1:=cO (λx:K=>x.re.re) e;have h2:((a:Int):Rat)=0:=h1;exact h (by simpa using h2)
theorem Xt(f:Fr)(h:f.d=1):f.val=⟨⟨f.a,f.b⟩,⟨f.c,f.e⟩⟩:=by
 have h1:∀ u:Int,Rat.divInt u 1=(u:Rat):=λu=>by rw[Ck,F6];grind
 unfold Fr.val;rw[h,h1,h1,h1,h1]
theorem aQX(u v:K):mB (u*v)=mB u*mB v:=by
 obtain⟨⟨a,b⟩,⟨c,d⟩⟩:=u;obtain⟨⟨p,q⟩,⟨r,s⟩⟩:=v;apply bK.ext
 ·apply bK.ext
  ·show(a*p+2*(b*q))+(3*(c*r+2*(d*s))+2*(0*(c*s+d*r)))=(a*p+2*(-b*-q))+(3*(c*r+2*(-d*-s))+2*(0*(c*-s+-d*r)))
   grind
  ·show -((a*q+b*p)+(3*(c*s+d*r)+0*(c*r+2*(d*s))))=(a*-q+-b*p)+(3*(c*-s+-d*r)+0*(c*r+2*(-d*-s)))
   grind
 ·apply bK.ext
  ·show(a*r+2*(b*s))+(c*p+2*(d*q))=(a*r+2*(-b*-s))+(c*p+2*(-d*-q))
   grind
  ·show -((a*s+b*r)+(c*q+d*p))=(a*-s+-b*r)+(c*-q+-d*p)
   grind
def nf(f:Fr):Fr:=⟨f.a,f.b,f.c,f.e,1⟩
def Q7(f:Fr):Fr:=⟨f.a,-f.b,-f.c,f.e,1⟩
def Q8:Fr:=⟨1,0,0,0,1⟩
def iL(f:Fr):Fr:=fe (fe (fe Q8 (yf (nf f))) (ye (nf f))) (Q7 f)
theorem aED(f:Fr):(iL f).d=1:=rfl
theorem aQY(f:Fr):(nf f).val*(iL f).val=rP (nf f).val:=by
 have h1:∀ g h:Fr,g.d=1->h.d=1->(fe g h).val=g.val*h.val:=λg h e1 e2=>IK (by rw[e1];decide) (by rw[e2];decide);have e3:Q7 f=yf (ye (nf f)):=by unfold Q7 yf ye nf;simp
 unfold iL;rw[h1 _ _ rfl rfl,h1 _ _ rfl rfl,h1 _ _ rfl rfl,e3,UT,UT,aBU];have eo:Q8.val=1:=by rw[Xt _ rfl];rfl
 rw[eo];unfold rP two;rw[aQX];generalize (nf f).val=y;rw[CR.one_mul];exact OF.Aa y (mB y) (nN y) (mB (nN y)) (λy c b i=>y*(c*b*i)) (λy c b i=>y*b*(c*i)) d_
def nV(f g:Fr):Fr:=⟨(fe (nf f) (iL g)).a*g.d,(fe (nf f) (iL g)).b*g.d,(fe (nf f) (iL g)).c*g.d,(fe (nf f) (iL g)).e*g.d,(fe (nf g) (iL g)).a*f.d⟩
theorem aQZ{g:Fr}(hg:g.d≠0)(h:g.val≠0):(fe (nf g) (iL g)).a≠0/\kI (fe (nf g) (iL g)).a=(nf g).val*(iL g).val:=by
 have hv:(fe (nf g) (iL g)).val=(nf g).val*(iL g).val:=IK (show(1:Int)≠0 by decide) (by rw[aED];decide);have hy:(nf g).val≠0:=λe=>h (by
  have h1:=Q5 (a:=g.a) (b:=g.b) (c:=g.c) (e:=g.e) hg;have h2:Fr.val ⟨g.a,g.b,g.c,g.e,g.d⟩*kI g.d=0:=by rw[h1];exact e
  exact gR λh3=>OF.mul_ne_zero (a:=Fr.val ⟨g.a,g.b,g.c,g.e,g.d⟩) h3 (Q6 hg) h2)
 have hn:=aQY g;rw[Pr]at hn;have hq:=UU hy;rw[<-hv,Xt _ (by rfl)]at hn;have e1:(((fe (nf g) (iL g)).a:Int):Rat)=bK.nm (bK.nm (nf g).val):=cO (λx:K=>x.re.re) hn;have e2:(((fe (nf g) (iL g)).b:Int):Rat)=0:=cO (λx:K=>x.re.im) hn;have e3:(((fe (nf g) (iL g)).c:Int):Rat)=0:=cO (λx:K=>x.im.re) hn;have e4:(((fe (nf g) (iL g)).e:Int):Rat)=0:=cO (λx:K=>x.im.im) hn;refine⟨λe=>hq (by rw[<-e1,e];rfl),?_⟩;rw[<-hv,Xt _ (by rfl),e2,e3,e4];rfl
theorem aQ0{f g:Fr}(hf:f.d≠0)(hg:g.d≠0)(h:g.val≠0):(nV f g).d≠0/\(nV f g).val=f.val*(g.val)⁻¹:=by
 obtain⟨ha,hk⟩:=aQZ hg h;have hd:(nV f g).d≠0:=DY ha hf;refine⟨hd,?_⟩;have h1:=Q5 (a:=(nV f g).a) (b:=(nV f g).b) (c:=(nV f g).c) (e:=(nV f g).e) hd;have h2:=aQU (fe (nf f) (iL g)).a (fe (nf f) (iL g)).b (fe (nf f) (iL g)).c (fe (nf f) (iL g)).e 1 g.d;have h3:(fe (nf f) (iL g)).val=(nf f).val*(iL g).val:=IK (show(1:Int)≠0 by decide) (by rw[aED];decide);have h4:=Q5 (a:=f.a) (b:=f.b) (c:=f.c) (e:=f.e) hf;have h5:=Q5 (a:=g.a) (b:=g.b) (c:=g.c) (e:=g.e) hg;have h6:kI (nV f g).d=(nf g).val*(iL g).val*kI f.d:=by show kI ((fe (nf g) (iL g)).a*f.d)=_;rw[aQV,hk]
 have e1:(nV f g).val*((nf g).val*(iL g).val*kI f.d)=(nf f).val*(iL g).val*kI g.d:=by rw[<-h6,<-h3];exact h1.trans h2
 replace h4:f.val*kI f.d=(nf f).val:=h4
 replace h5:g.val*kI g.d=(nf g).val:=h5
 rw[<-h4,<-h5]at e1;have hc:(iL g).val≠0:=λe=>by rw[e,CR.mul_zero]at hk;exact Q6 ha hk
 have hm:kI g.d*((iL g).val*kI f.d)≠0:=OF.mul_ne_zero (Q6 hg) (OF.mul_ne_zero hc (Q6 hf));have e2:(nV f g).val*g.val*(kI g.d*((iL g).val*kI f.d))=f.val*(kI g.d*((iL g).val*kI f.d)):=by
  rw[show(nV f g).val*g.val*(kI g.d*((iL g).val*kI f.d))=(nV f g).val*(g.val*kI g.d*(iL g).val*kI f.d)from
   OF.Iy (nV f g).val g.val (kI g.d) (iL g).val (kI f.d) (λd g k c l=>d*g*(k*(c*l))) (λd g k c l=>d*(g*k*c*l)) d_,e1]
  exact OF.Aa f.val (kI f.d) (iL g).val (kI g.d) (λf l c k=>f*l*c*k) (λf l c k=>f*(k*(c*l))) d_
 have e3:(nV f g).val*g.val=f.val:=by have h7:=cO (λt=>t*(kI g.d*((iL g).val*kI f.d))⁻¹) e2;rw[CR.mul_assoc ((nV f g).val*g.val),CR.mul_assoc f.val,OF.jn _ hm,CR.mul_one,CR.mul_one]at h7;exact h7
 rw[<-e3,CR.mul_assoc,OF.jn _ h,CR.mul_one]
theorem aQ1:qd (co Q8)=.agg #[.bool (bN 1).neg,.string (BA (bN 1).bw),.bool false,.string ⟨#[]⟩,.bool false,.string ⟨#[]⟩,.bool false,.string ⟨#[]⟩]:=by show Value.agg #[.bool (bN 1).neg,.string (BA (bN 1).bw),.bool (bN 0).neg,.string (BA (bN 0).bw),.bool (bN 0).neg,.string (BA (bN 0).bw),.bool (bN 0).neg,.string (BA (bN 0).bw)]=_;rw[D1];rfl
theorem aEE{n:Nat}{f:Fr}(h:dU n f)(hd:f.d≠0):dU n (nf f):=by
 obtain⟨h1,h2,h3,h4,h5⟩:=h;refine⟨h1,h2,h3,h4,?_⟩;show(1:Int).natAbs<2^n;have:f.d.natAbs≠0:=by omega
 show 1<2^n;omega
theorem aQ2{n:Nat}{f:Fr}(h:dU n (nf f)):dU n (yf (nf f))/\dU n (ye (nf f))/\dU n (Q7 f):=by
 obtain⟨h1,h2,h3,h4,h5⟩:=h;have e:∀ z:Int,z.natAbs<2^n->(-z).natAbs<2^n:=λz hz=>by rw[KX];exact hz
 exact⟨⟨h1,e _ h2,h3,e _ h4,h5⟩,⟨h1,h2,e _ h3,e _ h4,h5⟩,⟨h1,e _ h2,e _ h3,h4,h5⟩⟩
theorem aXB{x y:K}{m n:Nat}(h:y≠0)(hx:Sz m x)(hy:Sz n y)(cN:m+4*n+60<=aD):aF prog 64 [bI x,bI y] (.tuple #[bI (x*y⁻¹),.int .i64 0]):=by
 have qf:aD<=1099511627776:=by decide
 have v1:=aXf hx o_;have v2:=aXf hy o_;have sy:=aXu hy o_;have h26:Value.bool (OF.aG y==0)=.bool false:=qj (λe=>h ((OF.fF y).1 e));have wx:(bT x).d≠0:=by have:=(kY x).pos;omega
 have oS:(bT y).d≠0:=by have:=(kY y).pos;omega
 obtain⟨hd,hv⟩:=aQ0 wx oS (by rw[pF];exact h);rw[pF,pF]at hv;have e:bI (x*y⁻¹)=iE (nV (bT x) (bT y)).low:=by unfold bI de;rw[<-hv,F4 hd];rfl
 rw[e];have so1:dU 1 Q8:=⟨by decide,by decide,by decide,by decide,by decide⟩;have sg:=aEE hy oS;have sf:=aEE hx wx;obtain⟨c1,c2,c3⟩:=aQ2 sg;have s1:=dU.mul so1 c1;have s2:=dU.mul s1 c2;have s3:=dU.mul s2 c3;have sN:=dU.mul sg s3;have sM:=dU.mul sf s3;have t1:=Js so1 c1 o_;rw[aQ1]at t1;have t2:=Js s1 c2 o_;have t3:=Js s2 c3 o_;have tN:=Js sg s3 o_;have tM:=Js sf s3 o_;have gd:=hy.2.2.2.2;have fd:=hx.2.2.2.2;have ma:=aXw sM.1 gd o_ o_;have mb:=aXw sM.2.1 gd o_ o_;have mc:=aXw sM.2.2.1 gd o_ o_;have me:=aXw sM.2.2.2.1 gd o_ o_;have md:=aXw sN.1 fd o_ o_;have za:=eT sM.1 gd;have zb:=eT sM.2.1 gd;have zc:=eT sM.2.2.1 gd;have ze:=eT sM.2.2.2.1 gd;have zd:=eT sN.1 fd;have yi:2^(m+(1+n+4+n+4+n+4)+4+n)<=2^(m+4*n+20):=df d_ o_;have WZ:2^(n+(1+n+4+n+4+n+4)+4+m)<=2^(m+4*n+20):=df d_ o_;have hl:=aXC (c:=co (nV (bT x) (bT y))) (d:=(nV (bT x) (bT y)).d) (n:=m+4*n+20) hd ⟨cG za yi,cG zb yi,cG zc yi,cG ze yi,cG zd WZ⟩ o_;have dJ:pH (co (nV (bT x) (bT y))) (nV (bT x) (bT y)).d=nV (bT x) (bT y):=rfl;rw[dJ]at hl;have nb:=aXj (bT y).b;have nc:=aXj (bT y).c;have ne:=aXj (bT y).e;have one:=aXW (z:=1) d_ d_;generalize hD:(nV (bT x) (bT y)).low=D at *;exact fW mixed func64 300 (λ_=>[v1.at 15,v2.at 19,sy.at 25,.rw 26 _ a_ h26,one.at 28,nb.at 54,ne.at 54,t1.at 58,nc.at 54,ne.at 54,t2.at 58,nb.at 54,nc.at 54,t3.at 58,tN.at 62,tM.at 66,ma.at 77,mb.at 77,mc.at 77,me.at 77,md.at 84,hl.at 85]) (λ_=>k_) k_ k_
section
open V3 (dot af aW smul)
def MF(n:Nat)(r:RV):Prop:=dU n (gU r.x)/\dU n (gU r.y)/\dU n (gU r.z)
def A2(r:RV):Bool:=nU r.x&&(nU r.y&&nU r.z)
theorem aXl{r:RV}{n:Nat}(h:MF n r)(hn:n<=aD):aF prog 28 [r.v] (.bool (A2 r)):=by
 have hx:=MC h.1 hn;have hy:=MC h.2.1 hn;have hz:=MC h.2.2 hn;unfold A2;generalize nU r.x=bb at *;rcases bb with _|_
 ·exact aN func28 (λ_=>[hx.at 5])
 generalize nU r.y=bb at *;rcases bb with _|_
 ·exact aN func28 (λ_=>[hx.at 5,hy.at 9])
 exact aN func28 (λ_=>[hx.at 5,hy.at 9,hz.at 14])
theorem Q9(x:K):nU (de x)=true:=aEy (kY x)
theorem G6(x:K):gU (de x)=bT x:=W8 (bT x)
theorem aEF{n:Nat}{v:V3 K}(h:aI n v):MF n (cK v):=by
 refine⟨?_,?_,?_⟩
 ·show dU n (gU (de v.x));rw[G6];exact h.1
 ·show dU n (gU (de v.y));rw[G6];exact h.2.1
 ·show dU n (gU (de v.z));rw[G6];exact h.2.2
theorem aEG(v:V3 K):A2 (cK v)=true:=by show(nU (de v.x)&&(nU (de v.y)&&nU (de v.z)))=true;rw[Q9,Q9,Q9];rfl
theorem aXm{v:V3 K}{n:Nat}(h:aI n v)(hn:n<=aD):aF prog 28 [bZ v] b_:=by have:=aXl (aEF h) hn;rw[aEG]at this;exact this
def vZ(r:RV):V3 K:=⟨(gU r.x).val,(gU r.y).val,(gU r.z).val⟩
theorem aEH{r:RV}(h:A2 r=true):r=cK (vZ r):=by unfold A2 at h;simp only[dr]at h;obtain⟨x,y,z⟩:=r;show RV.mk x y z=RV.mk (de (gU x).val) (de (gU y).val) (de (gU z).val);rw[<-QX h.1,<-QX h.2.1,<-QX h.2.2]
theorem aXk{a b c:Int}(ha:a.natAbs<9223372036854775808)(hb:b.natAbs<9223372036854775808)(hc:c.natAbs<9223372036854775808):aF prog 20 [.int .i64 a,.int .i64 b,.int .i64 c] (bZ ⟨kI a,kI b,kI c⟩):=
 aN func20 (λ_=>[(aXp ha).at 8,(aXp hb).at 10,(aXp hc).at 12])
theorem aXF{u v:V3 K}{m n:Nat}(hu:aI m u)(hv:aI n v)(cN:m+n<aD):aF prog 26 [bZ u,bZ v] (bZ (u+v)):=
 aN func26 (λ_=>[(aXm hu o_).at 6,(aXm hv o_).at 10,(aXI hu.1 hv.1 cN).at 18,(aXI hu.2.1 hv.2.1 cN).at 23,(aXI hu.2.2 hv.2.2 cN).at 28])
theorem aXH{v:V3 K}{n:Nat}(hv:aI n v)(hn:n<=aD):aF prog 30 [bZ v] (bZ (-v)):=
 aN func30 (λ_=>[(aXm hv hn).at 4,(aX6 hv.1 hn).at 9,(aX6 hv.2.1 hn).at 12,(aX6 hv.2.2 hn).at 15])
theorem aX0{u v:V3 K}{m n:Nat}(hu:aI m u)(hv:aI n v)(cN:m+n<aD):aF prog 154 [bZ u,bZ v] (bZ (u-v)):=by have e:u-v=u+-v:=V3.ext (CR.sub_def _ _) (CR.sub_def _ _) (CR.sub_def _ _);rw[e];exact aN func154 (λ_=>[(aXH hv o_).at 7,(aXF hu hv.neg cN).at 8])
theorem aYc{v:V3 K}{k:K}{m n:Nat}(hv:aI m v)(hk:Sz n k)(cN:m+n+8<=aD):aF prog 63 [bZ v,bI k] (bZ (smul v k)):=
 aN func63 (λ_=>[(aXm hv o_).at 6,(aXf hk o_).at 10,(aX8 hv.1 hk cN).at 17,(aX8 hv.2.1 hk cN).at 21,(aX8 hv.2.2 hk cN).at 25])
theorem aXr{u v:V3 K}{m n:Nat}(hu:aI m u)(hv:aI n v)(cN:3*(m+n)+16<aD):aF prog 23 [bZ u,bZ v] (bI (dot u v)):=
 aN func23 (λ_=>[(aXm hu o_).at 6,(aXm hv o_).at 10,(aX8 hu.1 hv.1 o_).at 18,(aX8 hu.2.1 hv.2.1 o_).at 23,(aXI (hu.1.mul hv.1) (hu.2.1.mul hv.2.1) o_).at 24,(aX8 hu.2.2 hv.2.2 o_).at 29,(aXI ((hu.1.mul hv.1).add (hu.2.1.mul hv.2.1)) (hu.2.2.mul hv.2.2) o_).at 30])
theorem aX4{a b c d:K}{m n:Nat}(ha:Sz m a)(hb:Sz m b)(hc:Sz n c)(hd:Sz n d)(cN:2*(m+n)+16<aD):aF prog 71 [bI a,bI b,bI c,bI d] (bI (a*d-b*c)):=
 aN func71 (λ_=>[(aX8 ha hd o_).at 11,(aX8 hb hc o_).at 14,(aXP (ha.mul hd) (hb.mul hc) o_).at 15])
theorem aXU{u v:V3 K}{m n:Nat}(hu:aI m u)(hv:aI n v)(cN:2*(m+n)+16<aD):aF prog 25 [bZ u,bZ v] (bZ (af u v)):=
 aN func25 (λ_=>[(aXm hu o_).at 6,(aXm hv o_).at 10,(aX4 hu.2.1 hu.2.2 hv.2.1 hv.2.2 cN).at 22,(aX4 hu.2.2 hu.1 hv.2.2 hv.1 cN).at 31,(aX4 hu.1 hu.2.1 hv.1 hv.2.1 cN).at 40])
theorem aXY{v:V3 K}{n:Nat}(hv:aI n v)(hn:n<=aD):aF prog 24 [bZ v] (.bool (decide (v=0))):=by have hz:(⟨kI 0,kI 0,kI 0⟩:V3 K)=0:=rfl;exact aN func24 (λ_=>[(aXk (a:=0) (b:=0) (c:=0) d_ d_ d_).at 4,.step 5 (aw Tryz.f24 5) _ _ _ _ (F8 (neg:=true) k_ (cK v) (cK ⟨kI 0,kI 0,kI 0⟩) (hv.sm hn) (LW.sm d_) (b:=decide (v=0)) (by rw[aB rfl,CE];exact⟨λh=>by rw[h,hz],λh=>P7 h⟩))])
theorem aXn{u v w:V3 K}{l m n:Nat}(hu:aI l u)(hv:aI m v)(hw:aI n w)(cN:3*(l+(2*(m+n)+9))+16<aD):aF prog 62 [bZ u,bZ v,bZ w] (bI (aW u v w)):=
 aN func62 (λ_=>[(aXm hu o_).at 8,(aXm hv o_).at 12,(aXm hw o_).at 17,(aXU hv hw o_).at 24,(aXr hu (hv.af hw) o_).at 25])
theorem MG(h:decide (z≠0)=t):Value.bool (z !=0)=.bool t:=by
 rw[<-h];congr 1
 by_cases e:z=0
 ·subst e;rfl
 ·rw[aH e,vt];exact e
theorem aXi{u v:V3 K}{m n:Nat}(hu:aI m u)(hv:aI n v)(cN:4*(m+n)+40<=aD):aF prog 200 [bZ u,bZ v] (.int .i64 (eD u v)):=by
 rw[<-aC1];have h1:=aXm hu (show m<=aD by omega);have h2:=aXm hv (show n<=aD by omega);have c1:=aXK hu.1 hv.1 cN;have c2:=aXK hu.2.1 hv.2.1 cN;have c3:=aXK hu.2.2 hv.2.2 cN;generalize OF.aG (u.x-v.x)=a at *;generalize OF.aG (u.y-v.y)=b at *;generalize OF.aG (u.z-v.z)=c at *;unfold P8;by_cases ha:a=0
 ·rw[av (λh=>h ha)];by_cases hb:b=0
  ·rw[av (λh=>h hb)];exact aN func200 (λ_=>[h1.at 8,h2.at 12,c1.at 19,.rw 21 _ a_ (MG (aP (λh=>h ha))),c2.at 27,.rw 29 _ a_ (MG (aP (λh=>h hb))),c3.at 35])
  ·rw[aB hb];exact aN func200 (λ_=>[h1.at 8,h2.at 12,c1.at 19,.rw 21 _ a_ (MG (aP (λh=>h ha))),c2.at 27,.rw 29 _ b_ (MG (aH hb))])
 ·rw[aB ha];exact aN func200 (λ_=>[h1.at 8,h2.at 12,c1.at 19,.rw 21 _ b_ (MG (aH ha))])
def rf(r:RV)(k:Nat):Bool:=tL r.x k&&(tL r.y k&&tL r.z k)
theorem Xu(r:RV)(k:Nat):aF prog 27 [r.v,vI k] (.bool (rf r k)):=by
 have hx:=Q2 r.x k;have hy:=Q2 r.y k;have hz:=Q2 r.z k;unfold rf;generalize tL r.x k=bb at *;rcases bb with _|_
 ·exact aN func27 (λ_=>[hx.at 8])
 generalize tL r.y k=bb at *;rcases bb with _|_
 ·exact aN func27 (λ_=>[hx.at 8,hy.at 13])
 exact aN func27 (λ_=>[hx.at 8,hy.at 13,hz.at 19])
def wV(r:RV):Nat:=wN r.x+wN r.y+wN r.z
theorem aQ3{r:RV}(h:wV r<9223372036854775808):aF prog 108 [r.v] (vI (wV r)):=by unfold wV at *;exact aN func108 (λ_=>[(Q3 (r:=r.x) o_).at 5,(Q3 (r:=r.y) o_).at 8,.sum 9 (wN r.x) (wN r.y) (wN r.x+wN r.y) rfl o_,(Q3 (r:=r.z) o_).at 12,.sum 13 (wN r.x+wN r.y) (wN r.z) (wN r.x+wN r.y+wN r.z) rfl o_])
theorem Rb{r:RN}{n:Nat}(h:tL r k=true)(hn:8*k<=n):dU n (gU r):=by
 unfold tL tK at h;simp only[dr,tZ]at h;have key:∀ q:RI,q.bw.length<=k->(eL q).natAbs<2^n:=λq hq=>by
  unfold eL;rw[qM];have h1:=BN q.bw;have h2:(256:Nat)^q.bw.length<=256^k:=df d_ hq;have h3:(256:Nat)^k=2^(8*k):=by rw[sV]
  have h4:2^(8*k)<=2^n:=df d_ hn;omega
 exact⟨key _ h.1,key _ h.2.1,key _ h.2.2.1,key _ h.2.2.2.1,key _ h.2.2.2.2⟩
theorem aQ4{r:RV}{n:Nat}(h:rf r k=true)(hn:8*k<=n):MF n r:=by unfold rf at h;simp only[dr]at h;exact⟨Rb h.1 hn,Rb h.2.1 hn,Rb h.2.2 hn⟩
def A3(n:Nat)(r:RP):Prop:=MF n r.n/\dU n (gU r.d)
def r8(r:RP):Bool:=A2 r.n&&(decide (vZ r.n≠0)&&nU r.d)
def pZ(r:RP):HS K:=⟨vZ r.n,(gU r.d).val⟩
theorem aQ5{r:RN}(h:nU r=true):bT (gU r).val=gU r:=by unfold nU at h;simp only[dr,tZ]at h;obtain⟨h1,h2,h3,h4,h5,h6,h7⟩:=h;exact F3 ⟨h6,h7⟩
theorem Rc{r:RN}{n:Nat}(h:nU r=true)(hs:dU n (gU r)):Sz n (gU r).val:=by unfold Sz;rw[aQ5 h];exact hs
theorem aEI{r:RV}{n:Nat}(h:A2 r=true)(hs:MF n r):aI n (vZ r):=by unfold A2 at h;simp only[dr]at h;exact⟨Rc h.1 hs.1,Rc h.2.1 hs.2.1,Rc h.2.2 hs.2.2⟩
theorem Xv{r:RP}{n:Nat}(h:A3 n r)(hn:n<=aD):aF prog 128 [r.v] (.bool (r8 r)):=by
 have hv:=aXl h.1 hn;have hd:=MC h.2 hn;unfold r8;rcases hb:A2 r.n with _|_
 ·rw[hb]at hv;exact aN func128 (λ_=>[hv.at 5])
 ·rw[hb]at hv;have hz:=aXY (aEI hb h.1) hn;unfold bZ at hz;rw[<-aEH hb]at hz;by_cases h0:vZ r.n=0
  ·rw[aH h0]at hz;rw[aP (λe=>e h0)];exact aN func128 (λ_=>[hv.at 5,hz.at 9])
  ·rw[aP h0]at hz;rw[aH h0];exact aN func128 (λ_=>[hv.at 5,hz.at 9,hd.at 15])
theorem aQ6(v:V3 K):vZ (cK v)=v:=by show V3.mk (gU (de v.x)).val (gU (de v.y)).val (gU (de v.z)).val=v;rw[G6,G6,G6,pF,pF,pF]
theorem aEJ(p:HS K):r8 (c9 p)=decide (p.n≠0):=by show(A2 (cK p.n)&&(decide (vZ (cK p.n)≠0)&&nU (de p.d)))=_;rw[aEG,aQ6,Q9,kF,iJ]
theorem aEK{n:Nat}(h:bO n p):A3 n (c9 p):=⟨aEF h.1,by show dU n (gU (de p.d));rw[G6];exact h.2⟩
theorem aXq{n:Nat}(hp:bO n p)(hn:n<=aD):aF prog 128 [dK p] (.bool (decide (p.n≠0))):=by have:=Xv (aEK hp) hn;rw[aEJ]at this;exact this
theorem aEL{r:RP}(h:r8 r=true):r=c9 (pZ r)/\(pZ r).n≠0:=by unfold r8 at h;simp only[dr,tZ]at h;obtain⟨n,d⟩:=r;refine⟨?_,h.2.1⟩;show RP.mk n d=RP.mk (cK (vZ n)) (de (gU d).val);rw[<-aEH h.1,<-QX h.2.2]
theorem aQ7{r:RP}{n:Nat}(h:r8 r=true)(hs:A3 n r):bO n (pZ r):=by unfold r8 at h;simp only[dr]at h;exact⟨aEI h.1 hs.1,Rc h.2.2 hs.2⟩
def CW(r:RP)(k:Nat):Bool:=rf r.n k&&tL r.d k
theorem aEM(r:RP)(k:Nat):aF prog 107 [r.v,vI k] (.bool (CW r k)):=by
 have hx:=Xu r.n k;have hd:=Q2 r.d k;unfold CW;generalize rf r.n k=bb at *;rcases bb with _|_
 ·exact aN func107 (λ_=>[hx.at 8])
 exact aN func107 (λ_=>[hx.at 8,hd.at 13])
theorem aQ8{r:RP}{n:Nat}(h:CW r k=true)(hn:8*k<=n):A3 n r:=by unfold CW at h;simp only[dr]at h;exact⟨aQ4 h.1 hn,Rb h.2 hn⟩
theorem aX5{v:V3 K}{m n:Nat}(hp:bO m p)(hv:aI n v)(cN:4*(3*(m+n)+14+m)+50<=aD)(h:p.n≠0):aF prog 76 [dK p,bZ v] (.int .i64 (OF.aG (dot p.n v-p.d))):=by have h1:=aXq hp o_;rw[aH h]at h1;exact aN func76 (λ_=>[h1.at 6,(aXm hv o_).at 10,(aXr hp.1 hv o_).at 16,(aXK (hp.1.dot hv) hp.2 o_).at 19])
def Jt(p q r:HS K):V3 K:=smul (af q.n r.n) p.d+smul (af r.n p.n) q.d+smul (af p.n q.n) r.d
def lH(p q r:HS K):V3 K:=smul (Jt p q r) (kI 1*(aW p.n q.n r.n)⁻¹)
theorem Sz.aW{n:Nat}{u v w:V3 K}(hu:aI n u)(hv:aI n v)(hw:aI n w):Sz (15*n+41) (V3.aW u v w):=(hu.dot (hv.af hw)).mono o_
theorem aI.Jt{n:Nat}{q r:HS K}(hp:bO n p)(hq:bO n q)(hr:bO n r):aI (15*n+41) (Go.Proofs.YtmocejjfkdcgkaaGreatDoor.Jt p q r):=
 (((hq.1.af hr.1).smul hp.2).add ((hr.1.af hp.1).smul hq.2)).add ((hp.1.af hq.1).smul hr.2) |>.mono o_
theorem aI.lH{n:Nat}{q r:HS K}(hp:bO n p)(hq:bO n q)(hr:bO n r)(h:V3.aW p.n q.n r.n≠0):aI (120*n+365) (Go.Proofs.YtmocejjfkdcgkaaGreatDoor.lH p q r):=
 (aI.Jt hp hq hr).smul (Sz.div (m:=1) h (qe d_ d_) (Sz.aW hp.1 hq.1 hr.1)) |>.mono o_
theorem aQ9(n:Nat):1+7*(15*n+41)+28<=105*n+316:=by omega
theorem aRa(n:Nat):15*n+41+(105*n+316)+8<=200*n+1000:=by omega
theorem aRb{n:Nat}(h:200*n+1000<=aD):15*n+41+(105*n+316)+8<=aD:=dq (aRa n) h
theorem aRc{q r:HS K}{n:Nat}(hp:bO n p)(hq:bO n q)(hr:bO n r)(hn:200*n+1000<=aD)(pn:p.n≠0)(qn:q.n≠0)(rn:r.n≠0):
  aF prog 171 [dK p,dK q,dK r] (if aW p.n q.n r.n=0 then .tuple #[zV.v,.int .i64 11]else .tuple #[bZ (lH p q r),.int .i64 0]):=by
 have h1:=aXq hp o_;have h2:=aXq hq o_;have h3:=aXq hr o_;rw[aH pn]at h1;rw[aH qn]at h2;rw[aH rn]at h3;have dt:=aXn hp.1 hq.1 hr.1 o_;have sd:=Sz.aW hp.1 hq.1 hr.1;have sg:=aXu sd o_;have rQ:=aQ9 n;have qf:=aRb hn;by_cases h:aW p.n q.n r.n=0
 ·rw[aB h];have Xw:Value.bool (OF.aG (aW p.n q.n r.n)==0)=.bool true:=yO ((OF.fF _).2 h);exact fW mixed func171 200 (λ_=>[h1.at 13,h2.at 17,h3.at 22,dt.at 32,sg.at 34,.rw 35 _ b_ Xw]) (λ_=>k_) k_ k_
 ·rw[av h];have Xw:Value.bool (OF.aG (aW p.n q.n r.n)==0)=.bool false:=qj (λe=>h ((OF.fF _).1 e));have c1:=aXU hq.1 hr.1 o_;have c2:=aXU hr.1 hp.1 o_;have c3:=aXU hp.1 hq.1 o_;have s1:=aYc (hq.1.af hr.1) hp.2 o_;have s2:=aYc (hr.1.af hp.1) hq.2 o_;have s3:=aYc (hp.1.af hq.1) hr.2 o_;have a1:=aXF ((hq.1.af hr.1).smul hp.2) ((hr.1.af hp.1).smul hq.2) o_;have zA:aI (10*n+27) (smul (af q.n r.n) p.d+smul (af r.n p.n) q.d):=aI.mono o_ (((hq.1.af hr.1).smul hp.2).add ((hr.1.af hp.1).smul hq.2));have zB:aI (5*n+13) (smul (af p.n q.n) r.d):=aI.mono o_ ((hp.1.af hq.1).smul hr.2);have a2:=aXF zA zB o_;have o1:=aXp (z:=1) d_;have so:Sz 1 (kI 1):=qe d_ d_;have dv:=aXB h so sd o_;have sq:Sz (105*n+316) (kI 1*(aW p.n q.n r.n)⁻¹):=Sz.mono rQ (Sz.div h so sd);have fs:=aYc (aI.Jt hp hq hr) sq qf;exact fW mixed func171 200 (λ_=>[h1.at 13,h2.at 17,h3.at 22,dt.at 32,sg.at 34,.rw 35 _ a_ Xw,c1.at 41,s1.at 44,c2.at 50,s2.at 53,a1.at 54,c3.at 60,s3.at 63,a2.at 64,o1.at 66,dv.at 68,fs.at 73]) (λ_=>k_) k_ k_
theorem aXz{n:Nat}(hp:bO n p)(hn:16*n+100<=aD)(aQ:p.n≠0):aF prog 201 [dK p] (.tuple #[dK (canon p),.int .i64 0]):=by
 have hv:=aXq hp o_;rw[aH aQ]at hv;have sx:=aXu hp.1.1 o_;have sy:=aXu hp.1.2.1 o_;have o1:=aXp (z:=1) d_;have so:Sz 1 (kI 1):=qe d_ d_;have fin:∀ x:K,x≠0->Sz n x->aF prog 223 [bI x] (bI (iZ x))/\aF prog 64 [bI (kI 1),bI (iZ x)] (.tuple #[bI (nj x),.int .i64 0])/\
   aF prog 63 [bZ p.n,bI (nj x)] (bZ (smul p.n (nj x)))/\aF prog 66 [bI p.d,bI (nj x)] (bI (p.d*nj x)):=λx hx hs=>
  ⟨aXN hs o_,aXB (Qa hx) so hs.iZ o_,aYc hp.1 (hs.nj hx) o_,aX8 hp.2 (hs.nj hx) o_⟩
 have hc:canon p=Ef p (qR p.n):=rfl;unfold qR at hc;by_cases hx:p.n.x=0
 ·have ex:Value.bool (OF.aG p.n.x==0)=.bool true:=yO ((OF.fF _).2 hx);rw[av (λe=>e hx)]at hc;by_cases hy:p.n.y=0
  ·have ey:Value.bool (OF.aG p.n.y==0)=.bool true:=yO ((OF.fF _).2 hy);rw[av (λe=>e hy)]at hc;have hz:p.n.z≠0:=λhz=>aQ (V3.ext hx hy hz);obtain⟨f1,f2,f3,f4⟩:=fin p.n.z hz hp.1.2.2;rw[hc];exact fW mixed func201 200 (λ_=>[hv.at 8,sx.at 15,.rw 16 _ b_ ex,sy.at 21,.rw 22 _ b_ ey,o1.at 27,f1.at 29,f2.at 30,f3.at 36,f4.at 40]) (λ_=>k_) k_ k_
  ·have ey:Value.bool (OF.aG p.n.y==0)=.bool false:=qj (λe=>hy ((OF.fF _).1 e));rw[aB hy]at hc;obtain⟨f1,f2,f3,f4⟩:=fin p.n.y hy hp.1.2.1;rw[hc];exact fW mixed func201 200 (λ_=>[hv.at 8,sx.at 15,.rw 16 _ b_ ex,sy.at 21,.rw 22 _ a_ ey,o1.at 27,f1.at 29,f2.at 30,f3.at 36,f4.at 40]) (λ_=>k_) k_ k_
 ·have ex:Value.bool (OF.aG p.n.x==0)=.bool false:=qj (λe=>hx ((OF.fF _).1 e));rw[aB hx]at hc;obtain⟨f1,f2,f3,f4⟩:=fin p.n.x hx hp.1.1;rw[hc];exact fW mixed func201 200 (λ_=>[hv.at 8,sx.at 15,.rw 16 _ a_ ex,sx.at 21,.rw 22 _ a_ ex,o1.at 27,f1.at 29,f2.at 30,f3.at 36,f4.at 40]) (λ_=>k_) k_ k_
theorem aXc{q:HS K}{m n:Nat}(hp:bO m p)(hq:bO n q)(hm:16*m+100<=aD)(hn:16*n+100<=aD)(jO:p.n≠0)(Ay:q.n≠0):aF prog 173 [dK p,dK q] (.bool (decide (canon p=canon q))):=
 aN func173 (λ_=>[(aXz hp hm jO).at 11,(aXz hq hn Ay).at 16,.step 28 (aw f173 28) _ _ _ _ (UP (neg:=true) k_ (c9 (canon p)) (c9 (canon q)) ((hp.canon jO).sm o_) ((hq.canon Ay).sm o_) (b:=decide (canon p=canon q)) (by rw[aB rfl,CE];exact⟨λh=>by rw[h],λh=>P9 h⟩))])
theorem aEN{g o a b:V3 K}{n:Nat}(hg:aI n g)(ho:aI n o)(ha:aI n a)(hb:aI n b)(hn:200*n+400<=aD):aF prog 203 [bZ g,bZ o,bZ a,bZ b] (.int .i64 (OF.aG (aW g (a-o) (b-o)))):=
 aN func203 (λ_=>[(aX0 ha ho o_).at 12,(aX0 hb ho o_).at 15,(aXn hg (ha.sub ho) (hb.sub ho) o_).at 16,(aXu (hg.dot ((ha.sub ho).af (hb.sub ho))) o_).at 17])
end
section
variable{Bs:aa}{a b:List RV}
def EN(n i:Nat):aX:=[(5,vI i),(0,sl 0 n),(1,sl 1 n)]
def xh(a b:List RV):aL:=[(0,.view (cV a)),(1,.view (cV b))]
noncomputable def svS{n:Nat}{x y:RV}(hi:i<n)(hx:a[i]?=some x)(hy:b[i]?=some y)(oE:x.Sm)(yA:y.Sm)(ht:(!t)=true↔x=y)(more:bM prog Bs 26):bM prog Bs 26:=
 .lt 14 i n true (aH hi)::.dj f138 19 0 n i 30 hi k_::.ld f138 20 44 0 (i*30) (.view (cV a)) x.v rfl (tB hx) k_::.dj f138 23 1 n i 30 hi k_::.ld f138 24 44 1 (i*30) (.view (cV b)) y.v rfl (tB hy) k_::
  .step 25 (aw f138 25) [x.v,y.v] [] (.bool t) [] (F8 (neg:=false) k_ x y oE yA ht)::more
theorem aEO{n:Nat}{x:RV}(hi:i<n)(hx:a[i]?=some x)(hy:b[i]?=some x)(oE:x.Sm)(h63:n<9223372036854775807):
  ai prog Bs 26 (aJ (ah f138 0)) (EN n i) (xh a b) 2 ⟨.normal,EN n (i+1),xh a b,2⟩:=
 aE (svS (t:=false) hi hx hy oE oE s_ [.sum 16 i 1 (i+1) rfl o_])
theorem aRd{n:Nat}{x y:RV}(hi:i<n)(hx:a[i]?=some x)(hy:b[i]?=some y)(oE:x.Sm)(yA:y.Sm)(aQ:x≠y):
  ai prog Bs 26 (aJ (ah f138 0)) (EN n i) (xh a b) 2 ⟨.ret,[(4,.bool false)],xh a b,2⟩:=
 aE (svS (t:=true) hi hx hy oE yA (by simp[aQ]) [])
theorem aRe{n:Nat}:ai prog Bs 26 (aJ (ah f138 0)) (EN n n) (xh a b) 2 ⟨.exit 0,[],xh a b,2⟩:=
 aE [.lt 14 n n false s_]
theorem aRf(ha:∀ x∈a,x.Sm)(hb:∀ x∈b,x.Sm)(h63:a.length<9223372036854775807):cE prog 138 [.r a.length (cV a),.r b.length (cV b)] (.bool (decide (a=b))):=by
 have aC:([aR.r a.length (cV a),.r b.length (cV b)].all aR.ok)=true:=by simp only[dL,eX,aR.ok,iT gL,iJ]
 by_cases hl:a.length=b.length
 ·rcases Ek a b hl with h|⟨e,x,y,h1,h2,h3,h4⟩
  ·rw[aH h];subst h;have lo:∀ B:aa,ai prog B 26 (.block 0 (ah f138 0)) (EN a.length 0) (xh a a) 2 ⟨.normal,[],xh a a,2⟩:=λB=>
    cd (id:=0) (cA a.length (λi=>EN a.length i) (λ_=>xh a a) (λi k _=>Iff.rfl) (λi hi=>by have hx:a[i]?=some a[i]:=bo hi;exact aEO hi hx hx (ha _ (dB hi)) h63) aRe n_)
   exact dV func138 aC 26 (λw=>[.rw 10 _ a_ (uK (x:=a.length) (y:=a.length) s_),.code 0 _ _ _ _ _ (lo _)])
  ·have ch:a≠b:=λh=>by subst h;rw[h1]at h2;injection h2 with h2;exact h3 h2
   rw[aP ch];have al:=(eA.1 h1).1;have lo:∀ B:aa,ai prog B 26 (.block 0 (ah f138 0)) (EN a.length 0) (xh a b) 2 ⟨.ret,[(4,.bool false)],xh a b,2⟩:=λB=>
    cd (id:=0) (cA e (λi=>EN a.length i) (λ_=>xh a b) (λi k _=>Iff.rfl) (λi hi=>by have hx:a[i]?=some a[i]:=bo o_;have hy:b[i]?=some b[i]:=bo o_;have:=h4 i _ _ hi hx hy;rw[<-this]at hy;exact aEO o_ hx hy (ha _ (dB _)) h63) (aRd al h1 h2 (ha _ (cL h1)) (hb _ (cL h2)) h3) n_)
   have Cu:([aR.r a.length (cV a),.r a.length (cV b)].all aR.ok)=true:=by simp only[dL,eX,aR.ok,iT gL,iJ]
   rw[<-hl];exact dV func138 Cu 26 (λw=>[.rw 10 _ a_ (uK (x:=a.length) (y:=a.length) s_),.code 0 _ _ _ _ _ (lo _)])
 ·have ch:a≠b:=λh=>hl (by rw[h]);rw[aP ch];exact dV func138 aC 26 (λw=>[.rw 10 _ b_ (uK (x:=a.length) (y:=b.length) (aH hl))])
end
section
variable{Bs:aa}{a b:List Int}
def EO(n i:Nat):aX:=[(5,vI i),(0,sl 0 n),(1,sl 1 n)]
def xi(a b:List Int):aL:=[(0,.view (eK a)),(1,.view (eK b))]
theorem neZ{x y:Int}(h:decide (x≠y)=t):Value.bool (x !=y)=.bool t:=by
 rw[<-h];congr 1
 by_cases e:x=y
 ·subst e;simp
 ·rw[aH e,vt];exact e
noncomputable def siS{n:Nat}{x y:Int}(hi:i<n)(hx:a[i]?=some x)(hy:b[i]?=some y)(ht:decide (x≠y)=t)(more:bM prog Bs 26):bM prog Bs 26:=
 .lt 14 i n true (aH hi)::.ix f139 19 0 n i hi k_::.ld f139 20 3 0 i (.view (eK a)) (iV x) rfl (QB hx) k_::.ix f139 23 1 n i hi k_::.ld f139 24 3 1 i (.view (eK b)) (iV y) rfl (QB hy) k_::.rw 25 _ (.bool t) (neZ ht)::more
theorem aEP{n:Nat}{x:Int}(hi:i<n)(hx:a[i]?=some x)(hy:b[i]?=some x)(h63:n<9223372036854775807):
  ai prog Bs 26 (aJ (ah f139 0)) (EO n i) (xi a b) 2 ⟨.normal,EO n (i+1),xi a b,2⟩:=
 aE (siS (t:=false) hi hx hy s_ [.sum 16 i 1 (i+1) rfl o_])
theorem aRg{n:Nat}{x y:Int}(hi:i<n)(hx:a[i]?=some x)(hy:b[i]?=some y)(aQ:x≠y):
  ai prog Bs 26 (aJ (ah f139 0)) (EO n i) (xi a b) 2 ⟨.ret,[(4,.bool false)],xi a b,2⟩:=
 aE (siS (t:=true) hi hx hy (aH aQ) [])
theorem aRh{n:Nat}:ai prog Bs 26 (aJ (ah f139 0)) (EO n n) (xi a b) 2 ⟨.exit 0,[],xi a b,2⟩:=
 aE [.lt 14 n n false s_]
theorem aEQ(l:List Int):(eK l).all flat=true:=bB.2 λu hu=>by obtain⟨x,_,rfl⟩:=db.1 hu;rfl
theorem aRi(h63:a.length<9223372036854775807):cE prog 139 [.r a.length (eK a),.r b.length (eK b)] (.bool (decide (a=b))):=by
 have aC:([aR.r a.length (eK a),.r b.length (eK b)].all aR.ok)=true:=by simp only[dL,eX,aR.ok,aEQ,iJ]
 by_cases hl:a.length=b.length
 ·rcases Ek a b hl with h|⟨e,x,y,h1,h2,h3,h4⟩
  ·rw[aH h];subst h;have lo:∀ B:aa,ai prog B 26 (.block 0 (ah f139 0)) (EO a.length 0) (xi a a) 2 ⟨.normal,[],xi a a,2⟩:=λB=>
    cd (id:=0) (cA a.length (λi=>EO a.length i) (λ_=>xi a a) (λi k _=>Iff.rfl) (λi hi=>by have hx:a[i]?=some a[i]:=bo hi;exact aEP hi hx hx h63) aRh n_)
   exact dV func139 aC 26 (λw=>[.rw 10 _ a_ (uK (x:=a.length) (y:=a.length) s_),.code 0 _ _ _ _ _ (lo _)])
  ·have ch:a≠b:=λh=>by subst h;rw[h1]at h2;injection h2 with h2;exact h3 h2
   rw[aP ch];have al:=(eA.1 h1).1;have lo:∀ B:aa,ai prog B 26 (.block 0 (ah f139 0)) (EO a.length 0) (xi a b) 2 ⟨.ret,[(4,.bool false)],xi a b,2⟩:=λB=>
    cd (id:=0) (cA e (λi=>EO a.length i) (λ_=>xi a b) (λi k _=>Iff.rfl) (λi hi=>by have hx:a[i]?=some a[i]:=bo o_;have hy:b[i]?=some b[i]:=bo o_;have:=h4 i _ _ hi hx hy;rw[<-this]at hy;exact aEP o_ hx hy h63) (aRg al h1 h2 h3) n_)
   have Cu:([aR.r a.length (eK a),.r a.length (eK b)].all aR.ok)=true:=by simp only[dL,eX,aR.ok,aEQ,iJ]
   rw[<-hl];exact dV func139 Cu 26 (λw=>[.rw 10 _ a_ (uK (x:=a.length) (y:=a.length) s_),.code 0 _ _ _ _ _ (lo _)])
 ·have ch:a≠b:=λh=>hl (by rw[h]);rw[aP ch];exact dV func139 aC 26 (λw=>[.rw 10 _ b_ (uK (x:=a.length) (y:=b.length) (aH hl))])
end
section
variable{α:Type}[DecidableEq α]
def dd:List α->List α
 |a::b::l=>if a=b then dd (b::l)else a::dd (b::l)
 |l=>l
theorem MH(a b:α)(l:List α):dd (a::b::l)=if a=b then dd (b::l)else a::dd (b::l):=rfl
theorem aER:∀(l:List α) (a b:α),dd (l++[a,b])=if a=b then dd (l++[a])else dd (l++[a])++[b]
 |[],a,b=>by
  show(if a=b then[b]else[a,b])=if a=b then[a]else[a]++[b]
  split
  ·rename_i h;rw[h]
  ·rfl
 |[c],a,b=>by
  show(if c=a then(if a=b then[b]else[a,b])else c::(if a=b then[b]else[a,b]))=if a=b then(if c=a then[a]else[c,a])else(if c=a then[a]else[c,a])++[b]
  by_cases h:a=b<;>by_cases k:c=a<;>simp[h,k]
 |c::d::l,a,b=>by
  show(if c=d then dd (d::(l++[a,b]))else c::dd (d::(l++[a,b])))=if a=b then(if c=d then dd (d::(l++[a]))else c::dd (d::(l++[a])))else(if c=d then dd (d::(l++[a]))else c::dd (d::(l++[a])))++[b]
  have ih:=aER (d::l) a b;rw[BX,BX]at ih;rw[ih];by_cases h:a=b<;>by_cases k:c=d<;>simp[h,k]
theorem Re{l:List α}{x y:α}(hj:l[j]?=some y)(hx:l[j+1]?=some x):dd (l.take (j+2))=if y=x then dd (l.take (j+1))else dd (l.take (j+1))++[x]:=by
 have e1:l.take (j+1)=l.take j++[y]:=by rw[vS,hj];rfl
 have e2:l.take (j+2)=l.take j++[y,x]:=by rw[vS,hx,e1,Fo];rfl
 rw[e1,e2,aER]
theorem aES{x:α}:∀{l:List α},x∈dd l↔x∈l
 |[]=>Iff.rfl
 |[a]=>Iff.rfl
 |a::b::l=>by
  rw[MH];have ih:=aES (x:=x) (l:=b::l);split
  ·rename_i h;subst h;rw[ih];simp
  ·rw[cC,ih];simp
def kx(l:List α)(j:Nat):List α:=dd (l.take j)++l.drop (dd (l.take j)).length
def js(l:List α)(j:Nat):Nat:=(dd (l.take j)).length
theorem Rf(l:List α):∀ j,js l j<=j/\js l j<=l.length
 |0=>by simp[js,dd]
 |1=>by
  cases l with
  |nil=>simp[js,dd]
  |cons a l=>simp[js,dd]
 |j+2=>by
  have ih:=Rf l (j+1);rcases e7 (j+1) l.length with h|h
  ·have hy:l[j]?=some l[j]:=bo o_;have hx:l[j+1]?=some l[j+1]:=bo h;have:=Re hy hx;unfold js at ih ⊢;rw[this];split
   ·omega
   ·rw[lh,Qf];omega
  ·have:l.take (j+2)=l.take (j+1):=by rw[kT h,kT o_]
   unfold js at ih ⊢;rw[this];omega
theorem aET(l:List α)(j:Nat):(kx l j).length=l.length:=by have:=(Rf l j).2;unfold js at this;unfold kx;rw[lh,wy];omega
theorem aEU{l:List α}(h:js l j<=i):(kx l j)[i]?=l[i]?:=by
 unfold js at h;unfold kx;rw[Fg h,E5]
 congr 1;omega
theorem Rg{l:List α}{x:α}(hj:l[j]?=some x)(hx:l[j+1]?=some x):kx l (j+2)=kx l (j+1)/\js l (j+2)=js l (j+1):=by unfold kx js;rw[Re hj hx,aB rfl];exact⟨rfl,rfl⟩
theorem aEV{l:List α}{x y:α}(hj:l[j]?=some y)(hx:l[j+1]?=some x)(aQ:y≠x)(hd:js l (j+1)<l.length):(kx l (j+1)).set (js l (j+1)) x=kx l (j+2)/\js l (j+2)=js l (j+1)+1:=by
 unfold kx js at *;rw[Re hj hx,av aQ];refine⟨?_,by rw[lh];rfl⟩;rw[V0 _ _ (bC _),wI,lh,Qf,Fo]
 congr 1
 rw[Qd hd];rfl
theorem Xx{l:List α}:∀(j:Nat),(∀ i x,i+1<j->l[i]?=some x->l[i+1]?≠some x)->j<=l.length->dd (l.take j)=l.take j
 |0,_,_=>rfl
 |1,_,_=>by
  cases l with
  |nil=>rfl
  |cons a l=>rfl
 |j+2,h,hl=>by
  have ih:=Xx (j+1) (λi x hi=>h i x o_) o_;have hy:l[j]?=some l[j]:=bo o_;have hx:l[j+1]?=some l[j+1]:=bo o_;rw[Re hy hx,av (λe=>h j _ o_ hy (by rw[hx,e])),ih];have e:l.take (j+2)=l.take (j+1)++[l[j+1]]:=by rw[vS,hx];rfl
  exact e.symm
theorem aEW(l:List α):∀ n,n<=l.length->(∀ i x,i+1<n->l[i]?=some x->l[i+1]?≠some x)\/∃ e x,e+1<n/\l[e]?=some x/\l[e+1]?=some x/\∀ i x,i+1<e+1->l[i]?=some x->l[i+1]?≠some x
 |0,_=>.inl λi x h=>by omega
 |1,_=>.inl λi x h=>by omega
 |n+2,hn=>by
  rcases aEW l (n+1) o_ with h|⟨e,x,h1,h2,h3,h4⟩
  ·have hy:l[n]?=some l[n]:=bo o_;have hx:l[n+1]?=some l[n+1]:=bo o_;by_cases he:l[n]=l[n+1]
   ·exact .inr ⟨n,l[n],by omega,hy,by rw[hx,he],h⟩
   ·refine .inl λi x hi Bw=>?_;rcases e7 (i+1) (n+1)with h1|h1
    ·exact h i x h1 Bw
    ·have:i=n:=by omega
     subst this;rw[hy]at Bw;injection Bw with Bw;rw[hx,<-Bw];intro e;injection e with e;exact he e.symm
  ·exact .inr ⟨e,x,by omega,h2,h3,h4⟩
theorem aEX{β:Type}[DecidableEq β]{f:α->β}(hf:∀ a b,f a=f b->a=b):∀ l:List α,dd (l.map f)=(dd l).map f
 |[]=>rfl
 |[a]=>rfl
 |a::b::l=>by
  have ih:=aEX hf (b::l);rw[nE,nE,MH,MH];rw[nE]at ih;by_cases h:a=b
  ·subst h;rw[aB rfl,aB rfl,ih]
  ·rw[av h,av (λe=>h (hf _ _ e)),ih];rfl
end
section
variable{Bs:aa}{l:List RV}
def MI:RI:=⟨false,[]⟩
def wb:RN:=⟨MI,MI,MI,MI,MI⟩
def tO:RV:=⟨wb,wb,wb⟩
def G7(n i:Nat):aX:=[(3,vI i),(0,sl 1 n)]
def l4(l:List RV):aL:=[(1,.row (cV l) 44 30)]
def aRj(k a n:Nat):Value:=.slice (some ⟨k,a*30,some 7⟩) n a
def MJ(n e d k:Nat):aX:=[(5,vI k),(4,aRj 1 e (n-e)),(3,vI d),(0,sl 1 n)]
theorem stV{l:List RV}{y:RV}(hi:i<l.length):fo prog 44 (cV l) (i*30) y.v=some (cV (l.set i y)):=aMT gL k_ hi
theorem aEY{n:Nat}{x y:RV}(hi:i+1<n)(h63:n<4611686018427387904)(hy:l[i]?=some y)(hx:l[i+1]?=some x)(yA:y.Sm)(oE:x.Sm)(aQ:x≠y):
  ai prog Bs 61 (aJ (ah f187 0)) (G7 n (i+1)) (l4 l) 2 ⟨.normal,G7 n (i+1+1),l4 l,2⟩:=
 aE [.lt 13 (i+1) n true (aH hi),.dj f187 18 1 n (i+1) 30 hi k_,.ld f187 19 44 1 ((i+1)*30) (.row (cV l) 44 30) x.v rfl (tB hx) k_,.fp 22 (i+1) 1 i rfl o_,.dj f187 23 1 n i 30 o_ k_,.ld f187 24 44 1 (i*30) (.row (cV l) 44 30) y.v rfl (tB hy) k_,.step 25 (aw f187 25) [x.v,y.v] [] a_ [] (F8 (neg:=true) k_ x y oE yA (by simp[aQ])),.sum 15 (i+1) 1 (i+1+1) rfl o_]
theorem aRk{n:Nat}:ai prog Bs 61 (aJ (ah f187 0)) (G7 n n) (l4 l) 2 ⟨.exit 0,[(0,sl 1 n)],l4 l,2⟩:=
 aE [.lt 13 n n false s_]
noncomputable def aEZ{n:Nat}{r:List RV}{x y:RV}(hk:k+1<n-e)(hj:e+k=j)(h63:n<4611686018427387904)(hy:r[j]?=some y)(hx:r[j+1]?=some x)(yA:y.Sm)(oE:x.Sm)(ht:(!t)=true↔x=y)(more:bM prog Bs 61):bM prog Bs 61:=
 .lt 32 (k+1) (n-e) true (aH hk)::.qh f187 37 1 e (n-e) e (k+1) (j+1) 30 hk o_ k_::.ld f187 38 44 1 ((j+1)*30) (.row (cV r) 44 30) x.v rfl (tB hx) k_::.fp 41 (k+1) 1 k rfl o_::
  .qh f187 42 1 e (n-e) e k j 30 o_ hj k_::.ld f187 43 44 1 (j*30) (.row (cV r) 44 30) y.v rfl (tB hy) k_::.step 44 (aw f187 44) [x.v,y.v] [] (.bool t) [] (F8 (neg:=false) k_ x y oE yA ht)::more
theorem aRl{n:Nat}(hl:l.length=n)(hk:e+1+k+1<n)(h63:n<4611686018427387904)(qW:∀ x∈l,x.Sm)(hd:d=js l (e+1+k+1))(hde:d<=e+1+k):
  ai prog Bs 61 (aJ (ah f187 2)) (MJ n (e+1) d (k+1)) (l4 (kx l (e+1+k+1))) 2 ⟨.normal,MJ n (e+1) (js l (e+1+k+2)) (k+1+1),l4 (kx l (e+1+k+2)),2⟩:=by
 have hy:l[e+1+k]?=some l[e+1+k]:=bo o_;have hx:l[e+1+k+1]?=some l[e+1+k+1]:=bo o_;have Pk:(kx l (e+1+k+1))[e+1+k]?=some l[e+1+k]:=by rw[aEU o_];exact hy
 have sZ:(kx l (e+1+k+1))[e+1+k+1]?=some l[e+1+k+1]:=by rw[aEU o_];exact hx
 have sy:=qW _ (cL hy);have sx:=qW _ (cL hx);by_cases h:l[e+1+k]=l[e+1+k+1]
 ·obtain⟨q1,q2⟩:=Rg hy (by rw[hx,h]);rw[q1,q2,<-hd];exact aE (aEZ (t:=false) o_ rfl h63 Pk sZ sy sx (by simp[h]) [.sum 34 (k+1) 1 (k+1+1) rfl o_])
 ·have al:js l (e+1+k+1)<l.length:=by omega
  obtain⟨q1,q2⟩:=aEV hy hx h al;rw[<-hd]at q1 q2 al;have bP:=stV (l:=kx l (e+1+k+1)) (i:=d) (y:=l[e+1+k+1]) (by rw[aET];exact al);rw[q1]at bP;rw[q2];generalize l[e+1+k+1]=x at *;generalize l[e+1+k]=y at *;generalize kx l (e+1+k+1)=r at *;generalize kx l (e+1+k+2)=r' at *;exact aE (aEZ (t:=true) o_ rfl h63 Pk sZ sy sx (by simp;exact λe=>h e.symm) [.qh f187 49 1 (e+1) (n-(e+1)) (e+1) (k+1) (e+1+k+1) 30 o_ o_ k_,.ld f187 50 44 1 ((e+1+k+1)*30) (.row (cV r) 44 30) x.v rfl (tB sZ) k_,.dj f187 51 1 n d 30 o_ k_,.st f187 100051 44 1 (d*30) (.row (cV r) 44 30) x.v (.row (cV r') 44 30) rfl bP rfl k_,.sum 53 d 1 (d+1) rfl o_,.sum 34 (k+1) 1 (k+1+1) rfl o_])
theorem aRm{n:Nat}{r:List RV}(he:e<=n):ai prog Bs 61 (aJ (ah f187 2)) (MJ n e d (n-e)) (l4 r) 2 ⟨.exit 2,[(3,vI d),(0,sl 1 n)],l4 r,2⟩:=
 aE [.lt 32 (n-e) (n-e) false s_]
theorem aRn{n:Nat}{x:RV}(hl:l.length=n)(he:e+1<n)(h63:n<4611686018427387904)(qW:∀ x∈l,x.Sm)(hy:l[e]?=some x)(hx:l[e+1]?=some x)(fX:dd (l.take (e+1))=l.take (e+1)):
  ai prog Bs 61 (.block 2 (ah f187 2)) (MJ n (e+1) (e+1) 1) (l4 l) 2 ⟨.normal,[(3,vI (dd l).length),(0,sl 1 n)],l4 (kx l n),2⟩/\(dd l).length<n:=by
 have h0:js l (e+1)=e+1:=by unfold js;rw[fX,jH];omega
 have h1:js l (e+2)=e+1:=by rw[(Rg hy hx).2,h0]
 have gP:kx l (e+2)=l:=by rw[(Rg hy hx).1];unfold kx;rw[fX];rw[jH,oP o_,Ml]
 have wD:∀ k,e+1+k+1<n->js l (e+1+k+2)<=js l (e+1+k+1)+1:=λk hk=>by
  have a:l[e+1+k]?=some l[e+1+k]:=bo o_;have b:l[e+1+k+1]?=some l[e+1+k+1]:=bo o_;by_cases h:l[e+1+k]=l[e+1+k+1]
  ·have:=(Rg a (by rw[b,h])).2;omega
  ·have:=(aEV a b h (by have:=(Rf l (e+1+k+1)).1;omega)).2;omega
 have Fk:∀ k,e+1+k<n->js l (e+1+k+1)<=e+1+k:=by
  intro k;induction k with
  |zero=>intro _;show js l (e+2)<=_;omega
  |succ k ih=>
   intro hk;have a:=ih o_;have b:=wD k o_;show js l (e+1+k+2)<=_;omega
 have bh:js l n=(dd l).length:=by unfold js;rw[kT o_]
 refine⟨?_,?_⟩
 ·have:=cA (P:=prog) (B:=Bs) (N:=61) (b:=aJ (ah f187 2)) (next:=2) (n-(e+1)-1) (λk=>MJ n (e+1) (js l (e+1+k+1)) (k+1)) (λk=>l4 (kx l (e+1+k+1)))
   (r:=⟨.exit 2,[(3,vI (dd l).length),(0,sl 1 n)],l4 (kx l n),2⟩) (λi k _=>km (l:=l4 (kx l (e+1+i+1))) (m:=l4 (kx l (e+1+0+1))) rfl k)
   (λk hk=>aRl hl o_ h63 qW rfl (Fk k o_))
   (by
    have e1:e+1+(n-(e+1)-1)+1=n:=by omega
    have e2:n-(e+1)-1+1=n-(e+1):=by omega
    simp only[e1,e2,bh];exact aRm o_) n_
  have h2:=cd (id:=2) this;simp only[kA,jf,h1,gP]at h2;exact h2
 ·have:=Fk (n-(e+1)-1) o_;rw[show e+1+(n-(e+1)-1)+1=n by omega,bh]at this;omega
def Ju(l:List RV):List RV:=dd l++List.replicate (l.length-(dd l).length) tO
theorem aE0{l:List RV}(h:dd l=l):Ju l=l:=by unfold Ju;rw[h];simp
theorem aRo(qW:∀ x∈l,x.Sm)(h63:l.length<4611686018427387904):yx prog 187 2 [sl 1 l.length] (l4 l) [] (sl 1 (dd l).length) (l4 (Ju l)):=by
 by_cases h2:l.length<2
 ·have hd:dd l=l:=by
   cases l with
   |nil=>rfl
   |cons a l=>cases l with
    |nil=>rfl
    |cons b l=>simp at h2;omega
  rw[aE0 hd,hd];exact o6 mixed func187 100 (N:=61) k_ (λ_=>[.lt 8 l.length 2 true (aH h2)]) (λ_=>k_)
 ·have al:(Value.bool (decide ((l.length:Int)<(2:Int))))=.bool false:=by simp;omega
  rcases aEW l l.length (bC _)with h|⟨e,x,h3,h4,h5,h6⟩
  ·have hd:dd l=l:=by have:=Xx l.length h (bC _);rwa[o5]at this
   rw[aE0 hd,hd];generalize hn:l.length=n at *;have lo:∀ B:aa,ai prog B 61 (.block 0 (ah f187 0)) (G7 n 1) (l4 l) 2 ⟨.normal,[(0,sl 1 n)],l4 l,2⟩:=λB=>by
    have:=cA (P:=prog) (B:=B) (N:=61) (b:=aJ (ah f187 0)) (next:=2) (n-1) (λi=>G7 n (i+1)) (λ_=>l4 l) (r:=⟨.exit 0,[(0,sl 1 n)],l4 l,2⟩) (λi k _=>Iff.rfl)
     (λi hi=>by have hy:l[i]?=some l[i]:=bo o_;have hx:l[i+1]?=some l[i+1]:=bo o_;exact aEY o_ h63 hy hx (qW _ (cL hy)) (qW _ (cL hx)) λe=>h i _ o_ hy (by rw[hx,e]))
     (by rw[show n-1+1=n by omega];exact aRk) n_
    exact cd (id:=0) this
   exact o6 mixed func187 100 (N:=61) k_ (λB=>[.rw 8 _ _ al,.code 0 _ _ _ _ _ (lo B)]) (λ_=>k_)
  ·have fX:dd (l.take (e+1))=l.take (e+1):=Xx (e+1) h6 o_;have sx:=qW _ (cL h4);generalize hn:l.length=n at *;have hz:dy RV.cs (List.replicate (n-(dd l).length) tO)=(Builtin.zeroCells (tO.v).cells (n-(dd l).length)).toList:=(aNW gL rfl d_ _).symm;unfold Ju;rw[hn];have cz:=λB=>aRn (Bs:=B) hn h3 h63 qW h4 h5 fX;have OQ:=(cz (aa.at default)).2;have Gt:kx l n=dd l++l.drop (dd l).length:=by unfold kx;rw[kT o_]
   have aRp:je (cV (kx l n)) ((dd l).length*30) (Builtin.zeroCells (tO.v).cells (n-(dd l).length)).toList=cV (dd l++List.replicate (n-(dd l).length) tO):=by rw[<-hz,Gt];show je (dy RV.cs (dd l++l.drop (dd l).length)) _ _=dy RV.cs _;rw[L5,L5];have:=Qe (dy RV.cs (List.replicate (n-(dd l).length) tO)) (dy RV.cs (dd l)) (dy RV.cs (l.drop (dd l).length)) 0;rw[uC gL,jf]at this;rw[this];have h2:=V1 (dy RV.cs (List.replicate (n-(dd l).length) tO)) (dy RV.cs (l.drop (dd l).length)) [] (by rw[uC gL,uC gL,wy,Jg,hn]);rw[jL,jL]at h2;rw[h2]
   have hlen:(dd l).length*30+(n-(dd l).length)*(tO.v).cells.size<=(cV (kx l n)).length:=by rw[uC gL,aET,hn,show(tO.v).cells.size=30 from rfl,<-fQ];exact eV _ o_
   generalize kx l n=r at *;generalize (dd l++List.replicate (n-(dd l).length) tO)=r' at *;generalize (dd l).length=d at *;have lo:∀ B:aa,ai prog B 61 (.block 0 (ah f187 0)) (G7 n 1) (l4 l) 2 ⟨.ret,[(2,sl 1 d)],l4 r',2⟩:=λB=>by
    have:=cA (P:=prog) (B:=B) (N:=61) (b:=aJ (ah f187 0)) (next:=2) e (λi=>G7 n (i+1)) (λ_=>l4 l) (r:=⟨.ret,[(2,sl 1 d)],l4 r',2⟩) (λi k _=>Iff.rfl)
     (λi hi=>by have hy:l[i]?=some l[i]:=bo o_;have hx:l[i+1]?=some l[i+1]:=bo o_;exact aEY o_ h63 hy hx (qW _ (cL hy)) (qW _ (cL hx)) λe=>h6 i _ o_ hy (by rw[hx,e]))
     (aE [.lt 13 (e+1) n true (aH h3),.dj f187 18 1 n (e+1) 30 h3 k_,.ld f187 19 44 1 ((e+1)*30) (.row (cV l) 44 30) x.v rfl (tB h5) k_,.fp 22 (e+1) 1 e rfl o_,.dj f187 23 1 n e 30 o_ k_,.ld f187 24 44 1 (e*30) (.row (cV l) 44 30) x.v rfl (tB h4) k_,.step 25 (aw f187 25) [x.v,x.v] [] b_ [] (F8 (neg:=true) k_ x x sx sx s_),.behind f187 28 1 n (e+1) (n-(e+1)) 30 o_ o_ k_,.code 2 _ _ _ _ _ (cz B).1,.behind f187 56 1 n d (n-d) 30 o_ o_ k_,.clear f187 99999 1 (d*30) (n-d) d 44 30 tO.v (cV r) (cV r') d_ o_ hlen aRp k_,.upto f187 59 1 n d 30 o_ k_]) n_
    exact cd (id:=0) this
   exact o6 mixed func187 100 (N:=61) k_ (λB=>[.rw 8 _ _ al,.code 0 _ _ _ _ _ (lo B)]) (λ_=>k_)
end
section
open Go.Shelf
def aE1:Go.Shelf.Ren:=⟨λ| 6=>185|15=>212|14=>211|28=>233|29=>234|20=>225|21=>226|22=>227|23=>228|24=>229|25=>230|26=>231|27=>232|46=>243|47=>244|48=>245|49=>246|50=>247|57=>252|n=>n,λ| 22=>23|24=>44|25=>174|3=>3|39=>113|0=>0|53=>181|55=>121|4=>4|46=>212|45=>211|50=>114|5=>5|9=>9|66=>228|70=>232|76=>240|77=>241|n=>n,λ| n=>n⟩
theorem aRq:Go.Proofs.SlLaysF0.n6 prog aE1:={
 mixed:=by kernel_rfl
 f6:=⟨f185.name,by decide,func185.trans (cO some k_)⟩
 f14:=⟨f211.name,by decide,func211.trans (cO some k_)⟩
 f15:=func212.trans (cO some k_)
 f20:=⟨f225.name,by decide,func225.trans (cO some k_)⟩
 f21:=⟨f226.name,by decide,func226.trans (cO some k_)⟩
 f22:=⟨f227.name,by decide,func227.trans (cO some k_)⟩
 f23:=⟨f228.name,by decide,func228.trans (cO some k_)⟩
 f24:=⟨f229.name,by decide,func229.trans (cO some k_)⟩
 f25:=⟨f230.name,by decide,func230.trans (cO some k_)⟩
 f26:=⟨f231.name,by decide,func231.trans (cO some k_)⟩
 f27:=⟨f232.name,by decide,func232.trans (cO some k_)⟩
 f28:=func233.trans (cO some k_)
 f29:=func234.trans (cO some k_)
 f46:=⟨f243.name,by decide,func243.trans (cO some k_)⟩
 f47:=func244.trans (cO some k_)
 f48:=func245.trans (cO some k_)
 f49:=⟨f246.name,by decide,func246.trans (cO some k_)⟩
 f50:=⟨f247.name,by decide,func247.trans (cO some k_)⟩
 f57:=⟨f252.name,by decide,func252.trans (cO some k_)⟩
 t0:=Tryz.underlying0
 a0:=isAgg0
 z0:=sizeOf0
 v0:=Tryz.zeroValue0
 t3:=Tryz.underlying3
 a3:=isAgg3
 z3:=sizeOf3
 v3:=Tryz.zeroValue3
 t4:=Tryz.underlying4
 a4:=isAgg4
 z4:=sizeOf4
 v4:=Tryz.zeroValue4
 t5:=Tryz.underlying5
 a5:=isAgg5
 z5:=sizeOf5
 v5:=Tryz.zeroValue5
 t9:=Tryz.underlying9
 a9:=isAgg9
 z9:=sizeOf9
 v9:=Tryz.zeroValue9
 t22:=Tryz.underlying23
 a22:=isAgg23
 z22:=sizeOf23
 v22:=Tryz.zeroValue23
 t25:=Tryz.underlying174
 a25:=isAgg174
 z25:=sizeOf174
 v25:=Tryz.zeroValue174
 t39:=Tryz.underlying113
 a39:=isAgg113
 z39:=sizeOf113
 v39:=Tryz.zeroValue113
 t45:=Tryz.underlying211
 a45:=isAgg211
 z45:=sizeOf211
 v45:=Tryz.zeroValue211
 t46:=Tryz.underlying212
 a46:=isAgg212
 z46:=sizeOf212
 v46:=Tryz.zeroValue212
 t50:=Tryz.underlying114
 a50:=isAgg114
 z50:=sizeOf114
 v50:=Tryz.zeroValue114
 t53:=Tryz.underlying181
 a53:=isAgg181
 z53:=sizeOf181
 v53:=Tryz.zeroValue181
 t55:=Tryz.underlying121
 a55:=isAgg121
 z55:=sizeOf121
 v55:=Tryz.zeroValue121
 t66:=Tryz.underlying228
 a66:=isAgg228
 z66:=sizeOf228
 v66:=Tryz.zeroValue228
 t70:=Tryz.underlying232
 a70:=isAgg232
 z70:=sizeOf232
 v70:=Tryz.zeroValue232
 t76:=Tryz.underlying240
 a76:=isAgg240
 z76:=sizeOf240
 v76:=Tryz.zeroValue240
 t77:=Tryz.underlying241
 a77:=isAgg241
 z77:=sizeOf241
 v77:=Tryz.zeroValue241 }
end
section
open CR OF
section
variable{F:Type}[OF F]
def tP(u v:V3 F):Bool:=decide (eD u v≠1)
theorem Jv{u v:V3 F}:tP u v=true↔j8 u v\/u=v:=by unfold tP j8;rw[CE,<-LR];rcases IZ u v with h|h|h<;>rw[h]<;>decide
theorem aE2(u v w:V3 F)(h:tP u v=true)(k:tP v w=true):tP u w=true:=by
 rw[Jv]at *;rcases h with h|rfl
 ·rcases k with k|rfl
  ·exact .inl (LS h k)
  ·exact .inl h
 ·exact k
theorem aRr(u v:V3 F):(tP u v||tP v u)=true:=by
 rw[vl,Jv,Jv];rcases IZ u v with h|h|h
 ·exact .inl (.inl h)
 ·exact .inl (.inr (LR.1 h))
 ·exact .inr (.inl (LU h))
theorem aRs{u v:V3 F}(h:tP u v=true)(k:tP v u=true):u=v:=by
 rw[Jv]at h k;rcases h with h|h
 ·rcases k with k|k
  ·exact absurd (P5 h k) id
  ·exact k.symm
 ·exact h
def sj(l:List (V3 F)):List (V3 F):=l.mergeSort tP
theorem MK(l:List (V3 F)):(sj l).Perm l:=List.mergeSort_perm l tP
theorem aE3(l:List (V3 F)):(sj l).Pairwise λu v=>tP u v=true:=List.pairwise_mergeSort aE2 aRr l
theorem aRt{l d:List (V3 F)}(hp:d.Perm l)(hs:d.Pairwise λu v=>tP u v=true):d=sj l:=
 List.Perm.eq_of_pairwise (λ_ _ _ _=>aRs) hs (aE3 l) (hp.trans (MK l).symm)
theorem aE4{α:Type}[DecidableEq α]:∀(a:α) (l:List α),∃ m,dd (a::l)=a::m
 |a,[]=>⟨[],rfl⟩
 |a,b::l=>by
  rw[MH];by_cases h:a=b
  ·subst h;rw[aB rfl];exact aE4 a l
  ·rw[av h];exact⟨_,rfl⟩
theorem aE5[DecidableEq (V3 F)]:∀{l:List (V3 F)},(l.Pairwise λu v=>tP u v=true)->(dd l).Pairwise j8
 |[],_=>aCZ
 |[a],_=>VA ..
 |a::b::l,h=>by
  have h':=(tA.1 h).2;have ih:=aE5 h';rw[MH];by_cases ch:a=b
  ·rw[aB ch];exact ih
  ·rw[av ch];refine tA.2 ⟨λx hx=>?_,ih⟩;have al:j8 a b:=(Jv.1 ((tA.1 h).1 b (aT ..))).resolve_right ch;obtain⟨m,hm⟩:=aE4 b l;rw[hm]at hx ih;rcases cC.1 hx with rfl|hx
   ·exact al
   ·exact LS al ((tA.1 ih).1 x hx)
theorem aE6[DecidableEq (V3 F)](l:List (V3 F)):dd (sj l)=LV l:=
 VO (aE5 (aE3 l)) (VQ l) λx=>by rw[aES,VP,(MK l).mem_iff]
end
end
section
open V3 (dot af aW smul)
open Go.Sort (SWO)
theorem aRu{q:HS K}{m:Nat}(ck:∀ p∈ps,bO m p)(hp:bO m p)(hq:bO m q)(mA:eE p q≠0->dot (eE p q) (eE p q)≠0):∀ v∈rY ps p q,aI (10000*(m+10)) v:=by
 intro v hv;unfold rY GB at hv;have hD:=V9 hp hq;by_cases h0:eE p q=0
 ·rw[aB h0]at hv;cases hv
 ·rw[av h0]at hv;obtain⟨r,hr⟩:∃ r,r=300*m+1000:=⟨_,rfl⟩;have hB:aI r (xa p q):=hr▸aDd hp hq h0 (mA h0);have GC:aI r (eE p q):=hD.mono o_;obtain⟨zl,zh⟩:=Qn (m:=m) (q:=r) (z:=24*(m+r)+m+200) hB GC o_ ps ⟨none,none⟩ ck n_ n_;have key:∀ t,Sz (24*(m+r)+m+200) t->aI (10000*(m+10)) (xa p q+smul (eE p q) t):=λt ht=>(hB.add (GC.smul ht)).mono o_;unfold L8 at hv;split at hv
  ·rename_i x y he;split at he
   ·split at he
    ·rename_i l h e1 e2;injection he with he;injection he with f1 f2;subst f1;subst f2;simp only[cC,j6,j7]at hv;rcases hv with rfl|rfl
     ·exact key _ (zl _ e1)
     ·exact key _ (zh _ e2)
    ·cases he
   ·cases he
  ·cases hv
theorem aE7{m:Nat}(ck:∀ p∈ps,bO m p)(mA:∀ p q:HS K,eE p q≠0->dot (eE p q) (eE p q)≠0)(n:Nat):∀ v∈nR ps n,aI (10000*(m+10)) v:=by
 intro v hv;unfold nR at hv;rw[w6]at hv;obtain⟨i,_,hv⟩:=hv;unfold Md at hv;split at hv
 ·rename_i p hp;unfold lY at hv;rw[w6]at hv;obtain⟨q,hq,hv⟩:=hv;exact aRu ck (ck p (cL hp)) (ck q (I5 hq)) (mA p q) v hv
 ·cases hv
structure VS(m:Nat) where
 v:V3 K
 sz:aI m v
theorem VS.ext'{m:Nat}{a b:VS m}(h:a.v=b.v):a=b:=by cases a;cases b;cases h;rfl
def Rh{m:Nat}(v:VS m):ak:=(cK v.v).cs
theorem Xy{m:Nat}:rT (Rh (m:=m)) 30:=⟨λ_=>gL.len _,λ_=>gL.flat _,λ_=>gL.one _⟩
theorem Xz{m:Nat}(h:1<=m):aI m (⟨kI 0,kI 0,kI 0⟩:V3 K):=LW.mono h
def ML{m:Nat}(u v:VS m):Bool:=Go.Proofs.ltOf (λa b:VS m=>eD a.v b.v) u v
theorem XA{m:Nat}{u v:VS m}:ML u v=true↔j8 u.v v.v:=by show decide (eD u.v v.v<0)=true↔eD u.v v.v=-1;rw[CE];rcases IZ u.v v.v with h|h|h<;>rw[h]<;>decide
theorem aE8{m:Nat}{u v:VS m}:ML u v=false↔tP v.v u.v=true:=by
 rw[Bool.eq_false_iff,ne_eq,XA,Jv];rcases IZ u.v v.v with h|h|h
 ·exact⟨λk=>absurd h k,λk _=>by
   rcases k with k|k
   ·exact P5 h k
   ·rw[k]at h;exact Ed _ h⟩
 ·have:=LR.1 h;exact⟨λ_=>.inr this.symm,λ_ k=>by rw[this]at k;exact Ed _ k⟩
 ·exact⟨λ_=>.inl (LU h),λ_ k=>P5 k (LU h)⟩
theorem aRv{m:Nat}:SWO (ML (m:=m)) where
 irrefl x:=by rw[Bool.eq_false_iff,ne_eq,XA];exact Ed _
 trans x y z h k:=by rw[XA]at *;exact LS h k
 ntrans x y z h k:=by rw[aE8]at *;exact aE2 _ _ _ k h
theorem aRw(h:gO prog f=true):∀ args w,(callFunc f args).run prog w=.ok (.enter f args) w:=λargs w=>NK h args w
def Jw:Value:=.func (.func 186) #[] #[]
theorem aRx{m:Nat}(c8:1<=m)(hm:8*m+24<=aD)(l:List (VS m))(h63:l.length<4611686018427387904):
  letI:Inhabited (VS m):=⟨⟨_,Xz c8⟩⟩
  aDy prog 185 Jw Rh 30 ML l:=by
 letI:Inhabited (VS m):=⟨⟨_,Xz c8⟩⟩
 intro aM cap w hH hblk
 have:=Go.Proofs.AnyQ.slices_SortFunc (P:=prog) (ρ:=aE1) aRq 30 isAgg44 sizeOf44 (Rh (m:=m)) Xy.len Xy.one (λa b=>eD a.v b.v) aRv 186 #[] aM 0 cap l.toArray w
  (aRw k_) (aNP (λx y=>VT x.sz y.sz o_) aM _ _ w) hH hblk (by simpa using h63)
 have e:l.toArray.size=l.length:=by simp
 rw[e]at this;exact this
theorem aRy:aF prog 225 [.slice none 0 0,vI 0,vI 0,Jw] (.tuple #[]):=aN func225 (λ_=>[])
theorem aRz:aF prog 211 [.slice none 0 0,vI 0,vI 0,vI 0,Jw] (.tuple #[]):=aN func211 (λ_=>[aRy.at 30])
theorem aRA:aF prog 234 [.int .u64 0] (vI 0):=aN func234 (λ_=>[])
theorem aRB:aF prog 212 [.int .u64 0] (vI 0):=aN func212 (λ_=>[aRA.at 7])
theorem aRC:aF prog 185 [.slice none 0 0,Jw] (.tuple #[]):=aN func185 (λ_=>[aRB.at 11,aRz.at 13])
theorem aRD{l:e_}{m:Nat}(c8:1<=m)(hm:8*m+24<=aD)(hl:∀ v∈l,aI m v)(h63:l.length<4611686018427387904){x:m_}(ho:dD o.op=some x)(k:Nat):
  cI prog Bs o [.func (.func 185) #[] #[],sl k l.length,Jw] [(k,some (.row (aV l) 44 30))] (.tuple #[]) [(k,.row (aV (sj l)) 44 30)]:=by
 letI:Inhabited (VS m):=⟨⟨_,Xz c8⟩⟩
 have hex:∀ l:e_,(∀ v∈l,aI m v)->∃ l2:List (VS m),l2.map VS.v=l:=by
  intro l;induction l with
  |nil=>exact λ_=>⟨[],rfl⟩
  |cons a l ih=>
   intro h;obtain⟨l2,h2⟩:=ih λv hv=>h v (bF _ hv);exact⟨⟨a,h a (aT ..)⟩::l2,by rw[nE,h2]⟩
 obtain⟨l2,h2⟩:=hex l hl;obtain⟨l3,h3⟩:=hex (sj l) λv hv=>hl v ((MK l).mem_iff.1 hv);have VF:∀ a b:VS m,a.v=b.v->a=b:=λa b h=>VS.ext' h;have jI:∀ l2:List (VS m),dy Rh l2=aV (l2.map VS.v):=by intro l2;unfold aV cV dy;rw[TG,List.flatMap_map];rfl
 have hlen:l2.length=l.length:=by rw[<-h2,eH]
 have:=aNR (P:=prog) (B:=Bs) (l:=l2) (l':=l3) (o:=o) (x:=x) (ty:=44) (lt:=ML) (g:=Jw) Xy d_ (aRx c8 hm l2 o_) k_ ho k_ k (λ_=>aRC) λd hd hs=>by
  have aRE:∀ a b:List (VS m),a.map VS.v=b.map VS.v->a=b:=by intro a b h;exact List.map_inj_right (λx y=>VF x y) |>.1 h
  refine aRE _ _ ?_;rw[h3];refine aRt ?_ ?_
  ·rw[<-h2];exact hd.map _
  ·rw[List.pairwise_map,Ri];intro i j hi hj kP;have:=hs i j kP hj _ _ (bo hi) (bo hj);exact aE8.1 this
 rw[jI,jI,h2,h3,hlen]at this;exact this
theorem XB{m:Nat}(hm:10000000*(m+10)<=aD):1<=10000*(m+10)/\8*(10000*(m+10))+24<=aD/\10000*(m+10)<=aD:=by omega
def cQ(ps:c_):e_:=LV (nR ps ps.length)
theorem aE9(l:e_):dd (l.map cK)=(dd l).map cK:=aEX (λ_ _ h=>P7 h) l
theorem aRF{m:Nat}(ck:∀ p∈ps,bO m p)(hm:10000000*(m+10)<=aD)(h63:ps.length<=500)(mA:∀ p q:HS K,eE p q≠0->dot (eE p q) (eE p q)≠0):
  lV prog 147 [fZ ps] 44 30 (cQ ps).length (aV (cQ ps)):=by
 have aC:([fZ ps].all aR.ok)=true:=by simp only[dL,eX,fZ,aR.ok,dC,iJ]
 have bH:=aE7 ck mA ps.length;have hl:=Qu ps.length (bC _) (ps:=ps);have ju:ps.length*(2*ps.length)<=500*1000:=qG o_ o_;have lZ:(nR ps ps.length).length<=500000:=dq hl ju;clear hl ju;have lo:=λBs=>aND (Bs:=Bs) ck hm h63 mA;have hv:cQ ps=dd (sj (nR ps ps.length)):=(aE6 _).symm;rw[hv];generalize nR ps ps.length=l at *;obtain⟨b1,b2,b3⟩:=XB hm;have st:=λBs (o:Oper) x ho=>aRD (Bs:=Bs) (o:=o) (x:=x) (l:=l) (m:=10000*(m+10)) b1 b2 bH (fq lZ d_) ho 1;have hp:=MK l;have EF:(sj l).length=l.length:=hp.length_eq;have dO:=aRo (l:=(sj l).map cK) (λx hx=>by obtain⟨v,hv,rfl⟩:=db.1 hx;exact(bH v (hp.mem_iff.1 hv)).sm b3) (by rw[eH,EF];exact fq lZ d_)
 rw[eH,EF,aE9,eH]at dO;have hz:∃ t,cV (Ju ((sj l).map cK))=aV (dd (sj l))++cV t:=⟨_,by unfold Ju;rw[aE9];exact L5 _ _⟩;obtain⟨t,hz⟩:=hz;unfold l4 at dO;rw[hz]at dO;change yx prog _ 2 _ [(1,.row (aV (sj l)) 44 30)] _ _ _ at dO;have hlen:(aV (dd (sj l))).length=(dd (sj l)).length*30:=rZ _;generalize dd (sj l)=d at *;generalize hS:sj l=s at *;intro w vs cz;obtain⟨ι,c,h1,h2,h3,h4,h5,h6,h7⟩:=wS cz (bB.1 aC) 0 _ _ (rG w) n_ (λ_ _=>rfl);refine sO (ms:=[(1,.row (aV d++cV t) 44 30)]) (v:=sl 1 d.length) mixed func147 (N:=42) k_ 100 (rs:=[.code 0 _ _ _ _ _ (lo _),.step 39 (aw f147 39) _ _ _ _ (st _ _ (.func 185) k_),.step 41 (aw f147 41) _ _ _ _ (L3 (args:=[sl 1 l.length]) (ca:=[]) (x:=.func 187) dO k_ k_ k_ k_ ?_ ?_ k_ k_ k_ k_)]) k_ h6 h2 h4 h3 λaz cr v' w' hle hc hm dQ=>⟨v',rfl,?_,hm.base⟩
 ·show((Nat.blt 1 2&&mY 2 (1,.row (aV s) 44 30))&&true)=true;rw[rX (x:=.row (aV s) 44 30) λv hv=>bB.1 (ee s) v hv];rfl
 ·show(mY 2 (1,.row (aV d++cV t) 44 30)&&true)=true;rw[rX (x:=.row (aV d++cV t) 44 30) λv hv=>(eW.1 hv).elim (λh=>bB.1 (ee d) v h) λh=>L6 gL t v h];rfl
 ·have:=xI hm (dQ (1,_) (aT ..)) hc (by rw[lh];omega) λv hv=>by
   rcases eW.1 hv with h|h
   ·exact bB.1 (ee d) v h
   ·exact L6 gL t v h
  rwa[<-hlen,Su]at this;rfl
end
section
open V3 (dot af aW smul)
theorem MM(l:l_):∀ v∈au l,v.oneCell'=true:=λv hv=>by obtain⟨x,_,rfl⟩:=db.1 hv;rfl
theorem aRG(l m:l_):au l++au m=au (l++m):=by simp[au]
theorem Rj{l:l_}(h:l.length=0):au l=[]:=by rw[mf h];rfl
def G8(l:l_):aR:=.r l.length (au l)
theorem XC(l:l_):(G8 l).ok=true:=iK l
theorem aRH{l:l_}(hl:0<l.length)(h63:l.length<=1000000):lV prog 216 [G8 l] 3 1 l.length (au l):=
 yo (k:=2) mixed func216 (by simp only[dL,eX,XC,iJ]) 100 (N:=8) k_ (λ_=>[.step 4 (aw f216 4) [sl 0 l.length,.slice none 0 0] [] a_ [] (aDt k_ hl),.Mj f216 5 1 3 1 (vI 0) k_,.qH f216 7 2 1 0 l.length l.length 3 1 8 [] 0 (.view (au l)) (au l) o_ rfl (by rw[gS];exact oF l) rfl rfl (MM l) d_ (by simp[maxLen];omega) o_ k_]) (λ_=>k_) (iK l) (by rw[oF];omega)
theorem EP(ps:c_):(bt ps).length=ps.length*40:=by unfold bt;rw[uC jP,eH]
theorem aFa(ps:c_):∀ v∈bt ps,v.oneCell'=true:=λv hv=>by unfold bt dx dy at hv;rw[w6]at hv;obtain⟨x,_,hx⟩:=hv;exact jP.one x v hx
theorem aRI(hl:0<ps.length)(h63:ps.length<=1000000):lV prog 149 [fZ ps] 54 40 ps.length (bt ps):=
 yo (k:=2) mixed func149 (by simp only[dL,eX,fZ,aR.ok,dC,iJ]) 100 (N:=8) k_ (λ_=>[.step 4 (aw f149 4) [sl 0 ps.length,.slice none 0 0] [] a_ [] (aDt k_ hl),.Mj f149 5 1 54 40 (RP.v ⟨tO,wb⟩) k_,.qH f149 7 2 1 0 ps.length ps.length 54 40 480 [] 0 (.view (bt ps)) (bt ps) o_ rfl (EP ps) rfl rfl (aFa ps) d_ (by simp[maxLen];omega) o_ k_]) (λ_=>k_) (dC ps) (EP ps)
def oH(l:l_)(i:Nat):List Nat:=(List.range l.length).map λt=>if t<i\/l.length<=t+i then l.getD (l.length-1-t) 0 else l.getD t 0
theorem XD(l:l_)(i:Nat):(oH l i).length=l.length:=by simp[oH]
theorem aRJ(l:l_):oH l 0=l:=by
 apply xL
 ·simp[oH]
 ·intro t h1 h2;have:¬(l.length<=t):=by omega
  simp[oH,this,h2]
theorem aFb{l:l_}{t:Nat}(h1:i<=t)(h2:t+i<l.length):(oH l i)[t]?=some (l.getD t 0):=by
 have:¬(t<i\/l.length<=t+i):=by omega
 simp[oH,show t<l.length by omega,this]
theorem aRK{l:l_}(h:i+(i+1)<l.length):((oH l i).set i (l.getD (l.length-1-i) 0)).set (l.length-1-i) (l.getD i 0)=oH l (i+1):=by
 apply xL
 ·simp[oH]
 ·intro t h1 h2;rw[XD]at h2;rw[HP,HP];simp only[oH,Dl,Dm];by_cases e1:l.length-1-i=t
  ·subst e1;rw[aB rfl,aB o_]
   congr 1;omega
  ·rw[av e1];by_cases e2:i=t
   ·subst e2;rw[aB rfl,aB o_]
   ·rw[av e2];by_cases e3:t<i\/l.length<=t+i
    ·rw[aB e3,aB o_]
    ·rw[av e3,av o_]
theorem aRL{l:l_}(h:l.length<=i+(i+1))(h2:i+i<=l.length):oH l i=l.reverse:=by
 apply xL
 ·simp[oH]
 ·intro t h1 h3;rw[XD]at h1;rw[List.getElem_reverse];simp only[oH,Dl,Dm];split
  ·rw[Ff,bo o_];rfl
  ·have:t=l.length-1-t:=by omega
   rw[Ff,bo o_];simp only[Option.getD_some]
   congr 1
section
variable{Bs:aa}{l:l_}
def Rk(n i:Nat):aX:=[(2,vI i),(3,vI (n-1-i)),(0,sl 5 n)]
def yP(l:l_):aL:=[(5,.row (au l) 3 1)]
theorem aRM{n:Nat}(hn:l.length=n)(hi:i+(i+1)<n)(h63:n<4611686018427387904):
  ai prog Bs 28 (aJ (ah f217 0)) (Rk n i) (yP (oH l i)) 6 ⟨.normal,Rk n (i+1),yP (oH l (i+1)),6⟩:=by
 have g1:=aFb (l:=l) (i:=i) (t:=n-1-i) o_ o_;have g2:=aFb (l:=l) (i:=i) (t:=i) o_ o_;have hlen:=XD l i;have wD:=aRK (l:=l) (i:=i) o_;rw[hn]at wD hlen;generalize l.getD (n-1-i) 0=y at *;generalize l.getD i 0=x at *;generalize oH l i=r at *;rw[<-wD];have s1:=xe (l:=r) (i:=i) (d:=y) o_;have s2:=xe (l:=r.set i y) (i:=n-1-i) (d:=x) (by rw[WH];omega);exact aE [.lt 9 i (n-1-i) true (by simp;omega),.ix f217 20 5 n (n-1-i) o_ k_,.ld f217 21 3 5 (n-1-i) (.row (au r) 3 1) (vI y) rfl (ev g1) k_,.ix f217 24 5 n i o_ k_,.ld f217 25 3 5 i (.row (au r) 3 1) (vI x) rfl (ev g2) k_,.ix f217 26 5 n i o_ k_,.st f217 100026 3 5 i (.row (au r) 3 1) (vI y) (.row (au (r.set i y)) 3 1) rfl s1 rfl k_,.ix f217 27 5 n (n-1-i) o_ k_,.st f217 100027 3 5 (n-1-i) (.row (au (r.set i y)) 3 1) (vI x) (.row (au ((r.set i y).set (n-1-i) x)) 3 1) rfl s2 rfl k_,.sum 11 i 1 (i+1) rfl o_,.fp 13 (n-1-i) 1 (n-1-(i+1)) o_ o_]
theorem aRN{n:Nat}(hn:l.length=n)(h0:0<n)(h63:n<4611686018427387904):
  ai prog Bs 28 (.block 0 (ah f217 0)) (Rk n 0) (yP l) 6 ⟨.normal,[],yP l.reverse,6⟩:=by
 have vK:l.reverse=oH l (n/2):=(aRL o_ o_).symm
 have:=cA (P:=prog) (B:=Bs) (N:=28) (b:=aJ (ah f217 0)) (next:=6) (n/2) (λi=>Rk n i) (λi=>yP (oH l i)) (r:=⟨.exit 0,[],yP l.reverse,6⟩) (λi k _=>km (l:=yP (oH l i)) (m:=yP (oH l 0)) rfl k)
  (λi hi=>aRM hn o_ h63)
  (by rw[<-vK];generalize l.reverse=r;exact aE [.lt 9 (n/2) (n-1-n/2) false (by simp;omega)]) n_
 rw[aRJ]at this;exact cd (id:=0) this
theorem aRO{l:l_}(h0:0<l.length)(h63:l.length<=1000000):yx prog 217 6 [sl 5 l.length] (yP l) [] (.tuple #[]) (yP l.reverse):=
 o6 mixed func217 100 (N:=28) k_ (λB=>[.fp 6 l.length 1 (l.length-1) o_ o_,.code 0 _ _ _ _ _ (aRN rfl h0 o_)]) (λ_=>k_)
end
end
end Go.Proofs.YtmocejjfkdcgkaaGreatDoor
