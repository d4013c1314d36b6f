/- Centroid and extent of solids: the proof of MeasureInsideCardSaid (the law's function answers true at every record and every direction it can be given; theorem measureInside_card, last part), part 4 of 7; no condition. -/
import Derived.Test.YtgpahigmalfpdaaGreatDoorIC3
namespace Go.Proofs.YtgpahigmalfpdaaGreatDoor
open Go Go.RowKit Tryz
abbrev e_:=List (V3 K)
abbrev c_:=List (HS K)
variable{i m k a q b j size e d off cc r L k1 k2 A U a1 m1 m2:Nat}{w w':h_}{ι:Map}{p:HS K}{o:Oper}{c:g_}{Bs:aa}{f:FuncId}{t:Bool}{x:K}{ps:c_}{ty:TypeId}{xs vs:al}{fn:Func}{l:List aQ}{u va:i_}{z:Int}
theorem aYr{n:Nat}(ha:a<bz^n)(hb:b<bz^n):a+b<bz^(n+1):=by have h1:bz^n*2<=bz^n*bz:=jY _ d_;rw[dH];omega
theorem MG{n s:Nat}(hi:i<n)(hd:d=s/bz^i%bz):fK prog 3 (aw (eV bz n i s)) i (vI d)=some (aw (eV bz n (i+1) s)):=by rw[xt (by rw[Ou];exact hi),Ov hi hd]
theorem WY(n s:Nat):List.replicate n (vI 0)=aw (eV bz n 0 s):=by rw[TJ,Mr]
section
variable{Bs:aa}{ka kb n m a b:Nat}
def Hg(ka kb n m a b i:Nat):aU:=[(7,vI i),(0,sl ka n),(1,sl kb m),(5,sl 2 (n+1)),(6,vI (fB bz a b i))]
def C5(ka kb n m a b i:Nat):aL:=[(ka,.view (aw (ae bz n a))),(kb,.view (aw (ae bz m b))),(2,.row (aw (eV bz (n+1) i (a+b))) 3 1)]
theorem aOW(hk:(ka=0/\kb=1)\/(ka=1/\kb=0))(hi:i<n)(hb:b<bz^m)(h63:n<35184372088832):
  ah prog Bs 55 (aK (ai f101 0)) (Hg ka kb n m a b i) (C5 ka kb n m a b i) 3 ⟨.normal,Hg ka kb n m a b (i+1),C5 ka kb n m a b (i+1),3⟩:=by
 have hx:=iG (B:=bz) d_ a i;have hy:=iG (B:=bz) d_ b i;have hc:=B7 (B:=bz) d_ a b i;have hs:=Ic (B:=bz) d_ a b i;have du:=FV (B:=bz) d_ a b i;have bW:=MG (n:=n+1) (i:=i) (s:=a+b) o_ rfl;have lS:dU prog 3 (aw (ae bz n a)) i=some (vI (a/bz^i%bz)):=eB (eU hi);have mg:i<m->dU prog 3 (aw (ae bz m b)) i=some (vI (b/bz^i%bz)):=λkm=>eB (eU km);have lO:¬i<m->b/bz^i%bz=0:=λkm=>rV hb o_ d_;unfold Hg C5;generalize aw (eV bz (n+1) (i+1) (a+b))=r1 at *;generalize aw (eV bz (n+1) i (a+b))=r0 at *;generalize aw (ae bz n a)=ra at *;generalize aw (ae bz m b)=rb at *;generalize fB bz a b (i+1)=c' at *;generalize fB bz a b i=c at *;generalize (a+b)/bz^i%bz=z at *;generalize a/bz^i%bz=x at *;generalize b/bz^i%bz=y at *;have e0:x+y+c=c+x+y:=by omega
 have e1:z=(c+x+y)%bz:=by rw[<-hs,e0]
 have e2:c'=(c+x+y)/bz:=by rw[<-du,e0]
 have kB:bz=16777216:=rfl;by_cases km:i<m
 ·have mg:=mg km
  let S:Nat->Nat->bN prog Bs 55:=λka kb=>[.lt 22 i n true (by simp[hi]),.ix f101 28 ka n i hi k_,.ld f101 29 3 ka i (.view ra) (vI x) rfl lS k_,.sum 30 c x (c+x) rfl o_,.lt 34 i m true (by simp[km]),.ix f101 38 kb m i km k_,.ld f101 39 3 kb i (.view rb) (vI y) rfl mg k_,.sum 40 (c+x) y (c+x+y) rfl o_,.Hd 44 (c+x+y) bz z e1,.ix f101 45 2 (n+1) i o_ k_,.st f101 100045 3 2 i (.row r0 3 1) (vI z) (.row r1 3 1) rfl bW rfl k_,.He 47 (c+x+y) bz c' e2 o_,.sum 24 i 1 (i+1) rfl o_]
  rcases hk with ⟨rfl,rfl⟩|⟨rfl,rfl⟩
  ·exact aG (S 0 1)
  ·exact aG (S 1 0)
 ·have yb:=lO km;rw[yb,jv]at e1 e2
  let S:Nat->Nat->bN prog Bs 55:=λka kb=>[.lt 22 i n true (by simp[hi]),.ix f101 28 ka n i hi k_,.ld f101 29 3 ka i (.view ra) (vI x) rfl lS k_,.sum 30 c x (c+x) rfl o_,.lt 34 i m false (by simp[km]),.Hd 44 (c+x) bz z e1,.ix f101 45 2 (n+1) i o_ k_,.st f101 100045 3 2 i (.row r0 3 1) (vI z) (.row r1 3 1) rfl bW rfl k_,.He 47 (c+x) bz c' e2 o_,.sum 24 i 1 (i+1) rfl o_]
  rcases hk with ⟨rfl,rfl⟩|⟨rfl,rfl⟩
  ·exact aG (S 0 1)
  ·exact aG (S 1 0)
theorem aOX(hk:(ka=0/\kb=1)\/(ka=1/\kb=0))(hb:b<bz^m)(h63:n<35184372088832):
  ah prog Bs 55 (.block 0 (ai f101 0)) (Hg ka kb n m a b 0) (C5 ka kb n m a b 0) 3 ⟨.normal,Hg ka kb n m a b n,C5 ka kb n m a b n,3⟩:=
 cg (cz (b:=aK (ai f101 0)) (r:=⟨.exit 0,Hg ka kb n m a b n,C5 ka kb n m a b n,3⟩) n (Hg ka kb n m a b) (C5 ka kb n m a b) (λi k _=>kH (l:=C5 ka kb n m a b i) (m:=C5 ka kb n m a b 0) rfl k) (λi hi=>aOW hk hi hb h63)
  (by rcases hk with ⟨rfl,rfl⟩|⟨rfl,rfl⟩<;>exact aG [.lt 22 n n false s_]) n_)
noncomputable def aEd(hk:(ka=0/\kb=1)\/(ka=1/\kb=0))(hb:b<bz^m)(h63:n<35184372088832)(hs:a+b<bz^(n+1))
  (bW:fK prog 3 (aw (eV bz (n+1) n (a+b))) n (vI (fB bz a b n))=some (aw (ae bz (n+1) (a+b)))):bN prog Bs 55:=
 [.sum 17 n 1 (n+1) rfl o_,.qR f101 18 2 (n+1) 3 8 (vI 0) (aw (eV bz (n+1) 0 (a+b))) (WY _ _) rfl rfl o_ (by simp[maxLen];omega) k_,.rw 6 (.int .i64 0) (vI (fB bz a b 0)) (by rw[Ox];rfl),.code 0 _ _ _ _ _ (aOX (ka:=ka) (kb:=kb) (a:=a) hk hb o_),.ix f101 52 2 (n+1) n o_ k_,.st f101 100052 3 2 n (.row (aw (eV bz (n+1) n (a+b))) 3 1) (vI (fB bz a b n)) (.row (aw (ae bz (n+1) (a+b))) 3 1) rfl bW rfl k_,.EH f101 54 2 (n+1) (a+b) (.row (aw (ae bz (n+1) (a+b))) 3 1) rfl rfl hs o_ k_]
end
theorem aX5{n:Nat}(ha:a<bz^n)(hb:b<bz^n):fK prog 3 (aw (eV bz (n+1) n (a+b))) n (vI (fB bz a b n))=some (aw (ae bz (n+1) (a+b))):=by have h1:=B7 (B:=bz) d_ a b n;have h2:=TK ha hb;rw[MG (Cp n) (by rw[<-h2];exact(dZ (fA h1 d_)).symm),Ia]
theorem aEe(h1:nd bz a<35184372088832)(h2:nd bz b<35184372088832):mz prog 101 [j7 a,j7 b] 3 1 (nd bz (a+b)) (cK (a+b)):=by
 have ha:=eE (B:=bz) d_ a;have hb:=eE (B:=bz) d_ b;have jx:=tU a;have ki:=tU b;have aC:([j7 a,j7 b].all aQ.ok)=true:=by simp[Jv]
 unfold j7 cK at aC ⊢;change mz _ _ _ _ _ _ (cK (a+b));generalize nd bz a=n at *;generalize nd bz b=m at *;by_cases kX:n<m
 ·have gO:=cH ha (dj (n:=bz) d_ (show n<=m by omega));have hs:=aYr hb gO;rw[nN a b]
  exact ME (k:=2) mixed func101 aC 100 (N:=55) k_ (λw=>(aZ.lt 12 n m true (by simp[kX]):aZ prog (aa.at w) 55)::aEd (ka:=1) (kb:=0) (a:=b) (b:=a) (.inr ⟨rfl,rfl⟩) ha h2 hs (aX5 hb gO))
   (λw=>k_) (iU _) (Hf hs) (C4 hs)
 ·have gy:=cH hb (dj (n:=bz) d_ (show m<=n by omega));have hs:=aYr ha gy
  exact ME (k:=2) mixed func101 aC 100 (N:=55) k_ (λw=>(aZ.lt 12 n m false (by simp[kX]):aZ prog (aa.at w) 55)::aEd (ka:=0) (kb:=1) (a:=a) (b:=b) (.inl ⟨rfl,rfl⟩) hb h1 hs (aX5 ha gy))
   (λw=>k_) (iU _) (Hf hs) (C4 hs)
section
variable{B:Nat}
def rF(B q V c i:Nat):Nat:=(q*(V%B^i)+c)/B^i
theorem aOY(q V c:Nat):rF B q V c 0=c:=by simp[rF,uH]
theorem aEf(hB:0<B)(q V c i:Nat):rF B q V c i+q*(V/B^i%B)=(q*(V%B^(i+1))+c)/B^i:=by unfold rF;rw[qi,pC,<-gA,Nat.add_right_comm,qj _ _ (cT hB)]
theorem aOZ(hB:0<B)(q V c i:Nat):(rF B q V c i+q*(V/B^i%B))/B=rF B q V c (i+1):=by rw[aEf hB,lJ,<-dH];rfl
theorem aO0(hB:0<B)(q V c i:Nat):(rF B q V c i+q*(V/B^i%B))%B=(q*V+c)/B^i%B:=by
 rw[aEf hB];have h1:=jM V (B^(i+1));have h2:q*V+c=(q*(V%B^(i+1))+c)+q*(V/B^(i+1))*B*B^i:=by
  have e:q*(V/B^(i+1))*B*B^i=q*(B^(i+1)*(V/B^(i+1))):=by rw[dH];simp only[c7,nO,gA]
  rw[e];have h3:q*V=q*(B^(i+1)*(V/B^(i+1)))+q*(V%B^(i+1)):=by rw[<-pC,h1]
  omega
 conv=>rhs;rw[h2]
 rw[qj _ _ (cT hB),D1]
theorem aEg(hB:0<B){c:Nat}(hq:q<B)(hc:c<=q)(V i:Nat):rF B q V c i<=q:=by
 unfold rF;have hp:0<B^i:=cT hB;have h1:V%B^i<B^i:=cU _ hp;have h2:=jY q (show V%B^i+1<=B^i from h1);rw[pC,gZ]at h2;have h3:q*(V%B^i)+c<(q+1)*B^i:=by rw[fZ,qT];omega
 have:=(jc hp).2 h3;omega
theorem aO1{c V n:Nat}(hV:V<B^n):rF B q V c n=(q*V+c)/B^n:=by unfold rF;rw[dZ hV]
theorem aO2(hB:0<B)(cd:b<=a)(i:Nat):
  (a-b)/B^i%B=if a/B^i%B<b/B^i%B+lK B a b i then a/B^i%B+B-b/B^i%B-lK B a b i else a/B^i%B-b/B^i%B-lK B a b i:=by
 rw[<-TN hB cd i];have hx:=iG hB a i;have hy:=iG hB b i;have hc:=Oy (B:=B) a b i;generalize a/B^i%B=x at *;generalize b/B^i%B=y at *;generalize lK B a b i=c at *;by_cases h:x<y+c
 ·rw[aA h,show x+2*B-y-c=(x+B-y-c)+B by omega,K0,dZ o_]
 ·rw[au h,show x+2*B-y-c=(x-y-c)+B+B by omega,K0,K0,dZ o_]
def sJ(B p x b i k:Nat):Nat:=(p%B^(i+k)+x*(b%B^k)*B^i)/B^(i+k)
theorem aO3{p x:Nat}(hB:0<B):sJ B p x b i 0=0:=by unfold sJ;rw[tn,uH,Nat.mul_zero,l9,jv,jv];exact nj (cU _ (cT hB))
theorem aEh(hB:0<B)(p x b i k:Nat):sJ B p x b i k+(p/B^(i+k)%B+x*(b/B^k%B))=(p%B^(i+k+1)+x*(b%B^(k+1))*B^i)/B^(i+k):=by
 unfold sJ;rw[<-qj _ _ (cT hB),qi p,qi b]
 congr 1
 rw[pC,fZ,fZ,eW];have:x*(b/B^k%B*B^k)*B^i=x*(b/B^k%B)*(B^i*B^k):=by simp only[c7,nO]
 omega
theorem aO4(hB:0<B)(p x b i k:Nat):(sJ B p x b i k+(p/B^(i+k)%B+x*(b/B^k%B)))/B=sJ B p x b i (k+1):=by rw[aEh hB,lJ,<-dH];rfl
theorem aO5(hB:0<B)(p x b i k:Nat):(sJ B p x b i k+(p/B^(i+k)%B+x*(b/B^k%B)))%B=(p+x*b*B^i)/B^(i+k)%B:=by
 rw[aEh hB];have h1:=jM p (B^(i+k+1));have h2:=jM b (B^(k+1));have h3:p+x*b*B^i=(p%B^(i+k+1)+x*(b%B^(k+1))*B^i)+(p/B^(i+k+1)+x*(b/B^(k+1)))*B*B^(i+k):=by
  have e1:(p/B^(i+k+1)+x*(b/B^(k+1)))*B*B^(i+k)=B^(i+k+1)*(p/B^(i+k+1))+x*(B^(k+1)*(b/B^(k+1)))*B^i:=by
   rw[fZ,fZ]
   congr 1
   ·rw[dH];simp only[c7,nO,gA]
   ·rw[dH,eW];simp only[c7,nO,gA]
  have e2:x*b*B^i=x*(B^(k+1)*(b/B^(k+1)))*B^i+x*(b%B^(k+1))*B^i:=by rw[<-fZ,<-pC,h2]
  rw[e1];omega
 conv=>rhs;rw[h3]
 rw[qj _ _ (cT hB),D1]
theorem aEi(hB:0<B){x:Nat}(hx:x<B)(p b i k:Nat):sJ B p x b i k<B:=by
 unfold sJ;have hp:0<B^(i+k):=cT hB;rw[jc hp];have h1:p%B^(i+k)<B^(i+k):=cU _ hp;have h2:b%B^k<B^k:=cU _ (cT hB);have h3:x*(b%B^k)*B^i<=x*B^(i+k):=by rw[gA,eW];refine jY _ ?_;rw[c7];exact jY _ (kv h2)
 have h4:=fe (B^(i+k)) (show x+1<=B from hx);rw[fZ,qT]at h4;omega
theorem aO6{p x:Nat}(hp:p<B^(i+m))(hb:b<B^m):sJ B p x b i m=(p+x*b*B^i)/B^(i+m):=by unfold sJ;rw[dZ hp,dZ hb]
end
section
variable{Bs:aa}{n m a b:Nat}
def Hh(n m a b i:Nat):aU:=[(7,vI i),(0,sl 0 n),(1,sl 1 m),(5,sl 2 n),(6,vI (lK bz a b i))]
def A9(n m a b i:Nat):aL:=[(0,.view (aw (ae bz n a))),(1,.view (aw (ae bz m b))),(2,.row (aw (eV bz n i (a-b))) 3 1)]
theorem aEj{x y:Int}(h:-4611686018427387904<=x)(h2:x<=4611686018427387903)(h3:-4611686018427387904<=y)(h4:y<=4611686018427387904):IntKind.i64.wrap (x-y)=x-y:=by rw[eD];omega
theorem aO7{x y:Int}(h:-4611686018427387904<=x)(h2:x<=4611686018427387903)(h3:-4611686018427387904<=y)(h4:y<=4611686018427387904):IntKind.i64.wrap (x+y)=x+y:=by rw[eD];omega
theorem aO8(cd:b<=a)(hi:i<n)(hb:b<bz^m)(h63:n<35184372088832):
  ah prog Bs 44 (aK (ai f104 0)) (Hh n m a b i) (A9 n m a b i) 3 ⟨.normal,Hh n m a b (i+1),A9 n m a b (i+1),3⟩:=by
 have hx:=iG (B:=bz) d_ a i;have hy:=iG (B:=bz) d_ b i;have hc:=Oy (B:=bz) a b i;have hs:=aO2 (B:=bz) d_ cd i;have du:=TM (B:=bz) d_ a b i;have bW:=MG (n:=n) (i:=i) (s:=a-b) hi rfl;have lS:dU prog 3 (aw (ae bz n a)) i=some (vI (a/bz^i%bz)):=eB (eU hi);have mg:i<m->dU prog 3 (aw (ae bz m b)) i=some (vI (b/bz^i%bz)):=λkm=>eB (eU km);have lO:¬i<m->b/bz^i%bz=0:=λkm=>rV hb o_ d_;have kB:bz=16777216:=rfl;unfold Hh A9;generalize aw (eV bz n (i+1) (a-b))=r1 at *;generalize aw (eV bz n i (a-b))=r0 at *;generalize aw (ae bz n a)=ra at *;generalize aw (ae bz m b)=rb at *;generalize lK bz a b (i+1)=c' at *;generalize lK bz a b i=c at *;generalize (a-b)/bz^i%bz=z at *;generalize a/bz^i%bz=x at *;generalize b/bz^i%bz=y at *;have w1:IntKind.i64.wrap ((x:Int)-(c:Int))=(x:Int)-(c:Int):=aEj o_ o_ o_ o_;have w2:IntKind.i64.wrap (((x:Int)-(c:Int))-(y:Int))=(x:Int)-(c:Int)-(y:Int):=aEj o_ o_ o_ o_;have tail:∀ d:Int,d=(x:Int)-c-y->(∃ t,decide (d<0)=t/\(t=true->IntKind.i64.wrap (d+16777216)=(z:Int)/\c'=1)/\(t=false->d=(z:Int)/\c'=0)):=by
  intro d hd;by_cases h:x<y+c
  ·rw[aA h]at hs du;refine⟨true,aJ o_,λ_=>⟨?_,du.symm⟩,λe=>by cases e⟩;rw[aO7 o_ o_ o_ o_];omega
  ·rw[au h]at hs du;exact⟨false,aY o_,n_,λ_=>⟨by omega,du.symm⟩⟩
 by_cases km:i<m
 ·have mg:=mg km;obtain⟨t,ht,h1,h2⟩:=tail _ rfl;cases t with
  |true=>
   obtain⟨q1,q2⟩:=h1 rfl;subst q2;exact aG [.lt 15 i n true (by simp[hi]),.ix f104 20 0 n i hi k_,.ld f104 21 3 0 i (.view ra) (vI x) rfl lS k_,.wr 23 .i64 ((x:Int)-(c:Int)) _ w1,.lt 27 i m true (by simp[km]),.ix f104 31 1 m i km k_,.ld f104 32 3 1 i (.view rb) (vI y) rfl mg k_,.wr 33 .i64 ((x:Int)-(c:Int)-(y:Int)) _ w2,.rw 35 (.bool (decide ((x:Int)-(c:Int)-(y:Int)<0))) b_ (by rw[ht]),.wr 37 .i64 _ (z:Int) q1,.ix f104 41 2 n i hi k_,.st f104 100041 3 2 i (.row r0 3 1) (vI z) (.row r1 3 1) rfl bW rfl k_,.sum 17 i 1 (i+1) rfl o_]
  |false=>
   obtain⟨q1,q2⟩:=h2 rfl;subst q2;exact aG [.lt 15 i n true (by simp[hi]),.ix f104 20 0 n i hi k_,.ld f104 21 3 0 i (.view ra) (vI x) rfl lS k_,.wr 23 .i64 ((x:Int)-(c:Int)) _ w1,.lt 27 i m true (by simp[km]),.ix f104 31 1 m i km k_,.ld f104 32 3 1 i (.view rb) (vI y) rfl mg k_,.wr 33 .i64 ((x:Int)-(c:Int)-(y:Int)) (z:Int) (w2.trans q1),.rw 35 (.bool (decide ((z:Int)<0))) a_ (by rw[<-q1,ht]),.ix f104 41 2 n i hi k_,.st f104 100041 3 2 i (.row r0 3 1) (vI z) (.row r1 3 1) rfl bW rfl k_,.sum 17 i 1 (i+1) rfl o_]
 ·have yb:=lO km;subst yb;obtain⟨t,ht,h1,h2⟩:=tail ((x:Int)-c) o_;cases t with
  |true=>
   obtain⟨q1,q2⟩:=h1 rfl;subst q2;exact aG [.lt 15 i n true (by simp[hi]),.ix f104 20 0 n i hi k_,.ld f104 21 3 0 i (.view ra) (vI x) rfl lS k_,.wr 23 .i64 ((x:Int)-(c:Int)) _ w1,.lt 27 i m false (by simp[km]),.rw 35 (.bool (decide ((x:Int)-(c:Int)<0))) b_ (by rw[ht]),.wr 37 .i64 _ (z:Int) q1,.ix f104 41 2 n i hi k_,.st f104 100041 3 2 i (.row r0 3 1) (vI z) (.row r1 3 1) rfl bW rfl k_,.sum 17 i 1 (i+1) rfl o_]
  |false=>
   obtain⟨q1,q2⟩:=h2 rfl;subst q2;exact aG [.lt 15 i n true (by simp[hi]),.ix f104 20 0 n i hi k_,.ld f104 21 3 0 i (.view ra) (vI x) rfl lS k_,.wr 23 .i64 ((x:Int)-(c:Int)) (z:Int) (w1.trans q1),.lt 27 i m false (by simp[km]),.rw 35 (.bool (decide ((z:Int)<0))) a_ (by rw[<-q1,ht]),.ix f104 41 2 n i hi k_,.st f104 100041 3 2 i (.row r0 3 1) (vI z) (.row r1 3 1) rfl bW rfl k_,.sum 17 i 1 (i+1) rfl o_]
theorem aO9(cd:b<=a)(hb:b<bz^m)(h63:n<35184372088832):
  ah prog Bs 44 (.block 0 (ai f104 0)) (Hh n m a b 0) (A9 n m a b 0) 3 ⟨.normal,Hh n m a b n,A9 n m a b n,3⟩:=
 cg (cz (b:=aK (ai f104 0)) (r:=⟨.exit 0,Hh n m a b n,A9 n m a b n,3⟩) n (Hh n m a b) (A9 n m a b) (λi k _=>kH (l:=A9 n m a b i) (m:=A9 n m a b 0) rfl k) (λi hi=>aO8 cd hi hb h63)
  (aG [.lt 15 n n false s_]) n_)
end
theorem aPa(cd:b<=a)(h1:nd bz a<35184372088832):mz prog 104 [j7 a,j7 b] 3 1 (nd bz (a-b)) (cK (a-b)):=by
 have ha:=eE (B:=bz) d_ a;have hb:=eE (B:=bz) d_ b;have aC:([j7 a,j7 b].all aQ.ok)=true:=by simp[Jv]
 unfold j7 cK at aC ⊢;change mz _ _ _ _ _ _ (cK (a-b));generalize nd bz a=n at *;generalize nd bz b=m at *;have hs:a-b<bz^n:=fA (Gf _ _) ha;have lo:=λBs=>aO9 (Bs:=Bs) (n:=n) (m:=m) cd hb h1;unfold A9 at lo;rw[Ia]at lo;exact ME (k:=2) mixed func104 aC 100 (N:=44) k_ (λw=>[.qR f104 11 2 n 3 8 (vI 0) (aw (eV bz n 0 (a-b))) (WY _ _) rfl rfl o_ (by simp[maxLen];omega) k_,.rw 6 (.int .i64 0) (vI (lK bz a b 0)) (by rw[TL];rfl),.code 0 _ _ _ _ _ (lo _),.EH f104 43 2 n (a-b) (.row (aw (ae bz n (a-b))) 3 1) rfl rfl hs o_ k_])
   (λw=>k_) (iU _) (Hf hs) (C4 hs)
section
variable{Bs:aa}{n a c:Nat}
def Hi(n a c i:Nat):aU:=[(7,vI i),(0,sl 0 n),(5,sl 1 (n+1)),(6,vI (rF bz 2 a c i))]
def C6(n a c i:Nat):aL:=[(0,.view (aw (ae bz n a))),(1,.row (aw (eV bz (n+1) i (2*a+c))) 3 1)]
theorem aPb(hc:c<=2)(hi:i<n)(h63:n<35184372088832):
  ah prog Bs 40 (aK (ai f105 0)) (Hi n a c i) (C6 n a c i) 2 ⟨.normal,Hi n a c (i+1),C6 n a c (i+1),2⟩:=by
 have hx:=iG (B:=bz) d_ a i;have gY:=aEg (B:=bz) d_ (q:=2) d_ hc a i;have hs:=aO0 (B:=bz) d_ 2 a c i;have du:=aOZ (B:=bz) d_ 2 a c i;have bW:=MG (n:=n+1) (i:=i) (s:=2*a+c) o_ rfl;have lS:dU prog 3 (aw (ae bz n a)) i=some (vI (a/bz^i%bz)):=eB (eU hi);have kB:bz=16777216:=rfl;unfold Hi C6;generalize aw (eV bz (n+1) (i+1) (2*a+c))=r1 at *;generalize aw (eV bz (n+1) i (2*a+c))=r0 at *;generalize aw (ae bz n a)=ra at *;generalize rF bz 2 a c (i+1)=c' at *;generalize rF bz 2 a c i=g at *;generalize (2*a+c)/bz^i%bz=z at *;generalize a/bz^i%bz=x at *;exact aG [.lt 16 i n true (by simp[hi]),.ix f105 22 0 n i hi k_,.ld f105 23 3 0 i (.view ra) (vI x) rfl lS k_,.tW 24 2 x (2*x) rfl o_,.sum 25 g (2*x) (g+2*x) rfl o_,.Hd 29 (g+2*x) bz z hs.symm,.ix f105 30 1 (n+1) i o_ k_,.st f105 100030 3 1 i (.row r0 3 1) (vI z) (.row r1 3 1) rfl bW rfl k_,.He 32 (g+2*x) bz c' du.symm o_,.sum 18 i 1 (i+1) rfl o_]
theorem aPc(hc:c<=2)(h63:n<35184372088832):
  ah prog Bs 40 (.block 0 (ai f105 0)) (Hi n a c 0) (C6 n a c 0) 2 ⟨.normal,Hi n a c n,C6 n a c n,2⟩:=
 cg (cz (b:=aK (ai f105 0)) (r:=⟨.exit 0,Hi n a c n,C6 n a c n,2⟩) n (Hi n a c) (C6 n a c) (λi k _=>kH (l:=C6 n a c i) (m:=C6 n a c 0) rfl k) (λi hi=>aPb hc hi h63)
  (aG [.lt 16 n n false s_]) n_)
end
theorem aPd{c:Nat}(hc:c<=1)(h1:nd bz a<35184372088832):mz prog 105 [j7 a,.p (vI c)] 3 1 (nd bz (2*a+c)) (cK (2*a+c)):=by
 have ha:=eE (B:=bz) d_ a;have aC:([j7 a,aQ.p (vI c)].all aQ.ok)=true:=by simp[Jv];rfl
 unfold j7 cK at aC ⊢;change mz _ _ _ _ _ _ (cK (2*a+c));generalize nd bz a=n at *;have hs:2*a+c<bz^(n+1):=by have h1:bz^n*2<=bz^n*bz:=jY _ d_;rw[dH];omega
 have bW:fK prog 3 (aw (eV bz (n+1) n (2*a+c))) n (vI (rF bz 2 a c n))=some (aw (ae bz (n+1) (2*a+c))):=by have h1:=aEg (B:=bz) d_ (q:=2) d_ (show c<=2 by omega) a n;have h2:=aO1 (B:=bz) (q:=2) (c:=c) ha;have kB:bz=16777216:=rfl;rw[MG (Cp n) (by rw[<-h2];exact(dZ o_).symm),Ia]
 exact ME (k:=1) mixed func105 aC 100 (N:=40) k_ (λw=>[.sum 10 n 1 (n+1) rfl o_,.qR f105 11 1 (n+1) 3 8 (vI 0) (aw (eV bz (n+1) 0 (2*a+c))) (WY _ _) rfl rfl o_ (by simp[maxLen];omega) k_,.rw 6 (vI c) (vI (rF bz 2 a c 0)) (by rw[aOY]),.code 0 _ _ _ _ _ (aPc (a:=a) (c:=c) o_ h1),.ix f105 37 1 (n+1) n o_ k_,.st f105 100037 3 1 n (.row (aw (eV bz (n+1) n (2*a+c))) 3 1) (vI (rF bz 2 a c n)) (.row (aw (ae bz (n+1) (2*a+c))) 3 1) rfl bW rfl k_,.EH f105 39 1 (n+1) (2*a+c) (.row (aw (ae bz (n+1) (2*a+c))) 3 1) rfl rfl hs o_ k_])
   (λw=>k_) (iU _) (Hf hs) (C4 hs)
section
variable{Bs:aa}{n m a b:Nat}
def xw(n m a b i k:Nat):al:=aw (dh bz (n+m) (i+k) (part bz a b (i+1) 0) (part bz a b i 0))
def EJ(n m a b i k:Nat):aU:=[(8,vI k),(7,vI (sJ bz (part bz a b i 0) (a/bz^i%bz) b i k)),(6,vI i),(0,sl 0 n),(1,sl 1 m),(5,sl 2 (n+m))]
def Ba(n m a b i k:Nat):aL:=[(0,.view (aw (ae bz n a))),(1,.view (aw (ae bz m b))),(2,.row (xw n m a b i k) 3 1)]
theorem WZ(i:Nat):part bz a b (i+1) 0=part bz a b i 0+a/bz^i%bz*b*bz^i:=by
 rw[DI,DI,qi,fZ]
 congr 1
 simp only[c7,nO]
theorem aEk(hb:b<bz^m):part bz a b i 0<bz^(i+m):=by rw[DI,eW];exact qS (cU _ (cT d_)) hb
theorem aPe(hi:i<n)(hk:k<m)(h63:n+m<35184372088832):
  ah prog Bs 63 (aK (ai f133 2)) (EJ n m a b i k) (Ba n m a b i k) 3 ⟨.normal,EJ n m a b i (k+1),Ba n m a b i (k+1),3⟩:=by
 have hx:=iG (B:=bz) d_ a i;have hy:=iG (B:=bz) d_ b k;have hr:=iG (B:=bz) d_ (part bz a b i 0) (i+k);have gY:=aEi (B:=bz) d_ hx (part bz a b i 0) b i k;have hs:=aO5 (B:=bz) d_ (part bz a b i 0) (a/bz^i%bz) b i k;rw[<-WZ]at hs;have du:=aO4 (B:=bz) d_ (part bz a b i 0) (a/bz^i%bz) b i k;have lS:dU prog 3 (aw (ae bz n a)) i=some (vI (a/bz^i%bz)):=eB (eU hi);have mg:dU prog 3 (aw (ae bz m b)) k=some (vI (b/bz^k%bz)):=eB (eU hk);have hlr:dU prog 3 (xw n m a b i k) (i+k)=some (vI (part bz a b i 0/bz^(i+k)%bz)):=eB (DH o_ (bF _));have bW:fK prog 3 (xw n m a b i k) (i+k) (vI (part bz a b (i+1) 0/bz^(i+k)%bz))=some (xw n m a b i (k+1)):=by unfold xw;rw[xt (by rw[x9];omega),Ai o_ rfl];rfl
 have kB:bz=16777216:=rfl;unfold EJ Ba;generalize xw n m a b i (k+1)=r1 at *;generalize xw n m a b i k=r0 at *;generalize aw (ae bz n a)=ra at *;generalize aw (ae bz m b)=rb at *;generalize sJ bz (part bz a b i 0) (a/bz^i%bz) b i (k+1)=c' at *;generalize sJ bz (part bz a b i 0) (a/bz^i%bz) b i k=g at *;generalize part bz a b (i+1) 0/bz^(i+k)%bz=z at *;generalize part bz a b i 0/bz^(i+k)%bz=r at *;generalize a/bz^i%bz=x at *;generalize b/bz^k%bz=y at *;have lj:x*y<bz*bz:=qS hx hy;rw[kB]at lj;generalize hp:x*y=p at *;exact aG [.lt 24 k m true (by simp[hk]),.sum 31 i k (i+k) rfl o_,.ix f133 32 2 (n+m) (i+k) o_ k_,.ld f133 33 3 2 (i+k) (.row r0 3 1) (vI r) rfl hlr k_,.ix f133 36 0 n i hi k_,.ld f133 37 3 0 i (.view ra) (vI x) rfl lS k_,.ix f133 40 1 m k hk k_,.ld f133 41 3 1 k (.view rb) (vI y) rfl mg k_,.tW 42 x y p hp.symm o_,.sum 43 r p (r+p) rfl o_,.sum 44 g (r+p) (g+(r+p)) rfl o_,.sum 48 i k (i+k) rfl o_,.Hd 50 (g+(r+p)) bz z hs.symm,.ix f133 51 2 (n+m) (i+k) o_ k_,.st f133 100051 3 2 (i+k) (.row r0 3 1) (vI z) (.row r1 3 1) rfl bW rfl k_,.He 53 (g+(r+p)) bz c' du.symm o_,.sum 26 k 1 (k+1) rfl o_]
theorem aPf(hi:i<n)(h63:n+m<35184372088832):
  ah prog Bs 63 (.block 2 (ai f133 2)) (EJ n m a b i 0) (Ba n m a b i 0) 3 ⟨.normal,EJ n m a b i m,Ba n m a b i m,3⟩:=
 cg (id:=2) (cz (b:=aK (ai f133 2)) (r:=⟨.exit 2,EJ n m a b i m,Ba n m a b i m,3⟩) m (EJ n m a b i) (Ba n m a b i) (λk j _=>kH (l:=Ba n m a b i k) (m:=Ba n m a b i 0) rfl j) (λk hk=>aPe hi hk h63)
  (aG [.lt 24 m m false s_]) n_)
def EK(n m a b i:Nat):al:=aw (ae bz (n+m) (part bz a b i 0))
def Hj(n m i:Nat):aU:=[(6,vI i),(0,sl 0 n),(1,sl 1 m),(5,sl 2 (n+m))]
def Bb(n m a b i:Nat):aL:=[(0,.view (aw (ae bz n a))),(1,.view (aw (ae bz m b))),(2,.row (EK n m a b i) 3 1)]
theorem aPg(i:Nat):xw n m a b i 0=EK n m a b i:=by unfold xw EK;rw[WZ,jv,aAv d_]
theorem aPh(hi:i<n)(hb:b<bz^m)(h63:n+m<35184372088832):
  ah prog Bs 63 (aK (ai f133 0)) (Hj n m i) (Bb n m a b i) 3 ⟨.normal,Hj n m (i+1),Bb n m a b (i+1),3⟩:=by
 have lo:=aPf (Bs:=Bs) (a:=a) (b:=b) hi h63;unfold EJ Ba at lo;rw[aPg,aO3 d_]at lo;have hp:=aEk (a:=a) (i:=i) hb;have jk:=aEk (a:=a) (i:=i+1) hb;have he:=aO6 (x:=a/bz^i%bz) hp hb;rw[<-WZ]at he;have hc:=aEi (B:=bz) d_ (iG (B:=bz) d_ a i) (part bz a b i 0) b i m;have bW:fK prog 3 (xw n m a b i m) (i+m) (vI (sJ bz (part bz a b i 0) (a/bz^i%bz) b i m))=some (EK n m a b (i+1)):=by
  unfold xw EK;have e:i+1+m=i+m+1:=by omega
  rw[e]at jk;rw[xt (by rw[x9];omega),Ai o_ (by rw[he];rw[he]at hc;exact(dZ hc).symm),Gc d_ (cH hp (dj d_ (zY _))) jk]
 unfold Hj Bb;generalize EK n m a b (i+1)=r1 at *;generalize EK n m a b i=r0 at *;generalize xw n m a b i m=r2 at *;generalize sJ bz (part bz a b i 0) (a/bz^i%bz) b i m=c at *;generalize aw (ae bz n a)=ra at *;generalize aw (ae bz m b)=rb at *;exact aG [.lt 18 i n true (by simp[hi]),.code 2 _ _ _ _ _ lo,.sum 58 i m (i+m) rfl o_,.ix f133 60 2 (n+m) (i+m) o_ k_,.st f133 100060 3 2 (i+m) (.row r2 3 1) (vI c) (.row r1 3 1) rfl bW rfl k_,.sum 20 i 1 (i+1) rfl o_]
theorem aPi(hb:b<bz^m)(h63:n+m<35184372088832):
  ah prog Bs 63 (.block 0 (ai f133 0)) (Hj n m 0) (Bb n m a b 0) 3 ⟨.normal,Hj n m n,Bb n m a b n,3⟩:=
 cg (cz (b:=aK (ai f133 0)) (r:=⟨.exit 0,Hj n m n,Bb n m a b n,3⟩) n (Hj n m) (Bb n m a b) (λk j _=>kH (l:=Bb n m a b k) (m:=Bb n m a b 0) rfl j) (λk hk=>aPh hk hb h63)
  (aG [.lt 18 n n false s_]) n_)
end
theorem W0(h63:nd bz a+nd bz b<35184372088832):mz prog 133 [j7 a,j7 b] 3 1 (nd bz (a*b)) (cK (a*b)):=by
 have ha:=eE (B:=bz) d_ a;have hb:=eE (B:=bz) d_ b;have aC:([j7 a,j7 b].all aQ.ok)=true:=by simp[Jv]
 unfold j7 cK at aC ⊢;change mz _ _ _ _ _ _ (cK (a*b));generalize nd bz a=n at *;generalize nd bz b=m at *;have hs:a*b<bz^(n+m):=by rw[eW];exact qS ha hb
 have lo:=λBs=>aPi (Bs:=Bs) (n:=n) (a:=a) hb h63;unfold Bb EK at lo;rw[DI,DI,dZ ha,tn,uH,l9]at lo;have hz:List.replicate (n+m) (vI 0)=aw (ae bz (n+m) 0):=by
  rw[Mr]
  congr 1
  unfold ae;symm;rw[List.eq_replicate_iff];simp
 exact ME (k:=2) mixed func133 aC 100 (N:=63) k_ (λw=>[.sum 13 n m (n+m) rfl o_,.qR f133 14 2 (n+m) 3 8 (vI 0) (aw (ae bz (n+m) 0)) hz rfl rfl o_ (by simp[maxLen];omega) k_,.code 0 _ _ _ _ _ (lo _),.EH f133 62 2 (n+m) (a*b) (.row (aw (ae bz (n+m) (a*b))) 3 1) rfl rfl hs o_ k_])
   (λw=>k_) (iU _) (Hf hs) (C4 hs)
theorem yX(cells:al)(i:Nat)(h:cells[i]?=some (.int .u8 z)):dU prog 5 cells i=some (.int .u8 z):=by
 have e:dU prog 5 cells i=cells[i+0]?:=by kernel_rfl
 rw[e,jv,h]
theorem aPj(cells:al)(i:Nat)(z:Int)(h:i<cells.length):fK prog 5 cells i (.int .u8 z)=some (cells.set i (.int .u8 z)):=by
 have e:fK prog 5 cells i (.int .u8 z)=if(Nat.ble (i+1) cells.length&&true)then some (ju cells i [.int .u8 z])else none:=by kernel_rfl
 rw[e,Tg h];rfl
section
variable{Bs:aa}{n a:Nat}
def u9(n a i:Nat):al:=iy (List.replicate (3*n-i) 0++ik i a)
def Hk(n i:Nat):aU:=[(4,vI i),(0,sl 0 n),(3,sl 1 (3*n))]
def Bc(n a i:Nat):aL:=[(0,.view (aw (ae bz n a))),(1,.row (u9 n a i) 5 1)]
theorem aPk(hi:i<3*n):(u9 n a i).set (3*n-1-i) (vb (a/256^i%256))=u9 n a (i+1):=by
 unfold u9;rw[yj,show 3*n-i=(3*n-1-i)+1 by omega,show 3*n-(i+1)=3*n-1-i by omega,List.replicate_succ',FL];generalize 3*n-1-i=k;unfold iy;rw[vA,vA,Ww _ _ s_];simp only[eO,Jx,wR,vA,mL,Ud,DZ,jJ,List.set_cons_zero]
 congr 2
 rw[OW,dZ (cU _ d_)];rfl
theorem aPl(i:Nat)(hi:i<=3*n):(u9 n a i).length=3*n:=by unfold u9;rw[F9,lH,Jx,KY];omega
theorem aPm:a/bz^(i/3)%bz/2^(8*(i%3))%256=a/256^i%256:=by
 have e1:bz^(i/3)=256^(3*(i/3)):=by rw[show bz=256^3 from Jw,<-tu]
 have e2:(2:Nat)^(8*(i%3))=256^(i%3):=by rw[tu]
 have e3:256^i=256^(3*(i/3))*256^(i%3):=by rw[<-eW];congr 1;omega
 rw[e1,e2,e3,<-lJ];generalize a/256^(3*(i/3))=c;have e4:bz=256^(i%3)*(256*256^(2-i%3)):=by rw[show bz=256^3 from Jw,<-Nat.pow_succ',<-eW];congr 1;omega
 rw[e4,Cc,KQ]
theorem aPn(hi:i<3*n)(h63:n<35184372088832):
  ah prog Bs 45 (aK (ai f145 0)) (Hk n i) (Bc n a i) 2 ⟨.normal,Hk n (i+1),Bc n a (i+1),2⟩:=by
 have hx:=iG (B:=bz) d_ a (i/3);have hb:=aPm (a:=a) (i:=i);have lS:dU prog 3 (aw (ae bz n a)) (i/3)=some (vI (a/bz^(i/3)%bz)):=eB (eU o_);have bW:fK prog 5 (u9 n a i) (3*n-1-i) (vb (a/256^i%256))=some (u9 n a (i+1)):=by unfold vb;rw[aPj _ _ _ (by rw[aPl _ o_];omega)];exact cS some (aPk hi)
 unfold Hk Bc;generalize u9 n a (i+1)=r1 at *;generalize u9 n a i=r0 at *;generalize aw (ae bz n a)=ra at *;generalize a/256^i%256=z at *;generalize a/bz^(i/3)%bz=x at *;have wy:(x:Int).fdiv (2^(min (8*(i%3)) IntKind.i64.bits))=((x/2^(8*(i%3)):Nat):Int):=by rw[show min (8*(i%3)) IntKind.i64.bits=8*(i%3)from oQ (show 8*(i%3)<=64 by omega),ti _ (Iv d_),uJ,Iw];rfl
 generalize x/2^(8*(i%3))=y at *;exact aG [.lt 12 i (3*n) true (by simp[hi]),.fN 18 (3*n) 1 (3*n-1) o_ o_,.fN 20 (3*n-1) i (3*n-1-i) o_ o_,.He 23 i 3 (i/3) rfl o_,.ix f145 24 0 n (i/3) o_ k_,.ld f145 25 3 0 (i/3) (.view ra) (vI x) rfl lS k_,.Hd 27 i 3 (i%3) rfl,.tW 28 8 (i%3) (8*(i%3)) rfl o_,.shr f145 29 .i64 (x:Int) (y:Int) (8*(i%3)) wy k_,.wr 30 .u8 (y:Int) (z:Int) (by rw[aBf];omega),.ix f145 31 1 (3*n) (3*n-1-i) o_ k_,.st f145 100031 5 1 (3*n-1-i) (.row r0 5 1) (vb z) (.row r1 5 1) rfl bW rfl k_,.sum 14 i 1 (i+1) rfl o_]
theorem W3(h63:n<35184372088832):ah prog Bs 45 (.block 0 (ai f145 0)) (Hk n 0) (Bc n a 0) 2 ⟨.normal,Hk n (3*n),Bc n a (3*n),2⟩:=
 cg (id:=0) (cz (b:=aK (ai f145 0)) (r:=⟨.exit 0,Hk n (3*n),Bc n a (3*n),2⟩) (3*n) (Hk n) (Bc n a) (λk j _=>kH (l:=Bc n a k) (m:=Bc n a 0) rfl j) (λk hk=>aPn hk h63)
  (aG [.lt 12 (3*n) (3*n) false s_]) n_)
def yY(L i:Nat):aU:=[(3,.slice (some ⟨1,i*1,some 7⟩) (L-i) i)]
def yZ(L a:Nat):aL:=[(1,.row (iy (ik L a)) 5 1)]
theorem W5{a:Nat}(h:a<256^L):ik L a=List.replicate (L-nd 256 a) 0++cO a:=by have hle:=jK (B:=256) d_ h;have:=aA6 (n:=nd 256 a) (k:=L-nd 256 a) (eE (B:=256) d_ a);rw[show L-nd 256 a+nd 256 a=L by omega]at this;exact this
theorem aPo(h:a<256^L)(h0:a≠0)(hi:i<L-nd 256 a)(h63:L<9223372036854775807):
  ah prog Bs 45 (aK (ai f145 2)) (yY L i) (yZ L a) 2 ⟨.normal,yY L (i+1),yZ L a,2⟩:=by
 have hp:=x7 (B:=256) d_ h0;have jz:dU prog 5 (iy (ik L a)) i=some (vb 0):=yX _ _ (by rw[W5 h,OZ,Kv (by rw[F9];simpa using hi)];simp[iy,hi])
 unfold yY yZ;generalize iy (ik L a)=r0 at *;obtain⟨m,hm⟩:∃ m,L-i=m+1:=⟨L-i-1,by omega⟩;have dE:L-(i+1)=m:=by omega
 rw[hm,dE];have e1:i*1=i:=gZ i;exact aG [.gt 34 (m+1) 0 true s_,.qx f145 37 1 i (m+1) i 0 i 1 o_ (jv i) k_,.ld f145 38 5 1 (i*1) (.row r0 5 1) (vb 0) rfl (by rw[e1];exact jz) k_,.gH 39 0 0 true rfl,.next f145 42 1 i m 1 o_ k_]
theorem aPp(h:a<256^L)(h0:a≠0)(hi:i=L-nd 256 a)(h63:L<9223372036854775807):
  ah prog Bs 45 (aK (ai f145 2)) (yY L i) (yZ L a) 2 ⟨.exit 2,yY L i,yZ L a,2⟩:=by
 have hp:=x7 (B:=256) d_ h0;have hle:=jK (B:=256) d_ h;obtain⟨c,l,hc,qN⟩:=OX h0;have jz:dU prog 5 (iy (ik L a)) i=some (vb c.toNat):=yX _ _ (by rw[W5 h,OZ,FD (by rw[F9];simp;omega),F9,hc,hi];simp[iy])
 have bB:c.toNat≠0:=λe=>qN (OP.1 e);unfold yY yZ;generalize iy (ik L a)=r0 at *;obtain⟨m,hm⟩:∃ m,L-i=m+1:=⟨L-i-1,by omega⟩;rw[hm];have e1:i*1=i:=gZ i;generalize c.toNat=d at *;exact aG [.gt 34 (m+1) 0 true s_,.qx f145 37 1 i (m+1) i 0 i 1 o_ (jv i) k_,.ld f145 38 5 1 (i*1) (.row r0 5 1) (vb d) rfl (by rw[e1];exact jz) k_,.gH 39 d 0 false (aY bB)]
theorem aPq(h:a<256^L)(h0:a≠0)(h63:L<9223372036854775807):
  ah prog Bs 45 (.block 2 (ai f145 2)) (yY L 0) (yZ L a) 2 ⟨.normal,yY L (L-nd 256 a),yZ L a,2⟩:=
 cg (id:=2) (cz (b:=aK (ai f145 2)) (r:=⟨.exit 2,yY L (L-nd 256 a),yZ L a,2⟩) (L-nd 256 a) (yY L) (λ_=>yZ L a) (λ_ _ _=>Iff.rfl) (λk hk=>aPo h h0 hk h63)
  (aPp h h0 rfl h63) n_)
end
theorem aPr{n:Nat}(ha:a<bz^n)(h0:a≠0)(h63:n<35184372088832):cx prog 145 [.r n (aw (ae bz n a))] (.string (BA (cO a))):=by
 have hL:a<256^(3*n):=by rw[tu];exact ha
 have AX:=λBs=>W3 (Bs:=Bs) (a:=a) h63;have xh:=λBs=>aPq (Bs:=Bs) hL h0 o_;have e0:List.replicate (3*n) (vb 0)=u9 n a 0:=by unfold u9 iy;simp[OV,vb]
 have e1:u9 n a (3*n)=iy (ik (3*n) a):=by unfold u9;rw[wR];rfl
 have hle:=jK (B:=256) d_ hL;have ht:((iy (ik (3*n) a)).drop ((3*n-nd 256 a)*1)).take (nd 256 a)=iy (cO a):=by rw[W5 hL,OZ,gZ,S2 (by rw[F9];simp),lh (by rw[F9,uL];exact bF _)]
 unfold Bc at AX;rw[e1]at AX;rw[<-e0]at AX;unfold yZ at xh;have hl:3*n-(3*n-nd 256 a)=nd 256 a:=by omega
 unfold yY at xh;rw[hl]at xh;exact iL mixed func145 (by simp[aQ.ok,iU]) 100 (N:=45) k_ (λw=>[.tW 7 3 n (3*n) rfl o_,.qR f145 8 1 (3*n) 5 1 (vb 0) (List.replicate (3*n) (vb 0)) rfl rfl rfl o_ (by simp[maxLen];omega) k_,.code 0 _ _ _ _ _ (AX _),.code 2 _ _ _ _ _ (xh _),.aOV f145 44 1 ((3*n-nd 256 a)*1) (nd 256 a) (3*n-nd 256 a) (cO a) (.row (iy (ik (3*n) a)) 5 1) rfl ht (uL a) k_]) (λw=>k_) rfl
theorem aPs:cx prog 145 [.r 0 (aw (ae bz 0 0))] (.string (BA (cO 0))):=by have AX:=λBs=>W3 (Bs:=Bs) (a:=0) (n:=0) o_;rw[D0];exact iL mixed func145 (by simp[aQ.ok,iU]) 100 (N:=45) k_ (λw=>[.tW 7 3 0 0 rfl o_,.qR f145 8 1 0 5 1 (vb 0) [] rfl rfl rfl o_ (by simp[maxLen]) k_,.code 0 _ _ _ _ _ (AX _),.gt 34 0 0 false rfl,.Uc f145 44 1 0 [] (.row [] 5 1) rfl rfl rfl k_]) (λw=>k_) rfl
noncomputable def EL(Bs:aa)(i m:Nat)(h:0<m)(hl:dU prog 5 (iy (List.replicate 9 0)) (i*1)=some (vb 0)):bN prog Bs 45:=[.gt 34 (m+1) 0 true s_,.qx f145 37 1 i (m+1) i 0 i 1 o_ (jv i) k_,.ld f145 38 5 1 (i*1) (.row (iy (List.replicate 9 0)) 5 1) (vb 0) rfl hl k_,.gH 39 0 0 true rfl,.next f145 42 1 i m 1 h k_]
theorem aPt:cx prog 145 [.r 3 (aw (ae bz 3 0))] (.string (BA (cO 0))):=by
 have AX:=λBs=>W3 (Bs:=Bs) (a:=0) (n:=3) o_;rw[D0];exact iL mixed func145 (by simp[aQ.ok,iU]) 300 (N:=45) k_ (λw=>[.tW 7 3 3 9 rfl o_,.qR f145 8 1 9 5 1 (vb 0) (List.replicate 9 (vb 0)) rfl rfl rfl o_ (by simp[maxLen]) k_,.code 0 _ _ _ _ _ (AX _)]++(EL _ 0 8 o_ (yX _ _ rfl)++(EL _ 1 7 o_ (yX _ _ rfl)++(EL _ 2 6 o_ (yX _ _ rfl)++(EL _ 3 5 o_ (yX _ _ rfl)++(EL _ 4 4 o_ (yX _ _ rfl)++(EL _ 5 3 o_ (yX _ _ rfl)++(EL _ 6 2 o_ (yX _ _ rfl)++(EL _ 7 1 o_ (yX _ _ rfl)++
  [.gt 34 1 0 true rfl,.qx f145 37 1 8 1 8 0 8 1 o_ rfl k_,.ld f145 38 5 1 8 (.row (iy (List.replicate 9 0)) 5 1) (vb 0) rfl (yX _ _ rfl) k_,.gH 39 0 0 true rfl,.aOU f145 42 1 8 1 8 1 2 (.row (iy (List.replicate 9 0)) 5 1) rfl k_,.gt 34 0 0 false rfl,.Uc f145 44 2 0 [] (.view []) rfl rfl rfl k_]))))))))) (λw=>k_) rfl
structure Q8(n a:Nat):Prop where
 lt:a<bz^n
 z:a=0->n=0\/n=3
 h63:n<35184372088832
theorem aEl{n:Nat}(h:Q8 n a):cx prog 145 [.r n (aw (ae bz n a))] (.string (BA (cO a))):=by
 by_cases h0:a=0
 ·subst h0;rcases h.z rfl with rfl|rfl
  ·exact aPs
  ·exact aPt
 ·exact aPr h.lt h0 h.h63
theorem aPu(h:nd bz a<35184372088832):Q8 (nd bz a) a:=⟨eE d_ a,λe=>.inl (by rw[e,oV]),h⟩
theorem aEm{n:Nat}(neg:Bool)(h:Q8 n a):cx prog 98 [.p (.bool neg),.r n (aw (ae bz n a))] (bd (sg neg a)):=by
 rw[<-wU];have e:(!((BA (cO a)).toList==(ByteArray.mk #[]).toList))=decide (a≠0):=by rw[qZ];simp
 cases neg
 ·exact iL mixed func98 (by simp[aQ.ok,iU];rfl) 100 (N:=15) k_ (λw=>[.step 7 (az f98 7) _ _ _ _ (dJ (aEl h) (.w (k:=0) (cc:=0) (x:=.view (aw (ae bz n a))) rfl (iU _) (λe=>by subst e;rfl) .nil) (x:=.func 145) k_ k_ rfl)]) (λw=>k_) rfl
 ·exact iL mixed func98 (by simp[aQ.ok,iU];rfl) 100 (N:=15) k_ (λw=>[.step 7 (az f98 7) _ _ _ _ (dJ (aEl h) (.w (k:=0) (cc:=0) (x:=.view (aw (ae bz n a))) rfl (iU _) (λe=>by subst e;rfl) .nil) (x:=.func 145) k_ k_ rfl),.rw 11 (.bool (!((BA (cO a)).toList==(ByteArray.mk #[]).toList))) (.bool (decide (a≠0))) (by rw[e])]) (λw=>k_) rfl
theorem aXy(neg:Bool)(l:List UInt8):aH prog 61 [.agg #[.bool neg,.string (BA l)]] (.bool (yt neg l)):=by
 cases l with
 |nil=>exact bI func61 (λ_=>[.rw 5 (.bool ((BA []).toList==(ByteArray.mk #[]).toList)) b_ (by rw[F2];rfl)])
 |cons c l=>
  have e:(((c.toNat:Nat):Int)!=0)=decide (c≠0):=by
   by_cases h:c=0
   ·subst h;rfl
   ·rw[aJ h,rW];intro h2;exact h (OP.1 (by simpa using h2))
  exact bI func61 (λ_=>[.rw 5 (.bool ((BA (c::l)).toList==(ByteArray.mk #[]).toList)) a_ (by rw[F2];rfl),.sx f61 11 (BA (c::l)) 0 c (by rw[KR];rfl) k_,.rw 12 (.bool (((c.toNat:Nat):Int)!=0)) (.bool (decide (c≠0))) (by rw[e])])
theorem aEn(neg:Bool)(h:neg=true->m≠0):yt neg (cO m)=true:=by
 by_cases hm:m=0
 ·subst hm;rw[D0];cases neg
  ·rfl
  ·exact absurd rfl (h rfl)
 ·obtain⟨c,l,h1,h2⟩:=OX hm;rw[h1];exact aJ h2
theorem aX7(neg:Bool)(h:neg=true->m≠0):aH prog 61 [sv neg m] b_:=by have:=aXy neg (cO m);rw[aEn neg h]at this;exact this
theorem aXr(z:Int):aH prog 61 [bd z] b_:=
 tD (C:=λ_ v=>aH prog 61 [v] b_) (λ_=>aX7 false n_) (λ_ hm=>aX7 true λ_=>hm) z
theorem aXK(h:z.natAbs<=9223372036854775808)(Mp:z<9223372036854775808):aH prog 49 [.int .i64 z] (bd z):=by
 obtain⟨m,hm⟩:∃ m,m=z.natAbs:=⟨_,rfl⟩;have aW9:m<18446744073709551616:=by omega
 have hb:Q8 3 m:=⟨by
  have e:bz^3=4722366482869645213696:=by decide
  rw[e];omega,λ_=>.inr rfl,by omega⟩
 have jW:aw (ae bz 3 m)=[vI (m/bz^0%bz),vI (m/bz^1%bz),vI (m/bz^2%bz)]:=rfl;have hs:=λneg=>aEm neg hb;obtain⟨x0,lQ⟩:∃ x,x=m/bz^0%bz:=⟨_,rfl⟩;obtain⟨x1,vR⟩:∃ x,x=m/bz^1%bz:=⟨_,rfl⟩;obtain⟨x2,iD⟩:∃ x,x=m/bz^2%bz:=⟨_,rfl⟩;rw[<-lQ,<-vR,<-iD]at jW;rw[jW]at hs;have lQ:m%16777216=x0:=by rw[lQ,tn,F4]
 have vR:m/16777216%16777216=x1:=by rw[vR,Cg]
 have iD:m/16777216/16777216=x2:=by rw[iD,show bz^2=16777216*16777216 by decide,<-lJ];exact(dZ (by show _<16777216;omega)).symm
 have u0:Int.tmod (m:Int) 16777216=(x0:Int):=by rw[Ar o_];omega
 obtain⟨q,hq⟩:∃ q,q=m/16777216:=⟨_,rfl⟩;rw[<-hq]at vR iD;have uq:IntKind.u64.wrap (Int.tdiv (m:Int) 16777216)=(q:Int):=by rw[Cd o_,kK];omega
 have u1:Int.tmod (q:Int) 16777216=(x1:Int):=by rw[Ar o_];omega
 have u2:IntKind.u64.wrap (Int.tdiv (q:Int) 16777216)=(x2:Int):=by rw[Cd o_,kK];omega
 have w0:IntKind.i64.wrap (x0:Int)=(x0:Int):=by rw[eD];omega
 have w1:IntKind.i64.wrap (x1:Int)=(x1:Int):=by rw[eD];omega
 have w2:IntKind.i64.wrap (x2:Int)=(x2:Int):=by rw[eD];omega
 have cV:∀ v∈[vI x0,vI x1,vI x2],flat v=true:=λv hv=>by simp at hv;rcases hv with rfl|rfl|rfl<;>rfl
 let tl:∀(Bs:aa) (t:Bool),bN prog Bs 25:=λBs t=>[.rw 11 (.bool (decide (z<0))) (.bool (decide (z<0))) rfl,.rw 13 (.int .u64 (Int.tmod (m:Int) 16777216)) (.int .u64 (x0:Int)) (by rw[u0]),.wr 14 .i64 (x0:Int) (x0:Int) w0,.wr 16 .u64 (Int.tdiv (m:Int) 16777216) (q:Int) uq,.rw 17 (.int .u64 (Int.tmod (q:Int) 16777216)) (.int .u64 (x1:Int)) (by rw[u1]),.wr 18 .i64 (x1:Int) (x1:Int) w1,.wr 20 .u64 (Int.tdiv (m:Int) 16777216) (q:Int) uq,.wr 21 .u64 (Int.tdiv (q:Int) 16777216) (x2:Int) u2,.wr 22 .i64 (x2:Int) (x2:Int) w2,.bs Tryz.f49 23 1 3 3 1 [0,1,2] (vI 0) [vI x0,vI x1,vI x2] #[vI x0,vI x1,vI x2] (.row [vI x0,vI x1,vI x2] 3 1) rfl cV cV k_ rfl o_ o_ k_,.step 24 (az Tryz.f49 24) _ _ _ _ (dJ (hs t) (.p rfl (.w (k:=1) (cc:=0) (x:=.row [vI x0,vI x1,vI x2] 3 1) rfl rfl n_ .nil)) (x:=.func 98) k_ k_ rfl)]
 by_cases hz:z<0
 ·have e2:sg true m=z:=by show -(m:Int)=z;omega
  rw[<-show bd (sg true m)=bd z by rw[e2]];exact bI func49 (λ_=>.wr 5 .u64 z (z+18446744073709551616) (by rw[kK];omega)::.rw 7 (.bool (decide (z<0))) b_ (by rw[aJ hz])::
   .wr 9 .u64 (0-(z+18446744073709551616)) (m:Int) (by rw[kK];omega)::.rw 11 (.bool (decide (z<0))) b_ (by rw[aJ hz])::(tl _ true).tail)
 ·have e2:sg false m=z:=by show(m:Int)=z;omega
  rw[<-show bd (sg false m)=bd z by rw[e2]];exact bI func49 (λ_=>.wr 5 .u64 z (m:Int) (by rw[kK];omega)::.rw 7 (.bool (decide (z<0))) a_ (by rw[aY hz])::
   .rw 11 (.bool (decide (z<0))) a_ (by rw[aY hz])::(tl _ false).tail)
theorem aXt(z:Int):aH prog 50 [bd z] (.int .i64 z.sign):=by
 refine tD (C:=λz v=>aH prog 50 [v] (.int .i64 z.sign)) (λm=>?_) (λm hm=>?_) z
 ·by_cases h:m=0
  ·subst h;exact bI func50 (λ_=>[(aX7 false (m:=0) n_).at 5,.rw 10 (.bool ((BA (cO 0)).toList==(ByteArray.mk #[]).toList)) b_ (by rw[qZ];rfl)])
  ·have e:((m:Nat):Int).sign=1:=Cz o_;rw[e];exact bI func50 (λ_=>[(aX7 false (m:=m) n_).at 5,.rw 10 (.bool ((BA (cO m)).toList==(ByteArray.mk #[]).toList)) a_ (by rw[qZ,aY h])])
 ·have e:(-(m:Int)).sign=-1:=Ge o_;rw[e];exact bI func50 (λ_=>[(aX7 true (m:=m) (λ_=>hm)).at 5,.rw 10 (.bool ((BA (cO m)).toList==(ByteArray.mk #[]).toList)) a_ (by rw[qZ,aY hm])])
theorem aX6(z:Int):aH prog 41 [bd z] (bd (-z)):=by
 refine tD (C:=λz v=>aH prog 41 [v] (bd (-z))) (λm=>?_) (λm hm=>?_) z
 ·by_cases h:m=0
  ·subst h;have e:bd (-((0:Nat):Int))=.agg #[.bool false,.string ⟨#[]⟩]:=by show Value.agg #[.bool false,.string (BA (cO 0))]=_;rw[D0];rfl
   rw[e];exact bI func41 (λ_=>[(aX7 false (m:=0) n_).at 4,.rw 9 (.bool ((BA (cO 0)).toList==(ByteArray.mk #[]).toList)) b_ (by rw[qZ];rfl)])
  ·have e:=wU true m;rw[<-show sg true m=-(m:Int)from rfl,<-e];unfold Cr;rw[aJ h];exact bI func41 (λ_=>[(aX7 false (m:=m) n_).at 4,.rw 9 (.bool ((BA (cO m)).toList==(ByteArray.mk #[]).toList)) a_ (by rw[qZ,aY h])])
 ·have e:=wU false m;rw[K8,<-show sg false m=(m:Int)from rfl,<-e];exact bI func41 (λ_=>[(aX7 true (m:=m) (λ_=>hm)).at 4,.rw 9 (.bool ((BA (cO m)).toList==(ByteArray.mk #[]).toList)) a_ (by rw[qZ,aY hm])])
theorem W6(z:Int):aH prog 53 [bd z] (bd (z.natAbs:Int)):=by
 refine tD (C:=λz v=>aH prog 53 [v] (bd (z.natAbs:Int))) (λm=>?_) (λm hm=>?_) z
 ·exact bI func53 (λ_=>[(aX7 false (m:=m) n_).at 4])
 ·rw[K7];exact bI func53 (λ_=>[(aX7 true (m:=m) (λ_=>hm)).at 4])
section
variable{Bs:aa}{n a b:Nat}
def C7(n i:Nat):aU:=[(5,dw i),(0,sl 0 n),(1,sl 1 n)]
def tX(n a b:Nat):aL:=[(0,.view (aw (ae bz n a))),(1,.view (aw (ae bz n b)))]
theorem vf{x y:Nat}(h:decide (x≠y)=t):Value.bool ((x:Int)!=(y:Int))=.bool t:=by
 rw[<-h];congr 1
 by_cases e:x=y
 ·subst e;simp
 ·rw[aJ e,rW];omega
noncomputable def W7(n a b j:Nat)(hj:j<n)(t:Bool)(h:decide (a/bz^j%bz≠b/bz^j%bz)=t)(more:bN prog Bs 41):bN prog Bs 41:=
 .rw 19 (dw (j+1)) (vI j) (eH j)::.ge 20 j 0 true s_::.rw 24 (dw (j+1)) (vI j) (eH j)::.ix f103 25 0 n j hj k_::.ld f103 26 3 0 j (.view (aw (ae bz n a))) (vI (a/bz^j%bz)) rfl (eB (eU hj)) k_::
  .rw 28 (dw (j+1)) (vI j) (eH j)::.ix f103 29 1 n j hj k_::.ld f103 30 3 1 j (.view (aw (ae bz n b))) (vI (b/bz^j%bz)) rfl (eB (eU hj)) k_::.rw 31 _ (.bool t) (vf h)::more
noncomputable def aEo(n a b j:Nat)(hj:j<n)(t:Bool)(h:decide (a/bz^j%bz<b/bz^j%bz)=t):bN prog Bs 41:=
 [.rw 33 (dw (j+1)) (vI j) (eH j),.ix f103 34 0 n j hj k_,.ld f103 35 3 0 j (.view (aw (ae bz n a))) (vI (a/bz^j%bz)) rfl (eB (eU hj)) k_,.rw 37 (dw (j+1)) (vI j) (eH j),.ix f103 38 1 n j hj k_,.ld f103 39 3 1 j (.view (aw (ae bz n b))) (vI (b/bz^j%bz)) rfl (eB (eU hj)) k_,.lt 40 (a/bz^j%bz) (b/bz^j%bz) t h]
theorem aPv(hj:j<n)(he:a/bz^j%bz=b/bz^j%bz)(h63:n<35184372088832):
  ah prog Bs 41 (aK (ai f103 0)) (C7 n (j+1)) (tX n a b) 2 ⟨.normal,C7 n j,tX n a b,2⟩:=
 aG (W7 n a b j hj false (by simp[he]) [.rw 21 (dw (j+1)) (vI j) (eH j),.wr 22 .i64 ((j:Int)-1) ((j:Int)-1) (pE o_)])
theorem aPw(hj:j<n)(ao:a/bz^j%bz<b/bz^j%bz):
  ah prog Bs 41 (aK (ai f103 0)) (C7 n (j+1)) (tX n a b) 2 ⟨.ret,[(4,.int .i64 (-1))],tX n a b,2⟩:=
 aG (W7 n a b j hj true (aJ o_) (aEo n a b j hj true (aJ ao)))
theorem aPx(hj:j<n)(ao:b/bz^j%bz<a/bz^j%bz):
  ah prog Bs 41 (aK (ai f103 0)) (C7 n (j+1)) (tX n a b) 2 ⟨.ret,[(4,.int .i64 1)],tX n a b,2⟩:=
 aG (W7 n a b j hj true (aJ o_) (aEo n a b j hj false (aY o_)))
theorem aPy:ah prog Bs 41 (aK (ai f103 0)) (C7 n 0) (tX n a b) 2 ⟨.exit 0,[],tX n a b,2⟩:=
 aG [.rw 20 (.bool (decide (((0:Nat):Int)-1>=0))) a_ rfl]
theorem aPz(ha:a<bz^n)(hb:b<bz^n)(h63:n<35184372088832):
  ah prog Bs 41 (.block 0 (ai f103 0)) (C7 n n) (tX n a b) 2 (if a=b then⟨.normal,[],tX n a b,2⟩else⟨.ret,[(4,.int .i64 (iH a b))],tX n a b,2⟩):=by
 obtain⟨e,h1,h2,h3⟩:=Ah (λt=>¬(t<n/\a/bz^(n-1-t)%bz=b/bz^(n-1-t)%bz)) n o_;have vL:=aAD ha hb e h1 λs hs=>(F3.1 (h3 s hs)).2;have go:∀(r:nh),r.ex≠.normal->ah prog Bs 41 (aK (ai f103 0)) (C7 n (n-e)) (tX n a b) 2 r->ah prog Bs 41 (.loop (aK (ai f103 0))) (C7 n n) (tX n a b) 2 r:=by
  intro r hr qk
  exact cz (P:=prog) (B:=Bs) (N:=41) (b:=aK (ai f103 0)) (next:=2) (r:=r) e (λi=>C7 n (n-i)) (λ_=>tX n a b) (λi k _=>Iff.rfl)
   (λi hi=>by
    have q:=F3.1 (h3 i hi);have e1:n-i=(n-(i+1))+1:=by omega
    have e2:n-1-i=n-(i+1):=by omega
    simp only[e1];exact aPv o_ (by rw[<-e2];exact q.2) h63) qk hr
 by_cases DT:e=n
 ·have cd:a=b:=by rw[DT,wR,tn,F4,F4]at vL;exact vL
  rw[aA cd];have:=go ⟨.exit 0,[],tX n a b,2⟩ n_ (by rw[DT,wR];exact aPy);exact cg (id:=0) this
 ·have hj:n-e=(n-1-e)+1:=by omega
  have bB:a/bz^(n-1-e)%bz≠b/bz^(n-1-e)%bz:=λh=>h2 ⟨by omega,h⟩;rw[hj]at vL go;have cd:a≠b:=λh=>bB (by rw[h]);rw[au cd];rcases FG bB with ao|uC
  ·have hl:=OE vL ao;have e1:iH a b=-1:=by unfold iH;rw[aA hl]
   rw[e1];exact cg (id:=0) (go _ n_ (aPw o_ ao))
  ·have hl:=OE vL.symm uC;have e1:iH a b=1:=by unfold iH;rw[au o_,aA hl]
   rw[e1];exact cg (id:=0) (go _ n_ (aPx o_ uC))
end
theorem W8(h1:nd bz a<35184372088832)(h2:nd bz b<35184372088832):cx prog 103 [j7 a,j7 b] (.int .i64 (iH a b)):=by
 have ha:=eE (B:=bz) d_ a;have hb:=eE (B:=bz) d_ b;have c8:nd bz a<nd bz b->a<b:=λh=>by
  rcases fo a b with h1|h1
  ·exact h1
  ·have:=jL (B:=bz) d_ h1;omega
 have dE:nd bz b<nd bz a->b<a:=λh=>by
  rcases fo b a with h1|h1
  ·exact h1
  ·have:=jL (B:=bz) d_ h1;omega
 have aC:([j7 a,j7 b].all aQ.ok)=true:=by simp[Jv]
 unfold j7 cK at aC ⊢;generalize nd bz a=n at *;generalize nd bz b=m at *;by_cases kX:n=m
 ·subst kX;have lo:=λBs=>aPz (Bs:=Bs) ha hb h1;by_cases cd:a=b
  ·simp only[aA cd]at lo;have e1:iH a b=0:=by unfold iH;rw[au o_,au o_]
   rw[e1];exact iL mixed func103 aC 100 (N:=41) k_ (λw=>[.rw 10 _ a_ (vf (x:=n) (y:=n) s_),.wr 18 .i64 ((n:Int)-1) ((n:Int)-1) (pE o_),.code 0 _ _ _ _ _ (lo _)]) (λw=>k_) rfl
  ·simp only[au cd]at lo;exact iL mixed func103 aC 100 (N:=41) k_ (λw=>[.rw 10 _ a_ (vf (x:=n) (y:=n) s_),.wr 18 .i64 ((n:Int)-1) ((n:Int)-1) (pE o_),.code 0 _ _ _ _ _ (lo _)]) (λw=>k_) rfl
 ·rcases FG kX with ao|uC
  ·have e1:iH a b=-1:=by unfold iH;rw[aA (c8 ao)]
   rw[e1];exact iL mixed func103 aC 100 (N:=41) k_ (λw=>[.rw 10 _ b_ (vf (x:=n) (y:=m) (aJ kX)),.lt 15 n m true (aJ ao)]) (λw=>k_) rfl
  ·have e1:iH a b=1:=by unfold iH;rw[au (by have:=dE uC;omega),aA (dE uC)]
   rw[e1];exact iL mixed func103 aC 100 (N:=41) k_ (λw=>[.rw 10 _ b_ (vf (x:=n) (y:=m) (aJ kX)),.lt 15 n m false (aY o_)]) (λw=>k_) rfl
section
variable{Bs:aa}{m:Nat}{neg:Bool}
def EM(m i:Nat):aU:=[(5,vI i),(1,ptr 0),(4,.int .u64 ((m/256^(nd 256 m-i):Nat):Int))]
def EN(neg:Bool)(m:Nat):aL:=[(0,.aI [.bool neg,.string (BA (cO m))] 28)]
theorem aPA{m:Nat}(h:i<nd 256 m):∃ c,(BA (cO m))[nd 256 m-1-i]?=some c/\c.toNat=m/256^i%256:=by
 obtain⟨c,h1,h2⟩:=TY (BA (cO m)) (i:=i) (by rw[pD,uL];exact h);rw[pD,uL]at h1;refine⟨c,h1,?_⟩;rw[h2]
 congr 2
 show gJ (BA (cO m)).data.toList=m;exact F8 m
theorem aPB(hi:i<nd 256 m)(hm:nd 256 m<=7):
  ah prog Bs 52 (aK (ai f146 0)) (EM m i) (EN neg m) 1 ⟨.normal,EM m (i+1),EN neg m,1⟩:=by
 have ao:m<256^7:=cH (eE (B:=256) d_ m) (dj d_ hm);obtain⟨c,gY,du⟩:=aPA (m:=m) (i:=nd 256 m-1-i) o_;have bL:(((BA (cO m)).size:Nat):Int)=(nd 256 m:Int):=by rw[pD,uL]
 unfold EM EN;generalize BA (cO m)=s at *;generalize nd 256 m=L at *;rw[show L-1-(L-1-i)=i by omega]at gY;obtain⟨j,hj⟩:∃ j,j=L-1-i:=⟨_,rfl⟩;have e1:L-i=j+1:=by omega
 have e2:L-(i+1)=j:=by omega
 rw[e1,e2];rw[<-hj]at du;have hd:m/256^j=m/256^(j+1)*256+m/256^j%256:=ya m j;rw[<-du]at hd;have hq:m/256^(j+1)<=m:=uK _ _;have qQ:m/256^(j+1)*256<=m:=by rw[dH,<-lJ];exact dq (D6 _ _) (uK _ _)
 generalize m/256^(j+1)=x at *;generalize m/256^j=y at *;have hc3:=c.toNat_lt;have W9:(256:Nat)^7=72057594037927936:=by decide
 rw[W9]at ao;have ws:IntKind.u64.wrap ((x:Int)*2^8)=((x*256:Nat):Int):=by rw[show((x:Int)*2^8)=((x*256:Nat):Int)by simp,kK];omega
 have wc:IntKind.u64.wrap (c.toNat:Int)=(c.toNat:Int):=by rw[kK];omega
 have wa:IntKind.u64.wrap (((x*256:Nat):Int)+(c.toNat:Int))=(y:Int):=by rw[kK];omega
 exact aG [.rw 18 (.int .i64 (s.size:Int)) (vI L) (by rw[bL];rfl),.lt 19 i L true (aJ hi),.wr 23 .u64 ((x:Int)*2^8) _ ws,.sx f146 27 s i c gY k_,.wr 28 .u64 (c.toNat:Int) _ wc,.wr 29 .u64 _ _ wa,.sum 21 i 1 (i+1) rfl o_]
theorem aPC(hm:nd 256 m<=7):ah prog Bs 52 (.block 0 (ai f146 0)) (EM m 0) (EN neg m) 1 ⟨.normal,EM m (nd 256 m),EN neg m,1⟩:=
 cg (id:=0) (cz (b:=aK (ai f146 0)) (r:=⟨.exit 0,EM m (nd 256 m),EN neg m,1⟩) (nd 256 m) (EM m) (λ_=>EN neg m) (λ_ _ _=>Iff.rfl) (λk hk=>aPB hk hm)
  (aG [.rw 18 (.int .i64 ((BA (cO m)).size:Int)) (vI (nd 256 m)) (by rw[pD,uL];rfl),.lt 19 (nd 256 m) (nd 256 m) false s_]) n_)
end
theorem aPD{neg:Bool}(hv:neg=true->m≠0)(hm:nd 256 m<=7):aH prog 146 [sv neg m] (.tuple #[.int .i64 (sg neg m),.bool true]):=by
 have lo:=λBs=>aPC (Bs:=Bs) (neg:=neg) hm;have ao:m<256^7:=cH (eE (B:=256) d_ m) (dj d_ hm);have W9:(256:Nat)^7=72057594037927936:=by decide
 rw[W9]at ao;have e0:m/256^(nd 256 m-0)=0:=nj (eE (B:=256) d_ m);have e1:m/256^(nd 256 m-nd 256 m)=m:=by rw[wR,tn,F4]
 unfold EM at lo;simp only[e0,e1]at lo;have bL:(((BA (cO m)).size:Nat):Int)=(nd 256 m:Int):=by rw[pD,uL]
 have nX:=aX7 neg hv;unfold EN at lo;unfold sv oX at nX ⊢;generalize BA (cO m)=s at *;generalize nd 256 m=L at *;have hle:decide ((L:Int)>8)=false:=aY o_;cases neg
 ·have w:IntKind.i64.wrap (m:Int)=(m:Int):=by rw[eD];omega
  exact bI func146 (λ_=>[nX.at 7,.rw 12 (.int .i64 (s.size:Int)) (vI L) (by rw[bL];rfl),.rw 13 (.bool (decide ((L:Int)>8))) a_ (by rw[hle]),.code 0 _ _ _ _ _ (lo _),.rw 48 (.bool (decide ((m:Int)<9223372036854775808))) b_ (by rw[aJ o_]),.wr 51 .i64 (m:Int) (m:Int) w])
 ·have w0:IntKind.u64.wrap ((m:Int)-1)=(m:Int)-1:=by have:=hv rfl;rw[kK];omega
  have w1:IntKind.i64.wrap ((m:Int)-1)=(m:Int)-1:=by rw[eD];omega
  have w2:IntKind.i64.wrap (0-((m:Int)-1))=1-(m:Int):=by rw[eD];omega
  have w3:IntKind.i64.wrap (1-(m:Int)-1)=sg true m:=by rw[eD];show _=-(m:Int);omega
  exact bI func146 (λ_=>[nX.at 7,.rw 12 (.int .i64 (s.size:Int)) (vI L) (by rw[bL];rfl),.rw 13 (.bool (decide ((L:Int)>8))) a_ (by rw[hle]),.code 0 _ _ _ _ _ (lo _),.rw 35 (.bool (decide ((m:Int)<=9223372036854775808))) b_ (by rw[aJ o_]),.wr 38 .u64 _ _ w0,.wr 39 .i64 _ _ w1,.wr 40 .i64 _ _ w2,.wr 41 .i64 _ _ w3])
theorem Xa{neg:Bool}(hv:neg=true->m≠0)(hm:nd 256 m<=7):aH prog 99 [sv neg m] (.tuple #[.int .i64 (sg neg m),.bool true]):=by
 have h:=aPD hv hm;have bL:(((BA (cO m)).size:Nat):Int)=(nd 256 m:Int):=by rw[pD,uL]
 unfold sv oX at h ⊢;generalize BA (cO m)=s at *;generalize nd 256 m=L at *;exact bI func99 (λ_=>[.rw 8 (.int .i64 (s.size:Int)) (vI L) (by rw[bL];rfl),.rw 9 (.bool (decide ((L:Int)>7))) a_ (by rw[aY o_]),h.at 12])
theorem aPE{neg:Bool}(hm:¬nd 256 m<=7):aH prog 99 [sv neg m] (.tuple #[.int .i64 0,.bool false]):=by
 have bL:(((BA (cO m)).size:Nat):Int)=(nd 256 m:Int):=by rw[pD,uL]
 unfold sv oX;generalize BA (cO m)=s at *;generalize nd 256 m=L at *;exact bI func99 (λ_=>[.rw 8 (.int .i64 (s.size:Int)) (vI L) (by rw[bL];rfl),.rw 9 (.bool (decide ((L:Int)>7))) b_ (by rw[aJ o_])])
section
variable{Bs:aa}{N:Nat}
theorem aPF(m:Nat):(nd 256 m+2)/3=nd bz m:=by
 have e:bz=256^3:=by decide
 have h1:nd bz m<=(nd 256 m+2)/3:=jK d_ (by rw[e,<-tu];exact cH (eE (B:=256) d_ m) (dj d_ o_))
 have h2:nd 256 m<=3*nd bz m:=jK d_ (by have:=eE (B:=bz) d_ m;rw[e,<-tu]at this;rw[e];exact this)
 omega
theorem Jy(h:nd 256 m<35184372088832):mz prog 100 [.p (oX m)] 3 1 (nd bz m) (cK m):=by
 have hs:(BA (cO m)).size=nd 256 m:=by rw[pD,uL]
 have hv:lk (BA (cO m))=m:=by show gJ (BA (cO m)).data.toList=m;exact F8 m
 have:=aOS (s:=BA (cO m)) (by rw[hs];exact h);rw[hs,hv,aPF]at this;exact this
theorem oH{x:Obj}(hr:x.reads=true)(hc:x.cells=cK a){nd':q_}(h:gC Bs l vs nd'):gC Bs (j7 a::l) (sl k (nd bz a)::vs) ((k,some x)::nd'):=by unfold j7;rw[<-hc];exact .w hr (by rw[hc];exact tU a) (λe=>by rw[hc];exact aOi e) h
def jD(a:Nat):Obj:=.row (cK a) 3 1
def aZ.y0(fn:Func)(key k m:Nat)(h:nd 256 m<35184372088832)(ho:dC (az fn key).op=some (.func 100)):aZ prog Bs N:=
 .step key (az fn key) [.func (.func 100) #[] #[],oX m] [(k,none)] (sl k (nd bz m)) [(k,jD m)] (sn (Jy h) (.p rfl .nil) ho k_ (tU m) k)
def aZ.aEp(fn:Func)(key k k1 k2 a b:Nat)(x1 x2:Obj)(vg:x1.reads=true)(gY:x1.cells=cK a)(lM:x2.reads=true)(du:x2.cells=cK b)(h1:nd bz a<35184372088832)(h2:nd bz b<35184372088832)
  (ho:dC (az fn key).op=some (.func 101)):aZ prog Bs N:=
 .step key (az fn key) [.func (.func 101) #[] #[],sl k1 (nd bz a),sl k2 (nd bz b)] [(k,none),(k1,some x1),(k2,some x2)] (sl k (nd bz (a+b))) [(k,jD (a+b))] (sn (aEe h1 h2) (oH vg gY (oH lM du .nil)) ho k_ (tU _) k)
def aZ.MH(fn:Func)(key k k1 k2 a b:Nat)(x1 x2:Obj)(vg:x1.reads=true)(gY:x1.cells=cK a)(lM:x2.reads=true)(du:x2.cells=cK b)(cd:b<=a)(h1:nd bz a<35184372088832)
  (ho:dC (az fn key).op=some (.func 104)):aZ prog Bs N:=
 .step key (az fn key) [.func (.func 104) #[] #[],sl k1 (nd bz a),sl k2 (nd bz b)] [(k,none),(k1,some x1),(k2,some x2)] (sl k (nd bz (a-b))) [(k,jD (a-b))] (sn (aPa cd h1) (oH vg gY (oH lM du .nil)) ho k_ (tU _) k)
def aZ.aPG(fn:Func)(key k k1 k2 a b:Nat)(x1 x2:Obj)(vg:x1.reads=true)(gY:x1.cells=cK a)(lM:x2.reads=true)(du:x2.cells=cK b)(h:nd bz a+nd bz b<35184372088832)
  (ho:dC (az fn key).op=some (.func 133)):aZ prog Bs N:=
 .step key (az fn key) [.func (.func 133) #[] #[],sl k1 (nd bz a),sl k2 (nd bz b)] [(k,none),(k1,some x1),(k2,some x2)] (sl k (nd bz (a*b))) [(k,jD (a*b))] (sn (W0 h) (oH vg gY (oH lM du .nil)) ho k_ (tU _) k)
def aZ.Jz(fn:Func)(key k1 k2 a b:Nat)(x1 x2:Obj)(vg:x1.reads=true)(gY:x1.cells=cK a)(lM:x2.reads=true)(du:x2.cells=cK b)(h1:nd bz a<35184372088832)(h2:nd bz b<35184372088832)
  (ho:dC (az fn key).op=some (.func 103)):aZ prog Bs N:=
 .step key (az fn key) [.func (.func 103) #[] #[],sl k1 (nd bz a),sl k2 (nd bz b)] [(k1,some x1),(k2,some x2)] (.int .i64 (iH a b)) [] (dJ (W8 h1 h2) (oH vg gY (oH lM du .nil)) ho k_ rfl)
def aZ.Bd(fn:Func)(key k1 a:Nat)(neg:Bool)(x1:Obj)(vg:x1.reads=true)(gY:x1.cells=cK a)(h1:nd bz a<35184372088832)
  (ho:dC (az fn key).op=some (.func 98)):aZ prog Bs N:=
 .step key (az fn key) [.func (.func 98) #[] #[],.bool neg,sl k1 (nd bz a)] [(k1,some x1)] (bd (sg neg a)) [] (dJ (aEm neg (aPu h1)) (.p rfl (oH vg gY .nil)) ho k_ rfl)
theorem y7{n:Nat}(h:m<2^n):nd bz m<=n:=jK d_ (cH h (aBH d_ n))
end
theorem aPH(h:decide (b<=a)=t):Value.bool (decide (iH a b>=0))=.bool t:=by
 rw[<-h];congr 1;rw[qh];unfold iH
 by_cases h1:a<b
 ·rw[aA h1];omega
 ·rw[au h1];by_cases h2:b<a
  ·rw[aA h2];omega
  ·rw[au h2];omega
theorem MI(h:nd 256 m<=7):m<72057594037927936:=by have ao:m<256^7:=cH (eE (B:=256) d_ m) (dj d_ h);rwa[show(256:Nat)^7=72057594037927936 by decide]at ao
theorem JA(n:Bool)(m:Nat):-(m:Int)<=sg n m/\sg n m<=m:=by cases n<;>simp[sg]<;>omega
theorem JB{n:Bool}(v:n=true->m≠0):∃(t:Bool) (i:Int),decide (nd 256 m<=7)=t/\aH prog 99 [sv n m] (.tuple #[.int .i64 i,.bool t])/\-72057594037927936<i/\i<72057594037927936/\(t=true->i=sg n m):=by
 by_cases s:nd 256 m<=7
 ·have g:=JA n m;have l:=MI s;exact⟨true,_,aJ s,Xa v s,by omega,by omega,λ_=>rfl⟩
 ·exact⟨false,_,aY s,aPE s,by decide,by decide,λh=>by cases h⟩
theorem Xb{n:Nat}(hk:m<2^k)(hn:k<n):nd bz m<n:=fA (y7 hk) hn
theorem aYa{n1 n2:Bool}{p:Nat}(v1:n1=true->m1≠0)(v2:n2=true->m2≠0)(h1:m1<2^p)(h2:m2<2^q)(hp:p<=1099511627776)(hq:q<=1099511627776):
  aH prog 83 [sv n1 m1,sv n2 m2] (bd (sg n1 m1+sg n2 m2)):=by
 have b1:=y7 h1;have b2:=y7 h2;have c1:=wW h1;have c2:=wW h2;obtain⟨t1,i1,_,q1,l1,u1,g1⟩:=JB v1;obtain⟨t2,i2,_,q2,l2,u2,g2⟩:=JB v2;have bp:nd bz (m1+m2)<35184372088832:=by have e1:=dj (show 0<2 by decide) (show p<=p+q by omega);have e2:=dj (show 0<2 by decide) (show q<=p+q by omega);exact Xb (k:=p+q+1) (by rw[dH];omega) o_
 have k1:=jL (B:=bz) d_ (Gf m1 m2);have k2:=jL (B:=bz) d_ (Gf m2 m1);obtain⟨ge,a,b,gw,cd,ha,e⟩:∃(ge:Bool) (a b:Nat),decide (m2<=m1)=ge/\b<=a/\(a=bif ge then m1 else m2)/\(b=bif ge then m2 else m1):=by
  by_cases h:m2<=m1
  ·exact⟨true,m1,m2,aJ h,h,rfl,rfl⟩
  ·exact⟨false,m2,m1,aY h,by omega,rfl,rfl⟩
 subst ha e;have bm:nd bz ((bif ge then m1 else m2)-bif ge then m2 else m1)<35184372088832:=by cases ge<;>(dsimp only[cond];omega)
 have ba:nd bz (bif ge then m1 else m2)<35184372088832:=by cases ge<;>(dsimp only[cond];omega)
 have e:bd (sg n1 m1+sg n2 m2)=bif t1&&t2 then bd (i1+i2)else bif n1==n2 then bd (sg n1 (m1+m2))else bd (sg (bif ge then n1 else n2) ((bif ge then m1 else m2)-bif ge then m2 else m1)):=by
  cases t1<;>cases t2<;>try (rw[g1 rfl,g2 rfl];rfl)
  all_goals cases n1<;>cases n2<;>cases ge<;>simp[sg]at gw cd ⊢<;>congr 1<;>omega
 rw[e];have w:=aX7 n1 v1;have w2:=aX7 n2 v2;refine fk mixed func83 100 (λ_=>[w.at 12,w2.at 16,q1.at 22]++(bif t1 then[q2.at 28]else[])++bif t1&&t2 then[.wr 34 .i64 (i1+i2) (i1+i2) (by rw[eD];omega),(aXK (z:=i1+i2) o_ o_).at 35]else
   [.y0 f83 38 3 m1 o_ k_,.y0 f83 41 4 m2 o_ k_]++bif n1==n2 then[.aEp f83 52 5 3 4 m1 m2 (jD m1) (jD m2) rfl rfl rfl rfl o_ o_ k_,.Bd f83 53 5 (m1+m2) n1 (jD (m1+m2)) rfl rfl bp k_]else
   [.Jz f83 57 3 4 m1 m2 (jD m1) (jD m2) rfl rfl rfl rfl o_ o_ k_,.rw 58 _ (.bool ge) (aPH gw)]++
   bif ge then[.MH f83 63 5 3 4 _ _ (jD _) (jD _) rfl rfl rfl rfl cd ba k_,.Bd f83 64 5 _ n1 (jD _) rfl rfl bm k_]else
   [.MH f83 69 5 4 3 _ _ (jD _) (jD _) rfl rfl rfl rfl cd ba k_,.Bd f83 70 5 _ n2 (jD _) rfl rfl bm k_]) (λ_=>?_) k_ ?_<;>cases t1<;>cases t2<;>cases n1<;>cases n2<;>cases ge<;>kernel_rfl
theorem aXB{x y:Int}{p:Nat}(h1:x.natAbs<2^p)(h2:y.natAbs<2^q)(hp:p<=1099511627776)(hq:q<=1099511627776):aH prog 83 [bd x,bd y] (bd (x+y)):=by revert h1 h2;refine Gg (C:=λx y v u=>x.natAbs<2^p->y.natAbs<2^q->aH prog 83 [v,u] (bd (x+y))) (λn1 n2 m1 m2 v1 v2 h1 h2=>?_) x y;rw[rh]at h1 h2;exact aYa v1 v2 h1 h2 hp hq
theorem aXv{x y:Int}{p:Nat}(h1:x.natAbs<2^p)(h2:y.natAbs<2^q)(hp:p<=1099511627776)(hq:q<=1099511627776):aH prog 88 [bd x,bd y] (bd (x-y)):=
 bI func88 (λ_=>[(aXr x).at 6,(aXr y).at 10,(aX6 y).at 16,(aXB h1 (by rw[K7];exact h2) hp hq).at 17])
theorem MJ(m:Nat):Value.int .i64 ((BA (cO m)).size:Int)=vI (nd 256 m):=by rw[pD,uL];rfl
theorem aYm{x y:Int}{p:Nat}(h1:x.natAbs<2^p)(h2:y.natAbs<2^q)(hp:p<=1099511627776)(hq:q<=1099511627776):aH prog 84 [bd x,bd y] (bd (x*y)):=by
 revert h1 h2;refine Gg (C:=λx y v u=>x.natAbs<2^p->y.natAbs<2^q->aH prog 84 [v,u] (bd (x*y))) (λn1 n2 m1 m2 v1 v2 h1 h2=>?_) x y;rw[rh]at h1 h2;have b1:=y7 h1;have b2:=y7 h2;have c1:=wW h1;have c2:=wW h2;have k1:=eE (B:=256) d_ m1;have k2:=eE (B:=256) d_ m2;have r1:=MJ m1;have r2:=MJ m2;have e:sg n1 m1*sg n2 m2=sg (n1 !=n2) (m1*m2):=by cases n1<;>cases n2<;>simp[sg,IK,IL]
 obtain⟨t1,i1,d1,q1,_,_,g1⟩:=JB v1;obtain⟨t2,i2,d2,q2,_,_,g2⟩:=JB v2;have bs:nd bz (m1*m2)<35184372088832:=Xb (k:=p+q) (by rw[eW];exact qS h1 h2) o_;obtain⟨t,ht⟩:∃ t,decide (((nd 256 m1+nd 256 m2:Nat):Int)<=7)=t:=⟨_,rfl⟩;have e2:bd (sg n1 m1*sg n2 m2)=bif t then bd (IntKind.i64.wrap (i1*i2))else bd (sg (n1 !=n2) (m1*m2)):=by
  rw[e];cases t
  ·rfl
  have hs:=jN ht;rw[g1 (by rw[<-d1];exact aJ o_),g2 (by rw[<-d2];exact aJ o_),e,eD];have h:m1*m2<256^(nd 256 m1+nd 256 m2):=by rw[eW];exact qS k1 k2
  have h7:=dj (n:=256) d_ (show nd 256 m1+nd 256 m2<=7 by omega);rw[show(256:Nat)^7=72057594037927936 by decide]at h7;have g:=JA (n1 !=n2) (m1*m2);show _=bd _
  congr 1;omega
 rw[e2];have hw:-9223372036854775808<=IntKind.i64.wrap (i1*i2)/\IntKind.i64.wrap (i1*i2)<9223372036854775808:=by rw[eD];omega
 have w:=aX7 n1 v1;have w2:=aX7 n2 v2;unfold sv oX at *;generalize hL1:nd 256 m1=L1 at *;generalize hL2:nd 256 m2=L2 at *;refine fk mixed func84 100 (λ_=>[w.at 10,w2.at 14,.rw 20 _ (vI L1) r1,.rw 23 _ (vI L2) r2,.sum 24 L1 L2 (L1+L2) rfl o_,.rw 25 (.bool (decide (((L1+L2:Nat):Int)<=7))) (.bool t) (by rw[ht])]++bif t then[q1.at 28,q2.at 33,.wr 38 .i64 (i1*i2) _ rfl,(aXK (z:=IntKind.i64.wrap (i1*i2)) o_ o_).at 39]else
   [.y0 f84 47 3 m1 o_ k_,.y0 f84 50 4 m2 o_ k_,.aPG f84 51 5 3 4 m1 m2 (jD m1) (jD m2) rfl rfl rfl rfl o_ k_,.Bd f84 52 5 (m1*m2) (n1 !=n2) (jD (m1*m2)) rfl rfl bs k_]) (λ_=>?_) k_ ?_<;>cases t<;>cases n1<;>cases n2<;>kernel_rfl
theorem aXT{x y:Int}{p:Nat}(h1:x.natAbs<2^p)(h2:y.natAbs<2^q)(hp:p<=1099511627776)(hq:q<=1099511627776):aH prog 134 [bd x,bd y] (.int .i64 (x-y).sign):=by
 have w1:=aXr x;have w2:=aXr y;have s1:=aXt x;have s2:=aXt y;have EO:∀ z:Int,z.sign=-1/\z<0\/z.sign=0/\z=0\/z.sign=1/\0<z:=λz=>by
  rcases Pv z 0 with h|h|h
  ·exact .inl ⟨Ge h,h⟩
  ·exact .inr (.inl ⟨by rw[h];rfl,h⟩)
  ·exact .inr (.inr ⟨Cz h,h⟩)
 have b1:=y7 h1;have b2:=y7 h2;have c1:=wW h1;have c2:=wW h2;by_cases hs:x.sign=y.sign
 ·have ho:x.sign*iH x.natAbs y.natAbs=(x-y).sign:=by unfold iH;rcases EO x with ⟨a1,a2⟩|⟨a1,a2⟩|⟨a1,a2⟩<;>rcases EO y with ⟨d1,d2⟩|⟨d1,d2⟩|⟨d1,d2⟩<;>rcases EO (x-y)with ⟨f1,f2⟩|⟨f1,f2⟩|⟨f1,f2⟩<;>rw[a1,f1]<;>rw[a1,d1]at hs<;>first|(exfalso;omega)|(split<;>first|omega|(split<;>omega))
  have hw:IntKind.i64.wrap (x.sign*iH x.natAbs y.natAbs)=(x-y).sign:=by rw[ho,eD];rcases EO (x-y)with ⟨f1,f2⟩|⟨f1,f2⟩|⟨f1,f2⟩<;>rw[f1]<;>rfl
  rw[<-hs]at s2;exact bI func134 (λ_=>[w1.at 8,w2.at 12,s1.at 16,s2.at 18,.rw 21 (.bool (x.sign !=x.sign)) a_ s_,.y0 f134 28 2 x.natAbs o_ k_,.y0 f134 31 3 y.natAbs o_ k_,.Jz f134 32 2 3 x.natAbs y.natAbs (jD x.natAbs) (jD y.natAbs) rfl rfl rfl rfl o_ o_ k_,.wr 33 .i64 _ _ hw])
 ·have bB:(x.sign !=y.sign)=true:=rW.2 hs;by_cases ao:x.sign<y.sign
  ·have e:(x-y).sign=-1:=by rcases EO x with ⟨a1,a2⟩|⟨a1,a2⟩|⟨a1,a2⟩<;>rcases EO y with ⟨d1,d2⟩|⟨d1,d2⟩|⟨d1,d2⟩<;>rw[a1,d1]at ao<;>first|omega|exact Ge o_
   rw[e];exact bI func134 (λ_=>[w1.at 8,w2.at 12,s1.at 16,s2.at 18,.rw 21 (.bool (x.sign !=y.sign)) b_ (by rw[bB]),.rw 24 (.bool (decide (x.sign<y.sign))) b_ (by rw[aJ ao])])
  ·have e:(x-y).sign=1:=by rcases EO x with ⟨a1,a2⟩|⟨a1,a2⟩|⟨a1,a2⟩<;>rcases EO y with ⟨d1,d2⟩|⟨d1,d2⟩|⟨d1,d2⟩<;>rw[a1,d1]at ao hs<;>first|omega|exact Cz o_
   rw[e];exact bI func134 (λ_=>[w1.at 8,w2.at 12,s1.at 16,s2.at 18,.rw 21 (.bool (x.sign !=y.sign)) b_ (by rw[bB]),.rw 24 (.bool (decide (x.sign<y.sign))) a_ (by rw[aY ao])])

section
variable{P:j_}{B:aa}{N:Nat}
def Xc(o:Oper):Bool:=match o.op with
 |.call c=>match c.callee,c.args.toList with
  |.builtin .min,[_,_]=>true
  |_,_=>false
 |_=>false
theorem aPI(ho:Xc o=true)(hr:r=min a b):cI P B o [vI a,vI b] [] (vI r) []:=by
 unfold Xc at ho;split at ho
 ·rename_i c ck;split at ho
  ·rename_i p q h1 h2;refine(BQ (λu hu=>by simp at hu;rcases hu with rfl|rfl<;>rfl) rfl λρ fP w _=>?_).step;obtain⟨ce,ar,at'⟩:=c;dsimp only at h1 h2;subst h1;have e1:ar=#[p,q]:=by rw[<-yL (xs:=ar),h2]
   subst e1;rw[ck]at fP;simp[Op.operands,Call.operands]at fP;simp[execOp,ck,resolve,invoke,builtin,Builtin.min_,Builtin.min2,fP.1,fP.2,vI,hr];split<;>omega
  ·cases ho
 ·cases ho
def aZ.Q9(fn:Func)(key a b r:Nat)(hr:r=min a b)(ho:Xc (az fn key)=true):aZ P B N:=
 .step key (az fn key) [vI a,vI b] [] (vI r) [] (aPI ho hr)
theorem aPJ{cells:al}(ja:P.follows .mixedOrders=true)(hf:P.funcs[f]?=some fn)(hl:(l.all aQ.ok)=true)(n:Nat){N:Nat}(hN:N=(eY 0 l).length+(fn.ntmps-(eY 0 l).length))
  (rs:∀ w,bN P (aa.at w) N) (h:∀ w,pv (iv (P:=P) fn n (eY 0 l) (jq 0 l) (jQ 0 l) (rs w)) [(k,.row cells ty size)]=pw (iv fn n (eY 0 l) (jq 0 l) (jQ 0 l) (rs w)) (.tuple #[.slice (some ⟨k,0,some 7⟩) m 0,u]) [(k,.row cells ty size)])
  (hx:(cells.all flat)=true) (hlen:m*size<=cells.length) (oF:cells.take (m*size)=xs) (hu:flat u=true):Jm P f l ty size m xs u:=by
 intro w vs cy;obtain⟨ι,c,h1,h2,h3,h4,h5,h6,h7⟩:=yJ cy (bC.1 hl) 0 _ _ (uE w) n_ (λ_ _=>rfl);refine vH ja hf hN n (h w) h6 h2 h4 h3 λaB cr v' w' hle hc hm dW=>?_;obtain⟨cX,rfl,bo⟩:=hc.vt;obtain⟨p,q,hp,h8,h9⟩:=jH bo;have e:cX=#[p,q]:=wK.1 (by rw[hp]);subst e;rw[h9.fH hu];have:=xX hm (dW (k,_) (aR ..)) h8 hlen (bC.1 hx);rw[oF]at this;exact⟨p,rfl,this,hm.base⟩
theorem aPK{x:m_}{n:Nat}{cells:al}(ho:dC o.op=some x)(fq:gW P f=true)(hn:0<n)(cV:∀ v∈cells,flat v=true)(Ca:∀ v∈xs,flat v=true)(hu:flat u=true)(kg:0<m)
  (h:∀ w g cap cur,w.heap[g]?=some (.cells cur ty (0,0))->n<=cap->cap<=maxLen->cur.size=cap*1->cur.toList.take cells.length=cells->Calls P f #[.slice (some ⟨g,0,none⟩) n cap] w λe w'=>∃ z c',e=.returned (.tuple #[.slice (some ⟨g,z,none⟩) m c',u])/\B9 g w w'/\(∃ gE,w'.heap[g]?=some (.cells gE ty (0,0))/\gE.size=cap*1)/\dr w' (.slice (some ⟨g,z,none⟩) m c') m xs) :
  cI P B o [.func (.func f) #[] #[],.slice (some ⟨k,0,some 7⟩) n 0] [(k,some (.row cells ty 1)),(j,none)] (.tuple #[.slice (some ⟨j,0,some 7⟩) m 0,u]) [(j,.view xs),(k,.dead)]:=by
 refine kj (fi:=[]) (ca:=[]) ho fq λι c w hm e7 args' bo=>?_;rw[jJ,jZ]at bo;obtain⟨v,rfl,hv⟩:=oh bo;have hk:c k=some (.row cells ty 1):=e7 (k,_) s_;have hj:c j=none:=e7 (j,none) s_;rcases hv.iM rfl with ⟨_,h0,_⟩|⟨g,oo,cap,c',hb,lF,nK,he⟩
 ·omega
 ·dsimp only at hb he;have lf:c'=cap:=by omega
  subst lf;obtain⟨l,q1,q2⟩:=hm.born k _ hk;rw[hb]at q1;injection q1 with q1;subst q1;rcases q2 with q2|⟨b,aT,cur,e1,mY,dV,gv,jI⟩
  ·cases q2.1
  ·injection e1 with e1 e2 e3;subst e1;subst e2;subst e3;rw[he];refine(h w g c' cur mY lF dV gv (oj jI cV)).mono ?_
   rintro e w' ⟨z,c2,rfl,qU,⟨gE,p1,p2⟩,jW⟩
   have m1:=hm.write (y:=.row [] ty 1) hk rfl hb qU.os qU.tape qU.output qU.size (λj hj F0=>qU.block j hj F0) (.inr ⟨g,c',gE,rfl,p1,dV,p2,.nil⟩) n_ rfl;have m2:=m1.kill k (by unfold bA;rw[aA rfl];exact n_);have ch:j≠k:=λe=>by rw[e,hk]at hj;cases hj
   have hj2:bA (bA c k (.row [] ty 1)) k .dead j=none:=by unfold bA;rw[au ch,au ch];exact hj
   obtain⟨aB,q1,q2,q3⟩:=Ad m2 hj2 jW Ca (λb o c3 e j' y o' aT gU hy qf=>by
    injection e with e _ _;injection e with e;injection e with e _ _;subst e;unfold bA at gU;by_cases Ra:j'=k
    ·rw[aA Ra]at gU;injection gU with gU;subst gU;cases hy
    ·rw[au Ra,au Ra]at gU;exact Ra (hm.inj j' k y _ _ _ _ _ _ gU hy hk rfl qf hb))
   refine⟨aB,_,rfl,q1,.tup (.cons q3 (.cons (.same hu) .nil)),?_⟩;refine q2.ext λi=>?_;show bA (bA c k .dead) j (.view xs) i=_;unfold bA;by_cases h1:i=j
   ·rw[aA h1,aA h1]
   ·rw[au h1,au h1];by_cases h2:i=k
    ·rw[aA h2,aA h2]
    ·rw[au h2,au h2,au h2]
theorem aEq(x:Int)(k:Nat)(hk:k<=62):IntKind.i64.wrap (((BitVec.ofInt IntKind.i64.bits x)&&& (BitVec.ofInt IntKind.i64.bits (((2^k-1:Nat)):Int))).toNat:Int)=x%((2^k:Nat):Int):=by
 show IntKind.i64.wrap (((BitVec.ofInt 64 x)&&& (BitVec.ofInt 64 (((2^k-1:Nat)):Int))).toNat:Int)=_;have h2:2^k<=2^62:=dj d_ hk;have h62:(2:Nat)^62=4611686018427387904:=by decide
 have hp:0<2^k:=cT d_;have e1:(BitVec.ofInt 64 (((2^k-1:Nat)):Int)).toNat=2^k-1:=by rw[BitVec.toNat_ofInt];omega
 have e2:((BitVec.ofInt 64 x).toNat:Int)=x%18446744073709551616:=by rw[BitVec.toNat_ofInt];omega
 rw[BitVec.toNat_and,e1,Nat.and_two_pow_sub_one_eq_mod,eD];have hd:((2^k:Nat):Int) ∣ 18446744073709551616:=by refine⟨((2^(64-k):Nat):Int),?_⟩;rw[<-oP,<-eW,show k+(64-k)=64 by omega];rfl
 have e3:(((BitVec.ofInt 64 x).toNat%2^k:Nat):Int)=x%((2^k:Nat):Int):=by rw[Xd,e2,Int.emod_emod_of_dvd _ hd]
 have h3:(BitVec.ofInt 64 x).toNat%2^k<2^k:=cU _ hp;rw[<-e3];omega
end
section
variable{Bs:aa}{n a d:Nat}
def aXW(n a d i:Nat):aU:=[(8,dw i),(6,sl 1 n),(7,vI (a/bz^i%d)),(0,sl 0 n),(1,vI d)]
def aXs(n a d i:Nat):aL:=[(0,.view (aw (ae bz n a))),(1,.row (aw (ig bz n i (a/d))) 3 1)]
theorem aXM(hj:j<n)(hd:0<d)(nP:d<bz)(h63:n<35184372088832):
  ah prog Bs 38 (aK (ai f180 0)) (aXW n a d (j+1)) (aXs n a d (j+1)) 2 ⟨.normal,aXW n a d j,aXs n a d j,2⟩:=by
 have bW:fK prog 3 (aw (ig bz n (j+1) (a/d))) j (vI (a/d/bz^j%bz))=some (aw (ig bz n j (a/d))):=by rw[xt (by rw[OB];exact hj),OD hj rfl]
 have lS:dU prog 3 (aw (ae bz n a)) j=some (vI (a/bz^j%bz)):=eB (eU hj);have hr:a/bz^(j+1)%d<d:=cU _ hd;have hx:=iG (B:=bz) d_ a j;obtain⟨q1,q2⟩:=aAC (B:=bz) d_ hd (kv nP) a j;have kB:bz=16777216:=rfl;unfold aXW aXs;generalize aw (ig bz n (j+1) (a/d))=r0 at *;generalize aw (ig bz n j (a/d))=r1 at *;generalize aw (ae bz n a)=ra at *;generalize a/d/bz^j%bz=z at *;generalize a/bz^(j+1)%d=r at *;generalize a/bz^j%d=r' at *;generalize a/bz^j%bz=x at *;have lM:r<16777216:=by omega
 have hp:r*bz<281474976710656:=by rw[kB];omega
 generalize hpe:r*bz=p at *;have Ea:(d:Int)≠0:=by omega
 have w1:IntKind.i64.wrap (Int.tdiv ((p+x:Nat):Int) (d:Int))=(z:Int):=by have hq:(p+x)/d<=p+x:=uK _ _;rw[Cd o_,<-uJ,q1,eD];omega
 have w2:Int.tmod ((p+x:Nat):Int) (d:Int)=(r':Int):=by rw[Ar o_,<-Xd,q2]
 exact aG [.rw 15 (dw (j+1)) (vI j) (eH j),.ge 16 j 0 true s_,.tW 20 r bz p hpe.symm o_,.rw 22 (dw (j+1)) (vI j) (eH j),.ix f180 23 0 n j hj k_,.ld f180 24 3 0 j (.view ra) (vI x) rfl lS k_,.sum 25 p x (p+x) rfl o_,.rw 27 (dw (j+1)) (vI j) (eH j),.wQ f180 30 .i64 ((p+x:Nat):Int) (d:Int) (z:Int) Ea w1 k_,.ix f180 31 1 n j hj k_,.st f180 100031 3 1 j (.row r0 3 1) (vI z) (.row r1 3 1) rfl bW rfl k_,.F1 f180 34 .i64 ((p+x:Nat):Int) (d:Int) (r':Int) Ea w2 k_,.rw 17 (dw (j+1)) (vI j) (eH j),.wr 18 .i64 ((j:Int)-1) ((j:Int)-1) (pE o_)]
theorem aYg(hd:0<d)(nP:d<bz)(h63:n<35184372088832):
  ah prog Bs 38 (.block 0 (ai f180 0)) (aXW n a d n) (aXs n a d n) 2 ⟨.normal,aXW n a d 0,aXs n a d 0,2⟩:=by
 have:=cz (P:=prog) (B:=Bs) (N:=38) (b:=aK (ai f180 0)) (next:=2) (r:=⟨.exit 0,aXW n a d 0,aXs n a d 0,2⟩) n (λi=>aXW n a d (n-i)) (λi=>aXs n a d (n-i))
  (λi k _=>kH (l:=aXs n a d (n-i)) (m:=aXs n a d (n-0)) rfl k)
  (λi hi=>by
   have e:n-i=(n-(i+1))+1:=by omega
   simp only[e];exact aXM o_ hd nP h63)
  (by
   have e:n-n=0:=by omega
   simp only[e];exact aG [.rw 16 (.bool (decide (((0:Nat):Int)-1>=0))) a_ rfl]) n_
 exact cg this
end
theorem aEr(hd:0<d)(nP:d<bz)(h1:nd bz a<35184372088832):Jm prog 180 [j7 a,.p (vI d)] 3 1 (nd bz (a/d)) (cK (a/d)) (vI (a%d)):=by
 have ha:=eE (B:=bz) d_ a;have aC:([j7 a,aQ.p (vI d)].all aQ.ok)=true:=by simp[Jv];rfl
 unfold j7 cK at aC ⊢;change Jm _ _ _ _ _ _ (cK (a/d)) _;generalize nd bz a=n at *;have hs:a/d<bz^n:=fA (uK _ _) ha;have e0:a/bz^n%d=0:=by rw[nj ha];exact Nat.zero_mod _
 have e1:a/bz^0%d=a%d:=by rw[tn,F4]
 have lo:=λBs=>aYg (Bs:=Bs) (n:=n) (a:=a) hd nP h1;have ez:List.replicate n (vI 0)=aw (ig bz n n (a/d)):=by rw[OC,Mr]
 unfold aXW aXs at lo;rw[e0,e1,<-ez,KJ]at lo;generalize a%d=r at *;exact aPJ (k:=1) mixed func180 aC 100 (N:=38) k_ (λw=>[.qR f180 11 1 n 3 8 (vI 0) (List.replicate n (vI 0)) rfl rfl rfl o_ (by simp[maxLen];omega) k_,.wr 14 .i64 ((n:Int)-1) ((n:Int)-1) (pE o_),.code 0 _ _ _ _ _ (lo _),.EH f180 36 1 n (a/d) (.row (aw (ae bz n (a/d))) 3 1) rfl rfl hs o_ k_])
   (λw=>k_) (iU _) (Hf hs) (C4 hs) rfl
section
variable{B:Nat}
def sX(B U V q i:Nat):Int:=((U%B^i:Nat):Int)-(q:Int)*((V%B^i:Nat):Int)
def sK(B U V q i:Nat):Int:=sX B U V q i/((B^i:Nat):Int)
theorem aPL(U V q:Nat):sK B U V q 0=0:=by simp[sK,sX,uH]
theorem aPM(U V q i:Nat):sX B U V q (i+1)=sX B U V q i+(((U/B^i%B:Nat):Int)-(q:Int)*((V/B^i%B:Nat):Int))*((B^i:Nat):Int):=by unfold sX;rw[qi U i,qi V i];simp only[wT,oP,Int.sub_mul,Int.mul_add,MK];omega
theorem Xe(hB:0<B)(U V q i:Nat):sK B U V q i+(((U/B^i%B:Nat):Int)-(q:Int)*((V/B^i%B:Nat):Int))=sX B U V q (i+1)/((B^i:Nat):Int):=by
 have hp:((B^i:Nat):Int)≠0:=by have:=cT (n:=i) hB;omega
 rw[aPM,aBM _ _ hp];rfl
theorem aPN(hB:0<B)(U V q i:Nat):(sK B U V q i+(((U/B^i%B:Nat):Int)-(q:Int)*((V/B^i%B:Nat):Int)))/(B:Int)=sK B U V q (i+1):=by
 have hp:(0:Int)<=((B^i:Nat):Int):=by omega
 rw[Xe hB,Int.ediv_ediv_of_nonneg hp];unfold sK
 congr 1
theorem aPO(hB:0<B)(U V q i:Nat):(sX B U V q i)%((B^i:Nat):Int)=((U:Int)-(q:Int)*(V:Int))%((B^i:Nat):Int):=by
 unfold sX;have e1:(U:Int)=((U%B^i:Nat):Int)+((B^i:Nat):Int)*((U/B^i:Nat):Int):=by rw[<-oP,<-wT,Nat.mod_add_div]
 have e2:(V:Int)=((V%B^i:Nat):Int)+((B^i:Nat):Int)*((V/B^i:Nat):Int):=by rw[<-oP,<-wT,Nat.mod_add_div]
 have e3:(U:Int)-(q:Int)*(V:Int)=(((U%B^i:Nat):Int)-(q:Int)*((V%B^i:Nat):Int))+((B^i:Nat):Int)*(((U/B^i:Nat):Int)-(q:Int)*((V/B^i:Nat):Int)):=by
  conv=>lhs;rw[e1,e2]
  rw[Int.mul_add,Int.mul_sub,Int.mul_left_comm (q:Int) ((B^i:Nat):Int)];omega
 rw[e3,aPP]
theorem aPQ(hB:0<B){V:Nat}(hq:q*V<=U+B^(m+1)):((gK B m U V q:Nat):Int)=((U:Int)-(q:Int)*(V:Int))%((B^(m+1):Nat):Int):=by
 unfold gK;rw[Xd,Int.natCast_sub hq,wT,oP];have:(U:Int)+((B^(m+1):Nat):Int)-(q:Int)*(V:Int)=((U:Int)-(q:Int)*(V:Int))+((B^(m+1):Nat):Int):=by omega
 rw[this,Int.add_emod_right]
theorem aPR(hB:0<B){V:Nat}(hq:q*V<=U+B^(m+1))(hi:i<=m):
  (sK B U V q i+(((U/B^i%B:Nat):Int)-(q:Int)*((V/B^i%B:Nat):Int)))%(B:Int)=((gK B m U V q/B^i%B:Nat):Int):=by
 rw[Xe hB];have hp:(0:Int)<=((B^i:Nat):Int):=by omega
 have fT:0<((B^i:Nat):Int):=by have:=cT (n:=i) hB;omega
 -- both are the same digit of the number aXa B^(i+1)
 have key:∀ x y:Int,x%((B^(i+1):Nat):Int)=y%((B^(i+1):Nat):Int)->x/((B^i:Nat):Int)%(B:Int)=y/((B^i:Nat):Int)%(B:Int):=by
  intro x y h;have one:∀ z:Int,z/((B^i:Nat):Int)%(B:Int)=z%((B^(i+1):Nat):Int)/((B^i:Nat):Int):=by
   intro z;have e:=Int.emod_add_mul_ediv z ((B^(i+1):Nat):Int);have hs:((B^(i+1):Nat):Int)=((B^i:Nat):Int)*(B:Int):=by rw[dH,oP]
   have e2:z/((B^i:Nat):Int)=z%((B^(i+1):Nat):Int)/((B^i:Nat):Int)+(B:Int)*(z/((B^(i+1):Nat):Int)):=by
    have h3:z=z%((B^(i+1):Nat):Int)+((B^i:Nat):Int)*((B:Int)*(z/((B^(i+1):Nat):Int))):=by rw[<-MK,<-hs];exact e.symm
    conv=>lhs;rw[h3]
    rw[Int.add_mul_ediv_left _ _ o_]
   rw[e2,aPP];refine Int.emod_eq_of_lt (Int.ediv_nonneg (Int.emod_nonneg _ (by have:=cT (n:=i+1) hB;omega)) hp) ?_;have h4:z%((B^(i+1):Nat):Int)<((B^(i+1):Nat):Int):=Int.emod_lt_of_pos _ (by have:=cT (n:=i+1) hB;omega);rw[hs]at h4;exact Int.ediv_lt_of_lt_mul fT (by rw[UO];exact h4)
  rw[one,one,h]
 have h1:=key (sX B U V q (i+1)) ((gK B m U V q:Nat):Int) (by
  rw[aPO hB,aPQ hB hq];have hd:((B^(i+1):Nat):Int) ∣ ((B^(m+1):Nat):Int):=by refine⟨((B^(m-i):Nat):Int),?_⟩;rw[<-oP,<-eW];congr 2;omega
  rw[Int.emod_emod_of_dvd _ hd])
 rw[h1];simp only[Xd,uJ]
theorem aPS(hB:0<B){V:Nat}(hV:V<B^m)(hU:U<V*B)(hb:q*V<U+V):
  sK B U V q m+((U/B^m%B:Nat):Int)=if U<q*V then -1 else((gK B m U V q/B^m%B:Nat):Int):=by
 have D7:U<B^(m+1):=by rw[dH];exact cH hU (fe _ (kv hV))
 have Uj:V<=B^(m+1):=dq (kv hV) (dj hB o_);have hp:0<B^m:=cT hB;have h0:V/B^m%B=0:=rV hV (bF _) hB;have h1:=Xe hB U V q m;rw[h0,Int.natCast_zero,Int.mul_zero,Int.sub_zero]at h1;rw[h1];unfold sX;rw[dZ D7,dZ (cH hV (dj hB o_))];by_cases h:U<q*V
 ·rw[aA h];have e:(U:Int)-(q:Int)*(V:Int)=((U+B^m-q*V:Nat):Int)+((B^m:Nat):Int)*(-1):=by have:((q*V:Nat):Int)=(q:Int)*(V:Int):=oP ..;omega
  rw[e,Int.add_mul_ediv_left _ _ o_,<-uJ,nj o_];rfl
 ·rw[au h];have e:(U:Int)-(q:Int)*(V:Int)=((U-q*V:Nat):Int):=by have:((q*V:Nat):Int)=(q:Int)*(V:Int):=oP ..;omega
  have e2:gK B m U V q=U-q*V:=by
   unfold gK;have:U+B^(m+1)-q*V=(U-q*V)+B^(m+1):=by omega
   rw[this,K0,dZ o_]
  have ao:(U-q*V)/B^m<B:=by rw[jc hp,c7 B,<-dH];show U-q*V<B^(m+1);omega
  rw[e,e2,dZ ao,<-uJ]
theorem aPT(hB:0<B){V:Nat}(hV:V<B^m)(hU:U<V*B)(hb:q*V<U+V)(h:U<q*V):fB B (gK B m U V q) V m=1:=by
 have Uj:V<=B^m:=kv hV;have hp:0<B^m:=cT hB;have hs:B^(m+1)=B^m*B:=dH ..;have D7:U<B^(m+1):=by rw[hs];exact cH hU (fe _ Uj)
 have hBm:B^m<=B^(m+1):=dj hB o_;obtain⟨t,ht⟩:∃ t,t=q*V-U:=⟨_,rfl⟩;have e1:gK B m U V q=B^(m+1)-t:=by unfold gK;rw[dZ o_];omega
 have e2:(B^(m+1)-t)%B^m=B^m-t:=by
  obtain⟨c,hc⟩:∃ c,B=c+1:=⟨B-1,by omega⟩;have:B^(m+1)-t=(B^m-t)+B^m*c:=by
   have e3:B^m*B=B^m*c+B^m:=by rw[<-Oz,Nat.succ_eq_add_one,<-hc]
   rw[hs,e3];omega
  rw[this,FX,dZ o_]
 unfold fB;rw[e1,e2,dZ hV];have:B^m-t+V=(V-t)+1*B^m:=by omega
 rw[this,qj _ _ hp,nj o_]
end
theorem aEs{B:Nat}(hB:0<B)(U V q i:Nat):-(q:Int)<=sK B U V q i/\sK B U V q i<=0:=by
 unfold sK sX;have hp:0<B^i:=cT hB;have h1:U%B^i<B^i:=cU _ hp;have h2:V%B^i<B^i:=cU _ hp;have h3:=jY q (kv h2);generalize U%B^i=u at *;generalize V%B^i=v at *;have e1:(q:Int)*(v:Int)=((q*v:Nat):Int):=by simp
 rw[e1];generalize q*v=s at *;generalize B^i=b at *;constructor
 ·rw[Int.le_ediv_iff_mul_le o_];have:-(q:Int)*(b:Int)=-((q*b:Nat):Int):=by simp[IK]
  rw[this];omega
 ·have:((u:Int)-(s:Int))/(b:Int)<1:=Int.ediv_lt_of_lt_mul o_ o_;omega
section
variable{Bs:aa}{e L j T v1 v2 u2:Nat}{ru rv:al}
def y8(e L j T q:Nat):aU:=[(15,vI q),(9,sl 3 (e+2)),(10,vI (e+2)),(14,vI T),(11,sl 8 L),(13,dw (j+1))]
def y9(ru rv:al):aL:=[(8,.row ru 3 1),(3,.row rv 3 1)]
structure GU(e L j T v1 v2 u2:Nat)(ru rv:al):Prop where
 hL:j+(e+2)+1<=L
 l1:dU prog 3 rv (e+1)=some (vI v1)
 l0:dU prog 3 rv e=some (vI v2)
 lu:dU prog 3 ru (j+e)=some (vI u2)
 b1:v1<bz
 b0:v2<bz
 bu:u2<bz
 h63:L<35184372088832
noncomputable def Xf(g:GU e L j T v1 v2 u2 ru rv)(q r:Nat)(hq:q<bz)(hr:q*v1+r=T)(lM:r<2*bz)(t:Bool)(ht:decide (r*bz+u2<q*v2)=t)(more:bN prog Bs 238):bN prog Bs 238:=
 .fN 102 (e+2) 2 e o_ (by have:=g.hL;have:=g.h63;omega)::.ix f147 103 3 (e+2) e o_ k_::.ld f147 104 3 3 e (.row rv 3 1) (vI v2) rfl g.l0 k_::
 .tW 105 q v2 (q*v2) rfl (by
  have:=qS hq g.b0;have kB:bz*bz=281474976710656:=by decide
  omega)::.fN 110 (e+2) 1 (e+1) o_ (by have:=g.hL;have:=g.h63;omega)::.ix f147 111 3 (e+2) (e+1) o_ k_::.ld f147 112 3 3 (e+1) (.row rv 3 1) (vI v1) rfl g.l1 k_::
 .tW 113 q v1 (q*v1) rfl (by
  have:=qS hq g.b1;have kB:bz*bz=281474976710656:=by decide
  omega)::.fN 114 T (q*v1) r o_ (by
  have:=qS hq g.b1;have kB:bz*bz=281474976710656:=by decide
  have kB:bz=16777216:=rfl;omega)::.tW 115 r bz (r*bz) rfl (by
  have kB:bz=16777216:=rfl;rw[kB];omega)::.rw 117 (dw (j+1)) (vI j) (eH j)::.sum 119 j (e+2) (j+(e+2)) rfl (by have:=g.hL;have:=g.h63;omega)::.fN 120 (j+(e+2)) 2 (j+e) o_ (by have:=g.hL;have:=g.h63;omega)::
 .ix f147 121 8 L (j+e) (by have:=g.hL;omega) k_::.ld f147 122 3 8 (j+e) (.row ru 3 1) (vI u2) rfl g.lu k_::.sum 123 (r*bz) u2 (r*bz+u2) rfl (by have:=g.bu;have kB:bz=16777216:=rfl;rw[kB];omega)::.gt 124 (q*v2) (r*bz+u2) t ht::more
noncomputable def aEt(g:GU e L j T v1 v2 u2 ru rv)(q r:Nat)(hq:q<bz)(hr:q*v1+r=T)(lM:r<2*bz)(t:Bool)(ht:decide (r<bz)=t)(more:bN prog Bs 238):bN prog Bs 238:=
 .fN 130 (e+2) 1 (e+1) o_ (by have:=g.hL;have:=g.h63;omega)::.ix f147 131 3 (e+2) (e+1) o_ k_::.ld f147 132 3 3 (e+1) (.row rv 3 1) (vI v1) rfl g.l1 k_::
 .tW 133 q v1 (q*v1) rfl (by
  have:=qS hq g.b1;have kB:bz*bz=281474976710656:=by decide
  omega)::.fN 134 T (q*v1) r o_ (by
  have:=qS hq g.b1;have kB:bz*bz=281474976710656:=by decide
  have kB:bz=16777216:=rfl;omega)::.lt 135 r bz t ht::more
theorem aPU(g:GU e L j T v1 v2 u2 ru rv)(hq:q+1<bz)(hr:(q+1)*v1+r=T)(lM:r<bz)(ht:r*bz+u2<(q+1)*v2):
  ah prog Bs 238 (aK (ai f147 2)) (y8 e L j T (q+1)) (y9 ru rv) 10 ⟨.normal,y8 e L j T q,y9 ru rv,10⟩:=
 fv mixed 200 (Xf g (q+1) r hq hr o_ true (aJ ht) (aEt g (q+1) r hq hr o_ true (aJ lM) [.fN 138 (q+1) 1 q rfl (by have kB:bz=16777216:=rfl;omega)])) k_
theorem aPV(g:GU e L j T v1 v2 u2 ru rv)(hq:q<bz)(hr:q*v1+r=T)(lM:r<2*bz)(ht:¬r*bz+u2<q*v2):
  ah prog Bs 238 (aK (ai f147 2)) (y8 e L j T q) (y9 ru rv) 10 ⟨.exit 2,y8 e L j T q,y9 ru rv,10⟩:=
 fv mixed 200 (Xf g q r hq hr lM false (aY ht) []) k_
theorem aPW(g:GU e L j T v1 v2 u2 ru rv)(hq:q<bz)(hr:q*v1+r=T)(lM:r<2*bz)(ht:r*bz+u2<q*v2)(hr3:¬r<bz):
  ah prog Bs 238 (aK (ai f147 2)) (y8 e L j T q) (y9 ru rv) 10 ⟨.exit 2,y8 e L j T q,y9 ru rv,10⟩:=
 fv mixed 200 (Xf g q r hq hr lM true (aJ ht) (aEt g q r hq hr lM false (aY hr3) [])) k_
theorem aPX(g:GU e L j T v1 v2 u2 ru rv){V:Nat}(h:nr bz e U V T u2 v1 v2)(ql:A=min (T/v1) (bz-1)):
  ∃ q,q<bz/\q*V<U+V/\U/V<=q/\∀ Bs,ah prog Bs 238 (.block 2 (ai f147 2)) (y8 e L j T A) (y9 ru rv) 10 ⟨.normal,y8 e L j T q,y9 ru rv,10⟩:=by
 have kB:bz=16777216:=rfl;have kU:0<v1:=by have:=h.top;omega
 have rG:=h.small;have bW:=h.start;have aXb:A<bz:=by rw[ql];exact fA (Nat.min_le_right _ _) o_
 have aXc:A*v1<=T:=by
  have h1:A<=T/v1:=by rw[ql];exact Nat.min_le_left _ _
  exact dq (fe _ h1) (D6 _ _)
 obtain⟨r0,nQ⟩:∃ r0,r0=T-A*v1:=⟨_,rfl⟩;have g0:Cn U V T v1 A r0:=⟨by omega,by rw[ql];exact Nat.le_min.2 ⟨bW.le,by omega⟩⟩
 have aPY:r0<2*bz:=by
  have hTb:T<v1*bz+bz:=by
   have h1:U<V*bz:=h.hU;rw[h.hT,jc (cT d_)];have h2:V<(v1+1)*bz^(e+1):=by rw[h.kU];exact(jc (cT d_)).1 (Cp _)
   have h3:=Co h2 (show 0<bz by decide);have h4:(v1+1)*bz^(e+1)*bz=(v1*bz+bz)*bz^(e+1):=by rw[Cs,fZ v1 1 bz,qT]
   omega
  by_cases hc:T/v1<=bz-1
  ·have e1:A=T/v1:=by rw[ql];exact oQ hc
   have e2:r0=T%v1:=by have:=jM T v1;rw[nQ,e1,c7];omega
   have:=cU T kU;have:=h.D4;omega
  ·have e1:A=bz-1:=by rw[ql];exact Xg o_
   obtain⟨k,hk⟩:∃ k,bz=k+1:=⟨bz-1,by omega⟩;have e2:A*v1+v1=v1*bz:=by rw[e1,hk,O0,c7 v1,fZ,qT]
   have:=h.D4;omega
 obtain⟨c,c1,c2,c3⟩:=Ah (λi=>¬((r0+i*v1)*bz+u2<(A-i)*v2/\r0+i*v1<bz)) A (by rw[wR,l9];omega)
 have inv:∀ i,i<=c->Cn U V T v1 (A-i) (r0+i*v1)/\r0+i*v1<2*bz/\i<=A:=by
  intro i;induction i with
  |zero=>intro _;rw[H7,l9,jv];exact⟨g0,aPY,lY _⟩
  |succ i ih=>
   intro hi;obtain⟨i1,i2,i3⟩:=ih o_;obtain⟨k1,k2⟩:=F3.1 (c3 i o_);obtain⟨l1,l2⟩:=h.less i1 (.inr k1);have e1:r0+(i+1)*v1=r0+i*v1+v1:=by rw[fZ,qT];omega
   have e2:A-(i+1)=A-i-1:=by omega
   have:=h.D4;rw[e1,e2];exact⟨l2,by omega,by omega⟩
 obtain⟨gc,gb,gq⟩:=inv c (bF _);have EP:=h.fin gc (by
  by_cases k1:(r0+c*v1)*bz+u2<(A-c)*v2
  ·exact .inr (P3 λk2=>c2 ⟨k1,k2⟩)
  ·exact .inl ⟨by omega,by omega⟩)
 refine⟨A-c,EP.1,EP.2,gc.le,λBs=>?_⟩
 have:=cz (P:=prog) (B:=Bs) (N:=238) (b:=aK (ai f147 2)) (next:=10) (r:=⟨.exit 2,y8 e L j T (A-c),y9 ru rv,10⟩) c (λi=>y8 e L j T (A-i)) (λ_=>y9 ru rv) (λ_ _ _=>Iff.rfl)
  (λi hi=>by
   obtain⟨i1,i2,i3⟩:=inv i o_;obtain⟨j1,j2,j3⟩:=inv (i+1) o_;obtain⟨k1,k2⟩:=F3.1 (c3 i hi);obtain⟨q,hq⟩:∃ q,A-i=q+1:=⟨A-i-1,by omega⟩;have pP:A-(i+1)=q:=by omega
   simp only[hq,pP]at i1 k1 ⊢;exact aPU g o_ i1.eq k2 k1)
  (by
   by_cases k1:(r0+c*v1)*bz+u2<(A-c)*v2
   ·exact aPW g o_ gc.eq gb k1 (λk2=>c2 ⟨k1,k2⟩)
   ·exact aPV g o_ gc.eq gb k1) n_
 exact cg (id:=2) this
end
theorem aEu(x:Int):IntKind.i64.wrap (((BitVec.ofInt IntKind.i64.bits x)&&& (BitVec.ofInt IntKind.i64.bits 16777215)).toNat:Int)=x%16777216:=aEq x 24 d_
theorem aEv(x:Int):x.fdiv ((2:Int)^24)=x/16777216:=ti _ d_
section
variable{Bs:aa}{e L j U V q R D:Nat}{rv:al}
def ER(e L j U V q i:Nat):aU:=[(16,.int .i64 (sK bz U V q i)),(17,vI i),(10,vI (e+2)),(11,sl 8 L),(13,dw (j+1)),(15,vI q),(9,sl 3 (e+2))]
def qy(L j R D i:Nat):al:=aw (dh bz L (j+i) (gR bz j R D) R)
def Be(L j R D i:Nat)(rv:al):aL:=[(8,.row (qy L j R D i) 3 1),(3,.row rv 3 1)]
structure SU(e L j U V q R D:Nat)(rv:al):Prop where
 hL:j+(e+2)+1<=L
 hU:U=R/bz^j
 zf:rv=aw (ae bz (e+2) V)
 hq:q<bz
 hD:D=gK bz (e+2) U V q
 ML:q*V<=U+bz^(e+2+1)
 h63:L<35184372088832
theorem aPZ(g:SU e L j U V q R D rv)(hi:i<e+2):
  ah prog Bs 238 (aK (ai f147 4)) (ER e L j U V q i) (Be L j R D i rv) 10 ⟨.normal,ER e L j U V q (i+1),Be L j R D (i+1) rv,10⟩:=by
 have h63:=g.h63;have hL:=g.hL;have hq:=g.hq;have hc:=aEs (B:=bz) d_ U V q i;have hs:=aPR (B:=bz) d_ (i:=i) g.ML o_;rw[<-g.hD]at hs;have du:=aPN (B:=bz) d_ U V q i;have Xh:dU prog 3 (qy L j R D i) (j+i)=some (vI (U/bz^i%bz)):=by have:=eB (DH (B:=bz) (n:=L) (i:=j+i) (s:=gR bz j R D) (p:=R) (j:=j+i) o_ (bF _));rw[Iy,<-g.hU]at this;exact this
 have Xi:dU prog 3 rv i=some (vI (V/bz^i%bz)):=by rw[g.zf];exact eB (eU hi)
 have bW:fK prog 3 (qy L j R D i) (j+i) (vI (D/bz^i%bz))=some (qy L j R D (i+1)):=by unfold qy;rw[xt (by rw[x9];omega),Ai o_ (yo d_ j R D i).symm];rfl
 have hu:=iG (B:=bz) d_ U i;have hv:=iG (B:=bz) d_ V i;have kB:bz=16777216:=rfl;have aP0:((bz:Nat):Int)=16777216:=rfl;rw[aP0]at hs du;unfold ER Be;generalize qy L j R D (i+1)=r1 at *;generalize qy L j R D i=r0 at *;generalize sK bz U V q (i+1)=c' at *;generalize sK bz U V q i=c at *;generalize D/bz^i%bz=z at *;generalize U/bz^i%bz=u at *;generalize V/bz^i%bz=v at *;have hp:=qS hq hv;rw[show bz*bz=281474976710656 by decide]at hp;have e1:(q:Int)*(v:Int)=((q*v:Nat):Int):=by simp
 rw[e1]at hs du;generalize Hl:q*v=p at *;have w1:IntKind.i64.wrap ((u:Int)-(p:Int))=(u:Int)-(p:Int):=by rw[eD];omega
 have w2:IntKind.i64.wrap (c+((u:Int)-(p:Int)))=c+((u:Int)-(p:Int)):=by rw[eD];omega
 generalize hx:c+((u:Int)-(p:Int))=x at *;have w3:=aEu x;rw[hs]at w3;have w4:=aEv x;rw[du]at w4;exact fv mixed 200 [.lt 141 i (e+2) true (by simp[hi]),.rw 146 (dw (j+1)) (vI j) (eH j),.sum 148 j i (j+i) rfl o_,.ix f147 149 8 L (j+i) o_ k_,.ld f147 150 3 8 (j+i) (.row r0 3 1) (vI u) rfl Xh k_,.ix f147 154 3 (e+2) i hi k_,.ld f147 155 3 3 i (.row rv 3 1) (vI v) rfl Xi k_,.tW 156 q v p Hl.symm o_,.wr 157 .i64 _ _ w1,.wr 158 .i64 (c+((u:Int)-(p:Int))) x (by rw[hx];exact w2),.rw 160 (dw (j+1)) (vI j) (eH j),.sum 162 j i (j+i) rfl o_,.wr 164 .i64 _ (z:Int) w3,.ix f147 165 8 L (j+i) o_ k_,.st f147 100165 3 8 (j+i) (.row r0 3 1) (vI z) (.row r1 3 1) rfl bW rfl k_,.quo 167 .i64 _ c' w4,.sum 143 i 1 (i+1) rfl o_] k_
theorem aP1(g:SU e L j U V q R D rv):ah prog Bs 238 (.block 4 (ai f147 4)) (ER e L j U V q 0) (Be L j R D 0 rv) 10 ⟨.normal,ER e L j U V q (e+2),Be L j R D (e+2) rv,10⟩:=
 cg (id:=4) (cz (b:=aK (ai f147 4)) (r:=⟨.exit 4,ER e L j U V q (e+2),Be L j R D (e+2) rv,10⟩) (e+2) (ER e L j U V q) (λi=>Be L j R D i rv) (λk t _=>kH (l:=Be L j R D k rv) (m:=Be L j R D 0 rv) rfl t) (λk hk=>aPZ g hk)
  (fv mixed 200 [.lt 141 (e+2) (e+2) false s_] k_) n_)
def ES(e L j V D q i:Nat):aU:=[(16,vI (fB bz D V i)),(18,vI i),(10,vI (e+2)),(11,sl 8 L),(13,dw (j+1)),(15,vI q),(9,sl 3 (e+2))]
def rH(L j R D E m i:Nat):al:=(aw (dh bz L (j+i) (gR bz j R E) (gR bz j R D))).set (j+m) (.int .i64 (-1))
def Bf(L j R D E m i:Nat)(rv:al):aL:=[(8,.row (rH L j R D E m i) 3 1),(3,.row rv 3 1)]
theorem aP2{E:Nat}(hL:j+(e+2)+1<=L)(zf:rv=aw (ae bz (e+2) V))(hE:E=(D+V)%bz^(e+2+1))(h63:L<35184372088832)(hi:i<e+2):
  ah prog Bs 238 (aK (ai f147 6)) (ES e L j V D q i) (Bf L j R D E (e+2) i rv) 10 ⟨.normal,ES e L j V D q (i+1),Bf L j R D E (e+2) (i+1) rv,10⟩:=by
 have hc:=B7 (B:=bz) d_ D V i;have hs:=Uk (B:=bz) (V:=V) d_ (D:=D) (show i<=e+2 by omega);rw[<-hE]at hs;have du:=FV (B:=bz) d_ D V i;have Xh:dU prog 3 (rH L j R D E (e+2) i) (j+i)=some (vI (D/bz^i%bz)):=by unfold rH;rw[G8,List.getElem?_set_ne o_,<-G8,eB (DH o_ (bF _)),yo d_]
 have Xi:dU prog 3 rv i=some (vI (V/bz^i%bz)):=by rw[zf];exact eB (eU hi)
 have bW:fK prog 3 (rH L j R D E (e+2) i) (j+i) (vI (E/bz^i%bz))=some (rH L j R D E (e+2) (i+1)):=by unfold rH;unfold vI;rw[QY _ _ _ (by rw[Xj,oG,x9];omega),List.set_comm _ _ o_];have:=QZ (dh bz L (j+i) (gR bz j R E) (gR bz j R D)) (j+i) (E/bz^i%bz);unfold vI at this;rw[this,Ai o_ (yo d_ j R E i).symm];rfl
 have hu:=iG (B:=bz) d_ D i;have hv:=iG (B:=bz) d_ V i;have kB:bz=16777216:=rfl;unfold ES Bf;generalize rH L j R D E (e+2) (i+1)=r1 at *;generalize rH L j R D E (e+2) i=r0 at *;generalize fB bz D V (i+1)=c' at *;generalize fB bz D V i=c at *;generalize E/bz^i%bz=z at *;generalize D/bz^i%bz=u at *;generalize V/bz^i%bz=v at *;rw[show u+v+c=c+(u+v)by omega]at hs du;have w3:=aEu ((c+(u+v):Nat):Int);have w4:=aEv ((c+(u+v):Nat):Int);rw[show((c+(u+v):Nat):Int)%16777216=(z:Int)by rw[<-hs];rfl]at w3;rw[show((c+(u+v):Nat):Int)/16777216=(c':Int)by rw[<-du];rfl]at w4;exact fv mixed 200 [.lt 188 i (e+2) true (by simp[hi]),.rw 193 (dw (j+1)) (vI j) (eH j),.sum 195 j i (j+i) rfl o_,.ix f147 196 8 L (j+i) o_ k_,.ld f147 197 3 8 (j+i) (.row r0 3 1) (vI u) rfl Xh k_,.ix f147 200 3 (e+2) i hi k_,.ld f147 201 3 3 i (.row rv 3 1) (vI v) rfl Xi k_,.sum 202 u v (u+v) rfl o_,.sum 203 c (u+v) (c+(u+v)) rfl o_,.rw 205 (dw (j+1)) (vI j) (eH j),.sum 207 j i (j+i) rfl o_,.wr 209 .i64 _ (z:Int) w3,.ix f147 210 8 L (j+i) o_ k_,.st f147 100210 3 8 (j+i) (.row r0 3 1) (vI z) (.row r1 3 1) rfl bW rfl k_,.quo 212 .i64 _ (c':Int) w4,.sum 190 i 1 (i+1) rfl o_] k_
theorem aP3{E:Nat}(hL:j+(e+2)+1<=L)(zf:rv=aw (ae bz (e+2) V))(hE:E=(D+V)%bz^(e+2+1))(h63:L<35184372088832):
  ah prog Bs 238 (.block 6 (ai f147 6)) (ES e L j V D q 0) (Bf L j R D E (e+2) 0 rv) 10 ⟨.normal,ES e L j V D q (e+2),Bf L j R D E (e+2) (e+2) rv,10⟩:=
 cg (id:=6) (cz (b:=aK (ai f147 6)) (r:=⟨.exit 6,ES e L j V D q (e+2),Bf L j R D E (e+2) (e+2) rv,10⟩) (e+2) (ES e L j V D q) (λi=>Bf L j R D E (e+2) i rv) (λk t _=>kH (l:=Bf L j R D E (e+2) k rv) (m:=Bf L j R D E (e+2) 0 rv) rfl t) (λk hk=>aP2 hL zf hE h63 hk)
  (fv mixed 200 [.lt 188 (e+2) (e+2) false s_] k_) n_)
end
theorem aP4{B S R:Nat}(hi:i<L)(hR:R<B^(i+1))(hS:S<B^(i+1))(hB:0<B)(x:i_):(aw (dh B L i S R)).set i x=(aw (ae B L S)).set i x:=by have h:=Ai (B:=B) (n:=L) (i:=i) (s:=S) (p:=R) hi rfl;rw[Gc hB hR hS]at h;rw[<-h,<-QZ,List.set_set]
structure MM(e L A V:Nat):Prop where
 hV:V<bz^(e+2)
 top:bz<=2*(V/bz^(e+1))
 hL:e+3<=L
 hA:A<V*bz^(L-(e+2))
 h63:L<35184372088832
theorem MM.pos{V:Nat}(h:MM e L A V):0<V:=by
 rcases ow V with e1|e1
 ·have:=h.hA;rw[e1,l9]at this;omega
 ·exact e1
section
variable{Bs:aa}{e L A V p:Nat}
def ET(e L p j:Nat):aU:=[(13,dw j),(12,sl 9 p),(10,vI (e+2)),(9,sl 3 (e+2)),(11,sl 8 L)]
def Bg(e L A V p j:Nat):aL:=[(8,.row (aw (ae bz L (A%(V*bz^j)))) 3 1),(9,.row (aw (ig bz p j (A/V))) 3 1),(3,.row (aw (ae bz (e+2) V)) 3 1)]
theorem aP5(h:MM e L A V)(hp:p+(e+2)=L)(hj:j<p):
  ah prog Bs 238 (aK (ai f147 0)) (ET e L p (j+1)) (Bg e L A V p (j+1)) 10 ⟨.normal,ET e L p j,Bg e L A V p j,10⟩:=by
 have h63:=h.h63;have rY:=h.pos;have hV:=h.hV;have B3:j+(e+2)+1<=L:=by omega
 obtain⟨R,hR⟩:∃ R,R=A%(V*bz^(j+1)):=⟨_,rfl⟩;obtain⟨U,hU⟩:∃ U,U=R/bz^j:=⟨_,rfl⟩;have JC:U<V*bz:=by rw[hU,hR];exact aBs d_ rY A j
 have sZ:=aBq (B:=bz) d_ A V j;have aEw:=aBr (B:=bz) A V j;rw[<-hR,<-hU]at sZ aEw;have Gj:R<bz^(j+(e+2)+1):=by
  have h1:R<V*bz^(j+1):=by rw[hR];exact cU _ (rZ rY (cT d_))
  have h2:V*bz^(j+1)<=bz^(e+2)*bz^(j+1):=fe _ (kv hV);rw[<-eW,show e+2+(j+1)=j+(e+2)+1 by omega]at h2;omega
 have aP6:U<bz^(e+2+1):=by rw[dH];exact cH JC (fe _ (kv hV))
 obtain⟨T,hT⟩:∃ T,T=U/bz^(e+1):=⟨_,rfl⟩;obtain⟨v1,kU⟩:∃ v1,v1=V/bz^(e+1):=⟨_,rfl⟩;have aEx:V/bz^(e+1)%bz=v1:=by rw[kU];exact FU hV
 have aEy:v1<bz:=by rw[<-aEx];exact cU _ d_
 have ds:nr bz e U V T (U/bz^e%bz) v1 (V/bz^e%bz):={ hB:=by decide,hU:=JC,hT:=hT,hu:=rfl,kU:=kU,iF:=rfl,top:=by rw[kU];exact h.top,D4:=aEy };have lU:∀ i,i<=e+2->dU prog 3 (aw (ae bz L R)) (j+i)=some (vI (U/bz^i%bz)):=λi hi=>by have:=eB (eU (B:=bz) (n:=L) (a:=R) (i:=j+i) o_);rw[Iy,<-hU]at this;exact this
 obtain⟨rv,zf⟩:∃ rv,rv=aw (ae bz (e+2) V):=⟨_,rfl⟩;have Xk:dU prog 3 rv (e+1)=some (vI v1):=by rw[zf,<-aEx];exact eB (eU o_)
 have lV0:dU prog 3 rv e=some (vI (V/bz^e%bz)):=by rw[zf];exact eB (eU o_)
 have g:GU e L j T v1 (V/bz^e%bz) (U/bz^e%bz) (aw (ae bz L R)) rv:=⟨B3,Xk,lV0,lU e o_,aEy,cU _ d_,cU _ d_,h63⟩;obtain⟨q0,ql⟩:∃ q0,q0=min (T/v1) (bz-1):=⟨_,rfl⟩;obtain⟨q,IC,ML,aP7,gl⟩:=aPX g ds ql;obtain⟨D,hD⟩:∃ D,D=gK bz (e+2) U V q:=⟨_,rfl⟩;have aP8:D<bz^(e+2+1):=by rw[hD];exact Ui d_
 have aXd:V<=bz^(e+2+1):=dq (kv hV) (dj d_ o_);have sg:SU e L j U V q R D rv:=⟨B3,hU,zf,IC,hD,by omega,h63⟩;have sl:=aP1 (Bs:=Bs) sg;have Xl:gR bz j R D<bz^(j+(e+2)+1):=by have:=Ix (B:=bz) d_ (j:=j) R aP8;rwa[show j+(e+2+1)=j+(e+2)+1 by omega]at this
 have rl:qy L j R D 0=aw (ae bz L R):=by unfold qy;rw[jv,O1 d_]
 have jz:dU prog 3 (qy L j R D (e+2)) (j+(e+2))=some (vI (U/bz^(e+2)%bz)):=by have:=eB (DH (B:=bz) (n:=L) (i:=j+(e+2)) (s:=gR bz j R D) (p:=R) (j:=j+(e+2)) o_ (bF _));rw[Iy,<-hU]at this;exact this
 have yq:=aPS (B:=bz) d_ hV JC ML;have hsb:=aEs (B:=bz) d_ U V q (e+2);have MN:U/bz^(e+2)%bz*bz+U/bz^(e+1)%bz=T:=by have h1:=ya (B:=bz) U (e+1);have h2:U/bz^(e+2)%bz=U/bz^(e+2):=FU aP6;rw[h2,hT];exact h1.symm
 have jn:U/bz^(e+2)%bz<bz:=cU _ d_;have xi:U/bz^(e+1)%bz<bz:=cU _ d_;have jG:=lU (e+2) (bF _);have wF:=lU (e+1) o_;have Xm:fK prog 3 (aw (ig bz p (j+1) (A/V))) j (vI (U/V))=some (aw (ig bz p j (A/V))):=by rw[xt (by rw[OB];exact hj),OD hj aEw]
 have hTb:T<281474976710656+16777216:=by have kB:bz=16777216:=rfl;rw[kB]at jn xi MN;omega
 have As:(v1:Int)≠0:=by have:=ds.top;have kB:bz=16777216:=rfl;omega
 have wq:IntKind.i64.wrap (Int.tdiv (T:Int) (v1:Int))=((T/v1:Nat):Int):=by have hq:T/v1<=T:=uK _ _;rw[Cd o_,<-uJ,eD];omega
 unfold ET Bg;rw[<-hR,<-zf];unfold ER Be at sl;rw[rl,aPL]at sl;unfold y8 y9 at gl;have gl:=gl Bs;have kB:bz=16777216:=rfl;rw[<-hD]at yq;by_cases hb:U<q*V
 ·-- the aXe was too aXf
  obtain⟨g1,g2⟩:=aBp (B:=bz) d_ hV JC ML hb;have K4:=aPT (B:=bz) d_ hV JC ML hb;rw[<-hD]at g2 K4;obtain⟨E,hE⟩:∃ E,E=(D+V)%bz^(e+2+1):=⟨_,rfl⟩;have bl:=aP3 (Bs:=Bs) (q:=U/V) (R:=R) (D:=D) B3 zf hE h63;rw[<-hE]at g2;rw[<-g2]at sZ;have aEz:E<bz^(e+2):=by rw[g2];exact nq (cU _ rY) hV
  have hS2:gR bz j R E<bz^(j+(e+2)+1):=by have:=Ix (B:=bz) d_ (j:=j) R (cH aEz (dj (n:=bz) d_ (zY _)));rwa[show j+(e+2).succ=j+(e+2)+1 by omega]at this
  have lO:rH L j R D E (e+2) 0=(qy L j R D (e+2)).set (j+(e+2)) (.int .i64 (-1)):=by unfold rH qy;rw[aP4 o_ Gj Xl d_,jv,<-aBm d_ j R D E,O1 d_]
  have K1:fK prog 3 (qy L j R D (e+2)) (j+(e+2)) (.int .i64 (-1))=some (rH L j R D E (e+2) 0):=by rw[lO];exact QY _ _ _ (by unfold qy;rw[oG,x9];omega)
  have EU:∀ i,dU prog 3 (rH L j R D E (e+2) i) (j+(e+2))=some (.int .i64 (-1)):=λi=>by unfold rH;rw[G8,List.getElem?_set_self (by rw[oG,x9];omega)]
  have aP9:=EU 0;have aQa:=EU (e+2);have Uo:fK prog 3 (rH L j R D E (e+2) (e+2)) (j+(e+2)) (.int .i64 0)=some (aw (ae bz L (A%(V*bz^j)))):=by unfold rH;rw[QY _ _ _ (by rw[Xj,oG,x9];omega),List.set_set];have h1:=Ai (B:=bz) (n:=L) (i:=j+(e+2)) (s:=gR bz j R E) (p:=gR bz j R D) (d:=0) o_ (by rw[yo d_,rV aEz (bF _) d_]);rw[Gc d_ Xl hS2]at h1;have h2:=QZ (dh bz L (j+(e+2)) (gR bz j R E) (gR bz j R D)) (j+(e+2)) 0;rw[h1]at h2;exact cS some (h2.trans (by rw[sZ]))
  rw[aA hb]at yq;unfold ES Bf at bl;rw[Ox,K4]at bl;generalize aw (ae bz L (A%(V*bz^j)))=r9 at *;generalize aw (ae bz L R)=r0 at *;generalize qy L j R D (e+2)=r1 at *;generalize rH L j R D E (e+2) 0=r2 at *;generalize rH L j R D E (e+2) (e+2)=r3 at *;generalize aw (ig bz p (j+1) (A/V))=p0 at *;generalize aw (ig bz p j (A/V))=p1 at *;generalize sK bz U V q (e+2)=c at *;generalize U/bz^(e+2)%bz=t1 at *;generalize U/bz^(e+1)%bz=t0 at *;generalize U/V=qq at *;have Xn:IntKind.i64.wrap ((t1:Int)+c)=-1:=by rw[eD];omega
  have m1:t1*bz<281474976710656:=by rw[kB];omega
  obtain⟨x1,jk⟩:∃ x1,x1=t1*bz:=⟨_,rfl⟩;rw[<-jk]at MN m1;exact fv mixed 400 [.rw 72 (dw (j+1)) (vI j) (eH j),.ge 73 j 0 true s_,.rw 77 (dw (j+1)) (vI j) (eH j),.sum 79 j (e+2) (j+(e+2)) rfl o_,.ix f147 80 8 L (j+(e+2)) o_ k_,.ld f147 81 3 8 (j+(e+2)) (.row r0 3 1) (vI t1) rfl jG k_,.tW 82 t1 bz x1 jk o_,.rw 84 (dw (j+1)) (vI j) (eH j),.sum 86 j (e+2) (j+(e+2)) rfl o_,.fN 87 (j+(e+2)) 1 (j+(e+1)) o_ o_,.ix f147 88 8 L (j+(e+1)) o_ k_,.ld f147 89 3 8 (j+(e+1)) (.row r0 3 1) (vI t0) rfl wF k_,.sum 90 x1 t0 T MN.symm o_,.fN 94 (e+2) 1 (e+1) o_ o_,.ix f147 95 3 (e+2) (e+1) o_ k_,.ld f147 96 3 3 (e+1) (.row rv 3 1) (vI v1) rfl Xk k_,.wQ f147 97 .i64 (T:Int) (v1:Int) ((T/v1:Nat):Int) As wq k_,.Q9 f147 98 (T/v1) (bz-1) q0 ql k_,.code 2 _ _ _ _ _ gl,.code 4 _ _ _ _ _ sl,.rw 169 (dw (j+1)) (vI j) (eH j),.sum 171 j (e+2) (j+(e+2)) rfl o_,.ix f147 172 8 L (j+(e+2)) o_ k_,.ld f147 173 3 8 (j+(e+2)) (.row r1 3 1) (vI t1) rfl jz k_,.wr 175 .i64 ((t1:Int)+c) (-1) Xn,.ix f147 176 8 L (j+(e+2)) o_ k_,.st f147 100176 3 8 (j+(e+2)) (.row r1 3 1) (.int .i64 (-1)) (.row r2 3 1) rfl K1 rfl k_,.rw 178 (dw (j+1)) (vI j) (eH j),.sum 180 j (e+2) (j+(e+2)) rfl o_,.ix f147 181 8 L (j+(e+2)) o_ k_,.ld f147 182 3 8 (j+(e+2)) (.row r2 3 1) (.int .i64 (-1)) rfl aP9 k_,.fN 185 q 1 qq o_ o_,.code 6 _ _ _ _ _ bl,.rw 214 (dw (j+1)) (vI j) (eH j),.sum 216 j (e+2) (j+(e+2)) rfl o_,.ix f147 217 8 L (j+(e+2)) o_ k_,.ld f147 218 3 8 (j+(e+2)) (.row r3 3 1) (.int .i64 (-1)) rfl aQa k_,.wr 220 .i64 (-1+((1:Nat):Int)) 0 d_,.ix f147 221 8 L (j+(e+2)) o_ k_,.st f147 100221 3 8 (j+(e+2)) (.row r3 3 1) (.int .i64 0) (.row r9 3 1) rfl Uo rfl k_,
   .rw 223 (dw (j+1)) (vI j) (eH j),.ix f147 225 9 p j hj k_,.st f147 100225 3 9 j (.row p0 3 1) (vI qq) (.row p1 3 1) rfl Xm rfl k_,.rw 74 (dw (j+1)) (vI j) (eH j),.wr 75 .i64 ((j:Int)-1) ((j:Int)-1) (pE o_)] k_
 ·obtain⟨g1,g2⟩:=aBo (B:=bz) d_ hV JC aP7 hb;rw[<-hD]at g2;rw[<-g2]at sZ;have K1:fK prog 3 (qy L j R D (e+2)) (j+(e+2)) (vI (D/bz^(e+2)%bz))=some (aw (ae bz L (A%(V*bz^j)))):=by unfold qy;rw[xt (by rw[x9];omega),Ai o_ (yo d_ j R D (e+2)).symm,Gc d_ Gj Xl,sZ]
  have EU:dU prog 3 (aw (ae bz L (A%(V*bz^j)))) (j+(e+2))=some (vI (D/bz^(e+2)%bz)):=by rw[<-sZ,eB (eU o_),yo d_]
  rw[au hb]at yq;have GR:D/bz^(e+2)%bz<bz:=cU _ d_;rw[<-g1]at Xm;generalize aw (ae bz L (A%(V*bz^j)))=r9 at *;generalize aw (ae bz L R)=r0 at *;generalize qy L j R D (e+2)=r1 at *;generalize aw (ig bz p (j+1) (A/V))=p0 at *;generalize aw (ig bz p j (A/V))=p1 at *;generalize sK bz U V q (e+2)=c at *;generalize U/bz^(e+2)%bz=t1 at *;generalize U/bz^(e+1)%bz=t0 at *;generalize D/bz^(e+2)%bz=d at *;have Xn:IntKind.i64.wrap ((t1:Int)+c)=(d:Int):=by rw[eD];omega
  have m1:t1*bz<281474976710656:=by rw[kB];omega
  obtain⟨x1,jk⟩:∃ x1,x1=t1*bz:=⟨_,rfl⟩;rw[<-jk]at MN m1;exact fv mixed 400 [.rw 72 (dw (j+1)) (vI j) (eH j),.ge 73 j 0 true s_,.rw 77 (dw (j+1)) (vI j) (eH j),.sum 79 j (e+2) (j+(e+2)) rfl o_,.ix f147 80 8 L (j+(e+2)) o_ k_,.ld f147 81 3 8 (j+(e+2)) (.row r0 3 1) (vI t1) rfl jG k_,.tW 82 t1 bz x1 jk o_,.rw 84 (dw (j+1)) (vI j) (eH j),.sum 86 j (e+2) (j+(e+2)) rfl o_,.fN 87 (j+(e+2)) 1 (j+(e+1)) o_ o_,.ix f147 88 8 L (j+(e+1)) o_ k_,.ld f147 89 3 8 (j+(e+1)) (.row r0 3 1) (vI t0) rfl wF k_,.sum 90 x1 t0 T MN.symm o_,.fN 94 (e+2) 1 (e+1) o_ o_,.ix f147 95 3 (e+2) (e+1) o_ k_,.ld f147 96 3 3 (e+1) (.row rv 3 1) (vI v1) rfl Xk k_,.wQ f147 97 .i64 (T:Int) (v1:Int) ((T/v1:Nat):Int) As wq k_,.Q9 f147 98 (T/v1) (bz-1) q0 ql k_,.code 2 _ _ _ _ _ gl,.code 4 _ _ _ _ _ sl,.rw 169 (dw (j+1)) (vI j) (eH j),.sum 171 j (e+2) (j+(e+2)) rfl o_,.ix f147 172 8 L (j+(e+2)) o_ k_,.ld f147 173 3 8 (j+(e+2)) (.row r1 3 1) (vI t1) rfl jz k_,.wr 175 .i64 ((t1:Int)+c) (d:Int) Xn,.ix f147 176 8 L (j+(e+2)) o_ k_,.st f147 100176 3 8 (j+(e+2)) (.row r1 3 1) (vI d) (.row r9 3 1) rfl K1 rfl k_,.rw 178 (dw (j+1)) (vI j) (eH j),.sum 180 j (e+2) (j+(e+2)) rfl o_,.ix f147 181 8 L (j+(e+2)) o_ k_,.ld f147 182 3 8 (j+(e+2)) (.row r9 3 1) (vI d) rfl EU k_,.lt 183 d 0 false s_,.rw 223 (dw (j+1)) (vI j) (eH j),.ix f147 225 9 p j hj k_,.st f147 100225 3 9 j (.row p0 3 1) (vI q) (.row p1 3 1) rfl Xm rfl k_,.rw 74 (dw (j+1)) (vI j) (eH j),.wr 75 .i64 ((j:Int)-1) ((j:Int)-1) (pE o_)] k_
theorem aQb(h:MM e L A V)(hp:p+(e+2)=L):
  ah prog Bs 238 (.block 0 (ai f147 0)) (ET e L p p) (Bg e L A V p p) 10 ⟨.normal,ET e L p 0,Bg e L A V p 0,10⟩:=by
 have:=cz (P:=prog) (B:=Bs) (N:=238) (b:=aK (ai f147 0)) (next:=10) (r:=⟨.exit 0,ET e L p 0,Bg e L A V p 0,10⟩) p (λi=>ET e L p (p-i)) (λi=>Bg e L A V p (p-i)) (λi t _=>kH (l:=Bg e L A V p (p-i)) (m:=Bg e L A V p (p-0)) rfl t)
  (λi hi=>by
   have e1:p-i=(p-(i+1))+1:=by omega
   simp only[e1];exact aP5 h hp o_)
  (by simp only[wR];exact aG [.rw 73 (.bool (decide (((0:Nat):Int)-1>=0))) a_ rfl]) n_
 exact cg (id:=0) this
end
def C8(w:h_)(v:i_)(a:Nat):Prop:=dr w v (nd bz a) (cK a)
def wz(w w':h_)(v:i_)(a:Nat):Prop:=w'.ownsRow w.heap.size 3 1 v (nd bz a) (cK a)
theorem Rb(hm:aO (aa.at w) ι c w'){n:Nat}{v:i_}(hk:c k=some (.row (aw (ae bz n a)) 3 1))(ha:a<bz^n)(hv:aM ι (sl k (nd bz a)) v):wz w w' v a:=by have:=xX hm hk hv (Hf ha) (nD _);rw[C4 ha]at this;exact this
theorem C9{s:Nat}(h:s<bz):ae bz 1 s=[s]:=by simp[ae,dZ h]
theorem wB{s:Nat}(h:s<bz)(h0:s≠0):nd bz s=1:=by have h3:=jK (B:=bz) (n:=1) d_ (by rw[Cg];exact h);have h4:=x7 (B:=bz) d_ h0;omega
theorem aQc{n:Nat}(h:A<bz^n):ae bz (n+2) A=ae bz n A++[0,0]:=by unfold ae;rw[show n+2=n+1+1 from rfl,Lt,Lt,vA,vA,FL];simp only[mL,Ud,DZ,jJ];rw[rV h (bF _) d_,rV h (zY _) d_]
theorem aQd{B:Nat}(hd:0<d)(nP:d<B)(he:B%2=0):B<=2*(d*(B/(d+1))):=by
 obtain⟨s,hs⟩:∃ s,s=B/(d+1):=⟨_,rfl⟩;rw[<-hs];have hdm:=jM B (d+1);have OU:=cU B (show 0<d+1 by omega);rw[<-hs]at hdm;have uy:0<s:=by rw[hs];exact O4 nP (Uz d)
 rcases fo (2*d) B with h|h
 ·apply P3;intro ao;have ao:2*(d*s)+2<=B:=by omega
  obtain⟨X,hX⟩:∃ X,X=(d+1)*s:=⟨_,rfl⟩;rw[<-hX]at hdm;have h1:=fe (d+1) ao;rw[fZ,gA,gA d s,c7 s,<-hX,pC B,gZ]at h1;have h2:=jY d (show B<=X+d by omega);rw[pC]at h2;obtain⟨k,hk⟩:∃ k,d=k+1:=⟨d-1,by omega⟩;have h3:=jY k (kv h);have h4:d*B=k*B+B:=by rw[hk,fZ,qT]
  have h5:k*(2*d)+2*d=2*(d*d):=by
   have:d*d=k*d+d:=by conv=>lhs;rw[hk,fZ,qT,<-hk]
   rw[this,nO];omega
  rw[c7 B d]at h1;omega
 ·have:=jY d uy;rw[gZ]at this;have:d*1<=d*s:=jY d uy;omega
theorem Xo(h:decide (a<b)=t):Value.bool (decide (iH a b<0))=.bool t:=by
 rw[<-h];congr 1;rw[qh];unfold iH
 by_cases h1:a<b
 ·rw[aA h1];omega
 ·rw[au h1];by_cases h2:b<a
  ·rw[aA h2];omega
  ·rw[au h2];omega
theorem aXC{vb:i_}(gQ:C8 w va a)(mf:C8 w vb b)(cd:a<b)(h1:nd bz a<35184372088832)(h2:nd bz b<35184372088832):
  Calls prog 147 #[va,vb] w λe w'=>e=.returned (.tuple #[.slice none 0 0,va])/\Below w.heap.size w w':=by
 have hl:∀ s∈[cJ.row va (nd bz a) (cK a),cJ.row vb (nd bz b) (cK b)],s.OK w:=by
  intro s hs;simp at hs;rcases hs with rfl|rfl
  ·exact⟨gQ,nD _⟩
  ·exact⟨mf,nD _⟩
 refine mN (Q:=λe w'=>e=.returned (.tuple #[.slice none 0 0,va])/\Below w.heap.size w w') mixed func147 [cJ.row va (nd bz a) (cK a),cJ.row vb (nd bz b) (cK b)] hl 200 (N:=238) k_
  (rs:=[(.Jz f147 23 0 1 a b (.view (cK a)) (.view (cK b)) rfl rfl rfl rfl h1 h2 k_:aZ prog (aa.at w) 238),.rw 24 _ b_ (Xo (a:=a) (b:=b) (aJ cd))])
  (v:=.tuple #[.slice none 0 0,sl 0 (nd bz a)]) (ms:=[]) k_ λaB cr v' w' kS bJ _ dP=>⟨?_,bJ.base⟩
 obtain⟨cX,rfl,bo⟩:=kS.vt;obtain⟨p,q,hp,h3,h4⟩:=jH bo;cases dP with
 |cons h5 _=>
 have:q=va:=Kz h4 h5;have e:cX=#[p,q]:=wK.1 (by rw[hp]);rw[e,h3.fH rfl,this]
theorem aXS{vb:i_}(gQ:C8 w va a)(mf:C8 w vb b)(cd:b<=a)(lO:b≠0)(hb:b<bz)(h1:nd bz a<35184372088832):
  Calls prog 147 #[va,vb] w λe w'=>∃ vq vr,e=.returned (.tuple #[vq,vr])/\wz w w' vq (a/b)/\wz w w' vr (a%b)/\Below w.heap.size w w':=by
 have c8:=wB hb lO;have kO:cK b=[vI b]:=by unfold cK;rw[c8,C9 hb];rfl
 have Gd:dr w vb 1 [vI b]:=by have:=mf;unfold C8 at this;rw[c8,kO]at this;exact this
 have hl:∀ s∈[cJ.row va (nd bz a) (cK a),cJ.row vb 1 [vI b]],s.OK w:=by
  intro s hs;simp at hs;rcases hs with rfl|rfl
  ·exact⟨gQ,nD _⟩
  ·exact⟨Gd,λv hv=>by simp at hv;subst hv;rfl⟩
 have hr:a%b<bz:=nq (cU _ (uG lO)) hb;have vg:a%b<bz^1:=by rw[Cg];exact hr
 have l4:cI prog (aa.at w) (az f147 23) [.func (.func 103) #[] #[],sl 0 (nd bz a),sl 1 1] [(0,some (.view (cK a))),(1,some (.view [vI b]))] (.int .i64 (iH a b)) []:=by have:=dJ (B:=aa.at w) (o:=az f147 23) (x:=.func 103) (W8 (a:=a) (b:=b) h1 o_) (oH (k:=0) (x:=.view (cK a)) rfl rfl (oH (k:=1) (x:=.view (cK b)) rfl rfl .nil)) k_ k_ rfl;rw[c8,kO]at this;exact this
 refine mN (Q:=λe w'=>∃ vq vr,e=.returned (.tuple #[vq,vr])/\wz w w' vq (a/b)/\wz w w' vr (a%b)/\Below w.heap.size w w') mixed func147 [cJ.row va (nd bz a) (cK a),cJ.row vb 1 [vI b]] hl 200 (N:=238) k_
  (rs:=[(.step 23 (az f147 23) _ _ _ _ l4:aZ prog (aa.at w) 238),.rw 24 _ a_ (Xo (a:=a) (b:=b) (aY o_)),.ld f147 33 3 1 0 (.view [vI b]) (vI b) rfl (by rw[G8];rfl) k_,.step 34 (az f147 34) _ _ _ _ (WD (x:=.func 180) (aEr (uG lO) hb h1) (oH (k:=0) (x:=.view (cK a)) rfl rfl (.p (v:=vI b) rfl .nil)) k_ k_ (tU _) rfl 2),.bs f147 39 3 1 3 1 [0] (vI 0) [vI (a%b)] #[vI (a%b)] (.row (aw (ae bz 1 (a%b))) 3 1) (by rw[C9 hr];rfl) (λv hv=>by simp at hv;subst hv;rfl) (λv hv=>by simp at hv;subst hv;rfl) k_ rfl o_ o_ k_,.EH f147 40 3 1 (a%b) (.row (aw (ae bz 1 (a%b))) 3 1) rfl rfl vg o_ k_])
  (v:=.tuple #[sl 2 (nd bz (a/b)),sl 3 (nd bz (a%b))]) (ms:=[(2,jD (a/b)),(3,.row (aw (ae bz 1 (a%b))) 3 1)]) k_ λaB cr v' w' kS bJ dW _=>?_
 obtain⟨cX,rfl,bo⟩:=kS.vt;obtain⟨p,q,hp,h3,h4⟩:=jH bo;have e:cX=#[p,q]:=wK.1 (by rw[hp]);subst e;exact⟨p,q,rfl,Rb bJ (dW _ (aR ..)) (eE d_ _) h3,Rb bJ (dW _ (bK _ (aR ..))) vg h4,bJ.base⟩
theorem aX9{vb:i_}(gQ:C8 w va a)(mf:C8 w vb b)(cd:b<=a)(hb:nd bz b=e+2)(h1:nd bz a<17592186044000):
  Calls prog 147 #[va,vb] w λe w'=>∃ vq vr,e=.returned (.tuple #[vq,vr])/\wz w w' vq (a/b)/\wz w w' vr (a%b)/\Below w.heap.size w w':=by
 have kB:bz=16777216:=rfl;have ao:=eE (B:=bz) d_ b;rw[hb]at ao;have hp:0<bz^(e+1):=cT d_;have gw:bz^(e+1)<=b:=aAu d_ o_;have lO:0<b:=cH hp gw;obtain⟨d,hd⟩:∃ d,d=b/bz^(e+1):=⟨_,rfl⟩;have mQ:b/bz^(e+1)%bz=d:=by rw[hd];exact FU ao
 have nP:d<bz:=by rw[<-mQ];exact cU _ d_
 have Ea:0<d:=by rw[hd];exact O4 gw hp
 obtain⟨s,hs⟩:∃ s,s=bz/(d+1):=⟨_,rfl⟩;have bW:=aQd Ea nP d_;rw[<-hs]at bW;have rl:0<s:=by rw[hs];exact O4 nP (Uz d)
 have WQ:s*(d+1)<=bz:=by rw[hs];exact D6 _ _
 have Rc:s<bz:=by have:=jY s (show 2<=d+1 by omega);omega
 have yn:b*s<bz^(e+2):=by
  have h3:b<(d+1)*bz^(e+1):=by rw[hd];exact(jc hp).1 (Cp _)
  have h5:=Co h3 rl;have h6:=fe (bz^(e+1)) WQ;rw[c7 bz,<-dH]at h6;have e1:(d+1)*bz^(e+1)*s=s*(d+1)*bz^(e+1):=by rw[c7 _ s,gA]
  rw[e1]at h5;exact cH h5 h6
 have aEA:b<=b*s:=F5 _ rl;have O8:nd bz (b*s)=e+2:=aA8 (jK d_ yn) (by rw[<-hb];exact jL d_ aEA);have yq:bz<=2*(b*s/bz^(e+1)):=by
  have:d*s<=b*s/bz^(e+1):=by rw[D5 hp,Cs];refine fe _ ?_;rw[hd];exact D6 _ _
  omega
 obtain⟨n,hn⟩:∃ n,n=nd bz (a*s):=⟨_,rfl⟩;have hA:=eE (B:=bz) d_ (a*s);rw[<-hn]at hA;have hnb:n<=nd bz a+1:=by rw[hn];refine jK d_ ?_;rw[dH];exact qS (eE (B:=bz) d_ a) Rc
 have aXg:e+2<=n:=by rw[hn,<-hb];exact jL d_ (dq cd (F5 _ rl))
 obtain⟨p,Hl⟩:∃ p,p+(e+2)=n+2:=⟨n+2-(e+2),by omega⟩;have Xp:a*s<b*s*bz^p:=by have h3:bz^(e+1)*bz^p<=b*s*bz^p:=fe _ (dq gw aEA);rw[<-eW,show e+1+p=n+1 by omega]at h3;have h4:bz^n<=bz^(n+1):=dj d_ (zY _);omega
 have dv:MM e (n+2) (a*s) (b*s):=⟨yn,yq,by omega,by rw[show n+2-(e+2)=p by omega];exact Xp,by omega⟩;have lo:=λBs=>aQb (Bs:=Bs) dv Hl;have hQ:a*s/(b*s)=a/b:=aBw _ _ rl;have UF:a*s%(b*s*bz^0)=a%b*s:=by rw[tn,gZ,aBv]
 have UE:a*s%(b*s*bz^p)=a*s:=dZ Xp;have K6:a/b<bz^p:=by rw[<-hQ,jc dv.pos,c7 (bz^p)];exact Xp
 have IJ:a%b*s<bz^(n+2):=by have h3:a%b*s<=a*s:=fe _ (KI _ _);have h4:bz^n<=bz^(n+2):=dj d_ o_;omega
 have hnr:nd bz (a%b*s)<35184372088832:=by have:=jK (B:=bz) d_ IJ;omega
 unfold Bg at lo;rw[UE,UF,hQ,OC,KJ,<-Mr]at lo;have hcA:cK (a*s)++[vI 0,vI 0]=aw (ae bz (n+2) (a*s)):=by unfold cK aw;rw[<-hn,aQc hA,vA];rfl
 have Fv:=wB Rc o_;have gv:cK s=[vI s]:=by unfold cK;rw[Fv,C9 Rc];rfl
 have kO:cK b=aw (ae bz (e+2) b):=by unfold cK;rw[hb]
 have hcV:cK (b*s)=aw (ae bz (e+2) (b*s)):=by unfold cK;rw[O8]
 have Gd:dr w vb (e+2) (aw (ae bz (e+2) b)):=by have:=mf;unfold C8 at this;rw[hb,kO]at this;exact this
 have hl:∀ s∈[cJ.row va (nd bz a) (cK a),cJ.row vb (e+2) (aw (ae bz (e+2) b))],s.OK w:=by
  intro s hs;simp at hs;rcases hs with rfl|rfl
  ·exact⟨gQ,nD _⟩
  ·exact⟨Gd,nD _⟩
 have l4:cI prog (aa.at w) (az f147 23) [.func (.func 103) #[] #[],sl 0 (nd bz a),sl 1 (e+2)] [(0,some (.view (cK a))),(1,some (.view (aw (ae bz (e+2) b))))] (.int .i64 (iH a b)) []:=by have:=dJ (B:=aa.at w) (o:=az f147 23) (x:=.func 103) (W8 (a:=a) (b:=b) o_ o_) (oH (k:=0) (x:=.view (cK a)) rfl rfl (oH (k:=1) (x:=.view (cK b)) rfl rfl .nil)) k_ k_ rfl;rw[hb,kO]at this;exact this
 have c8:cI prog (aa.at w) (az f147 52) [.func (.func 133) #[] #[],sl 1 (e+2),sl 2 1] [(3,none),(1,some (.view (aw (ae bz (e+2) b)))),(2,some (.row [vI s] 3 1))] (sl 3 (e+2)) [(3,.row (aw (ae bz (e+2) (b*s))) 3 1)]:=by have:=sn (B:=aa.at w) (o:=az f147 52) (x:=.func 133) (W0 (a:=b) (b:=s) o_) (oH (k:=1) (x:=.view (cK b)) rfl rfl (oH (k:=2) (x:=.row (cK s) 3 1) rfl rfl .nil)) k_ k_ (tU _) 3;rw[hb,kO,Fv,gv,O8,hcV]at this;exact this
 have dE:cI prog (aa.at w) (az f147 58) [.func (.func 133) #[] #[],sl 0 (nd bz a),sl 2 1] [(5,none),(0,some (.view (cK a))),(2,some (.row [vI s] 3 1))] (sl 5 n) [(5,.row (cK (a*s)) 3 1)]:=by have:=sn (B:=aa.at w) (o:=az f147 58) (x:=.func 133) (W0 (a:=a) (b:=s) o_) (oH (k:=0) (x:=.view (cK a)) rfl rfl (oH (k:=2) (x:=.row (cK s) 3 1) rfl rfl .nil)) k_ k_ (tU _) 5;rw[Fv,gv,<-hn]at this;exact this
 have wy:∀(xr:al),xr=aw (ae bz (n+2) (a%b*s))->cI prog (aa.at w) (az f147 232) [.func (.func 180) #[] #[],sl 8 (nd bz (a%b*s)),vI s] [(10,none),(8,some (.row xr 3 1))] (.tuple #[sl 10 (nd bz (a%b)),vI 0]) [(10,jD (a%b))]:=by
  rintro xr rfl
  have hq:a%b*s/s=a%b:=TO _ rl;have hz:a%b*s%s=0:=aAw _ _;have cq:=aEr (a:=a%b*s) rl Rc hnr;rw[hq,hz]at cq;have D9:((Obj.row (aw (ae bz (n+2) (a%b*s))) 3 1).cells.drop 0).take (nd bz (a%b*s))=cK (a%b*s):=by rw[nk];have:=C4 IJ;rwa[gZ]at this
  have vB:gC (aa.at w) [j7 (a%b*s),.p (vI s)] [sl 8 (nd bz (a%b*s)),vI s] [(8,some (.row (aw (ae bz (n+2) (a%b*s))) 3 1))]:=by unfold j7;rw[<-D9];exact .r (k:=8) (off:=0) (cc:=0) rfl (iU _) (λh=>h) (.p rfl .nil)
  exact WD (x:=.func 180) cq vB k_ k_ (tU _) rfl 10
 have w48:IntKind.i64.wrap (Int.tdiv ((bz:Nat):Int) ((d+1:Nat):Int))=(s:Int):=by rw[Cd o_,<-uJ,<-hs,eD];omega
 have aQe:∀ v∈cK (a*s),v.oneCell'=true:=λv hv=>by unfold cK aw at hv;obtain⟨x,_,rfl⟩:=df.1 hv;rfl
 have hlen:(cK (a*s)).length=n:=by rw[WN,hn]
 have lo:=lo (aa.at w);unfold ET at lo;have hxr:=wy _ rfl;have mg:dU prog 3 (aw (ae bz (e+2) b)) (e+1)=some (vI d):=by rw[<-mQ];exact eB (eU o_)
 have GS:nd bz (a%b*s)=nd bz (a%b*s):=rfl
 refine mN (Q:=λe w'=>∃ vq vr,e=.returned (.tuple #[vq,vr])/\wz w w' vq (a/b)/\wz w w' vr (a%b)/\Below w.heap.size w w') mixed func147 [cJ.row va (nd bz a) (cK a),cJ.row vb (e+2) (aw (ae bz (e+2) b))] hl 400 (N:=238) k_
  (rs:=[(.step 23 (az f147 23) _ _ _ _ l4:aZ prog (aa.at w) 238),.rw 24 _ a_ (Xo (a:=a) (b:=b) (aY o_)),.gH 28 (e+2) 1 false s_,.fN 44 (e+2) 1 (e+1) rfl o_,.ix f147 45 1 (e+2) (e+1) o_ k_,.ld f147 46 3 1 (e+1) (.view (aw (ae bz (e+2) b))) (vI d) rfl mg k_,.sum 47 d 1 (d+1) rfl o_,.wQ f147 48 .i64 ((bz:Nat):Int) ((d+1:Nat):Int) (s:Int) o_ w48 k_,.bs f147 49 2 1 3 1 [0] (vI 0) [vI s] #[vI s] (.row [vI s] 3 1) rfl (λv hv=>by simp at hv;subst hv;rfl) (λv hv=>by simp at hv;subst hv;rfl) k_ rfl o_ o_ k_,.step 52 (az f147 52) _ _ _ _ c8,.Mw f147 55 4 3 1 (vI 0) k_,.step 58 (az f147 58) _ _ _ _ dE,.qX f147 59 6 4 0 n n 3 1 8 [] 5 (.row (cK (a*s)) 3 1) (cK (a*s)) (kT n) rfl (by rw[gZ];exact hlen) rfl rfl aQe o_ (by simp[maxLen];omega) o_ k_,.bs f147 60 7 2 3 1 [0,1] (vI 0) [vI 0,vI 0] #[vI 0,vI 0] (.row [vI 0,vI 0] 3 1) rfl (λv hv=>by simp at hv;subst hv;rfl) (λv hv=>by simp at hv;subst hv;rfl) k_ rfl o_ o_ k_,.qX f147 61 8 6 n 2 (n+2) 3 1 8 (cK (a*s)) 7 (.row [vI 0,vI 0] 3 1) (aw (ae bz (n+2) (a*s))) rfl rfl rfl (by rw[gZ];exact hlen) hcA (λv hv=>by simp[Obj.cells]at hv;subst hv;rfl) o_ (by simp[maxLen];omega) o_ k_,.fN 65 (n+2) (e+2) p o_ o_,.qR f147 66 9 p 3 8 (vI 0) (List.replicate p (vI 0)) rfl rfl rfl o_ (by simp[maxLen];omega) k_,.fN 70 (n+2) (e+2) p o_ o_,.wr 71 .i64 ((p:Int)-1) ((p:Int)-1) (pE o_),.code 0 _ _ _ _ _ lo,.EH f147 228 8 (n+2) (a%b*s) (.row (aw (ae bz (n+2) (a%b*s))) 3 1) rfl rfl IJ o_ k_,.ld f147 231 3 2 0 (.row [vI s] 3 1) (vI s) rfl (by rw[G8];rfl) k_,.step 232 (az f147 232) _ _ _ _ hxr,.EH f147 236 9 p (a/b) (.row (aw (ae bz p (a/b))) 3 1) rfl rfl K6 o_ k_])
  (v:=.tuple #[sl 9 (nd bz (a/b)),sl 10 (nd bz (a%b))]) (ms:=[(9,.row (aw (ae bz p (a/b))) 3 1),(10,jD (a%b))]) k_ λaB cr v' w' kS bJ dW _=>?_
 obtain⟨cX,rfl,bo⟩:=kS.vt;obtain⟨p,q,hp,h3,h4⟩:=jH bo;have e:cX=#[p,q]:=wK.1 (by rw[hp]);subst e;exact⟨p,q,rfl,Rb bJ (dW _ (aR ..)) K6 h3,Rb bJ (dW _ (bK _ (aR ..))) (eE d_ _) h4,bJ.base⟩
section
variable{P:j_}{Bs B:aa}{N:Nat}
theorem aEB{n:Nat}{nd:q_}{x:m_}(h:mz P f l ty size n xs)(hs:gC B l vs nd)(ho:dC o.op=some x)(fq:gW P f=true)(hx:(xs.all flat)=true)(k:Nat):
  cI P B o (.func (.func f) #[] #[]::vs) ((k,none)::nd) (.slice (some ⟨k,0,some 7⟩) n 0) [(k,.view xs)]:=by
 have:=kj (P:=P) (B:=B) (o:=o) (x:=x) (f:=f) (fi:=[]) (args:=vs) (ca:=[]) (need:=(k,none)::nd) (val:=.slice (some ⟨k,0,some 7⟩) n 0) (c9:=[(k,.view xs)]) ho fq ?_
 ·simpa using this
 ·intro ι c w hm hn args' ha;rw[jJ,jZ]at ha;refine(h w args' (CM hs hm (λp hp=>hn p (bK _ hp)) ha)).mono ?_
  rintro e w' ⟨v,rfl,h1,h2⟩
  obtain⟨aB,q1,q2,q3⟩:=aAr hm h2 (k:=k) (hn (k,none) (aR ..)) h1 (bC.1 hx);exact⟨aB,v,rfl,q1,q3,q2⟩
def eF(a:Nat):Obj:=.view (cK a)
def aZ.aEC(fn:Func)(key k m:Nat)(h:nd 256 m<35184372088832)(ho:dC (az fn key).op=some (.func 100)):aZ prog Bs N:=
 .step key (az fn key) [.func (.func 100) #[] #[],oX m] [(k,none)] (sl k (nd bz m)) [(k,eF m)] (aEB (Jy h) (.p rfl .nil) ho k_ (tU m) k)
end
theorem aXq{y:m_}(ho:dC o.op=some y){kq kr:Nat}(hk:kr≠kq)(lO:b≠0)(h1:nd bz a<17592186044000)(h2:nd bz b<35184372088831):
  cI prog Bs o [.func (.func 147) #[] #[],sl k1 (nd bz a),sl k2 (nd bz b)] [(k1,some (eF a)),(k2,some (eF b)),(kq,none),(kr,none)] (.tuple #[sl kq (nd bz (a/b)),sl kr (nd bz (a%b))]) [(kr,eF (a%b)),(kq,eF (a/b))]:=by
 refine kj (fi:=[]) (ca:=[]) ho k_ λι c w hm hn args' bo=>?_;rw[jJ,jZ]at bo;obtain⟨va,vb,rfl,hv,iF⟩:=jH bo;have iu:c k1=some (eF a):=hn (k1,_) s_;have fX:c k2=some (eF b):=hn (k2,_) s_;have K9:c kq=none:=hn (kq,none) s_;have UI:c kr=none:=hn (kr,none) s_;have nin:∀{k a v},c k=some (eF a)->aM ι (sl k (nd bz a)) v->C8 w v a:=λ{k a v} hk hv=>by have:=pA (len:=nd bz a) hm hk rfl (nD _) (λh=>h) hv;rwa[nk,lh (by show(cK a).length<=_;rw[WN];exact bF _)]at this
 have ha:=nin iu hv;have hb:=nin fX iF;have fin:∀(w':h_) (vq vr:i_),Below w.heap.size w w'->(∃ b9,Map.le ι b9/\aO Bs b9 (bA c kq (eF (a/b))) w'/\aM b9 (sl kq (nd bz (a/b))) vq/\∃ dQ,Map.le b9 dQ/\aO Bs dQ (bA (bA c kq (eF (a/b))) kr (eF (a%b))) w'/\aM dQ (sl kr (nd bz (a%b))) vr)->
   ∃ aB v',Ending.returned (.tuple #[vq,vr])=.returned v'/\Map.le ι aB/\aM aB (.tuple #[sl kq (nd bz (a/b)),sl kr (nd bz (a%b))]) v'/\aO Bs aB (mH c [(kr,eF (a%b)),(kq,eF (a/b))]) w':=by
  rintro w' vq vr gD ⟨b9,q1,q2,q3,dQ,s1,s2,s3⟩
  exact⟨dQ,_,rfl,q1.trans s1,.tup (.cons (q3.mono s1) (.cons s3 .nil)),s2⟩
 have La:∀ x,bA c kq x kr=none:=λx=>by unfold bA;rw[au hk];exact UI
 have new:∀(w':h_) (vq vr:i_),Below w.heap.size w w'->wz w w' vq (a/b)->wz w w' vr (a%b)->(∃ b9,Map.le ι b9/\aO Bs b9 (bA c kq (eF (a/b))) w'/\aM b9 (sl kq (nd bz (a/b))) vq/\∃ dQ,Map.le b9 dQ/\aO Bs dQ (bA (bA c kq (eF (a/b))) kr (eF (a%b))) w'/\aM dQ (sl kr (nd bz (a%b))) vr):=by intro w' vq vr gD h3 h4;have bJ:=hm.call gD;obtain⟨b9,q1,q2,q3⟩:=Pa bJ K9 h3 (nD _) (Pb hm);obtain⟨dQ,s1,s2,s3⟩:=Pa q2 (La _) h4 (nD _) (aBJ bJ q1 (Pb hm));exact⟨b9,q1,q2,q3,dQ,s1,s2,s3⟩
 by_cases cd:a<b
 ·have e1:a/b=0:=nj cd;have e2:a%b=a:=dZ cd;refine(aXC ha hb cd o_ o_).mono ?_
  rintro e w' ⟨rfl,gD⟩
  refine fin w' _ _ gD ?_;have bJ:=hm.call gD;obtain⟨b9,q1,q2,q3⟩:=Ad (xs:=[]) (n:=0) (v:=.slice none 0 0) bJ K9 (.inl ⟨rfl,rfl,rfl⟩) n_ n_;have ez:eF (a/b)=.view []:=by unfold eF cK;rw[e1,oV];rfl
  have en:nd bz (a/b)=0:=by rw[e1,oV]
  rw[ez,en,e2];have UJ:dr w' va (nd bz a) (cK a):=dr.jU ha gD;obtain⟨dQ,s1,s2,s3⟩:=Ad q2 (La _) UJ (nD _) (λb o c' e j y o' aT hj hy he=>by
   have Cm:c j=some y:=by
    unfold bA at hj;by_cases ch:j=kq
    ·rw[aA ch]at hj;injection hj with hj;subst hj;cases hy
    ·rw[au ch]at hj;exact hj
   obtain⟨l,e1,_⟩:=hm.born j y Cm;have e2:=q1 j l e1;rw[he]at e2;injection e2 with e2;subst e2;subst e;rcases hv.iM rfl with ⟨_,_,_,_,e⟩|⟨b',o2,qK,c2,gy,_,_,e⟩
   ·cases e
   ·injection e with e _ _;injection e with e;injection e with e _ _;subst e;exact(hm.seen k1 _ _ _ _ iu rfl gy).2 j y _ _ Cm hy e1)
  exact⟨b9,q1,q2,q3,dQ,s1,s2,s3⟩
 ·have Lb:b<=a:=KZ.1 cd;have go:Calls prog 147 #[va,vb] w λe w'=>∃ vq vr,e=.returned (.tuple #[vq,vr])/\wz w w' vq (a/b)/\wz w w' vr (a%b)/\Below w.heap.size w w':=by
   by_cases ao:b<bz
   ·exact aXS ha hb Lb lO ao o_
   ·have h3:2<=nd bz b:=by
     rcases fo (nd bz b) 2 with h|h
     ·have h4:=eE (B:=bz) d_ b;have h5:bz^nd bz b<=bz^1:=dj d_ o_;rw[Cg]at h5;omega
     ·exact h
    exact aX9 (e:=nd bz b-2) ha hb Lb o_ h1
  refine go.mono ?_
  rintro e w' ⟨vq,vr,rfl,h3,h4,gD⟩
  exact fin w' _ _ gD (new w' vq vr gD h3 h4)
theorem aQf(n1 n2:Bool)(a b:Nat):(sg n1 a).tdiv (sg n2 b)=sg (n1 !=n2) (a/b):=by cases n1<;>cases n2<;>simp[sg,Int.neg_tdiv,Int.tdiv_neg]
theorem aQg(n1 n2:Bool)(a b:Nat):(sg n1 a).tmod (sg n2 b)=sg n1 (a%b):=by cases n1<;>cases n2<;>simp[sg,Int.neg_tmod,Int.tmod_neg]<;>exact Ar o_
theorem aQh{x:Int}(h1:-4611686018427387904<=x)(h2:x<=4611686018427387903):IntKind.i64.wrap x=x:=by rw[eD];omega
theorem Xq:nd bz 1=1/\cK 1=[vI 1]:=by have h:=wB (s:=1) d_ d_;exact⟨h,by unfold cK;rw[h,C9 d_];rfl⟩
theorem Xr{n:Bool}(h:n=true->m≠0):decide (sg n m<0)=n:=by
 cases n
 ·exact aY (by simp[sg])
 ·exact aJ (by have:=h rfl;simp[sg];omega)
theorem aQi(n:Bool)(m:Nat):(sg n m !=0)=decide (m≠0):=by
 by_cases h:m=0
 ·subst h;cases n<;>rfl
 ·rw[aJ h,rW];cases n<;>simp[sg]<;>omega
theorem aXV{x y:Int}{p:Nat}(hy:y≠0)(h1:x.natAbs<2^p)(h2:y.natAbs<2^q)(hp:p<=1099511627774)(hq:q<=1099511627774):
  aH prog 106 [bd x,bd y] (.tuple #[bd (x.fdiv y),bd (x.fmod y),.int .i64 0]):=by
 revert hy h1 h2;refine Gg (C:=λx y v u=>y≠0->x.natAbs<2^p->y.natAbs<2^q->aH prog 106 [v,u] (.tuple #[bd (x.fdiv y),bd (x.fmod y),.int .i64 0])) (λn1 n2 m1 m2 v1 v2 hy h1 h2=>?_) x y;rw[rh]at h1 h2;have IQ:m2≠0:=by intro e;rw[e]at hy;cases n2<;>exact hy rfl
 have b1:=y7 h1;have b2:=y7 h2;have c1:=wW h1;have c2:=wW h2;obtain⟨Q,hQ⟩:∃ Q,Q=m1/m2:=⟨_,rfl⟩;obtain⟨R,hR⟩:∃ R,R=m1%m2:=⟨_,rfl⟩;have Ld:m1=Q*m2+R:=by rw[hQ,hR,c7];exact(jM _ _).symm
 have Gj:R<m2:=by rw[hR];exact cU _ (uG IQ)
 have UQ:Q<=m1:=by rw[hQ];exact uK _ _
 have fT:((Q*m2:Nat):Int)=(Q:Int)*m2:=oP ..;have fix:R≠0->n1≠n2->(sg n1 m1).fdiv (sg n2 m2)=sg true (Q+1)/\(sg n1 m1).fmod (sg n2 m2)=sg n2 (m2-R):=λvT bB=>by
  refine Pg ?_ ?_
  ·rw[Ld];have e:((m2-R:Nat):Int)=(m2:Int)-R:=by omega
   cases n1<;>cases n2<;>first|exact absurd rfl bB|(simp only[sg,rO,vP,vO,wT,fT,e,IK,IL,K8,Int.add_mul];omega)
  ·cases n2
   ·left;simp only[sg,vP,vO];omega
   ·right;simp only[sg,rO];omega
 have aQj:¬(R≠0/\n1≠n2)->(sg n1 m1).fdiv (sg n2 m2)=sg (n1 !=n2) Q/\(sg n1 m1).fmod (sg n2 m2)=sg n2 R:=λh=>by
  have h0:n1≠n2->R=0:=λbB=>iP λh3=>h ⟨h3,bB⟩;refine Pg ?_ ?_
  ·rw[Ld];cases n1<;>cases n2<;>simp only[sg,Bool.bne_false,Bool.bne_true,KN,OI,rO,vP,vO,wT,fT,IK,IL,K8]<;>first|omega|(have:=h0 n_;omega)
  ·cases n2
   ·left;simp only[sg,vP,vO];omega
   ·right;simp only[sg,rO];omega
 have w1:=aX7 n1 v1;have w2:=aX7 n2 v2;have e26:((BA (cO m2)).toList==(ByteArray.mk #[]).toList)=false:=by rw[qZ,aY IQ]
 have r2:=MJ m2;obtain⟨tR,vT⟩:∃ t,decide (R≠0)=t:=⟨_,rfl⟩;have fx:(sg n1 m1).fdiv (sg n2 m2)=(bif tR&&(n1 !=n2)then sg true (Q+1)else sg (n1 !=n2) Q)/\(sg n1 m1).fmod (sg n2 m2)=(bif tR&&(n1 !=n2)then sg n2 (m2-R)else sg n2 R):=by
  by_cases hf:R≠0/\n1≠n2
  ·rw[<-vT,aJ hf.1,rW.2 hf.2];exact fix hf.1 hf.2
  ·rw[show(tR&&(n1 !=n2))=false from aED.2 λh=>by rw[dc,<-vT]at h;exact hf ⟨jN h.1,rW.1 h.2⟩]
   exact aQj hf
 obtain⟨t1,i1,d1,q1,_,_,g1⟩:=JB v1;obtain⟨t2,i2,d2,q2,_,_,g2⟩:=JB v2;have e39:decide (((nd 256 m2:Nat):Int)<=7)=t2:=by rw[<-d2];exact qh.2 o_
 by_cases hs:t1=true/\t2=true
 ·obtain⟨rfl,rfl⟩:=hs;obtain rfl:=g1 rfl;obtain rfl:=g2 rfl;have l1:=MI (jN d1);have l2:=MI (jN d2);have td:=aQf n1 n2 m1 m2;have tm:=aQg n1 n2 m1 m2;rw[<-hQ]at td;rw[<-hR]at tm;have gx:=JA n1 m1;have gq:=JA (n1 !=n2) Q;have t52:=(aQi n1 R).trans vT;have t55:=Xr v1;have t57:=Xr v2;have wq:IntKind.i64.wrap ((sg n1 m1).tdiv (sg n2 m2))=sg (n1 !=n2) Q:=by rw[td,eD];omega
  have bk:=Int.mul_fdiv_add_fmod (sg n1 m1) (sg n2 m2);have e1:(bif tR&&(n1 !=n2)then sg true (Q+1)else sg (n1 !=n2) Q)=bif tR&&(n1 !=n2)then sg (n1 !=n2) Q-1 else sg (n1 !=n2) Q:=by cases tR<;>cases n1<;>cases n2<;>first|rfl|(simp[sg];omega)
  have gr:-(m2:Int)<=(bif tR&&(n1 !=n2)then sg n2 (m2-R)else sg n2 R)/\(bif tR&&(n1 !=n2)then sg n2 (m2-R)else sg n2 R)<=m2:=by have h1:=JA n2 (m2-R);have h2:=JA n2 R;cases tR&&(n1 !=n2)<;>(dsimp only[cond];omega)
  rw[fx.1,fx.2,e1]at bk;rw[fx.1,fx.2,e1];have gz:-4611686018427387904<=(bif tR&&(n1 !=n2)then sg (n1 !=n2) Q-1 else sg (n1 !=n2) Q)/\(bif tR&&(n1 !=n2)then sg (n1 !=n2) Q-1 else sg (n1 !=n2) Q)<=4611686018427387903:=by cases tR&&(n1 !=n2)<;>(dsimp only[cond];omega)
  rw[UO]at bk;generalize (bif tR&&(n1 !=n2)then sg n2 (m2-R)else sg n2 R)=rr at *;generalize sg (n1 !=n2) Q=q0 at *;generalize sg n1 R=r0 at *;generalize sg n1 m1=X at *;generalize sg n2 m2=Y at *;have w67:IntKind.i64.wrap ((bif tR&&(n1 !=n2)then q0-1 else q0)*Y)=(bif tR&&(n1 !=n2)then q0-1 else q0)*Y:=by rw[eD];omega
  have w68:IntKind.i64.wrap (X-(bif tR&&(n1 !=n2)then q0-1 else q0)*Y)=rr:=by rw[eD];omega
  have o1:=aXK (z:=bif tR&&(n1 !=n2)then q0-1 else q0) o_ o_;refine fk mixed func106 100 (λw=>[w1.at 15,w2.at 19,.rw 26 (.bool ((BA (cO m2)).toList==(ByteArray.mk #[]).toList)) a_ (by rw[e26]),q1.at 31,.rw 38 _ (vI (nd 256 m2)) r2,.rw 39 (.bool (decide (((nd 256 m2:Nat):Int)<=7))) b_ (by rw[e39]),q2.at 43,.wQ f106 48 .i64 X Y _ hy wq k_,.F1 f106 51 .i64 X Y _ hy tm k_,.rw 52 (.bool (r0 !=0)) (.bool tR) (by rw[t52])]++(bif tR then[.rw 55 (.bool (decide (X<0))) (.bool n1) (by rw[t55]),.rw 57 (.bool (decide (Y<0))) (.bool n2) (by rw[t57])]++(bif n1 !=n2 then[.wr 61 .i64 (q0-1) (q0-1) (aQh o_ o_)]else[])else[])++[o1.at 63,.wr 67 .i64 _ _ w67,.wr 68 .i64 _ rr w68,(aXK (z:=rr) o_ o_).at 69]) (λ_=>?_) k_ ?_<;>cases tR<;>cases n1<;>cases n2<;>kernel_rfl
 ·have bQ:nd bz Q<1099511627776:=by have:=jL (B:=bz) d_ UQ;omega
  have bR:nd bz R<1099511627776:=by have:=jL (B:=bz) d_ (kv Gj);omega
  have bD:nd bz (m2-R)<1099511627776:=by have:=jL (B:=bz) d_ (Gf m2 R);omega
  have bQ1:nd bz (Q+1)<1099511627776:=Xb (k:=p+1) (by rw[dH];omega) o_;have II:∀ w,cI prog (aa.at w) (az f106 77) [.func (.func 147) #[] #[],sl 4 (nd bz m1),sl 5 (nd bz m2)] [(4,some (eF m1)),(5,some (eF m2)),(6,none),(7,none)] (.tuple #[sl 6 (nd bz Q),sl 7 (nd bz R)]) [(7,eF R),(6,eF Q)]:=λw=>by rw[hQ,hR];exact aXq (Bs:=aa.at w) (o:=az f106 77) (y:=.func 147) k_ (k1:=4) (k2:=5) (kq:=6) (kr:=7) d_ IQ o_ o_
  have MO:∀ w,cI prog (aa.at w) (az f106 92) [.func (.func 101) #[] #[],sl 6 (nd bz Q),sl 8 1] [(9,none),(6,some (eF Q)),(8,some (.row [vI 1] 3 1))] (sl 9 (nd bz (Q+1))) [(9,jD (Q+1))]:=λw=>by have:=sn (B:=aa.at w) (o:=az f106 92) (x:=.func 101) (aEe (a:=Q) (b:=1) o_ (by rw[Xq.1];omega)) (oH (k:=6) (x:=eF Q) rfl rfl (oH (k:=8) (x:=.row (cK 1) 3 1) rfl rfl .nil)) k_ k_ (tU _) 9;rw[Xq.1,Xq.2]at this;exact this
  have IF:decide (0<nd bz R)=tR:=by have:(0<nd bz R)↔R≠0:=⟨λh e=>by rw[e,oV]at h;omega,λh=>x7 d_ h⟩;rw[qh.2 this,vT]
  rw[fx.1,fx.2];refine fk mixed func106 100 (λw=>[w1.at 15,w2.at 19,.rw 26 (.bool ((BA (cO m2)).toList==(ByteArray.mk #[]).toList)) a_ (by rw[e26]),q1.at 31]++(bif t1 then[.rw 38 _ (vI (nd 256 m2)) r2,.rw 39 (.bool (decide (((nd 256 m2:Nat):Int)<=7))) (.bool t2) (by rw[e39])]else[])++[.aEC f106 73 4 m1 o_ k_,.aEC f106 76 5 m2 o_ k_,.step 77 _ _ _ _ _ (II w)]++(bif n1 !=n2 then[.gt 88 (nd bz R) 0 tR IF]else[])++
    bif tR&&(n1 !=n2)then[.bs f106 91 8 1 3 1 [0] (vI 0) [vI 1] #[vI 1] (.row [vI 1] 3 1) rfl (λv hv=>by simp at hv;subst hv;rfl) (λv hv=>by simp at hv;subst hv;rfl) k_ rfl o_ o_ k_,.step 92 (az f106 92) _ _ _ _ (MO w),.y0 f106 95 10 m2 o_ k_,.MH f106 97 11 10 7 m2 R (jD m2) (eF R) rfl rfl rfl rfl (kv Gj) o_ k_,.Bd f106 104 9 (Q+1) true (jD (Q+1)) rfl rfl o_ k_,.Bd f106 108 11 (m2-R) n2 (jD (m2-R)) rfl rfl o_ k_]
    else[.Bd f106 104 6 Q (n1 !=n2) (eF Q) rfl rfl o_ k_,.Bd f106 108 7 R n2 (eF R) rfl rfl o_ k_]) (λ_=>?_) k_ ?_<;>cases t1<;>cases t2<;>first|exact absurd ⟨rfl,rfl⟩ hs|(cases tR<;>cases n1<;>cases n2<;>kernel_rfl)

theorem aQk{y:m_}(ho:dC o.op=some y){n:Nat}{x:Obj}(hx:x.reads=true)(cV:(x.cells.all flat)=true)(hc:(x.cells.drop off).take n=aw (ae bz n a))(ha:a<bz^n)(h63:n<=9223372036854775807):
  cI prog Bs o [.func (.func 107) #[] #[],.slice (some ⟨k,off,some 7⟩) n cc] [(k,some x)] (.slice (some ⟨k,off,some 7⟩) (nd bz a) cc) []:=by
 refine kj (fi:=[]) (ca:=[]) ho k_ λι c w hm hn args' dP=>?_;obtain⟨v,rfl,h1⟩:=oh dP;have hk:c k=some x:=hn _ (aR ..);have hr:=pA (len:=n) hm hk hx (bC.1 cV) (λh=>h) h1;rw[hc]at hr;refine(aDP hr ha h63).mono ?_
 rintro e w' ⟨rfl,hb⟩
 refine⟨ι,_,rfl,Map.le.refl _,?_,hm.call hb⟩;have e7:=jK (B:=bz) d_ ha;rcases h1.iM rfl with ⟨q1,q2,q3,q4,q5⟩|⟨b,oo,cap,c',q1,q2,q3,q5⟩
 ·rw[q5];have:nd bz a=0:=by omega
  dsimp only at q4;rw[this,q4,q3];exact .slcN q1
 ·rw[q5];exact .slc q1 o_ q3
theorem aQl(x:Int):IntKind.i64.wrap (((BitVec.ofInt IntKind.i64.bits x)&&& (BitVec.ofInt IntKind.i64.bits 1)).toNat:Int)=x%2:=aEq x 1 d_
theorem aEE(x:Nat):IntKind.i64.wrap (((BitVec.ofInt IntKind.i64.bits (x:Int))&&& (BitVec.ofInt IntKind.i64.bits 1)).toNat:Int)=((x%2:Nat):Int):=by rw[aQl];rfl
theorem aQm{n z:Nat}(hz:z<=n)(h0:∀ i,i<z->a/bz^i%bz=0):ae bz n a=List.replicate z 0++ae bz (n-z) (a/bz^z):=by
 apply x8
 ·simp[pB];omega
 ·intro i h1 h2;rw[pB]at h1;by_cases hi:i<z
  ·rw[List.getElem_append_left (by simpa using hi)];simp only[ae,DD,DF,List.getElem_replicate];exact h0 i hi
  ·rw[List.getElem_append_right (by simp;omega)];simp only[ae,DD,DF,Jx];rw[lJ,<-eW,show z+(i-z)=i by omega]
theorem aEF{a:Nat}:∀ z,(∀ i,i<z->a/bz^i%bz=0)->a%bz^z=0
 |0,_=>by rw[tn,uH]
 |z+1,h=>by rw[qi,aEF z (λi hi=>h i o_),h z o_];simp
theorem Xs{d:Nat}:∀ r,(∀ i,i<r->d/2^i%2=0)->d%2^r=0
 |0,_=>by rw[tn,uH]
 |r+1,h=>by have e:=qi (B:=2) d r;rw[Xs r (λi hi=>h i o_),h r o_]at e;rw[e];simp
theorem aQn{x y:Nat}(hr:r<=24)(hx:x<bz)(hy:y<bz):x/2^r+y*2^(24-r)%bz=(y*bz+x)/2^r%bz:=by
 have hb:bz=2^(24-r)*2^r:=by rw[<-eW,show 24-r+r=24 by omega]
 have h2:0<2^r:=cT d_;obtain⟨c,hc⟩:∃ c,c=2^(24-r):=⟨_,rfl⟩;obtain⟨q,hq⟩:∃ q,q=2^r:=⟨_,rfl⟩;rw[<-hc,<-hq]at hb;rw[<-hc,<-hq];rw[<-hq]at h2;have h3:x/q<c:=by rw[jc h2,<-hb];exact hx
 have e1:(y*bz+x)/q=y*c+x/q:=by rw[hb,<-gA,nN,qj _ _ h2,nN]
 have e2:y*c%bz=c*(y%q):=by rw[hb,c7 y c,Nat.mul_mod_mul_left]
 have e3:y*c=c*(y%q)+bz*(y/q):=by have:=jM y q;rw[hb,gA,<-pC,nN,this,c7]
 have h4:y%q<q:=cU _ h2;have h5:c*(y%q)+c<=bz:=by rw[hb,<-Oz];exact jY _ h4
 have h6:c*(y%q)+x/q<bz:=by omega
 rw[e1,e2,e3,show c*(y%q)+bz*(y/q)+x/q=(c*(y%q)+x/q)+bz*(y/q)by omega,FX,dZ h6];omega
section
variable{Bs:aa}{n a z r:Nat}
def zg(k n z:Nat):Value:=.slice (some ⟨k,z*1,some 7⟩) n z
def zi(n i:Nat):aU:=[(0,zg 0 (n-i) i),(4,vI (24*i))]
def nY(n a:Nat):aL:=[(0,.row (aw (ae bz n a)) 3 1)]
theorem aQo(hi:i+1<n)(h0:a/bz^i%bz=0)(h63:n<35184372088832):
  ah prog Bs 62 (aK (ai f102 0)) (zi n i) (nY n a) 1 ⟨.normal,zi n (i+1),nY n a,1⟩:=by
 have jz:dU prog 3 (aw (ae bz n a)) (i*1)=some (vI 0):=by rw[gZ,eB (eU o_),h0]
 unfold zi nY zg;generalize aw (ae bz n a)=r0 at *;obtain⟨m,hm⟩:∃ m,n-i=m+1:=⟨n-i-1,by omega⟩;have dE:n-(i+1)=m:=by omega
 rw[hm,dE];exact aG [.qx f102 8 0 i (m+1) i 0 i 1 o_ (jv i) k_,.ld f102 9 3 0 (i*1) (.row r0 3 1) (vI 0) rfl jz k_,.gH 10 0 0 true rfl,.next f102 12 0 i m 1 o_ k_,.sum 14 (24*i) 24 (24*(i+1)) o_ o_]
theorem aQp(hi:i<n)(h0:a/bz^i%bz≠0):
  ah prog Bs 62 (aK (ai f102 0)) (zi n i) (nY n a) 1 ⟨.exit 0,zi n i,nY n a,1⟩:=by
 have jz:dU prog 3 (aw (ae bz n a)) (i*1)=some (vI (a/bz^i%bz)):=by rw[gZ,eB (eU o_)]
 unfold zi nY zg;generalize aw (ae bz n a)=r0 at *;generalize a/bz^i%bz=d at *;exact aG [.qx f102 8 0 i (n-i) i 0 i 1 o_ (jv i) k_,.ld f102 9 3 0 (i*1) (.row r0 3 1) (vI d) rfl jz k_,.gH 10 d 0 false (aY h0)]
theorem aQq(hz:z<n)(h0:∀ i,i<z->a/bz^i%bz=0)(h1:a/bz^z%bz≠0)(h63:n<35184372088832):
  ah prog Bs 62 (.block 0 (ai f102 0)) (zi n 0) (nY n a) 1 ⟨.normal,zi n z,nY n a,1⟩:=
 cg (id:=0) (cz (b:=aK (ai f102 0)) (r:=⟨.exit 0,zi n z,nY n a,1⟩) z (zi n) (λ_=>nY n a) (λ_ _ _=>Iff.rfl) (λi hi=>aQo o_ (h0 i hi) h63) (aQp hz h1) n_)
def zj(n z i:Nat):aU:=[(0,zg 0 (n-z) z),(5,vI i)]
theorem aQr(hz:z<n)(hd:a/bz^z%bz=d)(EV:d<bz)(hi:i<24)(h0:d/2^i%2=0):
  ah prog Bs 62 (aK (ai f102 2)) (zj n z i) (nY n a) 1 ⟨.normal,zj n z (i+1),nY n a,1⟩:=by
 have jz:dU prog 3 (aw (ae bz n a)) (z*1)=some (vI d):=by rw[gZ,eB (eU o_),hd]
 unfold zj nY zg;generalize aw (ae bz n a)=r0 at *;exact aG [.qx f102 16 0 z (n-z) z 0 z 1 o_ (jv z) k_,.ld f102 17 3 0 (z*1) (.row r0 3 1) (vI d) rfl jz k_,.shr f102 19 .i64 (d:Int) ((d/2^i:Nat):Int) i (by rw[show min i IntKind.i64.bits=i from oQ (show i<=64 by omega),ti _ (Iv d_),uJ,Iw];rfl) k_,.wr 20 .i64 _ ((d/2^i%2:Nat):Int) (aEE _),.gH 21 (d/2^i%2) 0 true (aJ h0),.sum 23 i 1 (i+1) rfl o_]
theorem aQs(hz:z<n)(hd:a/bz^z%bz=d)(EV:d<bz)(hi:i<24)(h0:d/2^i%2≠0):
  ah prog Bs 62 (aK (ai f102 2)) (zj n z i) (nY n a) 1 ⟨.exit 2,zj n z i,nY n a,1⟩:=by
 have jz:dU prog 3 (aw (ae bz n a)) (z*1)=some (vI d):=by rw[gZ,eB (eU o_),hd]
 unfold zj nY zg;generalize aw (ae bz n a)=r0 at *;exact aG [.qx f102 16 0 z (n-z) z 0 z 1 o_ (jv z) k_,.ld f102 17 3 0 (z*1) (.row r0 3 1) (vI d) rfl jz k_,.shr f102 19 .i64 (d:Int) ((d/2^i:Nat):Int) i (by rw[show min i IntKind.i64.bits=i from oQ (show i<=64 by omega),ti _ (Iv d_),uJ,Iw];rfl) k_,.wr 20 .i64 _ ((d/2^i%2:Nat):Int) (aEE _),.gH 21 (d/2^i%2) 0 false (aY h0)]
theorem aQt(hz:z<n)(hd:a/bz^z%bz=d)(EV:d<bz)(hr:r<24)(h0:∀ i,i<r->d/2^i%2=0)(h1:d/2^r%2≠0):
  ah prog Bs 62 (.block 2 (ai f102 2)) (zj n z 0) (nY n a) 1 ⟨.normal,zj n z r,nY n a,1⟩:=
 cg (id:=2) (cz (b:=aK (ai f102 2)) (r:=⟨.exit 2,zj n z r,nY n a,1⟩) r (zj n z) (λ_=>nY n a) (λ_ _ _=>Iff.rfl) (λi hi=>aQr hz hd EV o_ (h0 i hi)) (aQs hz hd EV hr h1) n_)
def EW(l z r i:Nat):aU:=[(0,zg 0 l z),(5,vI r),(6,vI i)]
def pQ(l z r a1 i:Nat):List Nat:=List.replicate z 0++dh bz l i (a1/2^r) a1
def Bh(l z r a1 i:Nat):aL:=[(0,.row (aw (pQ l z r a1 i)) 3 1)]
theorem aEG{l:Nat}(hj:j<l)(h:i<=j):(pQ l z r a1 i)[z+j]?=some (a1/bz^j%bz):=by unfold pQ;rw[FD s_,Jx,F7];exact DH hj h
theorem aEH{l:Nat}(hi:i<l)(hd:d=a1/2^r/bz^i%bz):(pQ l z r a1 i).set (z+i) d=pQ l z r a1 (i+1):=by unfold pQ;rw[Ww _ _ s_,Jx,F7,Ai hi hd]
theorem Xt{l:Nat}:(pQ l z r a1 i).length=z+l:=by unfold pQ;rw[lH,Jx,x9]
theorem aQu{l:Nat}(hr:r<24)(hi:i<l)(ha:a1<bz^l)(h63:z+l<35184372088832):
  ah prog Bs 62 (aK (ai f102 4)) (EW l z r i) (Bh l z r a1 i) 1 ⟨.normal,EW l z r (i+1),Bh l z r a1 (i+1),1⟩:=by
 have hx:=iG (B:=bz) d_ a1 i;have hy:=iG (B:=bz) d_ a1 (i+1);have wy:=aQn (r:=r) o_ hx hy;rw[aBt (B:=bz) (k:=r) (X:=a1) (i:=i) d_ ⟨2^(24-r),by rw[<-eW,show r+(24-r)=24 by omega]⟩]at wy;have hw:=iG (B:=bz) d_ (a1/2^r) i;have hlx:dU prog 3 (aw (pQ l z r a1 i)) ((z+i)*1)=some (vI (a1/bz^i%bz)):=by rw[gZ];exact eB (aEG hi (bF _))
 obtain⟨pf,EC⟩:∃ pf,pf=(pQ l z r a1 i).set (z+i) (a1/bz^i%bz/2^r):=⟨_,rfl⟩;have uy:fK prog 3 (aw (pQ l z r a1 i)) ((z+i)*1) (vI (a1/bz^i%bz/2^r))=some (aw pf):=by rw[gZ,xt (by rw[Xt];omega),EC]
 have EU:dU prog 3 (aw pf) ((z+i)*1)=some (vI (a1/bz^i%bz/2^r)):=by rw[gZ];refine eB ?_;rw[EC,List.getElem?_set_self (by rw[Xt];omega)]
 have Xu:i+1<l->dU prog 3 (aw pf) ((z+(i+1))*1)=some (vI (a1/bz^(i+1)%bz)):=λh=>by rw[gZ];refine eB ?_;rw[EC,List.getElem?_set_ne o_];exact aEG h o_
 have vE:fK prog 3 (aw pf) ((z+i)*1) (vI (a1/2^r/bz^i%bz))=some (aw (pQ l z r a1 (i+1))):=by rw[gZ,xt (by rw[EC,Xj,Xt];omega),EC,List.set_set,aEH hi rfl]
 have qk:¬i+1<l->aw pf=aw (pQ l z r a1 (i+1))/\True:=λh=>by have h0:a1/bz^(i+1)%bz=0:=rV ha o_ d_;rw[h0,l9,Nat.zero_mod,jv]at wy;refine⟨?_,trivial⟩;rw[EC,wy,aEH hi rfl]
 have kB:bz=16777216:=rfl;unfold EW Bh zg;generalize aw (pQ l z r a1 (i+1))=r2 at *;generalize aw (pQ l z r a1 i)=r0 at *;generalize aw pf=r1 at *;generalize a1/2^r/bz^i%bz=w at *;generalize a1/bz^(i+1)%bz=y at *;generalize a1/bz^i%bz=x at *;have hq:(x:Int).fdiv (2^(min r IntKind.i64.bits))=((x/2^r:Nat):Int):=by rw[show min r IntKind.i64.bits=r from oQ (show r<=64 by omega),ti _ (Iv d_),uJ,Iw];rfl
 have hxq:x/2^r<=x:=uK _ _;by_cases hl:i+1<l
 ·have Xu:=Xu hl;have h24:y*2^(24-r)<281474976710656:=by have h1:2^(24-r)<=2^24:=dj d_ o_;have h2:=aBx hy h1 d_;rw[show bz*2^24=281474976710656 by decide]at h2;exact h2
  have aEI:IntKind.i64.wrap ((y:Int)*2^(min (24-r) IntKind.i64.bits))=((y*2^(24-r):Nat):Int):=by
   have e:(y:Int)*2^(24-r)=((y*2^(24-r):Nat):Int):=by simp
   rw[show min (24-r) IntKind.i64.bits=24-r from oQ (show 24-r<=64 by omega),eD,e];omega
  obtain⟨g,hg⟩:∃ g,g=y*2^(24-r):=⟨_,rfl⟩;rw[<-hg]at wy aEI h24;obtain⟨v,hv⟩:∃ v,v=x/2^r:=⟨_,rfl⟩;rw[<-hv]at wy hq hxq uy EU;exact fv mixed 200 [.lt 27 i l true (by simp[hi]),.qx f102 32 0 z l z i (z+i) 1 hi rfl k_,.ld f102 33 3 0 ((z+i)*1) (.row r0 3 1) (vI x) rfl hlx k_,.shr f102 35 .i64 (x:Int) (v:Int) r hq k_,.qx f102 36 0 z l z i (z+i) 1 hi rfl k_,.st f102 100036 3 0 ((z+i)*1) (.row r0 3 1) (vI v) (.row r1 3 1) rfl uy rfl k_,.sum 38 i 1 (i+1) rfl o_,.lt 41 (i+1) l true (by simp[hl]),.qx f102 44 0 z l z i (z+i) 1 hi rfl k_,.ld f102 45 3 0 ((z+i)*1) (.row r1 3 1) (vI v) rfl EU k_,.sum 48 i 1 (i+1) rfl o_,.qx f102 49 0 z l z (i+1) (z+(i+1)) 1 hl rfl k_,.ld f102 50 3 0 ((z+(i+1))*1) (.row r1 3 1) (vI y) rfl Xu k_,.fN 52 24 r (24-r) o_ o_,.shl f102 53 .i64 (y:Int) (g:Int) (24-r) aEI k_,.Hd 54 g bz (g%bz) rfl,.sum 55 v (g%bz) w wy.symm o_,.qx f102 56 0 z l z i (z+i) 1 hi rfl k_,.st f102 100056 3 0 ((z+i)*1) (.row r1 3 1) (vI w) (.row r2 3 1) rfl vE rfl k_,.sum 29 i 1 (i+1) rfl o_] k_
 ·obtain⟨e1,_⟩:=qk hl;subst e1;obtain⟨v,hv⟩:∃ v,v=x/2^r:=⟨_,rfl⟩;rw[<-hv]at wy hq hxq uy EU;exact fv mixed 200 [.lt 27 i l true (by simp[hi]),.qx f102 32 0 z l z i (z+i) 1 hi rfl k_,.ld f102 33 3 0 ((z+i)*1) (.row r0 3 1) (vI x) rfl hlx k_,.shr f102 35 .i64 (x:Int) (v:Int) r hq k_,.qx f102 36 0 z l z i (z+i) 1 hi rfl k_,.st f102 100036 3 0 ((z+i)*1) (.row r0 3 1) (vI v) (.row r1 3 1) rfl uy rfl k_,.sum 38 i 1 (i+1) rfl o_,.lt 41 (i+1) l false (by simp[hl]),.sum 29 i 1 (i+1) rfl o_] k_
theorem aQv{l:Nat}(hr:r<24)(ha:a1<bz^l)(h63:z+l<35184372088832):
  ah prog Bs 62 (.block 4 (ai f102 4)) (EW l z r 0) (Bh l z r a1 0) 1 ⟨.normal,EW l z r l,Bh l z r a1 l,1⟩:=
 cg (id:=4) (cz (b:=aK (ai f102 4)) (r:=⟨.exit 4,EW l z r l,Bh l z r a1 l,1⟩) l (EW l z r) (Bh l z r a1) (λk j _=>kH (l:=Bh l z r a1 k) (m:=Bh l z r a1 0) rfl j) (λi hi=>aQu hr hi ha h63)
  (aG [.lt 27 l l false s_]) n_)
end

theorem aEJ(h0:a≠0):∃ z r,z<nd bz a/\r<24/\(∀ i,i<z->a/bz^i%bz=0)/\a/bz^z%bz≠0/\(∀ i,i<r->a/bz^z%bz/2^i%2=0)/\a/bz^z%bz/2^r%2≠0/\
  a=a/bz^z/2^r*2^(24*z+r)/\a/bz^z/2^r%2=1:=by
 have zk:=x7 (B:=bz) d_ h0;have yq:¬a/bz^(nd bz a-1)%bz=0:=λh=>by have h1:=eE (B:=bz) d_ a;rw[show nd bz a=nd bz a-1+1 by omega]at h1;have h2:=(H9 (B:=bz) d_ h1).1 h;have h3:=jK (B:=bz) d_ h2;omega
 obtain⟨z,z1,z2,z3⟩:=Ah (λi=>¬a/bz^i%bz=0) _ yq;have z3':∀ i,i<z->a/bz^i%bz=0:=λi hi=>F3.1 (z3 i hi);obtain⟨d,hd⟩:∃ d,d=a/bz^z%bz:=⟨_,rfl⟩;have EV:d<bz:=by rw[hd];exact cU _ d_
 have Ea:d≠0:=by rw[hd];exact z2
 have aQw:∃ i,i<24/\¬d/2^i%2=0:=iP λgi=>Ea (by have h:=Xs (d:=d) 24 (λi hi=>iP λh=>gi ⟨i,hi,h⟩);rw[dZ (show d<2^24 from EV)]at h;exact h)
 obtain⟨i0,hi0,lO⟩:=aQw;obtain⟨r,r1,r2,r3⟩:=Ah (λi=>¬d/2^i%2=0) _ lO;have Xv:∀ i,i<r->d/2^i%2=0:=λi hi=>F3.1 (r3 i hi);have e1:a%bz^z=0:=aEF z z3';have e2:d%2^r=0:=Xs r Xv;obtain⟨a1,eC⟩:∃ a1,a1=a/bz^z:=⟨_,rfl⟩;have ea:a=a1*bz^z:=by have:=jM a (bz^z);rw[e1,<-eC,c7]at this;omega
 have hb:bz=2^(24-r)*2^r:=by rw[<-eW,show 24-r+r=24 by omega]
 have ed:a1=bz*(a1/bz)+d:=by rw[hd,<-eC];exact(jM _ _).symm
 have e3:a1%2^r=0:=by
  rw[ed]
  conv=>lhs;rw[hb]
  rw[Cs,c7 _ (2^r),Nat.mul_add_mod,e2]
 have ea1:a1=a1/2^r*2^r:=by have:=jM a1 (2^r);rw[e3,c7]at this;omega
 have e4:a1/2^r%2=d/2^r%2:=by
  have h2:0<2^r:=cT d_;have h3:a1/2^r=2^(24-r)*(a1/bz)+d/2^r:=by
   conv=>lhs;rw[ed,hb]
   rw[Cs,nN,qj _ _ h2,nN];rw[<-hb]
  rw[h3,show 24-r=(23-r)+1 by omega,dH,Cs,nN,D1]
 rw[hd]at r2 Xv;refine⟨z,r,by omega,by omega,z3',z2,Xv,r2,?_,?_⟩
 ·rw[<-eC];have e5:bz^z=2^(24*z):=by rw[tu]
  rw[eW,c7 (2^(24*z)),<-gA,<-ea1,<-e5];exact ea
 ·rw[<-eC,e4,hd];omega
theorem aQx(h0:a≠0)(h63:nd bz a<1099511627776):∃ s a2,a=a2*2^s/\a2%2=1/\s<35184372088832/\∀(Bs:aa) (o:Oper) (k j:Nat),dC o.op=some (.func 102)->
  cI prog Bs o [.func (.func 102) #[] #[],sl k (nd bz a)] [(k,some (jD a)),(j,none)] (.tuple #[sl j (nd bz a2),vI s]) [(j,eF a2),(k,.dead)]:=by
 obtain⟨z,r,hz,hr,z3,z2,r3,r2,aEK,Re⟩:=aEJ h0;have ao:=eE (B:=bz) d_ a;obtain⟨a1,eC⟩:∃ a1,a1=a/bz^z:=⟨_,rfl⟩;obtain⟨a2,gO⟩:∃ a2,a2=a1/2^r:=⟨_,rfl⟩;have EV:a/bz^z%bz<bz:=cU _ d_;rw[<-eC,<-gO]at aEK Re;refine⟨24*z+r,a2,aEK,Re,by omega,λBs o k j ho=>?_⟩;have h20:a2≠0:=λe=>by rw[e]at Re;cases Re
 have Hm:=aQm (n:=nd bz a) (z:=z) (a:=a) o_ z3;rw[<-eC]at Hm;have jW:jD a=.row (aw (ae bz (nd bz a) a)) 3 1:=rfl;obtain⟨n,hn⟩:∃ n,n=nd bz a:=⟨_,rfl⟩;rw[jW];rw[<-hn]at hz ao Hm h63 ⊢;have aEL:a1<bz^(n-z):=by rw[eC,jc (cT d_),<-eW,show n-z+z=n by omega];exact ao
 have Xw:a2<bz^(n-z):=fA (by rw[gO];exact uK _ _) aEL;have l1:=λBs=>aQq (Bs:=Bs) hz z3 z2 o_;have l2:=λBs=>aQt (Bs:=Bs) (r:=r) hz rfl EV hr r3 r2;have l3:=λBs=>aQv (Bs:=Bs) (z:=z) (l:=n-z) hr aEL o_;have e0:pQ (n-z) z r a1 0=ae bz n a:=by unfold pQ;rw[Hm];unfold dh ae;simp
 have e1:pQ (n-z) z r a1 (n-z)=List.replicate z 0++ae bz (n-z) a2:=by
  unfold pQ;rw[<-gO]
  congr 1
  unfold dh ae;refine uD λi hi=>?_;rw[aA (kh.1 hi)]
 obtain⟨fin,EP⟩:∃ fin,fin=aw (List.replicate z 0++ae bz (n-z) a2):=⟨_,rfl⟩;have aEM:(fin.drop (z*1)).take (n-z)=aw (ae bz (n-z) a2):=by rw[EP,gZ];unfold aw;rw[vA,S2 s_,lh (by simp[pB])]
 unfold Bh at l3;rw[e0,e1,<-EP]at l3;have aQy:nd bz a2<=n-z:=jK d_ Xw;have D3:fin.all flat=true:=by rw[EP];exact iU _
 have D9:(fin.drop (z*1)).take (nd bz a2)=cK a2:=by
  have h1:(aw (ae bz (n-z) a2)).take (nd bz a2)=cK a2:=by have:=C4 Xw;rwa[gZ]at this
  rw[<-aEM,NW,oQ aQy]at h1;exact h1
 have kg:=x7 (B:=bz) d_ h20;have htr:∀ Bs,cI prog Bs (az f102 58) [.func (.func 107) #[] #[],zg 0 (n-z) z] [(0,some (.row fin 3 1))] (zg 0 (nd bz a2) z) []:=λBs=>
  aQk (Bs:=Bs) (y:=.func 107) (k:=0) (off:=z*1) (cc:=z) (x:=.row fin 3 1) k_ rfl D3 aEM Xw o_
 unfold zi nY at l1;unfold zj nY at l2;unfold EW at l3;refine aPK (x:=.func 102) ho k_ o_ (nD _) (nD _) rfl kg λw g cap cur hg lF kf bL hc=>?_;have hm:=TQ hg kf bL hc (nD _)
 refine vH (M:=[(0,.row (aw (ae bz n a)) 3 1)]) (next:=1) (args:=[sl 0 n]) (args':=[.slice (some ⟨g,0,none⟩) n cap]) (v:=.tuple #[zg 0 (nd bz a2) z,vI (24*z+r)])
  (ms:=[(0,.row fin 3 1)]) (N:=62) mixed func102 k_ 200
  (rs:=[(.code 0 _ _ _ _ _ (l1 _):aZ prog (aa.wP w g) 62),.code 2 _ _ _ _ _ (l2 _),.code 4 _ _ _ _ _ (l3 _),.step 58 (az f102 58) _ _ _ _ (htr _),.sum 61 (24*z) r (24*z+r) rfl o_]) k_ ?_ hm ?_ ?_ ?_
 ·exact .cons (.slc (off:=0) (gu _ _ _) lF o_) .nil
 ·exact aAM _ _ _
 ·intro k hk;unfold bA;rw[au o_]
 ·intro aB cr v' w' hle uo bJ dW;have xc:=dW _ (aR ..);have rN:=hle 0 _ (gu _ _ _);obtain⟨q1,gE,q2,q3,q4⟩:=TR bJ rN xc (bC.1 D3);obtain⟨cX,rfl,bo⟩:=uo.vt;obtain⟨p,q,hp,h3,h4⟩:=jH bo;have e:cX=#[p,q]:=wK.1 (by rw[hp]);subst e;rw[h4.fH rfl];have cy:=pA (len:=nd bz a2) bJ xc rfl (bC.1 D3) (λh=>h) h3;have MP:dr w' p (nd bz a2) ((fin.drop (z*1)).take (nd bz a2)):=cy;rw[D9]at MP;rcases h3.iM rfl with ⟨_,Km,_⟩|⟨b,oo,qK,c2,gy,_,_,he⟩
  ·omega
  ·dsimp only at gy he;rw[rN]at gy;injection gy with gy;injection gy with gy hb3 hb4;subst gy;subst hb3;rw[he]at MP ⊢;exact⟨_,_,rfl,q1,⟨gE,q2,q3⟩,MP⟩
theorem aEN(h:m%2=1)(s:Nat):Nat.Coprime (2^s) m:=by refine Nat.Coprime.pow_left s ?_;show Nat.gcd 2 m=1;rw[Nat.gcd_rec,h];rfl
theorem aEO{x y s t:Nat}(h:x*2^s=y*2^t)(hx:x%2=1)(bW:s<=t):x=y/\s=t:=by
 obtain⟨d,rfl⟩:∃ d,t=s+d:=⟨t-s,by omega⟩;have h2:0<2^s:=cT d_;rw[eW,c7 (2^s),<-gA]at h;have h3:=aLD h2 h;cases d with
 |zero=>exact⟨by rw[h3];simp,rfl⟩
 |succ d=>
  exfalso;rw[dH,<-gA]at h3;rw[h3,aAw]at hx;cases hx
theorem aQz{x y s t:Nat}(h:x*2^s=y*2^t)(hx:x%2=1)(hy:y%2=1):x=y/\s=t:=by
 rcases Pe s t with h1|h1
 ·exact aEO h hx h1
 ·obtain⟨e1,e2⟩:=aEO h.symm hy h1;exact⟨e1.symm,e2.symm⟩
noncomputable def iA(a:Nat):Nat:=by
 classical
 exact if h:∃ x s,a=x*2^s/\x%2=1 then h.choose else 1
theorem aEP{x s:Nat}(h:a=x*2^s)(hx:x%2=1):iA a=x:=by have hex:∃ x s,a=x*2^s/\x%2=1:=⟨x,s,h,hx⟩;unfold iA;rw[dif_pos hex];obtain⟨t,h1,h2⟩:=hex.choose_spec;exact(aQz (h1.symm.trans h) h2 hx).1
theorem Xx(h0:a≠0):∃ s,a=iA a*2^s/\iA a%2=1/\iA a<=a:=by obtain⟨z,r,_,_,_,_,_,_,h1,h2⟩:=aEJ h0;have e:=aEP h1 h2;rw[e];exact⟨_,h1,h2,dq (F5 _ (cT d_)) (wG h1.symm)⟩
noncomputable def gs(a b:Nat):Nat->Nat×Nat
 |0=>(a,b)
 |i+1=>(min (gs a b i).1 (gs a b i).2,iA (max (gs a b i).1 (gs a b i).2-min (gs a b i).1 (gs a b i).2))
theorem aQA{u v:Nat}(hu:u%2=1)(hv:v%2=1)(bB:u≠v):min u v%2=1/\iA (max u v-min u v)%2=1/\Nat.gcd (min u v) (iA (max u v-min u v))=Nat.gcd u v/\min u v+iA (max u v-min u v)<u+v/\max (min u v) (iA (max u v-min u v))<=max u v:=by
 have go:∀ u v,u%2=1->u<v->iA (v-u)%2=1/\Nat.gcd u (iA (v-u))=Nat.gcd u v/\u+iA (v-u)<u+v/\max u (iA (v-u))<=v:=by intro u v hu ao;obtain⟨s,h1,h2,h3⟩:=Xx (show v-u≠0 by omega);refine⟨h2,?_,by omega,Nat.max_le.2 ⟨by omega,by omega⟩⟩;have h4:=(aEN hu s).gcd_mul_right_cancel_right (iA (v-u));rw[<-h1]at h4;rw[<-h4,Nat.gcd_sub_self_right o_]
 rcases FG bB with h|h
 ·rw[oQ o_,aEQ o_];obtain⟨h1,h2,h3,h4⟩:=go u v hu h;exact⟨hu,h1,h2,h3,h4⟩
 ·rw[Xg o_,aER o_];obtain⟨h1,h2,h3,h4⟩:=go v u hv h;exact⟨hv,h1,by rw[h2,IM],by omega,h4⟩
theorem Rf{a b:Nat}(ha:a%2=1)(hb:b%2=1):∀ i,(∀ j,j<i->(gs a b j).1≠(gs a b j).2)->(gs a b i).1%2=1/\(gs a b i).2%2=1/\Nat.gcd (gs a b i).1 (gs a b i).2=Nat.gcd a b/\(gs a b i).1+(gs a b i).2+i<=a+b/\max (gs a b i).1 (gs a b i).2<=max a b
 |0,_=>⟨ha,hb,rfl,bF _,bF _⟩
 |i+1,h=>by obtain⟨h1,h2,h3,h4,h5⟩:=Rf ha hb i λj hj=>h j o_;obtain⟨k1,k2,k3,k4,k5⟩:=aQA h1 h2 (h i o_);exact⟨k1,k2,k3.trans h3,by show min _ _+iA _+(i+1)<=a+b;omega,dq k5 h5⟩
theorem aQB(ha:a%2=1)(hb:b%2=1):∃ n,(gs a b n).1=(gs a b n).2/\∀ i,i<n->(gs a b i).1≠(gs a b i).2:=by
 have key:∃ n,(gs a b n).1=(gs a b n).2:=iP λgi=>by have:=Rf ha hb (a+b+1) λj _ h=>gi ⟨j,h⟩;omega
 obtain⟨n,hn⟩:=key;obtain⟨e,h1,h2,h3⟩:=Ah (λi=>(gs a b i).1=(gs a b i).2) n hn;exact⟨e,h2,h3⟩
theorem aQC{x y s t:Nat}(hx:x%2=1)(hy:y%2=1):Nat.gcd (x*2^s) (y*2^t)=Nat.gcd x y*2^(min s t):=by
 have go:∀ x y s t,x%2=1->s<=t->Nat.gcd (x*2^s) (y*2^t)=Nat.gcd x y*2^s:=by intro x y s t hx bW;obtain⟨d,rfl⟩:∃ d,t=s+d:=⟨t-s,by omega⟩;rw[eW,c7 (2^s),<-gA,Nat.gcd_mul_right,(aEN hx d).gcd_mul_right_cancel_right]
 rcases Pe s t with h|h
 ·rw[oQ h,go x y s t hx h]
 ·rw[Xg h,IM,go y x t s hy h,IM]
theorem Xy(h:decide (a=b)=t):Value.bool (iH a b==0)=.bool t:=by
 rw[<-h];congr 1;unfold iH
 by_cases h1:a<b
 ·rw[aA h1,aY o_];rfl
 ·rw[au h1];by_cases h2:b<a
  ·rw[aA h2,aY o_];rfl
  ·rw[au h2,aJ o_];rfl
theorem aES(h:decide (b<a)=t):Value.bool (decide (iH a b>0))=.bool t:=by
 rw[<-h];congr 1;rw[qh];unfold iH
 by_cases h1:a<b
 ·rw[aA h1];omega
 ·rw[au h1];by_cases h2:b<a
  ·rw[aA h2];omega
  ·rw[au h2];omega
theorem Rg(h0:a≠0)(h63:nd bz a<1099511627776):∃ s,a=iA a*2^s/\s<35184372088832/\∀(Bs:aa) (o:Oper) (k j:Nat),dC o.op=some (.func 102)->
  cI prog Bs o [.func (.func 102) #[] #[],sl k (nd bz a)] [(k,some (jD a)),(j,none)] (.tuple #[sl j (nd bz (iA a)),vI s]) [(j,eF (iA a)),(k,.dead)]:=by
 obtain⟨s,a2,h1,h2,h3,h4⟩:=aQx h0 h63;have e:=aEP h1 h2;rw[e];exact⟨s,h1,h3,h4⟩
section
variable{Bs:aa}
def gI(u v:Nat):aU:=[(9,sl 7 (nd bz u)),(10,sl 8 (nd bz v))]
def gX(u v:Nat):List Obj:=[eF u,eF v]
theorem aQD{u v:Nat}(ao:u<v)(hu:nd bz u<1099511627776)(hv:nd bz v<1099511627776):
  ah prog Bs 111 (aK (ai f51 2)) (gI u v) ([]++marks 7 (gX u v)) 9 ⟨.normal,ij 7 [some 7,some 10] (gI u (iA (v-u))),[]++eg [some 7,some 10] (gX u (iA (v-u))),11⟩:=by
 have hd:nd bz (v-u)<1099511627776:=fA (jL d_ (Gf _ _)) hv;obtain⟨s,_,_,ho⟩:=Rg (show v-u≠0 by omega) hd;exact aG [.Jz f51 86 7 8 u v (eF u) (eF v) rfl rfl rfl rfl o_ o_ k_,.rw 88 _ a_ (Xy (a:=u) (b:=v) (aY o_)),.rw 90 _ a_ (aES (a:=u) (b:=v) (aY o_)),.MH f51 96 9 8 7 v u (eF v) (eF u) rfl rfl rfl rfl o_ o_ k_,.step 97 _ _ _ _ _ (ho Bs (az f51 97) 9 10 k_)]
theorem aQE{u v:Nat}(ao:v<u)(hu:nd bz u<1099511627776)(hv:nd bz v<1099511627776):
  ah prog Bs 111 (aK (ai f51 2)) (gI u v) ([]++marks 7 (gX u v)) 9 ⟨.normal,ij 7 [some 8,some 10] (gI v (iA (u-v))),[]++eg [some 8,some 10] (gX v (iA (u-v))),11⟩:=by
 have hd:nd bz (u-v)<1099511627776:=fA (jL d_ (Gf _ _)) hu;obtain⟨s,_,_,ho⟩:=Rg (show u-v≠0 by omega) hd;exact aG [.Jz f51 86 7 8 u v (eF u) (eF v) rfl rfl rfl rfl o_ o_ k_,.rw 88 _ a_ (Xy (a:=u) (b:=v) (aY o_)),.rw 90 _ b_ (aES (a:=u) (b:=v) (aJ o_)),.MH f51 96 9 7 8 u v (eF u) (eF v) rfl rfl rfl rfl o_ o_ k_,.step 97 _ _ _ _ _ (ho Bs (az f51 97) 9 10 k_)]
theorem aQF{u:Nat}(hu:nd bz u<1099511627776):
  ah prog Bs 111 (aK (ai f51 2)) (gI u u) ([]++marks 7 (gX u u)) 9 ⟨.exit 2,[(9,sl 7 (nd bz u))],[(7,eF u)],9⟩:=
 aG [.Jz f51 86 7 8 u u (eF u) (eF u) rfl rfl rfl rfl o_ o_ k_,.rw 88 _ b_ (Xy (a:=u) (b:=u) (aJ rfl))]
theorem aQG(ha:a%2=1)(hb:b%2=1)(hm:nd bz (max a b)<1099511627776):
  ah prog Bs 111 (.block 2 (ai f51 2)) [(9,sl 5 (nd bz a)),(10,sl 6 (nd bz b))] [(5,eF a),(6,eF b)] 7 ⟨.normal,[(9,sl 7 (nd bz (Nat.gcd a b)))],[(7,eF (Nat.gcd a b))],9⟩:=by
 obtain⟨n,hn,hi⟩:=aQB ha hb;have vW:=(Rf ha hb n hi).2.2.1;rw[hn,Nat.gcd_self]at vW;have FH:∀ i,i<=n->nd bz (gs a b i).1<1099511627776/\nd bz (gs a b i).2<1099511627776:=λi cy=>by have h:=(Rf ha hb i λj hj=>hi j o_).2.2.2.2;have h1:=jL (B:=bz) d_ (dq (Nat.le_max_left _ _) h);have h2:=jL (B:=bz) d_ (dq (Nat.le_max_right _ _) h);omega
 have qk:ah prog Bs 111 (aK (ai f51 2)) (gI (gs a b n).1 (gs a b n).2) ([]++marks 7 (gX (gs a b n).1 (gs a b n).2)) 9 ⟨.exit 2,[(9,sl 7 (nd bz (Nat.gcd a b)))],[(7,eF (Nat.gcd a b))],9⟩:=by have gy:=(FH n (bF _)).2;rw[hn,vW]at *;exact aQF gy
 have:=rX (P:=prog) (B:=Bs) (N:=111) (b:=aK (ai f51 2)) (next:=7) (p:=2) (r:=⟨.exit 2,[(9,sl 7 (nd bz (Nat.gcd a b)))],[(7,eF (Nat.gcd a b))],9⟩) n (λi=>gI (gs a b i).1 (gs a b i).2) (λ_=>[]) (λi=>gX (gs a b i).1 (gs a b i).2) [some 5,some 6] (λ_ _=>rfl)
  (λi _=>⟨λq hq=>(by cases hq),λz hz=>by simp[gX]at hz;rcases hz with rfl|rfl<;>exact Ir (nD _)⟩) k_ k_
  (λi ao=>by
   have bB:=hi i ao;obtain⟨b1,b2⟩:=FH i o_;have e1:(gs a b (i+1)).1=min (gs a b i).1 (gs a b i).2:=rfl;have e2:(gs a b (i+1)).2=iA (max (gs a b i).1 (gs a b i).2-min (gs a b i).1 (gs a b i).2):=rfl;simp only[e1,e2];generalize (gs a b i).1=u at *;generalize (gs a b i).2=v at *;rcases FG bB with h|h
   ·rw[oQ o_,aEQ o_];exact⟨[some 7,some 10],11,k_,aQD h b1 b2⟩
   ·rw[Xg o_,aER o_];exact⟨[some 8,some 10],11,k_,aQE h b1 b2⟩) qk n_
 exact cg (id:=2) this
def tI(g s t i:Nat):aU:=[(14,vI i),(9,sl 9 (nd bz (g*2^i))),(11,vI s),(12,vI t)]
theorem aQH{g s t:Nat}(hi:i<min s t)(hg:nd bz (g*2^i)<35184372088832)(hs:s<35184372088832):
  ah prog Bs 111 (aK (ai f51 4)) (tI g s t i) ([]++marks 9 [eF (g*2^i)]) 10 ⟨.normal,ij 9 [some 10] (tI g s t (i+1)),[]++eg [some 10] [eF (g*2^(i+1))],11⟩:=by
 have ht:=aEB (B:=Bs) (o:=az f51 108) (x:=.func 105) (aPd (a:=g*2^i) (c:=0) o_ hg) (oH (k:=9) (x:=eF (g*2^i)) rfl rfl (.p (v:=vI 0) rfl .nil)) k_ k_ (tU _) 10;have e:2*(g*2^i)+0=g*2^(i+1):=by rw[dH,jv,nO,c7 2]
 rw[e]at ht;obtain⟨m,hm⟩:∃ m,m=min s t:=⟨_,rfl⟩;rw[<-hm]at hi;have dW:m<=s:=by rw[hm];exact Nat.min_le_left _ _
 unfold tI;generalize g*2^(i+1)=y at *;generalize g*2^i=x at *;exact aG [.Q9 f51 103 s t m hm k_,.lt 104 i m true (aJ hi),.step 108 _ _ _ _ _ ht,.sum 106 i 1 (i+1) rfl o_]
theorem aQI{g s t:Nat}(hg:∀ i,i<=min s t->nd bz (g*2^i)<35184372088832)(hs:s<35184372088832):
  ah prog Bs 111 (.block 4 (ai f51 4)) [(14,vI 0),(9,sl 7 (nd bz g)),(11,vI s),(12,vI t)] [(7,eF g)] 9 ⟨.normal,[(9,sl 9 (nd bz (g*2^min s t)))],[(9,eF (g*2^min s t))],10⟩:=by
 have:=rX (P:=prog) (B:=Bs) (N:=111) (b:=aK (ai f51 4)) (next:=9) (p:=1) (r:=⟨.exit 4,[(9,sl 9 (nd bz (g*2^min s t)))],[(9,eF (g*2^min s t))],10⟩) (min s t) (tI g s t) (λ_=>[]) (λi=>[eF (g*2^i)]) [some 7] (λ_ _=>rfl)
  (λi _=>⟨λq hq=>(by cases hq),λz hz=>by simp at hz;subst hz;exact Ir (nD _)⟩) k_ k_
  (λi ao=>⟨[some 10],11,k_,aQH ao (hg i o_) hs⟩)
  (by unfold tI;obtain⟨m,hm⟩:∃ m,m=min s t:=⟨_,rfl⟩;rw[<-hm];generalize g*2^m=x at *;exact aG [.Q9 f51 103 s t m hm k_,.lt 104 m m false s_]) n_
 have e0:g*2^0=g:=by simp
 unfold tI at this;rw[e0]at this;exact cg (id:=4) this
def aXw(u v:Nat):aU:=[(5,vI u),(7,vI v)]
theorem aXO{x y:Nat}:ah prog Bs 111 (.block 0 (ai f51 0)) (aXw x y) [] 3 ⟨.normal,[(5,vI (Nat.gcd x y))],[],3⟩:=by
 obtain⟨n,hn,hi⟩:=Pd x y (λ_ v=>decide (v≠0)) (λu v h=>jN h);have hz:(eu x y n).2=0:=by have:=Ed hn;omega
 have hg:=Lc x y n;rw[hz,UM]at hg;rw[<-hg];refine cg (id:=0) (cz (P:=prog) (B:=Bs) (N:=111) (b:=aK (ai f51 0)) (next:=3) (r:=⟨.exit 0,[(5,vI (eu x y n).1)],[],3⟩) n (λi=>aXw (eu x y i).1 (eu x y i).2) (λ_=>[]) (λ_ _ _=>Iff.rfl) (λi ao=>?_) ?_ n_)
 ·have h0:(eu x y i).2≠0:=jN (hi i ao);show ah _ _ _ _ (aXw (eu x y i).1 (eu x y i).2) [] 3 ⟨.normal,aXw (eu x y i).2 ((eu x y i).1%(eu x y i).2),[],3⟩;generalize (eu x y i).1=u at *;generalize (eu x y i).2=v at *;exact aG [.rw 49 (.bool ((v:Int)!=0)) b_ (by congr 1;rw[rW];omega),.F1 f51 53 .i64 (u:Int) v ((u%v:Nat):Int) o_ (by rw[Ar o_];rfl) k_]
 ·rw[hz];exact aG [.rw 49 (.bool (((0:Nat):Int)!=0)) a_ rfl]
end
theorem aX2{n1 n2:Bool}{p:Nat}(v1:n1=true->m1≠0)(v2:n2=true->m2≠0)(h1:m1<2^p)(h2:m2<2^q)(hp:p<=1099511627774)(hq:q<=1099511627774):
  aH prog 51 [sv n1 m1,sv n2 m2] (bd (Nat.gcd m1 m2:Nat)):=by
 have b1:=y7 h1;have b2:=y7 h2;have c1:=wW h1;have c2:=wW h2;have w1:=aX7 n1 v1;have w2:=aX7 n2 v2;have r1:=MJ m1;have r2:=MJ m2;obtain⟨t1,jn⟩:∃ t,decide (((nd 256 m1:Nat):Int)<=7)=t:=⟨_,rfl⟩;obtain⟨t2,oT⟩:∃ t,decide (((nd 256 m2:Nat):Int)<=7)=t:=⟨_,rfl⟩;by_cases hs:t1=true/\t2=true
 ·obtain⟨rfl,rfl⟩:=hs;have s1:=jN jn;have s2:=jN oT;have q1:=Xa (neg:=false) (m:=m1) n_ o_;have q2:=Xa (neg:=false) (m:=m2) n_ o_;have l1:m1<_:=MI o_;have l2:m2<_:=MI o_;have Pf:Nat.gcd m1 m2<72057594037927936:=by
   by_cases h0:m1=0
   ·rw[h0,Vo];exact l2
   ·exact fA (aCe _ (uG h0)) l1
  exact bI func51 (λw=>[w1.at 16,w2.at 20,.rw 26 _ (vI (nd 256 m1)) r1,.rw 27 (.bool (decide (((nd 256 m1:Nat):Int)<=7))) (.bool _) (by rw[jn]),.rw 31 _ (vI (nd 256 m2)) r2,.rw 32 (.bool (decide (((nd 256 m2:Nat):Int)<=7))) (.bool _) (by rw[oT]),q1.at 38,q2.at 45,.code 0 _ _ _ _ _ (aXO (x:=m1) (y:=m2)),(aXK (z:=((Nat.gcd m1 m2:Nat):Int)) o_ o_).at 55])
 ·by_cases hz:m1=0\/m2=0
  ·have e:Nat.gcd m1 m2=m1+m2:=by rcases hz with h|h<;>rw[h]<;>simp
   have bs:nd bz (m1+m2)<35184372088832:=by rcases hz with h|h<;>rw[h]<;>simp<;>omega
   rw[e];obtain⟨z1,C1⟩:∃ t,decide (nd bz m1=0)=t:=⟨_,rfl⟩;obtain⟨z2,Mp⟩:∃ t,decide (nd bz m2=0)=t:=⟨_,rfl⟩;have hzz:¬(z1=false/\z2=false):=by
    rintro⟨rfl,rfl⟩
    rcases hz with h|h
    ·exact Ed C1 (by rw[h,oV])
    ·exact Ed Mp (by rw[h,oV])
   refine fk mixed func51 100 (λw=>[w1.at 16,w2.at 20,.rw 26 _ (vI (nd 256 m1)) r1,.rw 27 (.bool (decide (((nd 256 m1:Nat):Int)<=7))) (.bool t1) (by rw[jn])]++(bif t1 then[.rw 31 _ (vI (nd 256 m2)) r2,.rw 32 (.bool (decide (((nd 256 m2:Nat):Int)<=7))) (.bool t2) (by rw[oT])]else[])++[.y0 f51 58 3 m1 o_ k_,.y0 f51 61 4 m2 o_ k_,.gH 64 (nd bz m1) 0 z1 C1]++(bif z1 then[]else[.gH 68 (nd bz m2) 0 z2 Mp])++[
     .aEp f51 72 5 3 4 m1 m2 (jD m1) (jD m2) rfl rfl rfl rfl o_ o_ k_,.Bd f51 73 5 (m1+m2) false (jD (m1+m2)) rfl rfl bs k_]) (λ_=>?_) k_ ?_<;>cases t1<;>cases t2<;>cases z1<;>cases z2<;>first|exact absurd ⟨rfl,rfl⟩ hs|exact absurd ⟨rfl,rfl⟩ hzz|kernel_rfl
  ·have vN:m1≠0:=λe=>hz (.inl e);have DX:m2≠0:=λe=>hz (.inr e);have h41:=x7 (B:=bz) d_ vN;have h42:=x7 (B:=bz) d_ DX;obtain⟨s,es,hsb,os⟩:=Rg vN o_;obtain⟨t,et,htb,ot⟩:=Rg DX o_;obtain⟨_,_,o1,yE⟩:=Xx vN;obtain⟨_,_,o2,Xz⟩:=Xx DX;have uC:=aQC (s:=s) (t:=t) o1 o2;rw[<-es,<-et]at uC;have V4:nd bz (max (iA m1) (iA m2))<1099511627776:=by
    have k1:=jL (B:=bz) d_ yE;have k2:=jL (B:=bz) d_ Xz;rcases Pe (iA m1) (iA m2)with h|h
    ·rw[aEQ h];omega
    ·rw[aER h];omega
   have gl:=λBs=>aQG (Bs:=Bs) o1 o2 V4;have P0:Nat.gcd m1 m2<=m1:=aCe _ (uG vN);have tb:∀ i,i<=min s t->nd bz (Nat.gcd (iA m1) (iA m2)*2^i)<35184372088832:=λi hi=>by
    have k1:Nat.gcd (iA m1) (iA m2)*2^i<=Nat.gcd m1 m2:=by rw[uC];exact jY _ (dj d_ hi)
    have k2:=jL (B:=bz) d_ (dq k1 P0);omega
   have tl:=λBs=>aQI (Bs:=Bs) (g:=Nat.gcd (iA m1) (iA m2)) (s:=s) (t:=t) tb hsb;rw[<-uC]at tl;have bg:nd bz (Nat.gcd m1 m2)<35184372088832:=by have:=jL (B:=bz) d_ P0;omega
   generalize Nat.gcd m1 m2=G at *;generalize Nat.gcd (iA m1) (iA m2)=G0 at *;generalize iA m1=x1 at *;generalize iA m2=x2 at *;refine fk mixed func51 200 (λw=>[w1.at 16,w2.at 20,.rw 26 _ (vI (nd 256 m1)) r1,.rw 27 (.bool (decide (((nd 256 m1:Nat):Int)<=7))) (.bool t1) (by rw[jn])]++(bif t1 then[.rw 31 _ (vI (nd 256 m2)) r2,.rw 32 (.bool (decide (((nd 256 m2:Nat):Int)<=7))) (.bool t2) (by rw[oT])]else[])++[.y0 f51 58 3 m1 o_ k_,.y0 f51 61 4 m2 o_ k_,.gH 64 (nd bz m1) 0 false (aY o_),.gH 68 (nd bz m2) 0 false (aY o_),.step 76 _ _ _ _ _ (os _ (az f51 76) 3 5 k_),.step 81 _ _ _ _ _ (ot _ (az f51 81) 4 6 k_),.code 2 _ _ _ _ _ (gl _),.code 4 _ _ _ _ _ (tl _),.Bd f51 110 9 G false (eF G) rfl rfl bg k_]) (λ_=>?_) k_ ?_<;>cases t1<;>cases t2<;>first|exact absurd ⟨rfl,rfl⟩ hs|kernel_rfl
theorem aYk{x y:Int}{p:Nat}(h1:x.natAbs<2^p)(h2:y.natAbs<2^q)(hp:p<=1099511627774)(hq:q<=1099511627774):aH prog 51 [bd x,bd y] (bd (Nat.gcd x.natAbs y.natAbs:Nat)):=by revert h1 h2;refine Gg (C:=λx y v u=>x.natAbs<2^p->y.natAbs<2^q->aH prog 51 [v,u] (bd (Nat.gcd x.natAbs y.natAbs:Nat))) (λn1 n2 m1 m2 v1 v2 h1 h2=>?_) x y;rw[rh]at h1 h2;rw[rh,rh];exact aX2 v1 v2 h1 h2 hp hq
theorem aYo{g:Nat}{x:Int}{p:Nat}(h1:g<2^p)(h2:x.natAbs<2^q)(hp:p<=aF)(hq:q<=aF):aH prog 51 [bd g,bd x] (bd (Nat.gcd g x.natAbs:Nat)):=by have:=aYk (x:=(g:Int)) (y:=x) (by rw[AB];exact h1) h2 hp hq;rw[AB]at this;exact this
theorem aXU{x y:Int}{n:Nat}(hy:y≠0)(h1:x.natAbs<2^n)(h2:y.natAbs<2^n)(hn:n<=aF):aH prog 52 [bd x,bd y] (bd (x.fdiv y)):=
 bI func52 (λ_=>[(aXV hy h1 h2 hn hn).at 11])
theorem aYb{c:Nat->Int}{d:Int}{n:Nat}(hd:d≠0)(h:dX n (pL c d))(hn:n<=aF):aH prog 85 [qt c,bd d] (iK (pL c d).low):=by
 obtain⟨h0,h1,h2,h3,h4⟩:=h;have g1:=aYk h4 h0 hn hn;have s1:=AE h4 h0;have g2:=aYo s1 h1 hn hn;have s2:=AE s1 h1;have g3:=aYo s2 h2 hn hn;have s3:=AE s2 h2;have g4:=aYo s3 h3 hn hn;obtain⟨f,hf⟩:∃ f,f=pL c d:=⟨_,rfl⟩;have wH:f.d≠0:=by rw[hf];exact hd
 have rl:=Vd wH;have Vp:=PA f;have hg:f.g<2^n:=by
  have h5:f.d.natAbs<2^n:=by rw[hf];exact h4
  exact fA (Nat.le_of_dvd o_ (Gq f)) h5
 have bL:f.s.natAbs<2^n:=by rw[Vp];exact hg
 have ov:∀ u:Int,f.g ∣ u.natAbs->u.natAbs<2^n->aH prog 52 [bd u,bd f.s] (bd (u/f.s)):=λu hu vU=>by have:=aXU rl vU bL hn;rw[Int.fdiv_eq_ediv_of_dvd (Ei hu)]at this;exact this
 have o0:=ov f.a (Pw f) (by rw[hf];exact h0);have o1:=ov f.b (Px f) (by rw[hf];exact h1);have o2:=ov f.c (Py f) (by rw[hf];exact h2);have o3:=ov f.e (Pz f) (by rw[hf];exact h3);have o4:=ov f.d (Gq f) (by rw[hf];exact h4);have CF:=aXK (z:=1) d_ d_;have aE:=aXt d;have XA:Nat.gcd (Nat.gcd (Nat.gcd (Nat.gcd (pL c d).d.natAbs (pL c d).a.natAbs) (pL c d).b.natAbs) (pL c d).c.natAbs) (pL c d).e.natAbs=f.g:=by rw[hf];rfl
 rw[XA]at g4;have ab:=W6 (f.g:Int);rw[AB]at ab;rw[<-hf];have e0:f.a=c 0:=by rw[hf];rfl
 have e1:f.b=c 1:=by rw[hf];rfl
 have e2:f.c=c 2:=by rw[hf];rfl
 have e3:f.e=c 3:=by rw[hf];rfl
 have e4:f.d=d:=by rw[hf];rfl
 have one:(bT 1).Sm:=uP (n:=1) d_ d_;have sm:(bT f.s).Sm:=uP bL hn;by_cases GA:d<0
 ·have hs:f.s=-(f.g:Int):=by unfold Fr.s;rw[e4,aA GA]
  have bB:bT f.s≠bT 1:=λe=>by have:=yA e;omega
  have ng:=aX6 (f.g:Int);rw[<-hs]at ng;rw[e0]at o0;rw[e1]at o1;rw[e2]at o2;rw[e3]at o3;rw[e4]at o4;have dG:f.low=⟨c 0/f.s,c 1/f.s,c 2/f.s,c 3/f.s,d/f.s⟩:=by unfold Fr.low;rw[e0,e1,e2,e3,e4]
  rw[dG];have CG:decide (d.sign<0)=true:=aJ (by rw[Ge GA];decide);generalize f.s=s at *;exact fk mixed func85 200 (λ_=>[g1.at 18,g2.at 18,g3.at 18,g4.at 18,ab.at 20,aE.at 22,.rw 23 (.bool (decide (d.sign<0))) b_ (by rw[CG]),ng.at 25,CF.at 30,.step 31 (az f85 31) _ _ _ _ (CE (neg:=false) k_ (bT s) (bT 1) sm one (b:=true) (by simp;exact bB)),o0.at 41,o1.at 41,o2.at 41,o3.at 41,o4.at 46]) (λ_=>k_) k_ k_
 ·have hs:f.s=(f.g:Int):=by unfold Fr.s;rw[e4,au GA]
  have CG:decide (d.sign<0)=false:=aY (by rw[Cz o_];decide);by_cases uQ:f.g=1
  ·have dG:f.low=f:=by unfold Fr.low;rw[hs,uQ];simp
   rw[dG,hf];rw[uQ]at g4 ab;exact fk mixed func85 200 (λ_=>[g1.at 18,g2.at 18,g3.at 18,g4.at 18,ab.at 20,aE.at 22,.rw 23 (.bool (decide (d.sign<0))) a_ (by rw[CG]),CF.at 30,.step 31 (az f85 31) _ _ _ _ (CE (neg:=false) k_ (bT 1) (bT 1) one one (b:=false) s_)]) (λ_=>k_) k_ k_
  ·have bB:bT f.s≠bT 1:=λe=>by have:=yA e;omega
   rw[e0]at o0;rw[e1]at o1;rw[e2]at o2;rw[e3]at o3;rw[e4]at o4;have dG:f.low=⟨c 0/f.s,c 1/f.s,c 2/f.s,c 3/f.s,d/f.s⟩:=by unfold Fr.low;rw[e0,e1,e2,e3,e4]
   rw[dG];rw[<-hs]at g4 ab;generalize f.s=s at *;exact fk mixed func85 200 (λ_=>[g1.at 18,g2.at 18,g3.at 18,g4.at 18,ab.at 20,aE.at 22,.rw 23 (.bool (decide (d.sign<0))) a_ (by rw[CG]),CF.at 30,.step 31 (az f85 31) _ _ _ _ (CE (neg:=false) k_ (bT s) (bT 1) sm one (b:=true) (by simp;exact bB)),o0.at 41,o1.at 41,o2.at 41,o3.at 41,o4.at 46]) (λ_=>k_) k_ k_
theorem aXH(h:z.natAbs<9223372036854775808):aH prog 20 [.int .i64 z] (bH (kI z)):=by
 rw[aCg];have e:iK ⟨z,0,0,0,1⟩=(RN.mk (bT z) ⟨false,[]⟩ ⟨false,[]⟩ ⟨false,[]⟩ (bT 1)).v:=by unfold iK tH;rw[Em]
 rw[e];exact bI func20 (λ_=>[(aXK (z:=z) o_ o_).at 4,(aXK (z:=1) d_ d_).at 6])
section
variable{P:j_}{B:aa}{N:Nat}
def JD(o:Oper):Bool:=match o.op with
 |.call c=>match c.callee,c.args.toList with
  |.builtin .max,[_,_]=>true
  |_,_=>false
 |_=>false
theorem aQJ(ho:JD o=true){x:Int}:cI P B o [.int .i64 x,.int .i64 (-x)] [] (vI x.natAbs) []:=by
 unfold JD at ho;split at ho
 ·rename_i c ck;split at ho
  ·rename_i p q h1 h2;refine(BQ (λu hu=>by simp at hu;rcases hu with rfl|rfl<;>rfl) rfl λρ fP w _=>?_).step;obtain⟨ce,ar,at'⟩:=c;dsimp only at h1 h2;subst h1;have e1:ar=#[p,q]:=by rw[<-yL (xs:=ar),h2]
   subst e1;rw[ck]at fP;simp[Op.operands,Call.operands]at fP;simp[execOp,ck,resolve,invoke,builtin,Builtin.max_,Builtin.max2,fP.1,fP.2,vI];split<;>omega
  ·cases ho
 ·cases ho
def aZ.MQ(fn:Func)(key:Nat)(x:Int)(ho:JD (az fn key)=true):aZ P B N:=
 .step key (az fn key) [.int .i64 x,.int .i64 (-x)] [] (vI x.natAbs) [] (aQJ ho)
end
theorem aQK(l:List UInt8)(c:UInt8):gJ (l++[c])=gJ l*256+c.toNat:=by unfold gJ;rw[WH];rfl
def gM(r:RN):Nat->RI
 |0=>r.a
 |1=>r.b
 |2=>r.c
 |3=>r.e
 |_=>r.d
def eQ(r:RI):Int:=sg r.neg (gJ r.bw)
def w5(W:Nat->Int):al:=[.int .i64 (W 0),.int .i64 (W 1),.int .i64 (W 2),.int .i64 (W 3),.int .i64 (W 4)]
def wv(r:RN)(i:Nat):Nat->Int:=λj=>match Nat.blt j i with|true=>eQ (gM r j)|false=>0
def aQL(W:Nat->Int)(i:Nat)(x:Int):Nat->Int:=λj=>match Nat.beq j i with|true=>x|false=>W j
section
variable{Bs:aa}{W:Nat->Int}{q:RI}
def Da(i k:Nat):aU:=[(5,vI i),(4,ptr 2),(6,ptr (3+i)),(7,vI k)]
def zn(W:Nat->Int)(q:RI)(i k:Nat):aL:=[(2,.aI (w5 (aQL W i (gJ (q.bw.take k):Nat))) 90),(3+i,.aI q.cs 28)]
theorem aQM(hi:i<5)(hk:k<q.bw.length)(h3:q.bw.length<=3):
  ah prog Bs 58 (aK (ai f59 2)) (Da i k) (zn W q i k) (4+i) ⟨.normal,Da i (k+1),zn W q i (k+1),4+i⟩:=by
 obtain⟨c,hc⟩:∃ c,q.bw[k]?=some c:=⟨q.bw[k],bt hk⟩;have hv:gJ (q.bw.take (k+1))=gJ (q.bw.take k)*256+c.toNat:=by rw[uZ,hc];exact aQK _ _
 have hb:(BA q.bw)[k]?=some c:=by rw[KR];exact hc
 have bL:Value.int .i64 ((BA q.bw).size:Int)=vI q.bw.length:=by rw[pD];rfl
 have ao:gJ (q.bw.take k)<65536:=by have h1:=Cb (q.bw.take k);have h2:(256:Nat)^(q.bw.take k).length<=256^2:=dj d_ (by rw[jV];omega);exact cH h1 (dq h2 d_)
 have hc3:=c.toNat_lt;unfold Da zn;rw[hv];generalize gJ (q.bw.take k)=x at *;have w1:IntKind.i64.wrap ((x:Int)*2^8)=((x*256:Nat):Int):=by rw[show((x:Int)*2^8)=((x*256:Nat):Int)by simp,eD];omega
 have w2:IntKind.i64.wrap (c.toNat:Int)=(c.toNat:Int):=by rw[eD];omega
 have w3:IntKind.i64.wrap (((x*256:Nat):Int)+(c.toNat:Int))=((x*256+c.toNat:Nat):Int):=by rw[eD];omega
 generalize x*256+c.toNat=y at *;generalize x*256=z at *;generalize q.bw.length=L at *;rcases i with _|_|_|_|_|i
 all_goals first|omega|exact aG [.rw 33 _ (vI L) bL,.lt 34 k L true (aJ hk),.wr 41 .i64 ((x:Int)*2^8) _ w1,.sx f59 45 (BA q.bw) k c hb k_,.wr 46 .i64 (c.toNat:Int) _ w2,.wr 47 .i64 _ _ w3,.sum 36 k 1 (k+1) rfl o_]
theorem aQN(hi:i<5)(h3:q.bw.length<=3):
  ah prog Bs 58 (.block 2 (ai f59 2)) (Da i 0) (zn W q i 0) (4+i) ⟨.normal,Da i q.bw.length,zn W q i q.bw.length,4+i⟩:=by
 have bL:Value.int .i64 ((BA q.bw).size:Int)=vI q.bw.length:=by rw[pD];rfl
 refine cg (id:=2) (cz (b:=aK (ai f59 2)) (r:=⟨.exit 2,Da i q.bw.length,zn W q i q.bw.length,4+i⟩) q.bw.length (Da i) (zn W q i) (λk t _=>kH (l:=zn W q i k) (m:=zn W q i 0) rfl t) (λk hk=>aQM hi hk h3) ?_ n_);unfold Da zn;generalize gJ (q.bw.take q.bw.length)=x at *;generalize q.bw.length=L at *;rcases i with _|_|_|_|_|i
 all_goals first|omega|exact aG [.rw 33 _ (vI L) bL,.lt 34 L L false s_]
def Hn(i:Nat):aU:=[(5,vI i),(1,ptr 0),(2,ptr 1),(4,ptr 2)]
def Ho(r:RN)(W:Nat->Int):aL:=[(0,.aI r.cs 31),(1,.aI (w5 λ_=>0) 90),(2,.aI (w5 W) 90)]
theorem aQO{r:RN}(hi:i<5)(h3:(gM r i).bw.length<=3)(hv:yt (gM r i).neg (gM r i).bw=true):
  ah prog Bs 58 (.block 1 (ai f59 1)) (Hn i) (Ho r (wv r i)) (3+i) ⟨.normal,Hn i,Ho r (wv r (i+1)),4+i⟩:=by
 have lo:=aQN (Bs:=Bs) (W:=wv r i) (q:=gM r i) hi h3;have nX:=aXy (gM r i).neg (gM r i).bw;rw[hv]at nX;have bL:Value.int .i64 ((BA (gM r i).bw).size:Int)=vI (gM r i).bw.length:=by rw[pD];rfl
 have mD:Value.bool (decide (((gM r i).bw.length:Int)>3))=.bool false:=by rw[aY o_]
 unfold zn Da at lo;rw[aA9,oD]at lo;have e0:gJ []=0:=rfl;rw[e0]at lo;have ao:gJ (gM r i).bw<16777216:=by have h1:=Cb (gM r i).bw;have h2:(256:Nat)^(gM r i).bw.length<=256^3:=dj d_ h3;exact cH h1 (dq h2 d_)
 have wn:IntKind.i64.wrap (0-(gJ (gM r i).bw:Int))=-(gJ (gM r i).bw:Int):=by rw[eD];omega
 rcases r with ⟨⟨an,am⟩,⟨bn,bm⟩,⟨cn,cm⟩,⟨en,em⟩,⟨dn,dm⟩⟩;rcases i with _|_|_|_|_|i
 ·cases an
  ·exact aG [.rw 22 _ (vI am.length) bL,.rw 23 _ a_ mD,nX.at 26,.code 2 _ _ _ _ _ lo]
  ·exact aG [.rw 22 _ (vI am.length) bL,.rw 23 _ a_ mD,nX.at 26,.code 2 _ _ _ _ _ lo,.wr 55 .i64 _ _ wn]
 ·cases bn
  ·exact aG [.rw 22 _ (vI bm.length) bL,.rw 23 _ a_ mD,nX.at 26,.code 2 _ _ _ _ _ lo]
  ·exact aG [.rw 22 _ (vI bm.length) bL,.rw 23 _ a_ mD,nX.at 26,.code 2 _ _ _ _ _ lo,.wr 55 .i64 _ _ wn]
 ·cases cn
  ·exact aG [.rw 22 _ (vI cm.length) bL,.rw 23 _ a_ mD,nX.at 26,.code 2 _ _ _ _ _ lo]
  ·exact aG [.rw 22 _ (vI cm.length) bL,.rw 23 _ a_ mD,nX.at 26,.code 2 _ _ _ _ _ lo,.wr 55 .i64 _ _ wn]
 ·cases en
  ·exact aG [.rw 22 _ (vI em.length) bL,.rw 23 _ a_ mD,nX.at 26,.code 2 _ _ _ _ _ lo]
  ·exact aG [.rw 22 _ (vI em.length) bL,.rw 23 _ a_ mD,nX.at 26,.code 2 _ _ _ _ _ lo,.wr 55 .i64 _ _ wn]
 ·cases dn
  ·exact aG [.rw 22 _ (vI dm.length) bL,.rw 23 _ a_ mD,nX.at 26,.code 2 _ _ _ _ _ lo]
  ·exact aG [.rw 22 _ (vI dm.length) bL,.rw 23 _ a_ mD,nX.at 26,.code 2 _ _ _ _ _ lo,.wr 55 .i64 _ _ wn]
 ·omega
theorem aQP{r:RN}(hi:i<5)(h3:¬(gM r i).bw.length<=3):
  ah prog Bs 58 (.block 1 (ai f59 1)) (Hn i) (Ho r (wv r i)) (3+i) ⟨.ret,[(2,ptr 1),(3,.bool false)],[(1,.aI (w5 (wv r i)) 90)],4+i⟩:=by
 have bL:Value.int .i64 ((BA (gM r i).bw).size:Int)=vI (gM r i).bw.length:=by rw[pD];rfl
 have mD:Value.bool (decide (((gM r i).bw.length:Int)>3))=.bool true:=by rw[aJ o_]
 rcases r with ⟨⟨an,am⟩,⟨bn,bm⟩,⟨cn,cm⟩,⟨en,em⟩,⟨dn,dm⟩⟩;rcases i with _|_|_|_|_|i
 ·exact aG [.rw 22 _ (vI am.length) bL,.rw 23 _ b_ mD]
 ·exact aG [.rw 22 _ (vI bm.length) bL,.rw 23 _ b_ mD]
 ·exact aG [.rw 22 _ (vI cm.length) bL,.rw 23 _ b_ mD]
 ·exact aG [.rw 22 _ (vI em.length) bL,.rw 23 _ b_ mD]
 ·exact aG [.rw 22 _ (vI dm.length) bL,.rw 23 _ b_ mD]
 ·omega
theorem aQQ{r:RN}(hi:i<5)(h3:(gM r i).bw.length<=3)(hv:yt (gM r i).neg (gM r i).bw=false):
  ah prog Bs 58 (.block 1 (ai f59 1)) (Hn i) (Ho r (wv r i)) (3+i) ⟨.ret,[(2,ptr 1),(3,.bool false)],[(1,.aI (w5 (wv r i)) 90)],4+i⟩:=by
 have nX:=aXy (gM r i).neg (gM r i).bw;rw[hv]at nX;have bL:Value.int .i64 ((BA (gM r i).bw).size:Int)=vI (gM r i).bw.length:=by rw[pD];rfl
 have mD:Value.bool (decide (((gM r i).bw.length:Int)>3))=.bool false:=by rw[aY o_]
 rcases r with ⟨⟨an,am⟩,⟨bn,bm⟩,⟨cn,cm⟩,⟨en,em⟩,⟨dn,dm⟩⟩;rcases i with _|_|_|_|_|i
 ·exact aG [.rw 22 _ (vI am.length) bL,.rw 23 _ a_ mD,nX.at 26]
 ·exact aG [.rw 22 _ (vI bm.length) bL,.rw 23 _ a_ mD,nX.at 26]
 ·exact aG [.rw 22 _ (vI cm.length) bL,.rw 23 _ a_ mD,nX.at 26]
 ·exact aG [.rw 22 _ (vI em.length) bL,.rw 23 _ a_ mD,nX.at 26]
 ·exact aG [.rw 22 _ (vI dm.length) bL,.rw 23 _ a_ mD,nX.at 26]
 ·omega
end
def rI(q:RI):Bool:=decide (q.bw.length<=3)&&yt q.neg q.bw
theorem aQR{r:RN}(hi:i<5)(h:rI (gM r i)=false):
  ah prog Bs 58 (.block 1 (ai f59 1)) (Hn i) (Ho r (wv r i)) (3+i) ⟨.ret,[(2,ptr 1),(3,.bool false)],[(1,.aI (w5 (wv r i)) 90)],4+i⟩:=by
 unfold rI at h;by_cases h3:(gM r i).bw.length<=3
 ·rw[aJ h3,kp]at h;exact aQQ hi h3 h
 ·exact aQP hi h3
theorem JE{r:RN}(hi:i<5)(h:rI (gM r i)=true):
  ah prog Bs 58 (.block 1 (ai f59 1)) (Hn i) (Ho r (wv r i)) (3+i) ⟨.normal,Hn i,Ho r (wv r (i+1)),4+i⟩:=by
 unfold rI at h;simp at h;exact aQO hi h.1 h.2
theorem aET{r:RN}(h:∀ i,i<5->rI (gM r i)=true):aH prog 59 [r.v] (.tuple #[.agg (w5 (wv r 5)).toArray,.bool true]):=
 fk mixed func59 200 (λw=>[.code 1 _ _ _ _ _ (JE o_ (h 0 o_)),.code 1 _ _ _ _ _ (JE o_ (h 1 o_)),.code 1 _ _ _ _ _ (JE o_ (h 2 o_)),.code 1 _ _ _ _ _ (JE o_ (h 3 o_)),.code 1 _ _ _ _ _ (JE o_ (h 4 o_))]) (λ_=>k_) k_ k_
theorem aEU{r:RN}(h:¬∀ i,i<5->rI (gM r i)=true):∃ n,aH prog 59 [r.v] (.tuple #[.agg (w5 (wv r n)).toArray,.bool false]):=by
 have hex:∃ n,n<5/\rI (gM r n)=false:=iP λgi=>h λi hi=>by
  cases hb:rI (gM r i)with
  |true=>rfl
  |false=>exact absurd ⟨i,hi,hb⟩ gi
 obtain⟨n0,k9,lO⟩:=hex;obtain⟨n,h1,h2,h3⟩:=Ah (λi=>rI (gM r i)=false) n0 lO;have aC:∀ i,i<n->rI (gM r i)=true:=λi hi=>by
  cases hb:rI (gM r i)with
  |true=>rfl
  |false=>exact absurd hb (h3 i hi)
 refine⟨n,?_⟩;have no:=λBs=>aQR (Bs:=Bs) (show n<5 by omega) h2;have yes:=λBs i (hi:i<n)=>JE (Bs:=Bs) (show i<5 by omega) (aC i hi)
 rcases n with _|_|_|_|_|n
 ·exact fk mixed func59 200 (λw=>[.code 1 _ _ _ _ _ (no _)]) (λ_=>k_) k_ k_
 ·exact fk mixed func59 200 (λw=>[.code 1 _ _ _ _ _ (yes _ 0 o_),.code 1 _ _ _ _ _ (no _)]) (λ_=>k_) k_ k_
 ·exact fk mixed func59 200 (λw=>[.code 1 _ _ _ _ _ (yes _ 0 o_),.code 1 _ _ _ _ _ (yes _ 1 o_),.code 1 _ _ _ _ _ (no _)]) (λ_=>k_) k_ k_
 ·exact fk mixed func59 200 (λw=>[.code 1 _ _ _ _ _ (yes _ 0 o_),.code 1 _ _ _ _ _ (yes _ 1 o_),.code 1 _ _ _ _ _ (yes _ 2 o_),.code 1 _ _ _ _ _ (no _)]) (λ_=>k_) k_ k_
 ·exact fk mixed func59 200 (λw=>[.code 1 _ _ _ _ _ (yes _ 0 o_),.code 1 _ _ _ _ _ (yes _ 1 o_),.code 1 _ _ _ _ _ (yes _ 2 o_),.code 1 _ _ _ _ _ (yes _ 3 o_),.code 1 _ _ _ _ _ (no _)]) (λ_=>k_) k_ k_
 ·omega
def G5(W:Nat->Int):Nat:=Nat.gcd (Nat.gcd (Nat.gcd (Nat.gcd (Nat.gcd 0 (W 0).natAbs) (W 1).natAbs) (W 2).natAbs) (W 3).natAbs) (W 4).natAbs
theorem MR(x y:Nat):ah prog Bs 28 (.block 2 (ai f60 2)) [(5,vI x),(6,vI y)] [] 1 ⟨.normal,[(5,vI (Nat.gcd x y))],[],1⟩:=by
 obtain⟨n,hn,hi⟩:=Pd x y (λ_ v=>decide (v≠0)) (λu v h=>jN h);have hz:(eu x y n).2=0:=by have:=Ed hn;omega
 have hg:=Lc x y n;rw[hz,UM]at hg;rw[<-hg];refine cg (id:=2) (cz (P:=prog) (B:=Bs) (N:=28) (b:=aK (ai f60 2)) (next:=1) (r:=⟨.exit 2,[(5,vI (eu x y n).1)],[],1⟩) n (λi=>[(5,vI (eu x y i).1),(6,vI (eu x y i).2)]) (λ_=>[]) (λ_ _ _=>Iff.rfl) (λi ao=>?_) ?_ n_)
 ·have h0:(eu x y i).2≠0:=jN (hi i ao);show ah _ _ _ _ [(5,vI (eu x y i).1),(6,vI (eu x y i).2)] [] 1 ⟨.normal,[(5,vI (eu x y i).2),(6,vI ((eu x y i).1%(eu x y i).2))],[],1⟩;generalize (eu x y i).1=u at *;generalize (eu x y i).2=v at *;exact aG [.rw 21 (.bool ((v:Int)!=0)) b_ (by congr 1;rw[rW];omega),.F1 f60 25 .i64 (u:Int) v ((u%v:Nat):Int) o_ (by rw[Ar o_];rfl) k_]
 ·rw[hz];exact aG [.rw 21 (.bool (((0:Nat):Int)!=0)) a_ rfl]
theorem aEV{W:Nat->Int}(hW:∀ i,(W i).natAbs<4611686018427387904):aH prog 60 [.agg (w5 W).toArray] (vI (G5 W)):=by
 have ng:∀ i,IntKind.i64.wrap (0-W i)=-(W i):=λi=>by have:=hW i;rw[eD];omega
 exact fk mixed func60 200 (λw=>[.wr 18 .i64 _ _ (ng 0),.MQ f60 19 (W 0) k_,.code 2 _ _ _ _ _ (MR 0 (W 0).natAbs),.wr 18 .i64 _ _ (ng 1),.MQ f60 19 (W 1) k_,.code 2 _ _ _ _ _ (MR (Nat.gcd 0 (W 0).natAbs) (W 1).natAbs),.wr 18 .i64 _ _ (ng 2),.MQ f60 19 (W 2) k_,.code 2 _ _ _ _ _ (MR (Nat.gcd (Nat.gcd 0 (W 0).natAbs) (W 1).natAbs) (W 2).natAbs),.wr 18 .i64 _ _ (ng 3),.MQ f60 19 (W 3) k_,.code 2 _ _ _ _ _ (MR (Nat.gcd (Nat.gcd (Nat.gcd 0 (W 0).natAbs) (W 1).natAbs) (W 2).natAbs) (W 3).natAbs),.wr 18 .i64 _ _ (ng 4),.MQ f60 19 (W 4) k_,.code 2 _ _ _ _ _ (MR (Nat.gcd (Nat.gcd (Nat.gcd (Nat.gcd 0 (W 0).natAbs) (W 1).natAbs) (W 2).natAbs) (W 3).natAbs) (W 4).natAbs)]) (λ_=>k_) k_ k_
def cw(f:Fr):Nat->Int
 |0=>f.a
 |1=>f.b
 |2=>f.c
 |3=>f.e
 |_=>f.d
theorem XB(f:Fr):G5 (cw f)=f.g:=by show Nat.gcd (Nat.gcd (Nat.gcd (Nat.gcd (Nat.gcd 0 f.a.natAbs) f.b.natAbs) f.c.natAbs) f.e.natAbs) f.d.natAbs=Nat.gcd (Nat.gcd (Nat.gcd (Nat.gcd f.d.natAbs f.a.natAbs) f.b.natAbs) f.c.natAbs) f.e.natAbs;rw[Vo];simp only[IM,Nat.gcd_left_comm]
theorem aEW{f:Fr}(hd:0<f.d)(hW:∀ i,(cw f i).natAbs<4611686018427387904):aH prog 82 [.agg (w5 (cw f)).toArray] (iK f.low):=by
 have hg:=aEV hW;rw[XB]at hg;have hg0:=Vc (x:=f) o_;have hs:f.s=(f.g:Int):=by unfold Fr.s;rw[au o_]
 have dG:f.low=⟨f.a/(f.g:Int),f.b/(f.g:Int),f.c/(f.g:Int),f.e/(f.g:Int),f.d/(f.g:Int)⟩:=by unfold Fr.low;rw[hs]
 rw[dG];have qu:∀ u:Int,f.g ∣ u.natAbs->u.natAbs<4611686018427387904->IntKind.i64.wrap (u.tdiv (f.g:Int))=u/(f.g:Int)/\(u/(f.g:Int)).natAbs<4611686018427387904:=λu hu hb=>by have hd:=Ei hu;rw[hs]at hd;have h2:=aLE u (f.g:Int);rw[Int.tdiv_eq_ediv_of_dvd hd,eD];omega
 obtain⟨a1,a2⟩:=qu f.a (Pw f) (hW 0);obtain⟨b1,b2⟩:=qu f.b (Px f) (hW 1);obtain⟨c1,c2⟩:=qu f.c (Py f) (hW 2);obtain⟨e1,e2⟩:=qu f.e (Pz f) (hW 3);obtain⟨d1,d2⟩:=qu f.d (Gq f) (hW 4);have uQ:(f.g:Int)≠0:=by omega
 have of:=λ(z:Int) (h:z.natAbs<4611686018427387904)=>aXK (z:=z) o_ o_
 exact fk mixed func82 200 (λw=>[hg.at 7,.wQ f82 17 .i64 f.a (f.g:Int) (f.a/(f.g:Int)) uQ a1 k_,(of _ a2).at 18,.wQ f82 17 .i64 f.b (f.g:Int) (f.b/(f.g:Int)) uQ b1 k_,(of _ b2).at 18,.wQ f82 17 .i64 f.c (f.g:Int) (f.c/(f.g:Int)) uQ c1 k_,(of _ c2).at 18,.wQ f82 17 .i64 f.e (f.g:Int) (f.e/(f.g:Int)) uQ e1 k_,(of _ e2).at 18,.wQ f82 24 .i64 f.d (f.g:Int) (f.d/(f.g:Int)) uQ d1 k_,(of _ d2).at 25]) (λ_=>k_) k_ k_
def jT(q:RI):Bool:=yt q.neg q.bw
theorem Hp{q:RI}(h:jT q=true):bT (eQ q)=q:=by
 obtain⟨n,l⟩:=q;unfold jT at h;unfold eQ bT;rw[rh];cases l with
 |nil=>
  simp[yt]at h;subst h;simp[gJ,sg,D0]
 |cons c l=>
  simp[yt]at h;have hv:gJ (c::l)≠0:=by have:=aA7 (l:=l) h;have:=cT (n:=l.length) (show 0<256 by decide);omega
  have hm:cO (gJ (c::l))=c::l:=aKk (by rintro c' r' e;injection e with e1 e2;rw[<-e1];exact h);show RI.mk (decide (sg n (gJ (c::l))<0)) (cO (gJ (c::l)))=_;rw[hm,Xr (λ_=>hv)]
theorem zo(z:Int):eQ (bT z)=z:=by
 show sg (decide (z<0)) (gJ (cO z.natAbs))=z;rw[F8];unfold sg;by_cases h:z<0
 ·rw[aJ h];simp;omega
 ·rw[aY h];simp;omega
theorem MS(z:Int):jT (bT z)=true:=by show yt (decide (z<0)) (cO z.natAbs)=true;exact aEn _ (λh=>by have:=jN h;omega)
def hY(r:RN):Fr:=⟨eQ r.a,eQ r.b,eQ r.c,eQ r.e,eQ r.d⟩
def nZ(r:RN):Bool:=jT r.a&&(jT r.b&&(jT r.c&&(jT r.e&&(jT r.d&&(decide (0<eQ r.d)&&decide ((hY r).g=1))))))
theorem MT{g:Nat}{q:RI}{n:Nat}(h:jT q=true)(h1:g<2^n)(h2:(eQ q).natAbs<2^n)(hn:n<=aF):aH prog 51 [bd g,q.v] (bd (Nat.gcd g (eQ q).natAbs:Nat)):=by have:=aYo (g:=g) (x:=eQ q) h1 h2 hn hn;rw[aCd (eQ q),Hp h]at this;exact this
theorem aQS:bd ((0:Nat):Int)=.agg #[.bool false,.string ⟨#[]⟩]:=by show(bT 0).v=_;rw[Em];rfl
theorem MU{r:RN}{n:Nat}(bL:dX n (hY r))(hn:n<=aF):aH prog 25 [r.v] (.bool (nZ r)):=by
 obtain⟨sa,sb,sc,se,sd⟩:=bL
 replace sa:(eQ r.a).natAbs<2^n:=sa
 replace sb:(eQ r.b).natAbs<2^n:=sb
 replace sc:(eQ r.c).natAbs<2^n:=sc
 replace se:(eQ r.e).natAbs<2^n:=se
 replace sd:(eQ r.d).natAbs<2^n:=sd
 by_cases hw:∀ i,i<5->rI (gM r i)=true
 ·have wok:=aET hw;have raw:∀ i,i<5->jT (gM r i)=true:=λi hi=>by have:=hw i hi;unfold rI at this;simp at this;exact this.2
  have hb:∀ i,(wv r 5 i).natAbs<4611686018427387904:=λi=>by
   unfold wv;split
   ·rename_i h;have hi:i<5:=by rw[BX]at h;exact h
    have:=hw i hi;unfold rI at this;simp at this;unfold eQ;rw[rh];have h1:=Cb (gM r i).bw;have h2:(256:Nat)^(gM r i).bw.length<=256^3:=dj d_ this.1;exact cH h1 (dq h2 d_)
   ·decide
  have wg:=aEV hb;have e1:G5 (wv r 5)=(hY r).g:=XB (hY r);rw[e1]at wg;have e2:nZ r=(decide (0<eQ r.d)&&decide ((hY r).g=1)):=by unfold nZ;rw[show jT r.a=true from raw 0 o_,show jT r.b=true from raw 1 o_,show jT r.c=true from raw 2 o_,show jT r.e=true from raw 3 o_,show jT r.d=true from raw 4 o_];rfl
  rw[e2];by_cases hd:0<eQ r.d
  ·rw[aJ hd,kp];have XC:Value.bool (decide (eQ r.d>0))=.bool true:=by rw[aJ hd]
   exact fk mixed func25 200 (λw=>[wok.at 9,.rw 15 _ b_ XC,wg.at 18,.gH 19 (hY r).g 1 _ rfl]) (λ_=>k_) k_ k_
  ·rw[aY hd,An];have XC:Value.bool (decide (eQ r.d>0))=.bool false:=by rw[aY hd]
   exact fk mixed func25 200 (λw=>[wok.at 9,.rw 15 _ a_ XC]) (λ_=>k_) k_ k_
 ·obtain⟨m,Hq⟩:=aEU hw;have hp:0<2^n:=cT d_;have va:=aXy r.a.neg r.a.bw;have vb:=aXy r.b.neg r.b.bw;have vc:=aXy r.c.neg r.c.bw;have ve:=aXy r.e.neg r.e.bw;have vd:=aXy r.d.neg r.d.bw;unfold nZ;change aH _ _ _ (.bool (jT r.a))at va;change aH _ _ _ (.bool (jT r.b))at vb;change aH _ _ _ (.bool (jT r.c))at vc;change aH _ _ _ (.bool (jT r.e))at ve;change aH _ _ _ (.bool (jT r.d))at vd;have go:∀ q b,jT q=b->jT q=b:=λ_ _ h=>h;rcases ha:jT r.a with _|_
  ·rw[ha]at va;exact fk mixed func25 200 (λw=>[Hq.at 9,va.at 30]) (λ_=>k_) k_ k_
  rw[ha]at va;have g1:=MT (g:=0) ha hp sa hn;rw[aQS]at g1;have s1:Nat.gcd 0 (eQ r.a).natAbs<2^n:=by rw[Vo];exact sa
  rcases hb:jT r.b with _|_
  ·rw[hb]at vb;exact fk mixed func25 200 (λw=>[Hq.at 9,va.at 30,g1.at 37,vb.at 30]) (λ_=>k_) k_ k_
  rw[hb]at vb;have g2:=MT hb s1 sb hn;have s2:=AE s1 sb;rcases hc:jT r.c with _|_
  ·rw[hc]at vc;exact fk mixed func25 200 (λw=>[Hq.at 9,va.at 30,g1.at 37,vb.at 30,g2.at 37,vc.at 30]) (λ_=>k_) k_ k_
  rw[hc]at vc;have g3:=MT hc s2 sc hn;have s3:=AE s2 sc;rcases he:jT r.e with _|_
  ·rw[he]at ve;exact fk mixed func25 200 (λw=>[Hq.at 9,va.at 30,g1.at 37,vb.at 30,g2.at 37,vc.at 30,g3.at 37,ve.at 30]) (λ_=>k_) k_ k_
  rw[he]at ve;have g4:=MT he s3 se hn;have s4:=AE s3 se;rcases hd:jT r.d with _|_
  ·rw[hd]at vd;exact fk mixed func25 200 (λw=>[Hq.at 9,va.at 30,g1.at 37,vb.at 30,g2.at 37,vc.at 30,g3.at 37,ve.at 30,g4.at 37,vd.at 40]) (λ_=>k_) k_ k_
  rw[hd]at vd;have g5:=MT hd s4 sd hn;have s5:=AE s4 sd;have XA:Nat.gcd (Nat.gcd (Nat.gcd (Nat.gcd (Nat.gcd 0 (eQ r.a).natAbs) (eQ r.b).natAbs) (eQ r.c).natAbs) (eQ r.e).natAbs) (eQ r.d).natAbs=(hY r).g:=XB (hY r);rw[XA]at g5 s5;have aE:=aXt (eQ r.d);rw[aCd,Hp hd]at aE;have CF:=aXK (z:=1) d_ d_;have one:(bT 1).Sm:=uP (n:=1) d_ d_;have sm:(bT ((hY r).g:Int)).Sm:=uP (z:=((hY r).g:Int)) (n:=n) (by rw[AB];exact s5) hn;by_cases hp:0<eQ r.d
  ·rw[aJ hp];have XD:Value.bool (decide ((eQ r.d).sign>0))=.bool true:=by rw[Cz hp];rfl
   have heq:∀ w,cI prog (aa.at w) (az Tryz.f25 53) [(bT ((hY r).g:Int)).v,(bT 1).v] [] (.bool (decide ((hY r).g=1))) []:=λw=>CE (neg:=true) k_ (bT ((hY r).g:Int)) (bT 1) sm one (by simp only[rO,uA];exact⟨λh=>by rw[h];rfl,λh=>by have:=yA h;omega⟩)
   exact fk mixed func25 200 (λw=>[Hq.at 9,va.at 30,g1.at 37,vb.at 30,g2.at 37,vc.at 30,g3.at 37,ve.at 30,g4.at 37,vd.at 40,aE.at 44,.rw 45 _ b_ XD,g5.at 51,CF.at 52,.step 53 (az Tryz.f25 53) _ _ _ _ (heq w)]) (λ_=>k_) k_ k_
  ·rw[aY hp];have XD:Value.bool (decide ((eQ r.d).sign>0))=.bool false:=by
    rw[aY];have h0:eQ r.d<=0:=by omega
    rcases Int.lt_or_eq_of_le h0 with h|h
    ·rw[Ge h];decide
    ·rw[h];decide
   exact fk mixed func25 200 (λw=>[Hq.at 9,va.at 30,g1.at 37,vb.at 30,g2.at 37,vc.at 30,g3.at 37,ve.at 30,g4.at 37,vd.at 40,aE.at 44,.rw 45 _ a_ XD]) (λ_=>k_) k_ k_
theorem XE(f:Fr):hY (tH f)=f:=by show Fr.mk (eQ (bT f.a)) (eQ (bT f.b)) (eQ (bT f.c)) (eQ (bT f.e)) (eQ (bT f.d))=f;rw[zo,zo,zo,zo,zo]
theorem aEX{f:Fr}(h:f.qo):nZ (tH f)=true:=by unfold nZ;rw[XE,h.one];show(jT (bT f.a)&&(jT (bT f.b)&&(jT (bT f.c)&&(jT (bT f.e)&&(jT (bT f.d)&&(decide (0<eQ (bT f.d))&&decide (1=1)))))))=true;rw[MS,MS,MS,MS,MS,zo,aJ h.pos];rfl
theorem aXz{f:Fr}{n:Nat}(hf:f.qo)(h:dX n f)(hn:n<=aF):aH prog 25 [iK f] b_:=by have:=MU (r:=tH f) (n:=n) (by rw[XE];exact h) hn;rw[aEX hf]at this;exact this
theorem aXJ{n:Nat}(h:Sz n x)(hn:n<=aF):aH prog 25 [bH x] b_:=aXz (ll x) h hn
theorem Rh{r:RN}(h:nZ r=true):r=cG (hY r).val:=by unfold nZ at h;simp only[dc,uA]at h;obtain⟨h1,h2,h3,h4,h5,h6,h7⟩:=h;unfold cG;rw[Gr ⟨h6,h7⟩];obtain⟨a,b,c,e,d⟩:=r;show RN.mk a b c e d=RN.mk (bT (eQ a)) (bT (eQ b)) (bT (eQ c)) (bT (eQ e)) (bT (eQ d));rw[Hp h1,Hp h2,Hp h3,Hp h4,Hp h5]
theorem aX4{n:Nat}(h:Sz n x)(hn:n<=aF):aH prog 13 [bH x] (bH (-x)):=by
 have hv:=aXJ h hn;have e:bH (-x)=iK (AD (bX x)):=by unfold bH cG;rw[Vh];rfl
 rw[e];exact bI func13 (λ_=>[hv.at 6,(aX6 (bX x).a).at 19,(aX6 (bX x).b).at 19,(aX6 (bX x).c).at 19,(aX6 (bX x).e).at 19])
theorem aQT(f:Fr):w5 (wv (tH f) 5)=w5 (cw f):=by show[Value.int .i64 (eQ (bT f.a)),.int .i64 (eQ (bT f.b)),.int .i64 (eQ (bT f.c)),.int .i64 (eQ (bT f.e)),.int .i64 (eQ (bT f.d))]=_;rw[zo,zo,zo,zo,zo];rfl
def Db(f:Fr):Prop:=∀ i,i<5->rI (gM (tH f) i)=true
theorem Ri{f:Fr}(h:Db f):∀ i,(cw f i).natAbs<16777216:=by
 have key:∀ z:Int,rI (bT z)=true->z.natAbs<16777216:=λz hz=>by
  unfold rI at hz;simp at hz;have h1:nd 256 z.natAbs<=3:=by have:=hz.1;show _<=3;rw[<-uL];exact this
  have h2:=eE (B:=256) d_ z.natAbs;have h3:(256:Nat)^nd 256 z.natAbs<=256^3:=dj d_ h1;exact cH h2 (dq h3 d_)
 intro i;rcases i with _|_|_|_|i
 ·exact key _ (h 0 o_)
 ·exact key _ (h 1 o_)
 ·exact key _ (h 2 o_)
 ·exact key _ (h 3 o_)
 ·exact key _ (h 4 o_)
theorem JF{f:Fr}(h:Db f):aH prog 59 [iK f] (.tuple #[.agg (w5 (cw f)).toArray,.bool true]):=by have:=aET h;rw[aQT]at this;exact this
theorem Rj{f:Fr}(h:¬Db f):∃ n,aH prog 59 [iK f] (.tuple #[.agg (w5 (wv (tH f) n)).toArray,.bool false]):=aEU h
theorem XF{x y:Int}(hx:x.natAbs<16777216)(hy:y.natAbs<16777216):-281474976710656<=x*y/\x*y<=281474976710656:=by have h:=qS hx hy;rw[<-yx]at h;generalize x*y=p at *;have h2:p.natAbs<281474976710656:=h;omega
abbrev W(x:Int):Int:=IntKind.i64.wrap x
theorem aQU(x k:Int):W (x+18446744073709551616*k)=W x:=by simp only[eD];omega
theorem aQV(x:Int):∃ k,W x=x+18446744073709551616*k:=⟨(W x-x)/18446744073709551616,by simp only[eD];omega⟩
theorem EX(a b:Int):W (W a+b)=W (a+b):=by simp only[eD];omega
theorem EY(a b:Int):W (a+W b)=W (a+b):=by simp only[eD];omega
theorem XG(a b:Int):W (W a*b)=W (a*b):=by obtain⟨k,h⟩:=aQV a;rw[h,Int.add_mul,MK,aQU]
theorem Bi{u:Int}(h:W u=W z)(hz:z.natAbs<4611686018427387904):Value.int .i64 (W u)=.int .i64 z:=by rw[h];congr 1;simp only[eD];omega
theorem aX3{y:K}{n:Nat}(hx:Sz m x)(hy:Sz n y)(cQ:m+n<aF):aH prog 42 [bH x,bH y] (bH (x+y)):=by
 have v1:=aXJ hx o_;have v2:=aXJ hy o_;have pM:aF<=1099511627776:=by decide
 have yz:=(ll x).pos;have wY:=(ll y).pos;have hl:=aYb (c:=co (rk (bX x) (bX y))) (d:=(rk (bX x) (bX y)).d) (n:=m+n+1) (Ej o_ o_) (dX.add hx hy) o_;have e:bH (x+y)=iK (rk (bX x) (bX y)).low:=by unfold bH cG;rw[Vf];rfl
 rw[e];by_cases hw:Db (bX x)/\Db (bX y)
 ·obtain⟨w1,w2⟩:=hw;have q1:=JF w1;have q2:=JF w2;have b1:=Ri w1;have b2:=Ri w2;change aH _ _ [iK (bX x)] _ at v1;change aH _ _ [iK (bX y)] _ at v2;show aH _ _ [iK (bX x),iK (bX y)] _;clear hl hx hy e;generalize bX x=f at *;generalize bX y=g at *;have P:=λi j=>XF (b1 i) (b2 j);have Q:=λi j=>XF (b2 i) (b1 j);have hb:∀ i,(cw (rk f g) i).natAbs<4611686018427387904:=by
   intro i;rcases i with _|_|_|_|i
   ·have h1:=P 0 4;have h2:=Q 0 4;show(f.a*g.d+g.a*f.d).natAbs<_;simp only[cw]at h1 h2;omega
   ·have h1:=P 1 4;have h2:=Q 1 4;show(f.b*g.d+g.b*f.d).natAbs<_;simp only[cw]at h1 h2;omega
   ·have h1:=P 2 4;have h2:=Q 2 4;show(f.c*g.d+g.c*f.d).natAbs<_;simp only[cw]at h1 h2;omega
   ·have h1:=P 3 4;have h2:=Q 3 4;show(f.e*g.d+g.e*f.d).natAbs<_;simp only[cw]at h1 h2;omega
   ·have h1:=P 4 4;show(f.d*g.d).natAbs<_;simp only[cw]at h1;omega
  have nm:=aEW (f:=rk f g) (Vk yz wY) hb;exact fk mixed func42 200 (λ_=>[v1.at 13,v2.at 17,q1.at 23,q2.at 29,.rw 50 (.int .i64 (W (W (f.a*g.d)+W (g.a*f.d)))) (.int .i64 (rk f g).a) (Bi (by rw[EX,EY];rfl) (hb 0)),.rw 50 (.int .i64 (W (W (f.b*g.d)+W (g.b*f.d)))) (.int .i64 (rk f g).b) (Bi (by rw[EX,EY];rfl) (hb 1)),.rw 50 (.int .i64 (W (W (f.c*g.d)+W (g.c*f.d)))) (.int .i64 (rk f g).c) (Bi (by rw[EX,EY];rfl) (hb 2)),.rw 50 (.int .i64 (W (W (f.e*g.d)+W (g.e*f.d)))) (.int .i64 (rk f g).e) (Bi (by rw[EX,EY];rfl) (hb 3)),.rw 56 (.int .i64 (W (f.d*g.d))) (.int .i64 (rk f g).d) (Bi rfl (hb 4)),nm.at 59]) (λ_=>k_) k_ k_
 ·obtain⟨x1,x2,x3,x4,x5⟩:=hx;obtain⟨y1,y2,y3,y4,y5⟩:=hy;have mu:∀{u v:Int} {p q:Nat},u.natAbs<2^p->v.natAbs<2^q->p+q<=aF->aH prog 84 [bd u,bd v] (bd (u*v)):=λh1 h2 h3=>aYm h1 h2 o_ o_;have ad:∀{u v:Int},u.natAbs<2^m->v.natAbs<2^n->aH prog 83 [bd (u*(bX y).d),bd (v*(bX x).d)] (bd (u*(bX y).d+v*(bX x).d)):=λh1 h2=>
   aXB (eX h1 y5) (eX h2 x5) o_ o_
  by_cases w1:Db (bX x)
  ·obtain⟨k,q2⟩:=Rj (f:=bX y) (λh=>hw ⟨w1,h⟩);have q1:=JF w1;exact fk mixed func42 200 (λ_=>[v1.at 13,v2.at 17,q1.at 23,q2.at 29,(mu x1 y5 o_).at 71,(mu y1 x5 o_).at 78,(ad x1 y1).at 79,(mu x2 y5 o_).at 71,(mu y2 x5 o_).at 78,(ad x2 y2).at 79,(mu x3 y5 o_).at 71,(mu y3 x5 o_).at 78,(ad x3 y3).at 79,(mu x4 y5 o_).at 71,(mu y4 x5 o_).at 78,(ad x4 y4).at 79,(mu x5 y5 o_).at 86,hl.at 87]) (λ_=>k_) k_ k_
  ·obtain⟨k,q1⟩:=Rj (f:=bX x) w1;exact fk mixed func42 200 (λ_=>[v1.at 13,v2.at 17,q1.at 23,(mu x1 y5 o_).at 71,(mu y1 x5 o_).at 78,(ad x1 y1).at 79,(mu x2 y5 o_).at 71,(mu y2 x5 o_).at 78,(ad x2 y2).at 79,(mu x3 y5 o_).at 71,(mu y3 x5 o_).at 78,(ad x3 y3).at 79,(mu x4 y5 o_).at 71,(mu y4 x5 o_).at 78,(ad x4 y4).at 79,(mu x5 y5 o_).at 86,hl.at 87]) (λ_=>k_) k_ k_
theorem aXA{y:K}{n:Nat}(hx:Sz m x)(hy:Sz n y)(cQ:m+n<aF):aH prog 45 [bH x,bH y] (bH (x-y)):=by rw[CR.sub_def];exact bI func45 (λ_=>[(aX4 hy o_).at 7,(aX3 hx hy.neg cQ).at 8])
section
variable{Bs:aa}{a b:Nat->Int}
def XH(n:Nat):aU:=[(6,vI (n/4)),(7,vI (n%4)),(2,ptr 0),(3,ptr 1),(5,ptr 3)]
def JG(a b c:Nat->Int):aL:=[(0,.aI (ic a) 29),(1,.aI (ic b) 29),(3,.aI (ic c) 29)]
theorem aQW(n:Nat)(hn:n<16){c:Nat->Int}{p:Nat}(ha:∀ i,(a i).natAbs<2^p)(hb:∀ i,(b i).natAbs<2^q)(hc:∀ i,(c i).natAbs<2^r)(GB:p+q+3<=aF)(hr:r<=aF):
  ah prog Bs 66 (.block 3 (ai f86 3)) (XH n) (JG a b c) (4+n) ⟨.normal,[],JG a b (yD n a b c),5+n⟩:=by
 have pM:aF<=1099511627776:=by decide
 have sj:∀ m,(sq m).natAbs<2^3:=λm=>by unfold sq;split<;>decide
 have m1:=aYm (ha (n/4)) (hb (n%4)) o_ o_;have m2:=aYm (sj ((n/4)&&& (n%4))) (eX (ha (n/4)) (hb (n%4))) o_ o_;have ad:=aXB (hc ((n/4) ^^^ (n%4))) (eX (sj ((n/4)&&& (n%4))) (eX (ha (n/4)) (hb (n%4)))) o_ o_;have so:=aXK (z:=sq ((n/4)&&& (n%4))) (by have:=sj ((n/4)&&& (n%4));omega) (by have:=sj ((n/4)&&& (n%4));omega);have sa:=aXt (a (n/4));have sb:=aXt (b (n%4));have z1:∀ z:Int,z=0->Value.bool (z.sign==0)=.bool true:=λz h=>by rw[h];rfl
 have z2:∀ z:Int,z≠0->Value.bool (z.sign==0)=.bool false:=λz h=>by congr 1;simp;exact h
 by_cases h1:a (n/4)=0
 ·rw[PM (.inl h1)];have e:=z1 _ h1;rcases n with _|_|_|_|_|_|_|_|_|_|_|_|_|_|_|_|n
  all_goals first|omega|exact aG [sa.at 21,.rw 22 _ b_ e]
 ·have e:=z2 _ h1;by_cases h2:b (n%4)=0
  ·rw[PM (.inr h2)];have e':=z1 _ h2;rcases n with _|_|_|_|_|_|_|_|_|_|_|_|_|_|_|_|n
   all_goals first|omega|exact aG [sa.at 21,.rw 22 _ a_ e,sb.at 27,.rw 28 _ b_ e']
  ·have e':=z2 _ h2;rcases n with _|_|_|_|_|_|_|_|_|_|_|_|_|_|_|_|n
   all_goals first|omega|exact aG [sa.at 21,.rw 22 _ a_ e,sb.at 27,.rw 28 _ a_ e',so.at 45,m1.at 52,m2.at 53,ad.at 63]
end
theorem aEY{a b:Nat->Int}{n:Nat}(ca:∀ i,(a i).natAbs<2^m)(cb:∀ i,(b i).natAbs<2^n)(cQ:m+n+8<=aF):aH prog 86 [qt a,qt b] (qt (kx a b 16)):=by
 have pM:aF<=1099511627776:=by decide
 have hs:∀ i,i<=16->∀ k,(kx a b i k).natAbs<2^(m+n+8):=λi hi k=>by
  have h1:=Vv ca cb i hi k;have h2:i*2^(m+n+3)<=16*2^(m+n+3):=fe _ hi;have h3:2^(m+n+8)=32*2^(m+n+3):=by rw[show m+n+8=5+(m+n+3)by omega,eW]
  have h4:0<2^(m+n+3):=cT d_;omega
 have go:∀(w:h_) (i:Nat),i<16->ah prog (aa.at w) 66 (.block 3 (ai f86 3)) (XH i) (JG a b (kx a b i)) (4+i) ⟨.normal,[],JG a b (kx a b (i+1)),5+i⟩:=λw i hi=>
  aQW i hi ca cb (hs i o_) o_ o_
 have Vw:∀(w:h_),ah prog (aa.at w) 66 (.block 3 (ai f86 3)) (XH 0) [(0,.aI (ic a) 29),(1,.aI (ic b) 29),(3,.aI [.bool false,.string ⟨#[]⟩,.bool false,.string ⟨#[]⟩,.bool false,.string ⟨#[]⟩,.bool false,.string ⟨#[]⟩] 29)] 4
   ⟨.normal,[],JG a b (kx a b 1),5⟩:=λw=>by
  have h:=go w 0 o_;have e:JG a b (kx a b 0)=[(0,.aI (ic a) 29),(1,.aI (ic b) 29),(3,.aI [.bool false,.string ⟨#[]⟩,.bool false,.string ⟨#[]⟩,.bool false,.string ⟨#[]⟩,.bool false,.string ⟨#[]⟩] 29)]:=by show[(0,Obj.aI (ic a) 29),(1,.aI (ic b) 29),(3,.aI (ic (λ_=>0)) 29)]=_;rw[aCn]
  rw[e]at h;exact h
 generalize kx a b=c at *;exact fk mixed func86 300 (λw=>[.code 3 _ _ _ _ _ (Vw w),.code 3 _ _ _ _ _ (go w 1 o_),.code 3 _ _ _ _ _ (go w 2 o_),.code 3 _ _ _ _ _ (go w 3 o_),.code 3 _ _ _ _ _ (go w 4 o_),.code 3 _ _ _ _ _ (go w 5 o_),.code 3 _ _ _ _ _ (go w 6 o_),.code 3 _ _ _ _ _ (go w 7 o_),.code 3 _ _ _ _ _ (go w 8 o_),.code 3 _ _ _ _ _ (go w 9 o_),.code 3 _ _ _ _ _ (go w 10 o_),.code 3 _ _ _ _ _ (go w 11 o_),.code 3 _ _ _ _ _ (go w 12 o_),.code 3 _ _ _ _ _ (go w 13 o_),.code 3 _ _ _ _ _ (go w 14 o_),.code 3 _ _ _ _ _ (go w 15 o_)]) (λ_=>k_) k_ k_
theorem aXL{y:K}{n:Nat}(hx:Sz m x)(hy:Sz n y)(cQ:m+n+8<=aF):aH prog 43 [bH x,bH y] (bH (x*y)):=by
 have v1:=aXJ hx o_;have v2:=aXJ hy o_;have pM:aF<=1099511627776:=by decide
 have yz:=(ll x).pos;have wY:=(ll y).pos;have e:bH (x*y)=iK (ev (bX x) (bX y)).low:=by unfold bH cG;rw[Vg];rfl
 rw[e];by_cases hw:Db (bX x)/\Db (bX y)
 ·obtain⟨w1,w2⟩:=hw;have q1:=JF w1;have q2:=JF w2;have b1:=Ri w1;have b2:=Ri w2;change aH _ _ [iK (bX x)] _ at v1;change aH _ _ [iK (bX y)] _ at v2;show aH _ _ [iK (bX x),iK (bX y)] _;clear hx hy e;generalize bX x=f at *;generalize bX y=g at *;have P:=λi j=>XF (b1 i) (b2 j);have hb:∀ i,(cw (ev f g) i).natAbs<4611686018427387904:=by have h00:=P 0 0;have vN:=P 0 1;have DX:=P 0 2;have h03:=P 0 3;have h10:=P 1 0;have h11:=P 1 1;have Qk:=P 1 2;have T4:=P 1 3;have h20:=P 2 0;have h21:=P 2 1;have h22:=P 2 2;have h23:=P 2 3;have h30:=P 3 0;have h31:=P 3 1;have h32:=P 3 2;have h33:=P 3 3;have h44:=P 4 4;simp only[cw]at *;intro i;rcases i with _|_|_|_|i<;>(simp only[cw,ev];omega)
  have nm:=aEW (f:=ev f g) (Vk yz wY) hb;exact fk mixed func43 300 (λ_=>[v1.at 10,v2.at 14,q1.at 20,q2.at 26,.rw 55 (.int .i64 (W (W (W (W (f.a*g.a)+W (W (2*f.b)*g.b))+W (W (3*f.c)*g.c))+W (W (6*f.e)*g.e)))) (.int .i64 (ev f g).a) (Bi (by simp only[EX,EY,XG];congr 1;unfold ev;simp only[MK]) (hb 0)),.rw 80 (.int .i64 (W (W (W (W (f.a*g.b)+W (f.b*g.a))+W (W (3*f.c)*g.e))+W (W (3*f.e)*g.c)))) (.int .i64 (ev f g).b) (Bi (by simp only[EX,EY,XG];congr 1;unfold ev;simp only[MK]) (hb 1)),.rw 105 (.int .i64 (W (W (W (W (f.a*g.c)+W (f.c*g.a))+W (W (2*f.b)*g.e))+W (W (2*f.e)*g.b)))) (.int .i64 (ev f g).c) (Bi (by simp only[EX,EY,XG];congr 1;unfold ev;simp only[MK];omega) (hb 2)),.rw 128 (.int .i64 (W (W (W (W (f.a*g.e)+W (f.e*g.a))+W (f.b*g.c))+W (f.c*g.b)))) (.int .i64 (ev f g).e) (Bi (by simp only[EX,EY];congr 1;unfold ev;simp only[];omega) (hb 3)),.rw 133 (.int .i64 (W (f.d*g.d))) (.int .i64 (ev f g).d) (Bi rfl (hb 4)),nm.at 135]) (λ_=>k_) k_ k_
 ·have ca:=Ja hx;have cb:=Ja hy;have tm:=aEY ca cb cQ;have hl:=aYb (c:=kx (co (bX x)) (co (bX y)) 16) (d:=(bX x).d*(bX y).d) (n:=m+n+4) (Ej o_ o_) (by rw[Lx];exact dX.mul hx hy) o_;rw[Lx]at hl;have md:=aYm hx.2.2.2.2 hy.2.2.2.2 o_ o_;generalize kx (co (bX x)) (co (bX y)) 16=c at *;by_cases w1:Db (bX x)
  ·obtain⟨k,q2⟩:=Rj (f:=bX y) (λh=>hw ⟨w1,h⟩);have q1:=JF w1;exact fk mixed func43 200 (λ_=>[v1.at 10,v2.at 14,q1.at 20,q2.at 26,tm.at 140,md.at 145,hl.at 146]) (λ_=>k_) k_ k_
  ·obtain⟨k,q1⟩:=Rj (f:=bX x) w1;exact fk mixed func43 200 (λ_=>[v1.at 10,v2.at 14,q1.at 20,tm.at 140,md.at 145,hl.at 146]) (λ_=>k_) k_ k_
theorem aEZ{a s:Int}(ha:a.natAbs<=1)(hs:s.natAbs<=1):IntKind.i64.wrap (a*s)=a*s:=by
 have h1:a=-1\/a=0\/a=1:=by omega
 rcases h1 with h1|h1|h1<;>rw[h1,eD]<;>omega
theorem zp{a b:Int}(h:a=b):Value.bool (a==b)=.bool true:=by rw[h];simp
theorem qA{a b:Int}(h:a≠b):Value.bool (a==b)=.bool false:=by congr 1;simpa using h
theorem XI{x y:Int}{p:Nat}(h1:x.natAbs<2^p)(h2:y.natAbs<2^q)(hp:p+p+3<=aF)(hq:q+q+3<=aF):aH prog 87 [bd x,bd y] (.int .i64 (qp x y)):=by
 have pM:aF<=1099511627776:=by decide
 have s1:=aXt x;have s2:=aXt y;have l1:=GF x;have l3:=GF (x*x-2*(y*y));have m1:=aYm h1 h1 o_ o_;have o2:=aXK (z:=2) d_ d_;have m2:=aYm h2 h2 o_ o_;have m3:=aYm (x:=2) (y:=y*y) (p:=2) d_ (eX h2 h2) d_ o_;have cm:=aXT (x:=x*x) (y:=2*(y*y)) (eX h1 h1) (eX (m:=2) (u:=2) d_ (eX h2 h2)) o_ o_;have hw:=aEZ l1 l3;unfold qp uO;generalize (x*x-2*(y*y)).sign=t at *;generalize x.sign=a at *;generalize y.sign=b at *;by_cases h1:a=b
 ·rw[aA (.inl h1)];exact bI func87 (λ_=>[s1.at 8,s2.at 10,.rw 13 _ b_ (zp h1)])
 ·by_cases h2:b=0
  ·rw[aA (.inr h2)];exact bI func87 (λ_=>[s1.at 8,s2.at 10,.rw 13 _ a_ (qA h1),.rw 16 _ b_ (zp h2)])
  ·rw[au (λh=>h.elim h1 h2)];by_cases h3:a=0
   ·rw[aA h3];exact bI func87 (λ_=>[s1.at 8,s2.at 10,.rw 13 _ a_ (qA h1),.rw 16 _ a_ (qA h2),.rw 20 _ b_ (zp h3)])
   ·rw[au h3];exact bI func87 (λ_=>[s1.at 8,s2.at 10,.rw 13 _ a_ (qA h1),.rw 16 _ a_ (qA h2),.rw 20 _ a_ (qA h3),m1.at 25,o2.at 26,m2.at 29,m3.at 30,cm.at 31,.wr 32 .i64 (a*t) (a*t) hw])
theorem JH{f g:Fr}{n:Nat}(hf:dX m f)(hg:dX n g)(cQ:m+n+8<=aF):aH prog 86 [qt (co f),qt (co g)] (qt (co (ev f g))):=by
 have h:=aEY (Ja hf) (Ja hg) cQ;have e:qt (kx (co f) (co g) 16)=qt (co (ev f g)):=by rw[<-Lx f g];rfl
 rw[e]at h;exact h
def f2(a b:Int):Fr:=⟨a,b,0,0,1⟩
theorem aQX(a b:Int):ev (f2 a b) (f2 a b)=⟨a*a+2*(b*b),2*(a*b),0,0,1⟩:=by
 unfold ev f2;simp only[Fr.mk.injEq];refine⟨?_,?_,?_,?_,?_⟩
 ·simp
 ·rw[UO b a];simp;omega
 ·simp
 ·simp
 ·rfl
theorem aQY(a b:Int):qt (co (f2 a b))=.agg #[.bool (bT a).neg,.string (BA (bT a).bw),.bool (bT b).neg,.string (BA (bT b).bw),.bool false,.string ⟨#[]⟩,.bool false,.string ⟨#[]⟩]:=by show Value.agg #[.bool (bT a).neg,.string (BA (bT a).bw),.bool (bT b).neg,.string (BA (bT b).bw),.bool (bT 0).neg,.string (BA (bT 0).bw),.bool (bT 0).neg,.string (BA (bT 0).bw)]=_;rw[Em];rfl
theorem aE0{a b:Int}{n:Nat}(ha:a.natAbs<2^n)(hb:b.natAbs<2^n)(hn:2*n+10<=aF):
  aH prog 86 [.agg #[.bool (bT a).neg,.string (BA (bT a).bw),.bool (bT b).neg,.string (BA (bT b).bw),.bool false,.string ⟨#[]⟩,.bool false,.string ⟨#[]⟩],.agg #[.bool (bT a).neg,.string (BA (bT a).bw),.bool (bT b).neg,.string (BA (bT b).bw),.bool false,.string ⟨#[]⟩,.bool false,.string ⟨#[]⟩]]
   (qt (co ⟨a*a+2*(b*b),2*(a*b),0,0,1⟩)):=by
 have hp:0<2^n:=cT d_;have h:dX (n+1) (f2 a b):=by have h2:2^n*2=2^(n+1):=(dH ..).symm;refine⟨?_,?_,?_,?_,?_⟩<;>unfold f2<;>dsimp only<;>omega
 have:=JH h h o_;rw[aQX,aQY]at this;exact this
theorem aYc{n:Nat}(hx:Sz n x)(hn:4*n+30<=aF):aH prog 44 [bH x] (.int .i64 (OF.aE x)):=by
 have pM:aF<=1099511627776:=by decide
 have hv:=aXJ hx o_;rw[aCb];obtain⟨x1,x2,x3,x4,x5⟩:=hx;unfold bH cG at *;generalize bX x=f at *;have s1:=XI x1 x2 o_ o_;have s2:=XI x3 x4 o_ o_;have t1:=aE0 x1 x2 o_;have t2:=aE0 x3 x4 o_;have o3:=aXK (z:=3) d_ d_;have z1:(f.a*f.a).natAbs<2^(n+n+2):=cH (eX x1 x1) (dj d_ o_);have z2:(2*(f.b*f.b)).natAbs<2^(n+n+2):=by have:=eX (m:=2) (u:=2) d_ (eX x2 x2);rwa[show 2+(n+n)=n+n+2 by omega]at this
 have z3:(f.c*f.c).natAbs<2^(n+n+2):=cH (eX x3 x3) (dj d_ o_);have z4:(2*(f.e*f.e)).natAbs<2^(n+n+2):=by have:=eX (m:=2) (u:=2) d_ (eX x4 x4);rwa[show 2+(n+n)=n+n+2 by omega]at this
 have z12:=Jd z1 z2;have z34:=Jd z3 z4;have y1:(2*(f.a*f.b)).natAbs<2^(n+n+2):=by have:=eX (m:=2) (u:=2) d_ (eX x1 x2);rwa[show 2+(n+n)=n+n+2 by omega]at this
 have y2:(2*(f.c*f.e)).natAbs<2^(n+n+2):=by have:=eX (m:=2) (u:=2) d_ (eX x3 x4);rwa[show 2+(n+n)=n+n+2 by omega]at this
 have m34:=aYm (x:=3) (p:=2) d_ z34 d_ o_;have zm:(3*(f.c*f.c+2*(f.e*f.e))).natAbs<2^(n+n+5):=by have:=eX (m:=2) (u:=3) d_ z34;rwa[show 2+(n+n+2+1)=n+n+5 by omega]at this
 have aE1:(f.a*f.a+2*(f.b*f.b)).natAbs<2^(n+n+5):=cH z12 (dj d_ o_);have d1:=aXv aE1 zm o_ o_;have my:=aYm (x:=3) (p:=2) d_ y2 d_ o_;have ym:(3*(2*(f.c*f.e))).natAbs<2^(n+n+4):=by have:=eX (m:=2) (u:=3) d_ y2;rwa[show 2+(n+n+2)=n+n+4 by omega]at this
 have y1':(2*(f.a*f.b)).natAbs<2^(n+n+4):=cH y1 (dj d_ o_);have d2:=aXv y1' ym o_ o_;have s3:=XI (PN aE1 zm) (PN y1' ym) o_ o_;have e1:(f.a*f.a+2*(f.b*f.b))-3*(f.c*f.c+2*(f.e*f.e))=(f.a*f.a+2*(f.b*f.b))-(3*(f.c*f.c)+6*(f.e*f.e)):=by omega
 have e2:2*(f.a*f.b)-3*(2*(f.c*f.e))=2*(f.a*f.b)-6*(f.c*f.e):=by omega
 have yE:=PO f.a f.b;have Vz:=PO ((f.a*f.a+2*(f.b*f.b))-(3*(f.c*f.c)+6*(f.e*f.e))) (2*(f.a*f.b)-6*(f.c*f.e));have hw:=aEZ yE Vz;rw[<-e1,<-e2]at hw;unfold PG uO;rw[<-e1,<-e2];generalize qp ((f.a*f.a+2*(f.b*f.b))-3*(f.c*f.c+2*(f.e*f.e))) (2*(f.a*f.b)-3*(2*(f.c*f.e)))=t at *;generalize qp f.a f.b=p at *;generalize qp f.c f.e=q at *;by_cases h1:p=q
 ·rw[aA (.inl h1)];exact bI func44 (λ_=>[hv.at 9,s1.at 17,s2.at 24,.rw 27 _ b_ (zp h1)])
 ·by_cases h2:q=0
  ·rw[aA (.inr h2)];exact bI func44 (λ_=>[hv.at 9,s1.at 17,s2.at 24,.rw 27 _ a_ (qA h1),.rw 30 _ b_ (zp h2)])
  ·rw[au (λh=>h.elim h1 h2)];by_cases h3:p=0
   ·rw[aA h3];exact bI func44 (λ_=>[hv.at 9,s1.at 17,s2.at 24,.rw 27 _ a_ (qA h1),.rw 30 _ a_ (qA h2),.rw 34 _ b_ (zp h3)])
   ·rw[au h3];exact fk mixed func44 200 (λ_=>[hv.at 9,s1.at 17,s2.at 24,.rw 27 _ a_ (qA h1),.rw 30 _ a_ (qA h2),.rw 34 _ a_ (qA h3),t1.at 50,t2.at 65,o3.at 66,m34.at 73,d1.at 74,my.at 80,d2.at 81,s3.at 82,.wr 83 .i64 (p*t) (p*t) hw]) (λ_=>k_) k_ k_
theorem aYn{y:K}{n:Nat}(hx:Sz m x)(hy:Sz n y)(cQ:4*(m+n)+40<=aF):aH prog 15 [bH x,bH y] (.int .i64 (OF.aE (x-y))):=
 bI func15 (λ_=>[(aXJ hx o_).at 6,(aXJ hy o_).at 10,(aXA hx hy o_).at 15,(aYc (hx.sub hy) o_).at 16])
theorem aXQ{n:Nat}(hx:Sz n x)(hn:4*n+30<=aF):aH prog 195 [bH x] (bH (jo x)):=by
 unfold jo;have n1:=aX4 hx o_;have n2:=aX4 hx.neg o_;rw[CR.neg_neg]at n2;by_cases h:OF.aE x<0
 ·rw[aA h];exact bI func195 (λ_=>[(aYc hx hn).at 4,.rw 5 (.bool (decide (OF.aE x<0))) b_ (by rw[aJ h]),n1.at 7])
 ·rw[au h];exact bI func195 (λ_=>[(aYc hx hn).at 4,.rw 5 (.bool (decide (OF.aE x<0))) a_ (by rw[aY h]),n1.at 9,n2.at 10])
def tY(q:RI):Nat:=q.bw.length
def tZ(r:RN)(k:Nat):Bool:=decide (tY r.a<=k)&&(decide (tY r.b<=k)&&(decide (tY r.c<=k)&&(decide (tY r.e<=k)&&decide (tY r.d<=k))))
theorem Bj(l:List UInt8):Value.int .i64 ((BA l).size:Int)=vI l.length:=by rw[pD];rfl
theorem vi(h:decide (a<=b)=!t):Value.bool (decide ((a:Int)>(b:Int)))=.bool t:=by
 congr 1
 cases t
 ·have:=jN h;exact aY o_
 ·have:=Ed h;exact aJ o_
theorem Rk(r:RN)(k:Nat):aH prog 24 [r.v,vI k] (.bool (tZ r k)):=by
 unfold tZ tY;have la:=Bj r.a.bw;have lb:=Bj r.b.bw;have lc:=Bj r.c.bw;have le:=Bj r.e.bw;have ld:=Bj r.d.bw;rcases ha:decide (r.a.bw.length<=k)with _|_
 ·exact bI func24 (λ_=>[.rw 15 _ (vI r.a.bw.length) la,.rw 17 _ b_ (vi (t:=true) ha)])
 rcases hb:decide (r.b.bw.length<=k)with _|_
 ·exact bI func24 (λ_=>[.rw 15 _ (vI r.a.bw.length) la,.rw 17 _ a_ (vi (t:=false) ha),.rw 15 _ (vI r.b.bw.length) lb,.rw 17 _ b_ (vi (t:=true) hb)])
 rcases hc:decide (r.c.bw.length<=k)with _|_
 ·exact bI func24 (λ_=>[.rw 15 _ (vI r.a.bw.length) la,.rw 17 _ a_ (vi (t:=false) ha),.rw 15 _ (vI r.b.bw.length) lb,.rw 17 _ a_ (vi (t:=false) hb),.rw 15 _ (vI r.c.bw.length) lc,.rw 17 _ b_ (vi (t:=true) hc)])
 rcases he:decide (r.e.bw.length<=k)with _|_
 ·exact bI func24 (λ_=>[.rw 15 _ (vI r.a.bw.length) la,.rw 17 _ a_ (vi (t:=false) ha),.rw 15 _ (vI r.b.bw.length) lb,.rw 17 _ a_ (vi (t:=false) hb),.rw 15 _ (vI r.c.bw.length) lc,.rw 17 _ a_ (vi (t:=false) hc),.rw 15 _ (vI r.e.bw.length) le,.rw 17 _ b_ (vi (t:=true) he)])
 have hd:Value.bool (decide ((r.d.bw.length:Int)<=(k:Int)))=.bool (decide (r.d.bw.length<=k)):=by congr 1;rw[qh];omega
 exact bI func24 (λ_=>[.rw 15 _ (vI r.a.bw.length) la,.rw 17 _ a_ (vi (t:=false) ha),.rw 15 _ (vI r.b.bw.length) lb,.rw 17 _ a_ (vi (t:=false) hb),.rw 15 _ (vI r.c.bw.length) lc,.rw 17 _ a_ (vi (t:=false) hc),.rw 15 _ (vI r.e.bw.length) le,.rw 17 _ a_ (vi (t:=false) he),.rw 21 _ (vI r.d.bw.length) ld,.rw 23 _ (.bool (decide (r.d.bw.length<=k))) hd])
def wN(r:RN):Nat:=tY r.d+tY r.a+tY r.b+tY r.c+tY r.e
theorem Rl{r:RN}(h:wN r<9223372036854775808):aH prog 110 [r.v] (vI (wN r)):=by unfold wN tY at *;have la:=Bj r.a.bw;have lb:=Bj r.b.bw;have lc:=Bj r.c.bw;have le:=Bj r.e.bw;have ld:=Bj r.d.bw;exact bI func110 (λ_=>[.rw 8 _ (vI r.d.bw.length) ld,.rw 19 _ (vI r.a.bw.length) la,.sum 20 r.d.bw.length r.a.bw.length (r.d.bw.length+r.a.bw.length) rfl o_,.rw 19 _ (vI r.b.bw.length) lb,.sum 20 (r.d.bw.length+r.a.bw.length) r.b.bw.length (r.d.bw.length+r.a.bw.length+r.b.bw.length) rfl o_,.rw 19 _ (vI r.c.bw.length) lc,.sum 20 (r.d.bw.length+r.a.bw.length+r.b.bw.length) r.c.bw.length (r.d.bw.length+r.a.bw.length+r.b.bw.length+r.c.bw.length) rfl o_,.rw 19 _ (vI r.e.bw.length) le,.sum 20 (r.d.bw.length+r.a.bw.length+r.b.bw.length+r.c.bw.length) r.e.bw.length (r.d.bw.length+r.a.bw.length+r.b.bw.length+r.c.bw.length+r.e.bw.length) rfl o_])
theorem XJ(p q r t:Rat)(k:Rat):(⟨⟨p,q⟩,⟨r,t⟩⟩:K)*⟨⟨k,0⟩,⟨0,0⟩⟩=⟨⟨p*k,q*k⟩,⟨r*k,t*k⟩⟩:=by
 apply bO.ext
 ·apply bO.ext
  ·show(p*k+2*(q*0))+(3*(r*0+2*(t*0))+2*(0*(r*0+t*0)))=p*k
   grind
  ·show(p*0+q*k)+(3*(r*0+t*0)+0*(r*0+2*(t*0)))=q*k
   grind
 ·apply bO.ext
  ·show(p*0+2*(q*0))+(r*k+2*(t*0))=r*k
   grind
  ·show(p*0+q*0)+(r*0+t*k)=t*k
   grind
theorem Rm(u d k:Int):Rat.divInt (u*k) d=Rat.divInt u d*(k:Rat):=by
 rw[CD,CD,Gu,Gu];have:((u*k:Int):Rat)=(u:Rat)*(k:Rat):=by simp
 rw[this]
 grind
theorem aQZ(a b c e d k:Int):Fr.val ⟨a*k,b*k,c*k,e*k,d⟩=Fr.val ⟨a,b,c,e,d⟩*kI k:=by unfold Fr.val kI;dsimp only;rw[XJ,Rm,Rm,Rm,Rm]
theorem Rn{a b c e d:Int}(hd:d≠0):Fr.val ⟨a,b,c,e,d⟩*kI d=Fr.val ⟨a,b,c,e,1⟩:=by
 unfold Fr.val kI;dsimp only;have h1:∀ u:Int,Rat.divInt u 1=(u:Rat):=λu=>by rw[CD,Gu];grind
 rw[XJ,pK hd,pK hd,pK hd,pK hd,h1,h1,h1,h1]
theorem aQ0(a b:Int):kI (a*b)=kI a*kI b:=by
 unfold kI;rw[XJ];have:((a*b:Int):Rat)=(a:Rat)*(b:Rat):=by simp
 rw[this];apply bO.ext<;>apply bO.ext<;>simp
theorem aQ1:kI 1=1:=rfl
theorem Ro{a:Int}(h:a≠0):kI a≠0:=λe=>by have h1:=cS (λx:K=>x.re.re) e;have h2:((a:Int):Rat)=0:=h1;exact h (by simpa using h2)
theorem XK(f:Fr)(h:f.d=1):f.val=⟨⟨f.a,f.b⟩,⟨f.c,f.e⟩⟩:=by
 have h1:∀ u:Int,Rat.divInt u 1=(u:Rat):=λu=>by rw[CD,Gu];grind
 unfold Fr.val;rw[h,h1,h1,h1,h1]
theorem aQ2(u v:K):mR (u*v)=mR u*mR v:=by
 obtain⟨⟨a,b⟩,⟨c,d⟩⟩:=u;obtain⟨⟨p,q⟩,⟨r,s⟩⟩:=v;apply bO.ext
 ·apply bO.ext
  ·show(a*p+2*(b*q))+(3*(c*r+2*(d*s))+2*(0*(c*s+d*r)))=(a*p+2*(-b*-q))+(3*(c*r+2*(-d*-s))+2*(0*(c*-s+-d*r)))
   grind
  ·show -((a*q+b*p)+(3*(c*s+d*r)+0*(c*r+2*(d*s))))=(a*-q+-b*p)+(3*(c*-s+-d*r)+0*(c*r+2*(-d*-s)))
   grind
 ·apply bO.ext
  ·show(a*r+2*(b*s))+(c*p+2*(d*q))=(a*r+2*(-b*-s))+(c*p+2*(-d*-q))
   grind
  ·show -((a*s+b*r)+(c*q+d*p))=(a*-s+-b*r)+(c*-q+-d*p)
   grind
def nf(f:Fr):Fr:=⟨f.a,f.b,f.c,f.e,1⟩
def Rp(f:Fr):Fr:=⟨f.a,-f.b,-f.c,f.e,1⟩
def Rq:Fr:=⟨1,0,0,0,1⟩
def iW(f:Fr):Fr:=ev (ev (ev Rq (yC (nf f))) (yB (nf f))) (Rp f)
theorem aE2(f:Fr):(iW f).d=1:=rfl
theorem aQ3(f:Fr):(nf f).val*(iW f).val=r8 (nf f).val:=by
 have h1:∀ g h:Fr,g.d=1->h.d=1->(ev g h).val=g.val*h.val:=λg h e1 e2=>Lq (by rw[e1];decide) (by rw[e2];decide);have e3:Rp f=yC (yB (nf f)):=by unfold Rp yC yB nf;simp
 unfold iW;rw[h1 _ _ rfl rfl,h1 _ _ rfl rfl,h1 _ _ rfl rfl,e3,Vr,Vr,aCi];have eo:Rq.val=1:=by rw[XK _ rfl];rfl
 rw[eo];unfold r8 two;rw[aQ2];generalize (nf f).val=y;rw[CR.one_mul];exact OF.yv y (mR y) (nT y) (mR (nT y)) (λy c b i=>y*(c*b*i)) (λy c b i=>y*b*(c*i)) d_
def n9(f g:Fr):Fr:=⟨(ev (nf f) (iW g)).a*g.d,(ev (nf f) (iW g)).b*g.d,(ev (nf f) (iW g)).c*g.d,(ev (nf f) (iW g)).e*g.d,(ev (nf g) (iW g)).a*f.d⟩
theorem aQ4{g:Fr}(hg:g.d≠0)(h:g.val≠0):(ev (nf g) (iW g)).a≠0/\kI (ev (nf g) (iW g)).a=(nf g).val*(iW g).val:=by
 have hv:(ev (nf g) (iW g)).val=(nf g).val*(iW g).val:=Lq (show(1:Int)≠0 by decide) (by rw[aE2];decide);have hy:(nf g).val≠0:=λe=>h (by
  have h1:=Rn (a:=g.a) (b:=g.b) (c:=g.c) (e:=g.e) hg;have h2:Fr.val ⟨g.a,g.b,g.c,g.e,g.d⟩*kI g.d=0:=by rw[h1];exact e
  exact iP λh3=>OF.mul_ne_zero (a:=Fr.val ⟨g.a,g.b,g.c,g.e,g.d⟩) h3 (Ro hg) h2)
 have hn:=aQ3 g;rw[PK]at hn;have hq:=Vt hy;rw[<-hv,XK _ (by rfl)]at hn;have e1:(((ev (nf g) (iW g)).a:Int):Rat)=bO.nm (bO.nm (nf g).val):=cS (λx:K=>x.re.re) hn;have e2:(((ev (nf g) (iW g)).b:Int):Rat)=0:=cS (λx:K=>x.re.im) hn;have e3:(((ev (nf g) (iW g)).c:Int):Rat)=0:=cS (λx:K=>x.im.re) hn;have e4:(((ev (nf g) (iW g)).e:Int):Rat)=0:=cS (λx:K=>x.im.im) hn;refine⟨λe=>hq (by rw[<-e1,e];rfl),?_⟩;rw[<-hv,XK _ (by rfl),e2,e3,e4];rfl
theorem aQ5{f g:Fr}(hf:f.d≠0)(hg:g.d≠0)(h:g.val≠0):(n9 f g).d≠0/\(n9 f g).val=f.val*(g.val)⁻¹:=by
 obtain⟨ha,hk⟩:=aQ4 hg h;have hd:(n9 f g).d≠0:=Ej ha hf;refine⟨hd,?_⟩;have h1:=Rn (a:=(n9 f g).a) (b:=(n9 f g).b) (c:=(n9 f g).c) (e:=(n9 f g).e) hd;have h2:=aQZ (ev (nf f) (iW g)).a (ev (nf f) (iW g)).b (ev (nf f) (iW g)).c (ev (nf f) (iW g)).e 1 g.d;have h3:(ev (nf f) (iW g)).val=(nf f).val*(iW g).val:=Lq (show(1:Int)≠0 by decide) (by rw[aE2];decide);have h4:=Rn (a:=f.a) (b:=f.b) (c:=f.c) (e:=f.e) hf;have h5:=Rn (a:=g.a) (b:=g.b) (c:=g.c) (e:=g.e) hg;have h6:kI (n9 f g).d=(nf g).val*(iW g).val*kI f.d:=by show kI ((ev (nf g) (iW g)).a*f.d)=_;rw[aQ0,hk]
 have e1:(n9 f g).val*((nf g).val*(iW g).val*kI f.d)=(nf f).val*(iW g).val*kI g.d:=by rw[<-h6,<-h3];exact h1.trans h2
 replace h4:f.val*kI f.d=(nf f).val:=h4
 replace h5:g.val*kI g.d=(nf g).val:=h5
 rw[<-h4,<-h5]at e1;have hc:(iW g).val≠0:=λe=>by rw[e,CR.mul_zero]at hk;exact Ro ha hk
 have hm:kI g.d*((iW g).val*kI f.d)≠0:=OF.mul_ne_zero (Ro hg) (OF.mul_ne_zero hc (Ro hf));have e2:(n9 f g).val*g.val*(kI g.d*((iW g).val*kI f.d))=f.val*(kI g.d*((iW g).val*kI f.d)):=by
  rw[show(n9 f g).val*g.val*(kI g.d*((iW g).val*kI f.d))=(n9 f g).val*(g.val*kI g.d*(iW g).val*kI f.d)from
   OF.Gm (n9 f g).val g.val (kI g.d) (iW g).val (kI f.d) (λd g k c l=>d*g*(k*(c*l))) (λd g k c l=>d*(g*k*c*l)) d_,e1]
  exact OF.yv f.val (kI f.d) (iW g).val (kI g.d) (λf l c k=>f*l*c*k) (λf l c k=>f*(k*(c*l))) d_
 have e3:(n9 f g).val*g.val=f.val:=by have h7:=cS (λt=>t*(kI g.d*((iW g).val*kI f.d))⁻¹) e2;rw[CR.mul_assoc ((n9 f g).val*g.val),CR.mul_assoc f.val,OF.jA _ hm,CR.mul_one,CR.mul_one]at h7;exact h7
 rw[<-e3,CR.mul_assoc,OF.jA _ h,CR.mul_one]
theorem aQ6:qt (co Rq)=.agg #[.bool (bT 1).neg,.string (BA (bT 1).bw),.bool false,.string ⟨#[]⟩,.bool false,.string ⟨#[]⟩,.bool false,.string ⟨#[]⟩]:=by show Value.agg #[.bool (bT 1).neg,.string (BA (bT 1).bw),.bool (bT 0).neg,.string (BA (bT 0).bw),.bool (bT 0).neg,.string (BA (bT 0).bw),.bool (bT 0).neg,.string (BA (bT 0).bw)]=_;rw[Em];rfl
theorem aE3{n:Nat}{f:Fr}(h:dX n f)(hd:f.d≠0):dX n (nf f):=by
 obtain⟨h1,h2,h3,h4,h5⟩:=h;refine⟨h1,h2,h3,h4,?_⟩;show(1:Int).natAbs<2^n;have:f.d.natAbs≠0:=by omega
 show 1<2^n;omega
theorem aQ7{n:Nat}{f:Fr}(h:dX n (nf f)):dX n (yC (nf f))/\dX n (yB (nf f))/\dX n (Rp f):=by
 obtain⟨h1,h2,h3,h4,h5⟩:=h;have e:∀ z:Int,z.natAbs<2^n->(-z).natAbs<2^n:=λz hz=>by rw[K7];exact hz
 exact⟨⟨h1,e _ h2,h3,e _ h4,h5⟩,⟨h1,h2,e _ h3,e _ h4,h5⟩,⟨h1,e _ h2,e _ h3,h4,h5⟩⟩
theorem aYq{y:K}{n:Nat}(h:y≠0)(hx:Sz m x)(hy:Sz n y)(cQ:m+4*n+60<=aF):aH prog 171 [bH x,bH y] (.tuple #[bH (x*y⁻¹),.int .i64 0]):=by
 have pM:aF<=1099511627776:=by decide
 have v1:=aXJ hx o_;have v2:=aXJ hy o_;have sy:=aYc hy o_;have h26:Value.bool (OF.aE y==0)=.bool false:=qA (λe=>h ((OF.fU y).1 e));have wH:(bX x).d≠0:=by have:=(ll x).pos;omega
 have oS:(bX y).d≠0:=by have:=(ll y).pos;omega
 obtain⟨hd,hv⟩:=aQ5 wH oS (by rw[pJ];exact h);rw[pJ,pJ]at hv;have e:bH (x*y⁻¹)=iK (n9 (bX x) (bX y)).low:=by unfold bH cG;rw[<-hv,Gs hd];rfl
 rw[e];have so1:dX 1 Rq:=⟨by decide,by decide,by decide,by decide,by decide⟩;have sg:=aE3 hy oS;have sf:=aE3 hx wH;obtain⟨c1,c2,c3⟩:=aQ7 sg;have s1:=dX.mul so1 c1;have s2:=dX.mul s1 c2;have s3:=dX.mul s2 c3;have sN:=dX.mul sg s3;have sM:=dX.mul sf s3;have t1:=JH so1 c1 o_;rw[aQ6]at t1;have t2:=JH s1 c2 o_;have t3:=JH s2 c3 o_;have tN:=JH sg s3 o_;have tM:=JH sf s3 o_;have gd:=hy.2.2.2.2;have fd:=hx.2.2.2.2;have ma:=aYm sM.1 gd o_ o_;have mb:=aYm sM.2.1 gd o_ o_;have mc:=aYm sM.2.2.1 gd o_ o_;have me:=aYm sM.2.2.2.1 gd o_ o_;have md:=aYm sN.1 fd o_ o_;have za:=eX sM.1 gd;have zb:=eX sM.2.1 gd;have zc:=eX sM.2.2.1 gd;have ze:=eX sM.2.2.2.1 gd;have zd:=eX sN.1 fd;have yE:2^(m+(1+n+4+n+4+n+4)+4+n)<=2^(m+4*n+20):=dj d_ o_;have Xz:2^(n+(1+n+4+n+4+n+4)+4+m)<=2^(m+4*n+20):=dj d_ o_;have hl:=aYb (c:=co (n9 (bX x) (bX y))) (d:=(n9 (bX x) (bX y)).d) (n:=m+4*n+20) hd ⟨cH za yE,cH zb yE,cH zc yE,cH ze yE,cH zd Xz⟩ o_;have dG:pL (co (n9 (bX x) (bX y))) (n9 (bX x) (bX y)).d=n9 (bX x) (bX y):=rfl;rw[dG]at hl;have nb:=aX6 (bX y).b;have nc:=aX6 (bX y).c;have ne:=aX6 (bX y).e;have one:=aXK (z:=1) d_ d_;generalize hD:(n9 (bX x) (bX y)).low=D at *;exact fk mixed func171 300 (λ_=>[v1.at 15,v2.at 19,sy.at 25,.rw 26 _ a_ h26,one.at 28,nb.at 54,ne.at 54,t1.at 58,nc.at 54,ne.at 54,t2.at 58,nb.at 54,nc.at 54,t3.at 58,tN.at 62,tM.at 66,ma.at 77,mb.at 77,mc.at 77,me.at 77,md.at 84,hl.at 85]) (λ_=>k_) k_ k_
section
open V3 (dot ag aN smul)
def MV(n:Nat)(r:RV):Prop:=dX n (hY r.x)/\dX n (hY r.y)/\dX n (hY r.z)
def xx(r:RV):Bool:=nZ r.x&&(nZ r.y&&nZ r.z)
theorem aXP{r:RV}{n:Nat}(h:MV n r)(hn:n<=aF):aH prog 7 [r.v] (.bool (xx r)):=by
 have hx:=MU h.1 hn;have hy:=MU h.2.1 hn;have hz:=MU h.2.2 hn;unfold xx;generalize nZ r.x=bb at *;rcases bb with _|_
 ·exact bI func7 (λ_=>[hx.at 5])
 generalize nZ r.y=bb at *;rcases bb with _|_
 ·exact bI func7 (λ_=>[hx.at 5,hy.at 9])
 exact bI func7 (λ_=>[hx.at 5,hy.at 9,hz.at 14])
theorem Rr(x:K):nZ (cG x)=true:=aEX (ll x)
theorem Hr(x:K):hY (cG x)=bX x:=XE (bX x)
theorem aE4{n:Nat}{v:V3 K}(h:aD n v):MV n (cB v):=by
 refine⟨?_,?_,?_⟩
 ·show dX n (hY (cG v.x));rw[Hr];exact h.1
 ·show dX n (hY (cG v.y));rw[Hr];exact h.2.1
 ·show dX n (hY (cG v.z));rw[Hr];exact h.2.2
theorem aE5(v:V3 K):xx (cB v)=true:=by show(nZ (cG v.x)&&(nZ (cG v.y)&&nZ (cG v.z)))=true;rw[Rr,Rr,Rr];rfl
theorem aXX{v:V3 K}{n:Nat}(h:aD n v)(hn:n<=aF):aH prog 7 [bE v] b_:=by have:=aXP (aE4 h) hn;rw[aE5]at this;exact this
def vZ(r:RV):V3 K:=⟨(hY r.x).val,(hY r.y).val,(hY r.z).val⟩
theorem XL{r:RV}(h:xx r=true):r=cB (vZ r):=by unfold xx at h;simp only[dc]at h;obtain⟨x,y,z⟩:=r;show RV.mk x y z=RV.mk (cG (hY x).val) (cG (hY y).val) (cG (hY z).val);rw[<-Rh h.1,<-Rh h.2.1,<-Rh h.2.2]
theorem aXD{a b c:Int}(ha:a.natAbs<9223372036854775808)(hb:b.natAbs<9223372036854775808)(hc:c.natAbs<9223372036854775808):aH prog 26 [.int .i64 a,.int .i64 b,.int .i64 c] (bE ⟨kI a,kI b,kI c⟩):=
 bI func26 (λ_=>[(aXH ha).at 8,(aXH hb).at 10,(aXH hc).at 12])
theorem aX1{u v:V3 K}{n:Nat}(hu:aD m u)(hv:aD n v)(cQ:m+n<aF):aH prog 170 [bE u,bE v] (bE (u+v)):=
 bI func170 (λ_=>[(aXX hu o_).at 6,(aXX hv o_).at 10,(aX3 hu.1 hv.1 cQ).at 18,(aX3 hu.2.1 hv.2.1 cQ).at 23,(aX3 hu.2.2 hv.2.2 cQ).at 28])
theorem aXx{v:V3 K}{n:Nat}(hv:aD n v)(hn:n<=aF):aH prog 11 [bE v] (bE (-v)):=
 bI func11 (λ_=>[(aXX hv hn).at 4,(aX4 hv.1 hn).at 9,(aX4 hv.2.1 hn).at 12,(aX4 hv.2.2 hn).at 15])
theorem aYp{u v:V3 K}{n:Nat}(hu:aD m u)(hv:aD n v)(cQ:m+n<aF):aH prog 139 [bE u,bE v] (bE (u-v)):=by have e:u-v=u+-v:=V3.ext (CR.sub_def _ _) (CR.sub_def _ _) (CR.sub_def _ _);rw[e];exact bI func139 (λ_=>[(aXx hv o_).at 7,(aX1 hu hv.neg cQ).at 8])
theorem aXR{v:V3 K}{k:K}{n:Nat}(hv:aD m v)(hk:Sz n k)(cQ:m+n+8<=aF):aH prog 169 [bE v,bH k] (bE (smul v k)):=
 bI func169 (λ_=>[(aXX hv o_).at 6,(aXJ hk o_).at 10,(aXL hv.1 hk cQ).at 17,(aXL hv.2.1 hk cQ).at 21,(aXL hv.2.2 hk cQ).at 25])
theorem aYl{u v:V3 K}{n:Nat}(hu:aD m u)(hv:aD n v)(cQ:3*(m+n)+16<aF):aH prog 14 [bE u,bE v] (bH (dot u v)):=
 bI func14 (λ_=>[(aXX hu o_).at 6,(aXX hv o_).at 10,(aXL hu.1 hv.1 o_).at 18,(aXL hu.2.1 hv.2.1 o_).at 23,(aX3 (hu.1.mul hv.1) (hu.2.1.mul hv.2.1) o_).at 24,(aXL hu.2.2 hv.2.2 o_).at 29,(aX3 ((hu.1.mul hv.1).add (hu.2.1.mul hv.2.1)) (hu.2.2.mul hv.2.2) o_).at 30])
theorem aYj{a b c d:K}{n:Nat}(ha:Sz m a)(hb:Sz m b)(hc:Sz n c)(hd:Sz n d)(cQ:2*(m+n)+16<aF):aH prog 167 [bH a,bH b,bH c,bH d] (bH (a*d-b*c)):=
 bI func167 (λ_=>[(aXL ha hd o_).at 11,(aXL hb hc o_).at 14,(aXA (ha.mul hd) (hb.mul hc) o_).at 15])
theorem aXG{u v:V3 K}{n:Nat}(hu:aD m u)(hv:aD n v)(cQ:2*(m+n)+16<aF):aH prog 135 [bE u,bE v] (bE (ag u v)):=
 bI func135 (λ_=>[(aXX hu o_).at 6,(aXX hv o_).at 10,(aYj hu.2.1 hu.2.2 hv.2.1 hv.2.2 cQ).at 22,(aYj hu.2.2 hu.1 hv.2.2 hv.1 cQ).at 31,(aYj hu.1 hu.2.1 hv.1 hv.2.1 cQ).at 40])
theorem aYf{v:V3 K}{n:Nat}(hv:aD n v)(hn:n<=aF):aH prog 8 [bE v] (.bool (decide (v=0))):=by have hz:(⟨kI 0,kI 0,kI 0⟩:V3 K)=0:=rfl;exact bI func8 (λ_=>[(aXD (a:=0) (b:=0) (c:=0) d_ d_ d_).at 4,.step 5 (az f8 5) _ _ _ _ (Gx (neg:=true) k_ (cB v) (cB ⟨kI 0,kI 0,kI 0⟩) (hv.sm hn) (L9.sm d_) (b:=decide (v=0)) (by rw[aA rfl,uV];exact⟨λh=>by rw[h,hz],λh=>Qt h⟩))])
theorem aYe{u v w:V3 K}{l n:Nat}(hu:aD l u)(hv:aD m v)(hw:aD n w)(cQ:3*(l+(2*(m+n)+9))+16<aF):aH prog 168 [bE u,bE v,bE w] (bH (aN u v w)):=
 bI func168 (λ_=>[(aXX hu o_).at 8,(aXX hv o_).at 12,(aXX hw o_).at 17,(aXG hv hw o_).at 24,(aYl hu (hv.ag hw) o_).at 25])
theorem MX(h:decide (z≠0)=t):Value.bool (z !=0)=.bool t:=by
 rw[<-h];congr 1
 by_cases e:z=0
 ·subst e;rfl
 ·rw[aJ e,rW];exact e
theorem aXY{u v:V3 K}{n:Nat}(hu:aD m u)(hv:aD n v)(cQ:4*(m+n)+40<=aF):aH prog 172 [bE u,bE v] (.int .i64 (eK u v)):=by
 rw[<-aDm];have h1:=aXX hu (show m<=aF by omega);have h2:=aXX hv (show n<=aF by omega);have c1:=aYn hu.1 hv.1 cQ;have c2:=aYn hu.2.1 hv.2.1 cQ;have c3:=aYn hu.2.2 hv.2.2 cQ;generalize OF.aE (u.x-v.x)=a at *;generalize OF.aE (u.y-v.y)=b at *;generalize OF.aE (u.z-v.z)=c at *;unfold Qu;by_cases ha:a=0
 ·rw[au (λh=>h ha)];by_cases hb:b=0
  ·rw[au (λh=>h hb)];exact bI func172 (λ_=>[h1.at 8,h2.at 12,c1.at 19,.rw 21 _ a_ (MX (aY (λh=>h ha))),c2.at 27,.rw 29 _ a_ (MX (aY (λh=>h hb))),c3.at 35])
  ·rw[aA hb];exact bI func172 (λ_=>[h1.at 8,h2.at 12,c1.at 19,.rw 21 _ a_ (MX (aY (λh=>h ha))),c2.at 27,.rw 29 _ b_ (MX (aJ hb))])
 ·rw[aA ha];exact bI func172 (λ_=>[h1.at 8,h2.at 12,c1.at 19,.rw 21 _ b_ (MX (aJ ha))])
def pR(r:RV)(k:Nat):Bool:=tZ r.x k&&(tZ r.y k&&tZ r.z k)
theorem Rt(r:RV)(k:Nat):aH prog 6 [r.v,vI k] (.bool (pR r k)):=by
 have hx:=Rk r.x k;have hy:=Rk r.y k;have hz:=Rk r.z k;unfold pR;generalize tZ r.x k=bb at *;rcases bb with _|_
 ·exact bI func6 (λ_=>[hx.at 8])
 generalize tZ r.y k=bb at *;rcases bb with _|_
 ·exact bI func6 (λ_=>[hx.at 8,hy.at 13])
 exact bI func6 (λ_=>[hx.at 8,hy.at 13,hz.at 19])
def wV(r:RV):Nat:=wN r.x+wN r.y+wN r.z
theorem aQ8{r:RV}(h:wV r<9223372036854775808):aH prog 109 [r.v] (vI (wV r)):=by unfold wV at *;exact bI func109 (λ_=>[(Rl (r:=r.x) o_).at 5,(Rl (r:=r.y) o_).at 8,.sum 9 (wN r.x) (wN r.y) (wN r.x+wN r.y) rfl o_,(Rl (r:=r.z) o_).at 12,.sum 13 (wN r.x+wN r.y) (wN r.z) (wN r.x+wN r.y+wN r.z) rfl o_])
theorem Ru{r:RN}{n:Nat}(h:tZ r k=true)(hn:8*k<=n):dX n (hY r):=by
 unfold tZ tY at h;simp only[dc,uA]at h;have key:∀ q:RI,q.bw.length<=k->(eQ q).natAbs<2^n:=λq hq=>by
  unfold eQ;rw[rh];have h1:=Cb q.bw;have h2:(256:Nat)^q.bw.length<=256^k:=dj d_ hq;have h3:(256:Nat)^k=2^(8*k):=by rw[tu]
  have h4:2^(8*k)<=2^n:=dj d_ hn;omega
 exact⟨key _ h.1,key _ h.2.1,key _ h.2.2.1,key _ h.2.2.2.1,key _ h.2.2.2.2⟩
theorem aE6{r:RV}{n:Nat}(h:pR r k=true)(hn:8*k<=n):MV n r:=by unfold pR at h;simp only[dc]at h;exact⟨Ru h.1 hn,Ru h.2.1 hn,Ru h.2.2 hn⟩
def Bk(n:Nat)(r:RP):Prop:=MV n r.n/\dX n (hY r.d)
def sL(r:RP):Bool:=xx r.n&&(decide (vZ r.n≠0)&&nZ r.d)
def pZ(r:RP):HS K:=⟨vZ r.n,(hY r.d).val⟩
theorem aQ9{r:RN}(h:nZ r=true):bX (hY r).val=hY r:=by unfold nZ at h;simp only[dc,uA]at h;obtain⟨h1,h2,h3,h4,h5,h6,h7⟩:=h;exact Gr ⟨h6,h7⟩
theorem Rv{r:RN}{n:Nat}(h:nZ r=true)(hs:dX n (hY r)):Sz n (hY r).val:=by unfold Sz;rw[aQ9 h];exact hs
theorem XM{r:RV}{n:Nat}(h:xx r=true)(hs:MV n r):aD n (vZ r):=by unfold xx at h;simp only[dc]at h;exact⟨Rv h.1 hs.1,Rv h.2.1 hs.2.1,Rv h.2.2 hs.2.2⟩
theorem XN{r:RP}{n:Nat}(h:Bk n r)(hn:n<=aF):aH prog 81 [r.v] (.bool (sL r)):=by
 have hv:=aXP h.1 hn;have hd:=MU h.2 hn;unfold sL;rcases hb:xx r.n with _|_
 ·rw[hb]at hv;exact bI func81 (λ_=>[hv.at 5])
 ·rw[hb]at hv;have hz:=aYf (XM hb h.1) hn;unfold bE at hz;rw[<-XL hb]at hz;by_cases h0:vZ r.n=0
  ·rw[aJ h0]at hz;rw[aY (λe=>e h0)];exact bI func81 (λ_=>[hv.at 5,hz.at 9])
  ·rw[aY h0]at hz;rw[aJ h0];exact bI func81 (λ_=>[hv.at 5,hz.at 9,hd.at 15])
theorem aRa(v:V3 K):vZ (cB v)=v:=by show V3.mk (hY (cG v.x)).val (hY (cG v.y)).val (hY (cG v.z)).val=v;rw[Hr,Hr,Hr,pJ,pJ,pJ]
theorem aE7(p:HS K):sL (db p)=decide (p.n≠0):=by show(xx (cB p.n)&&(decide (vZ (cB p.n)≠0)&&nZ (cG p.d)))=_;rw[aE5,aRa,Rr,kp,iz]
theorem aE8{n:Nat}(h:bP n p):Bk n (db p):=⟨aE4 h.1,by show dX n (hY (cG p.d));rw[Hr];exact h.2⟩
theorem aXE{n:Nat}(hp:bP n p)(hn:n<=aF):aH prog 81 [dK p] (.bool (decide (p.n≠0))):=by have:=XN (aE8 hp) hn;rw[aE7]at this;exact this
theorem aE9{r:RP}(h:sL r=true):r=db (pZ r)/\(pZ r).n≠0:=by unfold sL at h;simp only[dc,uA]at h;obtain⟨n,d⟩:=r;refine⟨?_,h.2.1⟩;show RP.mk n d=RP.mk (cB (vZ n)) (cG (hY d).val);rw[<-XL h.1,<-Rh h.2.2]
theorem aRb{r:RP}{n:Nat}(h:sL r=true)(hs:Bk n r):bP n (pZ r):=by unfold sL at h;simp only[dc]at h;exact⟨XM h.1 hs.1,Rv h.2.2 hs.2⟩
def Dc(r:RP)(k:Nat):Bool:=pR r.n k&&tZ r.d k
theorem aFa(r:RP)(k:Nat):aH prog 108 [r.v,vI k] (.bool (Dc r k)):=by
 have hx:=Rt r.n k;have hd:=Rk r.d k;unfold Dc;generalize pR r.n k=bb at *;rcases bb with _|_
 ·exact bI func108 (λ_=>[hx.at 8])
 exact bI func108 (λ_=>[hx.at 8,hd.at 13])
theorem aRc{r:RP}{n:Nat}(h:Dc r k=true)(hn:8*k<=n):Bk n r:=by unfold Dc at h;simp only[dc]at h;exact⟨aE6 h.1 hn,Ru h.2 hn⟩
theorem aXu{v:V3 K}{n:Nat}(hp:bP m p)(hv:aD n v)(cQ:4*(3*(m+n)+14+m)+50<=aF)(h:p.n≠0):aH prog 40 [dK p,bE v] (.int .i64 (OF.aE (dot p.n v-p.d))):=by have h1:=aXE hp o_;rw[aJ h]at h1;exact bI func40 (λ_=>[h1.at 6,(aXX hv o_).at 10,(aYl hp.1 hv o_).at 16,(aYn (hp.1.dot hv) hp.2 o_).at 19])
def JI(p q r:HS K):V3 K:=smul (ag q.n r.n) p.d+smul (ag r.n p.n) q.d+smul (ag p.n q.n) r.d
def lT(p q r:HS K):V3 K:=smul (JI p q r) (kI 1*(aN p.n q.n r.n)⁻¹)
theorem Sz.aN{n:Nat}{u v w:V3 K}(hu:aD n u)(hv:aD n v)(hw:aD n w):Sz (15*n+41) (V3.aN u v w):=(hu.dot (hv.ag hw)).mono o_
theorem aD.JI{n:Nat}{q r:HS K}(hp:bP n p)(hq:bP n q)(hr:bP n r):aD (15*n+41) (Go.Proofs.YtgpahigmalfpdaaGreatDoor.JI p q r):=
 (((hq.1.ag hr.1).smul hp.2).add ((hr.1.ag hp.1).smul hq.2)).add ((hp.1.ag hq.1).smul hr.2) |>.mono o_
theorem aD.lT{n:Nat}{q r:HS K}(hp:bP n p)(hq:bP n q)(hr:bP n r)(h:V3.aN p.n q.n r.n≠0):aD (120*n+365) (Go.Proofs.YtgpahigmalfpdaaGreatDoor.lT p q r):=
 (aD.JI hp hq hr).smul (Sz.div (m:=1) h (mh d_ d_) (Sz.aN hp.1 hq.1 hr.1)) |>.mono o_
theorem aRd(n:Nat):1+7*(15*n+41)+28<=105*n+316:=by omega
theorem aRe(n:Nat):15*n+41+(105*n+316)+8<=200*n+1000:=by omega
theorem aRf{n:Nat}(h:200*n+1000<=aF):15*n+41+(105*n+316)+8<=aF:=dq (aRe n) h
theorem aRg{q r:HS K}{n:Nat}(hp:bP n p)(hq:bP n q)(hr:bP n r)(hn:200*n+1000<=aF)(pn:p.n≠0)(qn:q.n≠0)(rn:r.n≠0):
  aH prog 137 [dK p,dK q,dK r] (if aN p.n q.n r.n=0 then .tuple #[zV.v,.int .i64 11]else .tuple #[bE (lT p q r),.int .i64 0]):=by
 have h1:=aXE hp o_;have h2:=aXE hq o_;have h3:=aXE hr o_;rw[aJ pn]at h1;rw[aJ qn]at h2;rw[aJ rn]at h3;have dt:=aYe hp.1 hq.1 hr.1 o_;have sd:=Sz.aN hp.1 hq.1 hr.1;have sg:=aYc sd o_;have sj:=aRd n;have pM:=aRf hn;by_cases h:aN p.n q.n r.n=0
 ·rw[aA h];have XO:Value.bool (OF.aE (aN p.n q.n r.n)==0)=.bool true:=zp ((OF.fU _).2 h);exact fk mixed func137 200 (λ_=>[h1.at 13,h2.at 17,h3.at 22,dt.at 32,sg.at 34,.rw 35 _ b_ XO]) (λ_=>k_) k_ k_
 ·rw[au h];have XO:Value.bool (OF.aE (aN p.n q.n r.n)==0)=.bool false:=qA (λe=>h ((OF.fU _).1 e));have c1:=aXG hq.1 hr.1 o_;have c2:=aXG hr.1 hp.1 o_;have c3:=aXG hp.1 hq.1 o_;have s1:=aXR (hq.1.ag hr.1) hp.2 o_;have s2:=aXR (hr.1.ag hp.1) hq.2 o_;have s3:=aXR (hp.1.ag hq.1) hr.2 o_;have a1:=aX1 ((hq.1.ag hr.1).smul hp.2) ((hr.1.ag hp.1).smul hq.2) o_;have zA:aD (10*n+27) (smul (ag q.n r.n) p.d+smul (ag r.n p.n) q.d):=aD.mono o_ (((hq.1.ag hr.1).smul hp.2).add ((hr.1.ag hp.1).smul hq.2));have zB:aD (5*n+13) (smul (ag p.n q.n) r.d):=aD.mono o_ ((hp.1.ag hq.1).smul hr.2);have a2:=aX1 zA zB o_;have o1:=aXH (z:=1) d_;have so:Sz 1 (kI 1):=mh d_ d_;have dv:=aYq h so sd o_;have sq:Sz (105*n+316) (kI 1*(aN p.n q.n r.n)⁻¹):=Sz.mono sj (Sz.div h so sd);have fs:=aXR (aD.JI hp hq hr) sq pM;exact fk mixed func137 200 (λ_=>[h1.at 13,h2.at 17,h3.at 22,dt.at 32,sg.at 34,.rw 35 _ a_ XO,c1.at 41,s1.at 44,c2.at 50,s2.at 53,a1.at 54,c3.at 60,s3.at 63,a2.at 64,o1.at 66,dv.at 68,fs.at 73]) (λ_=>k_) k_ k_
theorem aXF{n:Nat}(hp:bP n p)(hn:16*n+100<=aF)(bB:p.n≠0):aH prog 173 [dK p] (.tuple #[dK (canon p),.int .i64 0]):=by
 have hv:=aXE hp o_;rw[aJ bB]at hv;have sx:=aYc hp.1.1 o_;have sy:=aYc hp.1.2.1 o_;have o1:=aXH (z:=1) d_;have so:Sz 1 (kI 1):=mh d_ d_;have fin:∀ x:K,x≠0->Sz n x->aH prog 195 [bH x] (bH (jo x))/\aH prog 171 [bH (kI 1),bH (jo x)] (.tuple #[bH (nC x),.int .i64 0])/\
   aH prog 169 [bE p.n,bH (nC x)] (bE (smul p.n (nC x)))/\aH prog 43 [bH p.d,bH (nC x)] (bH (p.d*nC x)):=λx hx hs=>
  ⟨aXQ hs o_,aYq (Qw hx) so hs.jo o_,aXR hp.1 (hs.nC hx) o_,aXL hp.2 (hs.nC hx) o_⟩
 have hc:canon p=Ey p (ry p.n):=rfl;unfold ry at hc;by_cases hx:p.n.x=0
 ·have ex:Value.bool (OF.aE p.n.x==0)=.bool true:=zp ((OF.fU _).2 hx);rw[au (λe=>e hx)]at hc;by_cases hy:p.n.y=0
  ·have ey:Value.bool (OF.aE p.n.y==0)=.bool true:=zp ((OF.fU _).2 hy);rw[au (λe=>e hy)]at hc;have hz:p.n.z≠0:=λhz=>bB (V3.ext hx hy hz);obtain⟨f1,f2,f3,f4⟩:=fin p.n.z hz hp.1.2.2;rw[hc];exact fk mixed func173 200 (λ_=>[hv.at 8,sx.at 15,.rw 16 _ b_ ex,sy.at 21,.rw 22 _ b_ ey,o1.at 27,f1.at 29,f2.at 30,f3.at 36,f4.at 40]) (λ_=>k_) k_ k_
  ·have ey:Value.bool (OF.aE p.n.y==0)=.bool false:=qA (λe=>hy ((OF.fU _).1 e));rw[aA hy]at hc;obtain⟨f1,f2,f3,f4⟩:=fin p.n.y hy hp.1.2.1;rw[hc];exact fk mixed func173 200 (λ_=>[hv.at 8,sx.at 15,.rw 16 _ b_ ex,sy.at 21,.rw 22 _ a_ ey,o1.at 27,f1.at 29,f2.at 30,f3.at 36,f4.at 40]) (λ_=>k_) k_ k_
 ·have ex:Value.bool (OF.aE p.n.x==0)=.bool false:=qA (λe=>hx ((OF.fU _).1 e));rw[aA hx]at hc;obtain⟨f1,f2,f3,f4⟩:=fin p.n.x hx hp.1.1;rw[hc];exact fk mixed func173 200 (λ_=>[hv.at 8,sx.at 15,.rw 16 _ a_ ex,sx.at 21,.rw 22 _ a_ ex,o1.at 27,f1.at 29,f2.at 30,f3.at 36,f4.at 40]) (λ_=>k_) k_ k_
theorem aYi{q:HS K}{n:Nat}(hp:bP m p)(hq:bP n q)(hm:16*m+100<=aF)(hn:16*n+100<=aF)(j4:p.n≠0)(A1:q.n≠0):aH prog 140 [dK p,dK q] (.bool (decide (canon p=canon q))):=
 bI func140 (λ_=>[(aXF hp hm j4).at 11,(aXF hq hn A1).at 16,.step 28 (az f140 28) _ _ _ _ (Vn (neg:=true) k_ (db (canon p)) (db (canon q)) ((hp.canon j4).sm o_) ((hq.canon A1).sm o_) (b:=decide (canon p=canon q)) (by rw[aA rfl,uV];exact⟨λh=>by rw[h],λh=>Qv h⟩))])
theorem aFb{g o a b:V3 K}{n:Nat}(hg:aD n g)(ho:aD n o)(ha:aD n a)(hb:aD n b)(hn:200*n+400<=aF):aH prog 175 [bE g,bE o,bE a,bE b] (.int .i64 (OF.aE (aN g (a-o) (b-o)))):=
 bI func175 (λ_=>[(aYp ha ho o_).at 12,(aYp hb ho o_).at 15,(aYe hg (ha.sub ho) (hb.sub ho) o_).at 16,(aYc (hg.dot ((ha.sub ho).ag (hb.sub ho))) o_).at 17])
end
section
variable{Bs:aa}{a b:List RV}
def EZ(n i:Nat):aU:=[(5,vI i),(0,sl 0 n),(1,sl 1 n)]
def xy(a b:List RV):aL:=[(0,.view (cW a)),(1,.view (cW b))]
noncomputable def svS{n:Nat}{x y:RV}(hi:i<n)(hx:a[i]?=some x)(hy:b[i]?=some y)(oF:x.Sm)(yU:y.Sm)(ht:(!t)=true↔x=y)(more:bN prog Bs 26):bN prog Bs 26:=
 .lt 14 i n true (aJ hi)::.di f111 19 0 n i 30 hi k_::.ld f111 20 33 0 (i*30) (.view (cW a)) x.v rfl (tQ hx) k_::.di f111 23 1 n i 30 hi k_::.ld f111 24 33 1 (i*30) (.view (cW b)) y.v rfl (tQ hy) k_::
  .step 25 (az f111 25) [x.v,y.v] [] (.bool t) [] (Gx (neg:=false) k_ x y oF yU ht)::more
theorem aFc{n:Nat}{x:RV}(hi:i<n)(hx:a[i]?=some x)(hy:b[i]?=some x)(oF:x.Sm)(h63:n<9223372036854775807):
  ah prog Bs 26 (aK (ai f111 0)) (EZ n i) (xy a b) 2 ⟨.normal,EZ n (i+1),xy a b,2⟩:=
 aG (svS (t:=false) hi hx hy oF oF s_ [.sum 16 i 1 (i+1) rfl o_])
theorem aRh{n:Nat}{x y:RV}(hi:i<n)(hx:a[i]?=some x)(hy:b[i]?=some y)(oF:x.Sm)(yU:y.Sm)(bB:x≠y):
  ah prog Bs 26 (aK (ai f111 0)) (EZ n i) (xy a b) 2 ⟨.ret,[(4,.bool false)],xy a b,2⟩:=
 aG (svS (t:=true) hi hx hy oF yU (by simp[bB]) [])
theorem aRi{n:Nat}:ah prog Bs 26 (aK (ai f111 0)) (EZ n n) (xy a b) 2 ⟨.exit 0,[],xy a b,2⟩:=
 aG [.lt 14 n n false s_]
theorem aRj(ha:∀ x∈a,x.Sm)(hb:∀ x∈b,x.Sm)(h63:a.length<9223372036854775807):cx prog 111 [.r a.length (cW a),.r b.length (cW b)] (.bool (decide (a=b))):=by
 have aC:([aQ.r a.length (cW a),.r b.length (cW b)].all aQ.ok)=true:=by simp only[eA,e8,aQ.ok,jf gS,iz]
 by_cases hl:a.length=b.length
 ·rcases EE a b hl with h|⟨e,x,y,h1,h2,h3,h4⟩
  ·rw[aJ h];subst h;have lo:∀ B:aa,ah prog B 26 (.block 0 (ai f111 0)) (EZ a.length 0) (xy a a) 2 ⟨.normal,[],xy a a,2⟩:=λB=>
    cg (id:=0) (cz a.length (λi=>EZ a.length i) (λ_=>xy a a) (λi k _=>Iff.rfl) (λi hi=>by have hx:a[i]?=some a[i]:=bt hi;exact aFc hi hx hx (ha _ (dy hi)) h63) aRi n_)
   exact dF func111 aC 26 (λw=>[.rw 10 _ a_ (vf (x:=a.length) (y:=a.length) s_),.code 0 _ _ _ _ _ (lo _)])
  ·have cd:a≠b:=λh=>by subst h;rw[h1]at h2;injection h2 with h2;exact h3 h2
   rw[aY cd];have ao:=(eP.1 h1).1;have lo:∀ B:aa,ah prog B 26 (.block 0 (ai f111 0)) (EZ a.length 0) (xy a b) 2 ⟨.ret,[(4,.bool false)],xy a b,2⟩:=λB=>
    cg (id:=0) (cz e (λi=>EZ a.length i) (λ_=>xy a b) (λi k _=>Iff.rfl) (λi hi=>by have hx:a[i]?=some a[i]:=bt o_;have hy:b[i]?=some b[i]:=bt o_;have:=h4 i _ _ hi hx hy;rw[<-this]at hy;exact aFc o_ hx hy (ha _ (dy _)) h63) (aRh ao h1 h2 (ha _ (cM h1)) (hb _ (cM h2)) h3) n_)
   have CL:([aQ.r a.length (cW a),.r a.length (cW b)].all aQ.ok)=true:=by simp only[eA,e8,aQ.ok,jf gS,iz]
   rw[<-hl];exact dF func111 CL 26 (λw=>[.rw 10 _ a_ (vf (x:=a.length) (y:=a.length) s_),.code 0 _ _ _ _ _ (lo _)])
 ·have cd:a≠b:=λh=>hl (by rw[h]);rw[aY cd];exact dF func111 aC 26 (λw=>[.rw 10 _ b_ (vf (x:=a.length) (y:=b.length) (aJ hl))])
end
section
variable{Bs:aa}{a b:List Int}
def E0(n i:Nat):aU:=[(5,vI i),(0,sl 0 n),(1,sl 1 n)]
def xz(a b:List Int):aL:=[(0,.view (fY a)),(1,.view (fY b))]
theorem neZ{x y:Int}(h:decide (x≠y)=t):Value.bool (x !=y)=.bool t:=by
 rw[<-h];congr 1
 by_cases e:x=y
 ·subst e;simp
 ·rw[aJ e,rW];exact e
noncomputable def siS{n:Nat}{x y:Int}(hi:i<n)(hx:a[i]?=some x)(hy:b[i]?=some y)(ht:decide (x≠y)=t)(more:bN prog Bs 26):bN prog Bs 26:=
 .lt 14 i n true (aJ hi)::.ix f112 19 0 n i hi k_::.ld f112 20 3 0 i (.view (fY a)) (iV x) rfl (QW hx) k_::.ix f112 23 1 n i hi k_::.ld f112 24 3 1 i (.view (fY b)) (iV y) rfl (QW hy) k_::.rw 25 _ (.bool t) (neZ ht)::more
theorem aFd{n:Nat}{x:Int}(hi:i<n)(hx:a[i]?=some x)(hy:b[i]?=some x)(h63:n<9223372036854775807):
  ah prog Bs 26 (aK (ai f112 0)) (E0 n i) (xz a b) 2 ⟨.normal,E0 n (i+1),xz a b,2⟩:=
 aG (siS (t:=false) hi hx hy s_ [.sum 16 i 1 (i+1) rfl o_])
theorem aRk{n:Nat}{x y:Int}(hi:i<n)(hx:a[i]?=some x)(hy:b[i]?=some y)(bB:x≠y):
  ah prog Bs 26 (aK (ai f112 0)) (E0 n i) (xz a b) 2 ⟨.ret,[(4,.bool false)],xz a b,2⟩:=
 aG (siS (t:=true) hi hx hy (aJ bB) [])
theorem aRl{n:Nat}:ah prog Bs 26 (aK (ai f112 0)) (E0 n n) (xz a b) 2 ⟨.exit 0,[],xz a b,2⟩:=
 aG [.lt 14 n n false s_]
theorem aFe(l:List Int):(fY l).all flat=true:=bC.2 λu hu=>by obtain⟨x,_,rfl⟩:=df.1 hu;rfl
theorem aRm(h63:a.length<9223372036854775807):cx prog 112 [.r a.length (fY a),.r b.length (fY b)] (.bool (decide (a=b))):=by
 have aC:([aQ.r a.length (fY a),.r b.length (fY b)].all aQ.ok)=true:=by simp only[eA,e8,aQ.ok,aFe,iz]
 by_cases hl:a.length=b.length
 ·rcases EE a b hl with h|⟨e,x,y,h1,h2,h3,h4⟩
  ·rw[aJ h];subst h;have lo:∀ B:aa,ah prog B 26 (.block 0 (ai f112 0)) (E0 a.length 0) (xz a a) 2 ⟨.normal,[],xz a a,2⟩:=λB=>
    cg (id:=0) (cz a.length (λi=>E0 a.length i) (λ_=>xz a a) (λi k _=>Iff.rfl) (λi hi=>by have hx:a[i]?=some a[i]:=bt hi;exact aFd hi hx hx h63) aRl n_)
   exact dF func112 aC 26 (λw=>[.rw 10 _ a_ (vf (x:=a.length) (y:=a.length) s_),.code 0 _ _ _ _ _ (lo _)])
  ·have cd:a≠b:=λh=>by subst h;rw[h1]at h2;injection h2 with h2;exact h3 h2
   rw[aY cd];have ao:=(eP.1 h1).1;have lo:∀ B:aa,ah prog B 26 (.block 0 (ai f112 0)) (E0 a.length 0) (xz a b) 2 ⟨.ret,[(4,.bool false)],xz a b,2⟩:=λB=>
    cg (id:=0) (cz e (λi=>E0 a.length i) (λ_=>xz a b) (λi k _=>Iff.rfl) (λi hi=>by have hx:a[i]?=some a[i]:=bt o_;have hy:b[i]?=some b[i]:=bt o_;have:=h4 i _ _ hi hx hy;rw[<-this]at hy;exact aFd o_ hx hy h63) (aRk ao h1 h2 h3) n_)
   have CL:([aQ.r a.length (fY a),.r a.length (fY b)].all aQ.ok)=true:=by simp only[eA,e8,aQ.ok,aFe,iz]
   rw[<-hl];exact dF func112 CL 26 (λw=>[.rw 10 _ a_ (vf (x:=a.length) (y:=a.length) s_),.code 0 _ _ _ _ _ (lo _)])
 ·have cd:a≠b:=λh=>hl (by rw[h]);rw[aY cd];exact dF func112 aC 26 (λw=>[.rw 10 _ b_ (vf (x:=a.length) (y:=b.length) (aJ hl))])
end
section
variable{α:Type}[DecidableEq α]
def dd:List α->List α
 |a::b::l=>if a=b then dd (b::l)else a::dd (b::l)
 |l=>l
theorem MY(a b:α)(l:List α):dd (a::b::l)=if a=b then dd (b::l)else a::dd (b::l):=rfl
theorem aFf:∀(l:List α) (a b:α),dd (l++[a,b])=if a=b then dd (l++[a])else dd (l++[a])++[b]
 |[],a,b=>by
  show(if a=b then[b]else[a,b])=if a=b then[a]else[a]++[b]
  split
  ·rename_i h;rw[h]
  ·rfl
 |[c],a,b=>by
  show(if c=a then(if a=b then[b]else[a,b])else c::(if a=b then[b]else[a,b]))=if a=b then(if c=a then[a]else[c,a])else(if c=a then[a]else[c,a])++[b]
  by_cases h:a=b<;>by_cases k:c=a<;>simp[h,k]
 |c::d::l,a,b=>by
  show(if c=d then dd (d::(l++[a,b]))else c::dd (d::(l++[a,b])))=if a=b then(if c=d then dd (d::(l++[a]))else c::dd (d::(l++[a])))else(if c=d then dd (d::(l++[a]))else c::dd (d::(l++[a])))++[b]
  have ih:=aFf (d::l) a b;rw[DZ,DZ]at ih;rw[ih];by_cases h:a=b<;>by_cases k:c=d<;>simp[h,k]
theorem Rw{l:List α}{x y:α}(hj:l[j]?=some y)(hx:l[j+1]?=some x):dd (l.take (j+2))=if y=x then dd (l.take (j+1))else dd (l.take (j+1))++[x]:=by
 have e1:l.take (j+1)=l.take j++[y]:=by rw[uZ,hj];rfl
 have e2:l.take (j+2)=l.take j++[y,x]:=by rw[uZ,hx,e1,FL];rfl
 rw[e1,e2,aFf]
theorem aFg{x:α}:∀{l:List α},x∈dd l↔x∈l
 |[]=>Iff.rfl
 |[a]=>Iff.rfl
 |a::b::l=>by
  rw[MY];have ih:=aFg (x:=x) (l:=b::l);split
  ·rename_i h;subst h;rw[ih];simp
  ·rw[cE,ih];simp
def kP(l:List α)(j:Nat):List α:=dd (l.take j)++l.drop (dd (l.take j)).length
def jE(l:List α)(j:Nat):Nat:=(dd (l.take j)).length
theorem Rx(l:List α):∀ j,jE l j<=j/\jE l j<=l.length
 |0=>by simp[jE,dd]
 |1=>by
  cases l with
  |nil=>simp[jE,dd]
  |cons a l=>simp[jE,dd]
 |j+2=>by
  have ih:=Rx l (j+1);rcases fo (j+1) l.length with h|h
  ·have hy:l[j]?=some l[j]:=bt o_;have hx:l[j+1]?=some l[j+1]:=bt h;have:=Rw hy hx;unfold jE at ih ⊢;rw[this];split
   ·omega
   ·rw[lH,QA];omega
  ·have:l.take (j+2)=l.take (j+1):=by rw[lh h,lh o_]
   unfold jE at ih ⊢;rw[this];omega
theorem aFh(l:List α)(j:Nat):(kP l j).length=l.length:=by have:=(Rx l j).2;unfold jE at this;unfold kP;rw[lH,wI];omega
theorem aFi{l:List α}(h:jE l j<=i):(kP l j)[i]?=l[i]?:=by
 unfold jE at h;unfold kP;rw[FD h,Ft]
 congr 1;omega
theorem Ry{l:List α}{x:α}(hj:l[j]?=some x)(hx:l[j+1]?=some x):kP l (j+2)=kP l (j+1)/\jE l (j+2)=jE l (j+1):=by unfold kP jE;rw[Rw hj hx,aA rfl];exact⟨rfl,rfl⟩
theorem aFj{l:List α}{x y:α}(hj:l[j]?=some y)(hx:l[j+1]?=some x)(bB:y≠x)(hd:jE l (j+1)<l.length):(kP l (j+1)).set (jE l (j+1)) x=kP l (j+2)/\jE l (j+2)=jE l (j+1)+1:=by
 unfold kP jE at *;rw[Rw hj hx,au bB];refine⟨?_,by rw[lH];rfl⟩;rw[Ww _ _ (bF _),wR,lH,QA,FL]
 congr 1
 rw[aDq hd];rfl
theorem XP{l:List α}:∀(j:Nat),(∀ i x,i+1<j->l[i]?=some x->l[i+1]?≠some x)->j<=l.length->dd (l.take j)=l.take j
 |0,_,_=>rfl
 |1,_,_=>by
  cases l with
  |nil=>rfl
  |cons a l=>rfl
 |j+2,h,hl=>by
  have ih:=XP (j+1) (λi x hi=>h i x o_) o_;have hy:l[j]?=some l[j]:=bt o_;have hx:l[j+1]?=some l[j+1]:=bt o_;rw[Rw hy hx,au (λe=>h j _ o_ hy (by rw[hx,e])),ih];have e:l.take (j+2)=l.take (j+1)++[l[j+1]]:=by rw[uZ,hx];rfl
  exact e.symm
theorem aFk(l:List α):∀ n,n<=l.length->(∀ i x,i+1<n->l[i]?=some x->l[i+1]?≠some x)\/∃ e x,e+1<n/\l[e]?=some x/\l[e+1]?=some x/\∀ i x,i+1<e+1->l[i]?=some x->l[i+1]?≠some x
 |0,_=>.inl λi x h=>by omega
 |1,_=>.inl λi x h=>by omega
 |n+2,hn=>by
  rcases aFk l (n+1) o_ with h|⟨e,x,h1,h2,h3,h4⟩
  ·have hy:l[n]?=some l[n]:=bt o_;have hx:l[n+1]?=some l[n+1]:=bt o_;by_cases he:l[n]=l[n+1]
   ·exact .inr ⟨n,l[n],by omega,hy,by rw[hx,he],h⟩
   ·refine .inl λi x hi BU=>?_;rcases fo (i+1) (n+1)with h1|h1
    ·exact h i x h1 BU
    ·have:i=n:=by omega
     subst this;rw[hy]at BU;injection BU with BU;rw[hx,<-BU];intro e;injection e with e;exact he e.symm
  ·exact .inr ⟨e,x,by omega,h2,h3,h4⟩
theorem aFl{β:Type}[DecidableEq β]{f:α->β}(hf:∀ a b,f a=f b->a=b):∀ l:List α,dd (l.map f)=(dd l).map f
 |[]=>rfl
 |[a]=>rfl
 |a::b::l=>by
  have ih:=aFl hf (b::l);rw[mL,mL,MY,MY];rw[mL]at ih;by_cases h:a=b
  ·subst h;rw[aA rfl,aA rfl,ih]
  ·rw[au h,au (λe=>h (hf _ _ e)),ih];rfl
end
section
variable{Bs:aa}{l:List RV}
def MZ:RI:=⟨false,[]⟩
def ua:RN:=⟨MZ,MZ,MZ,MZ,MZ⟩
def ub:RV:=⟨ua,ua,ua⟩
def Hs(n i:Nat):aU:=[(3,vI i),(0,sl 1 n)]
def mE(l:List RV):aL:=[(1,.row (cW l) 33 30)]
def aRn(k a n:Nat):Value:=.slice (some ⟨k,a*30,some 7⟩) n a
def M3(n e d k:Nat):aU:=[(5,vI k),(4,aRn 1 e (n-e)),(3,vI d),(0,sl 1 n)]
theorem stV{l:List RV}{y:RV}(hi:i<l.length):fK prog 33 (cW l) (i*30) y.v=some (cW (l.set i y)):=aNr gS k_ hi
theorem aFm{n:Nat}{x y:RV}(hi:i+1<n)(h63:n<4611686018427387904)(hy:l[i]?=some y)(hx:l[i+1]?=some x)(yU:y.Sm)(oF:x.Sm)(bB:x≠y):
  ah prog Bs 61 (aK (ai f154 0)) (Hs n (i+1)) (mE l) 2 ⟨.normal,Hs n (i+1+1),mE l,2⟩:=
 aG [.lt 13 (i+1) n true (aJ hi),.di f154 18 1 n (i+1) 30 hi k_,.ld f154 19 33 1 ((i+1)*30) (.row (cW l) 33 30) x.v rfl (tQ hx) k_,.fN 22 (i+1) 1 i rfl o_,.di f154 23 1 n i 30 o_ k_,.ld f154 24 33 1 (i*30) (.row (cW l) 33 30) y.v rfl (tQ hy) k_,.step 25 (az f154 25) [x.v,y.v] [] a_ [] (Gx (neg:=true) k_ x y oF yU (by simp[bB])),.sum 15 (i+1) 1 (i+1+1) rfl o_]
theorem aRo{n:Nat}:ah prog Bs 61 (aK (ai f154 0)) (Hs n n) (mE l) 2 ⟨.exit 0,[(0,sl 1 n)],mE l,2⟩:=
 aG [.lt 13 n n false s_]
noncomputable def aFn{n:Nat}{r:List RV}{x y:RV}(hk:k+1<n-e)(hj:e+k=j)(h63:n<4611686018427387904)(hy:r[j]?=some y)(hx:r[j+1]?=some x)(yU:y.Sm)(oF:x.Sm)(ht:(!t)=true↔x=y)(more:bN prog Bs 61):bN prog Bs 61:=
 .lt 32 (k+1) (n-e) true (aJ hk)::.qx f154 37 1 e (n-e) e (k+1) (j+1) 30 hk o_ k_::.ld f154 38 33 1 ((j+1)*30) (.row (cW r) 33 30) x.v rfl (tQ hx) k_::.fN 41 (k+1) 1 k rfl o_::
  .qx f154 42 1 e (n-e) e k j 30 o_ hj k_::.ld f154 43 33 1 (j*30) (.row (cW r) 33 30) y.v rfl (tQ hy) k_::.step 44 (az f154 44) [x.v,y.v] [] (.bool t) [] (Gx (neg:=false) k_ x y oF yU ht)::more
theorem aRp{n:Nat}(hl:l.length=n)(hk:e+1+k+1<n)(h63:n<4611686018427387904)(rG:∀ x∈l,x.Sm)(hd:d=jE l (e+1+k+1))(hde:d<=e+1+k):
  ah prog Bs 61 (aK (ai f154 2)) (M3 n (e+1) d (k+1)) (mE (kP l (e+1+k+1))) 2 ⟨.normal,M3 n (e+1) (jE l (e+1+k+2)) (k+1+1),mE (kP l (e+1+k+2)),2⟩:=by
 have hy:l[e+1+k]?=some l[e+1+k]:=bt o_;have hx:l[e+1+k+1]?=some l[e+1+k+1]:=bt o_;have PD:(kP l (e+1+k+1))[e+1+k]?=some l[e+1+k]:=by rw[aFi o_];exact hy
 have yi:(kP l (e+1+k+1))[e+1+k+1]?=some l[e+1+k+1]:=by rw[aFi o_];exact hx
 have sy:=rG _ (cM hy);have sx:=rG _ (cM hx);by_cases h:l[e+1+k]=l[e+1+k+1]
 ·obtain⟨q1,q2⟩:=Ry hy (by rw[hx,h]);rw[q1,q2,<-hd];exact aG (aFn (t:=false) o_ rfl h63 PD yi sy sx (by simp[h]) [.sum 34 (k+1) 1 (k+1+1) rfl o_])
 ·have ao:jE l (e+1+k+1)<l.length:=by omega
  obtain⟨q1,q2⟩:=aFj hy hx h ao;rw[<-hd]at q1 q2 ao;have bW:=stV (l:=kP l (e+1+k+1)) (i:=d) (y:=l[e+1+k+1]) (by rw[aFh];exact ao);rw[q1]at bW;rw[q2];generalize l[e+1+k+1]=x at *;generalize l[e+1+k]=y at *;generalize kP l (e+1+k+1)=r at *;generalize kP l (e+1+k+2)=r' at *;exact aG (aFn (t:=true) o_ rfl h63 PD yi sy sx (by simp;exact λe=>h e.symm) [.qx f154 49 1 (e+1) (n-(e+1)) (e+1) (k+1) (e+1+k+1) 30 o_ o_ k_,.ld f154 50 33 1 ((e+1+k+1)*30) (.row (cW r) 33 30) x.v rfl (tQ yi) k_,.di f154 51 1 n d 30 o_ k_,.st f154 100051 33 1 (d*30) (.row (cW r) 33 30) x.v (.row (cW r') 33 30) rfl bW rfl k_,.sum 53 d 1 (d+1) rfl o_,.sum 34 (k+1) 1 (k+1+1) rfl o_])
theorem aRq{n:Nat}{r:List RV}(he:e<=n):ah prog Bs 61 (aK (ai f154 2)) (M3 n e d (n-e)) (mE r) 2 ⟨.exit 2,[(3,vI d),(0,sl 1 n)],mE r,2⟩:=
 aG [.lt 32 (n-e) (n-e) false s_]
theorem aRr{n:Nat}{x:RV}(hl:l.length=n)(he:e+1<n)(h63:n<4611686018427387904)(rG:∀ x∈l,x.Sm)(hy:l[e]?=some x)(hx:l[e+1]?=some x)(gi:dd (l.take (e+1))=l.take (e+1)):
  ah prog Bs 61 (.block 2 (ai f154 2)) (M3 n (e+1) (e+1) 1) (mE l) 2 ⟨.normal,[(3,vI (dd l).length),(0,sl 1 n)],mE (kP l n),2⟩/\(dd l).length<n:=by
 have h0:jE l (e+1)=e+1:=by unfold jE;rw[gi,jV];omega
 have h1:jE l (e+2)=e+1:=by rw[(Ry hy hx).2,h0]
 have gY:kP l (e+2)=l:=by rw[(Ry hy hx).1];unfold kP;rw[gi];rw[jV,oQ o_,My]
 have uz:∀ k,e+1+k+1<n->jE l (e+1+k+2)<=jE l (e+1+k+1)+1:=λk hk=>by
  have a:l[e+1+k]?=some l[e+1+k]:=bt o_;have b:l[e+1+k+1]?=some l[e+1+k+1]:=bt o_;by_cases h:l[e+1+k]=l[e+1+k+1]
  ·have:=(Ry a (by rw[b,h])).2;omega
  ·have:=(aFj a b h (by have:=(Rx l (e+1+k+1)).1;omega)).2;omega
 have FH:∀ k,e+1+k<n->jE l (e+1+k+1)<=e+1+k:=by
  intro k;induction k with
  |zero=>intro _;show jE l (e+2)<=_;omega
  |succ k ih=>
   intro hk;have a:=ih o_;have b:=uz k o_;show jE l (e+1+k+2)<=_;omega
 have bo:jE l n=(dd l).length:=by unfold jE;rw[lh o_]
 refine⟨?_,?_⟩
 ·have:=cz (P:=prog) (B:=Bs) (N:=61) (b:=aK (ai f154 2)) (next:=2) (n-(e+1)-1) (λk=>M3 n (e+1) (jE l (e+1+k+1)) (k+1)) (λk=>mE (kP l (e+1+k+1)))
   (r:=⟨.exit 2,[(3,vI (dd l).length),(0,sl 1 n)],mE (kP l n),2⟩) (λi k _=>kH (l:=mE (kP l (e+1+i+1))) (m:=mE (kP l (e+1+0+1))) rfl k)
   (λk hk=>aRp hl o_ h63 rG rfl (FH k o_))
   (by
    have e1:e+1+(n-(e+1)-1)+1=n:=by omega
    have e2:n-(e+1)-1+1=n-(e+1):=by omega
    simp only[e1,e2,bo];exact aRq o_) n_
  have h2:=cg (id:=2) this;simp only[kT,jv,h1,gY]at h2;exact h2
 ·have:=FH (n-(e+1)-1) o_;rw[show e+1+(n-(e+1)-1)+1=n by omega,bo]at this;omega
def JJ(l:List RV):List RV:=dd l++List.replicate (l.length-(dd l).length) ub
theorem aFo{l:List RV}(h:dd l=l):JJ l=l:=by unfold JJ;rw[h];simp
theorem aRs(rG:∀ x∈l,x.Sm)(h63:l.length<4611686018427387904):yP prog 154 2 [sl 1 l.length] (mE l) [] (sl 1 (dd l).length) (mE (JJ l)):=by
 by_cases h2:l.length<2
 ·have hd:dd l=l:=by
   cases l with
   |nil=>rfl
   |cons a l=>cases l with
    |nil=>rfl
    |cons b l=>simp at h2;omega
  rw[aFo hd,hd];exact o8 mixed func154 100 (N:=61) k_ (λ_=>[.lt 8 l.length 2 true (aJ h2)]) (λ_=>k_)
 ·have ao:(Value.bool (decide ((l.length:Int)<(2:Int))))=.bool false:=by simp;omega
  rcases aFk l l.length (bF _)with h|⟨e,x,h3,h4,h5,h6⟩
  ·have hd:dd l=l:=by have:=XP l.length h (bF _);rwa[oD]at this
   rw[aFo hd,hd];generalize hn:l.length=n at *;have lo:∀ B:aa,ah prog B 61 (.block 0 (ai f154 0)) (Hs n 1) (mE l) 2 ⟨.normal,[(0,sl 1 n)],mE l,2⟩:=λB=>by
    have:=cz (P:=prog) (B:=B) (N:=61) (b:=aK (ai f154 0)) (next:=2) (n-1) (λi=>Hs n (i+1)) (λ_=>mE l) (r:=⟨.exit 0,[(0,sl 1 n)],mE l,2⟩) (λi k _=>Iff.rfl)
     (λi hi=>by have hy:l[i]?=some l[i]:=bt o_;have hx:l[i+1]?=some l[i+1]:=bt o_;exact aFm o_ h63 hy hx (rG _ (cM hy)) (rG _ (cM hx)) λe=>h i _ o_ hy (by rw[hx,e]))
     (by rw[show n-1+1=n by omega];exact aRo) n_
    exact cg (id:=0) this
   exact o8 mixed func154 100 (N:=61) k_ (λB=>[.rw 8 _ _ ao,.code 0 _ _ _ _ _ (lo B)]) (λ_=>k_)
  ·have gi:dd (l.take (e+1))=l.take (e+1):=XP (e+1) h6 o_;have sx:=rG _ (cM h4);generalize hn:l.length=n at *;have hz:dB RV.cs (List.replicate (n-(dd l).length) ub)=(Builtin.zeroCells (ub.v).cells (n-(dd l).length)).toList:=(aOu gS rfl d_ _).symm;unfold JJ;rw[hn];have cy:=λB=>aRr (Bs:=B) hn h3 h63 rG h4 h5 gi;have O9:=(cy (aa.at default)).2;have GW:kP l n=dd l++l.drop (dd l).length:=by unfold kP;rw[lh o_]
   have aRt:ju (cW (kP l n)) ((dd l).length*30) (Builtin.zeroCells (ub.v).cells (n-(dd l).length)).toList=cW (dd l++List.replicate (n-(dd l).length) ub):=by rw[<-hz,GW];show ju (dB RV.cs (dd l++l.drop (dd l).length)) _ _=dB RV.cs _;rw[Mg,Mg];have:=Qz (dB RV.cs (List.replicate (n-(dd l).length) ub)) (dB RV.cs (dd l)) (dB RV.cs (l.drop (dd l).length)) 0;rw[uW gS,jv]at this;rw[this];have h2:=Wx (dB RV.cs (List.replicate (n-(dd l).length) ub)) (dB RV.cs (l.drop (dd l).length)) [] (by rw[uW gS,uW gS,wI,Jx,hn]);rw[jZ,jZ]at h2;rw[h2]
   have hlen:(dd l).length*30+(n-(dd l).length)*(ub.v).cells.size<=(cW (kP l n)).length:=by rw[uW gS,aFh,hn,show(ub.v).cells.size=30 from rfl,<-fZ];exact fe _ o_
   generalize kP l n=r at *;generalize (dd l++List.replicate (n-(dd l).length) ub)=r' at *;generalize (dd l).length=d at *;have lo:∀ B:aa,ah prog B 61 (.block 0 (ai f154 0)) (Hs n 1) (mE l) 2 ⟨.ret,[(2,sl 1 d)],mE r',2⟩:=λB=>by
    have:=cz (P:=prog) (B:=B) (N:=61) (b:=aK (ai f154 0)) (next:=2) e (λi=>Hs n (i+1)) (λ_=>mE l) (r:=⟨.ret,[(2,sl 1 d)],mE r',2⟩) (λi k _=>Iff.rfl)
     (λi hi=>by have hy:l[i]?=some l[i]:=bt o_;have hx:l[i+1]?=some l[i+1]:=bt o_;exact aFm o_ h63 hy hx (rG _ (cM hy)) (rG _ (cM hx)) λe=>h6 i _ o_ hy (by rw[hx,e]))
     (aG [.lt 13 (e+1) n true (aJ h3),.di f154 18 1 n (e+1) 30 h3 k_,.ld f154 19 33 1 ((e+1)*30) (.row (cW l) 33 30) x.v rfl (tQ h5) k_,.fN 22 (e+1) 1 e rfl o_,.di f154 23 1 n e 30 o_ k_,.ld f154 24 33 1 (e*30) (.row (cW l) 33 30) x.v rfl (tQ h4) k_,.step 25 (az f154 25) [x.v,x.v] [] b_ [] (Gx (neg:=true) k_ x x sx sx s_),.behind f154 28 1 n (e+1) (n-(e+1)) 30 o_ o_ k_,.code 2 _ _ _ _ _ (cy B).1,.behind f154 56 1 n d (n-d) 30 o_ o_ k_,.clear f154 99999 1 (d*30) (n-d) d 33 30 ub.v (cW r) (cW r') d_ o_ hlen aRt k_,.upto f154 59 1 n d 30 o_ k_]) n_
    exact cg (id:=0) this
   exact o8 mixed func154 100 (N:=61) k_ (λB=>[.rw 8 _ _ ao,.code 0 _ _ _ _ _ (lo B)]) (λ_=>k_)
end
section
open Go.Shelf
def aFp:Go.Shelf.Ren:=⟨λ| 6=>152|15=>186|14=>185|28=>209|29=>210|20=>201|21=>202|22=>203|23=>204|24=>205|25=>206|26=>207|27=>208|46=>220|47=>221|48=>222|49=>223|50=>224|57=>229|n=>n,λ| 22=>23|24=>33|25=>162|3=>3|39=>135|0=>0|53=>175|55=>119|4=>4|46=>201|45=>200|50=>122|5=>5|9=>9|66=>218|70=>222|76=>230|77=>231|n=>n,λ| n=>n⟩
theorem aRu:Go.Proofs.SlLaysF0.n6 prog aFp:={
 mixed:=by kernel_rfl
 f6:=⟨f152.name,by decide,func152.trans (cS some k_)⟩
 f14:=⟨f185.name,by decide,func185.trans (cS some k_)⟩
 f15:=func186.trans (cS some k_)
 f20:=⟨f201.name,by decide,func201.trans (cS some k_)⟩
 f21:=⟨f202.name,by decide,func202.trans (cS some k_)⟩
 f22:=⟨f203.name,by decide,func203.trans (cS some k_)⟩
 f23:=⟨f204.name,by decide,func204.trans (cS some k_)⟩
 f24:=⟨f205.name,by decide,func205.trans (cS some k_)⟩
 f25:=⟨f206.name,by decide,func206.trans (cS some k_)⟩
 f26:=⟨f207.name,by decide,func207.trans (cS some k_)⟩
 f27:=⟨f208.name,by decide,func208.trans (cS some k_)⟩
 f28:=func209.trans (cS some k_)
 f29:=func210.trans (cS some k_)
 f46:=⟨f220.name,by decide,func220.trans (cS some k_)⟩
 f47:=func221.trans (cS some k_)
 f48:=func222.trans (cS some k_)
 f49:=⟨f223.name,by decide,func223.trans (cS some k_)⟩
 f50:=⟨f224.name,by decide,func224.trans (cS some k_)⟩
 f57:=⟨f229.name,by decide,func229.trans (cS some k_)⟩
 t0:=Tryz.underlying0
 a0:=isAgg0
 z0:=sizeOf0
 v0:=Tryz.zeroValue0
 t3:=Tryz.underlying3
 a3:=isAgg3
 z3:=sizeOf3
 v3:=Tryz.zeroValue3
 t4:=Tryz.underlying4
 a4:=isAgg4
 z4:=sizeOf4
 v4:=Tryz.zeroValue4
 t5:=Tryz.underlying5
 a5:=isAgg5
 z5:=sizeOf5
 v5:=Tryz.zeroValue5
 t9:=Tryz.underlying9
 a9:=isAgg9
 z9:=sizeOf9
 v9:=Tryz.zeroValue9
 t22:=Tryz.underlying23
 a22:=isAgg23
 z22:=sizeOf23
 v22:=Tryz.zeroValue23
 t25:=Tryz.underlying162
 a25:=isAgg162
 z25:=sizeOf162
 v25:=Tryz.zeroValue162
 t39:=Tryz.underlying135
 a39:=isAgg135
 z39:=sizeOf135
 v39:=Tryz.zeroValue135
 t45:=Tryz.underlying200
 a45:=isAgg200
 z45:=sizeOf200
 v45:=Tryz.zeroValue200
 t46:=Tryz.underlying201
 a46:=isAgg201
 z46:=sizeOf201
 v46:=Tryz.zeroValue201
 t50:=Tryz.underlying122
 a50:=isAgg122
 z50:=sizeOf122
 v50:=Tryz.zeroValue122
 t53:=Tryz.underlying175
 a53:=isAgg175
 z53:=sizeOf175
 v53:=Tryz.zeroValue175
 t55:=Tryz.underlying119
 a55:=isAgg119
 z55:=sizeOf119
 v55:=Tryz.zeroValue119
 t66:=Tryz.underlying218
 a66:=isAgg218
 z66:=sizeOf218
 v66:=Tryz.zeroValue218
 t70:=Tryz.underlying222
 a70:=isAgg222
 z70:=sizeOf222
 v70:=Tryz.zeroValue222
 t76:=Tryz.underlying230
 a76:=isAgg230
 z76:=sizeOf230
 v76:=Tryz.zeroValue230
 t77:=Tryz.underlying231
 a77:=isAgg231
 z77:=sizeOf231
 v77:=Tryz.zeroValue231 }
end
section
open CR OF
section
variable{F:Type}[OF F]
def uc(u v:V3 F):Bool:=decide (eK u v≠1)
theorem JK{u v:V3 F}:uc u v=true↔kA u v\/u=v:=by unfold uc kA;rw[uV,<-L5];rcases Jh u v with h|h|h<;>rw[h]<;>decide
theorem aFq(u v w:V3 F)(h:uc u v=true)(k:uc v w=true):uc u w=true:=by
 rw[JK]at *;rcases h with h|rfl
 ·rcases k with k|rfl
  ·exact .inl (L6 h k)
  ·exact .inl h
 ·exact k
theorem aRv(u v:V3 F):(uc u v||uc v u)=true:=by
 rw[vG,JK,JK];rcases Jh u v with h|h|h
 ·exact .inl (.inl h)
 ·exact .inl (.inr (L5.1 h))
 ·exact .inr (.inl (L7 h))
theorem aRw{u v:V3 F}(h:uc u v=true)(k:uc v u=true):u=v:=by
 rw[JK]at h k;rcases h with h|h
 ·rcases k with k|k
  ·exact absurd (Qr h k) id
  ·exact k.symm
 ·exact h
def sO(l:List (V3 F)):List (V3 F):=l.mergeSort uc
theorem M4(l:List (V3 F)):(sO l).Perm l:=List.mergeSort_perm l uc
theorem aFr(l:List (V3 F)):(sO l).Pairwise λu v=>uc u v=true:=List.pairwise_mergeSort aFq aRv l
theorem aRx{l d:List (V3 F)}(hp:d.Perm l)(hs:d.Pairwise λu v=>uc u v=true):d=sO l:=
 List.Perm.eq_of_pairwise (λ_ _ _ _=>aRw) hs (aFr l) (hp.trans (M4 l).symm)
theorem aFs{α:Type}[DecidableEq α]:∀(a:α) (l:List α),∃ m,dd (a::l)=a::m
 |a,[]=>⟨[],rfl⟩
 |a,b::l=>by
  rw[MY];by_cases h:a=b
  ·subst h;rw[aA rfl];exact aFs a l
  ·rw[au h];exact⟨_,rfl⟩
theorem aFt[DecidableEq (V3 F)]:∀{l:List (V3 F)},(l.Pairwise λu v=>uc u v=true)->(dd l).Pairwise kA
 |[],_=>aDk
 |[a],_=>V8 ..
 |a::b::l,h=>by
  have h':=(tP.1 h).2;have ih:=aFt h';rw[MY];by_cases cd:a=b
  ·rw[aA cd];exact ih
  ·rw[au cd];refine tP.2 ⟨λx hx=>?_,ih⟩;have ao:kA a b:=(JK.1 ((tP.1 h).1 b (aR ..))).resolve_right cd;obtain⟨m,hm⟩:=aFs b l;rw[hm]at hx ih;rcases cE.1 hx with rfl|hx
   ·exact ao
   ·exact L6 ao ((tP.1 ih).1 x hx)
theorem aFu[DecidableEq (V3 F)](l:List (V3 F)):dd (sO l)=L8 l:=
 Wm (aFt (aFr l)) (Wo l) λx=>by rw[aFg,Wn,(M4 l).mem_iff]
end
end
section
open V3 (dot ag aN smul)
open Go.Sort (SWO)
theorem aRy{q:HS K}(cq:∀ p∈ps,bP m p)(hp:bP m p)(hq:bP m q)(mQ:eL p q≠0->dot (eL p q) (eL p q)≠0):∀ v∈sG ps p q,aD (10000*(m+10)) v:=by
 intro v hv;unfold sG G6 at hv;have hD:=WE hp hq;by_cases h0:eL p q=0
 ·rw[aA h0]at hv;cases hv
 ·rw[au h0]at hv;obtain⟨r,hr⟩:∃ r,r=300*m+1000:=⟨_,rfl⟩;have hB:aD r (xm p q):=hr▸aDz hp hq h0 (mQ h0);have G7:aD r (eL p q):=hD.mono o_;obtain⟨zl,zh⟩:=QI (m:=m) (q:=r) (z:=24*(m+r)+m+200) hB G7 o_ ps ⟨none,none⟩ cq n_ n_;have key:∀ t,Sz (24*(m+r)+m+200) t->aD (10000*(m+10)) (xm p q+smul (eL p q) t):=λt ht=>(hB.add (G7.smul ht)).mono o_;unfold Mj at hv;split at hv
  ·rename_i x y he;split at he
   ·split at he
    ·rename_i l h e1 e2;injection he with he;injection he with f1 f2;subst f1;subst f2;simp only[cE,jR,jS]at hv;rcases hv with rfl|rfl
     ·exact key _ (zl _ e1)
     ·exact key _ (zh _ e2)
    ·cases he
   ·cases he
  ·cases hv
theorem aFv(cq:∀ p∈ps,bP m p)(mQ:∀ p q:HS K,eL p q≠0->dot (eL p q) (eL p q)≠0)(n:Nat):∀ v∈nW ps n,aD (10000*(m+10)) v:=by
 intro v hv;unfold nW at hv;rw[xk]at hv;obtain⟨i,_,hv⟩:=hv;unfold Mo at hv;split at hv
 ·rename_i p hp;unfold mC at hv;rw[xk]at hv;obtain⟨q,hq,hv⟩:=hv;exact aRy cq (cq p (cM hp)) (cq q (Jn hq)) (mQ p q) v hv
 ·cases hv
structure VS(m:Nat) where
 v:V3 K
 sz:aD m v
theorem VS.ext'{m:Nat}{a b:VS m}(h:a.v=b.v):a=b:=by cases a;cases b;cases h;rfl
def Rz(v:VS m):al:=(cB v.v).cs
theorem XQ:sC (Rz (m:=m)) 30:=⟨λ_=>gS.len _,λ_=>gS.flat _,λ_=>gS.one _⟩
theorem XR(h:1<=m):aD m (⟨kI 0,kI 0,kI 0⟩:V3 K):=L9.mono h
def M5(u v:VS m):Bool:=Go.Proofs.ltOf (λa b:VS m=>eK a.v b.v) u v
theorem XS{u v:VS m}:M5 u v=true↔kA u.v v.v:=by show decide (eK u.v v.v<0)=true↔eK u.v v.v=-1;rw[uV];rcases Jh u.v v.v with h|h|h<;>rw[h]<;>decide
theorem aFw{u v:VS m}:M5 u v=false↔uc v.v u.v=true:=by
 rw[aED,ne_eq,XS,JK];rcases Jh u.v v.v with h|h|h
 ·exact⟨λk=>absurd h k,λk _=>by
   rcases k with k|k
   ·exact Qr h k
   ·rw[k]at h;exact Ew _ h⟩
 ·have:=L5.1 h;exact⟨λ_=>.inr this.symm,λ_ k=>by rw[this]at k;exact Ew _ k⟩
 ·exact⟨λ_=>.inl (L7 h),λ_ k=>Qr k (L7 h)⟩
theorem aRz:SWO (M5 (m:=m)) where
 irrefl x:=by rw[aED,ne_eq,XS];exact Ew _
 trans x y z h k:=by rw[XS]at *;exact L6 h k
 ntrans x y z h k:=by rw[aFw]at *;exact aFq _ _ _ k h
theorem aRA(h:gW prog f=true):∀ args w,(callFunc f args).run prog w=.ok (.enter f args) w:=λargs w=>N3 h args w
def JL:Value:=.func (.func 153) #[] #[]
theorem aRB(c8:1<=m)(hm:8*m+24<=aF)(l:List (VS m))(h63:l.length<4611686018427387904):
  letI:Inhabited (VS m):=⟨⟨_,XR c8⟩⟩
  aDT prog 152 JL Rz 30 M5 l:=by
 letI:Inhabited (VS m):=⟨⟨_,XR c8⟩⟩
 intro aI cap w hH hblk
 have:=Go.Proofs.AnyQ.slices_SortFunc (P:=prog) (ρ:=aFp) aRu 30 isAgg33 sizeOf33 (Rz (m:=m)) XQ.len XQ.one (λa b=>eK a.v b.v) aRz 153 #[] aI 0 cap l.toArray w
  (aRA k_) (aOn (λx y=>Wq x.sz y.sz o_) aI _ _ w) hH hblk (by simpa using h63)
 have e:l.toArray.size=l.length:=by simp
 rw[e]at this;exact this
theorem aRC:aH prog 201 [.slice none 0 0,vI 0,vI 0,JL] (.tuple #[]):=bI func201 (λ_=>[])
theorem aRD:aH prog 185 [.slice none 0 0,vI 0,vI 0,vI 0,JL] (.tuple #[]):=bI func185 (λ_=>[aRC.at 30])
theorem aRE:aH prog 210 [.int .u64 0] (vI 0):=bI func210 (λ_=>[])
theorem aRF:aH prog 186 [.int .u64 0] (vI 0):=bI func186 (λ_=>[aRE.at 7])
theorem aRG:aH prog 152 [.slice none 0 0,JL] (.tuple #[]):=bI func152 (λ_=>[aRF.at 11,aRD.at 13])
theorem aRH{l:e_}(c8:1<=m)(hm:8*m+24<=aF)(hl:∀ v∈l,aD m v)(h63:l.length<4611686018427387904){x:m_}(ho:dC o.op=some x)(k:Nat):
  cI prog Bs o [.func (.func 152) #[] #[],sl k l.length,JL] [(k,some (.row (aP l) 33 30))] (.tuple #[]) [(k,.row (aP (sO l)) 33 30)]:=by
 letI:Inhabited (VS m):=⟨⟨_,XR c8⟩⟩
 have hex:∀ l:e_,(∀ v∈l,aD m v)->∃ l2:List (VS m),l2.map VS.v=l:=by
  intro l;induction l with
  |nil=>exact λ_=>⟨[],rfl⟩
  |cons a l ih=>
   intro h;obtain⟨l2,h2⟩:=ih λv hv=>h v (bK _ hv);exact⟨⟨a,h a (aR ..)⟩::l2,by rw[mL,h2]⟩
 obtain⟨l2,h2⟩:=hex l hl;obtain⟨l3,h3⟩:=hex (sO l) λv hv=>hl v ((M4 l).mem_iff.1 hv);have Wd:∀ a b:VS m,a.v=b.v->a=b:=λa b h=>VS.ext' h;have jW:∀ l2:List (VS m),dB Rz l2=aP (l2.map VS.v):=by intro l2;unfold aP cW dB;rw[Ub,List.flatMap_map];rfl
 have hlen:l2.length=l.length:=by rw[<-h2,eO]
 have:=aOp (P:=prog) (B:=Bs) (l:=l2) (l':=l3) (o:=o) (x:=x) (ty:=33) (lt:=M5) (g:=JL) XQ d_ (aRB c8 hm l2 o_) k_ ho k_ k (λ_=>aRG) λd hd hs=>by
  have aRI:∀ a b:List (VS m),a.map VS.v=b.map VS.v->a=b:=by intro a b h;exact List.map_inj_right (λx y=>Wd x y) |>.1 h
  refine aRI _ _ ?_;rw[h3];refine aRx ?_ ?_
  ·rw[<-h2];exact hd.map _
  ·rw[List.pairwise_map,RA];intro i j hi hj mX;have:=hs i j mX hj _ _ (bt hi) (bt hj);exact aFw.1 this
 rw[jW,jW,h2,h3,hlen]at this;exact this
theorem XT(hm:10000000*(m+10)<=aF):1<=10000*(m+10)/\8*(10000*(m+10))+24<=aF/\10000*(m+10)<=aF:=by omega
def bh(ps:c_):e_:=L8 (nW ps ps.length)
theorem aFx(l:e_):dd (l.map cB)=(dd l).map cB:=aFl (λ_ _ h=>Qt h) l
theorem aRJ(cq:∀ p∈ps,bP m p)(hm:10000000*(m+10)<=aF)(h63:ps.length<=500)(mQ:∀ p q:HS K,eL p q≠0->dot (eL p q) (eL p q)≠0):
  mz prog 117 [gm ps] 33 30 (bh ps).length (aP (bh ps)):=by
 have aC:([gm ps].all aQ.ok)=true:=by simp only[eA,e8,gm,aQ.ok,dp,iz]
 have bL:=aFv cq mQ ps.length;have hl:=QP ps.length (bF _) (ps:=ps);have jG:ps.length*(2*ps.length)<=500*1000:=yf o_ o_;have mD:(nW ps ps.length).length<=500000:=dq hl jG;clear hl jG;have lo:=λBs=>aOb (Bs:=Bs) cq hm h63 mQ;have hv:bh ps=dd (sO (nW ps ps.length)):=(aFu _).symm;rw[hv];generalize nW ps ps.length=l at *;obtain⟨b1,b2,b3⟩:=XT hm;have st:=λBs (o:Oper) x ho=>aRH (Bs:=Bs) (o:=o) (x:=x) (l:=l) (m:=10000*(m+10)) b1 b2 bL (fA mD d_) ho 1;have hp:=M4 l;have MO:(sO l).length=l.length:=hp.length_eq;have dV:=aRs (l:=(sO l).map cB) (λx hx=>by obtain⟨v,hv,rfl⟩:=df.1 hx;exact(bL v (hp.mem_iff.1 hv)).sm b3) (by rw[eO,MO];exact fA mD d_)
 rw[eO,MO,aFx,eO]at dV;have hz:∃ t,cW (JJ ((sO l).map cB))=aP (dd (sO l))++cW t:=⟨_,by unfold JJ;rw[aFx];exact Mg _ _⟩;obtain⟨t,hz⟩:=hz;unfold mE at dV;rw[hz]at dV;change yP prog _ 2 _ [(1,.row (aP (sO l)) 33 30)] _ _ _ at dV;have hlen:(aP (dd (sO l))).length=(dd (sO l)).length*30:=sH _;generalize dd (sO l)=d at *;generalize hS:sO l=s at *;intro w vs cy;obtain⟨ι,c,h1,h2,h3,h4,h5,h6,h7⟩:=yJ cy (bC.1 aC) 0 _ _ (uE w) n_ (λ_ _=>rfl);refine vH (ms:=[(1,.row (aP d++cW t) 33 30)]) (v:=sl 1 d.length) mixed func117 (N:=42) k_ 100 (rs:=[.code 0 _ _ _ _ _ (lo _),.step 39 (az f117 39) _ _ _ _ (st _ _ (.func 152) k_),.step 41 (az f117 41) _ _ _ _ (Me (args:=[sl 1 l.length]) (ca:=[]) (x:=.func 154) dV k_ k_ k_ k_ ?_ ?_ k_ k_ k_ k_)]) k_ h6 h2 h4 h3 λaB cr v' w' hle hc hm dW=>⟨v',rfl,?_,hm.base⟩
 ·show((Nat.blt 1 2&&mT 2 (1,.row (aP s) 33 30))&&true)=true;rw[yS (x:=.row (aP s) 33 30) λv hv=>bC.1 (dR s) v hv];rfl
 ·show(mT 2 (1,.row (aP d++cW t) 33 30)&&true)=true;rw[yS (x:=.row (aP d++cW t) 33 30) λv hv=>(fh.1 hv).elim (λh=>bC.1 (dR d) v h) λh=>Mh gS t v h];rfl
 ·have:=xX hm (dW (1,_) (aR ..)) hc (by rw[lH];omega) λv hv=>by
   rcases fh.1 hv with h|h
   ·exact bC.1 (dR d) v h
   ·exact Mh gS t v h
  rwa[<-hlen,S1]at this;rfl
end
section
open V3 (dot ag aN smul)
theorem M6(l:l_):∀ v∈aw l,v.oneCell'=true:=λv hv=>by obtain⟨x,_,rfl⟩:=df.1 hv;rfl
theorem aRK(l m:l_):aw l++aw m=aw (l++m):=by simp[aw]
theorem RB{l:l_}(h:l.length=0):aw l=[]:=by rw[lG h];rfl
def Ht(l:l_):aQ:=.r l.length (aw l)
theorem XU(l:l_):(Ht l).ok=true:=iU l
theorem aRL{l:l_}(hl:0<l.length)(h63:l.length<=1000000):mz prog 190 [Ht l] 3 1 l.length (aw l):=
 yK (k:=2) mixed func190 (by simp only[eA,e8,XU,iz]) 100 (N:=8) k_ (λ_=>[.step 4 (az f190 4) [sl 0 l.length,.slice none 0 0] [] a_ [] (aDO k_ hl),.Mw f190 5 1 3 1 (vI 0) k_,.qX f190 7 2 1 0 l.length l.length 3 1 8 [] 0 (.view (aw l)) (aw l) o_ rfl (by rw[gZ];exact oG l) rfl rfl (M6 l) d_ (by simp[maxLen];omega) o_ k_]) (λ_=>k_) (iU l) (by rw[oG];omega)
theorem E1(ps:c_):(bf ps).length=ps.length*40:=by unfold bf;rw[uW j6,eO]
theorem aFy(ps:c_):∀ v∈bf ps,v.oneCell'=true:=λv hv=>by unfold bf dx dB at hv;rw[xk]at hv;obtain⟨x,_,hx⟩:=hv;exact j6.one x v hx
theorem aRM(hl:0<ps.length)(h63:ps.length<=1000000):mz prog 119 [gm ps] 73 40 ps.length (bf ps):=
 yK (k:=2) mixed func119 (by simp only[eA,e8,gm,aQ.ok,dp,iz]) 100 (N:=8) k_ (λ_=>[.step 4 (az f119 4) [sl 0 ps.length,.slice none 0 0] [] a_ [] (aDO k_ hl),.Mw f119 5 1 73 40 (RP.v ⟨ub,ua⟩) k_,.qX f119 7 2 1 0 ps.length ps.length 73 40 480 [] 0 (.view (bf ps)) (bf ps) o_ rfl (E1 ps) rfl rfl (aFy ps) d_ (by simp[maxLen];omega) o_ k_]) (λ_=>k_) (dp ps) (E1 ps)
def oI(l:l_)(i:Nat):List Nat:=(List.range l.length).map λt=>if t<i\/l.length<=t+i then l.getD (l.length-1-t) 0 else l.getD t 0
theorem XV(l:l_)(i:Nat):(oI l i).length=l.length:=by simp[oI]
theorem aRN(l:l_):oI l 0=l:=by
 apply x8
 ·simp[oI]
 ·intro t h1 h2;have:¬(l.length<=t):=by omega
  simp[oI,this,h2]
theorem aFz{l:l_}{t:Nat}(h1:i<=t)(h2:t+i<l.length):(oI l i)[t]?=some (l.getD t 0):=by
 have:¬(t<i\/l.length<=t+i):=by omega
 simp[oI,show t<l.length by omega,this]
theorem aRO{l:l_}(h:i+(i+1)<l.length):((oI l i).set i (l.getD (l.length-1-i) 0)).set (l.length-1-i) (l.getD i 0)=oI l (i+1):=by
 apply x8
 ·simp[oI]
 ·intro t h1 h2;rw[XV]at h2;rw[Ib,Ib];simp only[oI,DD,DF];by_cases e1:l.length-1-i=t
  ·subst e1;rw[aA rfl,aA o_]
   congr 1;omega
  ·rw[au e1];by_cases e2:i=t
   ·subst e2;rw[aA rfl,aA o_]
   ·rw[au e2];by_cases e3:t<i\/l.length<=t+i
    ·rw[aA e3,aA o_]
    ·rw[au e3,au o_]
theorem aRP{l:l_}(h:l.length<=i+(i+1))(h2:i+i<=l.length):oI l i=l.reverse:=by
 apply x8
 ·simp[oI]
 ·intro t h1 h3;rw[XV]at h1;rw[List.getElem_reverse];simp only[oI,DD,DF];split
  ·rw[FC,bt o_];rfl
  ·have:t=l.length-1-t:=by omega
   rw[FC,bt o_];simp only[Option.getD_some]
   congr 1
section
variable{Bs:aa}{l:l_}
def RC(n i:Nat):aU:=[(2,vI i),(3,vI (n-1-i)),(0,sl 5 n)]
def zq(l:l_):aL:=[(5,.row (aw l) 3 1)]
theorem aRQ{n:Nat}(hn:l.length=n)(hi:i+(i+1)<n)(h63:n<4611686018427387904):
  ah prog Bs 28 (aK (ai f191 0)) (RC n i) (zq (oI l i)) 6 ⟨.normal,RC n (i+1),zq (oI l (i+1)),6⟩:=by
 have g1:=aFz (l:=l) (i:=i) (t:=n-1-i) o_ o_;have g2:=aFz (l:=l) (i:=i) (t:=i) o_ o_;have hlen:=XV l i;have uz:=aRO (l:=l) (i:=i) o_;rw[hn]at uz hlen;generalize l.getD (n-1-i) 0=y at *;generalize l.getD i 0=x at *;generalize oI l i=r at *;rw[<-uz];have s1:=xt (l:=r) (i:=i) (d:=y) o_;have s2:=xt (l:=r.set i y) (i:=n-1-i) (d:=x) (by rw[Xj];omega);exact aG [.lt 9 i (n-1-i) true (by simp;omega),.ix f191 20 5 n (n-1-i) o_ k_,.ld f191 21 3 5 (n-1-i) (.row (aw r) 3 1) (vI y) rfl (eB g1) k_,.ix f191 24 5 n i o_ k_,.ld f191 25 3 5 i (.row (aw r) 3 1) (vI x) rfl (eB g2) k_,.ix f191 26 5 n i o_ k_,.st f191 100026 3 5 i (.row (aw r) 3 1) (vI y) (.row (aw (r.set i y)) 3 1) rfl s1 rfl k_,.ix f191 27 5 n (n-1-i) o_ k_,.st f191 100027 3 5 (n-1-i) (.row (aw (r.set i y)) 3 1) (vI x) (.row (aw ((r.set i y).set (n-1-i) x)) 3 1) rfl s2 rfl k_,.sum 11 i 1 (i+1) rfl o_,.fN 13 (n-1-i) 1 (n-1-(i+1)) o_ o_]
theorem aRR{n:Nat}(hn:l.length=n)(h0:0<n)(h63:n<4611686018427387904):
  ah prog Bs 28 (.block 0 (ai f191 0)) (RC n 0) (zq l) 6 ⟨.normal,[],zq l.reverse,6⟩:=by
 have vW:l.reverse=oI l (n/2):=(aRP o_ o_).symm
 have:=cz (P:=prog) (B:=Bs) (N:=28) (b:=aK (ai f191 0)) (next:=6) (n/2) (λi=>RC n i) (λi=>zq (oI l i)) (r:=⟨.exit 0,[],zq l.reverse,6⟩) (λi k _=>kH (l:=zq (oI l i)) (m:=zq (oI l 0)) rfl k)
  (λi hi=>aRQ hn o_ h63)
  (by rw[<-vW];generalize l.reverse=r;exact aG [.lt 9 (n/2) (n-1-n/2) false (by simp;omega)]) n_
 rw[aRN]at this;exact cg (id:=0) this
theorem aRS{l:l_}(h0:0<l.length)(h63:l.length<=1000000):yP prog 191 6 [sl 5 l.length] (zq l) [] (.tuple #[]) (zq l.reverse):=
 o8 mixed func191 100 (N:=28) k_ (λB=>[.fN 6 l.length 1 (l.length-1) o_ o_,.code 0 _ _ _ _ _ (aRR rfl h0 o_)]) (λ_=>k_)
end
theorem XW(ps:c_):(gm ps).ok=true:=dp ps
theorem aFA(vs:e_):(wj vs).ok=true:=dR vs
theorem aRT(vs:e_):(aQ.b vs.length (aP vs)).ok=true:=dR vs
theorem aRU(v:V3 K):(aQ.q (cB v).cs).ok=true:=bC.2 (RV.oA _)
theorem aRV(v:V3 K):(aQ.p (bE v)).ok=true:=rfl
theorem aXh(p:HS K):(aQ.p (dK p)).ok=true:=rfl
def af(vs:e_)(i:Nat):V3 K:=(vs[i]?).getD 0
theorem j8{vs:e_}(h:i<vs.length):vs[i]?=some (af vs i):=by unfold af;rw[bt h];rfl
theorem aFB:0<x↔OF.aE x>0:=by rw[OF.gj];rcases OF.iJ x with h|h|h<;>rw[h]<;>decide
def zr(n:V3 K)(pt:Nat->V3 K)(p:Nat):List Nat->Nat
 |b::a::st=>if 0<turn n (pt a) (pt b) (pt p)then 0 else zr n pt p (a::st)+1
 |_=>0
theorem RD(n:V3 K)(pt:Nat->V3 K)(p:Nat):∀ st:List Nat,pop n pt p st=st.drop (zr n pt p st)
 |[]=>rfl
 |[a]=>rfl
 |b::a::st=>by
  unfold pop zr;split
  ·rfl
  ·exact RD n pt p (a::st)
theorem aFC(n:V3 K)(pt:Nat->V3 K)(p:Nat):∀(st:l_) (d:Nat),d<zr n pt p st->∃ b a fW,st.drop d=b::a::fW/\¬0<turn n (pt a) (pt b) (pt p)
 |[],d,h=>by simp[zr]at h
 |[a],d,h=>by simp[zr]at h
 |b::a::st,d,h=>by
  unfold zr at h;split at h
  ·omega
  ·rename_i ht;cases d with
   |zero=>exact⟨b,a,st,rfl,ht⟩
   |succ d=>exact aFC n pt p (a::st) d o_
theorem aFD(n:V3 K)(pt:Nat->V3 K)(p:Nat):∀(st:l_),(∃ b a fW,st.drop (zr n pt p st)=b::a::fW/\0<turn n (pt a) (pt b) (pt p))\/(st.drop (zr n pt p st)).length<=1
 |[]=>.inr (lY _)
 |[a]=>.inr (bF _)
 |b::a::st=>by
  unfold zr;split
  ·rename_i ht;exact .inl ⟨b,a,st,rfl,ht⟩
  ·exact aFD n pt p (a::st)
section
variable{Bs:aa}{vs:e_}{nn:V3 K}{l:l_}
def pS(l:l_)(vs:e_)(nn:V3 K):aL:=[(0,.view (aw l)),(1,.view (aP vs)),(2,.view [sl 1 vs.length]),(3,.view (cB nn).cs)]
def mV(st:l_):List Obj:=[.row (aw st.reverse) 3 1]
def E2(p L:Nat):aU:=[(7,vI p),(5,sl 4 L),(1,aV 2),(2,aV 3)]
def RE(n i L:Nat):aU:=[(12,vI i),(10,sl 0 n),(11,vI n),(5,sl 4 L),(1,aV 2),(2,aV 3)]
theorem aFE(hm:4<=m):∀ x∈pS l vs nn,fR m x.2:=λx hx=>by
 simp only[pS,cE,jR,jS]at hx;rcases hx with rfl|rfl|rfl|rfl
 ·exact λv hv=>gP (nD l v hv)
 ·exact λv hv=>gP (bC.1 (dR vs) v hv)
 ·intro v hv;have:v=sl 1 vs.length:=by simpa[Obj.cells]using hv
  subst this;show H6 m ⟨1,0,some 7⟩=true;unfold H6;simp;omega
 ·exact λv hv=>gP (RV.oA _ v hv)
theorem aRW{st:l_}:∀ x∈mV st,fR m x:=λx hx=>by simp only[mV,cE,jR,jS]at hx;subst hx;exact λv hv=>gP (nD _ v hv)
theorem aFF(hm:5<=m){st:l_}:∀ x∈pS l vs nn++marks 4 (mV st),fR m x.2:=λx hx=>by
 rcases fh.1 hx with h|h
 ·exact aFE o_ x h
 ·simp only[mV,marks,cE,jR,jS]at h;subst h;exact λv hv=>gP (nD _ v hv)
noncomputable def hiS{p:Nat}{r:l_}(hL:r.length=L+2)(ha:r[L]?=some a)(hb:r[L+1]?=some b)(lS:a<vs.length)(mg:b<vs.length)(sP:p<vs.length)(aW:∀ v∈vs,aD q v)(hn:aD m nn)(hm:100*(m+q)+1000<=aF)(h63:L<1000000)
  (ht:decide (OF.aE (turn nn (af vs a) (af vs b) (af vs p))>0)=t) (more:bN prog Bs 66):bN prog Bs 66:=
 have sa:=aW _ (cM (j8 lS));have sb:=aW _ (cM (j8 mg));have sp:=aW _ (cM (j8 sP))
 .gt 18 (L+2) 1 true s_::.fN 23 (L+2) 2 L rfl o_::.ix f189 24 4 (L+2) L o_ k_::.ld f189 25 3 4 L (.row (aw r) 3 1) (vI a) rfl (eB ha) k_::
  .di f189 26 1 vs.length a 30 lS k_::.ld f189 27 33 1 (a*30) (.view (aP vs)) (bE (af vs a)) rfl (lv (j8 lS)) k_::.fN 32 (L+2) 1 (L+1) rfl o_::.ix f189 33 4 (L+2) (L+1) o_ k_::
  .ld f189 34 3 4 (L+1) (.row (aw r) 3 1) (vI b) rfl (eB hb) k_::.di f189 35 1 vs.length b 30 mg k_::.ld f189 36 33 1 (b*30) (.view (aP vs)) (bE (af vs b)) rfl (lv (j8 mg)) k_::
  (CV sb sa o_).at 40::.di f189 43 1 vs.length p 30 sP k_::.ld f189 44 33 1 (p*30) (.view (aP vs)) (bE (af vs p)) rfl (lv (j8 sP)) k_::(CV sp sa o_).at 46::
  (wh (sb.sub sa) (sp.sub sa) o_).at 47::(qw hn ((sb.sub sa).ag (sp.sub sa)) o_).at 48::(oB (hn.dot ((sb.sub sa).ag (sp.sub sa))) o_).at 49::
  .rw 50 (.bool (decide (OF.aE (dot nn (ag (af vs b-af vs a) (af vs p-af vs a)))>0))) (.bool t) (by rw[<-ht];rfl)::more
theorem aFG{st fW:l_}(h:st=b::a::fW):st.reverse.length=fW.length+2/\st.reverse[fW.length]?=some a/\st.reverse[fW.length+1]?=some b/\st.reverse.take (fW.length+1)=(a::fW).reverse:=by
 subst h;have e:(b::a::fW).reverse=fW.reverse++[a,b]:=by simp
 rw[e];refine⟨by simp,?_,?_,?_⟩
 ·rw[FD s_];simp
 ·rw[FD s_];simp
 ·rw[aDp];simp[lh]
theorem aFH(l:l_)(m:Nat):(aw l).take (m*1)=aw (l.take m):=by rw[gZ];simp[aw,DC]
theorem aRX{st fW:l_}{p:Nat}(bW:st=b::a::fW)(bo:∀ x∈st,x<vs.length)(sP:p<vs.length)(aW:∀ v∈vs,aD q v)(hn:aD m nn)(hm:100*(m+q)+1000<=aF)(h63:st.length<1000000)
  (ht:¬0<turn nn (af vs a) (af vs b) (af vs p)):ah prog Bs 66 (aK (ai f189 2)) (E2 p st.length) (pS l vs nn++marks 4 (mV st)) 5 ⟨.normal,E2 p (a::fW).length,pS l vs nn++marks 4 (mV (a::fW)),5⟩:=by
 obtain⟨r1,r2,r3,r4⟩:=aFG bW;have lS:=bo a (by rw[bW];simp);have mg:=bo b (by rw[bW];simp);have hl:st.length=fW.length+2:=by rw[bW];rfl
 have hd:decide (OF.aE (turn nn (af vs a) (af vs b) (af vs p))>0)=false:=aY λh=>ht (aFB.2 h);have Hm:(aw st.reverse).take ((fW.length+1)*1)=aw (a::fW).reverse:=by rw[aFH,r4]
 have dG:=aFF (l:=l) (vs:=vs) (nn:=nn) (m:=5) (bF _) (st:=a::fW);unfold mV at *;rw[hl]at h63 ⊢;rw[show(a::fW).length=fW.length+1 from rfl];generalize st.reverse=r at *;generalize (a::fW).reverse=r' at *;exact rU mixed 100 (gG:=7) (hiS r1 r2 r3 lS mg sP aW hn hm o_ hd [.fN 54 (fW.length+2) 1 (fW.length+1) rfl o_,.cut f189 55 4 (fW.length+2) (fW.length+1) ((fW.length+1)*1) 1 1 3 (aw r) (aw r') o_ Hm k_]) k_ rfl k_ dG k_
theorem aRY{st:l_}{p:Nat}(bo:∀ x∈st,x<vs.length)(sP:p<vs.length)(aW:∀ v∈vs,aD q v)(hn:aD m nn)(hm:100*(m+q)+1000<=aF)(h63:st.length<1000000)
  (h:(∃ b a fW,st=b::a::fW/\0<turn nn (af vs a) (af vs b) (af vs p))\/st.length<=1):ah prog Bs 66 (aK (ai f189 2)) (E2 p st.length) (pS l vs nn++marks 4 (mV st)) 5 ⟨.exit 2,E2 p st.length,pS l vs nn++marks 4 (mV st),5⟩:=by
 have dG:=aFF (l:=l) (vs:=vs) (nn:=nn) (m:=5) (bF _) (st:=st);rcases h with ⟨b,a,fW,bW,ht⟩|h
 ·obtain⟨r1,r2,r3,r4⟩:=aFG bW;have lS:=bo a (by rw[bW];simp);have mg:=bo b (by rw[bW];simp);have hl:st.length=fW.length+2:=by rw[bW];rfl
  have hd:decide (OF.aE (turn nn (af vs a) (af vs b) (af vs p))>0)=true:=aJ (aFB.1 ht);unfold mV at *;rw[hl]at h63 ⊢;generalize st.reverse=r at *;exact rU mixed 100 (gG:=7) (hiS r1 r2 r3 lS mg sP aW hn hm o_ hd []) k_ rfl k_ dG k_
 ·exact aG [.gt 18 st.length 1 false (by simp;omega)]
theorem aFI{st:l_}{n:Nat}(h:∀ x∈st,x<n):∀ x∈st.drop d,x<n:=λx hx=>h x (XX hx)
theorem aRZ{st:l_}{p:Nat}(bo:∀ x∈st,x<vs.length)(sP:p<vs.length)(aW:∀ v∈vs,aD q v)(hn:aD m nn)(hm:100*(m+q)+1000<=aF)(h63:st.length<1000000):
  ah prog Bs 66 (.block 2 (ai f189 2)) (E2 p st.length) (pS l vs nn++marks 4 (mV st)) 5 ⟨.normal,E2 p (pop nn (af vs) p st).length,pS l vs nn++marks 4 (mV (pop nn (af vs) p st)),5⟩:=by
 have hlen:∀ d,(st.drop d).length<1000000:=λd=>by rw[wI];omega
 have:=cz (P:=prog) (B:=Bs) (N:=66) (b:=aK (ai f189 2)) (next:=5) (zr nn (af vs) p st) (λd=>E2 p (st.drop d).length) (λd=>pS l vs nn++marks 4 (mV (st.drop d)))
  (r:=⟨.exit 2,E2 p (pop nn (af vs) p st).length,pS l vs nn++marks 4 (mV (pop nn (af vs) p st)),5⟩) (λi k _=>kH (l:=pS l vs nn++marks 4 (mV (st.drop i))) (m:=pS l vs nn++marks 4 (mV (st.drop 0))) rfl k)
  (λd hd=>by
   obtain⟨b,a,fW,h1,h2⟩:=aFC nn (af vs) p st d hd;have h3:st.drop (d+1)=a::fW:=by rw[<-OO,h1];rfl
   rw[h3];exact aRX h1 (aFI bo) sP aW hn hm (hlen d) h2)
  (by rw[RD];exact aRY (aFI bo) sP aW hn hm (hlen _) (aFD nn (af vs) p st)) n_
 exact cg (id:=2) this
def bW(nn:V3 K)(vs:e_)(l:l_)(i:Nat):List Nat:=half nn (af vs) (l.take i)
theorem aFJ{p:Nat}(h:l[i]?=some p):bW nn vs l (i+1)=p::pop nn (af vs) p (bW nn vs l i):=by unfold bW half;rw[uZ,h,Option.toList,WH];rfl
theorem aR0(n:V3 K)(pt:Nat->V3 K)(p:Nat)(st:l_):∀ x∈pop n pt p st,x∈st:=λx hx=>by rw[RD]at hx;exact XX hx
theorem aFK(n:V3 K)(pt:Nat->V3 K)(p:Nat)(st:l_):(pop n pt p st).length<=st.length:=by rw[RD,wI];omega
theorem M7:∀ i,i<=l.length->(∀ x∈bW nn vs l i,x∈l)/\(bW nn vs l i).length<=i
 |0,_=>⟨λx hx=>by simp[bW,half]at hx,bF _⟩
 |i+1,h=>by
  obtain⟨h1,h2⟩:=M7 i o_;have hp:l[i]?=some l[i]:=bt o_;rw[aFJ hp];refine⟨λx hx=>?_,?_⟩
  ·rcases cE.1 hx with rfl|hx
   ·exact dy o_
   ·exact h1 x (aR0 _ _ _ _ x hx)
  ·have:=aFK nn (af vs) l[i] (bW nn vs l i);rw[qd];omega
theorem aR1{p:Nat}{st:l_}(hi:i<l.length)(hp:l[i]?=some p)(bo:∀ x∈st,x<vs.length)(sP:p<vs.length)(aW:∀ v∈vs,aD q v)(hn:aD m nn)(hm:100*(m+q)+1000<=aF)(h63:st.length<900000)(rJ:l.length<1000000):
  ah prog Bs 66 (aK (ai f189 0)) (RE l.length i st.length) (pS l vs nn++marks 4 (mV st)) 5
   ⟨.normal,ij 4 [some 6] (RE l.length (i+1) (p::pop nn (af vs) p st).length),pS l vs nn++eg [some 6] (mV (p::pop nn (af vs) p st)),7⟩:=by
 have lo:=aRZ (Bs:=Bs) (l:=l) bo sP aW hn hm (show st.length<1000000 by omega);have MO:=aFK nn (af vs) p st;generalize pop nn (af vs) p st=r at *;have hr:aw r.reverse++[vI p]=aw (p::r).reverse:=by simp[aw]
 have E3:(aw r.reverse).length=r.length*1:=by rw[oG,Hu,gZ]
 have h1:=M6 r.reverse;unfold mV at *;rw[show(p::r).length=r.length+1 from rfl];generalize st.reverse=s0 at *;generalize aw r.reverse=c0 at *;generalize aw (p::r).reverse=c1 at *;exact aG [.lt 13 i l.length true (aJ hi),.ix f189 14 0 l.length i hi k_,.ld f189 15 3 0 i (.view (aw l)) (vI p) rfl (eB hp) k_,.code 2 _ _ _ _ _ lo,.bs f189 58 5 1 3 1 [0] (vI 0) [vI p] #[vI p] (.row [vI p] 3 1) rfl (λv hv=>by simp at hv;subst hv;rfl) (λv hv=>by simp at hv;subst hv;rfl) k_ rfl d_ d_ k_,.qX f189 59 6 4 r.length 1 (r.length+1) 3 1 8 c0 5 (.row [vI p] 3 1) c1 rfl rfl rfl E3 hr (λv hv=>by simp[Obj.cells]at hv;subst hv;rfl) d_ (by simp[maxLen];omega) o_ k_,.sum 60 i 1 (i+1) rfl o_]
theorem aR2(bo:∀ x∈l,x<vs.length)(aW:∀ v∈vs,aD q v)(hn:aD m nn)(hm:100*(m+q)+1000<=aF)(h63:l.length<900000):
  ah prog Bs 66 (.block 0 (ai f189 0)) (ij 4 [none] (RE l.length 0 0)) (pS l vs nn++eg [none] (mV [])) 4 ⟨.normal,[(5,sl 4 (half nn (af vs) l).length)],pS l vs nn++marks 4 (mV (half nn (af vs) l)),5⟩:=by
 have EP:bW nn vs l l.length=half nn (af vs) l:=by unfold bW;rw[oD]
 have:=rX (P:=prog) (B:=Bs) (N:=66) (b:=aK (ai f189 0)) (next:=4) (p:=1) (r:=⟨.exit 0,[(5,sl 4 (half nn (af vs) l).length)],pS l vs nn++marks 4 (mV (half nn (af vs) l)),5⟩) l.length
  (λi=>RE l.length i (bW nn vs l i).length) (λ_=>pS l vs nn) (λi=>mV (bW nn vs l i)) [none] (λ_ _=>rfl) (λj _=>⟨aFE (bF _),aRW⟩) k_ k_
  (λi hi=>by have hp:l[i]?=some l[i]:=bt hi;obtain⟨f1,f2⟩:=M7 (nn:=nn) (vs:=vs) (l:=l) i o_;refine⟨[some 6],7,k_,?_⟩;rw[aFJ hp];exact aR1 hi hp (λx hx=>bo x (f1 x hx)) (bo _ (dy hi)) aW hn hm o_ o_)
  (by rw[EP];generalize half nn (af vs) l=a;exact aG [.lt 13 l.length l.length false s_]) n_
 exact cg (id:=0) this
theorem aR3(nn:V3 K)(pt:Nat->V3 K){l:l_}(h:l≠[]):half nn pt l≠[]:=by
 have:∀(l st:l_),st≠[]->l.foldl (λst p=>p::pop nn pt p st) st≠[]:=by
  intro l;induction l with
  |nil=>exact λ_ h=>h
  |cons a l ih=>exact λst _=>ih _ n_
 cases l with
 |nil=>exact absurd rfl h
 |cons a l=>exact this l _ n_
def k7(nn:V3 K)(vs:e_)(l:l_):List Nat:=(half nn (af vs) l).tail.reverse
theorem aFL(uu:0<l.length)(bo:∀ x∈l,x<vs.length)(aW:∀ v∈vs,aD q v)(hn:aD m nn)(hm:100*(m+q)+1000<=aF)(h63:l.length<900000):
  mz prog 189 [Ht l,.b vs.length (aP vs),.q (cB nn).cs] 3 1 (k7 nn vs l).length (aw (k7 nn vs l)):=by
 have aC:([Ht l,.b vs.length (aP vs),.q (cB nn).cs].all aQ.ok)=true:=by simp only[eA,e8,XU,aRT,aRU,A3]
 have lo:=λBs=>aR2 (Bs:=Bs) bo aW hn hm h63;have bB:=aR3 nn (af vs) (l:=l) (λe=>by rw[e]at uu;cases uu);have hlen:(half nn (af vs) l).length<=l.length:=by have:=(M7 (nn:=nn) (vs:=vs) (l:=l) l.length (bF _)).2;unfold bW at this;rwa[oD]at this
 unfold k7;cases hh:half nn (af vs) l with
 |nil=>exact absurd hh bB
 |cons a st=>
  rw[hh]at lo hlen;simp only[List.tail_cons,Hu];have Hm:(aw (a::st).reverse).take (st.length*1)=aw st.reverse:=by rw[aFH,xg,S1 s_]
  unfold mV at lo;rw[show(a::st).length=st.length+1 from rfl]at lo hlen;have hx:=iU st.reverse;have XY:(aw st.reverse).length=st.length*1:=by rw[oG,Hu,gZ]
  generalize aw (a::st).reverse=c0 at *;generalize aw st.reverse=c1 at *;exact yK (k:=4) mixed func189 aC 100 (N:=66) k_ (λ_=>[.code 0 _ _ _ _ _ (lo _),.fN 64 (st.length+1) 1 st.length rfl o_,.cut f189 65 4 (st.length+1) st.length (st.length*1) 1 1 3 c0 c1 o_ Hm k_]) (λ_=>k_) hx XY
end
theorem aFM(nn:V3 K)(vs:e_)(l:l_):order nn (af vs) l=k7 nn vs l++k7 nn vs l.reverse:=rfl
theorem XZ{vs:e_}{nn:V3 K}{l:l_}(uu:0<l.length)(bo:∀ x∈l,x<vs.length)(aW:∀ v∈vs,aD q v)(hn:aD m nn)(hm:100*(m+q)+1000<=aF)(h63:l.length<900000):
  mz prog 159 [wj vs,Ht l,.p (bE nn)] 3 1 (order nn (af vs) l).length (aw (order nn (af vs) l)):=by
 have aC:([wj vs,Ht l,.p (bE nn)].all aQ.ok)=true:=by simp only[eA,e8,XU,aFA,aRV,A3]
 have h1:=aFL uu bo aW hn hm h63;have h2:=aFL (l:=l.reverse) (by simpa using uu) (λx hx=>bo x (LX.1 hx)) aW hn hm (by simpa using h63);have hc:=aRL uu o_;have hr:=aRS uu o_;rw[aFM];have e1:aw (k7 nn vs l)++aw (k7 nn vs l.reverse)=aw (k7 nn vs l++k7 nn vs l.reverse):=aRK _ _;have bL:∀ l:List Nat,(∀ x∈l,x∈l)->(k7 nn vs l).length<=l.length:=λl _=>by have:=(M7 (nn:=nn) (vs:=vs) (l:=l) l.length (bF _)).2;unfold bW at this;rw[oD]at this;unfold k7;rw[Hu,List.length_tail];omega
 have s1:=bL l λ_ h=>h;have s2:=bL l.reverse λ_ h=>h;have g1:=oG (k7 nn vs l);have g2:=oG (k7 nn vs l.reverse);have o2:=M6 (k7 nn vs l.reverse);have f3:=iU (k7 nn vs l++k7 nn vs l.reverse);have g3:=oG (k7 nn vs l++k7 nn vs l.reverse);have f1:=iU (k7 nn vs l);have f2:=iU (k7 nn vs l.reverse);rw[lH]at g3 ⊢;rw[Hu]at s2;have hb:∀{l:l_},l.length=0->(Obj.view (aw l)).cells=[]:=λh=>RB h;unfold zq at hr;have aFN:l.reverse.length=l.length:=Hu ..;unfold Ht at h2;rw[aFN]at h2;have ir:l.length=0->aw l.reverse=[]:=λh=>RB (by rw[aFN];exact h);have irf:=iU l.reverse;generalize (k7 nn vs l).length=a1 at *;generalize (k7 nn vs l.reverse).length=a2 at *;generalize aw (k7 nn vs l++k7 nn vs l.reverse)=i3 at *;generalize aw (k7 nn vs l)=i1 at *;generalize aw (k7 nn vs l.reverse)=i2 at *;generalize aw l.reverse=lr at *;exact yK (k:=7) mixed func159 aC 100 (N:=23) k_ (λ_=>[
  .step 13 (az f159 13) [.func (.func 189) #[] #[aV 2,aV 3],sl 1 l.length] [(4,none),(1,some (.view (aw l))),(2,some (.aI [sl 0 vs.length] 23)),(0,some (.view (aP vs))),(3,some (.aI (cB nn).cs 33))] (sl 4 a1) [(4,.row i1 3 1)]
   (aD6 (vs:=[sl 1 l.length]) (ca:=[aV 2,aV 3]) h1 (.w (x:=.view (aw l)) rfl (iU l) hb (.b (x:=.view (aP vs)) (y:=.aI [sl 0 vs.length] 23) (cc:=0) rfl rfl rfl (dR vs) wk (.q (x:=.aI (cB nn).cs 33) rfl (bC.2 (RV.oA _)) .nil))) (x:=.tmp 11) k_ k_ f1 4),
  .step 15 (az f159 15) [.func (.func 190) #[] #[],sl 1 l.length] [(5,none),(1,some (.view (aw l)))] (sl 5 l.length) [(5,.row (aw l) 3 1)]
   (sn hc (.w (x:=.view (aw l)) rfl (iU l) hb .nil) (x:=.func 190) k_ k_ (iU l) 5),
  .step 17 (az f159 17) [.func (.func 191) #[] #[],sl 5 l.length] [(5,some (.row (aw l) 3 1))] (.tuple #[]) [(5,.row lr 3 1)]
   (Me (args:=[sl 5 l.length]) (ca:=[]) (x:=.func 191) hr k_ k_ k_ k_ (by
    show((Nat.blt 5 6&&mT 6 (5,.row (aw l) 3 1))&&true)=true;rw[yS (x:=.row (aw l) 3 1) λv hv=>nD l v hv];rfl) (by
    show(mT 6 (5,.row lr 3 1)&&true)=true;rw[yS (x:=.row lr 3 1) λv hv=>bC.1 irf v hv];rfl) k_ k_ k_ k_),.step 21 (az f159 21) [.func (.func 189) #[] #[aV 2,aV 3],sl 5 l.length] [(6,none),(5,some (.row lr 3 1)),(2,some (.aI [sl 0 vs.length] 23)),(0,some (.view (aP vs))),(3,some (.aI (cB nn).cs 33))] (sl 6 a2) [(6,.row i2 3 1)]
   (aD6 (vs:=[sl 5 l.length]) (ca:=[aV 2,aV 3]) h2 (.w (x:=.row lr 3 1) rfl irf ir (.b (x:=.view (aP vs)) (y:=.aI [sl 0 vs.length] 23) (cc:=0) rfl rfl rfl (dR vs) wk (.q (x:=.aI (cB nn).cs 33) rfl (bC.2 (RV.oA _)) .nil))) (x:=.tmp 19) k_ k_ f2 6),
  .qX f159 22 7 4 a1 a2 (a1+a2) 3 1 8 i1 6 (.row i2 3 1) i3 rfl rfl (by rw[gZ];exact g2) (by rw[gZ];exact g1) e1 o2 d_ (by simp[maxLen];omega) o_ k_]) (λ_=>k_) f3 (by rw[gZ];exact g3)
def bZ(p:HS K)(vs:e_)(j:Nat):List Nat:=(List.range j).filter λk=>decide (dot p.n (af vs k)-p.d=0)
theorem aFO(p:HS K)(vs:e_)(j:Nat):bZ p vs (j+1)=bZ p vs j++(if dot p.n (af vs j)-p.d=0 then[j]else[]):=by
 unfold bZ;rw[Lt,List.filter_append]
 congr 1
 by_cases h:dot p.n (af vs j)-p.d=0<;>simp[h]
theorem X0{vs:e_}{x:Nat}(h:x∈bZ p vs j):x<j:=by unfold bZ at h;rw[aFP,kh]at h;exact h.1
theorem JM(p:HS K)(vs:e_)(j:Nat):(bZ p vs j).length<=j:=by have:=List.length_filter_le (λk=>decide (dot p.n (af vs k)-p.d=0)) (List.range j);rw[Ag]at this;exact this
def qB(ps:c_)(vs:e_)(i:Nat)(p:HS K):List (Nat×List Nat):=
 if(ps.take i).any (λq=>decide (canon p=canon q))then[]
 else if(bZ p vs vs.length).length<3 then[]
 else if(order p.n (af vs) (bZ p vs vs.length)).length>2 then[(i,order p.n (af vs) (bZ p vs vs.length))]else[]
def gn(ps:c_)(vs:e_)(i:Nat):List (Nat×List Nat):=match ps[i]? with|some p=>qB ps vs i p|none=>[]
def da(ps:c_)(vs:e_)(n:Nat):List (Nat×List Nat):=(List.range n).flatMap (gn ps vs)
theorem M8(ps:c_)(vs:e_)(n:Nat):da ps vs (n+1)=da ps vs n++gn ps vs n:=by unfold da;rw[Lt,Wt];simp
theorem aR4(ps:c_)(vs:e_)(i:Nat)(p:HS K):(qB ps vs i p).length<=1:=by
 unfold qB;split
 ·exact lY _
 ·split
  ·exact lY _
  ·split
   ·exact bF _
   ·exact lY _
theorem JN(ps:c_)(vs:e_):∀ n,(da ps vs n).length<=n
 |0=>bF _
 |n+1=>by
  rw[M8,lH];have h1:=JN ps vs n;have h2:(gn ps vs n).length<=1:=by
   unfold gn;split
   ·exact aR4 _ _ _ _
   ·exact lY _
  omega
def dS(f:Nat×List Nat):Int×List Int:=((f.1:Int),f.2.map λx:Nat=>(x:Int))
section
variable{Bs:aa}{ps:c_}{vs:e_}
def M9(nv j L:Nat):aU:=[(26,vI j),(24,sl 1 nv),(25,vI nv),(7,aV 3),(8,sl 4 L)]
def Bl(vs:e_)(p:HS K):aL:=[(1,.view (aP vs)),(3,.aI (db p).cs 73)]
def kQ(l:l_):List Obj:=[.row (aw l) 3 1]
theorem aR5:∀ x∈Bl vs p,fR m x.2:=λx hx=>by
 simp only[Bl,cE,jR,jS]at hx;rcases hx with rfl|rfl
 ·exact λv hv=>gP (bC.1 (dR vs) v hv)
 ·exact λv hv=>gP (j6.flat _ v hv)
theorem X1{l:l_}:∀ x∈kQ l,fR m x:=λx hx=>by simp only[kQ,cE,jR,jS]at hx;subst hx;exact λv hv=>gP (nD _ v hv)
theorem aR6{l:l_}(hj:j<vs.length)(hp:bP m p)(j4:p.n≠0)(aW:∀ v∈vs,aD q v)(hm:100*(m+q)+1000<=aF)(h63:l.length<900000)(rJ:vs.length<1000000):
  ∃ σ gG,(∀ l0:List Nat,D2 (Bl vs p++eg [none] (kQ l0)) 4 σ (M9 vs.length (j+1) (l++if dot p.n (af vs j)-p.d=0 then[j]else[]).length) (Bl vs p) (kQ (l++if dot p.n (af vs j)-p.d=0 then[j]else[]))=true)/\
   ah prog Bs 59 (aK (ai f120 2)) (M9 vs.length j l.length) (Bl vs p++marks 4 (kQ l)) 5 ⟨.normal,ij 4 σ (M9 vs.length (j+1) (l++if dot p.n (af vs j)-p.d=0 then[j]else[]).length),Bl vs p++eg σ (kQ (l++if dot p.n (af vs j)-p.d=0 then[j]else[])),gG⟩:=by
 have hv:=j8 hj;have hs:=Ji hp (aW _ (cM hv)) o_ j4;by_cases h:dot p.n (af vs j)-p.d=0
 ·rw[aA h];have e:(Value.bool (OF.aE (dot p.n (af vs j)-p.d)==0))=.bool true:=by rw[OF.Pp.1 h];rfl
  have hr:aw l++[vI j]=aw (l++[j]):=by simp[aw]
  have E3:(aw l).length=l.length*1:=by rw[oG,gZ]
  have h1:=M6 l;rw[show(l++[j]).length=l.length+1 by simp];unfold kQ;refine⟨[some 7],8,λl0=>k_,?_⟩;generalize OF.aE (dot p.n (af vs j)-p.d)=z at *;generalize af vs j=v at *;generalize aw l=c0 at *;generalize aw (l++[j])=c1 at *;exact aG [.lt 27 j vs.length true (aJ hj),.di f120 29 1 vs.length j 30 hj k_,.ld f120 30 33 1 (j*30) (.view (aP vs)) (bE v) rfl (lv hv) k_,hs.at 33,.rw 34 (.bool (z==0)) b_ e,.bs f120 37 6 1 3 1 [0] (vI 0) [vI j] #[vI j] (.row [vI j] 3 1) rfl (λv hv=>by simp at hv;subst hv;rfl) (λv hv=>by simp at hv;subst hv;rfl) k_ rfl d_ d_ k_,.qX f120 38 7 4 l.length 1 (l.length+1) 3 1 8 c0 6 (.row [vI j] 3 1) c1 rfl rfl rfl E3 hr (λv hv=>by simp[Obj.cells]at hv;subst hv;rfl) d_ (by simp[maxLen];omega) o_ k_,.sum 39 j 1 (j+1) rfl o_]
 ·rw[au h,jZ];have e:(Value.bool (OF.aE (dot p.n (af vs j)-p.d)==0))=.bool false:=by
   congr 1
   have:OF.aE (dot p.n (af vs j)-p.d)≠0:=λe=>h (OF.Pp.2 e);simpa using this
  refine⟨[some 4],6,λl0=>k_,?_⟩;generalize OF.aE (dot p.n (af vs j)-p.d)=z at *;generalize af vs j=v at *;exact aG [.lt 27 j vs.length true (aJ hj),.di f120 29 1 vs.length j 30 hj k_,.ld f120 30 33 1 (j*30) (.view (aP vs)) (bE v) rfl (lv hv) k_,hs.at 33,.rw 34 (.bool (z==0)) a_ e,.sum 39 j 1 (j+1) rfl o_]
theorem X2(hp:bP m p)(j4:p.n≠0)(aW:∀ v∈vs,aD q v)(hm:100*(m+q)+1000<=aF)(h63:vs.length<900000):
  ah prog Bs 59 (.block 2 (ai f120 2)) (ij 4 [none] (M9 vs.length 0 0)) (Bl vs p++eg [none] (kQ [])) 4 ⟨.normal,[(8,sl 4 (bZ p vs vs.length).length),(7,aV 3)],Bl vs p++marks 4 (kQ (bZ p vs vs.length)),5⟩:=by
 have:=rX (P:=prog) (B:=Bs) (N:=59) (b:=aK (ai f120 2)) (next:=4) (p:=1) (r:=⟨.exit 2,[(8,sl 4 (bZ p vs vs.length).length),(7,aV 3)],Bl vs p++marks 4 (kQ (bZ p vs vs.length)),5⟩) vs.length
  (λj=>M9 vs.length j (bZ p vs j).length) (λ_=>Bl vs p) (λj=>kQ (bZ p vs j)) [none] (λ_ _=>rfl) (λj _=>⟨aR5,X1⟩) k_ k_
  (λj hj=>by have hl:=JM p vs j;obtain⟨σ,gG,h1,h2⟩:=aR6 (Bs:=Bs) (l:=bZ p vs j) hj hp j4 aW hm o_ o_;rw[aFO];exact⟨σ,gG,h1 _,h2⟩)
  (by generalize bZ p vs vs.length=a;exact aG [.lt 27 vs.length vs.length false s_]) n_
 exact cg (id:=2) this
def fI(n nv i c:Nat):aU:=[(14,vI i),(12,sl 0 n),(13,vI n),(0,sl 0 n),(1,sl 1 nv),(5,sl 2 c)]
def fM(ps:c_)(vs:e_)(cells:al):aL:=[(0,.view (bf ps)),(1,.view (aP vs)),(2,.row cells 86 2)]
def lC(ps:c_)(i:Nat)(p:HS K):Bool:=(ps.take i).any λq=>decide (canon p=canon q)
noncomputable def fS(hi:i<ps.length)(jB:ps[i]?=some p)(cq:∀ p∈ps,bP m p/\p.n≠0)(hm:100*m+1000<=aF)(h63:ps.length<=500)(ht:lC ps i p=t)(more:bN prog Bs 59):bN prog Bs 59:=
 .lt 15 i ps.length true (aJ hi)::.di f120 17 0 ps.length i 40 hi k_::.ld f120 18 73 0 (i*40) (.view (bf ps)) (dK p) rfl (yR jB) k_::.upto f120 21 0 ps.length i 40 o_ k_::
  .step 23 (az f120 23) [.func (.func 113) #[] #[],sl 0 i,.func (.func 157) #[] #[aV 3]] [(0,some (.view (bf ps))),(3,some (.aI (db p).cs 73))] (.bool t) [] (by
   have hp:=cq p (cM jB);have hc:=Wz (g:=157) (caps:=(db p).cs) (ps:=ps.take i) (b:=λq=>decide (canon p=canon q)) k_ (bC.2 (j6.flat _)) (by rw[jV];omega) λq hq=>
    aNz hp.1 (cq q (Jn hq)).1 o_ o_ hp.2 (cq q (Jn hq)).2
   rw[show(ps.take i).any (λq=>decide (canon p=canon q))=t from ht]at hc;have hl:(ps.take i).length=i:=by rw[jV];omega
   have e:bf (ps.take i)=((Obj.view (bf ps)).cells.drop 0).take (i*40):=by show _=((bf ps).drop 0).take (i*40);rw[nk];unfold bf;rw[Wv j6,<-DC]
   unfold gm at hc;rw[hl,e]at hc;exact dJ hc (.r (x:=.view (bf ps)) rfl (dp ps) (λh=>by rw[h]) (.f (x:=.aI (db p).cs 73) rfl (bC.2 (j6.flat _)) .nil)) (x:=.func 113) k_ k_ rfl)::more
theorem aR7{c:Nat}{cells:al}(hi:i<ps.length)(jB:ps[i]?=some p)(cq:∀ p∈ps,bP m p/\p.n≠0)(hm:100*m+1000<=aF)(h63:ps.length<=500)(ht:lC ps i p=true):
  ah prog Bs 59 (aK (ai f120 0)) (fI ps.length vs.length i c) (fM ps vs cells) 3 ⟨.normal,fI ps.length vs.length (i+1) c,fM ps vs cells,4⟩:=
 aG (fS hi jB cq hm h63 ht [.sum 57 i 1 (i+1) rfl o_])
theorem aR8{c:Nat}{cells:al}(hi:i<ps.length)(jB:ps[i]?=some p)(cq:∀ p∈ps,bP m p/\p.n≠0)(aW:∀ v∈vs,aD q v)(hm:100*(m+q)+1000<=aF)(h63:ps.length<=500)(jh:vs.length<900000)(ht:lC ps i p=false)(ho:(bZ p vs vs.length).length<3):
  ah prog Bs 59 (aK (ai f120 0)) (fI ps.length vs.length i c) (fM ps vs cells) 3 ⟨.normal,fI ps.length vs.length (i+1) c,fM ps vs cells,5⟩:=by
 have hp:=cq p (cM jB);have lo:=X2 (Bs:=Bs) hp.1 hp.2 aW hm jh;generalize bZ p vs vs.length=on at *;exact aG (fS hi jB cq o_ h63 ht [.code 2 _ _ _ _ _ lo,.lt 42 on.length 3 true (aJ ho),.sum 57 i 1 (i+1) rfl o_])
noncomputable def fL{on l:l_}(hl:order p.n (af vs) on=l)(hp:bP m p)(aW:∀ v∈vs,aD q v)(hm:100*(m+q)+1000<=aF)(iB:∀ x∈on,x<vs.length)(h3:0<on.length)(h63:on.length<900000):aZ prog Bs 59:=
 .step 47 (az f120 47) [.func (.func 159) #[] #[],sl 1 vs.length,sl 4 on.length,bE p.n] [(5,none),(1,some (.view (aP vs))),(4,some (.row (aw on) 3 1))] (sl 5 l.length) [(5,.row (aw l) 3 1)]
  (sn (hl▸XZ h3 iB aW hp.1 hm h63) (.w (x:=.view (aP vs)) rfl (dR vs) wk (.w (x:=.row (aw on) 3 1) rfl (iU on) (λh=>RB h) (.p k_ .nil))) (x:=.func 159) k_ k_ (iU l) 5)
theorem aR9{c:Nat}{cells:al}(hi:i<ps.length)(jB:ps[i]?=some p)(cq:∀ p∈ps,bP m p/\p.n≠0)(aW:∀ v∈vs,aD q v)(hm:100*(m+q)+1000<=aF)(h63:ps.length<=500)(jh:vs.length<900000)(ht:lC ps i p=false)(ho:¬(bZ p vs vs.length).length<3)
  (hl:¬(order p.n (af vs) (bZ p vs vs.length)).length>2):ah prog Bs 59 (aK (ai f120 0)) (fI ps.length vs.length i c) (fM ps vs cells) 3 ⟨.normal,fI ps.length vs.length (i+1) c,fM ps vs cells,6⟩:=by
 have hp:=cq p (cM jB);have lo:=X2 (Bs:=Bs) hp.1 hp.2 aW hm jh;have iB:∀ x∈bZ p vs vs.length,x<vs.length:=λx hx=>X0 hx;have hol:=JM p vs vs.length;obtain⟨l,cD⟩:∃ l,order p.n (af vs) (bZ p vs vs.length)=l:=⟨_,rfl⟩;rw[cD]at hl;generalize bZ p vs vs.length=on at *;exact aG (fS hi jB cq o_ h63 ht [.code 2 _ _ _ _ _ lo,.lt 42 on.length 3 false (aY ho),fL cD hp.1 aW hm iB o_ o_,.gt 50 l.length 2 false (aY o_),.sum 57 i 1 (i+1) rfl o_])
theorem aFQ{it:TypeInfo}{z:i_}(h1:prog.info? 86=some it)(h2:it.zero=some z):∀ v∈z.cells.toList,flat v=true:=by have e:(prog.info? 86).bind (·.zero)=some (.agg #[vI 0,.slice none 0 0]):=k_;rw[h1]at e;have e:it.zero=some (.agg #[vI 0,.slice none 0 0]):=e;rw[h2]at e;injection e with e;subst e;intro v hv;have hv:v∈[vI 0,.slice none 0 0]:=hv;simp at hv;rcases hv with rfl|rfl<;>rfl
theorem aSa{c:Nat}{cells:al}(hi:i<ps.length)(jB:ps[i]?=some p)(cq:∀ p∈ps,bP m p/\p.n≠0)(aW:∀ v∈vs,aD q v)(hm:100*(m+q)+1000<=aF)(h63:ps.length<=500)(jh:vs.length<900000)(ht:lC ps i p=false)(ho:¬(bZ p vs vs.length).length<3)
  (hl:(order p.n (af vs) (bZ p vs vs.length)).length>2) (hc:cells.length=c*2) (Na:c<=500) (Fu:∀ v∈cells,v.oneCell'=true) :
  ah prog Bs 59 (aK (ai f120 0)) (fI ps.length vs.length i c) (fM ps vs cells) 3
   ⟨.normal,[(14,vI (i+1)),(12,sl 0 ps.length),(13,vI ps.length),(0,sl 0 ps.length),(1,sl 1 vs.length),(5,sl 7 (c+1))],[(0,.view (bf ps)),(1,.view (aP vs)),(5,.row (aw (order p.n (af vs) (bZ p vs vs.length))) 3 1),(7,.row (cells++[vI i,sl 5 (aw (order p.n (af vs) (bZ p vs vs.length))).length]) 86 2)],8⟩:=by
 have hp:=cq p (cM jB);have lo:=X2 (Bs:=Bs) hp.1 hp.2 aW hm jh;have iB:∀ x∈bZ p vs vs.length,x<vs.length:=λx hx=>X0 hx;have hol:=JM p vs vs.length;obtain⟨l,cD⟩:∃ l,order p.n (af vs) (bZ p vs vs.length)=l:=⟨_,rfl⟩;rw[cD]at hl ⊢;rw[oG];generalize bZ p vs vs.length=on at *;generalize nK:cells++[vI i,sl 5 l.length]=cells' at *;exact aG (fS hi jB cq o_ h63 ht [.code 2 _ _ _ _ _ lo,.lt 42 on.length 3 false (aY ho),fL cD hp.1 aW hm iB o_ o_,.gt 50 l.length 2 true (aJ hl),.step 54 (az f120 54) [vI i,sl 5 l.length] [] (.agg #[vI i,sl 5 l.length]) [] (QS (t:=86) (idx:=[0,1]) k_ (λit z h1 h2=>aFQ h1 h2) k_),.bsM f120 55 6 1 86 2 [0] (.agg #[vI 0,.slice none 0 0]) [.agg #[vI i,sl 5 l.length]] #[vI i,sl 5 l.length] (.row [vI i,sl 5 l.length] 86 2) rfl (λv hv=>by
   have hv:v∈[vI 0,.slice none 0 0]:=hv;simp at hv;rcases hv with rfl|rfl<;>rfl) d_ k_ rfl d_ d_ k_,.qX f120 56 7 2 c 1 (c+1) 86 2 32 cells 6 (.row [vI i,sl 5 l.length] 86 2) cells' rfl rfl rfl hc nK (λv hv=>by
   simp[Obj.cells]at hv;rcases hv with rfl|rfl<;>rfl) d_ (by simp[maxLen];omega) o_ k_,.sum 57 i 1 (i+1) rfl o_])
end
end
end Go.Proofs.YtgpahigmalfpdaaGreatDoor
