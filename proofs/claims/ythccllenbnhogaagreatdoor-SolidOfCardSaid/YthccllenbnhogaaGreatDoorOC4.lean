/- Solids of lists of planes: the proof of SolidOfCardSaid (the law's function answers true at every list of planes; theorem solidOf_card, last part), part 4 of 6; no condition. -/
import Derived.Test.YthccllenbnhogaaGreatDoorOC3
namespace Go.Proofs.YthccllenbnhogaaGreatDoor
open Go Go.RowKit Tryz
abbrev e_:=List (V3 K)
abbrev c_:=List (HS K)
variable{i m k a q b j size e d off cc r k1 k2 n2 A U a1 m1 m2:Nat}{w w':h_}{ι:Map}{p:HS K}{o:Oper}{c:g_}{f:FuncId}{Bs:ae}{x:m_}{ps:c_}{t:Bool}{ty:TypeId}{y z:Int}{xs vs:ak}{fn:Func}{l:List aJ}{u va:i_}
section
variable{P:j_}{B:ae}{N:Nat}
def aO.next(fn:Func)(key k z n s:Nat)(h0:0<n)(ho:rf P (au fn key)=some (true,false,s)):aO P B N:=
 .step key (au fn key) [.slice (some ⟨k,z*s,some 7⟩) (n+1) z,vI 1] [] (.slice (some ⟨k,(z+1)*s,some 7⟩) n (z+1)) [] (by have:=FG (B:=B) ho (k:=k) (off:=z*s) (n:=n+1) (cc:=z) (l:=1) (h:=n+1) n_ (λ_=>rfl) o_ (aZ _) (.inl o_);rw[<-e8,Mk]at this;simpa using this)
theorem aLV{s:Nat}(ho:rf P o=some (true,false,s)){n:Nat}{x:Obj}(hx:x.owns=true)(j:Nat):
  ct P B o [.slice (some ⟨k,off,some 7⟩) n cc,vI n] [(j,none),(k,some x)] (.slice (some ⟨j,0,some 7⟩) 0 0) [(j,.view []),(k,.dead)]:=by
 unfold rf at ho;split at ho
 ·rename_i t y lo hi bM;split at ho
  ·rename_i e ht;split at ho
   ·rename_i i gU;injection ho with ho;injection ho with h1 ho;injection ho with h2 h3;cases lo with
    |none=>cases h1
    |some yl=>
    cases hi with
    |some yh=>cases h2
    |none=>
    refine gL.step λι c ρ w aK hm hn=>?_;have hj:c j=none:=hn (j,none) s_;have hk:c k=some x:=hn (k,some x) s_;rw[bM]at aK;obtain⟨u,u2,hu,hc,c7⟩:=iH aK;have du:ρ y=u:=by simp[Op.operands]at hu;exact hu.1
    have ew:ρ yl=u2:=by simp[Op.operands]at hu;exact hu.2
    have c7:=c7.eW rfl;have Bo:=hm.kill k (by rw[hk];exact n_);have gA:aT c k .dead j=none:=by unfold aT;rw[al (λe=>by subst e;rw[hj]at hk;cases hk)];exact hj
    have Ki:∀ y code,n<=y->(Instr.sliceBound (.int .i64 n) y code).run P w=.ok n w:=by intro y code hq;have:(0:Int)<=n/\(n:Int)<=y:=⟨by omega,by omega⟩;simp[Instr.sliceBound,asIntOf,this]
    rcases hc.gK rfl with ⟨hb,jV,pa,xK,he⟩|⟨b,oo,cap,c',hb,kQ,lP,he⟩
    ·refine⟨dy ι j .nil,.slice none 0 0,w,fZ (hm.dp j hj),.slcN (fj _ _ _),Bo.add gA (.inl ⟨rfl,rfl⟩) n_ n_ n_,.inl ?_⟩;subst jV;have kk:∀ code,(Instr.sliceBound (.int .i64 0) 0 code).run P w=.ok 0 w:=λcode=>by simp[Instr.sliceBound,asIntOf]
     simp only[execOp,bM];simp[Instr.sliceAt,iI ht,Instr.slice,du,ew,c7,he,vI,Instr.sliceBounds,kk,sizeOf,typeInfo,gU]
    ·dsimp only at hb he;obtain⟨o1,wj⟩:∃ o1,o1=(if c'=n then oo+off else oo+off+n*i.size):=⟨_,rfl⟩;have gy:=hm.own k x b oo cap hk hx hb;refine⟨dy ι j (.at b o1 (c'-n)),.slice (some ⟨b,o1+0,none⟩) 0 (c'-n),w,fZ (hm.dp j hj),.slc (fj _ _ _) (kB _) (jv _),Bo.add gA (.inr ⟨b,o1,c'-n,[],rfl,.nil,λj u h=>by simp at h⟩) n_ n_ (λb1 o2 kz _ e=>?_),.inl ?_⟩
     ·injection e with e1 e2 e3;subst e1;refine⟨gy.1,λq y o' bf hq hy vD=>?_⟩;unfold aT at hq;by_cases qU:q=k
      ·rw[aq qU]at hq;injection hq with hq;subst hq;cases hy
      ·rw[al qU]at hq;exact qU (hm.inj q k y x b o' bf oo cap hq hy hk hx vD hb)
     ·simp only[execOp,bM];by_cases ga:c'=n
      ·rw[aq ga]at wj;subst wj;subst ga;simp[Instr.sliceAt,iI ht,Instr.slice,du,ew,c7,he,vI,Instr.sliceBounds,Ki c' _ (aZ _),sizeOf,typeInfo,gU]
      ·rw[al ga]at wj;subst wj;simp[Instr.sliceAt,iI ht,Instr.slice,du,ew,c7,he,vI,Instr.sliceBounds,Ki n _ (aZ _),sizeOf,typeInfo,gU,ga,xJ]
   ·cases ho
  ·cases ho
 ·cases ho
def aO.aLW(fn:Func)(key k off n cc s j:Nat)(x:Obj)(hx:x.owns=true)(ho:rf P (au fn key)=some (true,false,s)):aO P B N:=
 .step key (au fn key) [.slice (some ⟨k,off,some 7⟩) n cc,vI n] [(j,none),(k,some x)] (.slice (some ⟨j,0,some 7⟩) 0 0) [(j,.view []),(k,.dead)] (aLV ho hx j)
def aO.aLX(fn:Func)(key k off n cc:Nat)(l:List UInt8)(x:Obj)(hx:x.reads=true)(hc:(x.cells.drop off).take n=gv l)(hn:l.length=n)(ho:Mh P (au fn key)=true):aO P B N:=
 .step key (au fn key) [.slice (some ⟨k,off,some 7⟩) n cc] [(k,some x)] (.string (BA l)) [] (by
  unfold Mh at ho;split at ho
  ·rename_i src dst y bM;split at ho
   ·rename_i e hs hd;split at ho
    ·rename_i he;have:=WD (P:=P) (B:=B) bM hs he hd (k:=k) (off:=off) (n:=n) (cc:=cc) (y:=x) (ns:=l.map λc=>(c.toNat:Int)) hx (by rw[hc];simp[gv,Function.comp_def]) (by simpa using hn)
     have e2:=Ym l [];rw[jg]at e2;rw[show ByteArray.empty=BA []from rfl,e2]at this;exact this.step
    ·cases ho
   ·cases ho
  ·cases ho)
end
theorem aTw{n:Nat}(ha:a<bz^n)(hb:b<bz^n):a+b<bz^(n+1):=by have h1:bz^n*2<=bz^n*bz:=iX _ d_;rw[dh];omega
theorem Kj{n s:Nat}(hi:i<n)(hd:d=s/bz^i%bz):eM prog 3 (aj (dW bz n i s)) i (vI d)=some (aj (dW bz n (i+1) s)):=by rw[vh (by rw[LM];exact hi),LN hi hd]
theorem Un(n s:Nat):List.replicate n (vI 0)=aj (dW bz n 0 s):=by rw[QL,J9]
section
variable{Bs:ae}{ka kb n m a b:Nat}
def EU(ka kb n m a b i:Nat):aL:=[(7,vI i),(0,sl ka n),(1,sl kb m),(5,sl 2 (n+1)),(6,vI (eC bz a b i))]
def A3(ka kb n m a b i:Nat):aC:=[(ka,.view (aj (aa bz n a))),(kb,.view (aj (aa bz m b))),(2,.row (aj (dW bz (n+1) i (a+b))) 3 1)]
theorem aLY(hk:(ka=0/\kb=1)\/(ka=1/\kb=0))(hi:i<n)(hb:b<bz^m)(h63:n<35184372088832):
  ag prog Bs 55 (aE (af f177 0)) (EU ka kb n m a b i) (A3 ka kb n m a b i) 3 ⟨.normal,EU ka kb n m a b (i+1),A3 ka kb n m a b (i+1),3⟩:=by
 have hx:=gG (B:=bz) d_ a i;have hy:=gG (B:=bz) d_ b i;have hc:=zM (B:=bz) d_ a b i;have hs:=FK (B:=bz) d_ a b i;have c7:=DP (B:=bz) d_ a b i;have bH:=Kj (n:=n+1) (i:=i) (s:=a+b) o_ rfl;have ku:dB prog 3 (aj (aa bz n a)) i=some (vI (a/bz^i%bz)):=dJ (dV hi);have kG:i<m->dB prog 3 (aj (aa bz m b)) i=some (vI (b/bz^i%bz)):=λji=>dJ (dV ji);have kk:¬i<m->b/bz^i%bz=0:=λji=>qe hb o_ d_;unfold EU A3;generalize aj (dW bz (n+1) (i+1) (a+b))=r1 at *;generalize aj (dW bz (n+1) i (a+b))=r0 at *;generalize aj (aa bz n a)=ra at *;generalize aj (aa bz m b)=rb at *;generalize eC bz a b (i+1)=c' at *;generalize eC bz a b i=c at *;generalize (a+b)/bz^i%bz=z at *;generalize a/bz^i%bz=x at *;generalize b/bz^i%bz=y at *;have e0:x+y+c=c+x+y:=by omega
 have e1:z=(c+x+y)%bz:=by rw[<-hs,e0]
 have e2:c'=(c+x+y)/bz:=by rw[<-c7,e0]
 have jt:bz=16777216:=rfl;by_cases ji:i<m
 ·have kG:=kG ji
  let S:Nat->Nat->bK prog Bs 55:=λka kb=>[.lt 22 i n true (by simp[hi]),.ix f177 28 ka n i hi k_,.ld f177 29 3 ka i (.view ra) (vI x) rfl ku k_,.sum 30 c x (c+x) rfl o_,.lt 34 i m true (by simp[ji]),.ix f177 38 kb m i ji k_,.ld f177 39 3 kb i (.view rb) (vI y) rfl kG k_,.sum 40 (c+x) y (c+x+y) rfl o_,.ER 44 (c+x+y) bz z e1,.ix f177 45 2 (n+1) i o_ k_,.st f177 100045 3 2 i (.row r0 3 1) (vI z) (.row r1 3 1) rfl bH rfl k_,.ES 47 (c+x+y) bz c' e2 o_,.sum 24 i 1 (i+1) rfl o_]
  rcases hk with ⟨rfl,rfl⟩|⟨rfl,rfl⟩
  ·exact ay (S 0 1)
  ·exact ay (S 1 0)
 ·have vW:=kk ji;rw[vW,iJ]at e1 e2
  let S:Nat->Nat->bK prog Bs 55:=λka kb=>[.lt 22 i n true (by simp[hi]),.ix f177 28 ka n i hi k_,.ld f177 29 3 ka i (.view ra) (vI x) rfl ku k_,.sum 30 c x (c+x) rfl o_,.lt 34 i m false (by simp[ji]),.ER 44 (c+x) bz z e1,.ix f177 45 2 (n+1) i o_ k_,.st f177 100045 3 2 i (.row r0 3 1) (vI z) (.row r1 3 1) rfl bH rfl k_,.ES 47 (c+x) bz c' e2 o_,.sum 24 i 1 (i+1) rfl o_]
  rcases hk with ⟨rfl,rfl⟩|⟨rfl,rfl⟩
  ·exact ay (S 0 1)
  ·exact ay (S 1 0)
theorem aLZ(hk:(ka=0/\kb=1)\/(ka=1/\kb=0))(hb:b<bz^m)(h63:n<35184372088832):
  ag prog Bs 55 (.block 0 (af f177 0)) (EU ka kb n m a b 0) (A3 ka kb n m a b 0) 3 ⟨.normal,EU ka kb n m a b n,A3 ka kb n m a b n,3⟩:=
 bO (cg (b:=aE (af f177 0)) (r:=⟨.exit 0,EU ka kb n m a b n,A3 ka kb n m a b n,3⟩) n (EU ka kb n m a b) (A3 ka kb n m a b) (λi k _=>jx (l:=A3 ka kb n m a b i) (m:=A3 ka kb n m a b 0) rfl k) (λi hi=>aLY hk hi hb h63)
  (by rcases hk with ⟨rfl,rfl⟩|⟨rfl,rfl⟩<;>exact ay [.lt 22 n n false s_]) n_)
noncomputable def aBP(hk:(ka=0/\kb=1)\/(ka=1/\kb=0))(hb:b<bz^m)(h63:n<35184372088832)(hs:a+b<bz^(n+1))
  (bH:eM prog 3 (aj (dW bz (n+1) n (a+b))) n (vI (eC bz a b n))=some (aj (aa bz (n+1) (a+b)))):bK prog Bs 55:=
 [.sum 17 n 1 (n+1) rfl o_,.pf f177 18 2 (n+1) 3 8 (vI 0) (aj (dW bz (n+1) 0 (a+b))) (Un _ _) rfl rfl o_ (by simp[maxLen];omega) k_,.rw 6 (.int .i64 0) (vI (eC bz a b 0)) (by rw[LP];rfl),.code 0 _ _ _ _ _ (aLZ (ka:=ka) (kb:=kb) (a:=a) hk hb o_),.ix f177 52 2 (n+1) n o_ k_,.st f177 100052 3 2 n (.row (aj (dW bz (n+1) n (a+b))) 3 1) (vI (eC bz a b n)) (.row (aj (aa bz (n+1) (a+b))) 3 1) rfl bH rfl k_,.CM f177 54 2 (n+1) (a+b) (.row (aj (aa bz (n+1) (a+b))) 3 1) rfl rfl hs o_ k_]
end
theorem aTf{n:Nat}(ha:a<bz^n)(hb:b<bz^n):eM prog 3 (aj (dW bz (n+1) n (a+b))) n (vI (eC bz a b n))=some (aj (aa bz (n+1) (a+b))):=by have h1:=zM (B:=bz) d_ a b n;have h2:=QM ha hb;rw[Kj (F5 n) (by rw[<-h2];exact(dG (eP h1 d_)).symm),FI]
theorem aBQ(h1:nd bz a<35184372088832)(h2:nd bz b<35184372088832):ko prog 177 [jb a,jb b] 3 1 (nd bz (a+b)) (cG (a+b)):=by
 have ha:=dL (B:=bz) d_ a;have hb:=dL (B:=bz) d_ b;have il:=rP a;have nq:=rP b;have ax:([jb a,jb b].all aJ.ok)=true:=by simp[Hg]
 unfold jb cG at ax ⊢;change ko _ _ _ _ _ _ (cG (a+b));generalize nd bz a=n at *;generalize nd bz b=m at *;by_cases kS:n<m
 ·have fO:=cy ha (cX (n:=bz) d_ (show n<=m by omega));have hs:=aTw hb fO;rw[lW a b]
  exact Kh (k:=2) mixed func177 ax 100 (N:=55) k_ (λw=>(aO.lt 12 n m true (by simp[kS]):aO prog (ae.at w) 55)::aBP (ka:=1) (kb:=0) (a:=b) (b:=a) (.inr ⟨rfl,rfl⟩) ha h2 hs (aTf hb fO))
   (λw=>k_) (gQ _) (ET hs) (A2 hs)
 ·have gD:=cy hb (cX (n:=bz) d_ (show m<=n by omega));have hs:=aTw ha gD
  exact Kh (k:=2) mixed func177 ax 100 (N:=55) k_ (λw=>(aO.lt 12 n m false (by simp[kS]):aO prog (ae.at w) 55)::aBP (ka:=0) (kb:=1) (a:=a) (b:=b) (.inl ⟨rfl,rfl⟩) hb h1 hs (aTf ha gD))
   (λw=>k_) (gQ _) (ET hs) (A2 hs)
section
variable{B:Nat}
def pQ(B q V c i:Nat):Nat:=(q*(V%B^i)+c)/B^i
theorem aL0(q V c:Nat):pQ B q V c 0=c:=by simp[pQ,su]
theorem aBR(hB:0<B)(q V c i:Nat):pQ B q V c i+q*(V/B^i%B)=(q*(V%B^(i+1))+c)/B^i:=by unfold pQ;rw[oF,nS,<-fq,Nat.add_right_comm,oG _ _ (cE hB)]
theorem aL1(hB:0<B)(q V c i:Nat):(pQ B q V c i+q*(V/B^i%B))/B=pQ B q V c (i+1):=by rw[aBR hB,kg,<-dh];rfl
theorem aL2(hB:0<B)(q V c i:Nat):(pQ B q V c i+q*(V/B^i%B))%B=(q*V+c)/B^i%B:=by
 rw[aBR hB];have h1:=iP V (B^(i+1));have h2:q*V+c=(q*(V%B^(i+1))+c)+q*(V/B^(i+1))*B*B^i:=by
  have e:q*(V/B^(i+1))*B*B^i=q*(B^(i+1)*(V/B^(i+1))):=by rw[dh];simp only[cH,lX,fq]
  rw[e];have h3:q*V=q*(B^(i+1)*(V/B^(i+1)))+q*(V%B^(i+1)):=by rw[<-nS,h1]
  omega
 conv=>rhs;rw[h2]
 rw[oG _ _ (cE hB),B5]
theorem aBS(hB:0<B){c:Nat}(hq:q<B)(hc:c<=q)(V i:Nat):pQ B q V c i<=q:=by
 unfold pQ;have hp:0<B^i:=cE hB;have h1:V%B^i<B^i:=cC _ hp;have h2:=iX q (show V%B^i+1<=B^i from h1);rw[nS,fY]at h2;have h3:q*(V%B^i)+c<(q+1)*B^i:=by rw[e8,ph];omega
 have:=(gY hp).2 h3;omega
theorem aL3{c V n:Nat}(hV:V<B^n):pQ B q V c n=(q*V+c)/B^n:=by unfold pQ;rw[dG hV]
theorem aL4(hB:0<B)(bX:b<=a)(i:Nat):
  (a-b)/B^i%B=if a/B^i%B<b/B^i%B+kh B a b i then a/B^i%B+B-b/B^i%B-kh B a b i else a/B^i%B-b/B^i%B-kh B a b i:=by
 rw[<-QP hB bX i];have hx:=gG hB a i;have hy:=gG hB b i;have hc:=LQ (B:=B) a b i;generalize a/B^i%B=x at *;generalize b/B^i%B=y at *;generalize kh B a b i=c at *;by_cases h:x<y+c
 ·rw[aq h,show x+2*B-y-c=(x+B-y-c)+B by omega,IL,dG o_]
 ·rw[al h,show x+2*B-y-c=(x-y-c)+B+B by omega,IL,IL,dG o_]
def qJ(B p x b i k:Nat):Nat:=(p%B^(i+k)+x*(b%B^k)*B^i)/B^(i+k)
theorem aL5{p x:Nat}(hB:0<B):qJ B p x b i 0=0:=by unfold qJ;rw[ri,su,Nat.mul_zero,kT,iJ,iJ];exact lq (cC _ (cE hB))
theorem aBT(hB:0<B)(p x b i k:Nat):qJ B p x b i k+(p/B^(i+k)%B+x*(b/B^k%B))=(p%B^(i+k+1)+x*(b%B^(k+1))*B^i)/B^(i+k):=by
 unfold qJ;rw[<-oG _ _ (cE hB),oF p,oF b]
 congr 1
 rw[nS,e8,e8,dX];have:x*(b/B^k%B*B^k)*B^i=x*(b/B^k%B)*(B^i*B^k):=by simp only[cH,lX]
 omega
theorem aL6(hB:0<B)(p x b i k:Nat):(qJ B p x b i k+(p/B^(i+k)%B+x*(b/B^k%B)))/B=qJ B p x b i (k+1):=by rw[aBT hB,kg,<-dh];rfl
theorem aL7(hB:0<B)(p x b i k:Nat):(qJ B p x b i k+(p/B^(i+k)%B+x*(b/B^k%B)))%B=(p+x*b*B^i)/B^(i+k)%B:=by
 rw[aBT hB];have h1:=iP p (B^(i+k+1));have h2:=iP b (B^(k+1));have h3:p+x*b*B^i=(p%B^(i+k+1)+x*(b%B^(k+1))*B^i)+(p/B^(i+k+1)+x*(b/B^(k+1)))*B*B^(i+k):=by
  have e1:(p/B^(i+k+1)+x*(b/B^(k+1)))*B*B^(i+k)=B^(i+k+1)*(p/B^(i+k+1))+x*(B^(k+1)*(b/B^(k+1)))*B^i:=by
   rw[e8,e8]
   congr 1
   ·rw[dh];simp only[cH,lX,fq]
   ·rw[dh,dX];simp only[cH,lX,fq]
  have e2:x*b*B^i=x*(B^(k+1)*(b/B^(k+1)))*B^i+x*(b%B^(k+1))*B^i:=by rw[<-e8,<-nS,h2]
  rw[e1];omega
 conv=>rhs;rw[h3]
 rw[oG _ _ (cE hB),B5]
theorem aBU(hB:0<B){x:Nat}(hx:x<B)(p b i k:Nat):qJ B p x b i k<B:=by
 unfold qJ;have hp:0<B^(i+k):=cE hB;rw[gY hp];have h1:p%B^(i+k)<B^(i+k):=cC _ hp;have h2:b%B^k<B^k:=cC _ (cE hB);have h3:x*(b%B^k)*B^i<=x*B^(i+k):=by rw[fq,dX];refine iX _ ?_;rw[cH];exact iX _ (jm h2)
 have h4:=eR (B^(i+k)) (show x+1<=B from hx);rw[e8,ph]at h4;omega
theorem aL8{p x:Nat}(hp:p<B^(i+m))(hb:b<B^m):qJ B p x b i m=(p+x*b*B^i)/B^(i+m):=by unfold qJ;rw[dG hp,dG hb]
end
section
variable{Bs:ae}{n m a b:Nat}
def EV(n m a b i:Nat):aL:=[(7,vI i),(0,sl 0 n),(1,sl 1 m),(5,sl 2 n),(6,vI (kh bz a b i))]
def yM(n m a b i:Nat):aC:=[(0,.view (aj (aa bz n a))),(1,.view (aj (aa bz m b))),(2,.row (aj (dW bz n i (a-b))) 3 1)]
theorem aBV{x:Int}(h:-4611686018427387904<=x)(h2:x<=4611686018427387903)(h3:-4611686018427387904<=y)(h4:y<=4611686018427387904):IntKind.i64.wrap (x-y)=x-y:=by rw[dO];omega
theorem aL9{x:Int}(h:-4611686018427387904<=x)(h2:x<=4611686018427387903)(h3:-4611686018427387904<=y)(h4:y<=4611686018427387904):IntKind.i64.wrap (x+y)=x+y:=by rw[dO];omega
theorem aMa(bX:b<=a)(hi:i<n)(hb:b<bz^m)(h63:n<35184372088832):
  ag prog Bs 44 (aE (af f179 0)) (EV n m a b i) (yM n m a b i) 3 ⟨.normal,EV n m a b (i+1),yM n m a b (i+1),3⟩:=by
 have hx:=gG (B:=bz) d_ a i;have hy:=gG (B:=bz) d_ b i;have hc:=LQ (B:=bz) a b i;have hs:=aL4 (B:=bz) d_ bX i;have c7:=QO (B:=bz) d_ a b i;have bH:=Kj (n:=n) (i:=i) (s:=a-b) hi rfl;have ku:dB prog 3 (aj (aa bz n a)) i=some (vI (a/bz^i%bz)):=dJ (dV hi);have kG:i<m->dB prog 3 (aj (aa bz m b)) i=some (vI (b/bz^i%bz)):=λji=>dJ (dV ji);have kk:¬i<m->b/bz^i%bz=0:=λji=>qe hb o_ d_;have jt:bz=16777216:=rfl;unfold EV yM;generalize aj (dW bz n (i+1) (a-b))=r1 at *;generalize aj (dW bz n i (a-b))=r0 at *;generalize aj (aa bz n a)=ra at *;generalize aj (aa bz m b)=rb at *;generalize kh bz a b (i+1)=c' at *;generalize kh bz a b i=c at *;generalize (a-b)/bz^i%bz=z at *;generalize a/bz^i%bz=x at *;generalize b/bz^i%bz=y at *;have w1:IntKind.i64.wrap ((x:Int)-(c:Int))=(x:Int)-(c:Int):=aBV o_ o_ o_ o_;have w2:IntKind.i64.wrap (((x:Int)-(c:Int))-(y:Int))=(x:Int)-(c:Int)-(y:Int):=aBV o_ o_ o_ o_;have tail:∀ d:Int,d=(x:Int)-c-y->(∃ t,decide (d<0)=t/\(t=true->IntKind.i64.wrap (d+16777216)=(z:Int)/\c'=1)/\(t=false->d=(z:Int)/\c'=0)):=by
  intro d hd;by_cases h:x<y+c
  ·rw[aq h]at hs c7;refine⟨true,aD o_,λ_=>⟨?_,c7.symm⟩,λe=>by cases e⟩;rw[aL9 o_ o_ o_ o_];omega
  ·rw[al h]at hs c7;exact⟨false,aQ o_,n_,λ_=>⟨by omega,c7.symm⟩⟩
 by_cases ji:i<m
 ·have kG:=kG ji;obtain⟨t,ht,h1,h2⟩:=tail _ rfl;cases t with
  |true=>
   obtain⟨q1,q2⟩:=h1 rfl;subst q2;exact ay [.lt 15 i n true (by simp[hi]),.ix f179 20 0 n i hi k_,.ld f179 21 3 0 i (.view ra) (vI x) rfl ku k_,.wr 23 .i64 ((x:Int)-(c:Int)) _ w1,.lt 27 i m true (by simp[ji]),.ix f179 31 1 m i ji k_,.ld f179 32 3 1 i (.view rb) (vI y) rfl kG k_,.wr 33 .i64 ((x:Int)-(c:Int)-(y:Int)) _ w2,.rw 35 (.bool (decide ((x:Int)-(c:Int)-(y:Int)<0))) b_ (by rw[ht]),.wr 37 .i64 _ (z:Int) q1,.ix f179 41 2 n i hi k_,.st f179 100041 3 2 i (.row r0 3 1) (vI z) (.row r1 3 1) rfl bH rfl k_,.sum 17 i 1 (i+1) rfl o_]
  |false=>
   obtain⟨q1,q2⟩:=h2 rfl;subst q2;exact ay [.lt 15 i n true (by simp[hi]),.ix f179 20 0 n i hi k_,.ld f179 21 3 0 i (.view ra) (vI x) rfl ku k_,.wr 23 .i64 ((x:Int)-(c:Int)) _ w1,.lt 27 i m true (by simp[ji]),.ix f179 31 1 m i ji k_,.ld f179 32 3 1 i (.view rb) (vI y) rfl kG k_,.wr 33 .i64 ((x:Int)-(c:Int)-(y:Int)) (z:Int) (w2.trans q1),.rw 35 (.bool (decide ((z:Int)<0))) a_ (by rw[<-q1,ht]),.ix f179 41 2 n i hi k_,.st f179 100041 3 2 i (.row r0 3 1) (vI z) (.row r1 3 1) rfl bH rfl k_,.sum 17 i 1 (i+1) rfl o_]
 ·have vW:=kk ji;subst vW;obtain⟨t,ht,h1,h2⟩:=tail ((x:Int)-c) o_;cases t with
  |true=>
   obtain⟨q1,q2⟩:=h1 rfl;subst q2;exact ay [.lt 15 i n true (by simp[hi]),.ix f179 20 0 n i hi k_,.ld f179 21 3 0 i (.view ra) (vI x) rfl ku k_,.wr 23 .i64 ((x:Int)-(c:Int)) _ w1,.lt 27 i m false (by simp[ji]),.rw 35 (.bool (decide ((x:Int)-(c:Int)<0))) b_ (by rw[ht]),.wr 37 .i64 _ (z:Int) q1,.ix f179 41 2 n i hi k_,.st f179 100041 3 2 i (.row r0 3 1) (vI z) (.row r1 3 1) rfl bH rfl k_,.sum 17 i 1 (i+1) rfl o_]
  |false=>
   obtain⟨q1,q2⟩:=h2 rfl;subst q2;exact ay [.lt 15 i n true (by simp[hi]),.ix f179 20 0 n i hi k_,.ld f179 21 3 0 i (.view ra) (vI x) rfl ku k_,.wr 23 .i64 ((x:Int)-(c:Int)) (z:Int) (w1.trans q1),.lt 27 i m false (by simp[ji]),.rw 35 (.bool (decide ((z:Int)<0))) a_ (by rw[<-q1,ht]),.ix f179 41 2 n i hi k_,.st f179 100041 3 2 i (.row r0 3 1) (vI z) (.row r1 3 1) rfl bH rfl k_,.sum 17 i 1 (i+1) rfl o_]
theorem aMb(bX:b<=a)(hb:b<bz^m)(h63:n<35184372088832):
  ag prog Bs 44 (.block 0 (af f179 0)) (EV n m a b 0) (yM n m a b 0) 3 ⟨.normal,EV n m a b n,yM n m a b n,3⟩:=
 bO (cg (b:=aE (af f179 0)) (r:=⟨.exit 0,EV n m a b n,yM n m a b n,3⟩) n (EV n m a b) (yM n m a b) (λi k _=>jx (l:=yM n m a b i) (m:=yM n m a b 0) rfl k) (λi hi=>aMa bX hi hb h63)
  (ay [.lt 15 n n false s_]) n_)
end
theorem aMc(bX:b<=a)(h1:nd bz a<35184372088832):ko prog 179 [jb a,jb b] 3 1 (nd bz (a-b)) (cG (a-b)):=by
 have ha:=dL (B:=bz) d_ a;have hb:=dL (B:=bz) d_ b;have ax:([jb a,jb b].all aJ.ok)=true:=by simp[Hg]
 unfold jb cG at ax ⊢;change ko _ _ _ _ _ _ (cG (a-b));generalize nd bz a=n at *;generalize nd bz b=m at *;have hs:a-b<bz^n:=eP (Ea _ _) ha;have lo:=λBs=>aMb (Bs:=Bs) (n:=n) (m:=m) bX hb h1;unfold yM at lo;rw[FI]at lo;exact Kh (k:=2) mixed func179 ax 100 (N:=44) k_ (λw=>[.pf f179 11 2 n 3 8 (vI 0) (aj (dW bz n 0 (a-b))) (Un _ _) rfl rfl o_ (by simp[maxLen];omega) k_,.rw 6 (.int .i64 0) (vI (kh bz a b 0)) (by rw[QN];rfl),.code 0 _ _ _ _ _ (lo _),.CM f179 43 2 n (a-b) (.row (aj (aa bz n (a-b))) 3 1) rfl rfl hs o_ k_])
   (λw=>k_) (gQ _) (ET hs) (A2 hs)
section
variable{Bs:ae}{n a c:Nat}
def EW(n a c i:Nat):aL:=[(7,vI i),(0,sl 0 n),(5,sl 1 (n+1)),(6,vI (pQ bz 2 a c i))]
def A4(n a c i:Nat):aC:=[(0,.view (aj (aa bz n a))),(1,.row (aj (dW bz (n+1) i (2*a+c))) 3 1)]
theorem aMd(hc:c<=2)(hi:i<n)(h63:n<35184372088832):
  ag prog Bs 40 (aE (af f181 0)) (EW n a c i) (A4 n a c i) 2 ⟨.normal,EW n a c (i+1),A4 n a c (i+1),2⟩:=by
 have hx:=gG (B:=bz) d_ a i;have fU:=aBS (B:=bz) d_ (q:=2) d_ hc a i;have hs:=aL2 (B:=bz) d_ 2 a c i;have c7:=aL1 (B:=bz) d_ 2 a c i;have bH:=Kj (n:=n+1) (i:=i) (s:=2*a+c) o_ rfl;have ku:dB prog 3 (aj (aa bz n a)) i=some (vI (a/bz^i%bz)):=dJ (dV hi);have jt:bz=16777216:=rfl;unfold EW A4;generalize aj (dW bz (n+1) (i+1) (2*a+c))=r1 at *;generalize aj (dW bz (n+1) i (2*a+c))=r0 at *;generalize aj (aa bz n a)=ra at *;generalize pQ bz 2 a c (i+1)=c' at *;generalize pQ bz 2 a c i=g at *;generalize (2*a+c)/bz^i%bz=z at *;generalize a/bz^i%bz=x at *;exact ay [.lt 16 i n true (by simp[hi]),.ix f181 22 0 n i hi k_,.ld f181 23 3 0 i (.view ra) (vI x) rfl ku k_,.rR 24 2 x (2*x) rfl o_,.sum 25 g (2*x) (g+2*x) rfl o_,.ER 29 (g+2*x) bz z hs.symm,.ix f181 30 1 (n+1) i o_ k_,.st f181 100030 3 1 i (.row r0 3 1) (vI z) (.row r1 3 1) rfl bH rfl k_,.ES 32 (g+2*x) bz c' c7.symm o_,.sum 18 i 1 (i+1) rfl o_]
theorem aMe(hc:c<=2)(h63:n<35184372088832):
  ag prog Bs 40 (.block 0 (af f181 0)) (EW n a c 0) (A4 n a c 0) 2 ⟨.normal,EW n a c n,A4 n a c n,2⟩:=
 bO (cg (b:=aE (af f181 0)) (r:=⟨.exit 0,EW n a c n,A4 n a c n,2⟩) n (EW n a c) (A4 n a c) (λi k _=>jx (l:=A4 n a c i) (m:=A4 n a c 0) rfl k) (λi hi=>aMd hc hi h63)
  (ay [.lt 16 n n false s_]) n_)
end
theorem aMf{c:Nat}(hc:c<=1)(h1:nd bz a<35184372088832):ko prog 181 [jb a,.p (vI c)] 3 1 (nd bz (2*a+c)) (cG (2*a+c)):=by
 have ha:=dL (B:=bz) d_ a;have ax:([jb a,aJ.p (vI c)].all aJ.ok)=true:=by simp[Hg];rfl
 unfold jb cG at ax ⊢;change ko _ _ _ _ _ _ (cG (2*a+c));generalize nd bz a=n at *;have hs:2*a+c<bz^(n+1):=by have h1:bz^n*2<=bz^n*bz:=iX _ d_;rw[dh];omega
 have bH:eM prog 3 (aj (dW bz (n+1) n (2*a+c))) n (vI (pQ bz 2 a c n))=some (aj (aa bz (n+1) (2*a+c))):=by have h1:=aBS (B:=bz) d_ (q:=2) d_ (show c<=2 by omega) a n;have h2:=aL3 (B:=bz) (q:=2) (c:=c) ha;have jt:bz=16777216:=rfl;rw[Kj (F5 n) (by rw[<-h2];exact(dG o_).symm),FI]
 exact Kh (k:=1) mixed func181 ax 100 (N:=40) k_ (λw=>[.sum 10 n 1 (n+1) rfl o_,.pf f181 11 1 (n+1) 3 8 (vI 0) (aj (dW bz (n+1) 0 (2*a+c))) (Un _ _) rfl rfl o_ (by simp[maxLen];omega) k_,.rw 6 (vI c) (vI (pQ bz 2 a c 0)) (by rw[aL0]),.code 0 _ _ _ _ _ (aMe (a:=a) (c:=c) o_ h1),.ix f181 37 1 (n+1) n o_ k_,.st f181 100037 3 1 n (.row (aj (dW bz (n+1) n (2*a+c))) 3 1) (vI (pQ bz 2 a c n)) (.row (aj (aa bz (n+1) (2*a+c))) 3 1) rfl bH rfl k_,.CM f181 39 1 (n+1) (2*a+c) (.row (aj (aa bz (n+1) (2*a+c))) 3 1) rfl rfl hs o_ k_])
   (λw=>k_) (gQ _) (ET hs) (A2 hs)
section
variable{Bs:ae}{n m a b:Nat}
def vi(n m a b i k:Nat):ak:=aj (cQ bz (n+m) (i+k) (part bz a b (i+1) 0) (part bz a b i 0))
def CO(n m a b i k:Nat):aL:=[(8,vI k),(7,vI (qJ bz (part bz a b i 0) (a/bz^i%bz) b i k)),(6,vI i),(0,sl 0 n),(1,sl 1 m),(5,sl 2 (n+m))]
def yN(n m a b i k:Nat):aC:=[(0,.view (aj (aa bz n a))),(1,.view (aj (aa bz m b))),(2,.row (vi n m a b i k) 3 1)]
theorem Uo(i:Nat):part bz a b (i+1) 0=part bz a b i 0+a/bz^i%bz*b*bz^i:=by
 rw[BI,BI,oF,e8]
 congr 1
 simp only[cH,lX]
theorem aBW(hb:b<bz^m):part bz a b i 0<bz^(i+m):=by rw[BI,dX];exact pg (cC _ (cE d_)) hb
theorem aMg(hi:i<n)(hk:k<m)(h63:n+m<35184372088832):
  ag prog Bs 63 (aE (af f160 2)) (CO n m a b i k) (yN n m a b i k) 3 ⟨.normal,CO n m a b i (k+1),yN n m a b i (k+1),3⟩:=by
 have hx:=gG (B:=bz) d_ a i;have hy:=gG (B:=bz) d_ b k;have hr:=gG (B:=bz) d_ (part bz a b i 0) (i+k);have fU:=aBU (B:=bz) d_ hx (part bz a b i 0) b i k;have hs:=aL7 (B:=bz) d_ (part bz a b i 0) (a/bz^i%bz) b i k;rw[<-Uo]at hs;have c7:=aL6 (B:=bz) d_ (part bz a b i 0) (a/bz^i%bz) b i k;have ku:dB prog 3 (aj (aa bz n a)) i=some (vI (a/bz^i%bz)):=dJ (dV hi);have kG:dB prog 3 (aj (aa bz m b)) k=some (vI (b/bz^k%bz)):=dJ (dV hk);have hlr:dB prog 3 (vi n m a b i k) (i+k)=some (vI (part bz a b i 0/bz^(i+k)%bz)):=dJ (BH o_ (aZ _));have bH:eM prog 3 (vi n m a b i k) (i+k) (vI (part bz a b (i+1) 0/bz^(i+k)%bz))=some (vi n m a b i (k+1)):=by unfold vi;rw[vh (by rw[vU];omega),xX o_ rfl];rfl
 have jt:bz=16777216:=rfl;unfold CO yN;generalize vi n m a b i (k+1)=r1 at *;generalize vi n m a b i k=r0 at *;generalize aj (aa bz n a)=ra at *;generalize aj (aa bz m b)=rb at *;generalize qJ bz (part bz a b i 0) (a/bz^i%bz) b i (k+1)=c' at *;generalize qJ bz (part bz a b i 0) (a/bz^i%bz) b i k=g at *;generalize part bz a b (i+1) 0/bz^(i+k)%bz=z at *;generalize part bz a b i 0/bz^(i+k)%bz=r at *;generalize a/bz^i%bz=x at *;generalize b/bz^k%bz=y at *;have jX:x*y<bz*bz:=pg hx hy;rw[jt]at jX;generalize hp:x*y=p at *;exact ay [.lt 24 k m true (by simp[hk]),.sum 31 i k (i+k) rfl o_,.ix f160 32 2 (n+m) (i+k) o_ k_,.ld f160 33 3 2 (i+k) (.row r0 3 1) (vI r) rfl hlr k_,.ix f160 36 0 n i hi k_,.ld f160 37 3 0 i (.view ra) (vI x) rfl ku k_,.ix f160 40 1 m k hk k_,.ld f160 41 3 1 k (.view rb) (vI y) rfl kG k_,.rR 42 x y p hp.symm o_,.sum 43 r p (r+p) rfl o_,.sum 44 g (r+p) (g+(r+p)) rfl o_,.sum 48 i k (i+k) rfl o_,.ER 50 (g+(r+p)) bz z hs.symm,.ix f160 51 2 (n+m) (i+k) o_ k_,.st f160 100051 3 2 (i+k) (.row r0 3 1) (vI z) (.row r1 3 1) rfl bH rfl k_,.ES 53 (g+(r+p)) bz c' c7.symm o_,.sum 26 k 1 (k+1) rfl o_]
theorem aMh(hi:i<n)(h63:n+m<35184372088832):
  ag prog Bs 63 (.block 2 (af f160 2)) (CO n m a b i 0) (yN n m a b i 0) 3 ⟨.normal,CO n m a b i m,yN n m a b i m,3⟩:=
 bO (id:=2) (cg (b:=aE (af f160 2)) (r:=⟨.exit 2,CO n m a b i m,yN n m a b i m,3⟩) m (CO n m a b i) (yN n m a b i) (λk j _=>jx (l:=yN n m a b i k) (m:=yN n m a b i 0) rfl j) (λk hk=>aMg hi hk h63)
  (ay [.lt 24 m m false s_]) n_)
def CP(n m a b i:Nat):ak:=aj (aa bz (n+m) (part bz a b i 0))
def EX(n m i:Nat):aL:=[(6,vI i),(0,sl 0 n),(1,sl 1 m),(5,sl 2 (n+m))]
def yO(n m a b i:Nat):aC:=[(0,.view (aj (aa bz n a))),(1,.view (aj (aa bz m b))),(2,.row (CP n m a b i) 3 1)]
theorem aMi(i:Nat):vi n m a b i 0=CP n m a b i:=by unfold vi CP;rw[Uo,iJ,XE d_]
theorem aMj(hi:i<n)(hb:b<bz^m)(h63:n+m<35184372088832):
  ag prog Bs 63 (aE (af f160 0)) (EX n m i) (yO n m a b i) 3 ⟨.normal,EX n m (i+1),yO n m a b (i+1),3⟩:=by
 have lo:=aMh (Bs:=Bs) (a:=a) (b:=b) hi h63;unfold CO yN at lo;rw[aMi,aL5 d_]at lo;have hp:=aBW (a:=a) (i:=i) hb;have ik:=aBW (a:=a) (i:=i+1) hb;have he:=aL8 (x:=a/bz^i%bz) hp hb;rw[<-Uo]at he;have hc:=aBU (B:=bz) d_ (gG (B:=bz) d_ a i) (part bz a b i 0) b i m;have bH:eM prog 3 (vi n m a b i m) (i+m) (vI (qJ bz (part bz a b i 0) (a/bz^i%bz) b i m))=some (CP n m a b (i+1)):=by
  unfold vi CP;have e:i+1+m=i+m+1:=by omega
  rw[e]at ik;rw[vh (by rw[vU];omega),xX o_ (by rw[he];rw[he]at hc;exact(dG hc).symm),D6 d_ (cy hp (cX d_ (xM _))) ik]
 unfold EX yO;generalize CP n m a b (i+1)=r1 at *;generalize CP n m a b i=r0 at *;generalize vi n m a b i m=r2 at *;generalize qJ bz (part bz a b i 0) (a/bz^i%bz) b i m=c at *;generalize aj (aa bz n a)=ra at *;generalize aj (aa bz m b)=rb at *;exact ay [.lt 18 i n true (by simp[hi]),.code 2 _ _ _ _ _ lo,.sum 58 i m (i+m) rfl o_,.ix f160 60 2 (n+m) (i+m) o_ k_,.st f160 100060 3 2 (i+m) (.row r2 3 1) (vI c) (.row r1 3 1) rfl bH rfl k_,.sum 20 i 1 (i+1) rfl o_]
theorem aMk(hb:b<bz^m)(h63:n+m<35184372088832):
  ag prog Bs 63 (.block 0 (af f160 0)) (EX n m 0) (yO n m a b 0) 3 ⟨.normal,EX n m n,yO n m a b n,3⟩:=
 bO (cg (b:=aE (af f160 0)) (r:=⟨.exit 0,EX n m n,yO n m a b n,3⟩) n (EX n m) (yO n m a b) (λk j _=>jx (l:=yO n m a b k) (m:=yO n m a b 0) rfl j) (λk hk=>aMj hk hb h63)
  (ay [.lt 18 n n false s_]) n_)
end
theorem Up(h63:nd bz a+nd bz b<35184372088832):ko prog 160 [jb a,jb b] 3 1 (nd bz (a*b)) (cG (a*b)):=by
 have ha:=dL (B:=bz) d_ a;have hb:=dL (B:=bz) d_ b;have ax:([jb a,jb b].all aJ.ok)=true:=by simp[Hg]
 unfold jb cG at ax ⊢;change ko _ _ _ _ _ _ (cG (a*b));generalize nd bz a=n at *;generalize nd bz b=m at *;have hs:a*b<bz^(n+m):=by rw[dX];exact pg ha hb
 have lo:=λBs=>aMk (Bs:=Bs) (n:=n) (a:=a) hb h63;unfold yO CP at lo;rw[BI,BI,dG ha,ri,su,kT]at lo;have hz:List.replicate (n+m) (vI 0)=aj (aa bz (n+m) 0):=by
  rw[J9]
  congr 1
  unfold aa;symm;rw[List.eq_replicate_iff];simp
 exact Kh (k:=2) mixed func160 ax 100 (N:=63) k_ (λw=>[.sum 13 n m (n+m) rfl o_,.pf f160 14 2 (n+m) 3 8 (vI 0) (aj (aa bz (n+m) 0)) hz rfl rfl o_ (by simp[maxLen];omega) k_,.code 0 _ _ _ _ _ (lo _),.CM f160 62 2 (n+m) (a*b) (.row (aj (aa bz (n+m) (a*b))) 3 1) rfl rfl hs o_ k_])
   (λw=>k_) (gQ _) (ET hs) (A2 hs)
theorem w6(cells:ak)(i:Nat)(h:cells[i]?=some (.int .u8 z)):dB prog 5 cells i=some (.int .u8 z):=by
 have e:dB prog 5 cells i=cells[i+0]?:=by kernel_rfl
 rw[e,iJ,h]
theorem aMl(cells:ak)(i:Nat)(z:Int)(h:i<cells.length):eM prog 5 cells i (.int .u8 z)=some (cells.set i (.int .u8 z)):=by
 have e:eM prog 5 cells i (.int .u8 z)=if(Nat.ble (i+1) cells.length&&true)then some (iv cells i [.int .u8 z])else none:=by kernel_rfl
 rw[e,Qg h];rfl
section
variable{Bs:ae}{n a:Nat}
def sR(n a i:Nat):ak:=gv (List.replicate (3*n-i) 0++gi i a)
def EY(n i:Nat):aL:=[(4,vI i),(0,sl 0 n),(3,sl 1 (3*n))]
def yP(n a i:Nat):aC:=[(0,.view (aj (aa bz n a))),(1,.row (sR n a i) 5 1)]
theorem aMm(hi:i<3*n):(sR n a i).set (3*n-1-i) (vb (a/256^i%256))=sR n a (i+1):=by
 unfold sR;rw[wi,show 3*n-i=(3*n-1-i)+1 by omega,show 3*n-(i+1)=3*n-1-i by omega,List.replicate_succ',Bx];generalize 3*n-1-i=k;unfold gv;rw[vC,vC,TX _ _ s_];simp only[gF,Hi,uN,vC,qc,Mi,FY,jg,List.set_cons_zero]
 congr 2
 rw[Mf,dG (cC _ d_)];rfl
theorem aMn(i:Nat)(hi:i<=3*n):(sR n a i).length=3*n:=by unfold sR;rw[D3,jW,Hi,IJ];omega
theorem aMo:a/bz^(i/3)%bz/2^(8*(i%3))%256=a/256^i%256:=by
 have e1:bz^(i/3)=256^(3*(i/3)):=by rw[show bz=256^3 from Hh,<-rj]
 have e2:(2:Nat)^(8*(i%3))=256^(i%3):=by rw[rj]
 have e3:256^i=256^(3*(i/3))*256^(i%3):=by rw[<-dX];congr 1;omega
 rw[e1,e2,e3,<-kg];generalize a/256^(3*(i/3))=c;have e4:bz=256^(i%3)*(256*256^(2-i%3)):=by rw[show bz=256^3 from Hh,<-Nat.pow_succ',<-dX];congr 1;omega
 rw[e4,zU,ID]
theorem aMp(hi:i<3*n)(h63:n<35184372088832):
  ag prog Bs 45 (aE (af f161 0)) (EY n i) (yP n a i) 2 ⟨.normal,EY n (i+1),yP n a (i+1),2⟩:=by
 have hx:=gG (B:=bz) d_ a (i/3);have hb:=aMo (a:=a) (i:=i);have ku:dB prog 3 (aj (aa bz n a)) (i/3)=some (vI (a/bz^(i/3)%bz)):=dJ (dV o_);have bH:eM prog 5 (sR n a i) (3*n-1-i) (vb (a/256^i%256))=some (sR n a (i+1)):=by unfold vb;rw[aMl _ _ _ (by rw[aMn _ o_];omega)];exact b9 some (aMm hi)
 unfold EY yP;generalize sR n a (i+1)=r1 at *;generalize sR n a i=r0 at *;generalize aj (aa bz n a)=ra at *;generalize a/256^i%256=z at *;generalize a/bz^(i/3)%bz=x at *;have uc:(x:Int).fdiv (2^(min (8*(i%3)) IntKind.i64.bits))=((x/2^(8*(i%3)):Nat):Int):=by rw[show min (8*(i%3)) IntKind.i64.bits=8*(i%3)from mE (show 8*(i%3)<=64 by omega),rh _ (F3 d_),sA,F4];rfl
 generalize x/2^(8*(i%3))=y at *;exact ay [.lt 12 i (3*n) true (by simp[hi]),.eO 18 (3*n) 1 (3*n-1) o_ o_,.eO 20 (3*n-1) i (3*n-1-i) o_ o_,.ES 23 i 3 (i/3) rfl o_,.ix f161 24 0 n (i/3) o_ k_,.ld f161 25 3 0 (i/3) (.view ra) (vI x) rfl ku k_,.ER 27 i 3 (i%3) rfl,.rR 28 8 (i%3) (8*(i%3)) rfl o_,.shr f161 29 .i64 (x:Int) (y:Int) (8*(i%3)) uc k_,.wr 30 .u8 (y:Int) (z:Int) (by rw[Yr];omega),.ix f161 31 1 (3*n) (3*n-1-i) o_ k_,.st f161 100031 5 1 (3*n-1-i) (.row r0 5 1) (vb z) (.row r1 5 1) rfl bH rfl k_,.sum 14 i 1 (i+1) rfl o_]
theorem Uq(h63:n<35184372088832):ag prog Bs 45 (.block 0 (af f161 0)) (EY n 0) (yP n a 0) 2 ⟨.normal,EY n (3*n),yP n a (3*n),2⟩:=
 bO (id:=0) (cg (b:=aE (af f161 0)) (r:=⟨.exit 0,EY n (3*n),yP n a (3*n),2⟩) (3*n) (EY n) (yP n a) (λk j _=>jx (l:=yP n a k) (m:=yP n a 0) rfl j) (λk hk=>aMp hk h63)
  (ay [.lt 12 (3*n) (3*n) false s_]) n_)
def w7(L i:Nat):aL:=[(3,.slice (some ⟨1,i*1,some 7⟩) (L-i) i)]
def w9(L a:Nat):aC:=[(1,.row (gv (gi L a)) 5 1)]
theorem Ur{L a:Nat}(h:a<256^L):gi L a=List.replicate (L-nd 256 a) 0++cz a:=by have hle:=iN (B:=256) d_ h;have:=Yj (n:=nd 256 a) (k:=L-nd 256 a) (dL (B:=256) d_ a);rw[show L-nd 256 a+nd 256 a=L by omega]at this;exact this
theorem aMq{L:Nat}(h:a<256^L)(h0:a≠0)(hi:i<L-nd 256 a)(h63:L<9223372036854775807):
  ag prog Bs 45 (aE (af f161 2)) (w7 L i) (w9 L a) 2 ⟨.normal,w7 L (i+1),w9 L a,2⟩:=by
 have hp:=vS (B:=256) d_ h0;have iA:dB prog 5 (gv (gi L a)) i=some (vb 0):=w6 _ _ (by rw[Ur h,Mj,Ie (by rw[D3];simpa using hi)];simp[gv,hi])
 unfold w7 w9;generalize gv (gi L a)=r0 at *;obtain⟨m,hm⟩:∃ m,L-i=m+1:=⟨L-i-1,by omega⟩;have dz:L-(i+1)=m:=by omega
 rw[hm,dz];have e1:i*1=i:=fY i;exact ay [.gt 34 (m+1) 0 true s_,.oT f161 37 1 i (m+1) i 0 i 1 o_ (iJ i) k_,.ld f161 38 5 1 (i*1) (.row r0 5 1) (vb 0) rfl (by rw[e1];exact iA) k_,.fX 39 0 0 true rfl,.next f161 42 1 i m 1 o_ k_]
theorem aMr{L:Nat}(h:a<256^L)(h0:a≠0)(hi:i=L-nd 256 a)(h63:L<9223372036854775807):
  ag prog Bs 45 (aE (af f161 2)) (w7 L i) (w9 L a) 2 ⟨.exit 2,w7 L i,w9 L a,2⟩:=by
 have hp:=vS (B:=256) d_ h0;have hle:=iN (B:=256) d_ h;obtain⟨c,l,hc,pa⟩:=Mg h0;have iA:dB prog 5 (gv (gi L a)) i=some (vb c.toNat):=w6 _ _ (by rw[Ur h,Mj,Dx (by rw[D3];simp;omega),D3,hc,hi];simp[gv])
 have aY:c.toNat≠0:=λe=>pa (L7.1 e);unfold w7 w9;generalize gv (gi L a)=r0 at *;obtain⟨m,hm⟩:∃ m,L-i=m+1:=⟨L-i-1,by omega⟩;rw[hm];have e1:i*1=i:=fY i;generalize c.toNat=d at *;exact ay [.gt 34 (m+1) 0 true s_,.oT f161 37 1 i (m+1) i 0 i 1 o_ (iJ i) k_,.ld f161 38 5 1 (i*1) (.row r0 5 1) (vb d) rfl (by rw[e1];exact iA) k_,.fX 39 d 0 false (aQ aY)]
theorem aMs{L:Nat}(h:a<256^L)(h0:a≠0)(h63:L<9223372036854775807):
  ag prog Bs 45 (.block 2 (af f161 2)) (w7 L 0) (w9 L a) 2 ⟨.normal,w7 L (L-nd 256 a),w9 L a,2⟩:=
 bO (id:=2) (cg (b:=aE (af f161 2)) (r:=⟨.exit 2,w7 L (L-nd 256 a),w9 L a,2⟩) (L-nd 256 a) (w7 L) (λ_=>w9 L a) (λ_ _ _=>Iff.rfl) (λk hk=>aMq h h0 hk h63)
  (aMr h h0 rfl h63) n_)
end
theorem aMt{n:Nat}(ha:a<bz^n)(h0:a≠0)(h63:n<35184372088832):cJ prog 161 [.r n (aj (aa bz n a))] (.string (BA (cz a))):=by
 have hL:a<256^(3*n):=by rw[rj];exact ha
 have yB:=λBs=>Uq (Bs:=Bs) (a:=a) h63;have uX:=λBs=>aMs (Bs:=Bs) hL h0 o_;have e0:List.replicate (3*n) (vb 0)=sR n a 0:=by unfold sR gv;simp[Me,vb]
 have e1:sR n a (3*n)=gv (gi (3*n) a):=by unfold sR;rw[uN];rfl
 have hle:=iN (B:=256) d_ hL;have ht:((gv (gi (3*n) a)).drop ((3*n-nd 256 a)*1)).take (nd 256 a)=gv (cz a):=by rw[Ur hL,Mj,fY,P2 (by rw[D3];simp),jN (by rw[D3,sE];exact aZ _)]
 unfold yP at yB;rw[e1]at yB;rw[<-e0]at yB;unfold w9 at uX;have hl:3*n-(3*n-nd 256 a)=nd 256 a:=by omega
 unfold w7 at uX;rw[hl]at uX;exact jP mixed func161 (by simp[aJ.ok,gQ]) 100 (N:=45) k_ (λw=>[.rR 7 3 n (3*n) rfl o_,.pf f161 8 1 (3*n) 5 1 (vb 0) (List.replicate (3*n) (vb 0)) rfl rfl rfl o_ (by simp[maxLen];omega) k_,.code 0 _ _ _ _ _ (yB _),.code 2 _ _ _ _ _ (uX _),.aLX f161 44 1 ((3*n-nd 256 a)*1) (nd 256 a) (3*n-nd 256 a) (cz a) (.row (gv (gi (3*n) a)) 5 1) rfl ht (sE a) k_]) (λw=>k_) rfl
theorem aMu:cJ prog 161 [.r 0 (aj (aa bz 0 0))] (.string (BA (cz 0))):=by have yB:=λBs=>Uq (Bs:=Bs) (a:=0) (n:=0) o_;rw[B4];exact jP mixed func161 (by simp[aJ.ok,gQ]) 100 (N:=45) k_ (λw=>[.rR 7 3 0 0 rfl o_,.pf f161 8 1 0 5 1 (vb 0) [] rfl rfl rfl o_ (by simp[maxLen]) k_,.code 0 _ _ _ _ _ (yB _),.gt 34 0 0 false rfl,.Rj f161 44 1 0 [] (.row [] 5 1) rfl rfl rfl k_]) (λw=>k_) rfl
noncomputable def CQ(Bs:ae)(i m:Nat)(h:0<m)(hl:dB prog 5 (gv (List.replicate 9 0)) (i*1)=some (vb 0)):bK prog Bs 45:=[.gt 34 (m+1) 0 true s_,.oT f161 37 1 i (m+1) i 0 i 1 o_ (iJ i) k_,.ld f161 38 5 1 (i*1) (.row (gv (List.replicate 9 0)) 5 1) (vb 0) rfl hl k_,.fX 39 0 0 true rfl,.next f161 42 1 i m 1 h k_]
theorem aMv:cJ prog 161 [.r 3 (aj (aa bz 3 0))] (.string (BA (cz 0))):=by
 have yB:=λBs=>Uq (Bs:=Bs) (a:=0) (n:=3) o_;rw[B4];exact jP mixed func161 (by simp[aJ.ok,gQ]) 300 (N:=45) k_ (λw=>[.rR 7 3 3 9 rfl o_,.pf f161 8 1 9 5 1 (vb 0) (List.replicate 9 (vb 0)) rfl rfl rfl o_ (by simp[maxLen]) k_,.code 0 _ _ _ _ _ (yB _)]++(CQ _ 0 8 o_ (w6 _ _ rfl)++(CQ _ 1 7 o_ (w6 _ _ rfl)++(CQ _ 2 6 o_ (w6 _ _ rfl)++(CQ _ 3 5 o_ (w6 _ _ rfl)++(CQ _ 4 4 o_ (w6 _ _ rfl)++(CQ _ 5 3 o_ (w6 _ _ rfl)++(CQ _ 6 2 o_ (w6 _ _ rfl)++(CQ _ 7 1 o_ (w6 _ _ rfl)++
  [.gt 34 1 0 true rfl,.oT f161 37 1 8 1 8 0 8 1 o_ rfl k_,.ld f161 38 5 1 8 (.row (gv (List.replicate 9 0)) 5 1) (vb 0) rfl (w6 _ _ rfl) k_,.fX 39 0 0 true rfl,.aLW f161 42 1 8 1 8 1 2 (.row (gv (List.replicate 9 0)) 5 1) rfl k_,.gt 34 0 0 false rfl,.Rj f161 44 2 0 [] (.view []) rfl rfl rfl k_]))))))))) (λw=>k_) rfl
structure OA(n a:Nat):Prop where
 lt:a<bz^n
 z:a=0->n=0\/n=3
 h63:n<35184372088832
theorem aBX{n:Nat}(h:OA n a):cJ prog 161 [.r n (aj (aa bz n a))] (.string (BA (cz a))):=by
 by_cases h0:a=0
 ·subst h0;rcases h.z rfl with rfl|rfl
  ·exact aMu
  ·exact aMv
 ·exact aMt h.lt h0 h.h63
theorem aMw(h:nd bz a<35184372088832):OA (nd bz a) a:=⟨dL d_ a,λe=>.inl (by rw[e,qd]),h⟩
theorem aBY{n:Nat}(neg:Bool)(h:OA n a):cJ prog 111 [.p (.bool neg),.r n (aj (aa bz n a))] (bC (sg neg a)):=by
 rw[<-uQ];have e:(!((BA (cz a)).toList==(ByteArray.mk #[]).toList))=decide (a≠0):=by rw[qj];simp
 cases neg
 ·exact jP mixed func111 (by simp[aJ.ok,gQ];rfl) 100 (N:=15) k_ (λw=>[.step 7 (au f111 7) _ _ _ _ (od (aBX h) (.w (k:=0) (cc:=0) (x:=.view (aj (aa bz n a))) rfl (gQ _) (λe=>by subst e;rfl) .nil) (x:=.func 161) k_ k_ rfl)]) (λw=>k_) rfl
 ·exact jP mixed func111 (by simp[aJ.ok,gQ];rfl) 100 (N:=15) k_ (λw=>[.step 7 (au f111 7) _ _ _ _ (od (aBX h) (.w (k:=0) (cc:=0) (x:=.view (aj (aa bz n a))) rfl (gQ _) (λe=>by subst e;rfl) .nil) (x:=.func 161) k_ k_ rfl),.rw 11 (.bool (!((BA (cz a)).toList==(ByteArray.mk #[]).toList))) (.bool (decide (a≠0))) (by rw[e])]) (λw=>k_) rfl
theorem aTC(neg:Bool)(l:List UInt8):aB prog 119 [.agg #[.bool neg,.string (BA l)]] (.bool (wz neg l)):=by
 cases l with
 |nil=>exact aV func119 (λ_=>[.rw 5 (.bool ((BA []).toList==(ByteArray.mk #[]).toList)) b_ (by rw[DU];rfl)])
 |cons c l=>
  have e:(((c.toNat:Nat):Int)!=0)=decide (c≠0):=by
   by_cases h:c=0
   ·subst h;rfl
   ·rw[aD h,qg];intro h2;exact h (L7.1 (by simpa using h2))
  exact aV func119 (λ_=>[.rw 5 (.bool ((BA (c::l)).toList==(ByteArray.mk #[]).toList)) a_ (by rw[DU];rfl),.sx f119 11 (BA (c::l)) 0 c (by rw[IE];rfl) k_,.rw 12 (.bool (((c.toNat:Nat):Int)!=0)) (.bool (decide (c≠0))) (by rw[e])])
theorem aBZ(neg:Bool)(h:neg=true->m≠0):wz neg (cz m)=true:=by
 by_cases hm:m=0
 ·subst hm;rw[B4];cases neg
  ·rfl
  ·exact absurd rfl (h rfl)
 ·obtain⟨c,l,h1,h2⟩:=Mg hm;rw[h1];exact aD h2
theorem aTi(neg:Bool)(h:neg=true->m≠0):aB prog 119 [sv neg m] b_:=by have:=aTC neg (cz m);rw[aBZ neg h]at this;exact this
theorem aTH(z:Int):aB prog 119 [bC z] b_:=
 ry (C:=λ_ v=>aB prog 119 [v] b_) (λ_=>aTi false n_) (λ_ hm=>aTi true λ_=>hm) z
theorem aTT(h:z.natAbs<=9223372036854775808)(J8:z<9223372036854775808):aB prog 63 [.int .i64 z] (bC z):=by
 obtain⟨m,hm⟩:∃ m,m=z.natAbs:=⟨_,rfl⟩;have aSO:m<18446744073709551616:=by omega
 have hb:OA 3 m:=⟨by
  have e:bz^3=4722366482869645213696:=by decide
  rw[e];omega,λ_=>.inr rfl,by omega⟩
 have iW:aj (aa bz 3 m)=[vI (m/bz^0%bz),vI (m/bz^1%bz),vI (m/bz^2%bz)]:=rfl;have hs:=λneg=>aBY neg hb;obtain⟨x0,mR⟩:∃ x,x=m/bz^0%bz:=⟨_,rfl⟩;obtain⟨x1,tH⟩:∃ x,x=m/bz^1%bz:=⟨_,rfl⟩;obtain⟨x2,gB⟩:∃ x,x=m/bz^2%bz:=⟨_,rfl⟩;rw[<-mR,<-tH,<-gB]at iW;rw[iW]at hs;have mR:m%16777216=x0:=by rw[mR,ri,DX]
 have tH:m/16777216%16777216=x1:=by rw[tH,BX]
 have gB:m/16777216/16777216=x2:=by rw[gB,show bz^2=16777216*16777216 by decide,<-kg];exact(dG (by show _<16777216;omega)).symm
 have u0:Int.tmod (m:Int) 16777216=(x0:Int):=by rw[ya o_];omega
 obtain⟨q,hq⟩:∃ q,q=m/16777216:=⟨_,rfl⟩;rw[<-hq]at tH gB;have uq:IntKind.u64.wrap (Int.tdiv (m:Int) 16777216)=(q:Int):=by rw[zW o_,jz];omega
 have u1:Int.tmod (q:Int) 16777216=(x1:Int):=by rw[ya o_];omega
 have u2:IntKind.u64.wrap (Int.tdiv (q:Int) 16777216)=(x2:Int):=by rw[zW o_,jz];omega
 have w0:IntKind.i64.wrap (x0:Int)=(x0:Int):=by rw[dO];omega
 have w1:IntKind.i64.wrap (x1:Int)=(x1:Int):=by rw[dO];omega
 have w2:IntKind.i64.wrap (x2:Int)=(x2:Int):=by rw[dO];omega
 have cA:∀ v∈[vI x0,vI x1,vI x2],flat v=true:=λv hv=>by simp at hv;rcases hv with rfl|rfl|rfl<;>rfl
 let tl:∀(Bs:ae) (t:Bool),bK prog Bs 25:=λBs t=>[.rw 11 (.bool (decide (z<0))) (.bool (decide (z<0))) rfl,.rw 13 (.int .u64 (Int.tmod (m:Int) 16777216)) (.int .u64 (x0:Int)) (by rw[u0]),.wr 14 .i64 (x0:Int) (x0:Int) w0,.wr 16 .u64 (Int.tdiv (m:Int) 16777216) (q:Int) uq,.rw 17 (.int .u64 (Int.tmod (q:Int) 16777216)) (.int .u64 (x1:Int)) (by rw[u1]),.wr 18 .i64 (x1:Int) (x1:Int) w1,.wr 20 .u64 (Int.tdiv (m:Int) 16777216) (q:Int) uq,.wr 21 .u64 (Int.tdiv (q:Int) 16777216) (x2:Int) u2,.wr 22 .i64 (x2:Int) (x2:Int) w2,.bs f63 23 1 3 3 1 [0,1,2] (vI 0) [vI x0,vI x1,vI x2] #[vI x0,vI x1,vI x2] (.row [vI x0,vI x1,vI x2] 3 1) rfl cA cA k_ rfl o_ o_ k_,.step 24 (au f63 24) _ _ _ _ (od (hs t) (.p rfl (.w (k:=1) (cc:=0) (x:=.row [vI x0,vI x1,vI x2] 3 1) rfl rfl n_ .nil)) (x:=.func 111) k_ k_ rfl)]
 by_cases hz:z<0
 ·have e2:sg true m=z:=by show -(m:Int)=z;omega
  rw[<-show bC (sg true m)=bC z by rw[e2]];exact aV func63 (λ_=>.wr 5 .u64 z (z+18446744073709551616) (by rw[jz];omega)::.rw 7 (.bool (decide (z<0))) b_ (by rw[aD hz])::
   .wr 9 .u64 (0-(z+18446744073709551616)) (m:Int) (by rw[jz];omega)::.rw 11 (.bool (decide (z<0))) b_ (by rw[aD hz])::(tl _ true).tail)
 ·have e2:sg false m=z:=by show(m:Int)=z;omega
  rw[<-show bC (sg false m)=bC z by rw[e2]];exact aV func63 (λ_=>.wr 5 .u64 z (m:Int) (by rw[jz];omega)::.rw 7 (.bool (decide (z<0))) a_ (by rw[aQ hz])::
   .rw 11 (.bool (decide (z<0))) a_ (by rw[aQ hz])::(tl _ false).tail)
theorem aTe(z:Int):aB prog 120 [bC z] (.int .i64 z.sign):=by
 refine ry (C:=λz v=>aB prog 120 [v] (.int .i64 z.sign)) (λm=>?_) (λm hm=>?_) z
 ·by_cases h:m=0
  ·subst h;exact aV func120 (λ_=>[(aTi false (m:=0) n_).at 5,.rw 10 (.bool ((BA (cz 0)).toList==(ByteArray.mk #[]).toList)) b_ (by rw[qj];rfl)])
  ·have e:((m:Nat):Int).sign=1:=yg o_;rw[e];exact aV func120 (λ_=>[(aTi false (m:=m) n_).at 5,.rw 10 (.bool ((BA (cz m)).toList==(ByteArray.mk #[]).toList)) a_ (by rw[qj,aQ h])])
 ·have e:(-(m:Int)).sign=-1:=D9 o_;rw[e];exact aV func120 (λ_=>[(aTi true (m:=m) (λ_=>hm)).at 5,.rw 10 (.bool ((BA (cz m)).toList==(ByteArray.mk #[]).toList)) a_ (by rw[qj,aQ hm])])
theorem aTu(z:Int):aB prog 110 [bC z] (bC (-z)):=by
 refine ry (C:=λz v=>aB prog 110 [v] (bC (-z))) (λm=>?_) (λm hm=>?_) z
 ·by_cases h:m=0
  ·subst h;have e:bC (-((0:Nat):Int))=.agg #[.bool false,.string ⟨#[]⟩]:=by show Value.agg #[.bool false,.string (BA (cz 0))]=_;rw[B4];rfl
   rw[e];exact aV func110 (λ_=>[(aTi false (m:=0) n_).at 4,.rw 9 (.bool ((BA (cz 0)).toList==(ByteArray.mk #[]).toList)) b_ (by rw[qj];rfl)])
  ·have e:=uQ true m;rw[<-show sg true m=-(m:Int)from rfl,<-e];unfold Ad;rw[aD h];exact aV func110 (λ_=>[(aTi false (m:=m) n_).at 4,.rw 9 (.bool ((BA (cz m)).toList==(ByteArray.mk #[]).toList)) a_ (by rw[qj,aQ h])])
 ·have e:=uQ false m;rw[IX,<-show sg false m=(m:Int)from rfl,<-e];exact aV func110 (λ_=>[(aTi true (m:=m) (λ_=>hm)).at 4,.rw 9 (.bool ((BA (cz m)).toList==(ByteArray.mk #[]).toList)) a_ (by rw[qj,aQ hm])])
theorem aMx(z:Int):aB prog 175 [bC z] (bC (z.natAbs:Int)):=by
 refine ry (C:=λz v=>aB prog 175 [v] (bC (z.natAbs:Int))) (λm=>?_) (λm hm=>?_) z
 ·exact aV func175 (λ_=>[(aTi false (m:=m) n_).at 4])
 ·rw[IW];exact aV func175 (λ_=>[(aTi true (m:=m) (λ_=>hm)).at 4])
section
variable{Bs:ae}{n a b:Nat}
def A5(n i:Nat):aL:=[(5,c8 i),(0,sl 0 n),(1,sl 1 n)]
def rS(n a b:Nat):aC:=[(0,.view (aj (aa bz n a))),(1,.view (aj (aa bz n b)))]
theorem sS{x y:Nat}(h:decide (x≠y)=t):Value.bool ((x:Int)!=(y:Int))=.bool t:=by
 rw[<-h];congr 1
 by_cases e:x=y
 ·subst e;simp
 ·rw[aD e,qg];omega
noncomputable def Us(n a b j:Nat)(hj:j<n)(t:Bool)(h:decide (a/bz^j%bz≠b/bz^j%bz)=t)(more:bK prog Bs 41):bK prog Bs 41:=
 .rw 19 (c8 (j+1)) (vI j) (dP j)::.ge 20 j 0 true s_::.rw 24 (c8 (j+1)) (vI j) (dP j)::.ix f178 25 0 n j hj k_::.ld f178 26 3 0 j (.view (aj (aa bz n a))) (vI (a/bz^j%bz)) rfl (dJ (dV hj)) k_::
  .rw 28 (c8 (j+1)) (vI j) (dP j)::.ix f178 29 1 n j hj k_::.ld f178 30 3 1 j (.view (aj (aa bz n b))) (vI (b/bz^j%bz)) rfl (dJ (dV hj)) k_::.rw 31 _ (.bool t) (sS h)::more
noncomputable def aB0(n a b j:Nat)(hj:j<n)(t:Bool)(h:decide (a/bz^j%bz<b/bz^j%bz)=t):bK prog Bs 41:=
 [.rw 33 (c8 (j+1)) (vI j) (dP j),.ix f178 34 0 n j hj k_,.ld f178 35 3 0 j (.view (aj (aa bz n a))) (vI (a/bz^j%bz)) rfl (dJ (dV hj)) k_,.rw 37 (c8 (j+1)) (vI j) (dP j),.ix f178 38 1 n j hj k_,.ld f178 39 3 1 j (.view (aj (aa bz n b))) (vI (b/bz^j%bz)) rfl (dJ (dV hj)) k_,.lt 40 (a/bz^j%bz) (b/bz^j%bz) t h]
theorem aMy(hj:j<n)(he:a/bz^j%bz=b/bz^j%bz)(h63:n<35184372088832):
  ag prog Bs 41 (aE (af f178 0)) (A5 n (j+1)) (rS n a b) 2 ⟨.normal,A5 n j,rS n a b,2⟩:=
 ay (Us n a b j hj false (by simp[he]) [.rw 21 (c8 (j+1)) (vI j) (dP j),.wr 22 .i64 ((j:Int)-1) ((j:Int)-1) (nU o_)])
theorem aMz(hj:j<n)(av:a/bz^j%bz<b/bz^j%bz):
  ag prog Bs 41 (aE (af f178 0)) (A5 n (j+1)) (rS n a b) 2 ⟨.ret,[(4,.int .i64 (-1))],rS n a b,2⟩:=
 ay (Us n a b j hj true (aD o_) (aB0 n a b j hj true (aD av)))
theorem aMA(hj:j<n)(av:b/bz^j%bz<a/bz^j%bz):
  ag prog Bs 41 (aE (af f178 0)) (A5 n (j+1)) (rS n a b) 2 ⟨.ret,[(4,.int .i64 1)],rS n a b,2⟩:=
 ay (Us n a b j hj true (aD o_) (aB0 n a b j hj false (aQ o_)))
theorem aMB:ag prog Bs 41 (aE (af f178 0)) (A5 n 0) (rS n a b) 2 ⟨.exit 0,[],rS n a b,2⟩:=
 ay [.rw 20 (.bool (decide (((0:Nat):Int)-1>=0))) a_ rfl]
theorem aMC(ha:a<bz^n)(hb:b<bz^n)(h63:n<35184372088832):
  ag prog Bs 41 (.block 0 (af f178 0)) (A5 n n) (rS n a b) 2 (if a=b then⟨.normal,[],rS n a b,2⟩else⟨.ret,[(4,.int .i64 (gH a b))],rS n a b,2⟩):=by
 obtain⟨e,h1,h2,h3⟩:=xW (λt=>¬(t<n/\a/bz^(n-1-t)%bz=b/bz^(n-1-t)%bz)) n o_;have we:=XL ha hb e h1 λs hs=>(DW.1 (h3 s hs)).2;have go:∀(r:kR),r.ex≠.normal->ag prog Bs 41 (aE (af f178 0)) (A5 n (n-e)) (rS n a b) 2 r->ag prog Bs 41 (.loop (aE (af f178 0))) (A5 n n) (rS n a b) 2 r:=by
  intro r hr uL
  exact cg (P:=prog) (B:=Bs) (N:=41) (b:=aE (af f178 0)) (next:=2) (r:=r) e (λi=>A5 n (n-i)) (λ_=>rS n a b) (λi k _=>Iff.rfl)
   (λi hi=>by
    have q:=DW.1 (h3 i hi);have e1:n-i=(n-(i+1))+1:=by omega
    have e2:n-1-i=n-(i+1):=by omega
    simp only[e1];exact aMy o_ (by rw[<-e2];exact q.2) h63) uL hr
 by_cases BV:e=n
 ·have bX:a=b:=by rw[BV,uN,ri,DX,DX]at we;exact we
  rw[aq bX];have:=go ⟨.exit 0,[],rS n a b,2⟩ n_ (by rw[BV,uN];exact aMB);exact bO (id:=0) this
 ·have hj:n-e=(n-1-e)+1:=by omega
  have aY:a/bz^(n-1-e)%bz≠b/bz^(n-1-e)%bz:=λh=>h2 ⟨by omega,h⟩;rw[hj]at we go;have bX:a≠b:=λh=>aY (by rw[h]);rw[al bX];rcases DA aY with av|r8
  ·have hl:=LX we av;have e1:gH a b=-1:=by unfold gH;rw[aq hl]
   rw[e1];exact bO (id:=0) (go _ n_ (aMz o_ av))
  ·have hl:=LX we.symm r8;have e1:gH a b=1:=by unfold gH;rw[al o_,aq hl]
   rw[e1];exact bO (id:=0) (go _ n_ (aMA o_ r8))
end
theorem Ut(h1:nd bz a<35184372088832)(h2:nd bz b<35184372088832):cJ prog 178 [jb a,jb b] (.int .i64 (gH a b)):=by
 have ha:=dL (B:=bz) d_ a;have hb:=dL (B:=bz) d_ b;have cP:nd bz a<nd bz b->a<b:=λh=>by
  rcases eQ a b with h1|h1
  ·exact h1
  ·have:=iO (B:=bz) d_ h1;omega
 have dz:nd bz b<nd bz a->b<a:=λh=>by
  rcases eQ b a with h1|h1
  ·exact h1
  ·have:=iO (B:=bz) d_ h1;omega
 have ax:([jb a,jb b].all aJ.ok)=true:=by simp[Hg]
 unfold jb cG at ax ⊢;generalize nd bz a=n at *;generalize nd bz b=m at *;by_cases kS:n=m
 ·subst kS;have lo:=λBs=>aMC (Bs:=Bs) ha hb h1;by_cases bX:a=b
  ·simp only[aq bX]at lo;have e1:gH a b=0:=by unfold gH;rw[al o_,al o_]
   rw[e1];exact jP mixed func178 ax 100 (N:=41) k_ (λw=>[.rw 10 _ a_ (sS (x:=n) (y:=n) s_),.wr 18 .i64 ((n:Int)-1) ((n:Int)-1) (nU o_),.code 0 _ _ _ _ _ (lo _)]) (λw=>k_) rfl
  ·simp only[al bX]at lo;exact jP mixed func178 ax 100 (N:=41) k_ (λw=>[.rw 10 _ a_ (sS (x:=n) (y:=n) s_),.wr 18 .i64 ((n:Int)-1) ((n:Int)-1) (nU o_),.code 0 _ _ _ _ _ (lo _)]) (λw=>k_) rfl
 ·rcases DA kS with av|r8
  ·have e1:gH a b=-1:=by unfold gH;rw[aq (cP av)]
   rw[e1];exact jP mixed func178 ax 100 (N:=41) k_ (λw=>[.rw 10 _ b_ (sS (x:=n) (y:=m) (aD kS)),.lt 15 n m true (aD av)]) (λw=>k_) rfl
  ·have e1:gH a b=1:=by unfold gH;rw[al (by have:=dz r8;omega),aq (dz r8)]
   rw[e1];exact jP mixed func178 ax 100 (N:=41) k_ (λw=>[.rw 10 _ b_ (sS (x:=n) (y:=m) (aD kS)),.lt 15 n m false (aQ o_)]) (λw=>k_) rfl
section
variable{Bs:ae}{m:Nat}{neg:Bool}
def CS(m i:Nat):aL:=[(5,vI i),(1,ptr 0),(4,.int .u64 ((m/256^(nd 256 m-i):Nat):Int))]
def CT(neg:Bool)(m:Nat):aC:=[(0,.aH [.bool neg,.string (BA (cz m))] 37)]
theorem aMD{m:Nat}(h:i<nd 256 m):∃ c,(BA (cz m))[nd 256 m-1-i]?=some c/\c.toNat=m/256^i%256:=by
 obtain⟨c,h1,h2⟩:=Q0 (BA (cz m)) (i:=i) (by rw[nT,sE];exact h);rw[nT,sE]at h1;refine⟨c,h1,?_⟩;rw[h2]
 congr 2
 show fB (BA (cz m)).data.toList=m;exact D2 m
theorem aME(hi:i<nd 256 m)(hm:nd 256 m<=7):
  ag prog Bs 52 (aE (af f205 0)) (CS m i) (CT neg m) 1 ⟨.normal,CS m (i+1),CT neg m,1⟩:=by
 have av:m<256^7:=cy (dL (B:=256) d_ m) (cX d_ hm);obtain⟨c,fU,c7⟩:=aMD (m:=m) (i:=nd 256 m-1-i) o_;have bE:(((BA (cz m)).size:Nat):Int)=(nd 256 m:Int):=by rw[nT,sE]
 unfold CS CT;generalize BA (cz m)=s at *;generalize nd 256 m=L at *;rw[show L-1-(L-1-i)=i by omega]at fU;obtain⟨j,hj⟩:∃ j,j=L-1-i:=⟨_,rfl⟩;have e1:L-i=j+1:=by omega
 have e2:L-(i+1)=j:=by omega
 rw[e1,e2];rw[<-hj]at c7;have hd:m/256^j=m/256^(j+1)*256+m/256^j%256:=vV m j;rw[<-c7]at hd;have hq:m/256^(j+1)<=m:=sB _ _;have pd:m/256^(j+1)*256<=m:=by rw[dh,<-kg];exact c9 (B8 _ _) (sB _ _)
 generalize m/256^(j+1)=x at *;generalize m/256^j=y at *;have hc3:=c.toNat_lt;have Uu:(256:Nat)^7=72057594037927936:=by decide
 rw[Uu]at av;have ws:IntKind.u64.wrap ((x:Int)*2^8)=((x*256:Nat):Int):=by rw[show((x:Int)*2^8)=((x*256:Nat):Int)by simp,jz];omega
 have wc:IntKind.u64.wrap (c.toNat:Int)=(c.toNat:Int):=by rw[jz];omega
 have wa:IntKind.u64.wrap (((x*256:Nat):Int)+(c.toNat:Int))=(y:Int):=by rw[jz];omega
 exact ay [.rw 18 (.int .i64 (s.size:Int)) (vI L) (by rw[bE];rfl),.lt 19 i L true (aD hi),.wr 23 .u64 ((x:Int)*2^8) _ ws,.sx f205 27 s i c fU k_,.wr 28 .u64 (c.toNat:Int) _ wc,.wr 29 .u64 _ _ wa,.sum 21 i 1 (i+1) rfl o_]
theorem aMF(hm:nd 256 m<=7):ag prog Bs 52 (.block 0 (af f205 0)) (CS m 0) (CT neg m) 1 ⟨.normal,CS m (nd 256 m),CT neg m,1⟩:=
 bO (id:=0) (cg (b:=aE (af f205 0)) (r:=⟨.exit 0,CS m (nd 256 m),CT neg m,1⟩) (nd 256 m) (CS m) (λ_=>CT neg m) (λ_ _ _=>Iff.rfl) (λk hk=>aME hk hm)
  (ay [.rw 18 (.int .i64 ((BA (cz m)).size:Int)) (vI (nd 256 m)) (by rw[nT,sE];rfl),.lt 19 (nd 256 m) (nd 256 m) false s_]) n_)
end
theorem aMG{neg:Bool}(hv:neg=true->m≠0)(hm:nd 256 m<=7):aB prog 205 [sv neg m] (.tuple #[.int .i64 (sg neg m),.bool true]):=by
 have lo:=λBs=>aMF (Bs:=Bs) (neg:=neg) hm;have av:m<256^7:=cy (dL (B:=256) d_ m) (cX d_ hm);have Uu:(256:Nat)^7=72057594037927936:=by decide
 rw[Uu]at av;have e0:m/256^(nd 256 m-0)=0:=lq (dL (B:=256) d_ m);have e1:m/256^(nd 256 m-nd 256 m)=m:=by rw[uN,ri,DX]
 unfold CS at lo;simp only[e0,e1]at lo;have bE:(((BA (cz m)).size:Nat):Int)=(nd 256 m:Int):=by rw[nT,sE]
 have mo:=aTi neg hv;unfold CT at lo;unfold sv oK at mo ⊢;generalize BA (cz m)=s at *;generalize nd 256 m=L at *;have hle:decide ((L:Int)>8)=false:=aQ o_;cases neg
 ·have w:IntKind.i64.wrap (m:Int)=(m:Int):=by rw[dO];omega
  exact aV func205 (λ_=>[mo.at 7,.rw 12 (.int .i64 (s.size:Int)) (vI L) (by rw[bE];rfl),.rw 13 (.bool (decide ((L:Int)>8))) a_ (by rw[hle]),.code 0 _ _ _ _ _ (lo _),.rw 48 (.bool (decide ((m:Int)<9223372036854775808))) b_ (by rw[aD o_]),.wr 51 .i64 (m:Int) (m:Int) w])
 ·have w0:IntKind.u64.wrap ((m:Int)-1)=(m:Int)-1:=by have:=hv rfl;rw[jz];omega
  have w1:IntKind.i64.wrap ((m:Int)-1)=(m:Int)-1:=by rw[dO];omega
  have w2:IntKind.i64.wrap (0-((m:Int)-1))=1-(m:Int):=by rw[dO];omega
  have w3:IntKind.i64.wrap (1-(m:Int)-1)=sg true m:=by rw[dO];show _=-(m:Int);omega
  exact aV func205 (λ_=>[mo.at 7,.rw 12 (.int .i64 (s.size:Int)) (vI L) (by rw[bE];rfl),.rw 13 (.bool (decide ((L:Int)>8))) a_ (by rw[hle]),.code 0 _ _ _ _ _ (lo _),.rw 35 (.bool (decide ((m:Int)<=9223372036854775808))) b_ (by rw[aD o_]),.wr 38 .u64 _ _ w0,.wr 39 .i64 _ _ w1,.wr 40 .i64 _ _ w2,.wr 41 .i64 _ _ w3])
theorem Uv{neg:Bool}(hv:neg=true->m≠0)(hm:nd 256 m<=7):aB prog 158 [sv neg m] (.tuple #[.int .i64 (sg neg m),.bool true]):=by
 have h:=aMG hv hm;have bE:(((BA (cz m)).size:Nat):Int)=(nd 256 m:Int):=by rw[nT,sE]
 unfold sv oK at h ⊢;generalize BA (cz m)=s at *;generalize nd 256 m=L at *;exact aV func158 (λ_=>[.rw 8 (.int .i64 (s.size:Int)) (vI L) (by rw[bE];rfl),.rw 9 (.bool (decide ((L:Int)>7))) a_ (by rw[aQ o_]),h.at 12])
theorem aMH{neg:Bool}(hm:¬nd 256 m<=7):aB prog 158 [sv neg m] (.tuple #[.int .i64 0,.bool false]):=by
 have bE:(((BA (cz m)).size:Nat):Int)=(nd 256 m:Int):=by rw[nT,sE]
 unfold sv oK;generalize BA (cz m)=s at *;generalize nd 256 m=L at *;exact aV func158 (λ_=>[.rw 8 (.int .i64 (s.size:Int)) (vI L) (by rw[bE];rfl),.rw 9 (.bool (decide ((L:Int)>7))) b_ (by rw[aD o_])])
section
variable{Bs:ae}{N:Nat}
theorem aMI(m:Nat):(nd 256 m+2)/3=nd bz m:=by
 have e:bz=256^3:=by decide
 have h1:nd bz m<=(nd 256 m+2)/3:=iN d_ (by rw[e,<-rj];exact cy (dL (B:=256) d_ m) (cX d_ o_))
 have h2:nd 256 m<=3*nd bz m:=iN d_ (by have:=dL (B:=bz) d_ m;rw[e,<-rj]at this;rw[e];exact this)
 omega
theorem aB1(h:nd 256 m<35184372088832):ko prog 159 [.p (oK m)] 3 1 (nd bz m) (cG m):=by
 have hs:(BA (cz m)).size=nd 256 m:=by rw[nT,sE]
 have hv:jY (BA (cz m))=m:=by show fB (BA (cz m)).data.toList=m;exact D2 m
 have:=aLU (s:=BA (cz m)) (by rw[hs];exact h);rw[hs,hv,aMI]at this;exact this
theorem mV{x:Obj}(hr:x.reads=true)(hc:x.cells=cG a){nd':q_}(h:gk Bs l vs nd'):gk Bs (jb a::l) (sl k (nd bz a)::vs) ((k,some x)::nd'):=by unfold jb;rw[<-hc];exact .w hr (by rw[hc];exact rP a) (λe=>by rw[hc];exact aLn e) h
def iF(a:Nat):Obj:=.row (cG a) 3 1
def aO.xa(fn:Func)(key k m:Nat)(h:nd 256 m<35184372088832)(ho:da (au fn key).op=some (.func 159)):aO prog Bs N:=
 .step key (au fn key) [.func (.func 159) #[] #[],oK m] [(k,none)] (sl k (nd bz m)) [(k,iF m)] (rI (aB1 h) (.p rfl .nil) ho k_ (rP m) k)
def aO.aB2(fn:Func)(key k k1 k2 a b:Nat)(x1 x2:Obj)(sT:x1.reads=true)(fU:x1.cells=cG a)(mJ:x2.reads=true)(c7:x2.cells=cG b)(h1:nd bz a<35184372088832)(h2:nd bz b<35184372088832)
  (ho:da (au fn key).op=some (.func 177)):aO prog Bs N:=
 .step key (au fn key) [.func (.func 177) #[] #[],sl k1 (nd bz a),sl k2 (nd bz b)] [(k,none),(k1,some x1),(k2,some x2)] (sl k (nd bz (a+b))) [(k,iF (a+b))] (rI (aBQ h1 h2) (mV sT fU (mV mJ c7 .nil)) ho k_ (rP _) k)
def aO.Kk(fn:Func)(key k k1 k2 a b:Nat)(x1 x2:Obj)(sT:x1.reads=true)(fU:x1.cells=cG a)(mJ:x2.reads=true)(c7:x2.cells=cG b)(bX:b<=a)(h1:nd bz a<35184372088832)
  (ho:da (au fn key).op=some (.func 179)):aO prog Bs N:=
 .step key (au fn key) [.func (.func 179) #[] #[],sl k1 (nd bz a),sl k2 (nd bz b)] [(k,none),(k1,some x1),(k2,some x2)] (sl k (nd bz (a-b))) [(k,iF (a-b))] (rI (aMc bX h1) (mV sT fU (mV mJ c7 .nil)) ho k_ (rP _) k)
def aO.aMJ(fn:Func)(key k k1 k2 a b:Nat)(x1 x2:Obj)(sT:x1.reads=true)(fU:x1.cells=cG a)(mJ:x2.reads=true)(c7:x2.cells=cG b)(h:nd bz a+nd bz b<35184372088832)
  (ho:da (au fn key).op=some (.func 160)):aO prog Bs N:=
 .step key (au fn key) [.func (.func 160) #[] #[],sl k1 (nd bz a),sl k2 (nd bz b)] [(k,none),(k1,some x1),(k2,some x2)] (sl k (nd bz (a*b))) [(k,iF (a*b))] (rI (Up h) (mV sT fU (mV mJ c7 .nil)) ho k_ (rP _) k)
def aO.Hj(fn:Func)(key k1 k2 a b:Nat)(x1 x2:Obj)(sT:x1.reads=true)(fU:x1.cells=cG a)(mJ:x2.reads=true)(c7:x2.cells=cG b)(h1:nd bz a<35184372088832)(h2:nd bz b<35184372088832)
  (ho:da (au fn key).op=some (.func 178)):aO prog Bs N:=
 .step key (au fn key) [.func (.func 178) #[] #[],sl k1 (nd bz a),sl k2 (nd bz b)] [(k1,some x1),(k2,some x2)] (.int .i64 (gH a b)) [] (od (Ut h1 h2) (mV sT fU (mV mJ c7 .nil)) ho k_ rfl)
def aO.yQ(fn:Func)(key k1 a:Nat)(neg:Bool)(x1:Obj)(sT:x1.reads=true)(fU:x1.cells=cG a)(h1:nd bz a<35184372088832)
  (ho:da (au fn key).op=some (.func 111)):aO prog Bs N:=
 .step key (au fn key) [.func (.func 111) #[] #[],.bool neg,sl k1 (nd bz a)] [(k1,some x1)] (bC (sg neg a)) [] (od (aBY neg (aMw h1)) (.p rfl (mV sT fU .nil)) ho k_ rfl)
theorem xb{n:Nat}(h:m<2^n):nd bz m<=n:=iN d_ (cy h (YU d_ n))
end
theorem aMK(h:decide (b<=a)=t):Value.bool (decide (gH a b>=0))=.bool t:=by
 rw[<-h];congr 1;rw[pe];unfold gH
 by_cases h1:a<b
 ·rw[aq h1];omega
 ·rw[al h1];by_cases h2:b<a
  ·rw[aq h2];omega
  ·rw[al h2];omega
theorem Kl(h:nd 256 m<=7):m<72057594037927936:=by have av:m<256^7:=cy (dL (B:=256) d_ m) (cX d_ h);rwa[show(256:Nat)^7=72057594037927936 by decide]at av
theorem Hk(n:Bool)(m:Nat):-(m:Int)<=sg n m/\sg n m<=m:=by cases n<;>simp[sg]<;>omega
theorem Hl{n:Bool}(v:n=true->m≠0):∃(t:Bool) (i:Int),decide (nd 256 m<=7)=t/\aB prog 158 [sv n m] (.tuple #[.int .i64 i,.bool t])/\-72057594037927936<i/\i<72057594037927936/\(t=true->i=sg n m):=by
 by_cases s:nd 256 m<=7
 ·have g:=Hk n m;have l:=Kl s;exact⟨true,_,aD s,Uv v s,by omega,by omega,λ_=>rfl⟩
 ·exact⟨false,_,aQ s,aMH s,by decide,by decide,λh=>by cases h⟩
theorem Uw{n:Nat}(hk:m<2^k)(hn:k<n):nd bz m<n:=eP (xb hk) hn
theorem aTG{n1 n2:Bool}{p:Nat}(v1:n1=true->m1≠0)(v2:n2=true->m2≠0)(h1:m1<2^p)(h2:m2<2^q)(hp:p<=1099511627776)(hq:q<=1099511627776):
  aB prog 124 [sv n1 m1,sv n2 m2] (bC (sg n1 m1+sg n2 m2)):=by
 have b1:=xb h1;have b2:=xb h2;have c1:=uR h1;have c2:=uR h2;obtain⟨t1,i1,_,q1,l1,u1,g1⟩:=Hl v1;obtain⟨t2,i2,_,q2,l2,u2,g2⟩:=Hl v2;have bp:nd bz (m1+m2)<35184372088832:=by have e1:=cX (show 0<2 by decide) (show p<=p+q by omega);have e2:=cX (show 0<2 by decide) (show q<=p+q by omega);exact Uw (k:=p+q+1) (by rw[dh];omega) o_
 have k1:=iO (B:=bz) d_ (Ea m1 m2);have k2:=iO (B:=bz) d_ (Ea m2 m1);obtain⟨ge,a,b,fJ,bX,ha,e⟩:∃(ge:Bool) (a b:Nat),decide (m2<=m1)=ge/\b<=a/\(a=bif ge then m1 else m2)/\(b=bif ge then m2 else m1):=by
  by_cases h:m2<=m1
  ·exact⟨true,m1,m2,aD h,h,rfl,rfl⟩
  ·exact⟨false,m2,m1,aQ h,by omega,rfl,rfl⟩
 subst ha e;have bm:nd bz ((bif ge then m1 else m2)-bif ge then m2 else m1)<35184372088832:=by cases ge<;>(dsimp only[cond];omega)
 have ba:nd bz (bif ge then m1 else m2)<35184372088832:=by cases ge<;>(dsimp only[cond];omega)
 have e:bC (sg n1 m1+sg n2 m2)=bif t1&&t2 then bC (i1+i2)else bif n1==n2 then bC (sg n1 (m1+m2))else bC (sg (bif ge then n1 else n2) ((bif ge then m1 else m2)-bif ge then m2 else m1)):=by
  cases t1<;>cases t2<;>try (rw[g1 rfl,g2 rfl];rfl)
  all_goals cases n1<;>cases n2<;>cases ge<;>simp[sg]at fJ bX ⊢<;>congr 1<;>omega
 rw[e];have w:=aTi n1 v1;have w2:=aTi n2 v2;refine eX mixed func124 100 (λ_=>[w.at 12,w2.at 16,q1.at 22]++(bif t1 then[q2.at 28]else[])++bif t1&&t2 then[.wr 34 .i64 (i1+i2) (i1+i2) (by rw[dO];omega),(aTT (z:=i1+i2) o_ o_).at 35]else
   [.xa f124 38 3 m1 o_ k_,.xa f124 41 4 m2 o_ k_]++bif n1==n2 then[.aB2 f124 52 5 3 4 m1 m2 (iF m1) (iF m2) rfl rfl rfl rfl o_ o_ k_,.yQ f124 53 5 (m1+m2) n1 (iF (m1+m2)) rfl rfl bp k_]else
   [.Hj f124 57 3 4 m1 m2 (iF m1) (iF m2) rfl rfl rfl rfl o_ o_ k_,.rw 58 _ (.bool ge) (aMK fJ)]++
   bif ge then[.Kk f124 63 5 3 4 _ _ (iF _) (iF _) rfl rfl rfl rfl bX ba k_,.yQ f124 64 5 _ n1 (iF _) rfl rfl bm k_]else
   [.Kk f124 69 5 4 3 _ _ (iF _) (iF _) rfl rfl rfl rfl bX ba k_,.yQ f124 70 5 _ n2 (iF _) rfl rfl bm k_]) (λ_=>?_) k_ ?_<;>cases t1<;>cases t2<;>cases n1<;>cases n2<;>cases ge<;>kernel_rfl
theorem aTj{x:Int}{p:Nat}(h1:x.natAbs<2^p)(h2:y.natAbs<2^q)(hp:p<=1099511627776)(hq:q<=1099511627776):aB prog 124 [bC x,bC y] (bC (x+y)):=by revert h1 h2;refine Eb (C:=λx y v u=>x.natAbs<2^p->y.natAbs<2^q->aB prog 124 [v,u] (bC (x+y))) (λn1 n2 m1 m2 v1 v2 h1 h2=>?_) x y;rw[pz]at h1 h2;exact aTG v1 v2 h1 h2 hp hq
theorem aTM{x:Int}{p:Nat}(h1:x.natAbs<2^p)(h2:y.natAbs<2^q)(hp:p<=1099511627776)(hq:q<=1099511627776):aB prog 108 [bC x,bC y] (bC (x-y)):=
 aV func108 (λ_=>[(aTH x).at 6,(aTH y).at 10,(aTu y).at 16,(aTj h1 (by rw[IW];exact h2) hp hq).at 17])
theorem Km(m:Nat):Value.int .i64 ((BA (cz m)).size:Int)=vI (nd 256 m):=by rw[nT,sE];rfl
theorem aTF{x:Int}{p:Nat}(h1:x.natAbs<2^p)(h2:y.natAbs<2^q)(hp:p<=1099511627776)(hq:q<=1099511627776):aB prog 109 [bC x,bC y] (bC (x*y)):=by
 revert h1 h2;refine Eb (C:=λx y v u=>x.natAbs<2^p->y.natAbs<2^q->aB prog 109 [v,u] (bC (x*y))) (λn1 n2 m1 m2 v1 v2 h1 h2=>?_) x y;rw[pz]at h1 h2;have b1:=xb h1;have b2:=xb h2;have c1:=uR h1;have c2:=uR h2;have k1:=dL (B:=256) d_ m1;have k2:=dL (B:=256) d_ m2;have r1:=Km m1;have r2:=Km m2;have e:sg n1 m1*sg n2 m2=sg (n1 !=n2) (m1*m2):=by cases n1<;>cases n2<;>simp[sg,Gj,Gk]
 obtain⟨t1,i1,d1,q1,_,_,g1⟩:=Hl v1;obtain⟨t2,i2,d2,q2,_,_,g2⟩:=Hl v2;have bs:nd bz (m1*m2)<35184372088832:=Uw (k:=p+q) (by rw[dX];exact pg h1 h2) o_;obtain⟨t,ht⟩:∃ t,decide (((nd 256 m1+nd 256 m2:Nat):Int)<=7)=t:=⟨_,rfl⟩;have e2:bC (sg n1 m1*sg n2 m2)=bif t then bC (IntKind.i64.wrap (i1*i2))else bC (sg (n1 !=n2) (m1*m2)):=by
  rw[e];cases t
  ·rfl
  have hs:=lC ht;rw[g1 (by rw[<-d1];exact aD o_),g2 (by rw[<-d2];exact aD o_),e,dO];have h:m1*m2<256^(nd 256 m1+nd 256 m2):=by rw[dX];exact pg k1 k2
  have h7:=cX (n:=256) d_ (show nd 256 m1+nd 256 m2<=7 by omega);rw[show(256:Nat)^7=72057594037927936 by decide]at h7;have g:=Hk (n1 !=n2) (m1*m2);show _=bC _
  congr 1;omega
 rw[e2];have hw:-9223372036854775808<=IntKind.i64.wrap (i1*i2)/\IntKind.i64.wrap (i1*i2)<9223372036854775808:=by rw[dO];omega
 have w:=aTi n1 v1;have w2:=aTi n2 v2;unfold sv oK at *;generalize Z1:nd 256 m1=L1 at *;generalize hL2:nd 256 m2=L2 at *;refine eX mixed func109 100 (λ_=>[w.at 10,w2.at 14,.rw 20 _ (vI L1) r1,.rw 23 _ (vI L2) r2,.sum 24 L1 L2 (L1+L2) rfl o_,.rw 25 (.bool (decide (((L1+L2:Nat):Int)<=7))) (.bool t) (by rw[ht])]++bif t then[q1.at 28,q2.at 33,.wr 38 .i64 (i1*i2) _ rfl,(aTT (z:=IntKind.i64.wrap (i1*i2)) o_ o_).at 39]else
   [.xa f109 47 3 m1 o_ k_,.xa f109 50 4 m2 o_ k_,.aMJ f109 51 5 3 4 m1 m2 (iF m1) (iF m2) rfl rfl rfl rfl o_ k_,.yQ f109 52 5 (m1*m2) (n1 !=n2) (iF (m1*m2)) rfl rfl bs k_]) (λ_=>?_) k_ ?_<;>cases t<;>cases n1<;>cases n2<;>kernel_rfl
theorem aS5{x:Int}{p:Nat}(h1:x.natAbs<2^p)(h2:y.natAbs<2^q)(hp:p<=1099511627776)(hq:q<=1099511627776):aB prog 157 [bC x,bC y] (.int .i64 (x-y).sign):=by
 have w1:=aTH x;have w2:=aTH y;have s1:=aTe x;have s2:=aTe y;have CU:∀ z:Int,z.sign=-1/\z<0\/z.sign=0/\z=0\/z.sign=1/\0<z:=λz=>by
  rcases MP z 0 with h|h|h
  ·exact .inl ⟨D9 h,h⟩
  ·exact .inr (.inl ⟨by rw[h];rfl,h⟩)
  ·exact .inr (.inr ⟨yg h,h⟩)
 have b1:=xb h1;have b2:=xb h2;have c1:=uR h1;have c2:=uR h2;by_cases hs:x.sign=y.sign
 ·have ho:x.sign*gH x.natAbs y.natAbs=(x-y).sign:=by unfold gH;rcases CU x with ⟨a1,a2⟩|⟨a1,a2⟩|⟨a1,a2⟩<;>rcases CU y with ⟨d1,d2⟩|⟨d1,d2⟩|⟨d1,d2⟩<;>rcases CU (x-y)with ⟨f1,f2⟩|⟨f1,f2⟩|⟨f1,f2⟩<;>rw[a1,f1]<;>rw[a1,d1]at hs<;>first|(exfalso;omega)|(split<;>first|omega|(split<;>omega))
  have hw:IntKind.i64.wrap (x.sign*gH x.natAbs y.natAbs)=(x-y).sign:=by rw[ho,dO];rcases CU (x-y)with ⟨f1,f2⟩|⟨f1,f2⟩|⟨f1,f2⟩<;>rw[f1]<;>rfl
  rw[<-hs]at s2;exact aV func157 (λ_=>[w1.at 8,w2.at 12,s1.at 16,s2.at 18,.rw 21 (.bool (x.sign !=x.sign)) a_ s_,.xa f157 28 2 x.natAbs o_ k_,.xa f157 31 3 y.natAbs o_ k_,.Hj f157 32 2 3 x.natAbs y.natAbs (iF x.natAbs) (iF y.natAbs) rfl rfl rfl rfl o_ o_ k_,.wr 33 .i64 _ _ hw])
 ·have aY:(x.sign !=y.sign)=true:=qg.2 hs;by_cases av:x.sign<y.sign
  ·have e:(x-y).sign=-1:=by rcases CU x with ⟨a1,a2⟩|⟨a1,a2⟩|⟨a1,a2⟩<;>rcases CU y with ⟨d1,d2⟩|⟨d1,d2⟩|⟨d1,d2⟩<;>rw[a1,d1]at av<;>first|omega|exact D9 o_
   rw[e];exact aV func157 (λ_=>[w1.at 8,w2.at 12,s1.at 16,s2.at 18,.rw 21 (.bool (x.sign !=y.sign)) b_ (by rw[aY]),.rw 24 (.bool (decide (x.sign<y.sign))) b_ (by rw[aD av])])
  ·have e:(x-y).sign=1:=by rcases CU x with ⟨a1,a2⟩|⟨a1,a2⟩|⟨a1,a2⟩<;>rcases CU y with ⟨d1,d2⟩|⟨d1,d2⟩|⟨d1,d2⟩<;>rw[a1,d1]at av hs<;>first|omega|exact yg o_
   rw[e];exact aV func157 (λ_=>[w1.at 8,w2.at 12,s1.at 16,s2.at 18,.rw 21 (.bool (x.sign !=y.sign)) b_ (by rw[aY]),.rw 24 (.bool (decide (x.sign<y.sign))) a_ (by rw[aQ av])])

section
variable{P:j_}{B:ae}{N:Nat}
def Ux(o:Oper):Bool:=match o.op with
 |.call c=>match c.callee,c.args.toList with
  |.builtin .min,[_,_]=>true
  |_,_=>false
 |_=>false
theorem aML(ho:Ux o=true)(hr:r=min a b):ct P B o [vI a,vI b] [] (vI r) []:=by
 unfold Ux at ho;split at ho
 ·rename_i c bM;split at ho
  ·rename_i p q h1 h2;refine(Bl (λu hu=>by simp at hu;rcases hu with rfl|rfl<;>rfl) rfl λρ fA w _=>?_).step;obtain⟨ce,ar,at'⟩:=c;dsimp only at h1 h2;subst h1;have e1:ar=#[p,q]:=by rw[<-yw (xs:=ar),h2]
   subst e1;rw[bM]at fA;simp[Op.operands,Call.operands]at fA;simp[execOp,bM,resolve,invoke,builtin,Builtin.min_,Builtin.min2,fA.1,fA.2,vI,hr];split<;>omega
  ·cases ho
 ·cases ho
def aO.OB(fn:Func)(key a b r:Nat)(hr:r=min a b)(ho:Ux (au fn key)=true):aO P B N:=
 .step key (au fn key) [vI a,vI b] [] (vI r) [] (aML ho hr)
theorem aMM{cells:ak}(gV:P.follows .mixedOrders=true)(hf:P.funcs[f]?=some fn)(hl:(l.all aJ.ok)=true)(n:Nat){N:Nat}(hN:N=(eE 0 l).length+(fn.ntmps-(eE 0 l).length))
  (rs:∀ w,bK P (ae.at w) N) (h:∀ w,nO (gu (P:=P) fn n (eE 0 l) (iY 0 l) (jq 0 l) (rs w)) [(k,.row cells ty size)]=nP (gu fn n (eE 0 l) (iY 0 l) (jq 0 l) (rs w)) (.tuple #[.slice (some ⟨k,0,some 7⟩) m 0,u]) [(k,.row cells ty size)])
  (hx:(cells.all flat)=true) (hlen:m*size<=cells.length) (mT:cells.take (m*size)=xs) (hu:flat u=true):G6 P f l ty size m xs u:=by
 intro w vs cB;obtain⟨ι,c,h1,h2,h3,h4,h5,h6,h7⟩:=wL cB (aX.1 hl) 0 _ _ (sj w) n_ (λ_ _=>rfl);refine tA gV hf hN n (h w) h6 h2 h4 h3 λao bP v' w' hle hc hm dD=>?_;obtain⟨cU,rfl,aU⟩:=hc.tg;obtain⟨p,q,hp,h8,h9⟩:=iH aU;have e:cU=#[p,q]:=uE.1 (by rw[hp]);subst e;rw[h9.eW hu];have:=uJ hm (dD (k,_) (aN ..)) h8 hlen (aX.1 hx);rw[mT]at this;exact⟨p,rfl,this,hm.base⟩
theorem aMN{n:Nat}{cells:ak}(ho:da o.op=some x)(eB:fN P f=true)(hn:0<n)(cA:∀ v∈cells,flat v=true)(zQ:∀ v∈xs,flat v=true)(hu:flat u=true)(jJ:0<m)
  (h:∀ w g cap cur,w.heap[g]?=some (.cells cur ty (0,0))->n<=cap->cap<=maxLen->cur.size=cap*1->cur.toList.take cells.length=cells->Calls P f #[.slice (some ⟨g,0,none⟩) n cap] w λe w'=>∃ z c',e=.returned (.tuple #[.slice (some ⟨g,z,none⟩) m c',u])/\zO g w w'/\(∃ fv,w'.heap[g]?=some (.cells fv ty (0,0))/\fv.size=cap*1)/\cZ w' (.slice (some ⟨g,z,none⟩) m c') m xs) :
  ct P B o [.func (.func f) #[] #[],.slice (some ⟨k,0,some 7⟩) n 0] [(k,some (.row cells ty 1)),(j,none)] (.tuple #[.slice (some ⟨j,0,some 7⟩) m 0,u]) [(j,.view xs),(k,.dead)]:=by
 refine jy (fi:=[]) (ca:=[]) ho eB λι c w hm jA args' aU=>?_;rw[jg,gO]at aU;obtain⟨v,rfl,hv⟩:=lO aU;have hk:c k=some (.row cells ty 1):=jA (k,_) s_;have hj:c j=none:=jA (j,none) s_;rcases hv.gK rfl with ⟨_,h0,_⟩|⟨g,oo,cap,c',hb,kQ,lP,he⟩
 ·omega
 ·dsimp only at hb he;have lR:c'=cap:=by omega
  subst lR;obtain⟨l,q1,q2⟩:=hm.born k _ hk;rw[hb]at q1;injection q1 with q1;subst q1;rcases q2 with q2|⟨b,bf,cur,e1,lk,dC,e7,jI⟩
  ·cases q2.1
  ·injection e1 with e1 e2 e3;subst e1;subst e2;subst e3;rw[he];refine(h w g c' cur lk kQ dC e7 (mD jI cA)).mono ?_
   rintro e w' ⟨z,c2,rfl,pj,⟨fv,p1,p2⟩,iW⟩
   have m1:=hm.write (y:=.row [] ty 1) hk rfl hb pj.os pj.tape pj.output pj.size (λj hj DT=>pj.block j hj DT) (.inr ⟨g,c',fv,rfl,p1,dC,p2,.nil⟩) n_ rfl;have m2:=m1.kill k (by unfold aT;rw[aq rfl];exact n_);have bL:j≠k:=λe=>by rw[e,hk]at hj;cases hj
   have hj2:aT (aT c k (.row [] ty 1)) k .dead j=none:=by unfold aT;rw[al bL,al bL];exact hj
   obtain⟨ao,q1,q2,q3⟩:=xT m2 hj2 iW zQ (λb o c3 e j' y o' bf gA hy tx=>by
    injection e with e _ _;injection e with e;injection e with e _ _;subst e;unfold aT at gA;by_cases OC:j'=k
    ·rw[aq OC]at gA;injection gA with gA;subst gA;cases hy
    ·rw[al OC,al OC]at gA;exact OC (hm.inj j' k y _ _ _ _ _ _ gA hy hk rfl tx hb))
   refine⟨ao,_,rfl,q1,.tup (.cons q3 (.cons (.same hu) .nil)),?_⟩;refine q2.ext λi=>?_;show aT (aT c k .dead) j (.view xs) i=_;unfold aT;by_cases h1:i=j
   ·rw[aq h1,aq h1]
   ·rw[al h1,al h1];by_cases h2:i=k
    ·rw[aq h2,aq h2]
    ·rw[al h2,al h2,al h2]
theorem aB3(x:Int)(k:Nat)(hk:k<=62):IntKind.i64.wrap (((BitVec.ofInt IntKind.i64.bits x)&&& (BitVec.ofInt IntKind.i64.bits (((2^k-1:Nat)):Int))).toNat:Int)=x%((2^k:Nat):Int):=by
 show IntKind.i64.wrap (((BitVec.ofInt 64 x)&&& (BitVec.ofInt 64 (((2^k-1:Nat)):Int))).toNat:Int)=_;have h2:2^k<=2^62:=cX d_ hk;have h62:(2:Nat)^62=4611686018427387904:=by decide
 have hp:0<2^k:=cE d_;have e1:(BitVec.ofInt 64 (((2^k-1:Nat)):Int)).toNat=2^k-1:=by rw[BitVec.toNat_ofInt];omega
 have e2:((BitVec.ofInt 64 x).toNat:Int)=x%18446744073709551616:=by rw[BitVec.toNat_ofInt];omega
 rw[BitVec.toNat_and,e1,Nat.and_two_pow_sub_one_eq_mod,dO];have hd:((2^k:Nat):Int) ∣ 18446744073709551616:=by refine⟨((2^(64-k):Nat):Int),?_⟩;rw[<-nh,<-dX,show k+(64-k)=64 by omega];rfl
 have e3:(((BitVec.ofInt 64 x).toNat%2^k:Nat):Int)=x%((2^k:Nat):Int):=by rw[Uy,e2,Int.emod_emod_of_dvd _ hd]
 have h3:(BitVec.ofInt 64 x).toNat%2^k<2^k:=cC _ hp;rw[<-e3];omega
end
section
variable{Bs:ae}{n a d:Nat}
def aS4(n a d i:Nat):aL:=[(8,c8 i),(6,sl 1 n),(7,vI (a/bz^i%d)),(0,sl 0 n),(1,vI d)]
def aTx(n a d i:Nat):aC:=[(0,.view (aj (aa bz n a))),(1,.row (aj (gh bz n i (a/d))) 3 1)]
theorem aTQ(hj:j<n)(hd:0<d)(lY:d<bz)(h63:n<35184372088832):
  ag prog Bs 38 (aE (af f244 0)) (aS4 n a d (j+1)) (aTx n a d (j+1)) 2 ⟨.normal,aS4 n a d j,aTx n a d j,2⟩:=by
 have bH:eM prog 3 (aj (gh bz n (j+1) (a/d))) j (vI (a/d/bz^j%bz))=some (aj (gh bz n j (a/d))):=by rw[vh (by rw[LU];exact hj),LW hj rfl]
 have ku:dB prog 3 (aj (aa bz n a)) j=some (vI (a/bz^j%bz)):=dJ (dV hj);have hr:a/bz^(j+1)%d<d:=cC _ hd;have hx:=gG (B:=bz) d_ a j;obtain⟨q1,q2⟩:=XK (B:=bz) d_ hd (jm lY) a j;have jt:bz=16777216:=rfl;unfold aS4 aTx;generalize aj (gh bz n (j+1) (a/d))=r0 at *;generalize aj (gh bz n j (a/d))=r1 at *;generalize aj (aa bz n a)=ra at *;generalize a/d/bz^j%bz=z at *;generalize a/bz^(j+1)%d=r at *;generalize a/bz^j%d=r' at *;generalize a/bz^j%bz=x at *;have mJ:r<16777216:=by omega
 have hp:r*bz<281474976710656:=by rw[jt];omega
 generalize hpe:r*bz=p at *;have Cc:(d:Int)≠0:=by omega
 have w1:IntKind.i64.wrap (Int.tdiv ((p+x:Nat):Int) (d:Int))=(z:Int):=by have hq:(p+x)/d<=p+x:=sB _ _;rw[zW o_,<-sA,q1,dO];omega
 have w2:Int.tmod ((p+x:Nat):Int) (d:Int)=(r':Int):=by rw[ya o_,<-Uy,q2]
 exact ay [.rw 15 (c8 (j+1)) (vI j) (dP j),.ge 16 j 0 true s_,.rR 20 r bz p hpe.symm o_,.rw 22 (c8 (j+1)) (vI j) (dP j),.ix f244 23 0 n j hj k_,.ld f244 24 3 0 j (.view ra) (vI x) rfl ku k_,.sum 25 p x (p+x) rfl o_,.rw 27 (c8 (j+1)) (vI j) (dP j),.uK f244 30 .i64 ((p+x:Nat):Int) (d:Int) (z:Int) Cc w1 k_,.ix f244 31 1 n j hj k_,.st f244 100031 3 1 j (.row r0 3 1) (vI z) (.row r1 3 1) rfl bH rfl k_,.zR f244 34 .i64 ((p+x:Nat):Int) (d:Int) (r':Int) Cc w2 k_,.rw 17 (c8 (j+1)) (vI j) (dP j),.wr 18 .i64 ((j:Int)-1) ((j:Int)-1) (nU o_)]
theorem aTD(hd:0<d)(lY:d<bz)(h63:n<35184372088832):
  ag prog Bs 38 (.block 0 (af f244 0)) (aS4 n a d n) (aTx n a d n) 2 ⟨.normal,aS4 n a d 0,aTx n a d 0,2⟩:=by
 have:=cg (P:=prog) (B:=Bs) (N:=38) (b:=aE (af f244 0)) (next:=2) (r:=⟨.exit 0,aS4 n a d 0,aTx n a d 0,2⟩) n (λi=>aS4 n a d (n-i)) (λi=>aTx n a d (n-i))
  (λi k _=>jx (l:=aTx n a d (n-i)) (m:=aTx n a d (n-0)) rfl k)
  (λi hi=>by
   have e:n-i=(n-(i+1))+1:=by omega
   simp only[e];exact aTQ o_ hd lY h63)
  (by
   have e:n-n=0:=by omega
   simp only[e];exact ay [.rw 16 (.bool (decide (((0:Nat):Int)-1>=0))) a_ rfl]) n_
 exact bO this
end
theorem aB4(hd:0<d)(lY:d<bz)(h1:nd bz a<35184372088832):G6 prog 244 [jb a,.p (vI d)] 3 1 (nd bz (a/d)) (cG (a/d)) (vI (a%d)):=by
 have ha:=dL (B:=bz) d_ a;have ax:([jb a,aJ.p (vI d)].all aJ.ok)=true:=by simp[Hg];rfl
 unfold jb cG at ax ⊢;change G6 _ _ _ _ _ _ (cG (a/d)) _;generalize nd bz a=n at *;have hs:a/d<bz^n:=eP (sB _ _) ha;have e0:a/bz^n%d=0:=by rw[lq ha];exact Nat.zero_mod _
 have e1:a/bz^0%d=a%d:=by rw[ri,DX]
 have lo:=λBs=>aTD (Bs:=Bs) (n:=n) (a:=a) hd lY h1;have ez:List.replicate n (vI 0)=aj (gh bz n n (a/d)):=by rw[LV,J9]
 unfold aS4 aTx at lo;rw[e0,e1,<-ez,Iw]at lo;generalize a%d=r at *;exact aMM (k:=1) mixed func244 ax 100 (N:=38) k_ (λw=>[.pf f244 11 1 n 3 8 (vI 0) (List.replicate n (vI 0)) rfl rfl rfl o_ (by simp[maxLen];omega) k_,.wr 14 .i64 ((n:Int)-1) ((n:Int)-1) (nU o_),.code 0 _ _ _ _ _ (lo _),.CM f244 36 1 n (a/d) (.row (aj (aa bz n (a/d))) 3 1) rfl rfl hs o_ k_])
   (λw=>k_) (gQ _) (ET hs) (A2 hs) rfl
section
variable{B:Nat}
def sX(B U V q i:Nat):Int:=((U%B^i:Nat):Int)-(q:Int)*((V%B^i:Nat):Int)
def qK(B U V q i:Nat):Int:=sX B U V q i/((B^i:Nat):Int)
theorem aMO(U V q:Nat):qK B U V q 0=0:=by simp[qK,sX,su]
theorem aMP(U V q i:Nat):sX B U V q (i+1)=sX B U V q i+(((U/B^i%B:Nat):Int)-(q:Int)*((V/B^i%B:Nat):Int))*((B^i:Nat):Int):=by unfold sX;rw[oF U i,oF V i];simp only[uP,nh,Int.sub_mul,Int.mul_add,Kn];omega
theorem Uz(hB:0<B)(U V q i:Nat):qK B U V q i+(((U/B^i%B:Nat):Int)-(q:Int)*((V/B^i%B:Nat):Int))=sX B U V q (i+1)/((B^i:Nat):Int):=by
 have hp:((B^i:Nat):Int)≠0:=by have:=cE (n:=i) hB;omega
 rw[aMP,YZ _ _ hp];rfl
theorem aMQ(hB:0<B)(U V q i:Nat):(qK B U V q i+(((U/B^i%B:Nat):Int)-(q:Int)*((V/B^i%B:Nat):Int)))/(B:Int)=qK B U V q (i+1):=by
 have hp:(0:Int)<=((B^i:Nat):Int):=by omega
 rw[Uz hB,Int.ediv_ediv_of_nonneg hp];unfold qK
 congr 1
theorem aMR(hB:0<B)(U V q i:Nat):(sX B U V q i)%((B^i:Nat):Int)=((U:Int)-(q:Int)*(V:Int))%((B^i:Nat):Int):=by
 unfold sX;have e1:(U:Int)=((U%B^i:Nat):Int)+((B^i:Nat):Int)*((U/B^i:Nat):Int):=by rw[<-nh,<-uP,Nat.mod_add_div]
 have e2:(V:Int)=((V%B^i:Nat):Int)+((B^i:Nat):Int)*((V/B^i:Nat):Int):=by rw[<-nh,<-uP,Nat.mod_add_div]
 have e3:(U:Int)-(q:Int)*(V:Int)=(((U%B^i:Nat):Int)-(q:Int)*((V%B^i:Nat):Int))+((B^i:Nat):Int)*(((U/B^i:Nat):Int)-(q:Int)*((V/B^i:Nat):Int)):=by
  conv=>lhs;rw[e1,e2]
  rw[Int.mul_add,Int.mul_sub,Int.mul_left_comm (q:Int) ((B^i:Nat):Int)];omega
 rw[e3,aMS]
theorem aMT(hB:0<B){V:Nat}(hq:q*V<=U+B^(m+1)):((fC B m U V q:Nat):Int)=((U:Int)-(q:Int)*(V:Int))%((B^(m+1):Nat):Int):=by
 unfold fC;rw[Uy,Int.natCast_sub hq,uP,nh];have:(U:Int)+((B^(m+1):Nat):Int)-(q:Int)*(V:Int)=((U:Int)-(q:Int)*(V:Int))+((B^(m+1):Nat):Int):=by omega
 rw[this,Int.add_emod_right]
theorem aMU(hB:0<B){V:Nat}(hq:q*V<=U+B^(m+1))(hi:i<=m):
  (qK B U V q i+(((U/B^i%B:Nat):Int)-(q:Int)*((V/B^i%B:Nat):Int)))%(B:Int)=((fC B m U V q/B^i%B:Nat):Int):=by
 rw[Uz hB];have hp:(0:Int)<=((B^i:Nat):Int):=by omega
 have jB:0<((B^i:Nat):Int):=by have:=cE (n:=i) hB;omega
 -- both are the same digit of the number aSP B^(i+1)
 have key:∀ x y:Int,x%((B^(i+1):Nat):Int)=y%((B^(i+1):Nat):Int)->x/((B^i:Nat):Int)%(B:Int)=y/((B^i:Nat):Int)%(B:Int):=by
  intro x y h;have one:∀ z:Int,z/((B^i:Nat):Int)%(B:Int)=z%((B^(i+1):Nat):Int)/((B^i:Nat):Int):=by
   intro z;have e:=Int.emod_add_mul_ediv z ((B^(i+1):Nat):Int);have hs:((B^(i+1):Nat):Int)=((B^i:Nat):Int)*(B:Int):=by rw[dh,nh]
   have e2:z/((B^i:Nat):Int)=z%((B^(i+1):Nat):Int)/((B^i:Nat):Int)+(B:Int)*(z/((B^(i+1):Nat):Int)):=by
    have h3:z=z%((B^(i+1):Nat):Int)+((B^i:Nat):Int)*((B:Int)*(z/((B^(i+1):Nat):Int))):=by rw[<-Kn,<-hs];exact e.symm
    conv=>lhs;rw[h3]
    rw[Int.add_mul_ediv_left _ _ o_]
   rw[e2,aMS];refine Int.emod_eq_of_lt (Int.ediv_nonneg (Int.emod_nonneg _ (by have:=cE (n:=i+1) hB;omega)) hp) ?_;have h4:z%((B^(i+1):Nat):Int)<((B^(i+1):Nat):Int):=Int.emod_lt_of_pos _ (by have:=cE (n:=i+1) hB;omega);rw[hs]at h4;exact Int.ediv_lt_of_lt_mul jB (by rw[R2];exact h4)
  rw[one,one,h]
 have h1:=key (sX B U V q (i+1)) ((fC B m U V q:Nat):Int) (by
  rw[aMR hB,aMT hB hq];have hd:((B^(i+1):Nat):Int) ∣ ((B^(m+1):Nat):Int):=by refine⟨((B^(m-i):Nat):Int),?_⟩;rw[<-nh,<-dX];congr 2;omega
  rw[Int.emod_emod_of_dvd _ hd])
 rw[h1];simp only[Uy,sA]
theorem aMV(hB:0<B){V:Nat}(hV:V<B^m)(hU:U<V*B)(hb:q*V<U+V):
  qK B U V q m+((U/B^m%B:Nat):Int)=if U<q*V then -1 else((fC B m U V q/B^m%B:Nat):Int):=by
 have B9:U<B^(m+1):=by rw[dh];exact cy hU (eR _ (jm hV))
 have Rq:V<=B^(m+1):=c9 (jm hV) (cX hB o_);have hp:0<B^m:=cE hB;have h0:V/B^m%B=0:=qe hV (aZ _) hB;have h1:=Uz hB U V q m;rw[h0,Int.natCast_zero,Int.mul_zero,Int.sub_zero]at h1;rw[h1];unfold sX;rw[dG B9,dG (cy hV (cX hB o_))];by_cases h:U<q*V
 ·rw[aq h];have e:(U:Int)-(q:Int)*(V:Int)=((U+B^m-q*V:Nat):Int)+((B^m:Nat):Int)*(-1):=by have:((q*V:Nat):Int)=(q:Int)*(V:Int):=nh ..;omega
  rw[e,Int.add_mul_ediv_left _ _ o_,<-sA,lq o_];rfl
 ·rw[al h];have e:(U:Int)-(q:Int)*(V:Int)=((U-q*V:Nat):Int):=by have:((q*V:Nat):Int)=(q:Int)*(V:Int):=nh ..;omega
  have e2:fC B m U V q=U-q*V:=by
   unfold fC;have:U+B^(m+1)-q*V=(U-q*V)+B^(m+1):=by omega
   rw[this,IL,dG o_]
  have av:(U-q*V)/B^m<B:=by rw[gY hp,cH B,<-dh];show U-q*V<B^(m+1);omega
  rw[e,e2,dG av,<-sA]
theorem aMW(hB:0<B){V:Nat}(hV:V<B^m)(hU:U<V*B)(hb:q*V<U+V)(h:U<q*V):eC B (fC B m U V q) V m=1:=by
 have Rq:V<=B^m:=jm hV;have hp:0<B^m:=cE hB;have hs:B^(m+1)=B^m*B:=dh ..;have B9:U<B^(m+1):=by rw[hs];exact cy hU (eR _ Rq)
 have hBm:B^m<=B^(m+1):=cX hB o_;obtain⟨t,ht⟩:∃ t,t=q*V-U:=⟨_,rfl⟩;have e1:fC B m U V q=B^(m+1)-t:=by unfold fC;rw[dG o_];omega
 have e2:(B^(m+1)-t)%B^m=B^m-t:=by
  obtain⟨c,hc⟩:∃ c,B=c+1:=⟨B-1,by omega⟩;have:B^(m+1)-t=(B^m-t)+B^m*c:=by
   have e3:B^m*B=B^m*c+B^m:=by rw[<-LR,Nat.succ_eq_add_one,<-hc]
   rw[hs,e3];omega
  rw[this,DQ,dG o_]
 unfold eC;rw[e1,e2,dG hV];have:B^m-t+V=(V-t)+1*B^m:=by omega
 rw[this,oG _ _ hp,lq o_]
end
theorem aB5{B:Nat}(hB:0<B)(U V q i:Nat):-(q:Int)<=qK B U V q i/\qK B U V q i<=0:=by
 unfold qK sX;have hp:0<B^i:=cE hB;have h1:U%B^i<B^i:=cC _ hp;have h2:V%B^i<B^i:=cC _ hp;have h3:=iX q (jm h2);generalize U%B^i=u at *;generalize V%B^i=v at *;have e1:(q:Int)*(v:Int)=((q*v:Nat):Int):=by simp
 rw[e1];generalize q*v=s at *;generalize B^i=b at *;constructor
 ·rw[Int.le_ediv_iff_mul_le o_];have:-(q:Int)*(b:Int)=-((q*b:Nat):Int):=by simp[Gj]
  rw[this];omega
 ·have:((u:Int)-(s:Int))/(b:Int)<1:=Int.ediv_lt_of_lt_mul o_ o_;omega
section
variable{Bs:ae}{e L j T v1 v2 u2:Nat}{ru rv:ak}
def xc(e L j T q:Nat):aL:=[(15,vI q),(9,sl 3 (e+2)),(10,vI (e+2)),(14,vI T),(11,sl 8 L),(13,c8 (j+1))]
def xd(ru rv:ak):aC:=[(8,.row ru 3 1),(3,.row rv 3 1)]
structure GU(e L j T v1 v2 u2:Nat)(ru rv:ak):Prop where
 hL:j+(e+2)+1<=L
 l1:dB prog 3 rv (e+1)=some (vI v1)
 l0:dB prog 3 rv e=some (vI v2)
 lu:dB prog 3 ru (j+e)=some (vI u2)
 b1:v1<bz
 b0:v2<bz
 bu:u2<bz
 h63:L<35184372088832
noncomputable def UA(g:GU e L j T v1 v2 u2 ru rv)(q r:Nat)(hq:q<bz)(hr:q*v1+r=T)(mJ:r<2*bz)(t:Bool)(ht:decide (r*bz+u2<q*v2)=t)(more:bK prog Bs 238):bK prog Bs 238:=
 .eO 102 (e+2) 2 e o_ (by have:=g.hL;have:=g.h63;omega)::.ix f230 103 3 (e+2) e o_ k_::.ld f230 104 3 3 e (.row rv 3 1) (vI v2) rfl g.l0 k_::
 .rR 105 q v2 (q*v2) rfl (by
  have:=pg hq g.b0;have jt:bz*bz=281474976710656:=by decide
  omega)::.eO 110 (e+2) 1 (e+1) o_ (by have:=g.hL;have:=g.h63;omega)::.ix f230 111 3 (e+2) (e+1) o_ k_::.ld f230 112 3 3 (e+1) (.row rv 3 1) (vI v1) rfl g.l1 k_::
 .rR 113 q v1 (q*v1) rfl (by
  have:=pg hq g.b1;have jt:bz*bz=281474976710656:=by decide
  omega)::.eO 114 T (q*v1) r o_ (by
  have:=pg hq g.b1;have jt:bz*bz=281474976710656:=by decide
  have jt:bz=16777216:=rfl;omega)::.rR 115 r bz (r*bz) rfl (by
  have jt:bz=16777216:=rfl;rw[jt];omega)::.rw 117 (c8 (j+1)) (vI j) (dP j)::.sum 119 j (e+2) (j+(e+2)) rfl (by have:=g.hL;have:=g.h63;omega)::.eO 120 (j+(e+2)) 2 (j+e) o_ (by have:=g.hL;have:=g.h63;omega)::
 .ix f230 121 8 L (j+e) (by have:=g.hL;omega) k_::.ld f230 122 3 8 (j+e) (.row ru 3 1) (vI u2) rfl g.lu k_::.sum 123 (r*bz) u2 (r*bz+u2) rfl (by have:=g.bu;have jt:bz=16777216:=rfl;rw[jt];omega)::.gt 124 (q*v2) (r*bz+u2) t ht::more
noncomputable def aB6(g:GU e L j T v1 v2 u2 ru rv)(q r:Nat)(hq:q<bz)(hr:q*v1+r=T)(mJ:r<2*bz)(t:Bool)(ht:decide (r<bz)=t)(more:bK prog Bs 238):bK prog Bs 238:=
 .eO 130 (e+2) 1 (e+1) o_ (by have:=g.hL;have:=g.h63;omega)::.ix f230 131 3 (e+2) (e+1) o_ k_::.ld f230 132 3 3 (e+1) (.row rv 3 1) (vI v1) rfl g.l1 k_::
 .rR 133 q v1 (q*v1) rfl (by
  have:=pg hq g.b1;have jt:bz*bz=281474976710656:=by decide
  omega)::.eO 134 T (q*v1) r o_ (by
  have:=pg hq g.b1;have jt:bz*bz=281474976710656:=by decide
  have jt:bz=16777216:=rfl;omega)::.lt 135 r bz t ht::more
theorem aMX(g:GU e L j T v1 v2 u2 ru rv)(hq:q+1<bz)(hr:(q+1)*v1+r=T)(mJ:r<bz)(ht:r*bz+u2<(q+1)*v2):
  ag prog Bs 238 (aE (af f230 2)) (xc e L j T (q+1)) (xd ru rv) 10 ⟨.normal,xc e L j T q,xd ru rv,10⟩:=
 fo mixed 200 (UA g (q+1) r hq hr o_ true (aD ht) (aB6 g (q+1) r hq hr o_ true (aD mJ) [.eO 138 (q+1) 1 q rfl (by have jt:bz=16777216:=rfl;omega)])) k_
theorem aMY(g:GU e L j T v1 v2 u2 ru rv)(hq:q<bz)(hr:q*v1+r=T)(mJ:r<2*bz)(ht:¬r*bz+u2<q*v2):
  ag prog Bs 238 (aE (af f230 2)) (xc e L j T q) (xd ru rv) 10 ⟨.exit 2,xc e L j T q,xd ru rv,10⟩:=
 fo mixed 200 (UA g q r hq hr mJ false (aQ ht) []) k_
theorem aMZ(g:GU e L j T v1 v2 u2 ru rv)(hq:q<bz)(hr:q*v1+r=T)(mJ:r<2*bz)(ht:r*bz+u2<q*v2)(Nn:¬r<bz):
  ag prog Bs 238 (aE (af f230 2)) (xc e L j T q) (xd ru rv) 10 ⟨.exit 2,xc e L j T q,xd ru rv,10⟩:=
 fo mixed 200 (UA g q r hq hr mJ true (aD ht) (aB6 g q r hq hr mJ false (aQ Nn) [])) k_
theorem aM0(g:GU e L j T v1 v2 u2 ru rv){V:Nat}(h:lB bz e U V T u2 v1 v2)(oJ:n2=min (T/v1) (bz-1)):
  ∃ q,q<bz/\q*V<U+V/\U/V<=q/\∀ Bs,ag prog Bs 238 (.block 2 (af f230 2)) (xc e L j T n2) (xd ru rv) 10 ⟨.normal,xc e L j T q,xd ru rv,10⟩:=by
 have jt:bz=16777216:=rfl;have j8:0<v1:=by have:=h.top;omega
 have sU:=h.small;have bH:=h.start;have aSQ:n2<bz:=by rw[oJ];exact eP (Nat.min_le_right _ _) o_
 have aSR:n2*v1<=T:=by
  have h1:n2<=T/v1:=by rw[oJ];exact Nat.min_le_left _ _
  exact c9 (eR _ h1) (B8 _ _)
 obtain⟨r0,oL⟩:∃ r0,r0=T-n2*v1:=⟨_,rfl⟩;have g0:Aa U V T v1 n2 r0:=⟨by omega,by rw[oJ];exact Nat.le_min.2 ⟨bH.le,by omega⟩⟩
 have aM1:r0<2*bz:=by
  have hTb:T<v1*bz+bz:=by
   have h1:U<V*bz:=h.hU;rw[h.hT,gY (cE d_)];have h2:V<(v1+1)*bz^(e+1):=by rw[h.j8];exact(gY (cE d_)).1 (F5 _)
   have h3:=Ab h2 (show 0<bz by decide);have h4:(v1+1)*bz^(e+1)*bz=(v1*bz+bz)*bz^(e+1):=by rw[Ae,e8 v1 1 bz,ph]
   omega
  by_cases hc:T/v1<=bz-1
  ·have e1:n2=T/v1:=by rw[oJ];exact mE hc
   have e2:r0=T%v1:=by have:=iP T v1;rw[oL,e1,cH];omega
   have:=cC T j8;have:=h.B6;omega
  ·have e1:n2=bz-1:=by rw[oJ];exact UB o_
   obtain⟨k,hk⟩:∃ k,bz=k+1:=⟨bz-1,by omega⟩;have e2:n2*v1+v1=v1*bz:=by rw[e1,hk,Mk,cH v1,e8,ph]
   have:=h.B6;omega
 obtain⟨c,c1,c2,c3⟩:=xW (λi=>¬((r0+i*v1)*bz+u2<(n2-i)*v2/\r0+i*v1<bz)) n2 (by rw[uN,kT];omega)
 have inv:∀ i,i<=c->Aa U V T v1 (n2-i) (r0+i*v1)/\r0+i*v1<2*bz/\i<=n2:=by
  intro i;induction i with
  |zero=>intro _;rw[FF,kT,iJ];exact⟨g0,aM1,kB _⟩
  |succ i ih=>
   intro hi;obtain⟨i1,i2,i3⟩:=ih o_;obtain⟨k1,k2⟩:=DW.1 (c3 i o_);obtain⟨l1,l2⟩:=h.less i1 (.inr k1);have e1:r0+(i+1)*v1=r0+i*v1+v1:=by rw[e8,ph];omega
   have e2:n2-(i+1)=n2-i-1:=by omega
   have:=h.B6;rw[e1,e2];exact⟨l2,by omega,by omega⟩
 obtain⟨gc,gb,gq⟩:=inv c (aZ _);have CV:=h.fin gc (by
  by_cases k1:(r0+c*v1)*bz+u2<(n2-c)*v2
  ·exact .inr (Nu λk2=>c2 ⟨k1,k2⟩)
  ·exact .inl ⟨by omega,by omega⟩)
 refine⟨n2-c,CV.1,CV.2,gc.le,λBs=>?_⟩
 have:=cg (P:=prog) (B:=Bs) (N:=238) (b:=aE (af f230 2)) (next:=10) (r:=⟨.exit 2,xc e L j T (n2-c),xd ru rv,10⟩) c (λi=>xc e L j T (n2-i)) (λ_=>xd ru rv) (λ_ _ _=>Iff.rfl)
  (λi hi=>by
   obtain⟨i1,i2,i3⟩:=inv i o_;obtain⟨j1,j2,j3⟩:=inv (i+1) o_;obtain⟨k1,k2⟩:=DW.1 (c3 i hi);obtain⟨q,hq⟩:∃ q,n2-i=q+1:=⟨n2-i-1,by omega⟩;have AK:n2-(i+1)=q:=by omega
   simp only[hq,AK]at i1 k1 ⊢;exact aMX g o_ i1.eq k2 k1)
  (by
   by_cases k1:(r0+c*v1)*bz+u2<(n2-c)*v2
   ·exact aMZ g o_ gc.eq gb k1 (λk2=>c2 ⟨k1,k2⟩)
   ·exact aMY g o_ gc.eq gb k1) n_
 exact bO (id:=2) this
end
theorem aB7(x:Int):IntKind.i64.wrap (((BitVec.ofInt IntKind.i64.bits x)&&& (BitVec.ofInt IntKind.i64.bits 16777215)).toNat:Int)=x%16777216:=aB3 x 24 d_
theorem aB8(x:Int):x.fdiv ((2:Int)^24)=x/16777216:=rh _ d_
section
variable{Bs:ae}{e L j U V q R D:Nat}{rv:ak}
def CW(e L j U V q i:Nat):aL:=[(16,.int .i64 (qK bz U V q i)),(17,vI i),(10,vI (e+2)),(11,sl 8 L),(13,c8 (j+1)),(15,vI q),(9,sl 3 (e+2))]
def oU(L j R D i:Nat):ak:=aj (cQ bz L (j+i) (fR bz j R D) R)
def yR(L j R D i:Nat)(rv:ak):aC:=[(8,.row (oU L j R D i) 3 1),(3,.row rv 3 1)]
structure SU(e L j U V q R D:Nat)(rv:ak):Prop where
 hL:j+(e+2)+1<=L
 hU:U=R/bz^j
 xe:rv=aj (aa bz (e+2) V)
 hq:q<bz
 hD:D=fC bz (e+2) U V q
 Ko:q*V<=U+bz^(e+2+1)
 h63:L<35184372088832
theorem aM2(g:SU e L j U V q R D rv)(hi:i<e+2):
  ag prog Bs 238 (aE (af f230 4)) (CW e L j U V q i) (yR L j R D i rv) 10 ⟨.normal,CW e L j U V q (i+1),yR L j R D (i+1) rv,10⟩:=by
 have h63:=g.h63;have hL:=g.hL;have hq:=g.hq;have hc:=aB5 (B:=bz) d_ U V q i;have hs:=aMU (B:=bz) d_ (i:=i) g.Ko o_;rw[<-g.hD]at hs;have c7:=aMQ (B:=bz) d_ U V q i;have UC:dB prog 3 (oU L j R D i) (j+i)=some (vI (U/bz^i%bz)):=by have:=dJ (BH (B:=bz) (n:=L) (i:=j+i) (s:=fR bz j R D) (p:=R) (j:=j+i) o_ (aZ _));rw[F7,<-g.hU]at this;exact this
 have UD:dB prog 3 rv i=some (vI (V/bz^i%bz)):=by rw[g.xe];exact dJ (dV hi)
 have bH:eM prog 3 (oU L j R D i) (j+i) (vI (D/bz^i%bz))=some (oU L j R D (i+1)):=by unfold oU;rw[vh (by rw[vU];omega),xX o_ (wm d_ j R D i).symm];rfl
 have hu:=gG (B:=bz) d_ U i;have hv:=gG (B:=bz) d_ V i;have jt:bz=16777216:=rfl;have aM3:((bz:Nat):Int)=16777216:=rfl;rw[aM3]at hs c7;unfold CW yR;generalize oU L j R D (i+1)=r1 at *;generalize oU L j R D i=r0 at *;generalize qK bz U V q (i+1)=c' at *;generalize qK bz U V q i=c at *;generalize D/bz^i%bz=z at *;generalize U/bz^i%bz=u at *;generalize V/bz^i%bz=v at *;have hp:=pg hq hv;rw[show bz*bz=281474976710656 by decide]at hp;have e1:(q:Int)*(v:Int)=((q*v:Nat):Int):=by simp
 rw[e1]at hs c7;generalize UE:q*v=p at *;have w1:IntKind.i64.wrap ((u:Int)-(p:Int))=(u:Int)-(p:Int):=by rw[dO];omega
 have w2:IntKind.i64.wrap (c+((u:Int)-(p:Int)))=c+((u:Int)-(p:Int)):=by rw[dO];omega
 generalize hx:c+((u:Int)-(p:Int))=x at *;have w3:=aB7 x;rw[hs]at w3;have w4:=aB8 x;rw[c7]at w4;exact fo mixed 200 [.lt 141 i (e+2) true (by simp[hi]),.rw 146 (c8 (j+1)) (vI j) (dP j),.sum 148 j i (j+i) rfl o_,.ix f230 149 8 L (j+i) o_ k_,.ld f230 150 3 8 (j+i) (.row r0 3 1) (vI u) rfl UC k_,.ix f230 154 3 (e+2) i hi k_,.ld f230 155 3 3 i (.row rv 3 1) (vI v) rfl UD k_,.rR 156 q v p UE.symm o_,.wr 157 .i64 _ _ w1,.wr 158 .i64 (c+((u:Int)-(p:Int))) x (by rw[hx];exact w2),.rw 160 (c8 (j+1)) (vI j) (dP j),.sum 162 j i (j+i) rfl o_,.wr 164 .i64 _ (z:Int) w3,.ix f230 165 8 L (j+i) o_ k_,.st f230 100165 3 8 (j+i) (.row r0 3 1) (vI z) (.row r1 3 1) rfl bH rfl k_,.quo 167 .i64 _ c' w4,.sum 143 i 1 (i+1) rfl o_] k_
theorem aM4(g:SU e L j U V q R D rv):ag prog Bs 238 (.block 4 (af f230 4)) (CW e L j U V q 0) (yR L j R D 0 rv) 10 ⟨.normal,CW e L j U V q (e+2),yR L j R D (e+2) rv,10⟩:=
 bO (id:=4) (cg (b:=aE (af f230 4)) (r:=⟨.exit 4,CW e L j U V q (e+2),yR L j R D (e+2) rv,10⟩) (e+2) (CW e L j U V q) (λi=>yR L j R D i rv) (λk t _=>jx (l:=yR L j R D k rv) (m:=yR L j R D 0 rv) rfl t) (λk hk=>aM2 g hk)
  (fo mixed 200 [.lt 141 (e+2) (e+2) false s_] k_) n_)
def CX(e L j V D q i:Nat):aL:=[(16,vI (eC bz D V i)),(18,vI i),(10,vI (e+2)),(11,sl 8 L),(13,c8 (j+1)),(15,vI q),(9,sl 3 (e+2))]
def pR(L j R D E m i:Nat):ak:=(aj (cQ bz L (j+i) (fR bz j R E) (fR bz j R D))).set (j+m) (.int .i64 (-1))
def yS(L j R D E m i:Nat)(rv:ak):aC:=[(8,.row (pR L j R D E m i) 3 1),(3,.row rv 3 1)]
theorem aM5{E:Nat}(hL:j+(e+2)+1<=L)(xe:rv=aj (aa bz (e+2) V))(hE:E=(D+V)%bz^(e+2+1))(h63:L<35184372088832)(hi:i<e+2):
  ag prog Bs 238 (aE (af f230 6)) (CX e L j V D q i) (yS L j R D E (e+2) i rv) 10 ⟨.normal,CX e L j V D q (i+1),yS L j R D E (e+2) (i+1) rv,10⟩:=by
 have hc:=zM (B:=bz) d_ D V i;have hs:=Rr (B:=bz) (V:=V) d_ (D:=D) (show i<=e+2 by omega);rw[<-hE]at hs;have c7:=DP (B:=bz) d_ D V i;have UC:dB prog 3 (pR L j R D E (e+2) i) (j+i)=some (vI (D/bz^i%bz)):=by unfold pR;rw[EL,List.getElem?_set_ne o_,<-EL,dJ (BH o_ (aZ _)),wm d_]
 have UD:dB prog 3 rv i=some (vI (V/bz^i%bz)):=by rw[xe];exact dJ (dV hi)
 have bH:eM prog 3 (pR L j R D E (e+2) i) (j+i) (vI (E/bz^i%bz))=some (pR L j R D E (e+2) (i+1)):=by unfold pR;unfold vI;rw[Om _ _ _ (by rw[UF,mU,vU];omega),List.set_comm _ _ o_];have:=On (cQ bz L (j+i) (fR bz j R E) (fR bz j R D)) (j+i) (E/bz^i%bz);unfold vI at this;rw[this,xX o_ (wm d_ j R E i).symm];rfl
 have hu:=gG (B:=bz) d_ D i;have hv:=gG (B:=bz) d_ V i;have jt:bz=16777216:=rfl;unfold CX yS;generalize pR L j R D E (e+2) (i+1)=r1 at *;generalize pR L j R D E (e+2) i=r0 at *;generalize eC bz D V (i+1)=c' at *;generalize eC bz D V i=c at *;generalize E/bz^i%bz=z at *;generalize D/bz^i%bz=u at *;generalize V/bz^i%bz=v at *;rw[show u+v+c=c+(u+v)by omega]at hs c7;have w3:=aB7 ((c+(u+v):Nat):Int);have w4:=aB8 ((c+(u+v):Nat):Int);rw[show((c+(u+v):Nat):Int)%16777216=(z:Int)by rw[<-hs];rfl]at w3;rw[show((c+(u+v):Nat):Int)/16777216=(c':Int)by rw[<-c7];rfl]at w4;exact fo mixed 200 [.lt 188 i (e+2) true (by simp[hi]),.rw 193 (c8 (j+1)) (vI j) (dP j),.sum 195 j i (j+i) rfl o_,.ix f230 196 8 L (j+i) o_ k_,.ld f230 197 3 8 (j+i) (.row r0 3 1) (vI u) rfl UC k_,.ix f230 200 3 (e+2) i hi k_,.ld f230 201 3 3 i (.row rv 3 1) (vI v) rfl UD k_,.sum 202 u v (u+v) rfl o_,.sum 203 c (u+v) (c+(u+v)) rfl o_,.rw 205 (c8 (j+1)) (vI j) (dP j),.sum 207 j i (j+i) rfl o_,.wr 209 .i64 _ (z:Int) w3,.ix f230 210 8 L (j+i) o_ k_,.st f230 100210 3 8 (j+i) (.row r0 3 1) (vI z) (.row r1 3 1) rfl bH rfl k_,.quo 212 .i64 _ (c':Int) w4,.sum 190 i 1 (i+1) rfl o_] k_
theorem aM6{E:Nat}(hL:j+(e+2)+1<=L)(xe:rv=aj (aa bz (e+2) V))(hE:E=(D+V)%bz^(e+2+1))(h63:L<35184372088832):
  ag prog Bs 238 (.block 6 (af f230 6)) (CX e L j V D q 0) (yS L j R D E (e+2) 0 rv) 10 ⟨.normal,CX e L j V D q (e+2),yS L j R D E (e+2) (e+2) rv,10⟩:=
 bO (id:=6) (cg (b:=aE (af f230 6)) (r:=⟨.exit 6,CX e L j V D q (e+2),yS L j R D E (e+2) (e+2) rv,10⟩) (e+2) (CX e L j V D q) (λi=>yS L j R D E (e+2) i rv) (λk t _=>jx (l:=yS L j R D E (e+2) k rv) (m:=yS L j R D E (e+2) 0 rv) rfl t) (λk hk=>aM5 hL xe hE h63 hk)
  (fo mixed 200 [.lt 188 (e+2) (e+2) false s_] k_) n_)
end
theorem aM7{B L S R:Nat}(hi:i<L)(hR:R<B^(i+1))(hS:S<B^(i+1))(hB:0<B)(x:i_):(aj (cQ B L i S R)).set i x=(aj (aa B L S)).set i x:=by have h:=xX (B:=B) (n:=L) (i:=i) (s:=S) (p:=R) hi rfl;rw[D6 hB hR hS]at h;rw[<-h,<-On,List.set_set]
structure Kp(e L A V:Nat):Prop where
 hV:V<bz^(e+2)
 top:bz<=2*(V/bz^(e+1))
 hL:e+3<=L
 hA:A<V*bz^(L-(e+2))
 h63:L<35184372088832
theorem Kp.pos{L V:Nat}(h:Kp e L A V):0<V:=by
 rcases nr V with e1|e1
 ·have:=h.hA;rw[e1,kT]at this;omega
 ·exact e1
section
variable{Bs:ae}{e L A V p:Nat}
def CY(e L p j:Nat):aL:=[(13,c8 j),(12,sl 9 p),(10,vI (e+2)),(9,sl 3 (e+2)),(11,sl 8 L)]
def yT(e L A V p j:Nat):aC:=[(8,.row (aj (aa bz L (A%(V*bz^j)))) 3 1),(9,.row (aj (gh bz p j (A/V))) 3 1),(3,.row (aj (aa bz (e+2) V)) 3 1)]
theorem aM8(h:Kp e L A V)(hp:p+(e+2)=L)(hj:j<p):
  ag prog Bs 238 (aE (af f230 0)) (CY e L p (j+1)) (yT e L A V p (j+1)) 10 ⟨.normal,CY e L p j,yT e L A V p j,10⟩:=by
 have h63:=h.h63;have qh:=h.pos;have hV:=h.hV;have zE:j+(e+2)+1<=L:=by omega
 obtain⟨R,hR⟩:∃ R,R=A%(V*bz^(j+1)):=⟨_,rfl⟩;obtain⟨U,hU⟩:∃ U,U=R/bz^j:=⟨_,rfl⟩;have Hm:U<V*bz:=by rw[hU,hR];exact YE d_ qh A j
 have qS:=YC (B:=bz) d_ A V j;have aB9:=YD (B:=bz) A V j;rw[<-hR,<-hU]at qS aB9;have Ed:R<bz^(j+(e+2)+1):=by
  have h1:R<V*bz^(j+1):=by rw[hR];exact cC _ (qi qh (cE d_))
  have h2:V*bz^(j+1)<=bz^(e+2)*bz^(j+1):=eR _ (jm hV);rw[<-dX,show e+2+(j+1)=j+(e+2)+1 by omega]at h2;omega
 have aM9:U<bz^(e+2+1):=by rw[dh];exact cy Hm (eR _ (jm hV))
 obtain⟨T,hT⟩:∃ T,T=U/bz^(e+1):=⟨_,rfl⟩;obtain⟨v1,j8⟩:∃ v1,v1=V/bz^(e+1):=⟨_,rfl⟩;have aCa:V/bz^(e+1)%bz=v1:=by rw[j8];exact DO hV
 have aCb:v1<bz:=by rw[<-aCa];exact cC _ d_
 have ds:lB bz e U V T (U/bz^e%bz) v1 (V/bz^e%bz):={ hB:=by decide,hU:=Hm,hT:=hT,hu:=rfl,j8:=j8,gW:=rfl,top:=by rw[j8];exact h.top,B6:=aCb };have lU:∀ i,i<=e+2->dB prog 3 (aj (aa bz L R)) (j+i)=some (vI (U/bz^i%bz)):=λi hi=>by have:=dJ (dV (B:=bz) (n:=L) (a:=R) (i:=j+i) o_);rw[F7,<-hU]at this;exact this
 obtain⟨rv,xe⟩:∃ rv,rv=aj (aa bz (e+2) V):=⟨_,rfl⟩;have UG:dB prog 3 rv (e+1)=some (vI v1):=by rw[xe,<-aCa];exact dJ (dV o_)
 have lV0:dB prog 3 rv e=some (vI (V/bz^e%bz)):=by rw[xe];exact dJ (dV o_)
 have g:GU e L j T v1 (V/bz^e%bz) (U/bz^e%bz) (aj (aa bz L R)) rv:=⟨zE,UG,lV0,lU e o_,aCb,cC _ d_,cC _ d_,h63⟩;obtain⟨q0,oJ⟩:∃ q0,q0=min (T/v1) (bz-1):=⟨_,rfl⟩;obtain⟨q,Gb,Ko,aNa,gl⟩:=aM0 g ds oJ;obtain⟨D,hD⟩:∃ D,D=fC bz (e+2) U V q:=⟨_,rfl⟩;have aNb:D<bz^(e+2+1):=by rw[hD];exact Rp d_
 have aSS:V<=bz^(e+2+1):=c9 (jm hV) (cX d_ o_);have sg:SU e L j U V q R D rv:=⟨zE,hU,xe,Gb,hD,by omega,h63⟩;have sl:=aM4 (Bs:=Bs) sg;have UH:fR bz j R D<bz^(j+(e+2)+1):=by have:=F6 (B:=bz) d_ (j:=j) R aNb;rwa[show j+(e+2+1)=j+(e+2)+1 by omega]at this
 have pD:oU L j R D 0=aj (aa bz L R):=by unfold oU;rw[iJ,Ml d_]
 have iA:dB prog 3 (oU L j R D (e+2)) (j+(e+2))=some (vI (U/bz^(e+2)%bz)):=by have:=dJ (BH (B:=bz) (n:=L) (i:=j+(e+2)) (s:=fR bz j R D) (p:=R) (j:=j+(e+2)) o_ (aZ _));rw[F7,<-hU]at this;exact this
 have wx:=aMV (B:=bz) d_ hV Hm Ko;have hsb:=aB5 (B:=bz) d_ U V q (e+2);have Kq:U/bz^(e+2)%bz*bz+U/bz^(e+1)%bz=T:=by have h1:=vV (B:=bz) U (e+1);have h2:U/bz^(e+2)%bz=U/bz^(e+2):=DO aM9;rw[h2,hT];exact h1.symm
 have iL:U/bz^(e+2)%bz<bz:=cC _ d_;have CA:U/bz^(e+1)%bz<bz:=cC _ d_;have kO:=lU (e+2) (aZ _);have uz:=lU (e+1) o_;have UI:eM prog 3 (aj (gh bz p (j+1) (A/V))) j (vI (U/V))=some (aj (gh bz p j (A/V))):=by rw[vh (by rw[LU];exact hj),LW hj aB9]
 have hTb:T<281474976710656+16777216:=by have jt:bz=16777216:=rfl;rw[jt]at iL CA Kq;omega
 have D7:(v1:Int)≠0:=by have:=ds.top;have jt:bz=16777216:=rfl;omega
 have wq:IntKind.i64.wrap (Int.tdiv (T:Int) (v1:Int))=((T/v1:Nat):Int):=by have hq:T/v1<=T:=sB _ _;rw[zW o_,<-sA,dO];omega
 unfold CY yT;rw[<-hR,<-xe];unfold CW yR at sl;rw[pD,aMO]at sl;unfold xc xd at gl;have gl:=gl Bs;have jt:bz=16777216:=rfl;rw[<-hD]at wx;by_cases hb:U<q*V
 ·-- the aST Xv too aSU
  obtain⟨g1,g2⟩:=YB (B:=bz) d_ hV Hm Ko hb;have IQ:=aMW (B:=bz) d_ hV Hm Ko hb;rw[<-hD]at g2 IQ;obtain⟨E,hE⟩:∃ E,E=(D+V)%bz^(e+2+1):=⟨_,rfl⟩;have bl:=aM6 (Bs:=Bs) (q:=U/V) (R:=R) (D:=D) zE xe hE h63;rw[<-hE]at g2;rw[<-g2]at qS;have aCc:E<bz^(e+2):=by rw[g2];exact lA (cC _ qh) hV
  have hS2:fR bz j R E<bz^(j+(e+2)+1):=by have:=F6 (B:=bz) d_ (j:=j) R (cy aCc (cX (n:=bz) d_ (xM _)));rwa[show j+(e+2).succ=j+(e+2)+1 by omega]at this
  have kk:pR L j R D E (e+2) 0=(oU L j R D (e+2)).set (j+(e+2)) (.int .i64 (-1)):=by unfold pR oU;rw[aM7 o_ Ed UH d_,iJ,<-Yy d_ j R D E,Ml d_]
  have IM:eM prog 3 (oU L j R D (e+2)) (j+(e+2)) (.int .i64 (-1))=some (pR L j R D E (e+2) 0):=by rw[kk];exact Om _ _ _ (by unfold oU;rw[mU,vU];omega)
  have CZ:∀ i,dB prog 3 (pR L j R D E (e+2) i) (j+(e+2))=some (.int .i64 (-1)):=λi=>by unfold pR;rw[EL,List.getElem?_set_self (by rw[mU,vU];omega)]
  have aNc:=CZ 0;have aNd:=CZ (e+2);have Rw:eM prog 3 (pR L j R D E (e+2) (e+2)) (j+(e+2)) (.int .i64 0)=some (aj (aa bz L (A%(V*bz^j)))):=by unfold pR;rw[Om _ _ _ (by rw[UF,mU,vU];omega),List.set_set];have h1:=xX (B:=bz) (n:=L) (i:=j+(e+2)) (s:=fR bz j R E) (p:=fR bz j R D) (d:=0) o_ (by rw[wm d_,qe aCc (aZ _) d_]);rw[D6 d_ UH hS2]at h1;have h2:=On (cQ bz L (j+(e+2)) (fR bz j R E) (fR bz j R D)) (j+(e+2)) 0;rw[h1]at h2;exact b9 some (h2.trans (by rw[qS]))
  rw[aq hb]at wx;unfold CX yS at bl;rw[LP,IQ]at bl;generalize aj (aa bz L (A%(V*bz^j)))=r9 at *;generalize aj (aa bz L R)=r0 at *;generalize oU L j R D (e+2)=r1 at *;generalize pR L j R D E (e+2) 0=r2 at *;generalize pR L j R D E (e+2) (e+2)=r3 at *;generalize aj (gh bz p (j+1) (A/V))=p0 at *;generalize aj (gh bz p j (A/V))=p1 at *;generalize qK bz U V q (e+2)=c at *;generalize U/bz^(e+2)%bz=t1 at *;generalize U/bz^(e+1)%bz=t0 at *;generalize U/V=qq at *;have UJ:IntKind.i64.wrap ((t1:Int)+c)=-1:=by rw[dO];omega
  have m1:t1*bz<281474976710656:=by rw[jt];omega
  obtain⟨x1,ik⟩:∃ x1,x1=t1*bz:=⟨_,rfl⟩;rw[<-ik]at Kq m1;exact fo mixed 400 [.rw 72 (c8 (j+1)) (vI j) (dP j),.ge 73 j 0 true s_,.rw 77 (c8 (j+1)) (vI j) (dP j),.sum 79 j (e+2) (j+(e+2)) rfl o_,.ix f230 80 8 L (j+(e+2)) o_ k_,.ld f230 81 3 8 (j+(e+2)) (.row r0 3 1) (vI t1) rfl kO k_,.rR 82 t1 bz x1 ik o_,.rw 84 (c8 (j+1)) (vI j) (dP j),.sum 86 j (e+2) (j+(e+2)) rfl o_,.eO 87 (j+(e+2)) 1 (j+(e+1)) o_ o_,.ix f230 88 8 L (j+(e+1)) o_ k_,.ld f230 89 3 8 (j+(e+1)) (.row r0 3 1) (vI t0) rfl uz k_,.sum 90 x1 t0 T Kq.symm o_,.eO 94 (e+2) 1 (e+1) o_ o_,.ix f230 95 3 (e+2) (e+1) o_ k_,.ld f230 96 3 3 (e+1) (.row rv 3 1) (vI v1) rfl UG k_,.uK f230 97 .i64 (T:Int) (v1:Int) ((T/v1:Nat):Int) D7 wq k_,.OB f230 98 (T/v1) (bz-1) q0 oJ k_,.code 2 _ _ _ _ _ gl,.code 4 _ _ _ _ _ sl,.rw 169 (c8 (j+1)) (vI j) (dP j),.sum 171 j (e+2) (j+(e+2)) rfl o_,.ix f230 172 8 L (j+(e+2)) o_ k_,.ld f230 173 3 8 (j+(e+2)) (.row r1 3 1) (vI t1) rfl iA k_,.wr 175 .i64 ((t1:Int)+c) (-1) UJ,.ix f230 176 8 L (j+(e+2)) o_ k_,.st f230 100176 3 8 (j+(e+2)) (.row r1 3 1) (.int .i64 (-1)) (.row r2 3 1) rfl IM rfl k_,.rw 178 (c8 (j+1)) (vI j) (dP j),.sum 180 j (e+2) (j+(e+2)) rfl o_,.ix f230 181 8 L (j+(e+2)) o_ k_,.ld f230 182 3 8 (j+(e+2)) (.row r2 3 1) (.int .i64 (-1)) rfl aNc k_,.eO 185 q 1 qq o_ o_,.code 6 _ _ _ _ _ bl,.rw 214 (c8 (j+1)) (vI j) (dP j),.sum 216 j (e+2) (j+(e+2)) rfl o_,.ix f230 217 8 L (j+(e+2)) o_ k_,.ld f230 218 3 8 (j+(e+2)) (.row r3 3 1) (.int .i64 (-1)) rfl aNd k_,.wr 220 .i64 (-1+((1:Nat):Int)) 0 d_,.ix f230 221 8 L (j+(e+2)) o_ k_,.st f230 100221 3 8 (j+(e+2)) (.row r3 3 1) (.int .i64 0) (.row r9 3 1) rfl Rw rfl k_,
   .rw 223 (c8 (j+1)) (vI j) (dP j),.ix f230 225 9 p j hj k_,.st f230 100225 3 9 j (.row p0 3 1) (vI qq) (.row p1 3 1) rfl UI rfl k_,.rw 74 (c8 (j+1)) (vI j) (dP j),.wr 75 .i64 ((j:Int)-1) ((j:Int)-1) (nU o_)] k_
 ·obtain⟨g1,g2⟩:=YA (B:=bz) d_ hV Hm aNa hb;rw[<-hD]at g2;rw[<-g2]at qS;have IM:eM prog 3 (oU L j R D (e+2)) (j+(e+2)) (vI (D/bz^(e+2)%bz))=some (aj (aa bz L (A%(V*bz^j)))):=by unfold oU;rw[vh (by rw[vU];omega),xX o_ (wm d_ j R D (e+2)).symm,D6 d_ Ed UH,qS]
  have CZ:dB prog 3 (aj (aa bz L (A%(V*bz^j)))) (j+(e+2))=some (vI (D/bz^(e+2)%bz)):=by rw[<-qS,dJ (dV o_),wm d_]
  rw[al hb]at wx;have Tp:D/bz^(e+2)%bz<bz:=cC _ d_;rw[<-g1]at UI;generalize aj (aa bz L (A%(V*bz^j)))=r9 at *;generalize aj (aa bz L R)=r0 at *;generalize oU L j R D (e+2)=r1 at *;generalize aj (gh bz p (j+1) (A/V))=p0 at *;generalize aj (gh bz p j (A/V))=p1 at *;generalize qK bz U V q (e+2)=c at *;generalize U/bz^(e+2)%bz=t1 at *;generalize U/bz^(e+1)%bz=t0 at *;generalize D/bz^(e+2)%bz=d at *;have UJ:IntKind.i64.wrap ((t1:Int)+c)=(d:Int):=by rw[dO];omega
  have m1:t1*bz<281474976710656:=by rw[jt];omega
  obtain⟨x1,ik⟩:∃ x1,x1=t1*bz:=⟨_,rfl⟩;rw[<-ik]at Kq m1;exact fo mixed 400 [.rw 72 (c8 (j+1)) (vI j) (dP j),.ge 73 j 0 true s_,.rw 77 (c8 (j+1)) (vI j) (dP j),.sum 79 j (e+2) (j+(e+2)) rfl o_,.ix f230 80 8 L (j+(e+2)) o_ k_,.ld f230 81 3 8 (j+(e+2)) (.row r0 3 1) (vI t1) rfl kO k_,.rR 82 t1 bz x1 ik o_,.rw 84 (c8 (j+1)) (vI j) (dP j),.sum 86 j (e+2) (j+(e+2)) rfl o_,.eO 87 (j+(e+2)) 1 (j+(e+1)) o_ o_,.ix f230 88 8 L (j+(e+1)) o_ k_,.ld f230 89 3 8 (j+(e+1)) (.row r0 3 1) (vI t0) rfl uz k_,.sum 90 x1 t0 T Kq.symm o_,.eO 94 (e+2) 1 (e+1) o_ o_,.ix f230 95 3 (e+2) (e+1) o_ k_,.ld f230 96 3 3 (e+1) (.row rv 3 1) (vI v1) rfl UG k_,.uK f230 97 .i64 (T:Int) (v1:Int) ((T/v1:Nat):Int) D7 wq k_,.OB f230 98 (T/v1) (bz-1) q0 oJ k_,.code 2 _ _ _ _ _ gl,.code 4 _ _ _ _ _ sl,.rw 169 (c8 (j+1)) (vI j) (dP j),.sum 171 j (e+2) (j+(e+2)) rfl o_,.ix f230 172 8 L (j+(e+2)) o_ k_,.ld f230 173 3 8 (j+(e+2)) (.row r1 3 1) (vI t1) rfl iA k_,.wr 175 .i64 ((t1:Int)+c) (d:Int) UJ,.ix f230 176 8 L (j+(e+2)) o_ k_,.st f230 100176 3 8 (j+(e+2)) (.row r1 3 1) (vI d) (.row r9 3 1) rfl IM rfl k_,.rw 178 (c8 (j+1)) (vI j) (dP j),.sum 180 j (e+2) (j+(e+2)) rfl o_,.ix f230 181 8 L (j+(e+2)) o_ k_,.ld f230 182 3 8 (j+(e+2)) (.row r9 3 1) (vI d) rfl CZ k_,.lt 183 d 0 false s_,.rw 223 (c8 (j+1)) (vI j) (dP j),.ix f230 225 9 p j hj k_,.st f230 100225 3 9 j (.row p0 3 1) (vI q) (.row p1 3 1) rfl UI rfl k_,.rw 74 (c8 (j+1)) (vI j) (dP j),.wr 75 .i64 ((j:Int)-1) ((j:Int)-1) (nU o_)] k_
theorem aNe(h:Kp e L A V)(hp:p+(e+2)=L):
  ag prog Bs 238 (.block 0 (af f230 0)) (CY e L p p) (yT e L A V p p) 10 ⟨.normal,CY e L p 0,yT e L A V p 0,10⟩:=by
 have:=cg (P:=prog) (B:=Bs) (N:=238) (b:=aE (af f230 0)) (next:=10) (r:=⟨.exit 0,CY e L p 0,yT e L A V p 0,10⟩) p (λi=>CY e L p (p-i)) (λi=>yT e L A V p (p-i)) (λi t _=>jx (l:=yT e L A V p (p-i)) (m:=yT e L A V p (p-0)) rfl t)
  (λi hi=>by
   have e1:p-i=(p-(i+1))+1:=by omega
   simp only[e1];exact aM8 h hp o_)
  (by simp only[uN];exact ay [.rw 73 (.bool (decide (((0:Nat):Int)-1>=0))) a_ rfl]) n_
 exact bO (id:=0) this
end
def A6(w:h_)(v:i_)(a:Nat):Prop:=cZ w v (nd bz a) (cG a)
def ue(w w':h_)(v:i_)(a:Nat):Prop:=w'.ownsRow w.heap.size 3 1 v (nd bz a) (cG a)
theorem OD(hm:aI (ae.at w) ι c w'){n:Nat}{v:i_}(hk:c k=some (.row (aj (aa bz n a)) 3 1))(ha:a<bz^n)(hv:aG ι (sl k (nd bz a)) v):ue w w' v a:=by have:=uJ hm hk hv (ET ha) (lJ _);rw[A2 ha]at this;exact this
theorem OE{s:Nat}(h:s<bz):aa bz 1 s=[s]:=by simp[aa,dG h]
theorem UK{s:Nat}(h:s<bz)(h0:s≠0):nd bz s=1:=by have h3:=iN (B:=bz) (n:=1) d_ (by rw[BX];exact h);have h4:=vS (B:=bz) d_ h0;omega
theorem aNf{n:Nat}(h:A<bz^n):aa bz (n+2) A=aa bz n A++[0,0]:=by unfold aa;rw[show n+2=n+1+1 from rfl,Jj,Jj,vC,vC,Bx];simp only[qc,Mi,FY,jg];rw[qe h (aZ _) d_,qe h (xM _) d_]
theorem aNg{B:Nat}(hd:0<d)(lY:d<B)(he:B%2=0):B<=2*(d*(B/(d+1))):=by
 obtain⟨s,hs⟩:∃ s,s=B/(d+1):=⟨_,rfl⟩;rw[<-hs];have hdm:=iP B (d+1);have Mc:=cC B (show 0<d+1 by omega);rw[<-hs]at hdm;have vK:0<s:=by rw[hs];exact Mo lY (RH d)
 rcases eQ (2*d) B with h|h
 ·apply Nu;intro av;have av:2*(d*s)+2<=B:=by omega
  obtain⟨X,hX⟩:∃ X,X=(d+1)*s:=⟨_,rfl⟩;rw[<-hX]at hdm;have h1:=eR (d+1) av;rw[e8,fq,fq d s,cH s,<-hX,nS B,fY]at h1;have h2:=iX d (show B<=X+d by omega);rw[nS]at h2;obtain⟨k,hk⟩:∃ k,d=k+1:=⟨d-1,by omega⟩;have h3:=iX k (jm h);have h4:d*B=k*B+B:=by rw[hk,e8,ph]
  have h5:k*(2*d)+2*d=2*(d*d):=by
   have:d*d=k*d+d:=by conv=>lhs;rw[hk,e8,ph,<-hk]
   rw[this,lX];omega
  rw[cH B d]at h1;omega
 ·have:=iX d vK;rw[fY]at this;have:d*1<=d*s:=iX d vK;omega
theorem UL(h:decide (a<b)=t):Value.bool (decide (gH a b<0))=.bool t:=by
 rw[<-h];congr 1;rw[pe];unfold gH
 by_cases h1:a<b
 ·rw[aq h1];omega
 ·rw[al h1];by_cases h2:b<a
  ·rw[aq h2];omega
  ·rw[al h2];omega
theorem aTc{vb:i_}(fQ:A6 w va a)(kF:A6 w vb b)(bX:a<b)(h1:nd bz a<35184372088832)(h2:nd bz b<35184372088832):
  Calls prog 230 #[va,vb] w λe w'=>e=.returned (.tuple #[.slice none 0 0,va])/\Below w.heap.size w w':=by
 have hl:∀ s∈[cq.row va (nd bz a) (cG a),cq.row vb (nd bz b) (cG b)],s.OK w:=by
  intro s hs;simp at hs;rcases hs with rfl|rfl
  ·exact⟨fQ,lJ _⟩
  ·exact⟨kF,lJ _⟩
 refine kU (Q:=λe w'=>e=.returned (.tuple #[.slice none 0 0,va])/\Below w.heap.size w w') mixed func230 [cq.row va (nd bz a) (cG a),cq.row vb (nd bz b) (cG b)] hl 200 (N:=238) k_
  (rs:=[(.Hj f230 23 0 1 a b (.view (cG a)) (.view (cG b)) rfl rfl rfl rfl h1 h2 k_:aO prog (ae.at w) 238),.rw 24 _ b_ (UL (a:=a) (b:=b) (aD bX))])
  (v:=.tuple #[.slice none 0 0,sl 0 (nd bz a)]) (ms:=[]) k_ λao bP v' w' jH bh _ dw=>⟨?_,bh.base⟩
 obtain⟨cU,rfl,aU⟩:=jH.tg;obtain⟨p,q,hp,h3,h4⟩:=iH aU;cases dw with
 |cons h5 _=>
 have:q=va:=Ik h4 h5;have e:cU=#[p,q]:=uE.1 (by rw[hp]);rw[e,h3.eW rfl,this]
theorem aTI{vb:i_}(fQ:A6 w va a)(kF:A6 w vb b)(bX:b<=a)(kk:b≠0)(hb:b<bz)(h1:nd bz a<35184372088832):
  Calls prog 230 #[va,vb] w λe w'=>∃ vq vr,e=.returned (.tuple #[vq,vr])/\ue w w' vq (a/b)/\ue w w' vr (a%b)/\Below w.heap.size w w':=by
 have cP:=UK hb kk;have mf:cG b=[vI b]:=by unfold cG;rw[cP,OE hb];rfl
 have D8:cZ w vb 1 [vI b]:=by have:=kF;unfold A6 at this;rw[cP,mf]at this;exact this
 have hl:∀ s∈[cq.row va (nd bz a) (cG a),cq.row vb 1 [vI b]],s.OK w:=by
  intro s hs;simp at hs;rcases hs with rfl|rfl
  ·exact⟨fQ,lJ _⟩
  ·exact⟨D8,λv hv=>by simp at hv;subst hv;rfl⟩
 have hr:a%b<bz:=lA (cC _ (sn kk)) hb;have sT:a%b<bz^1:=by rw[BX];exact hr
 have kD:ct prog (ae.at w) (au f230 23) [.func (.func 178) #[] #[],sl 0 (nd bz a),sl 1 1] [(0,some (.view (cG a))),(1,some (.view [vI b]))] (.int .i64 (gH a b)) []:=by have:=od (B:=ae.at w) (o:=au f230 23) (x:=.func 178) (Ut (a:=a) (b:=b) h1 o_) (mV (k:=0) (x:=.view (cG a)) rfl rfl (mV (k:=1) (x:=.view (cG b)) rfl rfl .nil)) k_ k_ rfl;rw[cP,mf]at this;exact this
 refine kU (Q:=λe w'=>∃ vq vr,e=.returned (.tuple #[vq,vr])/\ue w w' vq (a/b)/\ue w w' vr (a%b)/\Below w.heap.size w w') mixed func230 [cq.row va (nd bz a) (cG a),cq.row vb 1 [vI b]] hl 200 (N:=238) k_
  (rs:=[(.step 23 (au f230 23) _ _ _ _ kD:aO prog (ae.at w) 238),.rw 24 _ a_ (UL (a:=a) (b:=b) (aQ o_)),.ld f230 33 3 1 0 (.view [vI b]) (vI b) rfl (by rw[EL];rfl) k_,.step 34 (au f230 34) _ _ _ _ (T4 (x:=.func 244) (aB4 (sn kk) hb h1) (mV (k:=0) (x:=.view (cG a)) rfl rfl (.p (v:=vI b) rfl .nil)) k_ k_ (rP _) rfl 2),.bs f230 39 3 1 3 1 [0] (vI 0) [vI (a%b)] #[vI (a%b)] (.row (aj (aa bz 1 (a%b))) 3 1) (by rw[OE hr];rfl) (λv hv=>by simp at hv;subst hv;rfl) (λv hv=>by simp at hv;subst hv;rfl) k_ rfl o_ o_ k_,.CM f230 40 3 1 (a%b) (.row (aj (aa bz 1 (a%b))) 3 1) rfl rfl sT o_ k_])
  (v:=.tuple #[sl 2 (nd bz (a/b)),sl 3 (nd bz (a%b))]) (ms:=[(2,iF (a/b)),(3,.row (aj (aa bz 1 (a%b))) 3 1)]) k_ λao bP v' w' jH bh dD _=>?_
 obtain⟨cU,rfl,aU⟩:=jH.tg;obtain⟨p,q,hp,h3,h4⟩:=iH aU;have e:cU=#[p,q]:=uE.1 (by rw[hp]);subst e;exact⟨p,q,rfl,OD bh (dD _ (aN ..)) (dL d_ _) h3,OD bh (dD _ (bB _ (aN ..))) sT h4,bh.base⟩
theorem aTR{vb:i_}(fQ:A6 w va a)(kF:A6 w vb b)(bX:b<=a)(hb:nd bz b=e+2)(h1:nd bz a<17592186044000):
  Calls prog 230 #[va,vb] w λe w'=>∃ vq vr,e=.returned (.tuple #[vq,vr])/\ue w w' vq (a/b)/\ue w w' vr (a%b)/\Below w.heap.size w w':=by
 have jt:bz=16777216:=rfl;have av:=dL (B:=bz) d_ b;rw[hb]at av;have hp:0<bz^(e+1):=cE d_;have fJ:bz^(e+1)<=b:=XD d_ o_;have kk:0<b:=cy hp fJ;obtain⟨d,hd⟩:∃ d,d=b/bz^(e+1):=⟨_,rfl⟩;have kX:b/bz^(e+1)%bz=d:=by rw[hd];exact DO av
 have lY:d<bz:=by rw[<-kX];exact cC _ d_
 have Cc:0<d:=by rw[hd];exact Mo fJ hp
 obtain⟨s,hs⟩:∃ s,s=bz/(d+1):=⟨_,rfl⟩;have bH:=aNg Cc lY d_;rw[<-hs]at bH;have pD:0<s:=by rw[hs];exact Mo lY (RH d)
 have Uf:s*(d+1)<=bz:=by rw[hs];exact B8 _ _
 have OG:s<bz:=by have:=iX s (show 2<=d+1 by omega);omega
 have wk:b*s<bz^(e+2):=by
  have h3:b<(d+1)*bz^(e+1):=by rw[hd];exact(gY hp).1 (F5 _)
  have h5:=Ab h3 pD;have h6:=eR (bz^(e+1)) Uf;rw[cH bz,<-dh]at h6;have e1:(d+1)*bz^(e+1)*s=s*(d+1)*bz^(e+1):=by rw[cH _ s,fq]
  rw[e1]at h5;exact cy h5 h6
 have aCd:b<=b*s:=DY _ pD;have Mt:nd bz (b*s)=e+2:=Yl (iN d_ wk) (by rw[<-hb];exact iO d_ aCd);have wx:bz<=2*(b*s/bz^(e+1)):=by
  have:d*s<=b*s/bz^(e+1):=by rw[B7 hp,Ae];refine eR _ ?_;rw[hd];exact B8 _ _
  omega
 obtain⟨n,hn⟩:∃ n,n=nd bz (a*s):=⟨_,rfl⟩;have hA:=dL (B:=bz) d_ (a*s);rw[<-hn]at hA;have hnb:n<=nd bz a+1:=by rw[hn];refine iN d_ ?_;rw[dh];exact pg (dL (B:=bz) d_ a) OG
 have aSV:e+2<=n:=by rw[hn,<-hb];exact iO d_ (c9 bX (DY _ pD))
 obtain⟨p,UE⟩:∃ p,p+(e+2)=n+2:=⟨n+2-(e+2),by omega⟩;have UM:a*s<b*s*bz^p:=by have h3:bz^(e+1)*bz^p<=b*s*bz^p:=eR _ (c9 fJ aCd);rw[<-dX,show e+1+p=n+1 by omega]at h3;have h4:bz^n<=bz^(n+1):=cX d_ (xM _);omega
 have dv:Kp e (n+2) (a*s) (b*s):=⟨wk,wx,by omega,by rw[show n+2-(e+2)=p by omega];exact UM,by omega⟩;have lo:=λBs=>aNe (Bs:=Bs) dv UE;have hQ:a*s/(b*s)=a/b:=YI _ _ pD;have RS:a*s%(b*s*bz^0)=a%b*s:=by rw[ri,fY,YH]
 have RR:a*s%(b*s*bz^p)=a*s:=dG UM;have IV:a/b<bz^p:=by rw[<-hQ,gY dv.pos,cH (bz^p)];exact UM
 have Gi:a%b*s<bz^(n+2):=by have h3:a%b*s<=a*s:=eR _ (Iv _ _);have h4:bz^n<=bz^(n+2):=cX d_ o_;omega
 have hnr:nd bz (a%b*s)<35184372088832:=by have:=iN (B:=bz) d_ Gi;omega
 unfold yT at lo;rw[RR,RS,hQ,LV,Iw,<-J9]at lo;have hcA:cG (a*s)++[vI 0,vI 0]=aj (aa bz (n+2) (a*s)):=by unfold cG aj;rw[<-hn,aNf hA,vC];rfl
 have zu:=UK OG o_;have e7:cG s=[vI s]:=by unfold cG;rw[zu,OE OG];rfl
 have mf:cG b=aj (aa bz (e+2) b):=by unfold cG;rw[hb]
 have hcV:cG (b*s)=aj (aa bz (e+2) (b*s)):=by unfold cG;rw[Mt]
 have D8:cZ w vb (e+2) (aj (aa bz (e+2) b)):=by have:=kF;unfold A6 at this;rw[hb,mf]at this;exact this
 have hl:∀ s∈[cq.row va (nd bz a) (cG a),cq.row vb (e+2) (aj (aa bz (e+2) b))],s.OK w:=by
  intro s hs;simp at hs;rcases hs with rfl|rfl
  ·exact⟨fQ,lJ _⟩
  ·exact⟨D8,lJ _⟩
 have kD:ct prog (ae.at w) (au f230 23) [.func (.func 178) #[] #[],sl 0 (nd bz a),sl 1 (e+2)] [(0,some (.view (cG a))),(1,some (.view (aj (aa bz (e+2) b))))] (.int .i64 (gH a b)) []:=by have:=od (B:=ae.at w) (o:=au f230 23) (x:=.func 178) (Ut (a:=a) (b:=b) o_ o_) (mV (k:=0) (x:=.view (cG a)) rfl rfl (mV (k:=1) (x:=.view (cG b)) rfl rfl .nil)) k_ k_ rfl;rw[hb,mf]at this;exact this
 have cP:ct prog (ae.at w) (au f230 52) [.func (.func 160) #[] #[],sl 1 (e+2),sl 2 1] [(3,none),(1,some (.view (aj (aa bz (e+2) b)))),(2,some (.row [vI s] 3 1))] (sl 3 (e+2)) [(3,.row (aj (aa bz (e+2) (b*s))) 3 1)]:=by have:=rI (B:=ae.at w) (o:=au f230 52) (x:=.func 160) (Up (a:=b) (b:=s) o_) (mV (k:=1) (x:=.view (cG b)) rfl rfl (mV (k:=2) (x:=.row (cG s) 3 1) rfl rfl .nil)) k_ k_ (rP _) 3;rw[hb,mf,zu,e7,Mt,hcV]at this;exact this
 have dz:ct prog (ae.at w) (au f230 58) [.func (.func 160) #[] #[],sl 0 (nd bz a),sl 2 1] [(5,none),(0,some (.view (cG a))),(2,some (.row [vI s] 3 1))] (sl 5 n) [(5,.row (cG (a*s)) 3 1)]:=by have:=rI (B:=ae.at w) (o:=au f230 58) (x:=.func 160) (Up (a:=a) (b:=s) o_) (mV (k:=0) (x:=.view (cG a)) rfl rfl (mV (k:=2) (x:=.row (cG s) 3 1) rfl rfl .nil)) k_ k_ (rP _) 5;rw[zu,e7,<-hn]at this;exact this
 have uc:∀(xr:ak),xr=aj (aa bz (n+2) (a%b*s))->ct prog (ae.at w) (au f230 232) [.func (.func 244) #[] #[],sl 8 (nd bz (a%b*s)),vI s] [(10,none),(8,some (.row xr 3 1))] (.tuple #[sl 10 (nd bz (a%b)),vI 0]) [(10,iF (a%b))]:=by
  rintro xr rfl
  have hq:a%b*s/s=a%b:=QQ _ pD;have hz:a%b*s%s=0:=XF _ _;have bT:=aB4 (a:=a%b*s) pD OG hnr;rw[hq,hz]at bT;have Cb:((Obj.row (aj (aa bz (n+2) (a%b*s))) 3 1).cells.drop 0).take (nd bz (a%b*s))=cG (a%b*s):=by rw[lv];have:=A2 Gi;rwa[fY]at this
  have xL:gk (ae.at w) [jb (a%b*s),.p (vI s)] [sl 8 (nd bz (a%b*s)),vI s] [(8,some (.row (aj (aa bz (n+2) (a%b*s))) 3 1))]:=by unfold jb;rw[<-Cb];exact .r (k:=8) (off:=0) (cc:=0) rfl (gQ _) (λh=>h) (.p rfl .nil)
  exact T4 (x:=.func 244) bT xL k_ k_ (rP _) rfl 10
 have w48:IntKind.i64.wrap (Int.tdiv ((bz:Nat):Int) ((d+1:Nat):Int))=(s:Int):=by rw[zW o_,<-sA,<-hs,dO];omega
 have aNh:∀ v∈cG (a*s),v.oneCell'=true:=λv hv=>by unfold cG aj at hv;obtain⟨x,_,rfl⟩:=dq.1 hv;rfl
 have hlen:(cG (a*s)).length=n:=by rw[Uc,hn]
 have lo:=lo (ae.at w);unfold CY at lo;have hxr:=uc _ rfl;have kG:dB prog 3 (aj (aa bz (e+2) b)) (e+1)=some (vI d):=by rw[<-kX];exact dJ (dV o_)
 have Ey:nd bz (a%b*s)=nd bz (a%b*s):=rfl
 refine kU (Q:=λe w'=>∃ vq vr,e=.returned (.tuple #[vq,vr])/\ue w w' vq (a/b)/\ue w w' vr (a%b)/\Below w.heap.size w w') mixed func230 [cq.row va (nd bz a) (cG a),cq.row vb (e+2) (aj (aa bz (e+2) b))] hl 400 (N:=238) k_
  (rs:=[(.step 23 (au f230 23) _ _ _ _ kD:aO prog (ae.at w) 238),.rw 24 _ a_ (UL (a:=a) (b:=b) (aQ o_)),.fX 28 (e+2) 1 false s_,.eO 44 (e+2) 1 (e+1) rfl o_,.ix f230 45 1 (e+2) (e+1) o_ k_,.ld f230 46 3 1 (e+1) (.view (aj (aa bz (e+2) b))) (vI d) rfl kG k_,.sum 47 d 1 (d+1) rfl o_,.uK f230 48 .i64 ((bz:Nat):Int) ((d+1:Nat):Int) (s:Int) o_ w48 k_,.bs f230 49 2 1 3 1 [0] (vI 0) [vI s] #[vI s] (.row [vI s] 3 1) rfl (λv hv=>by simp at hv;subst hv;rfl) (λv hv=>by simp at hv;subst hv;rfl) k_ rfl o_ o_ k_,.step 52 (au f230 52) _ _ _ _ cP,.Kd f230 55 4 3 1 (vI 0) k_,.step 58 (au f230 58) _ _ _ _ dz,.pr f230 59 6 4 0 n n 3 1 8 [] 5 (.row (cG (a*s)) 3 1) (cG (a*s)) (jv n) rfl (by rw[fY];exact hlen) rfl rfl aNh o_ (by simp[maxLen];omega) o_ k_,.bs f230 60 7 2 3 1 [0,1] (vI 0) [vI 0,vI 0] #[vI 0,vI 0] (.row [vI 0,vI 0] 3 1) rfl (λv hv=>by simp at hv;subst hv;rfl) (λv hv=>by simp at hv;subst hv;rfl) k_ rfl o_ o_ k_,.pr f230 61 8 6 n 2 (n+2) 3 1 8 (cG (a*s)) 7 (.row [vI 0,vI 0] 3 1) (aj (aa bz (n+2) (a*s))) rfl rfl rfl (by rw[fY];exact hlen) hcA (λv hv=>by simp[Obj.cells]at hv;subst hv;rfl) o_ (by simp[maxLen];omega) o_ k_,.eO 65 (n+2) (e+2) p o_ o_,.pf f230 66 9 p 3 8 (vI 0) (List.replicate p (vI 0)) rfl rfl rfl o_ (by simp[maxLen];omega) k_,.eO 70 (n+2) (e+2) p o_ o_,.wr 71 .i64 ((p:Int)-1) ((p:Int)-1) (nU o_),.code 0 _ _ _ _ _ lo,.CM f230 228 8 (n+2) (a%b*s) (.row (aj (aa bz (n+2) (a%b*s))) 3 1) rfl rfl Gi o_ k_,.ld f230 231 3 2 0 (.row [vI s] 3 1) (vI s) rfl (by rw[EL];rfl) k_,.step 232 (au f230 232) _ _ _ _ hxr,.CM f230 236 9 p (a/b) (.row (aj (aa bz p (a/b))) 3 1) rfl rfl IV o_ k_])
  (v:=.tuple #[sl 9 (nd bz (a/b)),sl 10 (nd bz (a%b))]) (ms:=[(9,.row (aj (aa bz p (a/b))) 3 1),(10,iF (a%b))]) k_ λao bP v' w' jH bh dD _=>?_
 obtain⟨cU,rfl,aU⟩:=jH.tg;obtain⟨p,q,hp,h3,h4⟩:=iH aU;have e:cU=#[p,q]:=uE.1 (by rw[hp]);subst e;exact⟨p,q,rfl,OD bh (dD _ (aN ..)) IV h3,OD bh (dD _ (bB _ (aN ..))) (dL d_ _) h4,bh.base⟩
section
variable{P:j_}{Bs B:ae}{N:Nat}
theorem aCe{n:Nat}{nd:q_}(h:ko P f l ty size n xs)(hs:gk B l vs nd)(ho:da o.op=some x)(eB:fN P f=true)(hx:(xs.all flat)=true)(k:Nat):
  ct P B o (.func (.func f) #[] #[]::vs) ((k,none)::nd) (.slice (some ⟨k,0,some 7⟩) n 0) [(k,.view xs)]:=by
 have:=jy (P:=P) (B:=B) (o:=o) (x:=x) (f:=f) (fi:=[]) (args:=vs) (ca:=[]) (need:=(k,none)::nd) (val:=.slice (some ⟨k,0,some 7⟩) n 0) (cK:=[(k,.view xs)]) ho eB ?_
 ·simpa using this
 ·intro ι c w hm hn args' ha;rw[jg,gO]at ha;refine(h w args' (AG hs hm (λp hp=>hn p (bB _ hp)) ha)).mono ?_
  rintro e w' ⟨v,rfl,h1,h2⟩
  obtain⟨ao,q1,q2,q3⟩:=XA hm h2 (k:=k) (hn (k,none) (aN ..)) h1 (aX.1 hx);exact⟨ao,v,rfl,q1,q3,q2⟩
def dN(a:Nat):Obj:=.view (cG a)
def aO.aCf(fn:Func)(key k m:Nat)(h:nd 256 m<35184372088832)(ho:da (au fn key).op=some (.func 159)):aO prog Bs N:=
 .step key (au fn key) [.func (.func 159) #[] #[],oK m] [(k,none)] (sl k (nd bz m)) [(k,dN m)] (aCe (aB1 h) (.p rfl .nil) ho k_ (rP m) k)
end
theorem aTr{y:m_}(ho:da o.op=some y){kq kr:Nat}(hk:kr≠kq)(kk:b≠0)(h1:nd bz a<17592186044000)(h2:nd bz b<35184372088831):
  ct prog Bs o [.func (.func 230) #[] #[],sl k1 (nd bz a),sl k2 (nd bz b)] [(k1,some (dN a)),(k2,some (dN b)),(kq,none),(kr,none)] (.tuple #[sl kq (nd bz (a/b)),sl kr (nd bz (a%b))]) [(kr,dN (a%b)),(kq,dN (a/b))]:=by
 refine jy (fi:=[]) (ca:=[]) ho k_ λι c w hm hn args' aU=>?_;rw[jg,gO]at aU;obtain⟨va,vb,rfl,hv,gW⟩:=iH aU;have gE:c k1=some (dN a):=hn (k1,_) s_;have fT:c k2=some (dN b):=hn (k2,_) s_;have IY:c kq=none:=hn (kq,none) s_;have RW:c kr=none:=hn (kr,none) s_;have nin:∀{k a v},c k=some (dN a)->aG ι (sl k (nd bz a)) v->A6 w v a:=λ{k a v} hk hv=>by have:=nQ (len:=nd bz a) hm hk rfl (lJ _) (λh=>h) hv;rwa[lv,jN (by show(cG a).length<=_;rw[Uc];exact aZ _)]at this
 have ha:=nin gE hv;have hb:=nin fT gW;have fin:∀(w':h_) (vq vr:i_),Below w.heap.size w w'->(∃ bF,Map.le ι bF/\aI Bs bF (aT c kq (dN (a/b))) w'/\aG bF (sl kq (nd bz (a/b))) vq/\∃ df,Map.le bF df/\aI Bs df (aT (aT c kq (dN (a/b))) kr (dN (a%b))) w'/\aG df (sl kr (nd bz (a%b))) vr)->
   ∃ ao v',Ending.returned (.tuple #[vq,vr])=.returned v'/\Map.le ι ao/\aG ao (.tuple #[sl kq (nd bz (a/b)),sl kr (nd bz (a%b))]) v'/\aI Bs ao (kP c [(kr,dN (a%b)),(kq,dN (a/b))]) w':=by
  rintro w' vq vr gy ⟨bF,q1,q2,q3,df,s1,s2,s3⟩
  exact⟨df,_,rfl,q1.trans s1,.tup (.cons (q3.mono s1) (.cons s3 .nil)),s2⟩
 have IZ:∀ x,aT c kq x kr=none:=λx=>by unfold aT;rw[al hk];exact RW
 have new:∀(w':h_) (vq vr:i_),Below w.heap.size w w'->ue w w' vq (a/b)->ue w w' vr (a%b)->(∃ bF,Map.le ι bF/\aI Bs bF (aT c kq (dN (a/b))) w'/\aG bF (sl kq (nd bz (a/b))) vq/\∃ df,Map.le bF df/\aI Bs df (aT (aT c kq (dN (a/b))) kr (dN (a%b))) w'/\aG df (sl kr (nd bz (a%b))) vr):=by intro w' vq vr gy h3 h4;have bh:=hm.call gy;obtain⟨bF,q1,q2,q3⟩:=Mv bh IY h3 (lJ _) (Mw hm);obtain⟨df,s1,s2,s3⟩:=Mv q2 (IZ _) h4 (lJ _) (YW bh q1 (Mw hm));exact⟨bF,q1,q2,q3,df,s1,s2,s3⟩
 by_cases bX:a<b
 ·have e1:a/b=0:=lq bX;have e2:a%b=a:=dG bX;refine(aTc ha hb bX o_ o_).mono ?_
  rintro e w' ⟨rfl,gy⟩
  refine fin w' _ _ gy ?_;have bh:=hm.call gy;obtain⟨bF,q1,q2,q3⟩:=xT (xs:=[]) (n:=0) (v:=.slice none 0 0) bh IY (.inl ⟨rfl,rfl,rfl⟩) n_ n_;have ez:dN (a/b)=.view []:=by unfold dN cG;rw[e1,qd];rfl
  have en:nd bz (a/b)=0:=by rw[e1,qd]
  rw[ez,en,e2];have RX:cZ w' va (nd bz a) (cG a):=cZ.jd ha gy;obtain⟨df,s1,s2,s3⟩:=xT q2 (IZ _) RX (lJ _) (λb o c' e j y o' bf hj hy he=>by
   have z8:c j=some y:=by
    unfold aT at hj;by_cases bL:j=kq
    ·rw[aq bL]at hj;injection hj with hj;subst hj;cases hy
    ·rw[al bL]at hj;exact hj
   obtain⟨l,e1,_⟩:=hm.born j y z8;have e2:=q1 j l e1;rw[he]at e2;injection e2 with e2;subst e2;subst e;rcases hv.gK rfl with ⟨_,_,_,_,e⟩|⟨b',o2,o6,c2,gD,_,_,e⟩
   ·cases e
   ·injection e with e _ _;injection e with e;injection e with e _ _;subst e;exact(hm.seen k1 _ _ _ _ gE rfl gD).2 j y _ _ z8 hy e1)
  exact⟨bF,q1,q2,q3,df,s1,s2,s3⟩
 ·have I0:b<=a:=IK.1 bX;have go:Calls prog 230 #[va,vb] w λe w'=>∃ vq vr,e=.returned (.tuple #[vq,vr])/\ue w w' vq (a/b)/\ue w w' vr (a%b)/\Below w.heap.size w w':=by
   by_cases av:b<bz
   ·exact aTI ha hb I0 kk av o_
   ·have h3:2<=nd bz b:=by
     rcases eQ (nd bz b) 2 with h|h
     ·have h4:=dL (B:=bz) d_ b;have h5:bz^nd bz b<=bz^1:=cX d_ o_;rw[BX]at h5;omega
     ·exact h
    exact aTR (e:=nd bz b-2) ha hb I0 o_ h1
  refine go.mono ?_
  rintro e w' ⟨vq,vr,rfl,h3,h4,gy⟩
  exact fin w' _ _ gy (new w' vq vr gy h3 h4)
theorem aNi(n1 n2:Bool)(a b:Nat):(sg n1 a).tdiv (sg n2 b)=sg (n1 !=n2) (a/b):=by cases n1<;>cases n2<;>simp[sg,Int.neg_tdiv,Int.tdiv_neg]
theorem aNj(n1 n2:Bool)(a b:Nat):(sg n1 a).tmod (sg n2 b)=sg n1 (a%b):=by cases n1<;>cases n2<;>simp[sg,Int.neg_tmod,Int.tmod_neg]<;>exact ya o_
theorem aNk{x:Int}(h1:-4611686018427387904<=x)(h2:x<=4611686018427387903):IntKind.i64.wrap x=x:=by rw[dO];omega
theorem UN:nd bz 1=1/\cG 1=[vI 1]:=by have h:=UK (s:=1) d_ d_;exact⟨h,by unfold cG;rw[h,OE d_];rfl⟩
theorem UO{n:Bool}(h:n=true->m≠0):decide (sg n m<0)=n:=by
 cases n
 ·exact aQ (by simp[sg])
 ·exact aD (by have:=h rfl;simp[sg];omega)
theorem aNl(n:Bool)(m:Nat):(sg n m !=0)=decide (m≠0):=by
 by_cases h:m=0
 ·subst h;cases n<;>rfl
 ·rw[aD h,qg];cases n<;>simp[sg]<;>omega
theorem aTy{x:Int}{p:Nat}(hy:y≠0)(h1:x.natAbs<2^p)(h2:y.natAbs<2^q)(hp:p<=1099511627774)(hq:q<=1099511627774):
  aB prog 213 [bC x,bC y] (.tuple #[bC (x.fdiv y),bC (x.fmod y),.int .i64 0]):=by
 revert hy h1 h2;refine Eb (C:=λx y v u=>y≠0->x.natAbs<2^p->y.natAbs<2^q->aB prog 213 [v,u] (.tuple #[bC (x.fdiv y),bC (x.fmod y),.int .i64 0])) (λn1 n2 m1 m2 v1 v2 hy h1 h2=>?_) x y;rw[pz]at h1 h2;have Gn:m2≠0:=by intro e;rw[e]at hy;cases n2<;>exact hy rfl
 have b1:=xb h1;have b2:=xb h2;have c1:=uR h1;have c2:=uR h2;obtain⟨Q,hQ⟩:∃ Q,Q=m1/m2:=⟨_,rfl⟩;obtain⟨R,hR⟩:∃ R,R=m1%m2:=⟨_,rfl⟩;have I3:m1=Q*m2+R:=by rw[hQ,hR,cH];exact(iP _ _).symm
 have Ed:R<m2:=by rw[hR];exact cC _ (sn Gn)
 have R4:Q<=m1:=by rw[hQ];exact sB _ _
 have jB:((Q*m2:Nat):Int)=(Q:Int)*m2:=nh ..;have fix:R≠0->n1≠n2->(sg n1 m1).fdiv (sg n2 m2)=sg true (Q+1)/\(sg n1 m1).fmod (sg n2 m2)=sg n2 (m2-R):=λtK aY=>by
  refine MB ?_ ?_
  ·rw[I3];have e:((m2-R:Nat):Int)=(m2:Int)-R:=by omega
   cases n1<;>cases n2<;>first|exact absurd rfl aY|(simp only[sg,pV,tF,tE,uP,jB,e,Gj,Gk,IX,Int.add_mul];omega)
  ·cases n2
   ·left;simp only[sg,tF,tE];omega
   ·right;simp only[sg,pV];omega
 have aNm:¬(R≠0/\n1≠n2)->(sg n1 m1).fdiv (sg n2 m2)=sg (n1 !=n2) Q/\(sg n1 m1).fmod (sg n2 m2)=sg n2 R:=λh=>by
  have h0:n1≠n2->R=0:=λaY=>jM λh3=>h ⟨h3,aY⟩;refine MB ?_ ?_
  ·rw[I3];cases n1<;>cases n2<;>simp only[sg,Bool.bne_false,Bool.bne_true,IA,L0,pV,tF,tE,uP,jB,Gj,Gk,IX]<;>first|omega|(have:=h0 n_;omega)
  ·cases n2
   ·left;simp only[sg,tF,tE];omega
   ·right;simp only[sg,pV];omega
 have w1:=aTi n1 v1;have w2:=aTi n2 v2;have e26:((BA (cz m2)).toList==(ByteArray.mk #[]).toList)=false:=by rw[qj,aQ Gn]
 have r2:=Km m2;obtain⟨tR,tK⟩:∃ t,decide (R≠0)=t:=⟨_,rfl⟩;have fx:(sg n1 m1).fdiv (sg n2 m2)=(bif tR&&(n1 !=n2)then sg true (Q+1)else sg (n1 !=n2) Q)/\(sg n1 m1).fmod (sg n2 m2)=(bif tR&&(n1 !=n2)then sg n2 (m2-R)else sg n2 R):=by
  by_cases hf:R≠0/\n1≠n2
  ·rw[<-tK,aD hf.1,qg.2 hf.2];exact fix hf.1 hf.2
  ·rw[show(tR&&(n1 !=n2))=false from EZ.2 λh=>by rw[cY,<-tK]at h;exact hf ⟨lC h.1,qg.1 h.2⟩]
   exact aNm hf
 obtain⟨t1,i1,d1,q1,_,_,g1⟩:=Hl v1;obtain⟨t2,i2,d2,q2,_,_,g2⟩:=Hl v2;have e39:decide (((nd 256 m2:Nat):Int)<=7)=t2:=by rw[<-d2];exact pe.2 o_
 by_cases hs:t1=true/\t2=true
 ·obtain⟨rfl,rfl⟩:=hs;obtain rfl:=g1 rfl;obtain rfl:=g2 rfl;have l1:=Kl (lC d1);have l2:=Kl (lC d2);have td:=aNi n1 n2 m1 m2;have tm:=aNj n1 n2 m1 m2;rw[<-hQ]at td;rw[<-hR]at tm;have gx:=Hk n1 m1;have gq:=Hk (n1 !=n2) Q;have t52:=(aNl n1 R).trans tK;have t55:=UO v1;have t57:=UO v2;have wq:IntKind.i64.wrap ((sg n1 m1).tdiv (sg n2 m2))=sg (n1 !=n2) Q:=by rw[td,dO];omega
  have bk:=Int.mul_fdiv_add_fmod (sg n1 m1) (sg n2 m2);have e1:(bif tR&&(n1 !=n2)then sg true (Q+1)else sg (n1 !=n2) Q)=bif tR&&(n1 !=n2)then sg (n1 !=n2) Q-1 else sg (n1 !=n2) Q:=by cases tR<;>cases n1<;>cases n2<;>first|rfl|(simp[sg];omega)
  have gr:-(m2:Int)<=(bif tR&&(n1 !=n2)then sg n2 (m2-R)else sg n2 R)/\(bif tR&&(n1 !=n2)then sg n2 (m2-R)else sg n2 R)<=m2:=by have h1:=Hk n2 (m2-R);have h2:=Hk n2 R;cases tR&&(n1 !=n2)<;>(dsimp only[cond];omega)
  rw[fx.1,fx.2,e1]at bk;rw[fx.1,fx.2,e1];have gz:-4611686018427387904<=(bif tR&&(n1 !=n2)then sg (n1 !=n2) Q-1 else sg (n1 !=n2) Q)/\(bif tR&&(n1 !=n2)then sg (n1 !=n2) Q-1 else sg (n1 !=n2) Q)<=4611686018427387903:=by cases tR&&(n1 !=n2)<;>(dsimp only[cond];omega)
  rw[R2]at bk;generalize (bif tR&&(n1 !=n2)then sg n2 (m2-R)else sg n2 R)=rr at *;generalize sg (n1 !=n2) Q=q0 at *;generalize sg n1 R=r0 at *;generalize sg n1 m1=X at *;generalize sg n2 m2=Y at *;have w67:IntKind.i64.wrap ((bif tR&&(n1 !=n2)then q0-1 else q0)*Y)=(bif tR&&(n1 !=n2)then q0-1 else q0)*Y:=by rw[dO];omega
  have w68:IntKind.i64.wrap (X-(bif tR&&(n1 !=n2)then q0-1 else q0)*Y)=rr:=by rw[dO];omega
  have o1:=aTT (z:=bif tR&&(n1 !=n2)then q0-1 else q0) o_ o_;refine eX mixed func213 100 (λw=>[w1.at 15,w2.at 19,.rw 26 (.bool ((BA (cz m2)).toList==(ByteArray.mk #[]).toList)) a_ (by rw[e26]),q1.at 31,.rw 38 _ (vI (nd 256 m2)) r2,.rw 39 (.bool (decide (((nd 256 m2:Nat):Int)<=7))) b_ (by rw[e39]),q2.at 43,.uK f213 48 .i64 X Y _ hy wq k_,.zR f213 51 .i64 X Y _ hy tm k_,.rw 52 (.bool (r0 !=0)) (.bool tR) (by rw[t52])]++(bif tR then[.rw 55 (.bool (decide (X<0))) (.bool n1) (by rw[t55]),.rw 57 (.bool (decide (Y<0))) (.bool n2) (by rw[t57])]++(bif n1 !=n2 then[.wr 61 .i64 (q0-1) (q0-1) (aNk o_ o_)]else[])else[])++[o1.at 63,.wr 67 .i64 _ _ w67,.wr 68 .i64 _ rr w68,(aTT (z:=rr) o_ o_).at 69]) (λ_=>?_) k_ ?_<;>cases tR<;>cases n1<;>cases n2<;>kernel_rfl
 ·have bQ:nd bz Q<1099511627776:=by have:=iO (B:=bz) d_ R4;omega
  have bR:nd bz R<1099511627776:=by have:=iO (B:=bz) d_ (jm Ed);omega
  have bD:nd bz (m2-R)<1099511627776:=by have:=iO (B:=bz) d_ (Ea m2 R);omega
  have bQ1:nd bz (Q+1)<1099511627776:=Uw (k:=p+1) (by rw[dh];omega) o_;have Gh:∀ w,ct prog (ae.at w) (au f213 77) [.func (.func 230) #[] #[],sl 4 (nd bz m1),sl 5 (nd bz m2)] [(4,some (dN m1)),(5,some (dN m2)),(6,none),(7,none)] (.tuple #[sl 6 (nd bz Q),sl 7 (nd bz R)]) [(7,dN R),(6,dN Q)]:=λw=>by rw[hQ,hR];exact aTr (Bs:=ae.at w) (o:=au f213 77) (y:=.func 230) k_ (k1:=4) (k2:=5) (kq:=6) (kr:=7) d_ Gn o_ o_
  have Kr:∀ w,ct prog (ae.at w) (au f213 92) [.func (.func 177) #[] #[],sl 6 (nd bz Q),sl 8 1] [(9,none),(6,some (dN Q)),(8,some (.row [vI 1] 3 1))] (sl 9 (nd bz (Q+1))) [(9,iF (Q+1))]:=λw=>by have:=rI (B:=ae.at w) (o:=au f213 92) (x:=.func 177) (aBQ (a:=Q) (b:=1) o_ (by rw[UN.1];omega)) (mV (k:=6) (x:=dN Q) rfl rfl (mV (k:=8) (x:=.row (cG 1) 3 1) rfl rfl .nil)) k_ k_ (rP _) 9;rw[UN.1,UN.2]at this;exact this
  have Ge:decide (0<nd bz R)=tR:=by have:(0<nd bz R)↔R≠0:=⟨λh e=>by rw[e,qd]at h;omega,λh=>vS d_ h⟩;rw[pe.2 this,tK]
  rw[fx.1,fx.2];refine eX mixed func213 100 (λw=>[w1.at 15,w2.at 19,.rw 26 (.bool ((BA (cz m2)).toList==(ByteArray.mk #[]).toList)) a_ (by rw[e26]),q1.at 31]++(bif t1 then[.rw 38 _ (vI (nd 256 m2)) r2,.rw 39 (.bool (decide (((nd 256 m2:Nat):Int)<=7))) (.bool t2) (by rw[e39])]else[])++[.aCf f213 73 4 m1 o_ k_,.aCf f213 76 5 m2 o_ k_,.step 77 _ _ _ _ _ (Gh w)]++(bif n1 !=n2 then[.gt 88 (nd bz R) 0 tR Ge]else[])++
    bif tR&&(n1 !=n2)then[.bs f213 91 8 1 3 1 [0] (vI 0) [vI 1] #[vI 1] (.row [vI 1] 3 1) rfl (λv hv=>by simp at hv;subst hv;rfl) (λv hv=>by simp at hv;subst hv;rfl) k_ rfl o_ o_ k_,.step 92 (au f213 92) _ _ _ _ (Kr w),.xa f213 95 10 m2 o_ k_,.Kk f213 97 11 10 7 m2 R (iF m2) (dN R) rfl rfl rfl rfl (jm Ed) o_ k_,.yQ f213 104 9 (Q+1) true (iF (Q+1)) rfl rfl o_ k_,.yQ f213 108 11 (m2-R) n2 (iF (m2-R)) rfl rfl o_ k_]
    else[.yQ f213 104 6 Q (n1 !=n2) (dN Q) rfl rfl o_ k_,.yQ f213 108 7 R n2 (dN R) rfl rfl o_ k_]) (λ_=>?_) k_ ?_<;>cases t1<;>cases t2<;>first|exact absurd ⟨rfl,rfl⟩ hs|(cases tR<;>cases n1<;>cases n2<;>kernel_rfl)

theorem aNn{y:m_}(ho:da o.op=some y){n:Nat}{x:Obj}(hx:x.reads=true)(cA:(x.cells.all flat)=true)(hc:(x.cells.drop off).take n=aj (aa bz n a))(ha:a<bz^n)(h63:n<=9223372036854775807):
  ct prog Bs o [.func (.func 206) #[] #[],.slice (some ⟨k,off,some 7⟩) n cc] [(k,some x)] (.slice (some ⟨k,off,some 7⟩) (nd bz a) cc) []:=by
 refine jy (fi:=[]) (ca:=[]) ho k_ λι c w hm hn args' dw=>?_;obtain⟨v,rfl,h1⟩:=lO dw;have hk:c k=some x:=hn _ (aN ..);have hr:=nQ (len:=n) hm hk hx (aX.1 cA) (λh=>h) h1;rw[hc]at hr;refine(aBt hr ha h63).mono ?_
 rintro e w' ⟨rfl,hb⟩
 refine⟨ι,_,rfl,Map.le.refl _,?_,hm.call hb⟩;have jA:=iN (B:=bz) d_ ha;rcases h1.gK rfl with ⟨q1,q2,q3,q4,q5⟩|⟨b,oo,cap,c',q1,q2,q3,q5⟩
 ·rw[q5];have:nd bz a=0:=by omega
  dsimp only at q4;rw[this,q4,q3];exact .slcN q1
 ·rw[q5];exact .slc q1 o_ q3
theorem aNo(x:Int):IntKind.i64.wrap (((BitVec.ofInt IntKind.i64.bits x)&&& (BitVec.ofInt IntKind.i64.bits 1)).toNat:Int)=x%2:=aB3 x 1 d_
theorem aCg(x:Nat):IntKind.i64.wrap (((BitVec.ofInt IntKind.i64.bits (x:Int))&&& (BitVec.ofInt IntKind.i64.bits 1)).toNat:Int)=((x%2:Nat):Int):=by rw[aNo];rfl
theorem aNp{n z:Nat}(hz:z<=n)(h0:∀ i,i<z->a/bz^i%bz=0):aa bz n a=List.replicate z 0++aa bz (n-z) (a/bz^z):=by
 apply vT
 ·simp[nR];omega
 ·intro i h1 h2;rw[nR]at h1;by_cases hi:i<z
  ·rw[List.getElem_append_left (by simpa using hi)];simp only[aa,BF,BG,List.getElem_replicate];exact h0 i hi
  ·rw[List.getElem_append_right (by simp;omega)];simp only[aa,BF,BG,Hi];rw[kg,<-dX,show z+(i-z)=i by omega]
theorem aCh{a:Nat}:∀ z,(∀ i,i<z->a/bz^i%bz=0)->a%bz^z=0
 |0,_=>by rw[ri,su]
 |z+1,h=>by rw[oF,aCh z (λi hi=>h i o_),h z o_];simp
theorem UP{d:Nat}:∀ r,(∀ i,i<r->d/2^i%2=0)->d%2^r=0
 |0,_=>by rw[ri,su]
 |r+1,h=>by have e:=oF (B:=2) d r;rw[UP r (λi hi=>h i o_),h r o_]at e;rw[e];simp
theorem aNq{x y:Nat}(hr:r<=24)(hx:x<bz)(hy:y<bz):x/2^r+y*2^(24-r)%bz=(y*bz+x)/2^r%bz:=by
 have hb:bz=2^(24-r)*2^r:=by rw[<-dX,show 24-r+r=24 by omega]
 have h2:0<2^r:=cE d_;obtain⟨c,hc⟩:∃ c,c=2^(24-r):=⟨_,rfl⟩;obtain⟨q,hq⟩:∃ q,q=2^r:=⟨_,rfl⟩;rw[<-hc,<-hq]at hb;rw[<-hc,<-hq];rw[<-hq]at h2;have h3:x/q<c:=by rw[gY h2,<-hb];exact hx
 have e1:(y*bz+x)/q=y*c+x/q:=by rw[hb,<-fq,lW,oG _ _ h2,lW]
 have e2:y*c%bz=c*(y%q):=by rw[hb,cH y c,Nat.mul_mod_mul_left]
 have e3:y*c=c*(y%q)+bz*(y/q):=by have:=iP y q;rw[hb,fq,<-nS,lW,this,cH]
 have h4:y%q<q:=cC _ h2;have h5:c*(y%q)+c<=bz:=by rw[hb,<-LR];exact iX _ h4
 have h6:c*(y%q)+x/q<bz:=by omega
 rw[e1,e2,e3,show c*(y%q)+bz*(y/q)+x/q=(c*(y%q)+x/q)+bz*(y/q)by omega,DQ,dG h6];omega
section
variable{Bs:ae}{n a z r:Nat}
def xf(k n z:Nat):Value:=.slice (some ⟨k,z*1,some 7⟩) n z
def xg(n i:Nat):aL:=[(0,xf 0 (n-i) i),(4,vI (24*i))]
def mq(n a:Nat):aC:=[(0,.row (aj (aa bz n a)) 3 1)]
theorem aNr(hi:i+1<n)(h0:a/bz^i%bz=0)(h63:n<35184372088832):
  ag prog Bs 62 (aE (af f180 0)) (xg n i) (mq n a) 1 ⟨.normal,xg n (i+1),mq n a,1⟩:=by
 have iA:dB prog 3 (aj (aa bz n a)) (i*1)=some (vI 0):=by rw[fY,dJ (dV o_),h0]
 unfold xg mq xf;generalize aj (aa bz n a)=r0 at *;obtain⟨m,hm⟩:∃ m,n-i=m+1:=⟨n-i-1,by omega⟩;have dz:n-(i+1)=m:=by omega
 rw[hm,dz];exact ay [.oT f180 8 0 i (m+1) i 0 i 1 o_ (iJ i) k_,.ld f180 9 3 0 (i*1) (.row r0 3 1) (vI 0) rfl iA k_,.fX 10 0 0 true rfl,.next f180 12 0 i m 1 o_ k_,.sum 14 (24*i) 24 (24*(i+1)) o_ o_]
theorem aNs(hi:i<n)(h0:a/bz^i%bz≠0):
  ag prog Bs 62 (aE (af f180 0)) (xg n i) (mq n a) 1 ⟨.exit 0,xg n i,mq n a,1⟩:=by
 have iA:dB prog 3 (aj (aa bz n a)) (i*1)=some (vI (a/bz^i%bz)):=by rw[fY,dJ (dV o_)]
 unfold xg mq xf;generalize aj (aa bz n a)=r0 at *;generalize a/bz^i%bz=d at *;exact ay [.oT f180 8 0 i (n-i) i 0 i 1 o_ (iJ i) k_,.ld f180 9 3 0 (i*1) (.row r0 3 1) (vI d) rfl iA k_,.fX 10 d 0 false (aQ h0)]
theorem aNt(hz:z<n)(h0:∀ i,i<z->a/bz^i%bz=0)(h1:a/bz^z%bz≠0)(h63:n<35184372088832):
  ag prog Bs 62 (.block 0 (af f180 0)) (xg n 0) (mq n a) 1 ⟨.normal,xg n z,mq n a,1⟩:=
 bO (id:=0) (cg (b:=aE (af f180 0)) (r:=⟨.exit 0,xg n z,mq n a,1⟩) z (xg n) (λ_=>mq n a) (λ_ _ _=>Iff.rfl) (λi hi=>aNr o_ (h0 i hi) h63) (aNs hz h1) n_)
def xh(n z i:Nat):aL:=[(0,xf 0 (n-z) z),(5,vI i)]
theorem aNu(hz:z<n)(hd:a/bz^z%bz=d)(C0:d<bz)(hi:i<24)(h0:d/2^i%2=0):
  ag prog Bs 62 (aE (af f180 2)) (xh n z i) (mq n a) 1 ⟨.normal,xh n z (i+1),mq n a,1⟩:=by
 have iA:dB prog 3 (aj (aa bz n a)) (z*1)=some (vI d):=by rw[fY,dJ (dV o_),hd]
 unfold xh mq xf;generalize aj (aa bz n a)=r0 at *;exact ay [.oT f180 16 0 z (n-z) z 0 z 1 o_ (iJ z) k_,.ld f180 17 3 0 (z*1) (.row r0 3 1) (vI d) rfl iA k_,.shr f180 19 .i64 (d:Int) ((d/2^i:Nat):Int) i (by rw[show min i IntKind.i64.bits=i from mE (show i<=64 by omega),rh _ (F3 d_),sA,F4];rfl) k_,.wr 20 .i64 _ ((d/2^i%2:Nat):Int) (aCg _),.fX 21 (d/2^i%2) 0 true (aD h0),.sum 23 i 1 (i+1) rfl o_]
theorem aNv(hz:z<n)(hd:a/bz^z%bz=d)(C0:d<bz)(hi:i<24)(h0:d/2^i%2≠0):
  ag prog Bs 62 (aE (af f180 2)) (xh n z i) (mq n a) 1 ⟨.exit 2,xh n z i,mq n a,1⟩:=by
 have iA:dB prog 3 (aj (aa bz n a)) (z*1)=some (vI d):=by rw[fY,dJ (dV o_),hd]
 unfold xh mq xf;generalize aj (aa bz n a)=r0 at *;exact ay [.oT f180 16 0 z (n-z) z 0 z 1 o_ (iJ z) k_,.ld f180 17 3 0 (z*1) (.row r0 3 1) (vI d) rfl iA k_,.shr f180 19 .i64 (d:Int) ((d/2^i:Nat):Int) i (by rw[show min i IntKind.i64.bits=i from mE (show i<=64 by omega),rh _ (F3 d_),sA,F4];rfl) k_,.wr 20 .i64 _ ((d/2^i%2:Nat):Int) (aCg _),.fX 21 (d/2^i%2) 0 false (aQ h0)]
theorem aNw(hz:z<n)(hd:a/bz^z%bz=d)(C0:d<bz)(hr:r<24)(h0:∀ i,i<r->d/2^i%2=0)(h1:d/2^r%2≠0):
  ag prog Bs 62 (.block 2 (af f180 2)) (xh n z 0) (mq n a) 1 ⟨.normal,xh n z r,mq n a,1⟩:=
 bO (id:=2) (cg (b:=aE (af f180 2)) (r:=⟨.exit 2,xh n z r,mq n a,1⟩) r (xh n z) (λ_=>mq n a) (λ_ _ _=>Iff.rfl) (λi hi=>aNu hz hd C0 o_ (h0 i hi)) (aNv hz hd C0 hr h1) n_)
def C1(l z r i:Nat):aL:=[(0,xf 0 l z),(5,vI r),(6,vI i)]
def oj(l z r a1 i:Nat):List Nat:=List.replicate z 0++cQ bz l i (a1/2^r) a1
def yU(l z r a1 i:Nat):aC:=[(0,.row (aj (oj l z r a1 i)) 3 1)]
theorem aCi{l:Nat}(hj:j<l)(h:i<=j):(oj l z r a1 i)[z+j]?=some (a1/bz^j%bz):=by unfold oj;rw[Dx s_,Hi,D0];exact BH hj h
theorem aCj{l:Nat}(hi:i<l)(hd:d=a1/2^r/bz^i%bz):(oj l z r a1 i).set (z+i) d=oj l z r a1 (i+1):=by unfold oj;rw[TX _ _ s_,Hi,D0,xX hi hd]
theorem UQ{l:Nat}:(oj l z r a1 i).length=z+l:=by unfold oj;rw[jW,Hi,vU]
theorem aNx{l:Nat}(hr:r<24)(hi:i<l)(ha:a1<bz^l)(h63:z+l<35184372088832):
  ag prog Bs 62 (aE (af f180 4)) (C1 l z r i) (yU l z r a1 i) 1 ⟨.normal,C1 l z r (i+1),yU l z r a1 (i+1),1⟩:=by
 have hx:=gG (B:=bz) d_ a1 i;have hy:=gG (B:=bz) d_ a1 (i+1);have uc:=aNq (r:=r) o_ hx hy;rw[YF (B:=bz) (k:=r) (X:=a1) (i:=i) d_ ⟨2^(24-r),by rw[<-dX,show r+(24-r)=24 by omega]⟩]at uc;have hw:=gG (B:=bz) d_ (a1/2^r) i;have hlx:dB prog 3 (aj (oj l z r a1 i)) ((z+i)*1)=some (vI (a1/bz^i%bz)):=by rw[fY];exact dJ (aCi hi (aZ _))
 obtain⟨C2,CH⟩:∃ C2,C2=(oj l z r a1 i).set (z+i) (a1/bz^i%bz/2^r):=⟨_,rfl⟩;have vK:eM prog 3 (aj (oj l z r a1 i)) ((z+i)*1) (vI (a1/bz^i%bz/2^r))=some (aj C2):=by rw[fY,vh (by rw[UQ];omega),CH]
 have CZ:dB prog 3 (aj C2) ((z+i)*1)=some (vI (a1/bz^i%bz/2^r)):=by rw[fY];refine dJ ?_;rw[CH,List.getElem?_set_self (by rw[UQ];omega)]
 have UR:i+1<l->dB prog 3 (aj C2) ((z+(i+1))*1)=some (vI (a1/bz^(i+1)%bz)):=λh=>by rw[fY];refine dJ ?_;rw[CH,List.getElem?_set_ne o_];exact aCi h o_
 have tw:eM prog 3 (aj C2) ((z+i)*1) (vI (a1/2^r/bz^i%bz))=some (aj (oj l z r a1 (i+1))):=by rw[fY,vh (by rw[CH,UF,UQ];omega),CH,List.set_set,aCj hi rfl]
 have uL:¬i+1<l->aj C2=aj (oj l z r a1 (i+1))/\True:=λh=>by have h0:a1/bz^(i+1)%bz=0:=qe ha o_ d_;rw[h0,kT,Nat.zero_mod,iJ]at uc;refine⟨?_,trivial⟩;rw[CH,uc,aCj hi rfl]
 have jt:bz=16777216:=rfl;unfold C1 yU xf;generalize aj (oj l z r a1 (i+1))=r2 at *;generalize aj (oj l z r a1 i)=r0 at *;generalize aj C2=r1 at *;generalize a1/2^r/bz^i%bz=w at *;generalize a1/bz^(i+1)%bz=y at *;generalize a1/bz^i%bz=x at *;have hq:(x:Int).fdiv (2^(min r IntKind.i64.bits))=((x/2^r:Nat):Int):=by rw[show min r IntKind.i64.bits=r from mE (show r<=64 by omega),rh _ (F3 d_),sA,F4];rfl
 have hxq:x/2^r<=x:=sB _ _;by_cases hl:i+1<l
 ·have UR:=UR hl;have h24:y*2^(24-r)<281474976710656:=by have h1:2^(24-r)<=2^24:=cX d_ o_;have h2:=YJ hy h1 d_;rw[show bz*2^24=281474976710656 by decide]at h2;exact h2
  have aCk:IntKind.i64.wrap ((y:Int)*2^(min (24-r) IntKind.i64.bits))=((y*2^(24-r):Nat):Int):=by
   have e:(y:Int)*2^(24-r)=((y*2^(24-r):Nat):Int):=by simp
   rw[show min (24-r) IntKind.i64.bits=24-r from mE (show 24-r<=64 by omega),dO,e];omega
  obtain⟨g,hg⟩:∃ g,g=y*2^(24-r):=⟨_,rfl⟩;rw[<-hg]at uc aCk h24;obtain⟨v,hv⟩:∃ v,v=x/2^r:=⟨_,rfl⟩;rw[<-hv]at uc hq hxq vK CZ;exact fo mixed 200 [.lt 27 i l true (by simp[hi]),.oT f180 32 0 z l z i (z+i) 1 hi rfl k_,.ld f180 33 3 0 ((z+i)*1) (.row r0 3 1) (vI x) rfl hlx k_,.shr f180 35 .i64 (x:Int) (v:Int) r hq k_,.oT f180 36 0 z l z i (z+i) 1 hi rfl k_,.st f180 100036 3 0 ((z+i)*1) (.row r0 3 1) (vI v) (.row r1 3 1) rfl vK rfl k_,.sum 38 i 1 (i+1) rfl o_,.lt 41 (i+1) l true (by simp[hl]),.oT f180 44 0 z l z i (z+i) 1 hi rfl k_,.ld f180 45 3 0 ((z+i)*1) (.row r1 3 1) (vI v) rfl CZ k_,.sum 48 i 1 (i+1) rfl o_,.oT f180 49 0 z l z (i+1) (z+(i+1)) 1 hl rfl k_,.ld f180 50 3 0 ((z+(i+1))*1) (.row r1 3 1) (vI y) rfl UR k_,.eO 52 24 r (24-r) o_ o_,.shl f180 53 .i64 (y:Int) (g:Int) (24-r) aCk k_,.ER 54 g bz (g%bz) rfl,.sum 55 v (g%bz) w uc.symm o_,.oT f180 56 0 z l z i (z+i) 1 hi rfl k_,.st f180 100056 3 0 ((z+i)*1) (.row r1 3 1) (vI w) (.row r2 3 1) rfl tw rfl k_,.sum 29 i 1 (i+1) rfl o_] k_
 ·obtain⟨e1,_⟩:=uL hl;subst e1;obtain⟨v,hv⟩:∃ v,v=x/2^r:=⟨_,rfl⟩;rw[<-hv]at uc hq hxq vK CZ;exact fo mixed 200 [.lt 27 i l true (by simp[hi]),.oT f180 32 0 z l z i (z+i) 1 hi rfl k_,.ld f180 33 3 0 ((z+i)*1) (.row r0 3 1) (vI x) rfl hlx k_,.shr f180 35 .i64 (x:Int) (v:Int) r hq k_,.oT f180 36 0 z l z i (z+i) 1 hi rfl k_,.st f180 100036 3 0 ((z+i)*1) (.row r0 3 1) (vI v) (.row r1 3 1) rfl vK rfl k_,.sum 38 i 1 (i+1) rfl o_,.lt 41 (i+1) l false (by simp[hl]),.sum 29 i 1 (i+1) rfl o_] k_
theorem aNy{l:Nat}(hr:r<24)(ha:a1<bz^l)(h63:z+l<35184372088832):
  ag prog Bs 62 (.block 4 (af f180 4)) (C1 l z r 0) (yU l z r a1 0) 1 ⟨.normal,C1 l z r l,yU l z r a1 l,1⟩:=
 bO (id:=4) (cg (b:=aE (af f180 4)) (r:=⟨.exit 4,C1 l z r l,yU l z r a1 l,1⟩) l (C1 l z r) (yU l z r a1) (λk j _=>jx (l:=yU l z r a1 k) (m:=yU l z r a1 0) rfl j) (λi hi=>aNx hr hi ha h63)
  (ay [.lt 27 l l false s_]) n_)
end

theorem aCl(h0:a≠0):∃ z r,z<nd bz a/\r<24/\(∀ i,i<z->a/bz^i%bz=0)/\a/bz^z%bz≠0/\(∀ i,i<r->a/bz^z%bz/2^i%2=0)/\a/bz^z%bz/2^r%2≠0/\
  a=a/bz^z/2^r*2^(24*z+r)/\a/bz^z/2^r%2=1:=by
 have hnp:=vS (B:=bz) d_ h0;have wx:¬a/bz^(nd bz a-1)%bz=0:=λh=>by have h1:=dL (B:=bz) d_ a;rw[show nd bz a=nd bz a-1+1 by omega]at h1;have h2:=(FH (B:=bz) d_ h1).1 h;have h3:=iN (B:=bz) d_ h2;omega
 obtain⟨z,z1,z2,z3⟩:=xW (λi=>¬a/bz^i%bz=0) _ wx;have z3':∀ i,i<z->a/bz^i%bz=0:=λi hi=>DW.1 (z3 i hi);obtain⟨d,hd⟩:∃ d,d=a/bz^z%bz:=⟨_,rfl⟩;have C0:d<bz:=by rw[hd];exact cC _ d_
 have Cc:d≠0:=by rw[hd];exact z2
 have aNz:∃ i,i<24/\¬d/2^i%2=0:=jM λfP=>Cc (by have h:=UP (d:=d) 24 (λi hi=>jM λh=>fP ⟨i,hi,h⟩);rw[dG (show d<2^24 from C0)]at h;exact h)
 obtain⟨i0,hi0,kk⟩:=aNz;obtain⟨r,r1,r2,r3⟩:=xW (λi=>¬d/2^i%2=0) _ kk;have US:∀ i,i<r->d/2^i%2=0:=λi hi=>DW.1 (r3 i hi);have e1:a%bz^z=0:=aCh z z3';have e2:d%2^r=0:=UP r US;obtain⟨a1,dT⟩:∃ a1,a1=a/bz^z:=⟨_,rfl⟩;have ea:a=a1*bz^z:=by have:=iP a (bz^z);rw[e1,<-dT,cH]at this;omega
 have hb:bz=2^(24-r)*2^r:=by rw[<-dX,show 24-r+r=24 by omega]
 have ed:a1=bz*(a1/bz)+d:=by rw[hd,<-dT];exact(iP _ _).symm
 have e3:a1%2^r=0:=by
  rw[ed]
  conv=>lhs;rw[hb]
  rw[Ae,cH _ (2^r),Nat.mul_add_mod,e2]
 have ea1:a1=a1/2^r*2^r:=by have:=iP a1 (2^r);rw[e3,cH]at this;omega
 have e4:a1/2^r%2=d/2^r%2:=by
  have h2:0<2^r:=cE d_;have h3:a1/2^r=2^(24-r)*(a1/bz)+d/2^r:=by
   conv=>lhs;rw[ed,hb]
   rw[Ae,lW,oG _ _ h2,lW];rw[<-hb]
  rw[h3,show 24-r=(23-r)+1 by omega,dh,Ae,lW,B5]
 rw[hd]at r2 US;refine⟨z,r,by omega,by omega,z3',z2,US,r2,?_,?_⟩
 ·rw[<-dT];have e5:bz^z=2^(24*z):=by rw[rj]
  rw[dX,cH (2^(24*z)),<-fq,<-ea1,<-e5];exact ea
 ·rw[<-dT,e4,hd];omega
theorem aNA(h0:a≠0)(h63:nd bz a<1099511627776):∃ s a2,a=a2*2^s/\a2%2=1/\s<35184372088832/\∀(Bs:ae) (o:Oper) (k j:Nat),da o.op=some (.func 180)->
  ct prog Bs o [.func (.func 180) #[] #[],sl k (nd bz a)] [(k,some (iF a)),(j,none)] (.tuple #[sl j (nd bz a2),vI s]) [(j,dN a2),(k,.dead)]:=by
 obtain⟨z,r,hz,hr,z3,z2,r3,r2,aCm,OH⟩:=aCl h0;have av:=dL (B:=bz) d_ a;obtain⟨a1,dT⟩:∃ a1,a1=a/bz^z:=⟨_,rfl⟩;obtain⟨a2,fO⟩:∃ a2,a2=a1/2^r:=⟨_,rfl⟩;have C0:a/bz^z%bz<bz:=cC _ d_;rw[<-dT,<-fO]at aCm OH;refine⟨24*z+r,a2,aCm,OH,by omega,λBs o k j ho=>?_⟩;have h20:a2≠0:=λe=>by rw[e]at OH;cases OH
 have E0:=aNp (n:=nd bz a) (z:=z) (a:=a) o_ z3;rw[<-dT]at E0;have iW:iF a=.row (aj (aa bz (nd bz a) a)) 3 1:=rfl;obtain⟨n,hn⟩:∃ n,n=nd bz a:=⟨_,rfl⟩;rw[iW];rw[<-hn]at hz av E0 h63 ⊢;have aCn:a1<bz^(n-z):=by rw[dT,gY (cE d_),<-dX,show n-z+z=n by omega];exact av
 have UT:a2<bz^(n-z):=eP (by rw[fO];exact sB _ _) aCn;have l1:=λBs=>aNt (Bs:=Bs) hz z3 z2 o_;have l2:=λBs=>aNw (Bs:=Bs) (r:=r) hz rfl C0 hr r3 r2;have l3:=λBs=>aNy (Bs:=Bs) (z:=z) (l:=n-z) hr aCn o_;have e0:oj (n-z) z r a1 0=aa bz n a:=by unfold oj;rw[E0];unfold cQ aa;simp
 have e1:oj (n-z) z r a1 (n-z)=List.replicate z 0++aa bz (n-z) a2:=by
  unfold oj;rw[<-fO]
  congr 1
  unfold cQ aa;refine vM λi hi=>?_;rw[aq (kf.1 hi)]
 obtain⟨fin,CV⟩:∃ fin,fin=aj (List.replicate z 0++aa bz (n-z) a2):=⟨_,rfl⟩;have aCo:(fin.drop (z*1)).take (n-z)=aj (aa bz (n-z) a2):=by rw[CV,fY];unfold aj;rw[vC,P2 s_,jN (by simp[nR])]
 unfold yU at l3;rw[e0,e1,<-CV]at l3;have aNB:nd bz a2<=n-z:=iN d_ UT;have z7:fin.all flat=true:=by rw[CV];exact gQ _
 have Cb:(fin.drop (z*1)).take (nd bz a2)=cG a2:=by
  have h1:(aj (aa bz (n-z) a2)).take (nd bz a2)=cG a2:=by have:=A2 UT;rwa[fY]at this
  rw[<-aCo,Li,mE aNB]at h1;exact h1
 have jJ:=vS (B:=bz) d_ h20;have htr:∀ Bs,ct prog Bs (au f180 58) [.func (.func 206) #[] #[],xf 0 (n-z) z] [(0,some (.row fin 3 1))] (xf 0 (nd bz a2) z) []:=λBs=>
  aNn (Bs:=Bs) (y:=.func 206) (k:=0) (off:=z*1) (cc:=z) (x:=.row fin 3 1) k_ rfl z7 aCo UT o_
 unfold xg mq at l1;unfold xh mq at l2;unfold C1 at l3;refine aMN (x:=.func 180) ho k_ o_ (lJ _) (lJ _) rfl jJ λw g cap cur hg kQ jf bE hc=>?_;have hm:=QS hg jf bE hc (lJ _)
 refine tA (M:=[(0,.row (aj (aa bz n a)) 3 1)]) (next:=1) (args:=[sl 0 n]) (args':=[.slice (some ⟨g,0,none⟩) n cap]) (v:=.tuple #[xf 0 (nd bz a2) z,vI (24*z+r)])
  (ms:=[(0,.row fin 3 1)]) (N:=62) mixed func180 k_ 200
  (rs:=[(.code 0 _ _ _ _ _ (l1 _):aO prog (ae.v8 w g) 62),.code 2 _ _ _ _ _ (l2 _),.code 4 _ _ _ _ _ (l3 _),.step 58 (au f180 58) _ _ _ _ (htr _),.sum 61 (24*z) r (24*z+r) rfl o_]) k_ ?_ hm ?_ ?_ ?_
 ·exact .cons (.slc (off:=0) (fj _ _ _) kQ o_) .nil
 ·exact XU _ _ _
 ·intro k hk;unfold aT;rw[al o_]
 ·intro ao bP v' w' hle rZ bh dD;have JC:=dD _ (aN ..);have th:=hle 0 _ (fj _ _ _);obtain⟨q1,fv,q2,q3,q4⟩:=QT bh th JC (aX.1 z7);obtain⟨cU,rfl,aU⟩:=rZ.tg;obtain⟨p,q,hp,h3,h4⟩:=iH aU;have e:cU=#[p,q]:=uE.1 (by rw[hp]);subst e;rw[h4.eW rfl];have cB:=nQ (len:=nd bz a2) bh JC rfl (aX.1 z7) (λh=>h) h3;have UU:cZ w' p (nd bz a2) ((fin.drop (z*1)).take (nd bz a2)):=cB;rw[Cb]at UU;rcases h3.gK rfl with ⟨_,Dq,_⟩|⟨b,oo,o6,c2,gD,_,_,he⟩
  ·omega
  ·dsimp only at gD he;rw[th]at gD;injection gD with gD;injection gD with gD hb3 hb4;subst gD;subst hb3;rw[he]at UU ⊢;exact⟨_,_,rfl,q1,⟨fv,q2,q3⟩,UU⟩
theorem aCp(h:m%2=1)(s:Nat):Nat.Coprime (2^s) m:=by refine Nat.Coprime.pow_left s ?_;show Nat.gcd 2 m=1;rw[Nat.gcd_rec,h];rfl
theorem aCq{x y s t:Nat}(h:x*2^s=y*2^t)(hx:x%2=1)(bH:s<=t):x=y/\s=t:=by
 obtain⟨d,rfl⟩:∃ d,t=s+d:=⟨t-s,by omega⟩;have h2:0<2^s:=cE d_;rw[dX,cH (2^s),<-fq]at h;have h3:=aIs h2 h;cases d with
 |zero=>exact⟨by rw[h3];simp,rfl⟩
 |succ d=>
  exfalso;rw[dh,<-fq]at h3;rw[h3,XF]at hx;cases hx
theorem aNC{x y s t:Nat}(h:x*2^s=y*2^t)(hx:x%2=1)(hy:y%2=1):x=y/\s=t:=by
 rcases Mz s t with h1|h1
 ·exact aCq h hx h1
 ·obtain⟨e1,e2⟩:=aCq h.symm hy h1;exact⟨e1.symm,e2.symm⟩
noncomputable def gw(a:Nat):Nat:=by
 classical
 exact if h:∃ x s,a=x*2^s/\x%2=1 then h.choose else 1
theorem aCr{x s:Nat}(h:a=x*2^s)(hx:x%2=1):gw a=x:=by have hex:∃ x s,a=x*2^s/\x%2=1:=⟨x,s,h,hx⟩;unfold gw;rw[dif_pos hex];obtain⟨t,h1,h2⟩:=hex.choose_spec;exact(aNC (h1.symm.trans h) h2 hx).1
theorem UW(h0:a≠0):∃ s,a=gw a*2^s/\gw a%2=1/\gw a<=a:=by obtain⟨z,r,_,_,_,_,_,_,h1,h2⟩:=aCl h0;have e:=aCr h1 h2;rw[e];exact⟨_,h1,h2,c9 (DY _ (cE d_)) (uA h1.symm)⟩
noncomputable def gs(a b:Nat):Nat->Nat×Nat
 |0=>(a,b)
 |i+1=>(min (gs a b i).1 (gs a b i).2,gw (max (gs a b i).1 (gs a b i).2-min (gs a b i).1 (gs a b i).2))
theorem aND{u v:Nat}(hu:u%2=1)(hv:v%2=1)(aY:u≠v):min u v%2=1/\gw (max u v-min u v)%2=1/\Nat.gcd (min u v) (gw (max u v-min u v))=Nat.gcd u v/\min u v+gw (max u v-min u v)<u+v/\max (min u v) (gw (max u v-min u v))<=max u v:=by
 have go:∀ u v,u%2=1->u<v->gw (v-u)%2=1/\Nat.gcd u (gw (v-u))=Nat.gcd u v/\u+gw (v-u)<u+v/\max u (gw (v-u))<=v:=by intro u v hu av;obtain⟨s,h1,h2,h3⟩:=UW (show v-u≠0 by omega);refine⟨h2,?_,by omega,Nat.max_le.2 ⟨by omega,by omega⟩⟩;have h4:=(aCp hu s).gcd_mul_right_cancel_right (gw (v-u));rw[<-h1]at h4;rw[<-h4,Nat.gcd_sub_self_right o_]
 rcases DA aY with h|h
 ·rw[mE o_,aCs o_];obtain⟨h1,h2,h3,h4⟩:=go u v hu h;exact⟨hu,h1,h2,h3,h4⟩
 ·rw[UB o_,aCt o_];obtain⟨h1,h2,h3,h4⟩:=go v u hv h;exact⟨hv,h1,by rw[h2,Gl],by omega,h4⟩
theorem OI{a b:Nat}(ha:a%2=1)(hb:b%2=1):∀ i,(∀ j,j<i->(gs a b j).1≠(gs a b j).2)->(gs a b i).1%2=1/\(gs a b i).2%2=1/\Nat.gcd (gs a b i).1 (gs a b i).2=Nat.gcd a b/\(gs a b i).1+(gs a b i).2+i<=a+b/\max (gs a b i).1 (gs a b i).2<=max a b
 |0,_=>⟨ha,hb,rfl,aZ _,aZ _⟩
 |i+1,h=>by obtain⟨h1,h2,h3,h4,h5⟩:=OI ha hb i λj hj=>h j o_;obtain⟨k1,k2,k3,k4,k5⟩:=aND h1 h2 (h i o_);exact⟨k1,k2,k3.trans h3,by show min _ _+gw _+(i+1)<=a+b;omega,c9 k5 h5⟩
theorem aNE(ha:a%2=1)(hb:b%2=1):∃ n,(gs a b n).1=(gs a b n).2/\∀ i,i<n->(gs a b i).1≠(gs a b i).2:=by
 have key:∃ n,(gs a b n).1=(gs a b n).2:=jM λfP=>by have:=OI ha hb (a+b+1) λj _ h=>fP ⟨j,h⟩;omega
 obtain⟨n,hn⟩:=key;obtain⟨e,h1,h2,h3⟩:=xW (λi=>(gs a b i).1=(gs a b i).2) n hn;exact⟨e,h2,h3⟩
theorem aNF{x y s t:Nat}(hx:x%2=1)(hy:y%2=1):Nat.gcd (x*2^s) (y*2^t)=Nat.gcd x y*2^(min s t):=by
 have go:∀ x y s t,x%2=1->s<=t->Nat.gcd (x*2^s) (y*2^t)=Nat.gcd x y*2^s:=by intro x y s t hx bH;obtain⟨d,rfl⟩:∃ d,t=s+d:=⟨t-s,by omega⟩;rw[dX,cH (2^s),<-fq,Nat.gcd_mul_right,(aCp hx d).gcd_mul_right_cancel_right]
 rcases Mz s t with h|h
 ·rw[mE h,go x y s t hx h]
 ·rw[UB h,Gl,go y x t s hy h,Gl]
theorem UX(h:decide (a=b)=t):Value.bool (gH a b==0)=.bool t:=by
 rw[<-h];congr 1;unfold gH
 by_cases h1:a<b
 ·rw[aq h1,aQ o_];rfl
 ·rw[al h1];by_cases h2:b<a
  ·rw[aq h2,aQ o_];rfl
  ·rw[al h2,aD o_];rfl
theorem aCu(h:decide (b<a)=t):Value.bool (decide (gH a b>0))=.bool t:=by
 rw[<-h];congr 1;rw[pe];unfold gH
 by_cases h1:a<b
 ·rw[aq h1];omega
 ·rw[al h1];by_cases h2:b<a
  ·rw[aq h2];omega
  ·rw[al h2];omega
theorem OJ(h0:a≠0)(h63:nd bz a<1099511627776):∃ s,a=gw a*2^s/\s<35184372088832/\∀(Bs:ae) (o:Oper) (k j:Nat),da o.op=some (.func 180)->
  ct prog Bs o [.func (.func 180) #[] #[],sl k (nd bz a)] [(k,some (iF a)),(j,none)] (.tuple #[sl j (nd bz (gw a)),vI s]) [(j,dN (gw a)),(k,.dead)]:=by
 obtain⟨s,a2,h1,h2,h3,h4⟩:=aNA h0 h63;have e:=aCr h1 h2;rw[e];exact⟨s,h1,h3,h4⟩
section
variable{Bs:ae}
def gI(u v:Nat):aL:=[(9,sl 7 (nd bz u)),(10,sl 8 (nd bz v))]
def gX(u v:Nat):List Obj:=[dN u,dN v]
theorem aNG{u v:Nat}(av:u<v)(hu:nd bz u<1099511627776)(hv:nd bz v<1099511627776):
  ag prog Bs 111 (aE (af f126 2)) (gI u v) ([]++marks 7 (gX u v)) 9 ⟨.normal,eY 7 [some 7,some 10] (gI u (gw (v-u))),[]++dc [some 7,some 10] (gX u (gw (v-u))),11⟩:=by
 have hd:nd bz (v-u)<1099511627776:=eP (iO d_ (Ea _ _)) hv;obtain⟨s,_,_,ho⟩:=OJ (show v-u≠0 by omega) hd;exact ay [.Hj f126 86 7 8 u v (dN u) (dN v) rfl rfl rfl rfl o_ o_ k_,.rw 88 _ a_ (UX (a:=u) (b:=v) (aQ o_)),.rw 90 _ a_ (aCu (a:=u) (b:=v) (aQ o_)),.Kk f126 96 9 8 7 v u (dN v) (dN u) rfl rfl rfl rfl o_ o_ k_,.step 97 _ _ _ _ _ (ho Bs (au f126 97) 9 10 k_)]
theorem aNH{u v:Nat}(av:v<u)(hu:nd bz u<1099511627776)(hv:nd bz v<1099511627776):
  ag prog Bs 111 (aE (af f126 2)) (gI u v) ([]++marks 7 (gX u v)) 9 ⟨.normal,eY 7 [some 8,some 10] (gI v (gw (u-v))),[]++dc [some 8,some 10] (gX v (gw (u-v))),11⟩:=by
 have hd:nd bz (u-v)<1099511627776:=eP (iO d_ (Ea _ _)) hu;obtain⟨s,_,_,ho⟩:=OJ (show u-v≠0 by omega) hd;exact ay [.Hj f126 86 7 8 u v (dN u) (dN v) rfl rfl rfl rfl o_ o_ k_,.rw 88 _ a_ (UX (a:=u) (b:=v) (aQ o_)),.rw 90 _ b_ (aCu (a:=u) (b:=v) (aD o_)),.Kk f126 96 9 7 8 u v (dN u) (dN v) rfl rfl rfl rfl o_ o_ k_,.step 97 _ _ _ _ _ (ho Bs (au f126 97) 9 10 k_)]
theorem aNI{u:Nat}(hu:nd bz u<1099511627776):
  ag prog Bs 111 (aE (af f126 2)) (gI u u) ([]++marks 7 (gX u u)) 9 ⟨.exit 2,[(9,sl 7 (nd bz u))],[(7,dN u)],9⟩:=
 ay [.Hj f126 86 7 8 u u (dN u) (dN u) rfl rfl rfl rfl o_ o_ k_,.rw 88 _ b_ (UX (a:=u) (b:=u) (aD rfl))]
theorem aNJ(ha:a%2=1)(hb:b%2=1)(hm:nd bz (max a b)<1099511627776):
  ag prog Bs 111 (.block 2 (af f126 2)) [(9,sl 5 (nd bz a)),(10,sl 6 (nd bz b))] [(5,dN a),(6,dN b)] 7 ⟨.normal,[(9,sl 7 (nd bz (Nat.gcd a b)))],[(7,dN (Nat.gcd a b))],9⟩:=by
 obtain⟨n,hn,hi⟩:=aNE ha hb;have tS:=(OI ha hb n hi).2.2.1;rw[hn,Nat.gcd_self]at tS;have DB:∀ i,i<=n->nd bz (gs a b i).1<1099511627776/\nd bz (gs a b i).2<1099511627776:=λi cB=>by have h:=(OI ha hb i λj hj=>hi j o_).2.2.2.2;have h1:=iO (B:=bz) d_ (c9 (Nat.le_max_left _ _) h);have h2:=iO (B:=bz) d_ (c9 (Nat.le_max_right _ _) h);omega
 have uL:ag prog Bs 111 (aE (af f126 2)) (gI (gs a b n).1 (gs a b n).2) ([]++marks 7 (gX (gs a b n).1 (gs a b n).2)) 9 ⟨.exit 2,[(9,sl 7 (nd bz (Nat.gcd a b)))],[(7,dN (Nat.gcd a b))],9⟩:=by have gD:=(DB n (aZ _)).2;rw[hn,tS]at *;exact aNI gD
 have:=rm (P:=prog) (B:=Bs) (N:=111) (b:=aE (af f126 2)) (next:=7) (p:=2) (r:=⟨.exit 2,[(9,sl 7 (nd bz (Nat.gcd a b)))],[(7,dN (Nat.gcd a b))],9⟩) n (λi=>gI (gs a b i).1 (gs a b i).2) (λ_=>[]) (λi=>gX (gs a b i).1 (gs a b i).2) [some 5,some 6] (λ_ _=>rfl)
  (λi _=>⟨λq hq=>(by cases hq),λz hz=>by simp[gX]at hz;rcases hz with rfl|rfl<;>exact FZ (lJ _)⟩) k_ k_
  (λi av=>by
   have aY:=hi i av;obtain⟨b1,b2⟩:=DB i o_;have e1:(gs a b (i+1)).1=min (gs a b i).1 (gs a b i).2:=rfl;have e2:(gs a b (i+1)).2=gw (max (gs a b i).1 (gs a b i).2-min (gs a b i).1 (gs a b i).2):=rfl;simp only[e1,e2];generalize (gs a b i).1=u at *;generalize (gs a b i).2=v at *;rcases DA aY with h|h
   ·rw[mE o_,aCs o_];exact⟨[some 7,some 10],11,k_,aNG h b1 b2⟩
   ·rw[UB o_,aCt o_];exact⟨[some 8,some 10],11,k_,aNH h b1 b2⟩) uL n_
 exact bO (id:=2) this
def tI(g s t i:Nat):aL:=[(14,vI i),(9,sl 9 (nd bz (g*2^i))),(11,vI s),(12,vI t)]
theorem aNK{g s t:Nat}(hi:i<min s t)(hg:nd bz (g*2^i)<35184372088832)(hs:s<35184372088832):
  ag prog Bs 111 (aE (af f126 4)) (tI g s t i) ([]++marks 9 [dN (g*2^i)]) 10 ⟨.normal,eY 9 [some 10] (tI g s t (i+1)),[]++dc [some 10] [dN (g*2^(i+1))],11⟩:=by
 have ht:=aCe (B:=Bs) (o:=au f126 108) (x:=.func 181) (aMf (a:=g*2^i) (c:=0) o_ hg) (mV (k:=9) (x:=dN (g*2^i)) rfl rfl (.p (v:=vI 0) rfl .nil)) k_ k_ (rP _) 10;have e:2*(g*2^i)+0=g*2^(i+1):=by rw[dh,iJ,lX,cH 2]
 rw[e]at ht;obtain⟨m,hm⟩:∃ m,m=min s t:=⟨_,rfl⟩;rw[<-hm]at hi;have dD:m<=s:=by rw[hm];exact Nat.min_le_left _ _
 unfold tI;generalize g*2^(i+1)=y at *;generalize g*2^i=x at *;exact ay [.OB f126 103 s t m hm k_,.lt 104 i m true (aD hi),.step 108 _ _ _ _ _ ht,.sum 106 i 1 (i+1) rfl o_]
theorem aNL{g s t:Nat}(hg:∀ i,i<=min s t->nd bz (g*2^i)<35184372088832)(hs:s<35184372088832):
  ag prog Bs 111 (.block 4 (af f126 4)) [(14,vI 0),(9,sl 7 (nd bz g)),(11,vI s),(12,vI t)] [(7,dN g)] 9 ⟨.normal,[(9,sl 9 (nd bz (g*2^min s t)))],[(9,dN (g*2^min s t))],10⟩:=by
 have:=rm (P:=prog) (B:=Bs) (N:=111) (b:=aE (af f126 4)) (next:=9) (p:=1) (r:=⟨.exit 4,[(9,sl 9 (nd bz (g*2^min s t)))],[(9,dN (g*2^min s t))],10⟩) (min s t) (tI g s t) (λ_=>[]) (λi=>[dN (g*2^i)]) [some 7] (λ_ _=>rfl)
  (λi _=>⟨λq hq=>(by cases hq),λz hz=>by simp at hz;subst hz;exact FZ (lJ _)⟩) k_ k_
  (λi av=>⟨[some 10],11,k_,aNK av (hg i o_) hs⟩)
  (by unfold tI;obtain⟨m,hm⟩:∃ m,m=min s t:=⟨_,rfl⟩;rw[<-hm];generalize g*2^m=x at *;exact ay [.OB f126 103 s t m hm k_,.lt 104 m m false s_]) n_
 have e0:g*2^0=g:=by simp
 unfold tI at this;rw[e0]at this;exact bO (id:=4) this
def aTA(u v:Nat):aL:=[(5,vI u),(7,vI v)]
theorem aTJ{x y:Nat}:ag prog Bs 111 (.block 0 (af f126 0)) (aTA x y) [] 3 ⟨.normal,[(5,vI (Nat.gcd x y))],[],3⟩:=by
 obtain⟨n,hn,hi⟩:=My x y (λ_ v=>decide (v≠0)) (λu v h=>lC h);have hz:(eu x y n).2=0:=by have:=Cf hn;omega
 have hg:=I1 x y n;rw[hz,R0]at hg;rw[<-hg];refine bO (id:=0) (cg (P:=prog) (B:=Bs) (N:=111) (b:=aE (af f126 0)) (next:=3) (r:=⟨.exit 0,[(5,vI (eu x y n).1)],[],3⟩) n (λi=>aTA (eu x y i).1 (eu x y i).2) (λ_=>[]) (λ_ _ _=>Iff.rfl) (λi av=>?_) ?_ n_)
 ·have h0:(eu x y i).2≠0:=lC (hi i av);show ag _ _ _ _ (aTA (eu x y i).1 (eu x y i).2) [] 3 ⟨.normal,aTA (eu x y i).2 ((eu x y i).1%(eu x y i).2),[],3⟩;generalize (eu x y i).1=u at *;generalize (eu x y i).2=v at *;exact ay [.rw 49 (.bool ((v:Int)!=0)) b_ (by congr 1;rw[qg];omega),.zR f126 53 .i64 (u:Int) v ((u%v:Nat):Int) o_ (by rw[ya o_];rfl) k_]
 ·rw[hz];exact ay [.rw 49 (.bool (((0:Nat):Int)!=0)) a_ rfl]
end
theorem aTL{n1 n2:Bool}{p:Nat}(v1:n1=true->m1≠0)(v2:n2=true->m2≠0)(h1:m1<2^p)(h2:m2<2^q)(hp:p<=1099511627774)(hq:q<=1099511627774):
  aB prog 126 [sv n1 m1,sv n2 m2] (bC (Nat.gcd m1 m2:Nat)):=by
 have b1:=xb h1;have b2:=xb h2;have c1:=uR h1;have c2:=uR h2;have w1:=aTi n1 v1;have w2:=aTi n2 v2;have r1:=Km m1;have r2:=Km m2;obtain⟨t1,iL⟩:∃ t,decide (((nd 256 m1:Nat):Int)<=7)=t:=⟨_,rfl⟩;obtain⟨t2,nk⟩:∃ t,decide (((nd 256 m2:Nat):Int)<=7)=t:=⟨_,rfl⟩;by_cases hs:t1=true/\t2=true
 ·obtain⟨rfl,rfl⟩:=hs;have s1:=lC iL;have s2:=lC nk;have q1:=Uv (neg:=false) (m:=m1) n_ o_;have q2:=Uv (neg:=false) (m:=m2) n_ o_;have l1:m1<_:=Kl o_;have l2:m2<_:=Kl o_;have MA:Nat.gcd m1 m2<72057594037927936:=by
   by_cases h0:m1=0
   ·rw[h0,SG];exact l2
   ·exact eP (Zt _ (sn h0)) l1
  exact aV func126 (λw=>[w1.at 16,w2.at 20,.rw 26 _ (vI (nd 256 m1)) r1,.rw 27 (.bool (decide (((nd 256 m1:Nat):Int)<=7))) (.bool _) (by rw[iL]),.rw 31 _ (vI (nd 256 m2)) r2,.rw 32 (.bool (decide (((nd 256 m2:Nat):Int)<=7))) (.bool _) (by rw[nk]),q1.at 38,q2.at 45,.code 0 _ _ _ _ _ (aTJ (x:=m1) (y:=m2)),(aTT (z:=((Nat.gcd m1 m2:Nat):Int)) o_ o_).at 55])
 ·by_cases hz:m1=0\/m2=0
  ·have e:Nat.gcd m1 m2=m1+m2:=by rcases hz with h|h<;>rw[h]<;>simp
   have bs:nd bz (m1+m2)<35184372088832:=by rcases hz with h|h<;>rw[h]<;>simp<;>omega
   rw[e];obtain⟨z1,G7⟩:∃ t,decide (nd bz m1=0)=t:=⟨_,rfl⟩;obtain⟨z2,J8⟩:∃ t,decide (nd bz m2=0)=t:=⟨_,rfl⟩;have hzz:¬(z1=false/\z2=false):=by
    rintro⟨rfl,rfl⟩
    rcases hz with h|h
    ·exact Cf G7 (by rw[h,qd])
    ·exact Cf J8 (by rw[h,qd])
   refine eX mixed func126 100 (λw=>[w1.at 16,w2.at 20,.rw 26 _ (vI (nd 256 m1)) r1,.rw 27 (.bool (decide (((nd 256 m1:Nat):Int)<=7))) (.bool t1) (by rw[iL])]++(bif t1 then[.rw 31 _ (vI (nd 256 m2)) r2,.rw 32 (.bool (decide (((nd 256 m2:Nat):Int)<=7))) (.bool t2) (by rw[nk])]else[])++[.xa f126 58 3 m1 o_ k_,.xa f126 61 4 m2 o_ k_,.fX 64 (nd bz m1) 0 z1 G7]++(bif z1 then[]else[.fX 68 (nd bz m2) 0 z2 J8])++[
     .aB2 f126 72 5 3 4 m1 m2 (iF m1) (iF m2) rfl rfl rfl rfl o_ o_ k_,.yQ f126 73 5 (m1+m2) false (iF (m1+m2)) rfl rfl bs k_]) (λ_=>?_) k_ ?_<;>cases t1<;>cases t2<;>cases z1<;>cases z2<;>first|exact absurd ⟨rfl,rfl⟩ hs|exact absurd ⟨rfl,rfl⟩ hzz|kernel_rfl
  ·have tD:m1≠0:=λe=>hz (.inl e);have B0:m2≠0:=λe=>hz (.inr e);have h41:=vS (B:=bz) d_ tD;have h42:=vS (B:=bz) d_ B0;obtain⟨s,es,hsb,os⟩:=OJ tD o_;obtain⟨t,et,htb,ot⟩:=OJ B0 o_;obtain⟨_,_,o1,wJ⟩:=UW tD;obtain⟨_,_,o2,UY⟩:=UW B0;have r8:=aNF (s:=s) (t:=t) o1 o2;rw[<-es,<-et]at r8;have Tx:nd bz (max (gw m1) (gw m2))<1099511627776:=by
    have k1:=iO (B:=bz) d_ wJ;have k2:=iO (B:=bz) d_ UY;rcases Mz (gw m1) (gw m2)with h|h
    ·rw[aCs h];omega
    ·rw[aCt h];omega
   have gl:=λBs=>aNJ (Bs:=Bs) o1 o2 Tx;have Js:Nat.gcd m1 m2<=m1:=Zt _ (sn tD);have tb:∀ i,i<=min s t->nd bz (Nat.gcd (gw m1) (gw m2)*2^i)<35184372088832:=λi hi=>by
    have k1:Nat.gcd (gw m1) (gw m2)*2^i<=Nat.gcd m1 m2:=by rw[r8];exact iX _ (cX d_ hi)
    have k2:=iO (B:=bz) d_ (c9 k1 Js);omega
   have tl:=λBs=>aNL (Bs:=Bs) (g:=Nat.gcd (gw m1) (gw m2)) (s:=s) (t:=t) tb hsb;rw[<-r8]at tl;have bg:nd bz (Nat.gcd m1 m2)<35184372088832:=by have:=iO (B:=bz) d_ Js;omega
   generalize Nat.gcd m1 m2=G at *;generalize Nat.gcd (gw m1) (gw m2)=G0 at *;generalize gw m1=x1 at *;generalize gw m2=x2 at *;refine eX mixed func126 200 (λw=>[w1.at 16,w2.at 20,.rw 26 _ (vI (nd 256 m1)) r1,.rw 27 (.bool (decide (((nd 256 m1:Nat):Int)<=7))) (.bool t1) (by rw[iL])]++(bif t1 then[.rw 31 _ (vI (nd 256 m2)) r2,.rw 32 (.bool (decide (((nd 256 m2:Nat):Int)<=7))) (.bool t2) (by rw[nk])]else[])++[.xa f126 58 3 m1 o_ k_,.xa f126 61 4 m2 o_ k_,.fX 64 (nd bz m1) 0 false (aQ o_),.fX 68 (nd bz m2) 0 false (aQ o_),.step 76 _ _ _ _ _ (os _ (au f126 76) 3 5 k_),.step 81 _ _ _ _ _ (ot _ (au f126 81) 4 6 k_),.code 2 _ _ _ _ _ (gl _),.code 4 _ _ _ _ _ (tl _),.yQ f126 110 9 G false (dN G) rfl rfl bg k_]) (λ_=>?_) k_ ?_<;>cases t1<;>cases t2<;>first|exact absurd ⟨rfl,rfl⟩ hs|kernel_rfl
theorem aT0{x:Int}{p:Nat}(h1:x.natAbs<2^p)(h2:y.natAbs<2^q)(hp:p<=1099511627774)(hq:q<=1099511627774):aB prog 126 [bC x,bC y] (bC (Nat.gcd x.natAbs y.natAbs:Nat)):=by revert h1 h2;refine Eb (C:=λx y v u=>x.natAbs<2^p->y.natAbs<2^q->aB prog 126 [v,u] (bC (Nat.gcd x.natAbs y.natAbs:Nat))) (λn1 n2 m1 m2 v1 v2 h1 h2=>?_) x y;rw[pz]at h1 h2;rw[pz,pz];exact aTL v1 v2 h1 h2 hp hq
theorem aS0{g:Nat}{x:Int}{p:Nat}(h1:g<2^p)(h2:x.natAbs<2^q)(hp:p<=az)(hq:q<=az):aB prog 126 [bC g,bC x] (bC (Nat.gcd g x.natAbs:Nat)):=by have:=aT0 (x:=(g:Int)) (y:=x) (by rw[An];exact h1) h2 hp hq;rw[An]at this;exact this
theorem aTV{x:Int}{n:Nat}(hy:y≠0)(h1:x.natAbs<2^n)(h2:y.natAbs<2^n)(hn:n<=az):aB prog 176 [bC x,bC y] (bC (x.fdiv y)):=
 aV func176 (λ_=>[(aTy hy h1 h2 hn hn).at 11])
theorem aS7{c:Nat->Int}{d:Int}{n:Nat}(hd:d≠0)(h:dE n (nw c d))(hn:n<=az):aB prog 121 [oP c,bC d] (gP (nw c d).low):=by
 obtain⟨h0,h1,h2,h3,h4⟩:=h;have g1:=aT0 h4 h0 hn hn;have s1:=sI h4 h0;have g2:=aS0 s1 h1 hn hn;have s2:=sI s1 h1;have g3:=aS0 s2 h2 hn hn;have s3:=sI s2 h2;have g4:=aS0 s3 h3 hn hn;obtain⟨f,hf⟩:∃ f,f=nw c d:=⟨_,rfl⟩;have uB:f.d≠0:=by rw[hf];exact hd
 have pD:=Ss uB;have SJ:=MU f;have hg:f.g<2^n:=by
  have h5:f.d.natAbs<2^n:=by rw[hf];exact h4
  exact eP (Nat.le_of_dvd o_ (Eg f)) h5
 have bE:f.s.natAbs<2^n:=by rw[SJ];exact hg
 have ov:∀ u:Int,f.g ∣ u.natAbs->u.natAbs<2^n->aB prog 176 [bC u,bC f.s] (bC (u/f.s)):=λu hu wF=>by have:=aTV pD wF bE hn;rw[Int.fdiv_eq_ediv_of_dvd (Ck hu)]at this;exact this
 have o0:=ov f.a (MQ f) (by rw[hf];exact h0);have o1:=ov f.b (MR f) (by rw[hf];exact h1);have o2:=ov f.c (MS f) (by rw[hf];exact h2);have o3:=ov f.e (MT f) (by rw[hf];exact h3);have o4:=ov f.d (Eg f) (by rw[hf];exact h4);have Aq:=aTT (z:=1) d_ d_;have aA:=aTe d;have UZ:Nat.gcd (Nat.gcd (Nat.gcd (Nat.gcd (nw c d).d.natAbs (nw c d).a.natAbs) (nw c d).b.natAbs) (nw c d).c.natAbs) (nw c d).e.natAbs=f.g:=by rw[hf];rfl
 rw[UZ]at g4;have ab:=aMx (f.g:Int);rw[An]at ab;rw[<-hf];have e0:f.a=c 0:=by rw[hf];rfl
 have e1:f.b=c 1:=by rw[hf];rfl
 have e2:f.c=c 2:=by rw[hf];rfl
 have e3:f.e=c 3:=by rw[hf];rfl
 have e4:f.d=d:=by rw[hf];rfl
 have one:(bj 1).Sm:=sH (n:=1) d_ d_;have sm:(bj f.s).Sm:=sH bE hn;by_cases En:d<0
 ·have hs:f.s=-(f.g:Int):=by unfold Fr.s;rw[e4,aq En]
  have aY:bj f.s≠bj 1:=λe=>by have:=wE e;omega
  have ng:=aTu (f.g:Int);rw[<-hs]at ng;rw[e0]at o0;rw[e1]at o1;rw[e2]at o2;rw[e3]at o3;rw[e4]at o4;have di:f.low=⟨c 0/f.s,c 1/f.s,c 2/f.s,c 3/f.s,d/f.s⟩:=by unfold Fr.low;rw[e0,e1,e2,e3,e4]
  rw[di];have Ar:decide (d.sign<0)=true:=aD (by rw[D9 En];decide);generalize f.s=s at *;exact eX mixed func121 200 (λ_=>[g1.at 18,g2.at 18,g3.at 18,g4.at 18,ab.at 20,aA.at 22,.rw 23 (.bool (decide (d.sign<0))) b_ (by rw[Ar]),ng.at 25,Aq.at 30,.step 31 (au f121 31) _ _ _ _ (Ap (neg:=false) k_ (bj s) (bj 1) sm one (b:=true) (by simp;exact aY)),o0.at 41,o1.at 41,o2.at 41,o3.at 41,o4.at 46]) (λ_=>k_) k_ k_
 ·have hs:f.s=(f.g:Int):=by unfold Fr.s;rw[e4,al En]
  have Ar:decide (d.sign<0)=false:=aQ (by rw[yg o_];decide);by_cases sJ:f.g=1
  ·have di:f.low=f:=by unfold Fr.low;rw[hs,sJ];simp
   rw[di,hf];rw[sJ]at g4 ab;exact eX mixed func121 200 (λ_=>[g1.at 18,g2.at 18,g3.at 18,g4.at 18,ab.at 20,aA.at 22,.rw 23 (.bool (decide (d.sign<0))) a_ (by rw[Ar]),Aq.at 30,.step 31 (au f121 31) _ _ _ _ (Ap (neg:=false) k_ (bj 1) (bj 1) one one (b:=false) s_)]) (λ_=>k_) k_ k_
  ·have aY:bj f.s≠bj 1:=λe=>by have:=wE e;omega
   rw[e0]at o0;rw[e1]at o1;rw[e2]at o2;rw[e3]at o3;rw[e4]at o4;have di:f.low=⟨c 0/f.s,c 1/f.s,c 2/f.s,c 3/f.s,d/f.s⟩:=by unfold Fr.low;rw[e0,e1,e2,e3,e4]
   rw[di];rw[<-hs]at g4 ab;generalize f.s=s at *;exact eX mixed func121 200 (λ_=>[g1.at 18,g2.at 18,g3.at 18,g4.at 18,ab.at 20,aA.at 22,.rw 23 (.bool (decide (d.sign<0))) a_ (by rw[Ar]),Aq.at 30,.step 31 (au f121 31) _ _ _ _ (Ap (neg:=false) k_ (bj s) (bj 1) sm one (b:=true) (by simp;exact aY)),o0.at 41,o1.at 41,o2.at 41,o3.at 41,o4.at 46]) (λ_=>k_) k_ k_
theorem aTY(h:z.natAbs<9223372036854775808):aB prog 19 [.int .i64 z] (bZ (kI z)):=by
 rw[Zu];have e:gP ⟨z,0,0,0,1⟩=(RN.mk (bj z) ⟨false,[]⟩ ⟨false,[]⟩ ⟨false,[]⟩ (bj 1)).v:=by unfold gP qp;rw[Cq]
 rw[e];exact aV func19 (λ_=>[(aTT (z:=z) o_ o_).at 4,(aTT (z:=1) d_ d_).at 6])
section
variable{P:j_}{B:ae}{N:Nat}
def U0(o:Oper):Bool:=match o.op with
 |.call c=>match c.callee,c.args.toList with
  |.builtin .max,[_,_]=>true
  |_,_=>false
 |_=>false
theorem aNM(ho:U0 o=true){x:Int}:ct P B o [.int .i64 x,.int .i64 (-x)] [] (vI x.natAbs) []:=by
 unfold U0 at ho;split at ho
 ·rename_i c bM;split at ho
  ·rename_i p q h1 h2;refine(Bl (λu hu=>by simp at hu;rcases hu with rfl|rfl<;>rfl) rfl λρ fA w _=>?_).step;obtain⟨ce,ar,at'⟩:=c;dsimp only at h1 h2;subst h1;have e1:ar=#[p,q]:=by rw[<-yw (xs:=ar),h2]
   subst e1;rw[bM]at fA;simp[Op.operands,Call.operands]at fA;simp[execOp,bM,resolve,invoke,builtin,Builtin.max_,Builtin.max2,fA.1,fA.2,vI];split<;>omega
  ·cases ho
 ·cases ho
def aO.Ks(fn:Func)(key:Nat)(x:Int)(ho:U0 (au fn key)=true):aO P B N:=
 .step key (au fn key) [.int .i64 x,.int .i64 (-x)] [] (vI x.natAbs) [] (aNM ho)
end
theorem aNN(l:List UInt8)(c:UInt8):fB (l++[c])=fB l*256+c.toNat:=by unfold fB;rw[aBf];rfl
def fH(r:RN):Nat->RI
 |0=>r.a
 |1=>r.b
 |2=>r.c
 |3=>r.e
 |_=>r.d
def dH(r:RI):Int:=sg r.neg (fB r.aP)
def w5(W:Nat->Int):ak:=[.int .i64 (W 0),.int .i64 (W 1),.int .i64 (W 2),.int .i64 (W 3),.int .i64 (W 4)]
def wv(r:RN)(i:Nat):Nat->Int:=λj=>match Nat.blt j i with|true=>dH (fH r j)|false=>0
def aNO(W:Nat->Int)(i:Nat)(x:Int):Nat->Int:=λj=>match Nat.beq j i with|true=>x|false=>W j
section
variable{Bs:ae}{W:Nat->Int}{q:RI}
def A7(i k:Nat):aL:=[(5,vI i),(4,ptr 2),(6,ptr (3+i)),(7,vI k)]
def xi(W:Nat->Int)(q:RI)(i k:Nat):aC:=[(2,.aH (w5 (aNO W i (fB (q.aP.take k):Nat))) 132),(3+i,.aH q.cs 37)]
theorem aNP(hi:i<5)(hk:k<q.aP.length)(h3:q.aP.length<=3):
  ag prog Bs 58 (aE (af f122 2)) (A7 i k) (xi W q i k) (4+i) ⟨.normal,A7 i (k+1),xi W q i (k+1),4+i⟩:=by
 obtain⟨c,hc⟩:∃ c,q.aP[k]?=some c:=⟨q.aP[k],bd hk⟩;have hv:fB (q.aP.take (k+1))=fB (q.aP.take k)*256+c.toNat:=by rw[ua,hc];exact aNN _ _
 have hb:(BA q.aP)[k]?=some c:=by rw[IE];exact hc
 have bE:Value.int .i64 ((BA q.aP).size:Int)=vI q.aP.length:=by rw[nT];rfl
 have av:fB (q.aP.take k)<65536:=by have h1:=zT (q.aP.take k);have h2:(256:Nat)^(q.aP.take k).length<=256^2:=cX d_ (by rw[je];omega);exact cy h1 (c9 h2 d_)
 have hc3:=c.toNat_lt;unfold A7 xi;rw[hv];generalize fB (q.aP.take k)=x at *;have w1:IntKind.i64.wrap ((x:Int)*2^8)=((x*256:Nat):Int):=by rw[show((x:Int)*2^8)=((x*256:Nat):Int)by simp,dO];omega
 have w2:IntKind.i64.wrap (c.toNat:Int)=(c.toNat:Int):=by rw[dO];omega
 have w3:IntKind.i64.wrap (((x*256:Nat):Int)+(c.toNat:Int))=((x*256+c.toNat:Nat):Int):=by rw[dO];omega
 generalize x*256+c.toNat=y at *;generalize x*256=z at *;generalize q.aP.length=L at *;rcases i with _|_|_|_|_|i
 all_goals first|omega|exact ay [.rw 33 _ (vI L) bE,.lt 34 k L true (aD hk),.wr 41 .i64 ((x:Int)*2^8) _ w1,.sx f122 45 (BA q.aP) k c hb k_,.wr 46 .i64 (c.toNat:Int) _ w2,.wr 47 .i64 _ _ w3,.sum 36 k 1 (k+1) rfl o_]
theorem aNQ(hi:i<5)(h3:q.aP.length<=3):
  ag prog Bs 58 (.block 2 (af f122 2)) (A7 i 0) (xi W q i 0) (4+i) ⟨.normal,A7 i q.aP.length,xi W q i q.aP.length,4+i⟩:=by
 have bE:Value.int .i64 ((BA q.aP).size:Int)=vI q.aP.length:=by rw[nT];rfl
 refine bO (id:=2) (cg (b:=aE (af f122 2)) (r:=⟨.exit 2,A7 i q.aP.length,xi W q i q.aP.length,4+i⟩) q.aP.length (A7 i) (xi W q i) (λk t _=>jx (l:=xi W q i k) (m:=xi W q i 0) rfl t) (λk hk=>aNP hi hk h3) ?_ n_);unfold A7 xi;generalize fB (q.aP.take q.aP.length)=x at *;generalize q.aP.length=L at *;rcases i with _|_|_|_|_|i
 all_goals first|omega|exact ay [.rw 33 _ (vI L) bE,.lt 34 L L false s_]
def E1(i:Nat):aL:=[(5,vI i),(1,ptr 0),(2,ptr 1),(4,ptr 2)]
def E2(r:RN)(W:Nat->Int):aC:=[(0,.aH r.cs 40),(1,.aH (w5 λ_=>0) 132),(2,.aH (w5 W) 132)]
theorem aNR{r:RN}(hi:i<5)(h3:(fH r i).aP.length<=3)(hv:wz (fH r i).neg (fH r i).aP=true):
  ag prog Bs 58 (.block 1 (af f122 1)) (E1 i) (E2 r (wv r i)) (3+i) ⟨.normal,E1 i,E2 r (wv r (i+1)),4+i⟩:=by
 have lo:=aNQ (Bs:=Bs) (W:=wv r i) (q:=fH r i) hi h3;have mo:=aTC (fH r i).neg (fH r i).aP;rw[hv]at mo;have bE:Value.int .i64 ((BA (fH r i).aP).size:Int)=vI (fH r i).aP.length:=by rw[nT];rfl
 have kL:Value.bool (decide (((fH r i).aP.length:Int)>3))=.bool false:=by rw[aQ o_]
 unfold xi A7 at lo;rw[Ri,nB]at lo;have e0:fB []=0:=rfl;rw[e0]at lo;have av:fB (fH r i).aP<16777216:=by have h1:=zT (fH r i).aP;have h2:(256:Nat)^(fH r i).aP.length<=256^3:=cX d_ h3;exact cy h1 (c9 h2 d_)
 have wn:IntKind.i64.wrap (0-(fB (fH r i).aP:Int))=-(fB (fH r i).aP:Int):=by rw[dO];omega
 rcases r with ⟨⟨an,am⟩,⟨bn,bm⟩,⟨cn,cm⟩,⟨en,em⟩,⟨dn,dm⟩⟩;rcases i with _|_|_|_|_|i
 ·cases an
  ·exact ay [.rw 22 _ (vI am.length) bE,.rw 23 _ a_ kL,mo.at 26,.code 2 _ _ _ _ _ lo]
  ·exact ay [.rw 22 _ (vI am.length) bE,.rw 23 _ a_ kL,mo.at 26,.code 2 _ _ _ _ _ lo,.wr 55 .i64 _ _ wn]
 ·cases bn
  ·exact ay [.rw 22 _ (vI bm.length) bE,.rw 23 _ a_ kL,mo.at 26,.code 2 _ _ _ _ _ lo]
  ·exact ay [.rw 22 _ (vI bm.length) bE,.rw 23 _ a_ kL,mo.at 26,.code 2 _ _ _ _ _ lo,.wr 55 .i64 _ _ wn]
 ·cases cn
  ·exact ay [.rw 22 _ (vI cm.length) bE,.rw 23 _ a_ kL,mo.at 26,.code 2 _ _ _ _ _ lo]
  ·exact ay [.rw 22 _ (vI cm.length) bE,.rw 23 _ a_ kL,mo.at 26,.code 2 _ _ _ _ _ lo,.wr 55 .i64 _ _ wn]
 ·cases en
  ·exact ay [.rw 22 _ (vI em.length) bE,.rw 23 _ a_ kL,mo.at 26,.code 2 _ _ _ _ _ lo]
  ·exact ay [.rw 22 _ (vI em.length) bE,.rw 23 _ a_ kL,mo.at 26,.code 2 _ _ _ _ _ lo,.wr 55 .i64 _ _ wn]
 ·cases dn
  ·exact ay [.rw 22 _ (vI dm.length) bE,.rw 23 _ a_ kL,mo.at 26,.code 2 _ _ _ _ _ lo]
  ·exact ay [.rw 22 _ (vI dm.length) bE,.rw 23 _ a_ kL,mo.at 26,.code 2 _ _ _ _ _ lo,.wr 55 .i64 _ _ wn]
 ·omega
theorem aNS{r:RN}(hi:i<5)(h3:¬(fH r i).aP.length<=3):
  ag prog Bs 58 (.block 1 (af f122 1)) (E1 i) (E2 r (wv r i)) (3+i) ⟨.ret,[(2,ptr 1),(3,.bool false)],[(1,.aH (w5 (wv r i)) 132)],4+i⟩:=by
 have bE:Value.int .i64 ((BA (fH r i).aP).size:Int)=vI (fH r i).aP.length:=by rw[nT];rfl
 have kL:Value.bool (decide (((fH r i).aP.length:Int)>3))=.bool true:=by rw[aD o_]
 rcases r with ⟨⟨an,am⟩,⟨bn,bm⟩,⟨cn,cm⟩,⟨en,em⟩,⟨dn,dm⟩⟩;rcases i with _|_|_|_|_|i
 ·exact ay [.rw 22 _ (vI am.length) bE,.rw 23 _ b_ kL]
 ·exact ay [.rw 22 _ (vI bm.length) bE,.rw 23 _ b_ kL]
 ·exact ay [.rw 22 _ (vI cm.length) bE,.rw 23 _ b_ kL]
 ·exact ay [.rw 22 _ (vI em.length) bE,.rw 23 _ b_ kL]
 ·exact ay [.rw 22 _ (vI dm.length) bE,.rw 23 _ b_ kL]
 ·omega
theorem aNT{r:RN}(hi:i<5)(h3:(fH r i).aP.length<=3)(hv:wz (fH r i).neg (fH r i).aP=false):
  ag prog Bs 58 (.block 1 (af f122 1)) (E1 i) (E2 r (wv r i)) (3+i) ⟨.ret,[(2,ptr 1),(3,.bool false)],[(1,.aH (w5 (wv r i)) 132)],4+i⟩:=by
 have mo:=aTC (fH r i).neg (fH r i).aP;rw[hv]at mo;have bE:Value.int .i64 ((BA (fH r i).aP).size:Int)=vI (fH r i).aP.length:=by rw[nT];rfl
 have kL:Value.bool (decide (((fH r i).aP.length:Int)>3))=.bool false:=by rw[aQ o_]
 rcases r with ⟨⟨an,am⟩,⟨bn,bm⟩,⟨cn,cm⟩,⟨en,em⟩,⟨dn,dm⟩⟩;rcases i with _|_|_|_|_|i
 ·exact ay [.rw 22 _ (vI am.length) bE,.rw 23 _ a_ kL,mo.at 26]
 ·exact ay [.rw 22 _ (vI bm.length) bE,.rw 23 _ a_ kL,mo.at 26]
 ·exact ay [.rw 22 _ (vI cm.length) bE,.rw 23 _ a_ kL,mo.at 26]
 ·exact ay [.rw 22 _ (vI em.length) bE,.rw 23 _ a_ kL,mo.at 26]
 ·exact ay [.rw 22 _ (vI dm.length) bE,.rw 23 _ a_ kL,mo.at 26]
 ·omega
end
def pS(q:RI):Bool:=decide (q.aP.length<=3)&&wz q.neg q.aP
theorem aNU{r:RN}(hi:i<5)(h:pS (fH r i)=false):
  ag prog Bs 58 (.block 1 (af f122 1)) (E1 i) (E2 r (wv r i)) (3+i) ⟨.ret,[(2,ptr 1),(3,.bool false)],[(1,.aH (w5 (wv r i)) 132)],4+i⟩:=by
 unfold pS at h;by_cases h3:(fH r i).aP.length<=3
 ·rw[aD h3,oH]at h;exact aNT hi h3 h
 ·exact aNS hi h3
theorem Hn{r:RN}(hi:i<5)(h:pS (fH r i)=true):
  ag prog Bs 58 (.block 1 (af f122 1)) (E1 i) (E2 r (wv r i)) (3+i) ⟨.normal,E1 i,E2 r (wv r (i+1)),4+i⟩:=by
 unfold pS at h;simp at h;exact aNR hi h.1 h.2
theorem aCv{r:RN}(h:∀ i,i<5->pS (fH r i)=true):aB prog 122 [r.v] (.tuple #[.agg (w5 (wv r 5)).toArray,.bool true]):=
 eX mixed func122 200 (λw=>[.code 1 _ _ _ _ _ (Hn o_ (h 0 o_)),.code 1 _ _ _ _ _ (Hn o_ (h 1 o_)),.code 1 _ _ _ _ _ (Hn o_ (h 2 o_)),.code 1 _ _ _ _ _ (Hn o_ (h 3 o_)),.code 1 _ _ _ _ _ (Hn o_ (h 4 o_))]) (λ_=>k_) k_ k_
theorem aCw{r:RN}(h:¬∀ i,i<5->pS (fH r i)=true):∃ n,aB prog 122 [r.v] (.tuple #[.agg (w5 (wv r n)).toArray,.bool false]):=by
 have hex:∃ n,n<5/\pS (fH r n)=false:=jM λfP=>h λi hi=>by
  cases hb:pS (fH r i)with
  |true=>rfl
  |false=>exact absurd ⟨i,hi,hb⟩ fP
 obtain⟨n0,jV,kk⟩:=hex;obtain⟨n,h1,h2,h3⟩:=xW (λi=>pS (fH r i)=false) n0 kk;have ax:∀ i,i<n->pS (fH r i)=true:=λi hi=>by
  cases hb:pS (fH r i)with
  |true=>rfl
  |false=>exact absurd hb (h3 i hi)
 refine⟨n,?_⟩;have no:=λBs=>aNU (Bs:=Bs) (show n<5 by omega) h2;have yes:=λBs i (hi:i<n)=>Hn (Bs:=Bs) (show i<5 by omega) (ax i hi)
 rcases n with _|_|_|_|_|n
 ·exact eX mixed func122 200 (λw=>[.code 1 _ _ _ _ _ (no _)]) (λ_=>k_) k_ k_
 ·exact eX mixed func122 200 (λw=>[.code 1 _ _ _ _ _ (yes _ 0 o_),.code 1 _ _ _ _ _ (no _)]) (λ_=>k_) k_ k_
 ·exact eX mixed func122 200 (λw=>[.code 1 _ _ _ _ _ (yes _ 0 o_),.code 1 _ _ _ _ _ (yes _ 1 o_),.code 1 _ _ _ _ _ (no _)]) (λ_=>k_) k_ k_
 ·exact eX mixed func122 200 (λw=>[.code 1 _ _ _ _ _ (yes _ 0 o_),.code 1 _ _ _ _ _ (yes _ 1 o_),.code 1 _ _ _ _ _ (yes _ 2 o_),.code 1 _ _ _ _ _ (no _)]) (λ_=>k_) k_ k_
 ·exact eX mixed func122 200 (λw=>[.code 1 _ _ _ _ _ (yes _ 0 o_),.code 1 _ _ _ _ _ (yes _ 1 o_),.code 1 _ _ _ _ _ (yes _ 2 o_),.code 1 _ _ _ _ _ (yes _ 3 o_),.code 1 _ _ _ _ _ (no _)]) (λ_=>k_) k_ k_
 ·omega
def G5(W:Nat->Int):Nat:=Nat.gcd (Nat.gcd (Nat.gcd (Nat.gcd (Nat.gcd 0 (W 0).natAbs) (W 1).natAbs) (W 2).natAbs) (W 3).natAbs) (W 4).natAbs
theorem Ku(x y:Nat):ag prog Bs 28 (.block 2 (af f125 2)) [(5,vI x),(6,vI y)] [] 1 ⟨.normal,[(5,vI (Nat.gcd x y))],[],1⟩:=by
 obtain⟨n,hn,hi⟩:=My x y (λ_ v=>decide (v≠0)) (λu v h=>lC h);have hz:(eu x y n).2=0:=by have:=Cf hn;omega
 have hg:=I1 x y n;rw[hz,R0]at hg;rw[<-hg];refine bO (id:=2) (cg (P:=prog) (B:=Bs) (N:=28) (b:=aE (af f125 2)) (next:=1) (r:=⟨.exit 2,[(5,vI (eu x y n).1)],[],1⟩) n (λi=>[(5,vI (eu x y i).1),(6,vI (eu x y i).2)]) (λ_=>[]) (λ_ _ _=>Iff.rfl) (λi av=>?_) ?_ n_)
 ·have h0:(eu x y i).2≠0:=lC (hi i av);show ag _ _ _ _ [(5,vI (eu x y i).1),(6,vI (eu x y i).2)] [] 1 ⟨.normal,[(5,vI (eu x y i).2),(6,vI ((eu x y i).1%(eu x y i).2))],[],1⟩;generalize (eu x y i).1=u at *;generalize (eu x y i).2=v at *;exact ay [.rw 21 (.bool ((v:Int)!=0)) b_ (by congr 1;rw[qg];omega),.zR f125 25 .i64 (u:Int) v ((u%v:Nat):Int) o_ (by rw[ya o_];rfl) k_]
 ·rw[hz];exact ay [.rw 21 (.bool (((0:Nat):Int)!=0)) a_ rfl]
theorem aCx{W:Nat->Int}(hW:∀ i,(W i).natAbs<4611686018427387904):aB prog 125 [.agg (w5 W).toArray] (vI (G5 W)):=by
 have ng:∀ i,IntKind.i64.wrap (0-W i)=-(W i):=λi=>by have:=hW i;rw[dO];omega
 exact eX mixed func125 200 (λw=>[.wr 18 .i64 _ _ (ng 0),.Ks f125 19 (W 0) k_,.code 2 _ _ _ _ _ (Ku 0 (W 0).natAbs),.wr 18 .i64 _ _ (ng 1),.Ks f125 19 (W 1) k_,.code 2 _ _ _ _ _ (Ku (Nat.gcd 0 (W 0).natAbs) (W 1).natAbs),.wr 18 .i64 _ _ (ng 2),.Ks f125 19 (W 2) k_,.code 2 _ _ _ _ _ (Ku (Nat.gcd (Nat.gcd 0 (W 0).natAbs) (W 1).natAbs) (W 2).natAbs),.wr 18 .i64 _ _ (ng 3),.Ks f125 19 (W 3) k_,.code 2 _ _ _ _ _ (Ku (Nat.gcd (Nat.gcd (Nat.gcd 0 (W 0).natAbs) (W 1).natAbs) (W 2).natAbs) (W 3).natAbs),.wr 18 .i64 _ _ (ng 4),.Ks f125 19 (W 4) k_,.code 2 _ _ _ _ _ (Ku (Nat.gcd (Nat.gcd (Nat.gcd (Nat.gcd 0 (W 0).natAbs) (W 1).natAbs) (W 2).natAbs) (W 3).natAbs) (W 4).natAbs)]) (λ_=>k_) k_ k_
def cw(f:Fr):Nat->Int
 |0=>f.a
 |1=>f.b
 |2=>f.c
 |3=>f.e
 |_=>f.d
theorem U1(f:Fr):G5 (cw f)=f.g:=by show Nat.gcd (Nat.gcd (Nat.gcd (Nat.gcd (Nat.gcd 0 f.a.natAbs) f.b.natAbs) f.c.natAbs) f.e.natAbs) f.d.natAbs=Nat.gcd (Nat.gcd (Nat.gcd (Nat.gcd f.d.natAbs f.a.natAbs) f.b.natAbs) f.c.natAbs) f.e.natAbs;rw[SG];simp only[Gl,Nat.gcd_left_comm]
theorem aCy{f:Fr}(hd:0<f.d)(hW:∀ i,(cw f i).natAbs<4611686018427387904):aB prog 123 [.agg (w5 (cw f)).toArray] (gP f.low):=by
 have hg:=aCx hW;rw[U1]at hg;have hg0:=Sr (x:=f) o_;have hs:f.s=(f.g:Int):=by unfold Fr.s;rw[al o_]
 have di:f.low=⟨f.a/(f.g:Int),f.b/(f.g:Int),f.c/(f.g:Int),f.e/(f.g:Int),f.d/(f.g:Int)⟩:=by unfold Fr.low;rw[hs]
 rw[di];have qu:∀ u:Int,f.g ∣ u.natAbs->u.natAbs<4611686018427387904->IntKind.i64.wrap (u.tdiv (f.g:Int))=u/(f.g:Int)/\(u/(f.g:Int)).natAbs<4611686018427387904:=λu hu hb=>by have hd:=Ck hu;rw[hs]at hd;have h2:=aIt u (f.g:Int);rw[Int.tdiv_eq_ediv_of_dvd hd,dO];omega
 obtain⟨a1,a2⟩:=qu f.a (MQ f) (hW 0);obtain⟨b1,b2⟩:=qu f.b (MR f) (hW 1);obtain⟨c1,c2⟩:=qu f.c (MS f) (hW 2);obtain⟨e1,e2⟩:=qu f.e (MT f) (hW 3);obtain⟨d1,d2⟩:=qu f.d (Eg f) (hW 4);have sJ:(f.g:Int)≠0:=by omega
 have of:=λ(z:Int) (h:z.natAbs<4611686018427387904)=>aTT (z:=z) o_ o_
 exact eX mixed func123 200 (λw=>[hg.at 7,.uK f123 17 .i64 f.a (f.g:Int) (f.a/(f.g:Int)) sJ a1 k_,(of _ a2).at 18,.uK f123 17 .i64 f.b (f.g:Int) (f.b/(f.g:Int)) sJ b1 k_,(of _ b2).at 18,.uK f123 17 .i64 f.c (f.g:Int) (f.c/(f.g:Int)) sJ c1 k_,(of _ c2).at 18,.uK f123 17 .i64 f.e (f.g:Int) (f.e/(f.g:Int)) sJ e1 k_,(of _ e2).at 18,.uK f123 24 .i64 f.d (f.g:Int) (f.d/(f.g:Int)) sJ d1 k_,(of _ d2).at 25]) (λ_=>k_) k_ k_
def eU(q:RI):Bool:=wz q.neg q.aP
theorem vj{q:RI}(h:eU q=true):bj (dH q)=q:=by
 obtain⟨n,l⟩:=q;unfold eU at h;unfold dH bj;rw[pz];cases l with
 |nil=>
  simp[wz]at h;subst h;simp[fB,sg,B4]
 |cons c l=>
  simp[wz]at h;have hv:fB (c::l)≠0:=by have:=Yk (l:=l) h;have:=cE (n:=l.length) (show 0<256 by decide);omega
  have hm:cz (fB (c::l))=c::l:=aG7 (by rintro c' r' e;injection e with e1 e2;rw[<-e1];exact h);show RI.mk (decide (sg n (fB (c::l))<0)) (cz (fB (c::l)))=_;rw[hm,UO (λ_=>hv)]
theorem xj(z:Int):dH (bj z)=z:=by
 show sg (decide (z<0)) (fB (cz z.natAbs))=z;rw[D2];unfold sg;by_cases h:z<0
 ·rw[aD h];simp;omega
 ·rw[aQ h];simp;omega
theorem Kv(z:Int):eU (bj z)=true:=by show wz (decide (z<0)) (cz z.natAbs)=true;exact aBZ _ (λh=>by have:=lC h;omega)
def fh(r:RN):Fr:=⟨dH r.a,dH r.b,dH r.c,dH r.e,dH r.d⟩
def j6(r:RN):Bool:=eU r.a&&(eU r.b&&(eU r.c&&(eU r.e&&(eU r.d&&(decide (0<dH r.d)&&decide ((fh r).g=1))))))
theorem Kw{g:Nat}{q:RI}{n:Nat}(h:eU q=true)(h1:g<2^n)(h2:(dH q).natAbs<2^n)(hn:n<=az):aB prog 126 [bC g,q.v] (bC (Nat.gcd g (dH q).natAbs:Nat)):=by have:=aS0 (g:=g) (x:=dH q) h1 h2 hn hn;rw[Zs (dH q),vj h]at this;exact this
theorem aNV:bC ((0:Nat):Int)=.agg #[.bool false,.string ⟨#[]⟩]:=by show(bj 0).v=_;rw[Cq];rfl
theorem Kx{r:RN}{n:Nat}(bE:dE n (fh r))(hn:n<=az):aB prog 76 [r.v] (.bool (j6 r)):=by
 obtain⟨sa,sb,sc,se,sd⟩:=bE
 replace sa:(dH r.a).natAbs<2^n:=sa
 replace sb:(dH r.b).natAbs<2^n:=sb
 replace sc:(dH r.c).natAbs<2^n:=sc
 replace se:(dH r.e).natAbs<2^n:=se
 replace sd:(dH r.d).natAbs<2^n:=sd
 by_cases hw:∀ i,i<5->pS (fH r i)=true
 ·have wok:=aCv hw;have raw:∀ i,i<5->eU (fH r i)=true:=λi hi=>by have:=hw i hi;unfold pS at this;simp at this;exact this.2
  have hb:∀ i,(wv r 5 i).natAbs<4611686018427387904:=λi=>by
   unfold wv;split
   ·rename_i h;have hi:i<5:=by rw[xP]at h;exact h
    have:=hw i hi;unfold pS at this;simp at this;unfold dH;rw[pz];have h1:=zT (fH r i).aP;have h2:(256:Nat)^(fH r i).aP.length<=256^3:=cX d_ this.1;exact cy h1 (c9 h2 d_)
   ·decide
  have wg:=aCx hb;have e1:G5 (wv r 5)=(fh r).g:=U1 (fh r);rw[e1]at wg;have e2:j6 r=(decide (0<dH r.d)&&decide ((fh r).g=1)):=by unfold j6;rw[show eU r.a=true from raw 0 o_,show eU r.b=true from raw 1 o_,show eU r.c=true from raw 2 o_,show eU r.e=true from raw 3 o_,show eU r.d=true from raw 4 o_];rfl
  rw[e2];by_cases hd:0<dH r.d
  ·rw[aD hd,oH];have U2:Value.bool (decide (dH r.d>0))=.bool true:=by rw[aD hd]
   exact eX mixed func76 200 (λw=>[wok.at 9,.rw 15 _ b_ U2,wg.at 18,.fX 19 (fh r).g 1 _ rfl]) (λ_=>k_) k_ k_
  ·rw[aQ hd,BL];have U2:Value.bool (decide (dH r.d>0))=.bool false:=by rw[aQ hd]
   exact eX mixed func76 200 (λw=>[wok.at 9,.rw 15 _ a_ U2]) (λ_=>k_) k_ k_
 ·obtain⟨m,E3⟩:=aCw hw;have hp:0<2^n:=cE d_;have va:=aTC r.a.neg r.a.aP;have vb:=aTC r.b.neg r.b.aP;have vc:=aTC r.c.neg r.c.aP;have ve:=aTC r.e.neg r.e.aP;have vd:=aTC r.d.neg r.d.aP;unfold j6;change aB _ _ _ (.bool (eU r.a))at va;change aB _ _ _ (.bool (eU r.b))at vb;change aB _ _ _ (.bool (eU r.c))at vc;change aB _ _ _ (.bool (eU r.e))at ve;change aB _ _ _ (.bool (eU r.d))at vd;have go:∀ q b,eU q=b->eU q=b:=λ_ _ h=>h;rcases ha:eU r.a with _|_
  ·rw[ha]at va;exact eX mixed func76 200 (λw=>[E3.at 9,va.at 30]) (λ_=>k_) k_ k_
  rw[ha]at va;have g1:=Kw (g:=0) ha hp sa hn;rw[aNV]at g1;have s1:Nat.gcd 0 (dH r.a).natAbs<2^n:=by rw[SG];exact sa
  rcases hb:eU r.b with _|_
  ·rw[hb]at vb;exact eX mixed func76 200 (λw=>[E3.at 9,va.at 30,g1.at 37,vb.at 30]) (λ_=>k_) k_ k_
  rw[hb]at vb;have g2:=Kw hb s1 sb hn;have s2:=sI s1 sb;rcases hc:eU r.c with _|_
  ·rw[hc]at vc;exact eX mixed func76 200 (λw=>[E3.at 9,va.at 30,g1.at 37,vb.at 30,g2.at 37,vc.at 30]) (λ_=>k_) k_ k_
  rw[hc]at vc;have g3:=Kw hc s2 sc hn;have s3:=sI s2 sc;rcases he:eU r.e with _|_
  ·rw[he]at ve;exact eX mixed func76 200 (λw=>[E3.at 9,va.at 30,g1.at 37,vb.at 30,g2.at 37,vc.at 30,g3.at 37,ve.at 30]) (λ_=>k_) k_ k_
  rw[he]at ve;have g4:=Kw he s3 se hn;have s4:=sI s3 se;rcases hd:eU r.d with _|_
  ·rw[hd]at vd;exact eX mixed func76 200 (λw=>[E3.at 9,va.at 30,g1.at 37,vb.at 30,g2.at 37,vc.at 30,g3.at 37,ve.at 30,g4.at 37,vd.at 40]) (λ_=>k_) k_ k_
  rw[hd]at vd;have g5:=Kw hd s4 sd hn;have s5:=sI s4 sd;have UZ:Nat.gcd (Nat.gcd (Nat.gcd (Nat.gcd (Nat.gcd 0 (dH r.a).natAbs) (dH r.b).natAbs) (dH r.c).natAbs) (dH r.e).natAbs) (dH r.d).natAbs=(fh r).g:=U1 (fh r);rw[UZ]at g5 s5;have aA:=aTe (dH r.d);rw[Zs,vj hd]at aA;have Aq:=aTT (z:=1) d_ d_;have one:(bj 1).Sm:=sH (n:=1) d_ d_;have sm:(bj ((fh r).g:Int)).Sm:=sH (z:=((fh r).g:Int)) (n:=n) (by rw[An];exact s5) hn;by_cases hp:0<dH r.d
  ·rw[aD hp];have U3:Value.bool (decide ((dH r.d).sign>0))=.bool true:=by rw[yg hp];rfl
   have heq:∀ w,ct prog (ae.at w) (au f76 53) [(bj ((fh r).g:Int)).v,(bj 1).v] [] (.bool (decide ((fh r).g=1))) []:=λw=>Ap (neg:=true) k_ (bj ((fh r).g:Int)) (bj 1) sm one (by simp only[pV,tz];exact⟨λh=>by rw[h];rfl,λh=>by have:=wE h;omega⟩)
   exact eX mixed func76 200 (λw=>[E3.at 9,va.at 30,g1.at 37,vb.at 30,g2.at 37,vc.at 30,g3.at 37,ve.at 30,g4.at 37,vd.at 40,aA.at 44,.rw 45 _ b_ U3,g5.at 51,Aq.at 52,.step 53 (au f76 53) _ _ _ _ (heq w)]) (λ_=>k_) k_ k_
  ·rw[aQ hp];have U3:Value.bool (decide ((dH r.d).sign>0))=.bool false:=by
    rw[aQ];have h0:dH r.d<=0:=by omega
    rcases Int.lt_or_eq_of_le h0 with h|h
    ·rw[D9 h];decide
    ·rw[h];decide
   exact eX mixed func76 200 (λw=>[E3.at 9,va.at 30,g1.at 37,vb.at 30,g2.at 37,vc.at 30,g3.at 37,ve.at 30,g4.at 37,vd.at 40,aA.at 44,.rw 45 _ a_ U3]) (λ_=>k_) k_ k_
theorem U4(f:Fr):fh (qp f)=f:=by show Fr.mk (dH (bj f.a)) (dH (bj f.b)) (dH (bj f.c)) (dH (bj f.e)) (dH (bj f.d))=f;rw[xj,xj,xj,xj,xj]
theorem aCz{f:Fr}(h:f.oN):j6 (qp f)=true:=by unfold j6;rw[U4,h.one];show(eU (bj f.a)&&(eU (bj f.b)&&(eU (bj f.c)&&(eU (bj f.e)&&(eU (bj f.d)&&(decide (0<dH (bj f.d))&&decide (1=1)))))))=true;rw[Kv,Kv,Kv,Kv,Kv,xj,aD h.pos];rfl
theorem aTk{f:Fr}{n:Nat}(hf:f.oN)(h:dE n f)(hn:n<=az):aB prog 76 [gP f] b_:=by have:=Kx (r:=qp f) (n:=n) (by rw[U4];exact h) hn;rw[aCz hf]at this;exact this
theorem aTK{x:K}{n:Nat}(h:Sz n x)(hn:n<=az):aB prog 76 [bZ x] b_:=aTk (j0 x) h hn
theorem OL{r:RN}(h:j6 r=true):r=dM (fh r).val:=by unfold j6 at h;simp only[cY,tz]at h;obtain⟨h1,h2,h3,h4,h5,h6,h7⟩:=h;unfold dM;rw[Eh ⟨h6,h7⟩];obtain⟨a,b,c,e,d⟩:=r;show RN.mk a b c e d=RN.mk (bj (dH a)) (bj (dH b)) (bj (dH c)) (bj (dH e)) (bj (dH d));rw[vj h1,vj h2,vj h3,vj h4,vj h5]
theorem aTE{x:K}{n:Nat}(h:Sz n x)(hn:n<=az):aB prog 62 [bZ x] (bZ (-x)):=by
 have hv:=aTK h hn;have e:bZ (-x)=gP (yp (bI x)):=by unfold bZ dM;rw[Sx];rfl
 rw[e];exact aV func62 (λ_=>[hv.at 6,(aTu (bI x).a).at 19,(aTu (bI x).b).at 19,(aTu (bI x).c).at 19,(aTu (bI x).e).at 19])
theorem aNW(f:Fr):w5 (wv (qp f) 5)=w5 (cw f):=by show[Value.int .i64 (dH (bj f.a)),.int .i64 (dH (bj f.b)),.int .i64 (dH (bj f.c)),.int .i64 (dH (bj f.e)),.int .i64 (dH (bj f.d))]=_;rw[xj,xj,xj,xj,xj];rfl
def A8(f:Fr):Prop:=∀ i,i<5->pS (fH (qp f) i)=true
theorem OM{f:Fr}(h:A8 f):∀ i,(cw f i).natAbs<16777216:=by
 have key:∀ z:Int,pS (bj z)=true->z.natAbs<16777216:=λz hz=>by
  unfold pS at hz;simp at hz;have h1:nd 256 z.natAbs<=3:=by have:=hz.1;show _<=3;rw[<-sE];exact this
  have h2:=dL (B:=256) d_ z.natAbs;have h3:(256:Nat)^nd 256 z.natAbs<=256^3:=cX d_ h1;exact cy h2 (c9 h3 d_)
 intro i;rcases i with _|_|_|_|i
 ·exact key _ (h 0 o_)
 ·exact key _ (h 1 o_)
 ·exact key _ (h 2 o_)
 ·exact key _ (h 3 o_)
 ·exact key _ (h 4 o_)
theorem Ho{f:Fr}(h:A8 f):aB prog 122 [gP f] (.tuple #[.agg (w5 (cw f)).toArray,.bool true]):=by have:=aCv h;rw[aNW]at this;exact this
theorem ON{f:Fr}(h:¬A8 f):∃ n,aB prog 122 [gP f] (.tuple #[.agg (w5 (wv (qp f) n)).toArray,.bool false]):=aCw h
theorem U5{x:Int}(hx:x.natAbs<16777216)(hy:y.natAbs<16777216):-281474976710656<=x*y/\x*y<=281474976710656:=by have h:=pg hx hy;rw[<-wC]at h;generalize x*y=p at *;have h2:p.natAbs<281474976710656:=h;omega
abbrev W(x:Int):Int:=IntKind.i64.wrap x
theorem aNX(x k:Int):W (x+18446744073709551616*k)=W x:=by simp only[dO];omega
theorem aNY(x:Int):∃ k,W x=x+18446744073709551616*k:=⟨(W x-x)/18446744073709551616,by simp only[dO];omega⟩
theorem C3(a b:Int):W (W a+b)=W (a+b):=by simp only[dO];omega
theorem C4(a b:Int):W (a+W b)=W (a+b):=by simp only[dO];omega
theorem U6(a b:Int):W (W a*b)=W (a*b):=by obtain⟨k,h⟩:=aNY a;rw[h,Int.add_mul,Kn,aNX]
theorem yV{u:Int}(h:W u=W z)(hz:z.natAbs<4611686018427387904):Value.int .i64 (W u)=.int .i64 z:=by rw[h];congr 1;simp only[dO];omega
theorem aTh{x y:K}{n:Nat}(hx:Sz m x)(hy:Sz n y)(cN:m+n<az):aB prog 75 [bZ x,bZ y] (bZ (x+y)):=by
 have v1:=aTK hx o_;have v2:=aTK hy o_;have qt:az<=1099511627776:=by decide
 have wD:=(j0 x).pos;have uT:=(j0 y).pos;have hl:=aS7 (c:=co (pC (bI x) (bI y))) (d:=(pC (bI x) (bI y)).d) (n:=m+n+1) (Cm o_ o_) (dE.add hx hy) o_;have e:bZ (x+y)=gP (pC (bI x) (bI y)).low:=by unfold bZ dM;rw[Sv];rfl
 rw[e];by_cases hw:A8 (bI x)/\A8 (bI y)
 ·obtain⟨w1,w2⟩:=hw;have q1:=Ho w1;have q2:=Ho w2;have b1:=OM w1;have b2:=OM w2;change aB _ _ [gP (bI x)] _ at v1;change aB _ _ [gP (bI y)] _ at v2;show aB _ _ [gP (bI x),gP (bI y)] _;clear hl hx hy e;generalize bI x=f at *;generalize bI y=g at *;have P:=λi j=>U5 (b1 i) (b2 j);have Q:=λi j=>U5 (b2 i) (b1 j);have hb:∀ i,(cw (pC f g) i).natAbs<4611686018427387904:=by
   intro i;rcases i with _|_|_|_|i
   ·have h1:=P 0 4;have h2:=Q 0 4;show(f.a*g.d+g.a*f.d).natAbs<_;simp only[cw]at h1 h2;omega
   ·have h1:=P 1 4;have h2:=Q 1 4;show(f.b*g.d+g.b*f.d).natAbs<_;simp only[cw]at h1 h2;omega
   ·have h1:=P 2 4;have h2:=Q 2 4;show(f.c*g.d+g.c*f.d).natAbs<_;simp only[cw]at h1 h2;omega
   ·have h1:=P 3 4;have h2:=Q 3 4;show(f.e*g.d+g.e*f.d).natAbs<_;simp only[cw]at h1 h2;omega
   ·have h1:=P 4 4;show(f.d*g.d).natAbs<_;simp only[cw]at h1;omega
  have nm:=aCy (f:=pC f g) (SB wD uT) hb;exact eX mixed func75 200 (λ_=>[v1.at 13,v2.at 17,q1.at 23,q2.at 29,.rw 50 (.int .i64 (W (W (f.a*g.d)+W (g.a*f.d)))) (.int .i64 (pC f g).a) (yV (by rw[C3,C4];rfl) (hb 0)),.rw 50 (.int .i64 (W (W (f.b*g.d)+W (g.b*f.d)))) (.int .i64 (pC f g).b) (yV (by rw[C3,C4];rfl) (hb 1)),.rw 50 (.int .i64 (W (W (f.c*g.d)+W (g.c*f.d)))) (.int .i64 (pC f g).c) (yV (by rw[C3,C4];rfl) (hb 2)),.rw 50 (.int .i64 (W (W (f.e*g.d)+W (g.e*f.d)))) (.int .i64 (pC f g).e) (yV (by rw[C3,C4];rfl) (hb 3)),.rw 56 (.int .i64 (W (f.d*g.d))) (.int .i64 (pC f g).d) (yV rfl (hb 4)),nm.at 59]) (λ_=>k_) k_ k_
 ·obtain⟨x1,x2,x3,x4,x5⟩:=hx;obtain⟨y1,y2,y3,y4,y5⟩:=hy;have mu:∀{u v:Int} {p q:Nat},u.natAbs<2^p->v.natAbs<2^q->p+q<=az->aB prog 109 [bC u,bC v] (bC (u*v)):=λh1 h2 h3=>aTF h1 h2 o_ o_;have ad:∀{u v:Int},u.natAbs<2^m->v.natAbs<2^n->aB prog 124 [bC (u*(bI y).d),bC (v*(bI x).d)] (bC (u*(bI y).d+v*(bI x).d)):=λh1 h2=>
   aTj (dY h1 y5) (dY h2 x5) o_ o_
  by_cases w1:A8 (bI x)
  ·obtain⟨k,q2⟩:=ON (f:=bI y) (λh=>hw ⟨w1,h⟩);have q1:=Ho w1;exact eX mixed func75 200 (λ_=>[v1.at 13,v2.at 17,q1.at 23,q2.at 29,(mu x1 y5 o_).at 71,(mu y1 x5 o_).at 78,(ad x1 y1).at 79,(mu x2 y5 o_).at 71,(mu y2 x5 o_).at 78,(ad x2 y2).at 79,(mu x3 y5 o_).at 71,(mu y3 x5 o_).at 78,(ad x3 y3).at 79,(mu x4 y5 o_).at 71,(mu y4 x5 o_).at 78,(ad x4 y4).at 79,(mu x5 y5 o_).at 86,hl.at 87]) (λ_=>k_) k_ k_
  ·obtain⟨k,q1⟩:=ON (f:=bI x) w1;exact eX mixed func75 200 (λ_=>[v1.at 13,v2.at 17,q1.at 23,(mu x1 y5 o_).at 71,(mu y1 x5 o_).at 78,(ad x1 y1).at 79,(mu x2 y5 o_).at 71,(mu y2 x5 o_).at 78,(ad x2 y2).at 79,(mu x3 y5 o_).at 71,(mu y3 x5 o_).at 78,(ad x3 y3).at 79,(mu x4 y5 o_).at 71,(mu y4 x5 o_).at 78,(ad x4 y4).at 79,(mu x5 y5 o_).at 86,hl.at 87]) (λ_=>k_) k_ k_
theorem aTm{x y:K}{n:Nat}(hx:Sz m x)(hy:Sz n y)(cN:m+n<az):aB prog 127 [bZ x,bZ y] (bZ (x-y)):=by rw[CR.sub_def];exact aV func127 (λ_=>[(aTE hy o_).at 7,(aTh hx hy.neg cN).at 8])
section
variable{Bs:ae}{a b:Nat->Int}
def U7(n:Nat):aL:=[(6,vI (n/4)),(7,vI (n%4)),(2,ptr 0),(3,ptr 1),(5,ptr 3)]
def Hp(a b c:Nat->Int):aC:=[(0,.aH (ic a) 38),(1,.aH (ic b) 38),(3,.aH (ic c) 38)]
theorem aNZ(n:Nat)(hn:n<16){c:Nat->Int}{p:Nat}(ha:∀ i,(a i).natAbs<2^p)(hb:∀ i,(b i).natAbs<2^q)(hc:∀ i,(c i).natAbs<2^r)(Na:p+q+3<=az)(hr:r<=az):
  ag prog Bs 66 (.block 3 (af f107 3)) (U7 n) (Hp a b c) (4+n) ⟨.normal,[],Hp a b (wI n a b c),5+n⟩:=by
 have qt:az<=1099511627776:=by decide
 have qx:∀ m,(sq m).natAbs<2^3:=λm=>by unfold sq;split<;>decide
 have m1:=aTF (ha (n/4)) (hb (n%4)) o_ o_;have m2:=aTF (qx ((n/4)&&& (n%4))) (dY (ha (n/4)) (hb (n%4))) o_ o_;have ad:=aTj (hc ((n/4) ^^^ (n%4))) (dY (qx ((n/4)&&& (n%4))) (dY (ha (n/4)) (hb (n%4)))) o_ o_;have so:=aTT (z:=sq ((n/4)&&& (n%4))) (by have:=qx ((n/4)&&& (n%4));omega) (by have:=qx ((n/4)&&& (n%4));omega);have sa:=aTe (a (n/4));have sb:=aTe (b (n%4));have z1:∀ z:Int,z=0->Value.bool (z.sign==0)=.bool true:=λz h=>by rw[h];rfl
 have z2:∀ z:Int,z≠0->Value.bool (z.sign==0)=.bool false:=λz h=>by congr 1;simp;exact h
 by_cases h1:a (n/4)=0
 ·rw[M9 (.inl h1)];have e:=z1 _ h1;rcases n with _|_|_|_|_|_|_|_|_|_|_|_|_|_|_|_|n
  all_goals first|omega|exact ay [sa.at 21,.rw 22 _ b_ e]
 ·have e:=z2 _ h1;by_cases h2:b (n%4)=0
  ·rw[M9 (.inr h2)];have e':=z1 _ h2;rcases n with _|_|_|_|_|_|_|_|_|_|_|_|_|_|_|_|n
   all_goals first|omega|exact ay [sa.at 21,.rw 22 _ a_ e,sb.at 27,.rw 28 _ b_ e']
  ·have e':=z2 _ h2;rcases n with _|_|_|_|_|_|_|_|_|_|_|_|_|_|_|_|n
   all_goals first|omega|exact ay [sa.at 21,.rw 22 _ a_ e,sb.at 27,.rw 28 _ a_ e',so.at 45,m1.at 52,m2.at 53,ad.at 63]
end
theorem aCA{a b:Nat->Int}{n:Nat}(ca:∀ i,(a i).natAbs<2^m)(cb:∀ i,(b i).natAbs<2^n)(cN:m+n+8<=az):aB prog 107 [oP a,oP b] (oP (jo a b 16)):=by
 have qt:az<=1099511627776:=by decide
 have hs:∀ i,i<=16->∀ k,(jo a b i k).natAbs<2^(m+n+8):=λi hi k=>by
  have h1:=SP ca cb i hi k;have h2:i*2^(m+n+3)<=16*2^(m+n+3):=eR _ hi;have h3:2^(m+n+8)=32*2^(m+n+3):=by rw[show m+n+8=5+(m+n+3)by omega,dX]
  have h4:0<2^(m+n+3):=cE d_;omega
 have go:∀(w:h_) (i:Nat),i<16->ag prog (ae.at w) 66 (.block 3 (af f107 3)) (U7 i) (Hp a b (jo a b i)) (4+i) ⟨.normal,[],Hp a b (jo a b (i+1)),5+i⟩:=λw i hi=>
  aNZ i hi ca cb (hs i o_) o_ o_
 have SQ:∀(w:h_),ag prog (ae.at w) 66 (.block 3 (af f107 3)) (U7 0) [(0,.aH (ic a) 38),(1,.aH (ic b) 38),(3,.aH [.bool false,.string ⟨#[]⟩,.bool false,.string ⟨#[]⟩,.bool false,.string ⟨#[]⟩,.bool false,.string ⟨#[]⟩] 38)] 4
   ⟨.normal,[],Hp a b (jo a b 1),5⟩:=λw=>by
  have h:=go w 0 o_;have e:Hp a b (jo a b 0)=[(0,.aH (ic a) 38),(1,.aH (ic b) 38),(3,.aH [.bool false,.string ⟨#[]⟩,.bool false,.string ⟨#[]⟩,.bool false,.string ⟨#[]⟩,.bool false,.string ⟨#[]⟩] 38)]:=by show[(0,Obj.aH (ic a) 38),(1,.aH (ic b) 38),(3,.aH (ic (λ_=>0)) 38)]=_;rw[ZA]
  rw[e]at h;exact h
 generalize jo a b=c at *;exact eX mixed func107 300 (λw=>[.code 3 _ _ _ _ _ (SQ w),.code 3 _ _ _ _ _ (go w 1 o_),.code 3 _ _ _ _ _ (go w 2 o_),.code 3 _ _ _ _ _ (go w 3 o_),.code 3 _ _ _ _ _ (go w 4 o_),.code 3 _ _ _ _ _ (go w 5 o_),.code 3 _ _ _ _ _ (go w 6 o_),.code 3 _ _ _ _ _ (go w 7 o_),.code 3 _ _ _ _ _ (go w 8 o_),.code 3 _ _ _ _ _ (go w 9 o_),.code 3 _ _ _ _ _ (go w 10 o_),.code 3 _ _ _ _ _ (go w 11 o_),.code 3 _ _ _ _ _ (go w 12 o_),.code 3 _ _ _ _ _ (go w 13 o_),.code 3 _ _ _ _ _ (go w 14 o_),.code 3 _ _ _ _ _ (go w 15 o_)]) (λ_=>k_) k_ k_
theorem aTS{x y:K}{n:Nat}(hx:Sz m x)(hy:Sz n y)(cN:m+n+8<=az):aB prog 77 [bZ x,bZ y] (bZ (x*y)):=by
 have v1:=aTK hx o_;have v2:=aTK hy o_;have qt:az<=1099511627776:=by decide
 have wD:=(j0 x).pos;have uT:=(j0 y).pos;have e:bZ (x*y)=gP (dI (bI x) (bI y)).low:=by unfold bZ dM;rw[Sw];rfl
 rw[e];by_cases hw:A8 (bI x)/\A8 (bI y)
 ·obtain⟨w1,w2⟩:=hw;have q1:=Ho w1;have q2:=Ho w2;have b1:=OM w1;have b2:=OM w2;change aB _ _ [gP (bI x)] _ at v1;change aB _ _ [gP (bI y)] _ at v2;show aB _ _ [gP (bI x),gP (bI y)] _;clear hx hy e;generalize bI x=f at *;generalize bI y=g at *;have P:=λi j=>U5 (b1 i) (b2 j);have hb:∀ i,(cw (dI f g) i).natAbs<4611686018427387904:=by have h00:=P 0 0;have tD:=P 0 1;have B0:=P 0 2;have h03:=P 0 3;have h10:=P 1 0;have h11:=P 1 1;have NM:=P 1 2;have Q6:=P 1 3;have h20:=P 2 0;have h21:=P 2 1;have X4:=P 2 2;have h23:=P 2 3;have h30:=P 3 0;have h31:=P 3 1;have h32:=P 3 2;have h33:=P 3 3;have h44:=P 4 4;simp only[cw]at *;intro i;rcases i with _|_|_|_|i<;>(simp only[cw,dI];omega)
  have nm:=aCy (f:=dI f g) (SB wD uT) hb;exact eX mixed func77 300 (λ_=>[v1.at 10,v2.at 14,q1.at 20,q2.at 26,.rw 55 (.int .i64 (W (W (W (W (f.a*g.a)+W (W (2*f.b)*g.b))+W (W (3*f.c)*g.c))+W (W (6*f.e)*g.e)))) (.int .i64 (dI f g).a) (yV (by simp only[C3,C4,U6];congr 1;unfold dI;simp only[Kn]) (hb 0)),.rw 80 (.int .i64 (W (W (W (W (f.a*g.b)+W (f.b*g.a))+W (W (3*f.c)*g.e))+W (W (3*f.e)*g.c)))) (.int .i64 (dI f g).b) (yV (by simp only[C3,C4,U6];congr 1;unfold dI;simp only[Kn]) (hb 1)),.rw 105 (.int .i64 (W (W (W (W (f.a*g.c)+W (f.c*g.a))+W (W (2*f.b)*g.e))+W (W (2*f.e)*g.b)))) (.int .i64 (dI f g).c) (yV (by simp only[C3,C4,U6];congr 1;unfold dI;simp only[Kn];omega) (hb 2)),.rw 128 (.int .i64 (W (W (W (W (f.a*g.e)+W (f.e*g.a))+W (f.b*g.c))+W (f.c*g.b)))) (.int .i64 (dI f g).e) (yV (by simp only[C3,C4];congr 1;unfold dI;simp only[];omega) (hb 3)),.rw 133 (.int .i64 (W (f.d*g.d))) (.int .i64 (dI f g).d) (yV rfl (hb 4)),nm.at 135]) (λ_=>k_) k_ k_
 ·have ca:=GI hx;have cb:=GI hy;have tm:=aCA ca cb cN;have hl:=aS7 (c:=jo (co (bI x)) (co (bI y)) 16) (d:=(bI x).d*(bI y).d) (n:=m+n+4) (Cm o_ o_) (by rw[Jn];exact dE.mul hx hy) o_;rw[Jn]at hl;have md:=aTF hx.2.2.2.2 hy.2.2.2.2 o_ o_;generalize jo (co (bI x)) (co (bI y)) 16=c at *;by_cases w1:A8 (bI x)
  ·obtain⟨k,q2⟩:=ON (f:=bI y) (λh=>hw ⟨w1,h⟩);have q1:=Ho w1;exact eX mixed func77 200 (λ_=>[v1.at 10,v2.at 14,q1.at 20,q2.at 26,tm.at 140,md.at 145,hl.at 146]) (λ_=>k_) k_ k_
  ·obtain⟨k,q1⟩:=ON (f:=bI x) w1;exact eX mixed func77 200 (λ_=>[v1.at 10,v2.at 14,q1.at 20,tm.at 140,md.at 145,hl.at 146]) (λ_=>k_) k_ k_
theorem aCB{a s:Int}(ha:a.natAbs<=1)(hs:s.natAbs<=1):IntKind.i64.wrap (a*s)=a*s:=by
 have h1:a=-1\/a=0\/a=1:=by omega
 rcases h1 with h1|h1|h1<;>rw[h1,dO]<;>omega
theorem xk{a b:Int}(h:a=b):Value.bool (a==b)=.bool true:=by rw[h];simp
theorem oV{a b:Int}(h:a≠b):Value.bool (a==b)=.bool false:=by congr 1;simpa using h
theorem U8{x:Int}{p:Nat}(h1:x.natAbs<2^p)(h2:y.natAbs<2^q)(hp:p+p+3<=az)(hq:q+q+3<=az):aB prog 106 [bC x,bC y] (.int .i64 (oO x y)):=by
 have qt:az<=1099511627776:=by decide
 have s1:=aTe x;have s2:=aTe y;have l1:=Cr x;have l3:=Cr (x*x-2*(y*y));have m1:=aTF h1 h1 o_ o_;have o2:=aTT (z:=2) d_ d_;have m2:=aTF h2 h2 o_ o_;have m3:=aTF (x:=2) (y:=y*y) (p:=2) d_ (dY h2 h2) d_ o_;have cm:=aS5 (x:=x*x) (y:=2*(y*y)) (dY h1 h1) (dY (m:=2) (u:=2) d_ (dY h2 h2)) o_ o_;have hw:=aCB l1 l3;unfold oO sG;generalize (x*x-2*(y*y)).sign=t at *;generalize x.sign=a at *;generalize y.sign=b at *;by_cases h1:a=b
 ·rw[aq (.inl h1)];exact aV func106 (λ_=>[s1.at 8,s2.at 10,.rw 13 _ b_ (xk h1)])
 ·by_cases h2:b=0
  ·rw[aq (.inr h2)];exact aV func106 (λ_=>[s1.at 8,s2.at 10,.rw 13 _ a_ (oV h1),.rw 16 _ b_ (xk h2)])
  ·rw[al (λh=>h.elim h1 h2)];by_cases h3:a=0
   ·rw[aq h3];exact aV func106 (λ_=>[s1.at 8,s2.at 10,.rw 13 _ a_ (oV h1),.rw 16 _ a_ (oV h2),.rw 20 _ b_ (xk h3)])
   ·rw[al h3];exact aV func106 (λ_=>[s1.at 8,s2.at 10,.rw 13 _ a_ (oV h1),.rw 16 _ a_ (oV h2),.rw 20 _ a_ (oV h3),m1.at 25,o2.at 26,m2.at 29,m3.at 30,cm.at 31,.wr 32 .i64 (a*t) (a*t) hw])
theorem Hq{f g:Fr}{n:Nat}(hf:dE m f)(hg:dE n g)(cN:m+n+8<=az):aB prog 107 [oP (co f),oP (co g)] (oP (co (dI f g))):=by
 have h:=aCA (GI hf) (GI hg) cN;have e:oP (jo (co f) (co g) 16)=oP (co (dI f g)):=by rw[<-Jn f g];rfl
 rw[e]at h;exact h
def f2(a b:Int):Fr:=⟨a,b,0,0,1⟩
theorem aN0(a b:Int):dI (f2 a b) (f2 a b)=⟨a*a+2*(b*b),2*(a*b),0,0,1⟩:=by
 unfold dI f2;simp only[Fr.mk.injEq];refine⟨?_,?_,?_,?_,?_⟩
 ·simp
 ·rw[R2 b a];simp;omega
 ·simp
 ·simp
 ·rfl
theorem aN1(a b:Int):oP (co (f2 a b))=.agg #[.bool (bj a).neg,.string (BA (bj a).aP),.bool (bj b).neg,.string (BA (bj b).aP),.bool false,.string ⟨#[]⟩,.bool false,.string ⟨#[]⟩]:=by show Value.agg #[.bool (bj a).neg,.string (BA (bj a).aP),.bool (bj b).neg,.string (BA (bj b).aP),.bool (bj 0).neg,.string (BA (bj 0).aP),.bool (bj 0).neg,.string (BA (bj 0).aP)]=_;rw[Cq];rfl
theorem aCC{a b:Int}{n:Nat}(ha:a.natAbs<2^n)(hb:b.natAbs<2^n)(hn:2*n+10<=az):
  aB prog 107 [.agg #[.bool (bj a).neg,.string (BA (bj a).aP),.bool (bj b).neg,.string (BA (bj b).aP),.bool false,.string ⟨#[]⟩,.bool false,.string ⟨#[]⟩],.agg #[.bool (bj a).neg,.string (BA (bj a).aP),.bool (bj b).neg,.string (BA (bj b).aP),.bool false,.string ⟨#[]⟩,.bool false,.string ⟨#[]⟩]]
   (oP (co ⟨a*a+2*(b*b),2*(a*b),0,0,1⟩)):=by
 have hp:0<2^n:=cE d_;have h:dE (n+1) (f2 a b):=by have h2:2^n*2=2^(n+1):=(dh ..).symm;refine⟨?_,?_,?_,?_,?_⟩<;>unfold f2<;>dsimp only<;>omega
 have:=Hq h h o_;rw[aN0,aN1]at this;exact this
theorem aTd{x:K}{n:Nat}(hx:Sz n x)(hn:4*n+30<=az):aB prog 61 [bZ x] (.int .i64 (OF.aA x)):=by
 have qt:az<=1099511627776:=by decide
 have hv:=aTK hx o_;rw[Zp];obtain⟨x1,x2,x3,x4,x5⟩:=hx;unfold bZ dM at *;generalize bI x=f at *;have s1:=U8 x1 x2 o_ o_;have s2:=U8 x3 x4 o_ o_;have t1:=aCC x1 x2 o_;have t2:=aCC x3 x4 o_;have o3:=aTT (z:=3) d_ d_;have z1:(f.a*f.a).natAbs<2^(n+n+2):=cy (dY x1 x1) (cX d_ o_);have z2:(2*(f.b*f.b)).natAbs<2^(n+n+2):=by have:=dY (m:=2) (u:=2) d_ (dY x2 x2);rwa[show 2+(n+n)=n+n+2 by omega]at this
 have z3:(f.c*f.c).natAbs<2^(n+n+2):=cy (dY x3 x3) (cX d_ o_);have z4:(2*(f.e*f.e)).natAbs<2^(n+n+2):=by have:=dY (m:=2) (u:=2) d_ (dY x4 x4);rwa[show 2+(n+n)=n+n+2 by omega]at this
 have z12:=GM z1 z2;have z34:=GM z3 z4;have y1:(2*(f.a*f.b)).natAbs<2^(n+n+2):=by have:=dY (m:=2) (u:=2) d_ (dY x1 x2);rwa[show 2+(n+n)=n+n+2 by omega]at this
 have y2:(2*(f.c*f.e)).natAbs<2^(n+n+2):=by have:=dY (m:=2) (u:=2) d_ (dY x3 x4);rwa[show 2+(n+n)=n+n+2 by omega]at this
 have m34:=aTF (x:=3) (p:=2) d_ z34 d_ o_;have zm:(3*(f.c*f.c+2*(f.e*f.e))).natAbs<2^(n+n+5):=by have:=dY (m:=2) (u:=3) d_ z34;rwa[show 2+(n+n+2+1)=n+n+5 by omega]at this
 have aCD:(f.a*f.a+2*(f.b*f.b)).natAbs<2^(n+n+5):=cy z12 (cX d_ o_);have d1:=aTM aCD zm o_ o_;have my:=aTF (x:=3) (p:=2) d_ y2 d_ o_;have ym:(3*(2*(f.c*f.e))).natAbs<2^(n+n+4):=by have:=dY (m:=2) (u:=3) d_ y2;rwa[show 2+(n+n+2)=n+n+4 by omega]at this
 have y1':(2*(f.a*f.b)).natAbs<2^(n+n+4):=cy y1 (cX d_ o_);have d2:=aTM y1' ym o_ o_;have s3:=U8 (Nb aCD zm) (Nb y1' ym) o_ o_;have e1:(f.a*f.a+2*(f.b*f.b))-3*(f.c*f.c+2*(f.e*f.e))=(f.a*f.a+2*(f.b*f.b))-(3*(f.c*f.c)+6*(f.e*f.e)):=by omega
 have e2:2*(f.a*f.b)-3*(2*(f.c*f.e))=2*(f.a*f.b)-6*(f.c*f.e):=by omega
 have wJ:=Nd f.a f.b;have SV:=Nd ((f.a*f.a+2*(f.b*f.b))-(3*(f.c*f.c)+6*(f.e*f.e))) (2*(f.a*f.b)-6*(f.c*f.e));have hw:=aCB wJ SV;rw[<-e1,<-e2]at hw;unfold M3 sG;rw[<-e1,<-e2];generalize oO ((f.a*f.a+2*(f.b*f.b))-3*(f.c*f.c+2*(f.e*f.e))) (2*(f.a*f.b)-3*(2*(f.c*f.e)))=t at *;generalize oO f.a f.b=p at *;generalize oO f.c f.e=q at *;by_cases h1:p=q
 ·rw[aq (.inl h1)];exact aV func61 (λ_=>[hv.at 9,s1.at 17,s2.at 24,.rw 27 _ b_ (xk h1)])
 ·by_cases h2:q=0
  ·rw[aq (.inr h2)];exact aV func61 (λ_=>[hv.at 9,s1.at 17,s2.at 24,.rw 27 _ a_ (oV h1),.rw 30 _ b_ (xk h2)])
  ·rw[al (λh=>h.elim h1 h2)];by_cases h3:p=0
   ·rw[aq h3];exact aV func61 (λ_=>[hv.at 9,s1.at 17,s2.at 24,.rw 27 _ a_ (oV h1),.rw 30 _ a_ (oV h2),.rw 34 _ b_ (xk h3)])
   ·rw[al h3];exact eX mixed func61 200 (λ_=>[hv.at 9,s1.at 17,s2.at 24,.rw 27 _ a_ (oV h1),.rw 30 _ a_ (oV h2),.rw 34 _ a_ (oV h3),t1.at 50,t2.at 65,o3.at 66,m34.at 73,d1.at 74,my.at 80,d2.at 81,s3.at 82,.wr 83 .i64 (p*t) (p*t) hw]) (λ_=>k_) k_ k_
theorem aS3{x y:K}{n:Nat}(hx:Sz m x)(hy:Sz n y)(cN:4*(m+n)+40<=az):aB prog 80 [bZ x,bZ y] (.int .i64 (OF.aA (x-y))):=
 aV func80 (λ_=>[(aTK hx o_).at 6,(aTK hy o_).at 10,(aTm hx hy o_).at 15,(aTd (hx.sub hy) o_).at 16])
theorem aTo{x:K}{n:Nat}(hx:Sz n x)(hn:4*n+30<=az):aB prog 18 [bZ x] (bZ (rF x)):=by
 unfold rF;have n1:=aTE hx o_;have n2:=aTE hx.neg o_;rw[CR.neg_neg]at n2;by_cases h:OF.aA x<0
 ·rw[aq h];exact aV func18 (λ_=>[(aTd hx hn).at 4,.rw 5 (.bool (decide (OF.aA x<0))) b_ (by rw[aD h]),n1.at 7])
 ·rw[al h];exact aV func18 (λ_=>[(aTd hx hn).at 4,.rw 5 (.bool (decide (OF.aA x<0))) a_ (by rw[aQ h]),n1.at 9,n2.at 10])
def uf(q:RI):Nat:=q.aP.length
def ug(r:RN)(k:Nat):Bool:=decide (uf r.a<=k)&&(decide (uf r.b<=k)&&(decide (uf r.c<=k)&&(decide (uf r.e<=k)&&decide (uf r.d<=k))))
theorem yW(l:List UInt8):Value.int .i64 ((BA l).size:Int)=vI l.length:=by rw[nT];rfl
theorem sV(h:decide (a<=b)=!t):Value.bool (decide ((a:Int)>(b:Int)))=.bool t:=by
 congr 1
 cases t
 ·have:=lC h;exact aQ o_
 ·have:=Cf h;exact aD o_
theorem OO(r:RN)(k:Nat):aB prog 69 [r.v,vI k] (.bool (ug r k)):=by
 unfold ug uf;have la:=yW r.a.aP;have lb:=yW r.b.aP;have lc:=yW r.c.aP;have le:=yW r.e.aP;have ld:=yW r.d.aP;rcases ha:decide (r.a.aP.length<=k)with _|_
 ·exact aV func69 (λ_=>[.rw 15 _ (vI r.a.aP.length) la,.rw 17 _ b_ (sV (t:=true) ha)])
 rcases hb:decide (r.b.aP.length<=k)with _|_
 ·exact aV func69 (λ_=>[.rw 15 _ (vI r.a.aP.length) la,.rw 17 _ a_ (sV (t:=false) ha),.rw 15 _ (vI r.b.aP.length) lb,.rw 17 _ b_ (sV (t:=true) hb)])
 rcases hc:decide (r.c.aP.length<=k)with _|_
 ·exact aV func69 (λ_=>[.rw 15 _ (vI r.a.aP.length) la,.rw 17 _ a_ (sV (t:=false) ha),.rw 15 _ (vI r.b.aP.length) lb,.rw 17 _ a_ (sV (t:=false) hb),.rw 15 _ (vI r.c.aP.length) lc,.rw 17 _ b_ (sV (t:=true) hc)])
 rcases he:decide (r.e.aP.length<=k)with _|_
 ·exact aV func69 (λ_=>[.rw 15 _ (vI r.a.aP.length) la,.rw 17 _ a_ (sV (t:=false) ha),.rw 15 _ (vI r.b.aP.length) lb,.rw 17 _ a_ (sV (t:=false) hb),.rw 15 _ (vI r.c.aP.length) lc,.rw 17 _ a_ (sV (t:=false) hc),.rw 15 _ (vI r.e.aP.length) le,.rw 17 _ b_ (sV (t:=true) he)])
 have hd:Value.bool (decide ((r.d.aP.length:Int)<=(k:Int)))=.bool (decide (r.d.aP.length<=k)):=by congr 1;rw[pe];omega
 exact aV func69 (λ_=>[.rw 15 _ (vI r.a.aP.length) la,.rw 17 _ a_ (sV (t:=false) ha),.rw 15 _ (vI r.b.aP.length) lb,.rw 17 _ a_ (sV (t:=false) hb),.rw 15 _ (vI r.c.aP.length) lc,.rw 17 _ a_ (sV (t:=false) hc),.rw 15 _ (vI r.e.aP.length) le,.rw 17 _ a_ (sV (t:=false) he),.rw 21 _ (vI r.d.aP.length) ld,.rw 23 _ (.bool (decide (r.d.aP.length<=k))) hd])
def wN(r:RN):Nat:=uf r.d+uf r.a+uf r.b+uf r.c+uf r.e
theorem OP{r:RN}(h:wN r<9223372036854775808):aB prog 41 [r.v] (vI (wN r)):=by unfold wN uf at *;have la:=yW r.a.aP;have lb:=yW r.b.aP;have lc:=yW r.c.aP;have le:=yW r.e.aP;have ld:=yW r.d.aP;exact aV func41 (λ_=>[.rw 8 _ (vI r.d.aP.length) ld,.rw 19 _ (vI r.a.aP.length) la,.sum 20 r.d.aP.length r.a.aP.length (r.d.aP.length+r.a.aP.length) rfl o_,.rw 19 _ (vI r.b.aP.length) lb,.sum 20 (r.d.aP.length+r.a.aP.length) r.b.aP.length (r.d.aP.length+r.a.aP.length+r.b.aP.length) rfl o_,.rw 19 _ (vI r.c.aP.length) lc,.sum 20 (r.d.aP.length+r.a.aP.length+r.b.aP.length) r.c.aP.length (r.d.aP.length+r.a.aP.length+r.b.aP.length+r.c.aP.length) rfl o_,.rw 19 _ (vI r.e.aP.length) le,.sum 20 (r.d.aP.length+r.a.aP.length+r.b.aP.length+r.c.aP.length) r.e.aP.length (r.d.aP.length+r.a.aP.length+r.b.aP.length+r.c.aP.length+r.e.aP.length) rfl o_])
theorem U9(p q r t:Rat)(k:Rat):(⟨⟨p,q⟩,⟨r,t⟩⟩:K)*⟨⟨k,0⟩,⟨0,0⟩⟩=⟨⟨p*k,q*k⟩,⟨r*k,t*k⟩⟩:=by
 apply bo.ext
 ·apply bo.ext
  ·show(p*k+2*(q*0))+(3*(r*0+2*(t*0))+2*(0*(r*0+t*0)))=p*k
   grind
  ·show(p*0+q*k)+(3*(r*0+t*0)+0*(r*0+2*(t*0)))=q*k
   grind
 ·apply bo.ext
  ·show(p*0+2*(q*0))+(r*k+2*(t*0))=r*k
   grind
  ·show(p*0+q*0)+(r*0+t*k)=t*k
   grind
theorem OQ(u d k:Int):Rat.divInt (u*k) d=Rat.divInt u d*(k:Rat):=by
 rw[Ao,Ao,Ek,Ek];have:((u*k:Int):Rat)=(u:Rat)*(k:Rat):=by simp
 rw[this]
 grind
theorem aN2(a b c e d k:Int):Fr.val ⟨a*k,b*k,c*k,e*k,d⟩=Fr.val ⟨a,b,c,e,d⟩*kI k:=by unfold Fr.val kI;dsimp only;rw[U9,OQ,OQ,OQ,OQ]
theorem OR{a b c e d:Int}(hd:d≠0):Fr.val ⟨a,b,c,e,d⟩*kI d=Fr.val ⟨a,b,c,e,1⟩:=by
 unfold Fr.val kI;dsimp only;have h1:∀ u:Int,Rat.divInt u 1=(u:Rat):=λu=>by rw[Ao,Ek];grind
 rw[U9,nY hd,nY hd,nY hd,nY hd,h1,h1,h1,h1]
theorem aN3(a b:Int):kI (a*b)=kI a*kI b:=by
 unfold kI;rw[U9];have:((a*b:Int):Rat)=(a:Rat)*(b:Rat):=by simp
 rw[this];apply bo.ext<;>apply bo.ext<;>simp
theorem aN4:kI 1=1:=rfl
theorem OS{a:Int}(h:a≠0):kI a≠0:=λe=>by have h1:=b9 (λx:K=>x.re.re) e;have h2:((a:Int):Rat)=0:=h1;exact h (by simpa using h2)
theorem Va(f:Fr)(h:f.d=1):f.val=⟨⟨f.a,f.b⟩,⟨f.c,f.e⟩⟩:=by
 have h1:∀ u:Int,Rat.divInt u 1=(u:Rat):=λu=>by rw[Ao,Ek];grind
 unfold Fr.val;rw[h,h1,h1,h1,h1]
theorem aN5(u v:K):k6 (u*v)=k6 u*k6 v:=by
 obtain⟨⟨a,b⟩,⟨c,d⟩⟩:=u;obtain⟨⟨p,q⟩,⟨r,s⟩⟩:=v;apply bo.ext
 ·apply bo.ext
  ·show(a*p+2*(b*q))+(3*(c*r+2*(d*s))+2*(0*(c*s+d*r)))=(a*p+2*(-b*-q))+(3*(c*r+2*(-d*-s))+2*(0*(c*-s+-d*r)))
   grind
  ·show -((a*q+b*p)+(3*(c*s+d*r)+0*(c*r+2*(d*s))))=(a*-q+-b*p)+(3*(c*-s+-d*r)+0*(c*r+2*(-d*-s)))
   grind
 ·apply bo.ext
  ·show(a*r+2*(b*s))+(c*p+2*(d*q))=(a*r+2*(-b*-s))+(c*p+2*(-d*-q))
   grind
  ·show -((a*s+b*r)+(c*q+d*p))=(a*-s+-b*r)+(c*-q+-d*p)
   grind
def nf(f:Fr):Fr:=⟨f.a,f.b,f.c,f.e,1⟩
def OT(f:Fr):Fr:=⟨f.a,-f.b,-f.c,f.e,1⟩
def OU:Fr:=⟨1,0,0,0,1⟩
def gR(f:Fr):Fr:=dI (dI (dI OU (wH (nf f))) (wG (nf f))) (OT f)
theorem aCE(f:Fr):(gR f).d=1:=rfl
theorem aN6(f:Fr):(nf f).val*(gR f).val=qw (nf f).val:=by
 have h1:∀ g h:Fr,g.d=1->h.d=1->(dI g h).val=g.val*h.val:=λg h e1 e2=>Ji (by rw[e1];decide) (by rw[e2];decide);have e3:OT f=wH (wG (nf f)):=by unfold OT wH wG nf;simp
 unfold gR;rw[h1 _ _ rfl rfl,h1 _ _ rfl rfl,h1 _ _ rfl rfl,e3,SM,SM,Zv];have eo:OU.val=1:=by rw[Va _ rfl];rfl
 rw[eo];unfold qw two;rw[aN5];generalize (nf f).val=y;rw[CR.one_mul];exact OF.Gu y (k6 y) (l5 y) (k6 (l5 y)) (λy c b i=>y*(c*b*i)) (λy c b i=>y*b*(c*i)) d_
def mr(f g:Fr):Fr:=⟨(dI (nf f) (gR g)).a*g.d,(dI (nf f) (gR g)).b*g.d,(dI (nf f) (gR g)).c*g.d,(dI (nf f) (gR g)).e*g.d,(dI (nf g) (gR g)).a*f.d⟩
theorem aN7{g:Fr}(hg:g.d≠0)(h:g.val≠0):(dI (nf g) (gR g)).a≠0/\kI (dI (nf g) (gR g)).a=(nf g).val*(gR g).val:=by
 have hv:(dI (nf g) (gR g)).val=(nf g).val*(gR g).val:=Ji (show(1:Int)≠0 by decide) (by rw[aCE];decide);have hy:(nf g).val≠0:=λe=>h (by
  have h1:=OR (a:=g.a) (b:=g.b) (c:=g.c) (e:=g.e) hg;have h2:Fr.val ⟨g.a,g.b,g.c,g.e,g.d⟩*kI g.d=0:=by rw[h1];exact e
  exact jM λh3=>OF.mul_ne_zero (a:=Fr.val ⟨g.a,g.b,g.c,g.e,g.d⟩) h3 (OS hg) h2)
 have hn:=aN6 g;rw[M7]at hn;have hq:=SN hy;rw[<-hv,Va _ (by rfl)]at hn;have e1:(((dI (nf g) (gR g)).a:Int):Rat)=bo.nm (bo.nm (nf g).val):=b9 (λx:K=>x.re.re) hn;have e2:(((dI (nf g) (gR g)).b:Int):Rat)=0:=b9 (λx:K=>x.re.im) hn;have e3:(((dI (nf g) (gR g)).c:Int):Rat)=0:=b9 (λx:K=>x.im.re) hn;have e4:(((dI (nf g) (gR g)).e:Int):Rat)=0:=b9 (λx:K=>x.im.im) hn;refine⟨λe=>hq (by rw[<-e1,e];rfl),?_⟩;rw[<-hv,Va _ (by rfl),e2,e3,e4];rfl
theorem aN8{f g:Fr}(hf:f.d≠0)(hg:g.d≠0)(h:g.val≠0):(mr f g).d≠0/\(mr f g).val=f.val*(g.val)⁻¹:=by
 obtain⟨ha,hk⟩:=aN7 hg h;have hd:(mr f g).d≠0:=Cm ha hf;refine⟨hd,?_⟩;have h1:=OR (a:=(mr f g).a) (b:=(mr f g).b) (c:=(mr f g).c) (e:=(mr f g).e) hd;have h2:=aN2 (dI (nf f) (gR g)).a (dI (nf f) (gR g)).b (dI (nf f) (gR g)).c (dI (nf f) (gR g)).e 1 g.d;have h3:(dI (nf f) (gR g)).val=(nf f).val*(gR g).val:=Ji (show(1:Int)≠0 by decide) (by rw[aCE];decide);have h4:=OR (a:=f.a) (b:=f.b) (c:=f.c) (e:=f.e) hf;have h5:=OR (a:=g.a) (b:=g.b) (c:=g.c) (e:=g.e) hg;have h6:kI (mr f g).d=(nf g).val*(gR g).val*kI f.d:=by show kI ((dI (nf g) (gR g)).a*f.d)=_;rw[aN3,hk]
 have e1:(mr f g).val*((nf g).val*(gR g).val*kI f.d)=(nf f).val*(gR g).val*kI g.d:=by rw[<-h6,<-h3];exact h1.trans h2
 replace h4:f.val*kI f.d=(nf f).val:=h4
 replace h5:g.val*kI g.d=(nf g).val:=h5
 rw[<-h4,<-h5]at e1;have hc:(gR g).val≠0:=λe=>by rw[e,CR.mul_zero]at hk;exact OS ha hk
 have hm:kI g.d*((gR g).val*kI f.d)≠0:=OF.mul_ne_zero (OS hg) (OF.mul_ne_zero hc (OS hf));have e2:(mr f g).val*g.val*(kI g.d*((gR g).val*kI f.d))=f.val*(kI g.d*((gR g).val*kI f.d)):=by
  rw[show(mr f g).val*g.val*(kI g.d*((gR g).val*kI f.d))=(mr f g).val*(g.val*kI g.d*(gR g).val*kI f.d)from
   OF.Ja (mr f g).val g.val (kI g.d) (gR g).val (kI f.d) (λd g k c l=>d*g*(k*(c*l))) (λd g k c l=>d*(g*k*c*l)) d_,e1]
  exact OF.Gu f.val (kI f.d) (gR g).val (kI g.d) (λf l c k=>f*l*c*k) (λf l c k=>f*(k*(c*l))) d_
 have e3:(mr f g).val*g.val=f.val:=by have h7:=b9 (λt=>t*(kI g.d*((gR g).val*kI f.d))⁻¹) e2;rw[CR.mul_assoc ((mr f g).val*g.val),CR.mul_assoc f.val,OF.pA _ hm,CR.mul_one,CR.mul_one]at h7;exact h7
 rw[<-e3,CR.mul_assoc,OF.pA _ h,CR.mul_one]
theorem aN9:oP (co OU)=.agg #[.bool (bj 1).neg,.string (BA (bj 1).aP),.bool false,.string ⟨#[]⟩,.bool false,.string ⟨#[]⟩,.bool false,.string ⟨#[]⟩]:=by show Value.agg #[.bool (bj 1).neg,.string (BA (bj 1).aP),.bool (bj 0).neg,.string (BA (bj 0).aP),.bool (bj 0).neg,.string (BA (bj 0).aP),.bool (bj 0).neg,.string (BA (bj 0).aP)]=_;rw[Cq];rfl
theorem aCF{n:Nat}{f:Fr}(h:dE n f)(hd:f.d≠0):dE n (nf f):=by
 obtain⟨h1,h2,h3,h4,h5⟩:=h;refine⟨h1,h2,h3,h4,?_⟩;show(1:Int).natAbs<2^n;have:f.d.natAbs≠0:=by omega
 show 1<2^n;omega
theorem aOa{n:Nat}{f:Fr}(h:dE n (nf f)):dE n (wH (nf f))/\dE n (wG (nf f))/\dE n (OT f):=by
 obtain⟨h1,h2,h3,h4,h5⟩:=h;have e:∀ z:Int,z.natAbs<2^n->(-z).natAbs<2^n:=λz hz=>by rw[IW];exact hz
 exact⟨⟨h1,e _ h2,h3,e _ h4,h5⟩,⟨h1,h2,e _ h3,e _ h4,h5⟩,⟨h1,e _ h2,e _ h3,h4,h5⟩⟩
theorem aS9{x y:K}{n:Nat}(h:y≠0)(hx:Sz m x)(hy:Sz n y)(cN:m+4*n+60<=az):aB prog 150 [bZ x,bZ y] (.tuple #[bZ (x*y⁻¹),.int .i64 0]):=by
 have qt:az<=1099511627776:=by decide
 have v1:=aTK hx o_;have v2:=aTK hy o_;have sy:=aTd hy o_;have h26:Value.bool (OF.aA y==0)=.bool false:=oV (λe=>h ((OF.eZ y).1 e));have uB:(bI x).d≠0:=by have:=(j0 x).pos;omega
 have nj:(bI y).d≠0:=by have:=(j0 y).pos;omega
 obtain⟨hd,hv⟩:=aN8 uB nj (by rw[nX];exact h);rw[nX,nX]at hv;have e:bZ (x*y⁻¹)=gP (mr (bI x) (bI y)).low:=by unfold bZ dM;rw[<-hv,Ei hd];rfl
 rw[e];have so1:dE 1 OU:=⟨by decide,by decide,by decide,by decide,by decide⟩;have sg:=aCF hy nj;have sf:=aCF hx uB;obtain⟨c1,c2,c3⟩:=aOa sg;have s1:=dE.mul so1 c1;have s2:=dE.mul s1 c2;have s3:=dE.mul s2 c3;have sN:=dE.mul sg s3;have sM:=dE.mul sf s3;have t1:=Hq so1 c1 o_;rw[aN9]at t1;have t2:=Hq s1 c2 o_;have t3:=Hq s2 c3 o_;have tN:=Hq sg s3 o_;have tM:=Hq sf s3 o_;have gd:=hy.2.2.2.2;have fd:=hx.2.2.2.2;have ma:=aTF sM.1 gd o_ o_;have mb:=aTF sM.2.1 gd o_ o_;have mc:=aTF sM.2.2.1 gd o_ o_;have me:=aTF sM.2.2.2.1 gd o_ o_;have md:=aTF sN.1 fd o_ o_;have za:=dY sM.1 gd;have zb:=dY sM.2.1 gd;have zc:=dY sM.2.2.1 gd;have ze:=dY sM.2.2.2.1 gd;have zd:=dY sN.1 fd;have wJ:2^(m+(1+n+4+n+4+n+4)+4+n)<=2^(m+4*n+20):=cX d_ o_;have UY:2^(n+(1+n+4+n+4+n+4)+4+m)<=2^(m+4*n+20):=cX d_ o_;have hl:=aS7 (c:=co (mr (bI x) (bI y))) (d:=(mr (bI x) (bI y)).d) (n:=m+4*n+20) hd ⟨cy za wJ,cy zb wJ,cy zc wJ,cy ze wJ,cy zd UY⟩ o_;have di:nw (co (mr (bI x) (bI y))) (mr (bI x) (bI y)).d=mr (bI x) (bI y):=rfl;rw[di]at hl;have nb:=aTu (bI y).b;have nc:=aTu (bI y).c;have ne:=aTu (bI y).e;have one:=aTT (z:=1) d_ d_;generalize hD:(mr (bI x) (bI y)).low=D at *;exact eX mixed func150 300 (λ_=>[v1.at 15,v2.at 19,sy.at 25,.rw 26 _ a_ h26,one.at 28,nb.at 54,ne.at 54,t1.at 58,nc.at 54,ne.at 54,t2.at 58,nb.at 54,nc.at 54,t3.at 58,tN.at 62,tM.at 66,ma.at 77,mb.at 77,mc.at 77,me.at 77,md.at 84,hl.at 85]) (λ_=>k_) k_ k_
section
open V3 (dot aw cV smul)
def Hr(n:Nat)(r:RV):Prop:=dE n (fh r.x)/\dE n (fh r.y)/\dE n (fh r.z)
def vk(r:RV):Bool:=j6 r.x&&(j6 r.y&&j6 r.z)
theorem aS1{r:RV}{n:Nat}(h:Hr n r)(hn:n<=az):aB prog 72 [r.v] (.bool (vk r)):=by
 have hx:=Kx h.1 hn;have hy:=Kx h.2.1 hn;have hz:=Kx h.2.2 hn;unfold vk;generalize j6 r.x=bb at *;rcases bb with _|_
 ·exact aV func72 (λ_=>[hx.at 5])
 generalize j6 r.y=bb at *;rcases bb with _|_
 ·exact aV func72 (λ_=>[hx.at 5,hy.at 9])
 exact aV func72 (λ_=>[hx.at 5,hy.at 9,hz.at 14])
theorem OV(x:K):j6 (dM x)=true:=aCz (j0 x)
theorem E4(x:K):fh (dM x)=bI x:=U4 (bI x)
theorem aCG{n:Nat}{v:V3 K}(h:aF n v):Hr n (cO v):=by
 refine⟨?_,?_,?_⟩
 ·show dE n (fh (dM v.x));rw[E4];exact h.1
 ·show dE n (fh (dM v.y));rw[E4];exact h.2.1
 ·show dE n (fh (dM v.z));rw[E4];exact h.2.2
theorem aCH(v:V3 K):vk (cO v)=true:=by show(j6 (dM v.x)&&(j6 (dM v.y)&&j6 (dM v.z)))=true;rw[OV,OV,OV];rfl
theorem aTW{v:V3 K}{n:Nat}(h:aF n v)(hn:n<=az):aB prog 72 [bN v] b_:=by have:=aS1 (aCG h) hn;rw[aCH]at this;exact this
def vZ(r:RV):V3 K:=⟨(fh r.x).val,(fh r.y).val,(fh r.z).val⟩
theorem Vb{r:RV}(h:vk r=true):r=cO (vZ r):=by unfold vk at h;simp only[cY]at h;obtain⟨x,y,z⟩:=r;show RV.mk x y z=RV.mk (dM (fh x).val) (dM (fh y).val) (dM (fh z).val);rw[<-OL h.1,<-OL h.2.1,<-OL h.2.2]
theorem aTg{a b c:Int}(ha:a.natAbs<9223372036854775808)(hb:b.natAbs<9223372036854775808)(hc:c.natAbs<9223372036854775808):aB prog 27 [.int .i64 a,.int .i64 b,.int .i64 c] (bN ⟨kI a,kI b,kI c⟩):=
 aV func27 (λ_=>[(aTY ha).at 8,(aTY hb).at 10,(aTY hc).at 12])
theorem aTv{u v:V3 K}{n:Nat}(hu:aF m u)(hv:aF n v)(cN:m+n<az):aB prog 28 [bN u,bN v] (bN (u+v)):=
 aV func28 (λ_=>[(aTW hu o_).at 6,(aTW hv o_).at 10,(aTh hu.1 hv.1 cN).at 18,(aTh hu.2.1 hv.2.1 cN).at 23,(aTh hu.2.2 hv.2.2 cN).at 28])
theorem aS2{v:V3 K}{n:Nat}(hv:aF n v)(hn:n<=az):aB prog 78 [bN v] (bN (-v)):=
 aV func78 (λ_=>[(aTW hv hn).at 4,(aTE hv.1 hn).at 9,(aTE hv.2.1 hn).at 12,(aTE hv.2.2 hn).at 15])
theorem aTz{u v:V3 K}{n:Nat}(hu:aF m u)(hv:aF n v)(cN:m+n<az):aB prog 30 [bN u,bN v] (bN (u-v)):=by have e:u-v=u+-v:=V3.ext (CR.sub_def _ _) (CR.sub_def _ _) (CR.sub_def _ _);rw[e];exact aV func30 (λ_=>[(aS2 hv o_).at 7,(aTv hu hv.neg cN).at 8])
theorem aTn{v:V3 K}{k:K}{n:Nat}(hv:aF m v)(hk:Sz n k)(cN:m+n+8<=az):aB prog 29 [bN v,bZ k] (bN (smul v k)):=
 aV func29 (λ_=>[(aTW hv o_).at 6,(aTK hk o_).at 10,(aTS hv.1 hk cN).at 17,(aTS hv.2.1 hk cN).at 21,(aTS hv.2.2 hk cN).at 25])
theorem aTp{u v:V3 K}{n:Nat}(hu:aF m u)(hv:aF n v)(cN:3*(m+n)+16<az):aB prog 81 [bN u,bN v] (bZ (dot u v)):=
 aV func81 (λ_=>[(aTW hu o_).at 6,(aTW hv o_).at 10,(aTS hu.1 hv.1 o_).at 18,(aTS hu.2.1 hv.2.1 o_).at 23,(aTh (hu.1.mul hv.1) (hu.2.1.mul hv.2.1) o_).at 24,(aTS hu.2.2 hv.2.2 o_).at 29,(aTh ((hu.1.mul hv.1).add (hu.2.1.mul hv.2.1)) (hu.2.2.mul hv.2.2) o_).at 30])
theorem aTP{a b c d:K}{n:Nat}(ha:Sz m a)(hb:Sz m b)(hc:Sz n c)(hd:Sz n d)(cN:2*(m+n)+16<az):aB prog 148 [bZ a,bZ b,bZ c,bZ d] (bZ (a*d-b*c)):=
 aV func148 (λ_=>[(aTS ha hd o_).at 11,(aTS hb hc o_).at 14,(aTm (ha.mul hd) (hb.mul hc) o_).at 15])
theorem aS6{u v:V3 K}{n:Nat}(hu:aF m u)(hv:aF n v)(cN:2*(m+n)+16<az):aB prog 99 [bN u,bN v] (bN (aw u v)):=
 aV func99 (λ_=>[(aTW hu o_).at 6,(aTW hv o_).at 10,(aTP hu.2.1 hu.2.2 hv.2.1 hv.2.2 cN).at 22,(aTP hu.2.2 hu.1 hv.2.2 hv.1 cN).at 31,(aTP hu.1 hu.2.1 hv.1 hv.2.1 cN).at 40])
theorem aTZ{v:V3 K}{n:Nat}(hv:aF n v)(hn:n<=az):aB prog 79 [bN v] (.bool (decide (v=0))):=by have hz:(⟨kI 0,kI 0,kI 0⟩:V3 K)=0:=rfl;exact aV func79 (λ_=>[(aTg (a:=0) (b:=0) (c:=0) d_ d_ d_).at 4,.step 5 (au f79 5) _ _ _ _ (Em (neg:=true) k_ (cO v) (cO ⟨kI 0,kI 0,kI 0⟩) (hv.sm hn) (JV.sm d_) (b:=decide (v=0)) (by rw[aq rfl,qC];exact⟨λh=>by rw[h,hz],λh=>NT h⟩))])
theorem aCI{u v w:V3 K}{l n:Nat}(hu:aF l u)(hv:aF m v)(hw:aF n w)(cN:3*(l+(2*(m+n)+9))+16<az):aB prog 149 [bN u,bN v,bN w] (bZ (cV u v w)):=
 aV func149 (λ_=>[(aTW hu o_).at 8,(aTW hv o_).at 12,(aTW hw o_).at 17,(aS6 hv hw o_).at 24,(aTp hu (hv.aw hw) o_).at 25])
theorem Ky(h:decide (z≠0)=t):Value.bool (z !=0)=.bool t:=by
 rw[<-h];congr 1
 by_cases e:z=0
 ·subst e;rfl
 ·rw[aD e,qg];exact e
theorem aTX{u v:V3 K}{n:Nat}(hu:aF m u)(hv:aF n v)(cN:4*(m+n)+40<=az):aB prog 151 [bN u,bN v] (.int .i64 (dQ u v)):=by
 rw[<-aAZ];have h1:=aTW hu (show m<=az by omega);have h2:=aTW hv (show n<=az by omega);have c1:=aS3 hu.1 hv.1 cN;have c2:=aS3 hu.2.1 hv.2.1 cN;have c3:=aS3 hu.2.2 hv.2.2 cN;generalize OF.aA (u.x-v.x)=a at *;generalize OF.aA (u.y-v.y)=b at *;generalize OF.aA (u.z-v.z)=c at *;unfold NU;by_cases ha:a=0
 ·rw[al (λh=>h ha)];by_cases hb:b=0
  ·rw[al (λh=>h hb)];exact aV func151 (λ_=>[h1.at 8,h2.at 12,c1.at 19,.rw 21 _ a_ (Ky (aQ (λh=>h ha))),c2.at 27,.rw 29 _ a_ (Ky (aQ (λh=>h hb))),c3.at 35])
  ·rw[aq hb];exact aV func151 (λ_=>[h1.at 8,h2.at 12,c1.at 19,.rw 21 _ a_ (Ky (aQ (λh=>h ha))),c2.at 27,.rw 29 _ b_ (Ky (aD hb))])
 ·rw[aq ha];exact aV func151 (λ_=>[h1.at 8,h2.at 12,c1.at 19,.rw 21 _ b_ (Ky (aD ha))])
def A9(r:RV)(k:Nat):Bool:=ug r.x k&&(ug r.y k&&ug r.z k)
theorem aOb(r:RV)(k:Nat):aB prog 22 [r.v,vI k] (.bool (A9 r k)):=by
 have hx:=OO r.x k;have hy:=OO r.y k;have hz:=OO r.z k;unfold A9;generalize ug r.x k=bb at *;rcases bb with _|_
 ·exact aV func22 (λ_=>[hx.at 8])
 generalize ug r.y k=bb at *;rcases bb with _|_
 ·exact aV func22 (λ_=>[hx.at 8,hy.at 13])
 exact aV func22 (λ_=>[hx.at 8,hy.at 13,hz.at 19])
def wV(r:RV):Nat:=wN r.x+wN r.y+wN r.z
theorem aOc{r:RV}(h:wV r<9223372036854775808):aB prog 40 [r.v] (vI (wV r)):=by unfold wV at *;exact aV func40 (λ_=>[(OP (r:=r.x) o_).at 5,(OP (r:=r.y) o_).at 8,.sum 9 (wN r.x) (wN r.y) (wN r.x+wN r.y) rfl o_,(OP (r:=r.z) o_).at 12,.sum 13 (wN r.x+wN r.y) (wN r.z) (wN r.x+wN r.y+wN r.z) rfl o_])
theorem OW{r:RN}{n:Nat}(h:ug r k=true)(hn:8*k<=n):dE n (fh r):=by
 unfold ug uf at h;simp only[cY,tz]at h;have key:∀ q:RI,q.aP.length<=k->(dH q).natAbs<2^n:=λq hq=>by
  unfold dH;rw[pz];have h1:=zT q.aP;have h2:(256:Nat)^q.aP.length<=256^k:=cX d_ hq;have h3:(256:Nat)^k=2^(8*k):=by rw[rj]
  have h4:2^(8*k)<=2^n:=cX d_ hn;omega
 exact⟨key _ h.1,key _ h.2.1,key _ h.2.2.1,key _ h.2.2.2.1,key _ h.2.2.2.2⟩
theorem aOd{r:RV}{n:Nat}(h:A9 r k=true)(hn:8*k<=n):Hr n r:=by unfold A9 at h;simp only[cY]at h;exact⟨OW h.1 hn,OW h.2.1 hn,OW h.2.2 hn⟩
def uh(n:Nat)(r:RP):Prop:=Hr n r.n/\dE n (fh r.d)
def mw(r:RP):Bool:=vk r.n&&(decide (vZ r.n≠0)&&j6 r.d)
def pZ(r:RP):HS K:=⟨vZ r.n,(fh r.d).val⟩
theorem aOe{r:RN}(h:j6 r=true):bI (fh r).val=fh r:=by unfold j6 at h;simp only[cY,tz]at h;obtain⟨h1,h2,h3,h4,h5,h6,h7⟩:=h;exact Eh ⟨h6,h7⟩
theorem OX{r:RN}{n:Nat}(h:j6 r=true)(hs:dE n (fh r)):Sz n (fh r).val:=by unfold Sz;rw[aOe h];exact hs
theorem Vc{r:RV}{n:Nat}(h:vk r=true)(hs:Hr n r):aF n (vZ r):=by unfold vk at h;simp only[cY]at h;exact⟨OX h.1 hs.1,OX h.2.1 hs.2.1,OX h.2.2 hs.2.2⟩
theorem Vd{r:RP}{n:Nat}(h:uh n r)(hn:n<=az):aB prog 37 [r.v] (.bool (mw r)):=by
 have hv:=aS1 h.1 hn;have hd:=Kx h.2 hn;unfold mw;rcases hb:vk r.n with _|_
 ·rw[hb]at hv;exact aV func37 (λ_=>[hv.at 5])
 ·rw[hb]at hv;have hz:=aTZ (Vc hb h.1) hn;unfold bN at hz;rw[<-Vb hb]at hz;by_cases h0:vZ r.n=0
  ·rw[aD h0]at hz;rw[aQ (λe=>e h0)];exact aV func37 (λ_=>[hv.at 5,hz.at 9])
  ·rw[aQ h0]at hz;rw[aD h0];exact aV func37 (λ_=>[hv.at 5,hz.at 9,hd.at 15])
theorem aOf(v:V3 K):vZ (cO v)=v:=by show V3.mk (fh (dM v.x)).val (fh (dM v.y)).val (fh (dM v.z)).val=v;rw[E4,E4,E4,nX,nX,nX]
theorem aCJ(p:HS K):mw (cS p)=decide (p.n≠0):=by show(vk (cO p.n)&&(decide (vZ (cO p.n)≠0)&&j6 (dM p.d)))=_;rw[aCH,aOf,OV,oH,ja]
theorem aCK{n:Nat}(h:bA n p):uh n (cS p):=⟨aCG h.1,by show dE n (fh (dM p.d));rw[E4];exact h.2⟩
theorem aTB{n:Nat}(hp:bA n p)(hn:n<=az):aB prog 37 [dr p] (.bool (decide (p.n≠0))):=by have:=Vd (aCK hp) hn;rw[aCJ]at this;exact this
theorem aCL{r:RP}(h:mw r=true):r=cS (pZ r)/\(pZ r).n≠0:=by unfold mw at h;simp only[cY,tz]at h;obtain⟨n,d⟩:=r;refine⟨?_,h.2.1⟩;show RP.mk n d=RP.mk (cO (vZ n)) (dM (fh d).val);rw[<-Vb h.1,<-OL h.2.2]
theorem aOg{r:RP}{n:Nat}(h:mw r=true)(hs:uh n r):bA n (pZ r):=by unfold mw at h;simp only[cY]at h;exact⟨Vc h.1 hs.1,OX h.2.2 hs.2⟩
def Ba(r:RP)(k:Nat):Bool:=A9 r.n k&&ug r.d k
theorem aCM(r:RP)(k:Nat):aB prog 36 [r.v,vI k] (.bool (Ba r k)):=by
 have hx:=aOb r.n k;have hd:=OO r.d k;unfold Ba;generalize A9 r.n k=bb at *;rcases bb with _|_
 ·exact aV func36 (λ_=>[hx.at 8])
 exact aV func36 (λ_=>[hx.at 8,hd.at 13])
theorem aOh{r:RP}{n:Nat}(h:Ba r k=true)(hn:8*k<=n):uh n r:=by unfold Ba at h;simp only[cY]at h;exact⟨aOd h.1 hn,OW h.2 hn⟩
theorem aTa{v:V3 K}{n:Nat}(hp:bA m p)(hv:aF n v)(cN:4*(3*(m+n)+14+m)+50<=az)(h:p.n≠0):aB prog 38 [dr p,bN v] (.int .i64 (OF.aA (dot p.n v-p.d))):=by have h1:=aTB hp o_;rw[aD h]at h1;exact aV func38 (λ_=>[h1.at 6,(aTW hv o_).at 10,(aTp hp.1 hv o_).at 16,(aS3 (hp.1.dot hv) hp.2 o_).at 19])
def Hs(p q r:HS K):V3 K:=smul (aw q.n r.n) p.d+smul (aw r.n p.n) q.d+smul (aw p.n q.n) r.d
def kv(p q r:HS K):V3 K:=smul (Hs p q r) (kI 1*(cV p.n q.n r.n)⁻¹)
theorem Sz.cV{n:Nat}{u v w:V3 K}(hu:aF n u)(hv:aF n v)(hw:aF n w):Sz (15*n+41) (V3.cV u v w):=(hu.dot (hv.aw hw)).mono o_
theorem aF.Hs{n:Nat}{q r:HS K}(hp:bA n p)(hq:bA n q)(hr:bA n r):aF (15*n+41) (Go.Proofs.YthccllenbnhogaaGreatDoor.Hs p q r):=
 (((hq.1.aw hr.1).smul hp.2).add ((hr.1.aw hp.1).smul hq.2)).add ((hp.1.aw hq.1).smul hr.2) |>.mono o_
theorem aF.kv{n:Nat}{q r:HS K}(hp:bA n p)(hq:bA n q)(hr:bA n r)(h:V3.cV p.n q.n r.n≠0):aF (120*n+365) (Go.Proofs.YthccllenbnhogaaGreatDoor.kv p q r):=
 (aF.Hs hp hq hr).smul (Sz.div (m:=1) h (qs d_ d_) (Sz.cV hp.1 hq.1 hr.1)) |>.mono o_
theorem aOi(n:Nat):1+7*(15*n+41)+28<=105*n+316:=by omega
theorem aOj(n:Nat):15*n+41+(105*n+316)+8<=200*n+1000:=by omega
theorem aOk{n:Nat}(h:200*n+1000<=az):15*n+41+(105*n+316)+8<=az:=c9 (aOj n) h
theorem aOl{q r:HS K}{n:Nat}(hp:bA n p)(hq:bA n q)(hr:bA n r)(hn:200*n+1000<=az)(pn:p.n≠0)(qn:q.n≠0)(rn:r.n≠0):
  aB prog 101 [dr p,dr q,dr r] (if cV p.n q.n r.n=0 then .tuple #[zV.v,.int .i64 11]else .tuple #[bN (kv p q r),.int .i64 0]):=by
 have h1:=aTB hp o_;have h2:=aTB hq o_;have h3:=aTB hr o_;rw[aD pn]at h1;rw[aD qn]at h2;rw[aD rn]at h3;have dt:=aCI hp.1 hq.1 hr.1 o_;have sd:=Sz.cV hp.1 hq.1 hr.1;have sg:=aTd sd o_;have qx:=aOi n;have qt:=aOk hn;by_cases h:cV p.n q.n r.n=0
 ·rw[aq h];have Ve:Value.bool (OF.aA (cV p.n q.n r.n)==0)=.bool true:=xk ((OF.eZ _).2 h);exact eX mixed func101 200 (λ_=>[h1.at 13,h2.at 17,h3.at 22,dt.at 32,sg.at 34,.rw 35 _ b_ Ve]) (λ_=>k_) k_ k_
 ·rw[al h];have Ve:Value.bool (OF.aA (cV p.n q.n r.n)==0)=.bool false:=oV (λe=>h ((OF.eZ _).1 e));have c1:=aS6 hq.1 hr.1 o_;have c2:=aS6 hr.1 hp.1 o_;have c3:=aS6 hp.1 hq.1 o_;have s1:=aTn (hq.1.aw hr.1) hp.2 o_;have s2:=aTn (hr.1.aw hp.1) hq.2 o_;have s3:=aTn (hp.1.aw hq.1) hr.2 o_;have a1:=aTv ((hq.1.aw hr.1).smul hp.2) ((hr.1.aw hp.1).smul hq.2) o_;have zA:aF (10*n+27) (smul (aw q.n r.n) p.d+smul (aw r.n p.n) q.d):=aF.mono o_ (((hq.1.aw hr.1).smul hp.2).add ((hr.1.aw hp.1).smul hq.2));have zB:aF (5*n+13) (smul (aw p.n q.n) r.d):=aF.mono o_ ((hp.1.aw hq.1).smul hr.2);have a2:=aTv zA zB o_;have o1:=aTY (z:=1) d_;have so:Sz 1 (kI 1):=qs d_ d_;have dv:=aS9 h so sd o_;have sq:Sz (105*n+316) (kI 1*(cV p.n q.n r.n)⁻¹):=Sz.mono qx (Sz.div h so sd);have fs:=aTn (aF.Hs hp hq hr) sq qt;exact eX mixed func101 200 (λ_=>[h1.at 13,h2.at 17,h3.at 22,dt.at 32,sg.at 34,.rw 35 _ a_ Ve,c1.at 41,s1.at 44,c2.at 50,s2.at 53,a1.at 54,c3.at 60,s3.at 63,a2.at 64,o1.at 66,dv.at 68,fs.at 73]) (λ_=>k_) k_ k_
theorem aTN{n:Nat}(hp:bA n p)(hn:16*n+100<=az)(aY:p.n≠0):aB prog 152 [dr p] (.tuple #[dr (canon p),.int .i64 0]):=by
 have hv:=aTB hp o_;rw[aD aY]at hv;have sx:=aTd hp.1.1 o_;have sy:=aTd hp.1.2.1 o_;have o1:=aTY (z:=1) d_;have so:Sz 1 (kI 1):=qs d_ d_;have fin:∀ x:K,x≠0->Sz n x->aB prog 18 [bZ x] (bZ (rF x))/\aB prog 150 [bZ (kI 1),bZ (rF x)] (.tuple #[bZ (rK x),.int .i64 0])/\
   aB prog 29 [bN p.n,bZ (rK x)] (bN (smul p.n (rK x)))/\aB prog 77 [bZ p.d,bZ (rK x)] (bZ (p.d*rK x)):=λx hx hs=>
  ⟨aTo hs o_,aS9 (TS hx) so hs.rF o_,aTn hp.1 (hs.rK hx) o_,aTS hp.2 (hs.rK hx) o_⟩
 have hc:canon p=CD p (AR p.n):=rfl;unfold AR at hc;by_cases hx:p.n.x=0
 ·have ex:Value.bool (OF.aA p.n.x==0)=.bool true:=xk ((OF.eZ _).2 hx);rw[al (λe=>e hx)]at hc;by_cases hy:p.n.y=0
  ·have ey:Value.bool (OF.aA p.n.y==0)=.bool true:=xk ((OF.eZ _).2 hy);rw[al (λe=>e hy)]at hc;have hz:p.n.z≠0:=λhz=>aY (V3.ext hx hy hz);obtain⟨f1,f2,f3,f4⟩:=fin p.n.z hz hp.1.2.2;rw[hc];exact eX mixed func152 200 (λ_=>[hv.at 8,sx.at 15,.rw 16 _ b_ ex,sy.at 21,.rw 22 _ b_ ey,o1.at 27,f1.at 29,f2.at 30,f3.at 36,f4.at 40]) (λ_=>k_) k_ k_
  ·have ey:Value.bool (OF.aA p.n.y==0)=.bool false:=oV (λe=>hy ((OF.eZ _).1 e));rw[aq hy]at hc;obtain⟨f1,f2,f3,f4⟩:=fin p.n.y hy hp.1.2.1;rw[hc];exact eX mixed func152 200 (λ_=>[hv.at 8,sx.at 15,.rw 16 _ b_ ex,sy.at 21,.rw 22 _ a_ ey,o1.at 27,f1.at 29,f2.at 30,f3.at 36,f4.at 40]) (λ_=>k_) k_ k_
 ·have ex:Value.bool (OF.aA p.n.x==0)=.bool false:=oV (λe=>hx ((OF.eZ _).1 e));rw[aq hx]at hc;obtain⟨f1,f2,f3,f4⟩:=fin p.n.x hx hp.1.1;rw[hc];exact eX mixed func152 200 (λ_=>[hv.at 8,sx.at 15,.rw 16 _ a_ ex,sx.at 21,.rw 22 _ a_ ex,o1.at 27,f1.at 29,f2.at 30,f3.at 36,f4.at 40]) (λ_=>k_) k_ k_
theorem aTt{q:HS K}{n:Nat}(hp:bA m p)(hq:bA n q)(hm:16*m+100<=az)(hn:16*n+100<=az)(mg:p.n≠0)(EF:q.n≠0):aB prog 103 [dr p,dr q] (.bool (decide (canon p=canon q))):=
 aV func103 (λ_=>[(aTN hp hm mg).at 11,(aTN hq hn EF).at 16,.step 28 (au f103 28) _ _ _ _ (SF (neg:=true) k_ (cS (canon p)) (cS (canon q)) ((hp.canon mg).sm o_) ((hq.canon EF).sm o_) (b:=decide (canon p=canon q)) (by rw[aq rfl,qC];exact⟨λh=>by rw[h],λh=>NV h⟩))])
theorem aCN{g o a b:V3 K}{n:Nat}(hg:aF n g)(ho:aF n o)(ha:aF n a)(hb:aF n b)(hn:200*n+400<=az):aB prog 154 [bN g,bN o,bN a,bN b] (.int .i64 (OF.aA (cV g (a-o) (b-o)))):=
 aV func154 (λ_=>[(aTz ha ho o_).at 12,(aTz hb ho o_).at 15,(aCI hg (ha.sub ho) (hb.sub ho) o_).at 16,(aTd (hg.dot ((ha.sub ho).aw (hb.sub ho))) o_).at 17])
end
section
variable{Bs:ae}{a b:List RV}
def C5(n i:Nat):aL:=[(5,vI i),(0,sl 0 n),(1,sl 1 n)]
def vl(a b:List RV):aC:=[(0,.view (dj a)),(1,.view (dj b))]
noncomputable def svS{n:Nat}{x y:RV}(hi:i<n)(hx:a[i]?=some x)(hy:b[i]?=some y)(mT:x.Sm)(wW:y.Sm)(ht:(!t)=true↔x=y)(more:bK prog Bs 26):bK prog Bs 26:=
 .lt 14 i n true (aD hi)::.de f35 19 0 n i 30 hi k_::.ld f35 20 42 0 (i*30) (.view (dj a)) x.v rfl (tY hx) k_::.de f35 23 1 n i 30 hi k_::.ld f35 24 42 1 (i*30) (.view (dj b)) y.v rfl (tY hy) k_::
  .step 25 (au f35 25) [x.v,y.v] [] (.bool t) [] (Em (neg:=false) k_ x y mT wW ht)::more
theorem aCO{n:Nat}{x:RV}(hi:i<n)(hx:a[i]?=some x)(hy:b[i]?=some x)(mT:x.Sm)(h63:n<9223372036854775807):
  ag prog Bs 26 (aE (af f35 0)) (C5 n i) (vl a b) 2 ⟨.normal,C5 n (i+1),vl a b,2⟩:=
 ay (svS (t:=false) hi hx hy mT mT s_ [.sum 16 i 1 (i+1) rfl o_])
theorem aOm{n:Nat}{x y:RV}(hi:i<n)(hx:a[i]?=some x)(hy:b[i]?=some y)(mT:x.Sm)(wW:y.Sm)(aY:x≠y):
  ag prog Bs 26 (aE (af f35 0)) (C5 n i) (vl a b) 2 ⟨.ret,[(4,.bool false)],vl a b,2⟩:=
 ay (svS (t:=true) hi hx hy mT wW (by simp[aY]) [])
theorem aOn{n:Nat}:ag prog Bs 26 (aE (af f35 0)) (C5 n n) (vl a b) 2 ⟨.exit 0,[],vl a b,2⟩:=
 ay [.lt 14 n n false s_]
theorem aOo(ha:∀ x∈a,x.Sm)(hb:∀ x∈b,x.Sm)(h63:a.length<9223372036854775807):cJ prog 35 [.r a.length (dj a),.r b.length (dj b)] (.bool (decide (a=b))):=by
 have ax:([aJ.r a.length (dj a),.r b.length (dj b)].all aJ.ok)=true:=by simp only[fp,gm,aJ.ok,iZ iR,ja]
 by_cases hl:a.length=b.length
 ·rcases CJ a b hl with h|⟨e,x,y,h1,h2,h3,h4⟩
  ·rw[aD h];subst h;have lo:∀ B:ae,ag prog B 26 (.block 0 (af f35 0)) (C5 a.length 0) (vl a a) 2 ⟨.normal,[],vl a a,2⟩:=λB=>
    bO (id:=0) (cg a.length (λi=>C5 a.length i) (λ_=>vl a a) (λi k _=>Iff.rfl) (λi hi=>by have hx:a[i]?=some a[i]:=bd hi;exact aCO hi hx hx (ha _ (eh hi)) h63) aOn n_)
   exact dR func35 ax 26 (λw=>[.rw 10 _ a_ (sS (x:=a.length) (y:=a.length) s_),.code 0 _ _ _ _ _ (lo _)])
  ·have bX:a≠b:=λh=>by subst h;rw[h1]at h2;injection h2 with h2;exact h3 h2
   rw[aQ bX];have av:=(eD.1 h1).1;have lo:∀ B:ae,ag prog B 26 (.block 0 (af f35 0)) (C5 a.length 0) (vl a b) 2 ⟨.ret,[(4,.bool false)],vl a b,2⟩:=λB=>
    bO (id:=0) (cg e (λi=>C5 a.length i) (λ_=>vl a b) (λi k _=>Iff.rfl) (λi hi=>by have hx:a[i]?=some a[i]:=bd o_;have hy:b[i]?=some b[i]:=bd o_;have:=h4 i _ _ hi hx hy;rw[<-this]at hy;exact aCO o_ hx hy (ha _ (eh _)) h63) (aOm av h1 h2 (ha _ (cL h1)) (hb _ (cL h2)) h3) n_)
   have AF:([aJ.r a.length (dj a),.r a.length (dj b)].all aJ.ok)=true:=by simp only[fp,gm,aJ.ok,iZ iR,ja]
   rw[<-hl];exact dR func35 AF 26 (λw=>[.rw 10 _ a_ (sS (x:=a.length) (y:=a.length) s_),.code 0 _ _ _ _ _ (lo _)])
 ·have bX:a≠b:=λh=>hl (by rw[h]);rw[aQ bX];exact dR func35 ax 26 (λw=>[.rw 10 _ b_ (sS (x:=a.length) (y:=b.length) (aD hl))])
end
section
variable{Bs:ae}{a b:List Int}
def C6(n i:Nat):aL:=[(5,vI i),(0,sl 0 n),(1,sl 1 n)]
def vm(a b:List Int):aC:=[(0,.view (e6 a)),(1,.view (e6 b))]
theorem neZ{x:Int}(h:decide (x≠y)=t):Value.bool (x !=y)=.bool t:=by
 rw[<-h];congr 1
 by_cases e:x=y
 ·subst e;simp
 ·rw[aD e,qg];exact e
noncomputable def siS{n:Nat}{x:Int}(hi:i<n)(hx:a[i]?=some x)(hy:b[i]?=some y)(ht:decide (x≠y)=t)(more:bK prog Bs 26):bK prog Bs 26:=
 .lt 14 i n true (aD hi)::.ix f39 19 0 n i hi k_::.ld f39 20 3 0 i (.view (e6 a)) (iV x) rfl (Oj hx) k_::.ix f39 23 1 n i hi k_::.ld f39 24 3 1 i (.view (e6 b)) (iV y) rfl (Oj hy) k_::.rw 25 _ (.bool t) (neZ ht)::more
theorem aCP{n:Nat}{x:Int}(hi:i<n)(hx:a[i]?=some x)(hy:b[i]?=some x)(h63:n<9223372036854775807):
  ag prog Bs 26 (aE (af f39 0)) (C6 n i) (vm a b) 2 ⟨.normal,C6 n (i+1),vm a b,2⟩:=
 ay (siS (t:=false) hi hx hy s_ [.sum 16 i 1 (i+1) rfl o_])
theorem aOp{n:Nat}{x:Int}(hi:i<n)(hx:a[i]?=some x)(hy:b[i]?=some y)(aY:x≠y):
  ag prog Bs 26 (aE (af f39 0)) (C6 n i) (vm a b) 2 ⟨.ret,[(4,.bool false)],vm a b,2⟩:=
 ay (siS (t:=true) hi hx hy (aD aY) [])
theorem aOq{n:Nat}:ag prog Bs 26 (aE (af f39 0)) (C6 n n) (vm a b) 2 ⟨.exit 0,[],vm a b,2⟩:=
 ay [.lt 14 n n false s_]
theorem aCQ(l:List Int):(e6 l).all flat=true:=aX.2 λu hu=>by obtain⟨x,_,rfl⟩:=dq.1 hu;rfl
theorem aOr(h63:a.length<9223372036854775807):cJ prog 39 [.r a.length (e6 a),.r b.length (e6 b)] (.bool (decide (a=b))):=by
 have ax:([aJ.r a.length (e6 a),.r b.length (e6 b)].all aJ.ok)=true:=by simp only[fp,gm,aJ.ok,aCQ,ja]
 by_cases hl:a.length=b.length
 ·rcases CJ a b hl with h|⟨e,x,y,h1,h2,h3,h4⟩
  ·rw[aD h];subst h;have lo:∀ B:ae,ag prog B 26 (.block 0 (af f39 0)) (C6 a.length 0) (vm a a) 2 ⟨.normal,[],vm a a,2⟩:=λB=>
    bO (id:=0) (cg a.length (λi=>C6 a.length i) (λ_=>vm a a) (λi k _=>Iff.rfl) (λi hi=>by have hx:a[i]?=some a[i]:=bd hi;exact aCP hi hx hx h63) aOq n_)
   exact dR func39 ax 26 (λw=>[.rw 10 _ a_ (sS (x:=a.length) (y:=a.length) s_),.code 0 _ _ _ _ _ (lo _)])
  ·have bX:a≠b:=λh=>by subst h;rw[h1]at h2;injection h2 with h2;exact h3 h2
   rw[aQ bX];have av:=(eD.1 h1).1;have lo:∀ B:ae,ag prog B 26 (.block 0 (af f39 0)) (C6 a.length 0) (vm a b) 2 ⟨.ret,[(4,.bool false)],vm a b,2⟩:=λB=>
    bO (id:=0) (cg e (λi=>C6 a.length i) (λ_=>vm a b) (λi k _=>Iff.rfl) (λi hi=>by have hx:a[i]?=some a[i]:=bd o_;have hy:b[i]?=some b[i]:=bd o_;have:=h4 i _ _ hi hx hy;rw[<-this]at hy;exact aCP o_ hx hy h63) (aOp av h1 h2 h3) n_)
   have AF:([aJ.r a.length (e6 a),.r a.length (e6 b)].all aJ.ok)=true:=by simp only[fp,gm,aJ.ok,aCQ,ja]
   rw[<-hl];exact dR func39 AF 26 (λw=>[.rw 10 _ a_ (sS (x:=a.length) (y:=a.length) s_),.code 0 _ _ _ _ _ (lo _)])
 ·have bX:a≠b:=λh=>hl (by rw[h]);rw[aQ bX];exact dR func39 ax 26 (λw=>[.rw 10 _ b_ (sS (x:=a.length) (y:=b.length) (aD hl))])
end
section
variable{α:Type}[DecidableEq α]
def dd:List α->List α
 |a::b::l=>if a=b then dd (b::l)else a::dd (b::l)
 |l=>l
theorem Kz(a b:α)(l:List α):dd (a::b::l)=if a=b then dd (b::l)else a::dd (b::l):=rfl
theorem aCR:∀(l:List α) (a b:α),dd (l++[a,b])=if a=b then dd (l++[a])else dd (l++[a])++[b]
 |[],a,b=>by
  show(if a=b then[b]else[a,b])=if a=b then[a]else[a]++[b]
  split
  ·rename_i h;rw[h]
  ·rfl
 |[c],a,b=>by
  show(if c=a then(if a=b then[b]else[a,b])else c::(if a=b then[b]else[a,b]))=if a=b then(if c=a then[a]else[c,a])else(if c=a then[a]else[c,a])++[b]
  by_cases h:a=b<;>by_cases k:c=a<;>simp[h,k]
 |c::d::l,a,b=>by
  show(if c=d then dd (d::(l++[a,b]))else c::dd (d::(l++[a,b])))=if a=b then(if c=d then dd (d::(l++[a]))else c::dd (d::(l++[a])))else(if c=d then dd (d::(l++[a]))else c::dd (d::(l++[a])))++[b]
  have ih:=aCR (d::l) a b;rw[FY,FY]at ih;rw[ih];by_cases h:a=b<;>by_cases k:c=d<;>simp[h,k]
theorem OY{l:List α}{x y:α}(hj:l[j]?=some y)(hx:l[j+1]?=some x):dd (l.take (j+2))=if y=x then dd (l.take (j+1))else dd (l.take (j+1))++[x]:=by
 have e1:l.take (j+1)=l.take j++[y]:=by rw[ua,hj];rfl
 have e2:l.take (j+2)=l.take j++[y,x]:=by rw[ua,hx,e1,Bx];rfl
 rw[e1,e2,aCR]
theorem aCS{x:α}:∀{l:List α},x∈dd l↔x∈l
 |[]=>Iff.rfl
 |[a]=>Iff.rfl
 |a::b::l=>by
  rw[Kz];have ih:=aCS (x:=x) (l:=b::l);split
  ·rename_i h;subst h;rw[ih];simp
  ·rw[ch,ih];simp
def jD(l:List α)(j:Nat):List α:=dd (l.take j)++l.drop (dd (l.take j)).length
def iG(l:List α)(j:Nat):Nat:=(dd (l.take j)).length
theorem OZ(l:List α):∀ j,iG l j<=j/\iG l j<=l.length
 |0=>by simp[iG,dd]
 |1=>by
  cases l with
  |nil=>simp[iG,dd]
  |cons a l=>simp[iG,dd]
 |j+2=>by
  have ih:=OZ l (j+1);rcases eQ (j+1) l.length with h|h
  ·have hy:l[j]?=some l[j]:=bd o_;have hx:l[j+1]?=some l[j+1]:=bd h;have:=OY hy hx;unfold iG at ih ⊢;rw[this];split
   ·omega
   ·rw[jW,J0];omega
  ·have:l.take (j+2)=l.take (j+1):=by rw[jN h,jN o_]
   unfold iG at ih ⊢;rw[this];omega
theorem aCT(l:List α)(j:Nat):(jD l j).length=l.length:=by have:=(OZ l j).2;unfold iG at this;unfold jD;rw[jW,uD];omega
theorem aCU{l:List α}(h:iG l j<=i):(jD l j)[i]?=l[i]?:=by
 unfold iG at h;unfold jD;rw[Dx h,Fw]
 congr 1;omega
theorem O0{l:List α}{x:α}(hj:l[j]?=some x)(hx:l[j+1]?=some x):jD l (j+2)=jD l (j+1)/\iG l (j+2)=iG l (j+1):=by unfold jD iG;rw[OY hj hx,aq rfl];exact⟨rfl,rfl⟩
theorem aCV{l:List α}{x y:α}(hj:l[j]?=some y)(hx:l[j+1]?=some x)(aY:y≠x)(hd:iG l (j+1)<l.length):(jD l (j+1)).set (iG l (j+1)) x=jD l (j+2)/\iG l (j+2)=iG l (j+1)+1:=by
 unfold jD iG at *;rw[OY hj hx,al aY];refine⟨?_,by rw[jW];rfl⟩;rw[TX _ _ (aZ _),uN,jW,J0,Bx]
 congr 1
 rw[aKt hd];rfl
theorem Vf{l:List α}:∀(j:Nat),(∀ i x,i+1<j->l[i]?=some x->l[i+1]?≠some x)->j<=l.length->dd (l.take j)=l.take j
 |0,_,_=>rfl
 |1,_,_=>by
  cases l with
  |nil=>rfl
  |cons a l=>rfl
 |j+2,h,hl=>by
  have ih:=Vf (j+1) (λi x hi=>h i x o_) o_;have hy:l[j]?=some l[j]:=bd o_;have hx:l[j+1]?=some l[j+1]:=bd o_;rw[OY hy hx,al (λe=>h j _ o_ hy (by rw[hx,e])),ih];have e:l.take (j+2)=l.take (j+1)++[l[j+1]]:=by rw[ua,hx];rfl
  exact e.symm
theorem aCW(l:List α):∀ n,n<=l.length->(∀ i x,i+1<n->l[i]?=some x->l[i+1]?≠some x)\/∃ e x,e+1<n/\l[e]?=some x/\l[e+1]?=some x/\∀ i x,i+1<e+1->l[i]?=some x->l[i+1]?≠some x
 |0,_=>.inl λi x h=>by omega
 |1,_=>.inl λi x h=>by omega
 |n+2,hn=>by
  rcases aCW l (n+1) o_ with h|⟨e,x,h1,h2,h3,h4⟩
  ·have hy:l[n]?=some l[n]:=bd o_;have hx:l[n+1]?=some l[n+1]:=bd o_;by_cases he:l[n]=l[n+1]
   ·exact .inr ⟨n,l[n],by omega,hy,by rw[hx,he],h⟩
   ·refine .inl λi x hi zw=>?_;rcases eQ (i+1) (n+1)with h1|h1
    ·exact h i x h1 zw
    ·have:i=n:=by omega
     subst this;rw[hy]at zw;injection zw with zw;rw[hx,<-zw];intro e;injection e with e;exact he e.symm
  ·exact .inr ⟨e,x,by omega,h2,h3,h4⟩
theorem aCX{β:Type}[DecidableEq β]{f:α->β}(hf:∀ a b,f a=f b->a=b):∀ l:List α,dd (l.map f)=(dd l).map f
 |[]=>rfl
 |[a]=>rfl
 |a::b::l=>by
  have ih:=aCX hf (b::l);rw[qc,qc,Kz,Kz];rw[qc]at ih;by_cases h:a=b
  ·subst h;rw[aq rfl,aq rfl,ih]
  ·rw[al h,al (λe=>h (hf _ _ e)),ih];rfl
end
section
variable{Bs:ae}{l:List RV}
def KA:RI:=⟨false,[]⟩
def Ht:RN:=⟨KA,KA,KA,KA,KA⟩
def rT:RV:=⟨Ht,Ht,Ht⟩
def E5(n i:Nat):aL:=[(3,vI i),(0,sl 1 n)]
def kM(l:List RV):aC:=[(1,.row (dj l) 42 30)]
def aOs(k a n:Nat):Value:=.slice (some ⟨k,a*30,some 7⟩) n a
def KB(n e d k:Nat):aL:=[(5,vI k),(4,aOs 1 e (n-e)),(3,vI d),(0,sl 1 n)]
theorem stV{l:List RV}{y:RV}(hi:i<l.length):eM prog 42 (dj l) (i*30) y.v=some (dj (l.set i y)):=aKu iR k_ hi
theorem aCY{n:Nat}{x y:RV}(hi:i+1<n)(h63:n<4611686018427387904)(hy:l[i]?=some y)(hx:l[i+1]?=some x)(wW:y.Sm)(mT:x.Sm)(aY:x≠y):
  ag prog Bs 61 (aE (af f91 0)) (E5 n (i+1)) (kM l) 2 ⟨.normal,E5 n (i+1+1),kM l,2⟩:=
 ay [.lt 13 (i+1) n true (aD hi),.de f91 18 1 n (i+1) 30 hi k_,.ld f91 19 42 1 ((i+1)*30) (.row (dj l) 42 30) x.v rfl (tY hx) k_,.eO 22 (i+1) 1 i rfl o_,.de f91 23 1 n i 30 o_ k_,.ld f91 24 42 1 (i*30) (.row (dj l) 42 30) y.v rfl (tY hy) k_,.step 25 (au f91 25) [x.v,y.v] [] a_ [] (Em (neg:=true) k_ x y mT wW (by simp[aY])),.sum 15 (i+1) 1 (i+1+1) rfl o_]
theorem aOt{n:Nat}:ag prog Bs 61 (aE (af f91 0)) (E5 n n) (kM l) 2 ⟨.exit 0,[(0,sl 1 n)],kM l,2⟩:=
 ay [.lt 13 n n false s_]
noncomputable def aCZ{n:Nat}{r:List RV}{x y:RV}(hk:k+1<n-e)(hj:e+k=j)(h63:n<4611686018427387904)(hy:r[j]?=some y)(hx:r[j+1]?=some x)(wW:y.Sm)(mT:x.Sm)(ht:(!t)=true↔x=y)(more:bK prog Bs 61):bK prog Bs 61:=
 .lt 32 (k+1) (n-e) true (aD hk)::.oT f91 37 1 e (n-e) e (k+1) (j+1) 30 hk o_ k_::.ld f91 38 42 1 ((j+1)*30) (.row (dj r) 42 30) x.v rfl (tY hx) k_::.eO 41 (k+1) 1 k rfl o_::
  .oT f91 42 1 e (n-e) e k j 30 o_ hj k_::.ld f91 43 42 1 (j*30) (.row (dj r) 42 30) y.v rfl (tY hy) k_::.step 44 (au f91 44) [x.v,y.v] [] (.bool t) [] (Em (neg:=false) k_ x y mT wW ht)::more
theorem aOu{n:Nat}(hl:l.length=n)(hk:e+1+k+1<n)(h63:n<4611686018427387904)(sU:∀ x∈l,x.Sm)(hd:d=iG l (e+1+k+1))(hde:d<=e+1+k):
  ag prog Bs 61 (aE (af f91 2)) (KB n (e+1) d (k+1)) (kM (jD l (e+1+k+1))) 2 ⟨.normal,KB n (e+1) (iG l (e+1+k+2)) (k+1+1),kM (jD l (e+1+k+2)),2⟩:=by
 have hy:l[e+1+k]?=some l[e+1+k]:=bd o_;have hx:l[e+1+k+1]?=some l[e+1+k+1]:=bd o_;have MX:(jD l (e+1+k+1))[e+1+k]?=some l[e+1+k]:=by rw[aCU o_];exact hy
 have sD:(jD l (e+1+k+1))[e+1+k+1]?=some l[e+1+k+1]:=by rw[aCU o_];exact hx
 have sy:=sU _ (cL hy);have sx:=sU _ (cL hx);by_cases h:l[e+1+k]=l[e+1+k+1]
 ·obtain⟨q1,q2⟩:=O0 hy (by rw[hx,h]);rw[q1,q2,<-hd];exact ay (aCZ (t:=false) o_ rfl h63 MX sD sy sx (by simp[h]) [.sum 34 (k+1) 1 (k+1+1) rfl o_])
 ·have av:iG l (e+1+k+1)<l.length:=by omega
  obtain⟨q1,q2⟩:=aCV hy hx h av;rw[<-hd]at q1 q2 av;have bH:=stV (l:=jD l (e+1+k+1)) (i:=d) (y:=l[e+1+k+1]) (by rw[aCT];exact av);rw[q1]at bH;rw[q2];generalize l[e+1+k+1]=x at *;generalize l[e+1+k]=y at *;generalize jD l (e+1+k+1)=r at *;generalize jD l (e+1+k+2)=r' at *;exact ay (aCZ (t:=true) o_ rfl h63 MX sD sy sx (by simp;exact λe=>h e.symm) [.oT f91 49 1 (e+1) (n-(e+1)) (e+1) (k+1) (e+1+k+1) 30 o_ o_ k_,.ld f91 50 42 1 ((e+1+k+1)*30) (.row (dj r) 42 30) x.v rfl (tY sD) k_,.de f91 51 1 n d 30 o_ k_,.st f91 100051 42 1 (d*30) (.row (dj r) 42 30) x.v (.row (dj r') 42 30) rfl bH rfl k_,.sum 53 d 1 (d+1) rfl o_,.sum 34 (k+1) 1 (k+1+1) rfl o_])
theorem aOv{n:Nat}{r:List RV}(he:e<=n):ag prog Bs 61 (aE (af f91 2)) (KB n e d (n-e)) (kM r) 2 ⟨.exit 2,[(3,vI d),(0,sl 1 n)],kM r,2⟩:=
 ay [.lt 32 (n-e) (n-e) false s_]
theorem aOw{n:Nat}{x:RV}(hl:l.length=n)(he:e+1<n)(h63:n<4611686018427387904)(sU:∀ x∈l,x.Sm)(hy:l[e]?=some x)(hx:l[e+1]?=some x)(fP:dd (l.take (e+1))=l.take (e+1)):
  ag prog Bs 61 (.block 2 (af f91 2)) (KB n (e+1) (e+1) 1) (kM l) 2 ⟨.normal,[(3,vI (dd l).length),(0,sl 1 n)],kM (jD l n),2⟩/\(dd l).length<n:=by
 have h0:iG l (e+1)=e+1:=by unfold iG;rw[fP,je];omega
 have h1:iG l (e+2)=e+1:=by rw[(O0 hy hx).2,h0]
 have fU:jD l (e+2)=l:=by rw[(O0 hy hx).1];unfold jD;rw[fP];rw[je,mE o_,Ov]
 have uG:∀ k,e+1+k+1<n->iG l (e+1+k+2)<=iG l (e+1+k+1)+1:=λk hk=>by
  have a:l[e+1+k]?=some l[e+1+k]:=bd o_;have b:l[e+1+k+1]?=some l[e+1+k+1]:=bd o_;by_cases h:l[e+1+k]=l[e+1+k+1]
  ·have:=(O0 a (by rw[b,h])).2;omega
  ·have:=(aCV a b h (by have:=(OZ l (e+1+k+1)).1;omega)).2;omega
 have DB:∀ k,e+1+k<n->iG l (e+1+k+1)<=e+1+k:=by
  intro k;induction k with
  |zero=>intro _;show iG l (e+2)<=_;omega
  |succ k ih=>
   intro hk;have a:=ih o_;have b:=uG k o_;show iG l (e+1+k+2)<=_;omega
 have aU:iG l n=(dd l).length:=by unfold iG;rw[jN o_]
 refine⟨?_,?_⟩
 ·have:=cg (P:=prog) (B:=Bs) (N:=61) (b:=aE (af f91 2)) (next:=2) (n-(e+1)-1) (λk=>KB n (e+1) (iG l (e+1+k+1)) (k+1)) (λk=>kM (jD l (e+1+k+1)))
   (r:=⟨.exit 2,[(3,vI (dd l).length),(0,sl 1 n)],kM (jD l n),2⟩) (λi k _=>jx (l:=kM (jD l (e+1+i+1))) (m:=kM (jD l (e+1+0+1))) rfl k)
   (λk hk=>aOu hl o_ h63 sU rfl (DB k o_))
   (by
    have e1:e+1+(n-(e+1)-1)+1=n:=by omega
    have e2:n-(e+1)-1+1=n-(e+1):=by omega
    simp only[e1,e2,aU];exact aOv o_) n_
  have h2:=bO (id:=2) this;simp only[jv,iJ,h1,fU]at h2;exact h2
 ·have:=DB (n-(e+1)-1) o_;rw[show e+1+(n-(e+1)-1)+1=n by omega,aU]at this;omega
def Hu(l:List RV):List RV:=dd l++List.replicate (l.length-(dd l).length) rT
theorem aC0{l:List RV}(h:dd l=l):Hu l=l:=by unfold Hu;rw[h];simp
theorem aOx(sU:∀ x∈l,x.Sm)(h63:l.length<4611686018427387904):yD prog 91 2 [sl 1 l.length] (kM l) [] (sl 1 (dd l).length) (kM (Hu l)):=by
 by_cases h2:l.length<2
 ·have hd:dd l=l:=by
   cases l with
   |nil=>rfl
   |cons a l=>cases l with
    |nil=>rfl
    |cons b l=>simp at h2;omega
  rw[aC0 hd,hd];exact oh mixed func91 100 (N:=61) k_ (λ_=>[.lt 8 l.length 2 true (aD h2)]) (λ_=>k_)
 ·have av:(Value.bool (decide ((l.length:Int)<(2:Int))))=.bool false:=by simp;omega
  rcases aCW l l.length (aZ _)with h|⟨e,x,h3,h4,h5,h6⟩
  ·have hd:dd l=l:=by have:=Vf l.length h (aZ _);rwa[nB]at this
   rw[aC0 hd,hd];generalize hn:l.length=n at *;have lo:∀ B:ae,ag prog B 61 (.block 0 (af f91 0)) (E5 n 1) (kM l) 2 ⟨.normal,[(0,sl 1 n)],kM l,2⟩:=λB=>by
    have:=cg (P:=prog) (B:=B) (N:=61) (b:=aE (af f91 0)) (next:=2) (n-1) (λi=>E5 n (i+1)) (λ_=>kM l) (r:=⟨.exit 0,[(0,sl 1 n)],kM l,2⟩) (λi k _=>Iff.rfl)
     (λi hi=>by have hy:l[i]?=some l[i]:=bd o_;have hx:l[i+1]?=some l[i+1]:=bd o_;exact aCY o_ h63 hy hx (sU _ (cL hy)) (sU _ (cL hx)) λe=>h i _ o_ hy (by rw[hx,e]))
     (by rw[show n-1+1=n by omega];exact aOt) n_
    exact bO (id:=0) this
   exact oh mixed func91 100 (N:=61) k_ (λB=>[.rw 8 _ _ av,.code 0 _ _ _ _ _ (lo B)]) (λ_=>k_)
  ·have fP:dd (l.take (e+1))=l.take (e+1):=Vf (e+1) h6 o_;have sx:=sU _ (cL h4);generalize hn:l.length=n at *;have hz:cr RV.cs (List.replicate (n-(dd l).length) rT)=(Builtin.zeroCells (rT.v).cells (n-(dd l).length)).toList:=(aLy iR rfl d_ _).symm;unfold Hu;rw[hn];have cB:=λB=>aOw (Bs:=B) hn h3 h63 sU h4 h5 fP;have Mu:=(cB (ae.at default)).2;have Ez:jD l n=dd l++l.drop (dd l).length:=by unfold jD;rw[jN o_]
   have aOy:iv (dj (jD l n)) ((dd l).length*30) (Builtin.zeroCells (rT.v).cells (n-(dd l).length)).toList=dj (dd l++List.replicate (n-(dd l).length) rT):=by rw[<-hz,Ez];show iv (cr RV.cs (dd l++l.drop (dd l).length)) _ _=cr RV.cs _;rw[JY,JY];have:=NY (cr RV.cs (List.replicate (n-(dd l).length) rT)) (cr RV.cs (dd l)) (cr RV.cs (l.drop (dd l).length)) 0;rw[rL iR,iJ]at this;rw[this];have h2:=TY (cr RV.cs (List.replicate (n-(dd l).length) rT)) (cr RV.cs (l.drop (dd l).length)) [] (by rw[rL iR,rL iR,uD,Hi,hn]);rw[gO,gO]at h2;rw[h2]
   have hlen:(dd l).length*30+(n-(dd l).length)*(rT.v).cells.size<=(dj (jD l n)).length:=by rw[rL iR,aCT,hn,show(rT.v).cells.size=30 from rfl,<-e8];exact eR _ o_
   generalize jD l n=r at *;generalize (dd l++List.replicate (n-(dd l).length) rT)=r' at *;generalize (dd l).length=d at *;have lo:∀ B:ae,ag prog B 61 (.block 0 (af f91 0)) (E5 n 1) (kM l) 2 ⟨.ret,[(2,sl 1 d)],kM r',2⟩:=λB=>by
    have:=cg (P:=prog) (B:=B) (N:=61) (b:=aE (af f91 0)) (next:=2) e (λi=>E5 n (i+1)) (λ_=>kM l) (r:=⟨.ret,[(2,sl 1 d)],kM r',2⟩) (λi k _=>Iff.rfl)
     (λi hi=>by have hy:l[i]?=some l[i]:=bd o_;have hx:l[i+1]?=some l[i+1]:=bd o_;exact aCY o_ h63 hy hx (sU _ (cL hy)) (sU _ (cL hx)) λe=>h6 i _ o_ hy (by rw[hx,e]))
     (ay [.lt 13 (e+1) n true (aD h3),.de f91 18 1 n (e+1) 30 h3 k_,.ld f91 19 42 1 ((e+1)*30) (.row (dj l) 42 30) x.v rfl (tY h5) k_,.eO 22 (e+1) 1 e rfl o_,.de f91 23 1 n e 30 o_ k_,.ld f91 24 42 1 (e*30) (.row (dj l) 42 30) x.v rfl (tY h4) k_,.step 25 (au f91 25) [x.v,x.v] [] b_ [] (Em (neg:=true) k_ x x sx sx s_),.behind f91 28 1 n (e+1) (n-(e+1)) 30 o_ o_ k_,.code 2 _ _ _ _ _ (cB B).1,.behind f91 56 1 n d (n-d) 30 o_ o_ k_,.clear f91 99999 1 (d*30) (n-d) d 42 30 rT.v (dj r) (dj r') d_ o_ hlen aOy k_,.upto f91 59 1 n d 30 o_ k_]) n_
    exact bO (id:=0) this
   exact oh mixed func91 100 (N:=61) k_ (λB=>[.rw 8 _ _ av,.code 0 _ _ _ _ _ (lo B)]) (λ_=>k_)
end
section
open Go.Shelf
def aC1:Go.Shelf.Ren:=⟨λ| 6=>89|15=>114|14=>138|28=>170|29=>171|20=>191|21=>192|22=>193|23=>194|24=>195|25=>196|26=>197|27=>198|46=>223|47=>208|48=>209|49=>224|50=>225|57=>238|n=>n,λ| 22=>25|24=>42|25=>106|3=>3|39=>124|0=>0|53=>172|55=>118|4=>4|46=>166|45=>165|50=>159|5=>5|9=>9|66=>194|70=>198|76=>211|77=>212|n=>n,λ| n=>n⟩
theorem aOz:Go.Proofs.SlLaysF0.n6 prog aC1:={
 mixed:=by kernel_rfl
 f6:=⟨f89.name,by decide,func89.trans (b9 some k_)⟩
 f14:=⟨f138.name,by decide,func138.trans (b9 some k_)⟩
 f15:=func114.trans (b9 some k_)
 f20:=⟨f191.name,by decide,func191.trans (b9 some k_)⟩
 f21:=⟨f192.name,by decide,func192.trans (b9 some k_)⟩
 f22:=⟨f193.name,by decide,func193.trans (b9 some k_)⟩
 f23:=⟨f194.name,by decide,func194.trans (b9 some k_)⟩
 f24:=⟨f195.name,by decide,func195.trans (b9 some k_)⟩
 f25:=⟨f196.name,by decide,func196.trans (b9 some k_)⟩
 f26:=⟨f197.name,by decide,func197.trans (b9 some k_)⟩
 f27:=⟨f198.name,by decide,func198.trans (b9 some k_)⟩
 f28:=func170.trans (b9 some k_)
 f29:=func171.trans (b9 some k_)
 f46:=⟨f223.name,by decide,func223.trans (b9 some k_)⟩
 f47:=func208.trans (b9 some k_)
 f48:=func209.trans (b9 some k_)
 f49:=⟨f224.name,by decide,func224.trans (b9 some k_)⟩
 f50:=⟨f225.name,by decide,func225.trans (b9 some k_)⟩
 f57:=⟨f238.name,by decide,func238.trans (b9 some k_)⟩
 t0:=Tryz.underlying0
 a0:=isAgg0
 z0:=sizeOf0
 v0:=Tryz.zeroValue0
 t3:=Tryz.underlying3
 a3:=isAgg3
 z3:=sizeOf3
 v3:=Tryz.zeroValue3
 t4:=Tryz.underlying4
 a4:=isAgg4
 z4:=sizeOf4
 v4:=Tryz.zeroValue4
 t5:=Tryz.underlying5
 a5:=isAgg5
 z5:=sizeOf5
 v5:=Tryz.zeroValue5
 t9:=Tryz.underlying9
 a9:=isAgg9
 z9:=sizeOf9
 v9:=Tryz.zeroValue9
 t22:=Tryz.underlying25
 a22:=isAgg25
 z22:=sizeOf25
 v22:=Tryz.zeroValue25
 t25:=Tryz.underlying106
 a25:=isAgg106
 z25:=sizeOf106
 v25:=Tryz.zeroValue106
 t39:=Tryz.underlying124
 a39:=isAgg124
 z39:=sizeOf124
 v39:=Tryz.zeroValue124
 t45:=Tryz.underlying165
 a45:=isAgg165
 z45:=sizeOf165
 v45:=Tryz.zeroValue165
 t46:=Tryz.underlying166
 a46:=isAgg166
 z46:=sizeOf166
 v46:=Tryz.zeroValue166
 t50:=Tryz.underlying159
 a50:=isAgg159
 z50:=sizeOf159
 v50:=Tryz.zeroValue159
 t53:=Tryz.underlying172
 a53:=isAgg172
 z53:=sizeOf172
 v53:=Tryz.zeroValue172
 t55:=Tryz.underlying118
 a55:=isAgg118
 z55:=sizeOf118
 v55:=Tryz.zeroValue118
 t66:=Tryz.underlying194
 a66:=isAgg194
 z66:=sizeOf194
 v66:=Tryz.zeroValue194
 t70:=Tryz.underlying198
 a70:=isAgg198
 z70:=sizeOf198
 v70:=Tryz.zeroValue198
 t76:=Tryz.underlying211
 a76:=isAgg211
 z76:=sizeOf211
 v76:=Tryz.zeroValue211
 t77:=Tryz.underlying212
 a77:=isAgg212
 z77:=sizeOf212
 v77:=Tryz.zeroValue212 }
end
section
open CR OF
section
variable{F:Type}[OF F]
def rU(u v:V3 F):Bool:=decide (dQ u v≠1)
theorem Hv{u v:V3 F}:rU u v=true↔jr u v\/u=v:=by unfold rU jr;rw[qC,<-JR];rcases GY u v with h|h|h<;>rw[h]<;>decide
theorem aC2(u v w:V3 F)(h:rU u v=true)(k:rU v w=true):rU u w=true:=by
 rw[Hv]at *;rcases h with h|rfl
 ·rcases k with k|rfl
  ·exact .inl (JS h k)
  ·exact .inl h
 ·exact k
theorem aOA(u v:V3 F):(rU u v||rU v u)=true:=by
 rw[qV,Hv,Hv];rcases GY u v with h|h|h
 ·exact .inl (.inl h)
 ·exact .inl (.inr (JR.1 h))
 ·exact .inr (.inl (JT h))
theorem aOB{u v:V3 F}(h:rU u v=true)(k:rU v u=true):u=v:=by
 rw[Hv]at h k;rcases h with h|h
 ·rcases k with k|k
  ·exact absurd (NR h k) id
  ·exact k.symm
 ·exact h
def qL(l:List (V3 F)):List (V3 F):=l.mergeSort rU
theorem KC(l:List (V3 F)):(qL l).Perm l:=List.mergeSort_perm l rU
theorem aC3(l:List (V3 F)):(qL l).Pairwise λu v=>rU u v=true:=List.pairwise_mergeSort aC2 aOA l
theorem aOC{l d:List (V3 F)}(hp:d.Perm l)(hs:d.Pairwise λu v=>rU u v=true):d=qL l:=
 List.Perm.eq_of_pairwise (λ_ _ _ _=>aOB) hs (aC3 l) (hp.trans (KC l).symm)
theorem aC4{α:Type}[DecidableEq α]:∀(a:α) (l:List α),∃ m,dd (a::l)=a::m
 |a,[]=>⟨[],rfl⟩
 |a,b::l=>by
  rw[Kz];by_cases h:a=b
  ·subst h;rw[aq rfl];exact aC4 a l
  ·rw[al h];exact⟨_,rfl⟩
theorem aC5[DecidableEq (V3 F)]:∀{l:List (V3 F)},(l.Pairwise λu v=>rU u v=true)->(dd l).Pairwise jr
 |[],_=>aAX
 |[a],_=>aAB ..
 |a::b::l,h=>by
  have h':=(rJ.1 h).2;have ih:=aC5 h';rw[Kz];by_cases bX:a=b
  ·rw[aq bX];exact ih
  ·rw[al bX];refine rJ.2 ⟨λx hx=>?_,ih⟩;have av:jr a b:=(Hv.1 ((rJ.1 h).1 b (aN ..))).resolve_right bX;obtain⟨m,hm⟩:=aC4 b l;rw[hm]at hx ih;rcases ch.1 hx with rfl|hx
   ·exact av
   ·exact JS av ((rJ.1 ih).1 x hx)
theorem aC6[DecidableEq (V3 F)](l:List (V3 F)):dd (qL l)=JU l:=
 TN (aC5 (aC3 l)) (TP l) λx=>by rw[aCS,TO,(KC l).mem_iff]
end
end
section
open V3 (dot aw cV smul)
open Go.Sort (SWO)
theorem aOD{q:HS K}(bT:∀ p∈ps,bA m p)(hp:bA m p)(hq:bA m q)(kX:dS p q≠0->dot (dS p q) (dS p q)≠0):∀ v∈qG ps p q,aF (10000*(m+10)) v:=by
 intro v hv;unfold qG EI at hv;have hD:=T5 hp hq;by_cases h0:dS p q=0
 ·rw[aq h0]at hv;cases hv
 ·rw[al h0]at hv;obtain⟨r,hr⟩:∃ r,r=300*m+1000:=⟨_,rfl⟩;have hB:aF r (u7 p q):=hr▸aBb hp hq h0 (kX h0);have EK:aF r (dS p q):=hD.mono o_;obtain⟨zl,zh⟩:=N6 (m:=m) (q:=r) (z:=24*(m+r)+m+200) hB EK o_ ps ⟨none,none⟩ bT n_ n_;have key:∀ t,Sz (24*(m+r)+m+200) t->aF (10000*(m+10)) (u7 p q+smul (dS p q) t):=λt ht=>(hB.add (EK.smul ht)).mono o_;unfold J2 at hv;split at hv
  ·rename_i x y he;split at he
   ·split at he
    ·rename_i l h e1 e2;injection he with he;injection he with f1 f2;subst f1;subst f2;simp only[ch,fF,fG]at hv;rcases hv with rfl|rfl
     ·exact key _ (zl _ e1)
     ·exact key _ (zh _ e2)
    ·cases he
   ·cases he
  ·cases hv
theorem aC7(bT:∀ p∈ps,bA m p)(kX:∀ p q:HS K,dS p q≠0->dot (dS p q) (dS p q)≠0)(n:Nat):∀ v∈ml ps n,aF (10000*(m+10)) v:=by
 intro v hv;unfold ml at hv;rw[CF]at hv;obtain⟨i,_,hv⟩:=hv;unfold J7 at hv;split at hv
 ·rename_i p hp;unfold kK at hv;rw[CF]at hv;obtain⟨q,hq,hv⟩:=hv;exact aOD bT (bT p (cL hp)) (bT q (EJ hq)) (kX p q) v hv
 ·cases hv
structure VS(m:Nat) where
 v:V3 K
 sz:aF m v
theorem VS.ext'{m:Nat}{a b:VS m}(h:a.v=b.v):a=b:=by cases a;cases b;cases h;rfl
def O1(v:VS m):ak:=(cO v.v).cs
theorem Vg:pK (O1 (m:=m)) 30:=⟨λ_=>iR.len _,λ_=>iR.flat _,λ_=>iR.one _⟩
theorem Vh(h:1<=m):aF m (⟨kI 0,kI 0,kI 0⟩:V3 K):=JV.mono h
def KD(u v:VS m):Bool:=Go.Proofs.ltOf (λa b:VS m=>dQ a.v b.v) u v
theorem Vi{u v:VS m}:KD u v=true↔jr u.v v.v:=by show decide (dQ u.v v.v<0)=true↔dQ u.v v.v=-1;rw[qC];rcases GY u.v v.v with h|h|h<;>rw[h]<;>decide
theorem aC8{u v:VS m}:KD u v=false↔rU v.v u.v=true:=by
 rw[EZ,ne_eq,Vi,Hv];rcases GY u.v v.v with h|h|h
 ·exact⟨λk=>absurd h k,λk _=>by
   rcases k with k|k
   ·exact NR h k
   ·rw[k]at h;exact CC _ h⟩
 ·have:=JR.1 h;exact⟨λ_=>.inr this.symm,λ_ k=>by rw[this]at k;exact CC _ k⟩
 ·exact⟨λ_=>.inl (JT h),λ_ k=>NR k (JT h)⟩
theorem aOE:SWO (KD (m:=m)) where
 irrefl x:=by rw[EZ,ne_eq,Vi];exact CC _
 trans x y z h k:=by rw[Vi]at *;exact JS h k
 ntrans x y z h k:=by rw[aC8]at *;exact aC2 _ _ _ k h
theorem aC9(h:fN prog f=true):∀ args w,(callFunc f args).run prog w=.ok (.enter f args) w:=λargs w=>Lp h args w
def Hw:Value:=.func (.func 90) #[] #[]
theorem aOF(cP:1<=m)(hm:8*m+24<=az)(l:List (VS m))(h63:l.length<4611686018427387904):
  letI:Inhabited (VS m):=⟨⟨_,Vh cP⟩⟩
  Ue prog 89 Hw O1 30 KD l:=by
 letI:Inhabited (VS m):=⟨⟨_,Vh cP⟩⟩
 intro aH cap w hH hblk
 have:=aOG (P:=prog) (ρ:=aC1) aOz 30 isAgg42 sizeOf42 (O1 (m:=m)) Vg.len Vg.one (λa b=>dQ a.v b.v) aOE 90 #[] aH 0 cap l.toArray w
  (aC9 k_) (aBw (λx y=>TR x.sz y.sz o_) aH _ _ w) hH hblk (by simpa using h63)
 have e:l.toArray.size=l.length:=by simp
 rw[e]at this;exact this
theorem aOH:aB prog 191 [.slice none 0 0,vI 0,vI 0,Hw] (.tuple #[]):=aV func191 (λ_=>[])
theorem aOI:aB prog 138 [.slice none 0 0,vI 0,vI 0,vI 0,Hw] (.tuple #[]):=aV func138 (λ_=>[aOH.at 30])
theorem aOJ:aB prog 171 [.int .u64 0] (vI 0):=aV func171 (λ_=>[])
theorem aOK:aB prog 114 [.int .u64 0] (vI 0):=aV func114 (λ_=>[aOJ.at 7])
theorem aOL:aB prog 89 [.slice none 0 0,Hw] (.tuple #[]):=aV func89 (λ_=>[aOK.at 11,aOI.at 13])
theorem aOM{l:e_}(cP:1<=m)(hm:8*m+24<=az)(hl:∀ v∈l,aF m v)(h63:l.length<4611686018427387904)(ho:da o.op=some x)(k:Nat):
  ct prog Bs o [.func (.func 89) #[] #[],sl k l.length,Hw] [(k,some (.row (aW l) 42 30))] (.tuple #[]) [(k,.row (aW (qL l)) 42 30)]:=by
 letI:Inhabited (VS m):=⟨⟨_,Vh cP⟩⟩
 have hex:∀ l:e_,(∀ v∈l,aF m v)->∃ l2:List (VS m),l2.map VS.v=l:=by
  intro l;induction l with
  |nil=>exact λ_=>⟨[],rfl⟩
  |cons a l ih=>
   intro h;obtain⟨l2,h2⟩:=ih λv hv=>h v (bB _ hv);exact⟨⟨a,h a (aN ..)⟩::l2,by rw[qc,h2]⟩
 obtain⟨l2,h2⟩:=hex l hl;obtain⟨l3,h3⟩:=hex (qL l) λv hv=>hl v ((KC l).mem_iff.1 hv);have TD:∀ a b:VS m,a.v=b.v->a=b:=λa b h=>VS.ext' h;have iW:∀ l2:List (VS m),cr O1 l2=aW (l2.map VS.v):=by intro l2;unfold aW dj cr;rw[List.map_map,List.flatMap_map];rfl
 have hlen:l2.length=l.length:=by rw[<-h2,gF]
 have:=aBy (P:=prog) (B:=Bs) (l:=l2) (l':=l3) (o:=o) (x:=x) (ty:=42) (lt:=KD) (g:=Hw) Vg d_ (aOF cP hm l2 o_) k_ ho k_ k (λ_=>aOL) λd hd hs=>by
  have aON:∀ a b:List (VS m),a.map VS.v=b.map VS.v->a=b:=by intro a b h;exact List.map_inj_right (λx y=>TD x y) |>.1 h
  refine aON _ _ ?_;rw[h3];refine aOC ?_ ?_
  ·rw[<-h2];exact hd.map _
  ·rw[List.pairwise_map,O2];intro i j hi hj nJ;have:=hs i j nJ hj _ _ (bd hi) (bd hj);exact aC8.1 this
 rw[iW,iW,h2,h3,hlen]at this;exact this
theorem Vj(hm:10000000*(m+10)<=az):1<=10000*(m+10)/\8*(10000*(m+10))+24<=az/\10000*(m+10)<=az:=by omega
def cD(ps:c_):e_:=JU (ml ps ps.length)
theorem aDa(l:e_):dd (l.map cO)=(dd l).map cO:=aCX (λ_ _ h=>NT h) l
theorem aOO(bT:∀ p∈ps,bA m p)(hm:10000000*(m+10)<=az)(h63:ps.length<=500)(kX:∀ p q:HS K,dS p q≠0->dot (dS p q) (dS p q)≠0):
  ko prog 46 [ee ps] 42 30 (cD ps).length (aW (cD ps)):=by
 have ax:([ee ps].all aJ.ok)=true:=by simp only[fp,gm,ee,aJ.ok,dF,ja]
 have bE:=aC7 bT kX ps.length;have hl:=Ob ps.length (aZ _) (ps:=ps);have kO:ps.length*(2*ps.length)<=500*1000:=BS o_ o_;have kL:(ml ps ps.length).length<=500000:=c9 hl kO;clear hl kO;have lo:=λBs=>aLg (Bs:=Bs) bT hm h63 kX;have hv:cD ps=dd (qL (ml ps ps.length)):=(aC6 _).symm;rw[hv];generalize ml ps ps.length=l at *;obtain⟨b1,b2,b3⟩:=Vj hm;have st:=λBs (o:Oper) x ho=>aOM (Bs:=Bs) (o:=o) (x:=x) (l:=l) (m:=10000*(m+10)) b1 b2 bE (eP kL d_) ho 1;have hp:=KC l;have Kr:(qL l).length=l.length:=hp.length_eq;have dC:=aOx (l:=(qL l).map cO) (λx hx=>by obtain⟨v,hv,rfl⟩:=dq.1 hx;exact(bE v (hp.mem_iff.1 hv)).sm b3) (by rw[gF,Kr];exact eP kL d_)
 rw[gF,Kr,aDa,gF]at dC;have hz:∃ t,dj (Hu ((qL l).map cO))=aW (dd (qL l))++dj t:=⟨_,by unfold Hu;rw[aDa];exact JY _ _⟩;obtain⟨t,hz⟩:=hz;unfold kM at dC;rw[hz]at dC;change yD prog _ 2 _ [(1,.row (aW (qL l)) 42 30)] _ _ _ at dC;have hlen:(aW (dd (qL l))).length=(dd (qL l)).length*30:=sQ _;generalize dd (qL l)=d at *;generalize hS:qL l=s at *;intro w vs cB;obtain⟨ι,c,h1,h2,h3,h4,h5,h6,h7⟩:=wL cB (aX.1 ax) 0 _ _ (sj w) n_ (λ_ _=>rfl);refine tA (ms:=[(1,.row (aW d++dj t) 42 30)]) (v:=sl 1 d.length) mixed func46 (N:=42) k_ 100 (rs:=[.code 0 _ _ _ _ _ (lo _),.step 39 (au Tryz.f46 39) _ _ _ _ (st _ _ (.func 89) k_),.step 41 (au Tryz.f46 41) _ _ _ _ (NW (args:=[sl 1 l.length]) (ca:=[]) (x:=.func 91) dC k_ k_ k_ k_ ?_ ?_ k_ k_ k_ k_)]) k_ h6 h2 h4 h3 λao bP v' w' hle hc hm dD=>⟨v',rfl,?_,hm.base⟩
 ·show((Nat.blt 1 2&&lF 2 (1,.row (aW s) 42 30))&&true)=true;rw[yH (x:=.row (aW s) 42 30) λv hv=>aX.1 (eH s) v hv];rfl
 ·show(lF 2 (1,.row (aW d++dj t) 42 30)&&true)=true;rw[yH (x:=.row (aW d++dj t) 42 30) λv hv=>(fm.1 hv).elim (λh=>aX.1 (eH d) v h) λh=>G2 iR t v h];rfl
 ·have:=uJ hm (dD (1,_) (aN ..)) hc (by rw[jW];omega) λv hv=>by
   rcases fm.1 hv with h|h
   ·exact aX.1 (eH d) v h
   ·exact G2 iR t v h
  rwa[<-hlen,P1]at this;rfl
end
section
open V3 (dot aw cV smul)
theorem KE(l:l_):∀ v∈aj l,v.oneCell'=true:=λv hv=>by obtain⟨x,_,rfl⟩:=dq.1 hv;rfl
theorem aOP(l m:l_):aj l++aj m=aj (l++m):=by simp[aj]
theorem O3{l:l_}(h:l.length=0):aj l=[]:=by rw[j9 h];rfl
def E6(l:l_):aJ:=.r l.length (aj l)
theorem Vk(l:l_):(E6 l).ok=true:=gQ l
theorem aOQ{l:l_}(hl:0<l.length)(h63:l.length<=1000000):ko prog 146 [E6 l] 3 1 l.length (aj l):=
 yu (k:=2) mixed func146 (by simp only[fp,gm,Vk,ja]) 100 (N:=8) k_ (λ_=>[.step 4 (au f146 4) [sl 0 l.length,.slice none 0 0] [] a_ [] (aBs k_ hl),.Kd f146 5 1 3 1 (vI 0) k_,.pr f146 7 2 1 0 l.length l.length 3 1 8 [] 0 (.view (aj l)) (aj l) o_ rfl (by rw[fY];exact mU l) rfl rfl (KE l) d_ (by simp[maxLen];omega) o_ k_]) (λ_=>k_) (gQ l) (by rw[mU];omega)
theorem C7(ps:c_):(bw ps).length=ps.length*40:=by unfold bw;rw[rL iD,gF]
theorem aDb(ps:c_):∀ v∈bw ps,v.oneCell'=true:=λv hv=>by unfold bw db cr at hv;rw[CF]at hv;obtain⟨x,_,hx⟩:=hv;exact iD.one x v hx
theorem aOR(hl:0<ps.length)(h63:ps.length<=1000000):ko prog 48 [ee ps] 66 40 ps.length (bw ps):=
 yu (k:=2) mixed func48 (by simp only[fp,gm,ee,aJ.ok,dF,ja]) 100 (N:=8) k_ (λ_=>[.step 4 (au Tryz.f48 4) [sl 0 ps.length,.slice none 0 0] [] a_ [] (aBs k_ hl),.Kd Tryz.f48 5 1 66 40 (RP.v ⟨rT,Ht⟩) k_,.pr Tryz.f48 7 2 1 0 ps.length ps.length 66 40 480 [] 0 (.view (bw ps)) (bw ps) o_ rfl (C7 ps) rfl rfl (aDb ps) d_ (by simp[maxLen];omega) o_ k_]) (λ_=>k_) (dF ps) (C7 ps)
def mW(l:l_)(i:Nat):List Nat:=(List.range l.length).map λt=>if t<i\/l.length<=t+i then l.getD (l.length-1-t) 0 else l.getD t 0
theorem Vl(l:l_)(i:Nat):(mW l i).length=l.length:=by simp[mW]
theorem aOS(l:l_):mW l 0=l:=by
 apply vT
 ·simp[mW]
 ·intro t h1 h2;have:¬(l.length<=t):=by omega
  simp[mW,this,h2]
theorem aDc{l:l_}{t:Nat}(h1:i<=t)(h2:t+i<l.length):(mW l i)[t]?=some (l.getD t 0):=by
 have:¬(t<i\/l.length<=t+i):=by omega
 simp[mW,show t<l.length by omega,this]
theorem aOT{l:l_}(h:i+(i+1)<l.length):((mW l i).set i (l.getD (l.length-1-i) 0)).set (l.length-1-i) (l.getD i 0)=mW l (i+1):=by
 apply vT
 ·simp[mW]
 ·intro t h1 h2;rw[Vl]at h2;rw[FJ,FJ];simp only[mW,BF,BG];by_cases e1:l.length-1-i=t
  ·subst e1;rw[aq rfl,aq o_]
   congr 1;omega
  ·rw[al e1];by_cases e2:i=t
   ·subst e2;rw[aq rfl,aq o_]
   ·rw[al e2];by_cases e3:t<i\/l.length<=t+i
    ·rw[aq e3,aq o_]
    ·rw[al e3,al o_]
theorem aOU{l:l_}(h:l.length<=i+(i+1))(h2:i+i<=l.length):mW l i=l.reverse:=by
 apply vT
 ·simp[mW]
 ·intro t h1 h3;rw[Vl]at h1;rw[List.getElem_reverse];simp only[mW,BF,BG];split
  ·rw[Dw,bd o_];rfl
  ·have:t=l.length-1-t:=by omega
   rw[Dw,bd o_];simp only[Option.getD_some]
   congr 1
section
variable{Bs:ae}{l:l_}
def O4(n i:Nat):aL:=[(2,vI i),(3,vI (n-1-i)),(0,sl 5 n)]
def xl(l:l_):aC:=[(5,.row (aj l) 3 1)]
theorem aOV{n:Nat}(hn:l.length=n)(hi:i+(i+1)<n)(h63:n<4611686018427387904):
  ag prog Bs 28 (aE (af f147 0)) (O4 n i) (xl (mW l i)) 6 ⟨.normal,O4 n (i+1),xl (mW l (i+1)),6⟩:=by
 have g1:=aDc (l:=l) (i:=i) (t:=n-1-i) o_ o_;have g2:=aDc (l:=l) (i:=i) (t:=i) o_ o_;have hlen:=Vl l i;have uG:=aOT (l:=l) (i:=i) o_;rw[hn]at uG hlen;generalize l.getD (n-1-i) 0=y at *;generalize l.getD i 0=x at *;generalize mW l i=r at *;rw[<-uG];have s1:=vh (l:=r) (i:=i) (d:=y) o_;have s2:=vh (l:=r.set i y) (i:=n-1-i) (d:=x) (by rw[UF];omega);exact ay [.lt 9 i (n-1-i) true (by simp;omega),.ix f147 20 5 n (n-1-i) o_ k_,.ld f147 21 3 5 (n-1-i) (.row (aj r) 3 1) (vI y) rfl (dJ g1) k_,.ix f147 24 5 n i o_ k_,.ld f147 25 3 5 i (.row (aj r) 3 1) (vI x) rfl (dJ g2) k_,.ix f147 26 5 n i o_ k_,.st f147 100026 3 5 i (.row (aj r) 3 1) (vI y) (.row (aj (r.set i y)) 3 1) rfl s1 rfl k_,.ix f147 27 5 n (n-1-i) o_ k_,.st f147 100027 3 5 (n-1-i) (.row (aj (r.set i y)) 3 1) (vI x) (.row (aj ((r.set i y).set (n-1-i) x)) 3 1) rfl s2 rfl k_,.sum 11 i 1 (i+1) rfl o_,.eO 13 (n-1-i) 1 (n-1-(i+1)) o_ o_]
theorem aOW{n:Nat}(hn:l.length=n)(h0:0<n)(h63:n<4611686018427387904):
  ag prog Bs 28 (.block 0 (af f147 0)) (O4 n 0) (xl l) 6 ⟨.normal,[],xl l.reverse,6⟩:=by
 have tS:l.reverse=mW l (n/2):=(aOU o_ o_).symm
 have:=cg (P:=prog) (B:=Bs) (N:=28) (b:=aE (af f147 0)) (next:=6) (n/2) (λi=>O4 n i) (λi=>xl (mW l i)) (r:=⟨.exit 0,[],xl l.reverse,6⟩) (λi k _=>jx (l:=xl (mW l i)) (m:=xl (mW l 0)) rfl k)
  (λi hi=>aOV hn o_ h63)
  (by rw[<-tS];generalize l.reverse=r;exact ay [.lt 9 (n/2) (n-1-n/2) false (by simp;omega)]) n_
 rw[aOS]at this;exact bO (id:=0) this
theorem aOX{l:l_}(h0:0<l.length)(h63:l.length<=1000000):yD prog 147 6 [sl 5 l.length] (xl l) [] (.tuple #[]) (xl l.reverse):=
 oh mixed func147 100 (N:=28) k_ (λB=>[.eO 6 l.length 1 (l.length-1) o_ o_,.code 0 _ _ _ _ _ (aOW rfl h0 o_)]) (λ_=>k_)
end
theorem Vm(ps:c_):(ee ps).ok=true:=dF ps
theorem aDd(vs:e_):(tZ vs).ok=true:=eH vs
theorem aOY(vs:e_):(aJ.b vs.length (aW vs)).ok=true:=eH vs
theorem aOZ(v:V3 K):(aJ.q (cO v).cs).ok=true:=aX.2 (RV.mN _)
theorem aO0(v:V3 K):(aJ.p (bN v)).ok=true:=rfl
theorem aSW(p:HS K):(aJ.p (dr p)).ok=true:=rfl
def aR(vs:e_)(i:Nat):V3 K:=(vs[i]?).getD 0
theorem k8{vs:e_}(h:i<vs.length):vs[i]?=some (aR vs i):=by unfold aR;rw[bd h];rfl
theorem aDe{x:K}:0<x↔OF.aA x>0:=by rw[OF.iC];rcases OF.iB x with h|h|h<;>rw[h]<;>decide
def xm(n:V3 K)(pt:Nat->V3 K)(p:Nat):List Nat->Nat
 |b::a::st=>if 0<turn n (pt a) (pt b) (pt p)then 0 else xm n pt p (a::st)+1
 |_=>0
theorem O5(n:V3 K)(pt:Nat->V3 K)(p:Nat):∀ st:List Nat,pop n pt p st=st.drop (xm n pt p st)
 |[]=>rfl
 |[a]=>rfl
 |b::a::st=>by
  unfold pop xm;split
  ·rfl
  ·exact O5 n pt p (a::st)
theorem aDf(n:V3 K)(pt:Nat->V3 K)(p:Nat):∀(st:l_) (d:Nat),d<xm n pt p st->∃ b a eT,st.drop d=b::a::eT/\¬0<turn n (pt a) (pt b) (pt p)
 |[],d,h=>by simp[xm]at h
 |[a],d,h=>by simp[xm]at h
 |b::a::st,d,h=>by
  unfold xm at h;split at h
  ·omega
  ·rename_i ht;cases d with
   |zero=>exact⟨b,a,st,rfl,ht⟩
   |succ d=>exact aDf n pt p (a::st) d o_
theorem aDg(n:V3 K)(pt:Nat->V3 K)(p:Nat):∀(st:l_),(∃ b a eT,st.drop (xm n pt p st)=b::a::eT/\0<turn n (pt a) (pt b) (pt p))\/(st.drop (xm n pt p st)).length<=1
 |[]=>.inr (kB _)
 |[a]=>.inr (aZ _)
 |b::a::st=>by
  unfold xm;split
  ·rename_i ht;exact .inl ⟨b,a,st,rfl,ht⟩
  ·exact aDg n pt p (a::st)
section
variable{Bs:ae}{vs:e_}{nn:V3 K}{l:l_}
def om(l:l_)(vs:e_)(nn:V3 K):aC:=[(0,.view (aj l)),(1,.view (aW vs)),(2,.view [sl 1 vs.length]),(3,.view (cO nn).cs)]
def k9(st:l_):List Obj:=[.row (aj st.reverse) 3 1]
def C8(p L:Nat):aL:=[(7,vI p),(5,sl 4 L),(1,bY 2),(2,bY 3)]
def O6(n i L:Nat):aL:=[(12,vI i),(10,sl 0 n),(11,vI n),(5,sl 4 L),(1,bY 2),(2,bY 3)]
theorem aDh(hm:4<=m):∀ x∈om l vs nn,fW m x.2:=λx hx=>by
 simp only[om,ch,fF,fG]at hx;rcases hx with rfl|rfl|rfl|rfl
 ·exact λv hv=>iM (lJ l v hv)
 ·exact λv hv=>iM (aX.1 (eH vs) v hv)
 ·intro v hv;have:v=sl 1 vs.length:=by simpa[Obj.cells]using hv
  subst this;show FE m ⟨1,0,some 7⟩=true;unfold FE;simp;omega
 ·exact λv hv=>iM (RV.mN _ v hv)
theorem aO1{st:l_}:∀ x∈k9 st,fW m x:=λx hx=>by simp only[k9,ch,fF,fG]at hx;subst hx;exact λv hv=>iM (lJ _ v hv)
theorem aDi(hm:5<=m){st:l_}:∀ x∈om l vs nn++marks 4 (k9 st),fW m x.2:=λx hx=>by
 rcases fm.1 hx with h|h
 ·exact aDh o_ x h
 ·simp only[k9,marks,ch,fF,fG]at h;subst h;exact λv hv=>iM (lJ _ v hv)
noncomputable def hiS{p L:Nat}{r:l_}(hL:r.length=L+2)(ha:r[L]?=some a)(hb:r[L+1]?=some b)(ku:a<vs.length)(kG:b<vs.length)(qM:p<vs.length)(aK:∀ v∈vs,aF q v)(hn:aF m nn)(hm:100*(m+q)+1000<=az)(h63:L<1000000)
  (ht:decide (OF.aA (turn nn (aR vs a) (aR vs b) (aR vs p))>0)=t) (more:bK prog Bs 66):bK prog Bs 66:=
 have sa:=aK _ (cL (k8 ku));have sb:=aK _ (cL (k8 kG));have sp:=aK _ (cL (k8 qM))
 .gt 18 (L+2) 1 true s_::.eO 23 (L+2) 2 L rfl o_::.ix f145 24 4 (L+2) L o_ k_::.ld f145 25 3 4 L (.row (aj r) 3 1) (vI a) rfl (dJ ha) k_::
  .de f145 26 1 vs.length a 30 ku k_::.ld f145 27 42 1 (a*30) (.view (aW vs)) (bN (aR vs a)) rfl (nC (k8 ku)) k_::.eO 32 (L+2) 1 (L+1) rfl o_::.ix f145 33 4 (L+2) (L+1) o_ k_::
  .ld f145 34 3 4 (L+1) (.row (aj r) 3 1) (vI b) rfl (dJ hb) k_::.de f145 35 1 vs.length b 30 kG k_::.ld f145 36 42 1 (b*30) (.view (aW vs)) (bN (aR vs b)) rfl (nC (k8 kG)) k_::
  (AO sb sa o_).at 40::.de f145 43 1 vs.length p 30 qM k_::.ld f145 44 42 1 (p*30) (.view (aW vs)) (bN (aR vs p)) rfl (nC (k8 qM)) k_::(AO sp sa o_).at 46::
  (uZ (sb.sub sa) (sp.sub sa) o_).at 47::(tX hn ((sb.sub sa).aw (sp.sub sa)) o_).at 48::(mO (hn.dot ((sb.sub sa).aw (sp.sub sa))) o_).at 49::
  .rw 50 (.bool (decide (OF.aA (dot nn (aw (aR vs b-aR vs a) (aR vs p-aR vs a)))>0))) (.bool t) (by rw[<-ht];rfl)::more
theorem aDj{st eT:l_}(h:st=b::a::eT):st.reverse.length=eT.length+2/\st.reverse[eT.length]?=some a/\st.reverse[eT.length+1]?=some b/\st.reverse.take (eT.length+1)=(a::eT).reverse:=by
 subst h;have e:(b::a::eT).reverse=eT.reverse++[a,b]:=by simp
 rw[e];refine⟨by simp,?_,?_,?_⟩
 ·rw[Dx s_];simp
 ·rw[Dx s_];simp
 ·rw[aA2];simp[jN]
theorem aDk(l:l_)(m:Nat):(aj l).take (m*1)=aj (l.take m):=by rw[fY];simp[aj,BE]
theorem aO2{st eT:l_}{p:Nat}(bH:st=b::a::eT)(aU:∀ x∈st,x<vs.length)(qM:p<vs.length)(aK:∀ v∈vs,aF q v)(hn:aF m nn)(hm:100*(m+q)+1000<=az)(h63:st.length<1000000)
  (ht:¬0<turn nn (aR vs a) (aR vs b) (aR vs p)):ag prog Bs 66 (aE (af f145 2)) (C8 p st.length) (om l vs nn++marks 4 (k9 st)) 5 ⟨.normal,C8 p (a::eT).length,om l vs nn++marks 4 (k9 (a::eT)),5⟩:=by
 obtain⟨r1,r2,r3,r4⟩:=aDj bH;have ku:=aU a (by rw[bH];simp);have kG:=aU b (by rw[bH];simp);have hl:st.length=eT.length+2:=by rw[bH];rfl
 have hd:decide (OF.aA (turn nn (aR vs a) (aR vs b) (aR vs p))>0)=false:=aQ λh=>ht (aDe.2 h);have E0:(aj st.reverse).take ((eT.length+1)*1)=aj (a::eT).reverse:=by rw[aDk,r4]
 have di:=aDi (l:=l) (vs:=vs) (nn:=nn) (m:=5) (aZ _) (st:=a::eT);unfold k9 at *;rw[hl]at h63 ⊢;rw[show(a::eT).length=eT.length+1 from rfl];generalize st.reverse=r at *;generalize (a::eT).reverse=r' at *;exact vP mixed 100 (gg:=7) (hiS r1 r2 r3 ku kG qM aK hn hm o_ hd [.eO 54 (eT.length+2) 1 (eT.length+1) rfl o_,.cut f145 55 4 (eT.length+2) (eT.length+1) ((eT.length+1)*1) 1 1 3 (aj r) (aj r') o_ E0 k_]) k_ rfl k_ di k_
theorem aO3{st:l_}{p:Nat}(aU:∀ x∈st,x<vs.length)(qM:p<vs.length)(aK:∀ v∈vs,aF q v)(hn:aF m nn)(hm:100*(m+q)+1000<=az)(h63:st.length<1000000)
  (h:(∃ b a eT,st=b::a::eT/\0<turn nn (aR vs a) (aR vs b) (aR vs p))\/st.length<=1):ag prog Bs 66 (aE (af f145 2)) (C8 p st.length) (om l vs nn++marks 4 (k9 st)) 5 ⟨.exit 2,C8 p st.length,om l vs nn++marks 4 (k9 st),5⟩:=by
 have di:=aDi (l:=l) (vs:=vs) (nn:=nn) (m:=5) (aZ _) (st:=st);rcases h with ⟨b,a,eT,bH,ht⟩|h
 ·obtain⟨r1,r2,r3,r4⟩:=aDj bH;have ku:=aU a (by rw[bH];simp);have kG:=aU b (by rw[bH];simp);have hl:st.length=eT.length+2:=by rw[bH];rfl
  have hd:decide (OF.aA (turn nn (aR vs a) (aR vs b) (aR vs p))>0)=true:=aD (aDe.1 ht);unfold k9 at *;rw[hl]at h63 ⊢;generalize st.reverse=r at *;exact vP mixed 100 (gg:=7) (hiS r1 r2 r3 ku kG qM aK hn hm o_ hd []) k_ rfl k_ di k_
 ·exact ay [.gt 18 st.length 1 false (by simp;omega)]
theorem aDl{st:l_}{n:Nat}(h:∀ x∈st,x<n):∀ x∈st.drop d,x<n:=λx hx=>h x (Vn hx)
theorem aO4{st:l_}{p:Nat}(aU:∀ x∈st,x<vs.length)(qM:p<vs.length)(aK:∀ v∈vs,aF q v)(hn:aF m nn)(hm:100*(m+q)+1000<=az)(h63:st.length<1000000):
  ag prog Bs 66 (.block 2 (af f145 2)) (C8 p st.length) (om l vs nn++marks 4 (k9 st)) 5 ⟨.normal,C8 p (pop nn (aR vs) p st).length,om l vs nn++marks 4 (k9 (pop nn (aR vs) p st)),5⟩:=by
 have hlen:∀ d,(st.drop d).length<1000000:=λd=>by rw[uD];omega
 have:=cg (P:=prog) (B:=Bs) (N:=66) (b:=aE (af f145 2)) (next:=5) (xm nn (aR vs) p st) (λd=>C8 p (st.drop d).length) (λd=>om l vs nn++marks 4 (k9 (st.drop d)))
  (r:=⟨.exit 2,C8 p (pop nn (aR vs) p st).length,om l vs nn++marks 4 (k9 (pop nn (aR vs) p st)),5⟩) (λi k _=>jx (l:=om l vs nn++marks 4 (k9 (st.drop i))) (m:=om l vs nn++marks 4 (k9 (st.drop 0))) rfl k)
  (λd hd=>by
   obtain⟨b,a,eT,h1,h2⟩:=aDf nn (aR vs) p st d hd;have h3:st.drop (d+1)=a::eT:=by rw[<-L6,h1];rfl
   rw[h3];exact aO2 h1 (aDl aU) qM aK hn hm (hlen d) h2)
  (by rw[O5];exact aO3 (aDl aU) qM aK hn hm (hlen _) (aDg nn (aR vs) p st)) n_
 exact bO (id:=2) this
def bH(nn:V3 K)(vs:e_)(l:l_)(i:Nat):List Nat:=half nn (aR vs) (l.take i)
theorem aDm{p:Nat}(h:l[i]?=some p):bH nn vs l (i+1)=p::pop nn (aR vs) p (bH nn vs l i):=by unfold bH half;rw[ua,h,Option.toList,aBf];rfl
theorem aO5(n:V3 K)(pt:Nat->V3 K)(p:Nat)(st:l_):∀ x∈pop n pt p st,x∈st:=λx hx=>by rw[O5]at hx;exact Vn hx
theorem aDn(n:V3 K)(pt:Nat->V3 K)(p:Nat)(st:l_):(pop n pt p st).length<=st.length:=by rw[O5,uD];omega
theorem KF:∀ i,i<=l.length->(∀ x∈bH nn vs l i,x∈l)/\(bH nn vs l i).length<=i
 |0,_=>⟨λx hx=>by simp[bH,half]at hx,aZ _⟩
 |i+1,h=>by
  obtain⟨h1,h2⟩:=KF i o_;have hp:l[i]?=some l[i]:=bd o_;rw[aDm hp];refine⟨λx hx=>?_,?_⟩
  ·rcases ch.1 hx with rfl|hx
   ·exact eh o_
   ·exact h1 x (aO5 _ _ _ _ x hx)
  ·have:=aDn nn (aR vs) l[i] (bH nn vs l i);rw[pU];omega
theorem aO6{p:Nat}{st:l_}(hi:i<l.length)(hp:l[i]?=some p)(aU:∀ x∈st,x<vs.length)(qM:p<vs.length)(aK:∀ v∈vs,aF q v)(hn:aF m nn)(hm:100*(m+q)+1000<=az)(h63:st.length<900000)(ui:l.length<1000000):
  ag prog Bs 66 (aE (af f145 0)) (O6 l.length i st.length) (om l vs nn++marks 4 (k9 st)) 5
   ⟨.normal,eY 4 [some 6] (O6 l.length (i+1) (p::pop nn (aR vs) p st).length),om l vs nn++dc [some 6] (k9 (p::pop nn (aR vs) p st)),7⟩:=by
 have lo:=aO4 (Bs:=Bs) (l:=l) aU qM aK hn hm (show st.length<1000000 by omega);have Kr:=aDn nn (aR vs) p st;generalize pop nn (aR vs) p st=r at *;have hr:aj r.reverse++[vI p]=aj (p::r).reverse:=by simp[aj]
 have C9:(aj r.reverse).length=r.length*1:=by rw[mU,E7,fY]
 have h1:=KE r.reverse;unfold k9 at *;rw[show(p::r).length=r.length+1 from rfl];generalize st.reverse=s0 at *;generalize aj r.reverse=c0 at *;generalize aj (p::r).reverse=c1 at *;exact ay [.lt 13 i l.length true (aD hi),.ix f145 14 0 l.length i hi k_,.ld f145 15 3 0 i (.view (aj l)) (vI p) rfl (dJ hp) k_,.code 2 _ _ _ _ _ lo,.bs f145 58 5 1 3 1 [0] (vI 0) [vI p] #[vI p] (.row [vI p] 3 1) rfl (λv hv=>by simp at hv;subst hv;rfl) (λv hv=>by simp at hv;subst hv;rfl) k_ rfl d_ d_ k_,.pr f145 59 6 4 r.length 1 (r.length+1) 3 1 8 c0 5 (.row [vI p] 3 1) c1 rfl rfl rfl C9 hr (λv hv=>by simp[Obj.cells]at hv;subst hv;rfl) d_ (by simp[maxLen];omega) o_ k_,.sum 60 i 1 (i+1) rfl o_]
theorem aO7(aU:∀ x∈l,x<vs.length)(aK:∀ v∈vs,aF q v)(hn:aF m nn)(hm:100*(m+q)+1000<=az)(h63:l.length<900000):
  ag prog Bs 66 (.block 0 (af f145 0)) (eY 4 [none] (O6 l.length 0 0)) (om l vs nn++dc [none] (k9 [])) 4 ⟨.normal,[(5,sl 4 (half nn (aR vs) l).length)],om l vs nn++marks 4 (k9 (half nn (aR vs) l)),5⟩:=by
 have CV:bH nn vs l l.length=half nn (aR vs) l:=by unfold bH;rw[nB]
 have:=rm (P:=prog) (B:=Bs) (N:=66) (b:=aE (af f145 0)) (next:=4) (p:=1) (r:=⟨.exit 0,[(5,sl 4 (half nn (aR vs) l).length)],om l vs nn++marks 4 (k9 (half nn (aR vs) l)),5⟩) l.length
  (λi=>O6 l.length i (bH nn vs l i).length) (λ_=>om l vs nn) (λi=>k9 (bH nn vs l i)) [none] (λ_ _=>rfl) (λj _=>⟨aDh (aZ _),aO1⟩) k_ k_
  (λi hi=>by have hp:l[i]?=some l[i]:=bd hi;obtain⟨f1,f2⟩:=KF (nn:=nn) (vs:=vs) (l:=l) i o_;refine⟨[some 6],7,k_,?_⟩;rw[aDm hp];exact aO6 hi hp (λx hx=>aU x (f1 x hx)) (aU _ (eh hi)) aK hn hm o_ o_)
  (by rw[CV];generalize half nn (aR vs) l=a;exact ay [.lt 13 l.length l.length false s_]) n_
 exact bO (id:=0) this
theorem aO8(nn:V3 K)(pt:Nat->V3 K){l:l_}(h:l≠[]):half nn pt l≠[]:=by
 have:∀(l st:l_),st≠[]->l.foldl (λst p=>p::pop nn pt p st) st≠[]:=by
  intro l;induction l with
  |nil=>exact λ_ h=>h
  |cons a l ih=>exact λst _=>ih _ n_
 cases l with
 |nil=>exact absurd rfl h
 |cons a l=>exact this l _ n_
def jQ(nn:V3 K)(vs:e_)(l:l_):List Nat:=(half nn (aR vs) l).tail.reverse
theorem aDo(r5:0<l.length)(aU:∀ x∈l,x<vs.length)(aK:∀ v∈vs,aF q v)(hn:aF m nn)(hm:100*(m+q)+1000<=az)(h63:l.length<900000):
  ko prog 145 [E6 l,.b vs.length (aW vs),.q (cO nn).cs] 3 1 (jQ nn vs l).length (aj (jQ nn vs l)):=by
 have ax:([E6 l,.b vs.length (aW vs),.q (cO nn).cs].all aJ.ok)=true:=by simp only[fp,gm,Vk,aOY,aOZ,AV]
 have lo:=λBs=>aO7 (Bs:=Bs) aU aK hn hm h63;have aY:=aO8 nn (aR vs) (l:=l) (λe=>by rw[e]at r5;cases r5);have hlen:(half nn (aR vs) l).length<=l.length:=by have:=(KF (nn:=nn) (vs:=vs) (l:=l) l.length (aZ _)).2;unfold bH at this;rwa[nB]at this
 unfold jQ;cases hh:half nn (aR vs) l with
 |nil=>exact absurd hh aY
 |cons a st=>
  rw[hh]at lo hlen;simp only[List.tail_cons,E7];have E0:(aj (a::st).reverse).take (st.length*1)=aj st.reverse:=by rw[aDk,uW,P1 s_]
  unfold k9 at lo;rw[show(a::st).length=st.length+1 from rfl]at lo hlen;have hx:=gQ st.reverse;have Vo:(aj st.reverse).length=st.length*1:=by rw[mU,E7,fY]
  generalize aj (a::st).reverse=c0 at *;generalize aj st.reverse=c1 at *;exact yu (k:=4) mixed func145 ax 100 (N:=66) k_ (λ_=>[.code 0 _ _ _ _ _ (lo _),.eO 64 (st.length+1) 1 st.length rfl o_,.cut f145 65 4 (st.length+1) st.length (st.length*1) 1 1 3 c0 c1 o_ E0 k_]) (λ_=>k_) hx Vo
end
theorem aDp(nn:V3 K)(vs:e_)(l:l_):order nn (aR vs) l=jQ nn vs l++jQ nn vs l.reverse:=rfl
theorem Vp{vs:e_}{nn:V3 K}{l:l_}(r5:0<l.length)(aU:∀ x∈l,x<vs.length)(aK:∀ v∈vs,aF q v)(hn:aF m nn)(hm:100*(m+q)+1000<=az)(h63:l.length<900000):
  ko prog 98 [tZ vs,E6 l,.p (bN nn)] 3 1 (order nn (aR vs) l).length (aj (order nn (aR vs) l)):=by
 have ax:([tZ vs,E6 l,.p (bN nn)].all aJ.ok)=true:=by simp only[fp,gm,Vk,aDd,aO0,AV]
 have h1:=aDo r5 aU aK hn hm h63;have h2:=aDo (l:=l.reverse) (by simpa using r5) (λx hx=>aU x (JM.1 hx)) aK hn hm (by simpa using h63);have hc:=aOQ r5 o_;have hr:=aOX r5 o_;rw[aDp];have e1:aj (jQ nn vs l)++aj (jQ nn vs l.reverse)=aj (jQ nn vs l++jQ nn vs l.reverse):=aOP _ _;have bE:∀ l:List Nat,(∀ x∈l,x∈l)->(jQ nn vs l).length<=l.length:=λl _=>by have:=(KF (nn:=nn) (vs:=vs) (l:=l) l.length (aZ _)).2;unfold bH at this;rw[nB]at this;unfold jQ;rw[E7,List.length_tail];omega
 have s1:=bE l λ_ h=>h;have s2:=bE l.reverse λ_ h=>h;have g1:=mU (jQ nn vs l);have g2:=mU (jQ nn vs l.reverse);have o2:=KE (jQ nn vs l.reverse);have f3:=gQ (jQ nn vs l++jQ nn vs l.reverse);have g3:=mU (jQ nn vs l++jQ nn vs l.reverse);have f1:=gQ (jQ nn vs l);have f2:=gQ (jQ nn vs l.reverse);rw[jW]at g3 ⊢;rw[E7]at s2;have hb:∀{l:l_},l.length=0->(Obj.view (aj l)).cells=[]:=λh=>O3 h;unfold xl at hr;have aDq:l.reverse.length=l.length:=E7 ..;unfold E6 at h2;rw[aDq]at h2;have ir:l.length=0->aj l.reverse=[]:=λh=>O3 (by rw[aDq];exact h);have irf:=gQ l.reverse;generalize (jQ nn vs l).length=a1 at *;generalize (jQ nn vs l.reverse).length=a2 at *;generalize aj (jQ nn vs l++jQ nn vs l.reverse)=i3 at *;generalize aj (jQ nn vs l)=i1 at *;generalize aj (jQ nn vs l.reverse)=i2 at *;generalize aj l.reverse=lr at *;exact yu (k:=7) mixed func98 ax 100 (N:=23) k_ (λ_=>[
  .step 13 (au f98 13) [.func (.func 145) #[] #[bY 2,bY 3],sl 1 l.length] [(4,none),(1,some (.view (aj l))),(2,some (.aH [sl 0 vs.length] 25)),(0,some (.view (aW vs))),(3,some (.aH (cO nn).cs 42))] (sl 4 a1) [(4,.row i1 3 1)]
   (aBK (vs:=[sl 1 l.length]) (ca:=[bY 2,bY 3]) h1 (.w (x:=.view (aj l)) rfl (gQ l) hb (.b (x:=.view (aW vs)) (y:=.aH [sl 0 vs.length] 25) (cc:=0) rfl rfl rfl (eH vs) wU (.q (x:=.aH (cO nn).cs 42) rfl (aX.2 (RV.mN _)) .nil))) (x:=.tmp 11) k_ k_ f1 4),
  .step 15 (au f98 15) [.func (.func 146) #[] #[],sl 1 l.length] [(5,none),(1,some (.view (aj l)))] (sl 5 l.length) [(5,.row (aj l) 3 1)]
   (rI hc (.w (x:=.view (aj l)) rfl (gQ l) hb .nil) (x:=.func 146) k_ k_ (gQ l) 5),
  .step 17 (au f98 17) [.func (.func 147) #[] #[],sl 5 l.length] [(5,some (.row (aj l) 3 1))] (.tuple #[]) [(5,.row lr 3 1)]
   (NW (args:=[sl 5 l.length]) (ca:=[]) (x:=.func 147) hr k_ k_ k_ k_ (by
    show((Nat.blt 5 6&&lF 6 (5,.row (aj l) 3 1))&&true)=true;rw[yH (x:=.row (aj l) 3 1) λv hv=>lJ l v hv];rfl) (by
    show(lF 6 (5,.row lr 3 1)&&true)=true;rw[yH (x:=.row lr 3 1) λv hv=>aX.1 irf v hv];rfl) k_ k_ k_ k_),.step 21 (au f98 21) [.func (.func 145) #[] #[bY 2,bY 3],sl 5 l.length] [(6,none),(5,some (.row lr 3 1)),(2,some (.aH [sl 0 vs.length] 25)),(0,some (.view (aW vs))),(3,some (.aH (cO nn).cs 42))] (sl 6 a2) [(6,.row i2 3 1)]
   (aBK (vs:=[sl 5 l.length]) (ca:=[bY 2,bY 3]) h2 (.w (x:=.row lr 3 1) rfl irf ir (.b (x:=.view (aW vs)) (y:=.aH [sl 0 vs.length] 25) (cc:=0) rfl rfl rfl (eH vs) wU (.q (x:=.aH (cO nn).cs 42) rfl (aX.2 (RV.mN _)) .nil))) (x:=.tmp 19) k_ k_ f2 6),
  .pr f98 22 7 4 a1 a2 (a1+a2) 3 1 8 i1 6 (.row i2 3 1) i3 rfl rfl (by rw[fY];exact g2) (by rw[fY];exact g1) e1 o2 d_ (by simp[maxLen];omega) o_ k_]) (λ_=>k_) f3 (by rw[fY];exact g3)
end
end Go.Proofs.YthccllenbnhogaaGreatDoor
