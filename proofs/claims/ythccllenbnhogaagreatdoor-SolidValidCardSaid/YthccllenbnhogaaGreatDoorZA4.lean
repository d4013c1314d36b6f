/- Valid records and points: the proof of SolidValidCardSaid (the law's function answers true at every record and vector; theorem solidValid_card, last part), part 4 of 7; no condition. -/
import Derived.Test.YthccllenbnhogaaGreatDoorZA3
namespace Go.Proofs.YthccllenbnhogaaGreatDoor
open Go Go.RowKit Tryz
abbrev e_:=List (V3 K)
abbrev c_:=List (HS K)
variable{i m k a q b j size e d off cc k1 k2 A U a1 m1 m2:Nat}{w w':h_}{ι:Map}{p:HS K}{o:Oper}{c:g_}{f:FuncId}{Bs:ae}{x:m_}{t:Bool}{ps:c_}{ty:TypeId}{y z:Int}{xs vs:ah}{fn:Func}{l:List aK}{u va:i_}{r:RN}
section
variable{P:j_}{B:ae}{N:Nat}
def aQ.next(fn:Func)(key k z n s:Nat)(h0:0<n)(ho:rN P (ay fn key)=some (true,false,s)):aQ P B N:=
 .step key (ay fn key) [.slice (some ⟨k,z*s,some 7⟩) (n+1) z,vI 1] [] (.slice (some ⟨k,(z+1)*s,some 7⟩) n (z+1)) [] (by have:=Gm (B:=B) ho (k:=k) (off:=z*s) (n:=n+1) (cc:=z) (l:=1) (h:=n+1) n_ (λ_=>rfl) o_ (bh _) (.inl o_);rw[<-fp,Na]at this;simpa using this)
theorem aM7{s:Nat}(ho:rN P o=some (true,false,s)){n:Nat}{x:Obj}(hx:x.owns=true)(j:Nat):
  cz P B o [.slice (some ⟨k,off,some 7⟩) n cc,vI n] [(j,none),(k,some x)] (.slice (some ⟨j,0,some 7⟩) 0 0) [(j,.view []),(k,.dead)]:=by
 unfold rN at ho;split at ho
 ·rename_i t y lo hi bM;split at ho
  ·rename_i e ht;split at ho
   ·rename_i i il;injection ho with ho;injection ho with h1 ho;injection ho with h2 h3;cases lo with
    |none=>cases h1
    |some yl=>
    cases hi with
    |some yh=>cases h2
    |none=>
    refine gT.step λι c ρ w aN hm hn=>?_;have hj:c j=none:=hn (j,none) s_;have hk:c k=some x:=hn (k,some x) s_;rw[bM]at aN;obtain⟨u,u2,hu,hc,c9⟩:=iY aN;have dy:ρ y=u:=by simp[Op.operands]at hu;exact hu.1
    have eF:ρ yl=u2:=by simp[Op.operands]at hu;exact hu.2
    have c9:=c9.fh rfl;have BX:=hm.kill k (by rw[hk];exact n_);have gJ:aV c k .dead j=none:=by unfold aV;rw[al (λe=>by subst e;rw[hj]at hk;cases hk)];exact hj
    have KW:∀ y code,n<=y->(Instr.sliceBound (.int .i64 n) y code).run P w=.ok n w:=by intro y code hq;have:(0:Int)<=n/\(n:Int)<=y:=⟨by omega,by omega⟩;simp[Instr.sliceBound,asIntOf,this]
    rcases hc.gR rfl with ⟨hb,ki,pE,yo,he⟩|⟨b,oo,cap,c',hb,lq,mA,he⟩
    ·refine⟨dD ι j .nil,.slice none 0 0,w,gu (hm.dw j hj),.slcN (fC _ _ _),BX.add gJ (.inl ⟨rfl,rfl⟩) n_ n_ n_,.inl ?_⟩;subst ki;have kJ:∀ code,(Instr.sliceBound (.int .i64 0) 0 code).run P w=.ok 0 w:=λcode=>by simp[Instr.sliceBound,asIntOf]
     simp only[execOp,bM];simp[Instr.sliceAt,iZ ht,Instr.slice,dy,eF,c9,he,vI,Instr.sliceBounds,kJ,sizeOf,typeInfo,il]
    ·dsimp only at hb he;obtain⟨o1,wX⟩:∃ o1,o1=(if c'=n then oo+off else oo+off+n*i.size):=⟨_,rfl⟩;have gH:=hm.own k x b oo cap hk hx hb;refine⟨dD ι j (.at b o1 (c'-n)),.slice (some ⟨b,o1+0,none⟩) 0 (c'-n),w,gu (hm.dw j hj),.slc (fC _ _ _) (kB _) (jL _),BX.add gJ (.inr ⟨b,o1,c'-n,[],rfl,.nil,λj u h=>by simp at h⟩) n_ n_ (λb1 o2 kS _ e=>?_),.inl ?_⟩
     ·injection e with e1 e2 e3;subst e1;refine⟨gH.1,λq y o' bj hq hy wk=>?_⟩;unfold aV at hq;by_cases rG:q=k
      ·rw[au rG]at hq;injection hq with hq;subst hq;cases hy
      ·rw[al rG]at hq;exact rG (hm.inj q k y x b o' bj oo cap hq hy hk hx wk hb)
     ·simp only[execOp,bM];by_cases gS:c'=n
      ·rw[au gS]at wX;subst wX;subst gS;simp[Instr.sliceAt,iZ ht,Instr.slice,dy,eF,c9,he,vI,Instr.sliceBounds,KW c' _ (bh _),sizeOf,typeInfo,il]
      ·rw[al gS]at wX;subst wX;simp[Instr.sliceAt,iZ ht,Instr.slice,dy,eF,c9,he,vI,Instr.sliceBounds,KW n _ (bh _),sizeOf,typeInfo,il,gS,yn]
   ·cases ho
  ·cases ho
 ·cases ho
def aQ.aM8(fn:Func)(key k off n cc s j:Nat)(x:Obj)(hx:x.owns=true)(ho:rN P (ay fn key)=some (true,false,s)):aQ P B N:=
 .step key (ay fn key) [.slice (some ⟨k,off,some 7⟩) n cc,vI n] [(j,none),(k,some x)] (.slice (some ⟨j,0,some 7⟩) 0 0) [(j,.view []),(k,.dead)] (aM7 ho hx j)
def aQ.aM9(fn:Func)(key k off n cc:Nat)(l:List UInt8)(x:Obj)(hx:x.reads=true)(hc:(x.cells.drop off).take n=gE l)(hn:l.length=n)(ho:M7 P (ay fn key)=true):aQ P B N:=
 .step key (ay fn key) [.slice (some ⟨k,off,some 7⟩) n cc] [(k,some x)] (.string (BA l)) [] (by
  unfold M7 at ho;split at ho
  ·rename_i src dst y bM;split at ho
   ·rename_i e hs hd;split at ho
    ·rename_i he;have:=XI (P:=P) (B:=B) bM hs he hd (k:=k) (off:=off) (n:=n) (cc:=cc) (y:=x) (ns:=l.map λc=>(c.toNat:Int)) hx (by rw[hc];simp[gE,Function.comp_def]) (by simpa using hn)
     have e2:=Zm l [];rw[jy]at e2;rw[show ByteArray.empty=BA []from rfl,e2]at this;exact this.step
    ·cases ho
   ·cases ho
  ·cases ho)
end
theorem aVf{n:Nat}(ha:a<bz^n)(hb:b<bz^n):a+b<bz^(n+1):=by have h1:bz^n*2<=bz^n*bz:=jq _ d_;rw[dr];omega
theorem KX{n s:Nat}(hi:i<n)(hd:d=s/bz^i%bz):eT prog 3 (ak (eg bz n i s)) i (vI d)=some (ak (eg bz n (i+1) s)):=by rw[vQ (by rw[MB];exact hi),MC hi hd]
theorem U8(n s:Nat):List.replicate n (vI 0)=ak (eg bz n 0 s):=by rw[RB,KK]
section
variable{Bs:ae}{ka kb n m a b:Nat}
def Fz(ka kb n m a b i:Nat):aM:=[(7,vI i),(0,sl ka n),(1,sl kb m),(5,sl 2 (n+1)),(6,vI (eL bz a b i))]
def BD(ka kb n m a b i:Nat):aE:=[(ka,.view (ak (aa bz n a))),(kb,.view (ak (aa bz m b))),(2,.row (ak (eg bz (n+1) i (a+b))) 3 1)]
theorem aNa(hk:(ka=0/\kb=1)\/(ka=1/\kb=0))(hi:i<n)(hb:b<bz^m)(h63:n<35184372088832):
  af prog Bs 55 (aF (ag f177 0)) (Fz ka kb n m a b i) (BD ka kb n m a b i) 3 ⟨.normal,Fz ka kb n m a b (i+1),BD ka kb n m a b (i+1),3⟩:=by
 have hx:=gO (B:=bz) d_ a i;have hy:=gO (B:=bz) d_ b i;have hc:=As (B:=bz) d_ a b i;have hs:=Gr (B:=bz) d_ a b i;have c9:=Ep (B:=bz) d_ a b i;have bK:=KX (n:=n+1) (i:=i) (s:=a+b) o_ rfl;have kP:dE prog 3 (ak (aa bz n a)) i=some (vI (a/bz^i%bz)):=dP (ee hi);have kY:i<m->dE prog 3 (ak (aa bz m b)) i=some (vI (b/bz^i%bz)):=λjA=>dP (ee jA);have kJ:¬i<m->b/bz^i%bz=0:=λjA=>qG hb o_ d_;unfold Fz BD;generalize ak (eg bz (n+1) (i+1) (a+b))=r1 at *;generalize ak (eg bz (n+1) i (a+b))=r0 at *;generalize ak (aa bz n a)=ra at *;generalize ak (aa bz m b)=rb at *;generalize eL bz a b (i+1)=c' at *;generalize eL bz a b i=c at *;generalize (a+b)/bz^i%bz=z at *;generalize a/bz^i%bz=x at *;generalize b/bz^i%bz=y at *;have e0:x+y+c=c+x+y:=by omega
 have e1:z=(c+x+y)%bz:=by rw[<-hs,e0]
 have e2:c'=(c+x+y)/bz:=by rw[<-c9,e0]
 have jI:bz=16777216:=rfl;by_cases jA:i<m
 ·have kY:=kY jA
  let S:Nat->Nat->bH prog Bs 55:=λka kb=>[.lt 22 i n true (by simp[hi]),.ix f177 28 ka n i hi k_,.ld f177 29 3 ka i (.view ra) (vI x) rfl kP k_,.sum 30 c x (c+x) rfl o_,.lt 34 i m true (by simp[jA]),.ix f177 38 kb m i jA k_,.ld f177 39 3 kb i (.view rb) (vI y) rfl kY k_,.sum 40 (c+x) y (c+x+y) rfl o_,.Fw 44 (c+x+y) bz z e1,.ix f177 45 2 (n+1) i o_ k_,.st f177 100045 3 2 i (.row r0 3 1) (vI z) (.row r1 3 1) rfl bK rfl k_,.Fx 47 (c+x+y) bz c' e2 o_,.sum 24 i 1 (i+1) rfl o_]
  rcases hk with ⟨rfl,rfl⟩|⟨rfl,rfl⟩
  ·exact az (S 0 1)
  ·exact az (S 1 0)
 ·have wO:=kJ jA;rw[wO,ja]at e1 e2
  let S:Nat->Nat->bH prog Bs 55:=λka kb=>[.lt 22 i n true (by simp[hi]),.ix f177 28 ka n i hi k_,.ld f177 29 3 ka i (.view ra) (vI x) rfl kP k_,.sum 30 c x (c+x) rfl o_,.lt 34 i m false (by simp[jA]),.Fw 44 (c+x) bz z e1,.ix f177 45 2 (n+1) i o_ k_,.st f177 100045 3 2 i (.row r0 3 1) (vI z) (.row r1 3 1) rfl bK rfl k_,.Fx 47 (c+x) bz c' e2 o_,.sum 24 i 1 (i+1) rfl o_]
  rcases hk with ⟨rfl,rfl⟩|⟨rfl,rfl⟩
  ·exact az (S 0 1)
  ·exact az (S 1 0)
theorem aNb(hk:(ka=0/\kb=1)\/(ka=1/\kb=0))(hb:b<bz^m)(h63:n<35184372088832):
  af prog Bs 55 (.block 0 (ag f177 0)) (Fz ka kb n m a b 0) (BD ka kb n m a b 0) 3 ⟨.normal,Fz ka kb n m a b n,BD ka kb n m a b n,3⟩:=
 bO (ck (b:=aF (ag f177 0)) (r:=⟨.exit 0,Fz ka kb n m a b n,BD ka kb n m a b n,3⟩) n (Fz ka kb n m a b) (BD ka kb n m a b) (λi k _=>jO (l:=BD ka kb n m a b i) (m:=BD ka kb n m a b 0) rfl k) (λi hi=>aNa hk hi hb h63)
  (by rcases hk with ⟨rfl,rfl⟩|⟨rfl,rfl⟩<;>exact az [.lt 22 n n false s_]) n_)
noncomputable def aCE(hk:(ka=0/\kb=1)\/(ka=1/\kb=0))(hb:b<bz^m)(h63:n<35184372088832)(hs:a+b<bz^(n+1))
  (bK:eT prog 3 (ak (eg bz (n+1) n (a+b))) n (vI (eL bz a b n))=some (ak (aa bz (n+1) (a+b)))):bH prog Bs 55:=
 [.sum 17 n 1 (n+1) rfl o_,.pI f177 18 2 (n+1) 3 8 (vI 0) (ak (eg bz (n+1) 0 (a+b))) (U8 _ _) rfl rfl o_ (by simp[maxLen];omega) k_,.rw 6 (.int .i64 0) (vI (eL bz a b 0)) (by rw[ME];rfl),.code 0 _ _ _ _ _ (aNb (ka:=ka) (kb:=kb) (a:=a) hk hb o_),.ix f177 52 2 (n+1) n o_ k_,.st f177 100052 3 2 n (.row (ak (eg bz (n+1) n (a+b))) 3 1) (vI (eL bz a b n)) (.row (ak (aa bz (n+1) (a+b))) 3 1) rfl bK rfl k_,.Dg f177 54 2 (n+1) (a+b) (.row (ak (aa bz (n+1) (a+b))) 3 1) rfl rfl hs o_ k_]
end
theorem aUY{n:Nat}(ha:a<bz^n)(hb:b<bz^n):eT prog 3 (ak (eg bz (n+1) n (a+b))) n (vI (eL bz a b n))=some (ak (aa bz (n+1) (a+b))):=by have h1:=As (B:=bz) d_ a b n;have h2:=RC ha hb;rw[KX (GL n) (by rw[<-h2];exact(dJ (eX h1 d_)).symm),Gp]
theorem aCF(h1:nd bz a<35184372088832)(h2:nd bz b<35184372088832):kL prog 177 [ju a,ju b] 3 1 (nd bz (a+b)) (cH (a+b)):=by
 have ha:=dQ (B:=bz) d_ a;have hb:=dQ (B:=bz) d_ b;have gV:=sD a;have kD:=sD b;have ax:([ju a,ju b].all aK.ok)=true:=by simp[HV]
 unfold ju cH at ax ⊢;change kL _ _ _ _ _ _ (cH (a+b));generalize nd bz a=n at *;generalize nd bz b=m at *;by_cases lA:n<m
 ·have fX:=cC ha (c7 (n:=bz) d_ (show n<=m by omega));have hs:=aVf hb fX;rw[mF a b]
  exact KV (k:=2) mixed func177 ax 100 (N:=55) k_ (λw=>(aQ.lt 12 n m true (by simp[lA]):aQ prog (ae.at w) 55)::aCE (ka:=1) (kb:=0) (a:=b) (b:=a) (.inr ⟨rfl,rfl⟩) ha h2 hs (aUY hb fX))
   (λw=>k_) (hY _) (Fy hs) (BC hs)
 ·have gM:=cC hb (c7 (n:=bz) d_ (show m<=n by omega));have hs:=aVf ha gM
  exact KV (k:=2) mixed func177 ax 100 (N:=55) k_ (λw=>(aQ.lt 12 n m false (by simp[lA]):aQ prog (ae.at w) 55)::aCE (ka:=0) (kb:=1) (a:=a) (b:=b) (.inl ⟨rfl,rfl⟩) hb h1 hs (aUY ha gM))
   (λw=>k_) (hY _) (Fy hs) (BC hs)
section
variable{B:Nat}
def qj(B q V c i:Nat):Nat:=(q*(V%B^i)+c)/B^i
theorem aNc(q V c:Nat):qj B q V c 0=c:=by simp[qj,s9]
theorem aCG(hB:0<B)(q V c i:Nat):qj B q V c i+q*(V/B^i%B)=(q*(V%B^(i+1))+c)/B^i:=by unfold qj;rw[oX,oz,<-fK,Nat.add_right_comm,oY _ _ (cF hB)]
theorem aNd(hB:0<B)(q V c i:Nat):(qj B q V c i+q*(V/B^i%B))/B=qj B q V c (i+1):=by rw[aCG hB,kE,<-dr];rfl
theorem aNe(hB:0<B)(q V c i:Nat):(qj B q V c i+q*(V/B^i%B))%B=(q*V+c)/B^i%B:=by
 rw[aCG hB];have h1:=jf V (B^(i+1));have h2:q*V+c=(q*(V%B^(i+1))+c)+q*(V/B^(i+1))*B*B^i:=by
  have e:q*(V/B^(i+1))*B*B^i=q*(B^(i+1)*(V/B^(i+1))):=by rw[dr];simp only[cK,mG,fK]
  rw[e];have h3:q*V=q*(B^(i+1)*(V/B^(i+1)))+q*(V%B^(i+1)):=by rw[<-oz,h1]
  omega
 conv=>rhs;rw[h2]
 rw[oY _ _ (cF hB),CB]
theorem aCH(hB:0<B){c:Nat}(hq:q<B)(hc:c<=q)(V i:Nat):qj B q V c i<=q:=by
 unfold qj;have hp:0<B^i:=cF hB;have h1:V%B^i<B^i:=cE _ hp;have h2:=jq q (show V%B^i+1<=B^i from h1);rw[oz,gn]at h2;have h3:q*(V%B^i)+c<(q+1)*B^i:=by rw[fp,pK];omega
 have:=(iv hp).2 h3;omega
theorem aNf{c V n:Nat}(hV:V<B^n):qj B q V c n=(q*V+c)/B^n:=by unfold qj;rw[dJ hV]
theorem aNg(hB:0<B)(bW:b<=a)(i:Nat):
  (a-b)/B^i%B=if a/B^i%B<b/B^i%B+kF B a b i then a/B^i%B+B-b/B^i%B-kF B a b i else a/B^i%B-b/B^i%B-kF B a b i:=by
 rw[<-RF hB bW i];have hx:=gO hB a i;have hy:=gO hB b i;have hc:=MF (B:=B) a b i;generalize a/B^i%B=x at *;generalize b/B^i%B=y at *;generalize kF B a b i=c at *;by_cases h:x<y+c
 ·rw[au h,show x+2*B-y-c=(x+B-y-c)+B by omega,Jw,dJ o_]
 ·rw[al h,show x+2*B-y-c=(x-y-c)+B+B by omega,Jw,Jw,dJ o_]
def rh(B p x b i k:Nat):Nat:=(p%B^(i+k)+x*(b%B^k)*B^i)/B^(i+k)
theorem aNh{p x:Nat}(hB:0<B):rh B p x b i 0=0:=by unfold rh;rw[rP,s9,Nat.mul_zero,lB,ja,ja];exact lV (cE _ (cF hB))
theorem aCI(hB:0<B)(p x b i k:Nat):rh B p x b i k+(p/B^(i+k)%B+x*(b/B^k%B))=(p%B^(i+k+1)+x*(b%B^(k+1))*B^i)/B^(i+k):=by
 unfold rh;rw[<-oY _ _ (cF hB),oX p,oX b]
 congr 1
 rw[oz,fp,fp,eh];have:x*(b/B^k%B*B^k)*B^i=x*(b/B^k%B)*(B^i*B^k):=by simp only[cK,mG]
 omega
theorem aNi(hB:0<B)(p x b i k:Nat):(rh B p x b i k+(p/B^(i+k)%B+x*(b/B^k%B)))/B=rh B p x b i (k+1):=by rw[aCI hB,kE,<-dr];rfl
theorem aNj(hB:0<B)(p x b i k:Nat):(rh B p x b i k+(p/B^(i+k)%B+x*(b/B^k%B)))%B=(p+x*b*B^i)/B^(i+k)%B:=by
 rw[aCI hB];have h1:=jf p (B^(i+k+1));have h2:=jf b (B^(k+1));have h3:p+x*b*B^i=(p%B^(i+k+1)+x*(b%B^(k+1))*B^i)+(p/B^(i+k+1)+x*(b/B^(k+1)))*B*B^(i+k):=by
  have e1:(p/B^(i+k+1)+x*(b/B^(k+1)))*B*B^(i+k)=B^(i+k+1)*(p/B^(i+k+1))+x*(B^(k+1)*(b/B^(k+1)))*B^i:=by
   rw[fp,fp]
   congr 1
   ·rw[dr];simp only[cK,mG,fK]
   ·rw[dr,eh];simp only[cK,mG,fK]
  have e2:x*b*B^i=x*(B^(k+1)*(b/B^(k+1)))*B^i+x*(b%B^(k+1))*B^i:=by rw[<-fp,<-oz,h2]
  rw[e1];omega
 conv=>rhs;rw[h3]
 rw[oY _ _ (cF hB),CB]
theorem aCJ(hB:0<B){x:Nat}(hx:x<B)(p b i k:Nat):rh B p x b i k<B:=by
 unfold rh;have hp:0<B^(i+k):=cF hB;rw[iv hp];have h1:p%B^(i+k)<B^(i+k):=cE _ hp;have h2:b%B^k<B^k:=cE _ (cF hB);have h3:x*(b%B^k)*B^i<=x*B^(i+k):=by rw[fK,eh];refine jq _ ?_;rw[cK];exact jq _ (jD h2)
 have h4:=eZ (B^(i+k)) (show x+1<=B from hx);rw[fp,pK]at h4;omega
theorem aNk{p x:Nat}(hp:p<B^(i+m))(hb:b<B^m):rh B p x b i m=(p+x*b*B^i)/B^(i+m):=by unfold rh;rw[dJ hp,dJ hb]
end
section
variable{Bs:ae}{n m a b:Nat}
def FA(n m a b i:Nat):aM:=[(7,vI i),(0,sl 0 n),(1,sl 1 m),(5,sl 2 n),(6,vI (kF bz a b i))]
def zw(n m a b i:Nat):aE:=[(0,.view (ak (aa bz n a))),(1,.view (ak (aa bz m b))),(2,.row (ak (eg bz n i (a-b))) 3 1)]
theorem aCK{x:Int}(h:-4611686018427387904<=x)(h2:x<=4611686018427387903)(h3:-4611686018427387904<=y)(h4:y<=4611686018427387904):IntKind.i64.wrap (x-y)=x-y:=by rw[dU];omega
theorem aNl{x:Int}(h:-4611686018427387904<=x)(h2:x<=4611686018427387903)(h3:-4611686018427387904<=y)(h4:y<=4611686018427387904):IntKind.i64.wrap (x+y)=x+y:=by rw[dU];omega
theorem aNm(bW:b<=a)(hi:i<n)(hb:b<bz^m)(h63:n<35184372088832):
  af prog Bs 44 (aF (ag f179 0)) (FA n m a b i) (zw n m a b i) 3 ⟨.normal,FA n m a b (i+1),zw n m a b (i+1),3⟩:=by
 have hx:=gO (B:=bz) d_ a i;have hy:=gO (B:=bz) d_ b i;have hc:=MF (B:=bz) a b i;have hs:=aNg (B:=bz) d_ bW i;have c9:=RE (B:=bz) d_ a b i;have bK:=KX (n:=n) (i:=i) (s:=a-b) hi rfl;have kP:dE prog 3 (ak (aa bz n a)) i=some (vI (a/bz^i%bz)):=dP (ee hi);have kY:i<m->dE prog 3 (ak (aa bz m b)) i=some (vI (b/bz^i%bz)):=λjA=>dP (ee jA);have kJ:¬i<m->b/bz^i%bz=0:=λjA=>qG hb o_ d_;have jI:bz=16777216:=rfl;unfold FA zw;generalize ak (eg bz n (i+1) (a-b))=r1 at *;generalize ak (eg bz n i (a-b))=r0 at *;generalize ak (aa bz n a)=ra at *;generalize ak (aa bz m b)=rb at *;generalize kF bz a b (i+1)=c' at *;generalize kF bz a b i=c at *;generalize (a-b)/bz^i%bz=z at *;generalize a/bz^i%bz=x at *;generalize b/bz^i%bz=y at *;have w1:IntKind.i64.wrap ((x:Int)-(c:Int))=(x:Int)-(c:Int):=aCK o_ o_ o_ o_;have w2:IntKind.i64.wrap (((x:Int)-(c:Int))-(y:Int))=(x:Int)-(c:Int)-(y:Int):=aCK o_ o_ o_ o_;have tail:∀ d:Int,d=(x:Int)-c-y->(∃ t,decide (d<0)=t/\(t=true->IntKind.i64.wrap (d+16777216)=(z:Int)/\c'=1)/\(t=false->d=(z:Int)/\c'=0)):=by
  intro d hd;by_cases h:x<y+c
  ·rw[au h]at hs c9;refine⟨true,aC o_,λ_=>⟨?_,c9.symm⟩,λe=>by cases e⟩;rw[aNl o_ o_ o_ o_];omega
  ·rw[al h]at hs c9;exact⟨false,aO o_,n_,λ_=>⟨by omega,c9.symm⟩⟩
 by_cases jA:i<m
 ·have kY:=kY jA;obtain⟨t,ht,h1,h2⟩:=tail _ rfl;cases t with
  |true=>
   obtain⟨q1,q2⟩:=h1 rfl;subst q2;exact az [.lt 15 i n true (by simp[hi]),.ix f179 20 0 n i hi k_,.ld f179 21 3 0 i (.view ra) (vI x) rfl kP k_,.wr 23 .i64 ((x:Int)-(c:Int)) _ w1,.lt 27 i m true (by simp[jA]),.ix f179 31 1 m i jA k_,.ld f179 32 3 1 i (.view rb) (vI y) rfl kY k_,.wr 33 .i64 ((x:Int)-(c:Int)-(y:Int)) _ w2,.rw 35 (.bool (decide ((x:Int)-(c:Int)-(y:Int)<0))) b_ (by rw[ht]),.wr 37 .i64 _ (z:Int) q1,.ix f179 41 2 n i hi k_,.st f179 100041 3 2 i (.row r0 3 1) (vI z) (.row r1 3 1) rfl bK rfl k_,.sum 17 i 1 (i+1) rfl o_]
  |false=>
   obtain⟨q1,q2⟩:=h2 rfl;subst q2;exact az [.lt 15 i n true (by simp[hi]),.ix f179 20 0 n i hi k_,.ld f179 21 3 0 i (.view ra) (vI x) rfl kP k_,.wr 23 .i64 ((x:Int)-(c:Int)) _ w1,.lt 27 i m true (by simp[jA]),.ix f179 31 1 m i jA k_,.ld f179 32 3 1 i (.view rb) (vI y) rfl kY k_,.wr 33 .i64 ((x:Int)-(c:Int)-(y:Int)) (z:Int) (w2.trans q1),.rw 35 (.bool (decide ((z:Int)<0))) a_ (by rw[<-q1,ht]),.ix f179 41 2 n i hi k_,.st f179 100041 3 2 i (.row r0 3 1) (vI z) (.row r1 3 1) rfl bK rfl k_,.sum 17 i 1 (i+1) rfl o_]
 ·have wO:=kJ jA;subst wO;obtain⟨t,ht,h1,h2⟩:=tail ((x:Int)-c) o_;cases t with
  |true=>
   obtain⟨q1,q2⟩:=h1 rfl;subst q2;exact az [.lt 15 i n true (by simp[hi]),.ix f179 20 0 n i hi k_,.ld f179 21 3 0 i (.view ra) (vI x) rfl kP k_,.wr 23 .i64 ((x:Int)-(c:Int)) _ w1,.lt 27 i m false (by simp[jA]),.rw 35 (.bool (decide ((x:Int)-(c:Int)<0))) b_ (by rw[ht]),.wr 37 .i64 _ (z:Int) q1,.ix f179 41 2 n i hi k_,.st f179 100041 3 2 i (.row r0 3 1) (vI z) (.row r1 3 1) rfl bK rfl k_,.sum 17 i 1 (i+1) rfl o_]
  |false=>
   obtain⟨q1,q2⟩:=h2 rfl;subst q2;exact az [.lt 15 i n true (by simp[hi]),.ix f179 20 0 n i hi k_,.ld f179 21 3 0 i (.view ra) (vI x) rfl kP k_,.wr 23 .i64 ((x:Int)-(c:Int)) (z:Int) (w1.trans q1),.lt 27 i m false (by simp[jA]),.rw 35 (.bool (decide ((z:Int)<0))) a_ (by rw[<-q1,ht]),.ix f179 41 2 n i hi k_,.st f179 100041 3 2 i (.row r0 3 1) (vI z) (.row r1 3 1) rfl bK rfl k_,.sum 17 i 1 (i+1) rfl o_]
theorem aNn(bW:b<=a)(hb:b<bz^m)(h63:n<35184372088832):
  af prog Bs 44 (.block 0 (ag f179 0)) (FA n m a b 0) (zw n m a b 0) 3 ⟨.normal,FA n m a b n,zw n m a b n,3⟩:=
 bO (ck (b:=aF (ag f179 0)) (r:=⟨.exit 0,FA n m a b n,zw n m a b n,3⟩) n (FA n m a b) (zw n m a b) (λi k _=>jO (l:=zw n m a b i) (m:=zw n m a b 0) rfl k) (λi hi=>aNm bW hi hb h63)
  (az [.lt 15 n n false s_]) n_)
end
theorem aNo(bW:b<=a)(h1:nd bz a<35184372088832):kL prog 179 [ju a,ju b] 3 1 (nd bz (a-b)) (cH (a-b)):=by
 have ha:=dQ (B:=bz) d_ a;have hb:=dQ (B:=bz) d_ b;have ax:([ju a,ju b].all aK.ok)=true:=by simp[HV]
 unfold ju cH at ax ⊢;change kL _ _ _ _ _ _ (cH (a-b));generalize nd bz a=n at *;generalize nd bz b=m at *;have hs:a-b<bz^n:=eX (EL _ _) ha;have lo:=λBs=>aNn (Bs:=Bs) (n:=n) (m:=m) bW hb h1;unfold zw at lo;rw[Gp]at lo;exact KV (k:=2) mixed func179 ax 100 (N:=44) k_ (λw=>[.pI f179 11 2 n 3 8 (vI 0) (ak (eg bz n 0 (a-b))) (U8 _ _) rfl rfl o_ (by simp[maxLen];omega) k_,.rw 6 (.int .i64 0) (vI (kF bz a b 0)) (by rw[RD];rfl),.code 0 _ _ _ _ _ (lo _),.Dg f179 43 2 n (a-b) (.row (ak (aa bz n (a-b))) 3 1) rfl rfl hs o_ k_])
   (λw=>k_) (hY _) (Fy hs) (BC hs)
section
variable{Bs:ae}{n a c:Nat}
def FB(n a c i:Nat):aM:=[(7,vI i),(0,sl 0 n),(5,sl 1 (n+1)),(6,vI (qj bz 2 a c i))]
def BE(n a c i:Nat):aE:=[(0,.view (ak (aa bz n a))),(1,.row (ak (eg bz (n+1) i (2*a+c))) 3 1)]
theorem aNp(hc:c<=2)(hi:i<n)(h63:n<35184372088832):
  af prog Bs 40 (aF (ag f181 0)) (FB n a c i) (BE n a c i) 2 ⟨.normal,FB n a c (i+1),BE n a c (i+1),2⟩:=by
 have hx:=gO (B:=bz) d_ a i;have gj:=aCH (B:=bz) d_ (q:=2) d_ hc a i;have hs:=aNe (B:=bz) d_ 2 a c i;have c9:=aNd (B:=bz) d_ 2 a c i;have bK:=KX (n:=n+1) (i:=i) (s:=2*a+c) o_ rfl;have kP:dE prog 3 (ak (aa bz n a)) i=some (vI (a/bz^i%bz)):=dP (ee hi);have jI:bz=16777216:=rfl;unfold FB BE;generalize ak (eg bz (n+1) (i+1) (2*a+c))=r1 at *;generalize ak (eg bz (n+1) i (2*a+c))=r0 at *;generalize ak (aa bz n a)=ra at *;generalize qj bz 2 a c (i+1)=c' at *;generalize qj bz 2 a c i=g at *;generalize (2*a+c)/bz^i%bz=z at *;generalize a/bz^i%bz=x at *;exact az [.lt 16 i n true (by simp[hi]),.ix f181 22 0 n i hi k_,.ld f181 23 3 0 i (.view ra) (vI x) rfl kP k_,.sF 24 2 x (2*x) rfl o_,.sum 25 g (2*x) (g+2*x) rfl o_,.Fw 29 (g+2*x) bz z hs.symm,.ix f181 30 1 (n+1) i o_ k_,.st f181 100030 3 1 i (.row r0 3 1) (vI z) (.row r1 3 1) rfl bK rfl k_,.Fx 32 (g+2*x) bz c' c9.symm o_,.sum 18 i 1 (i+1) rfl o_]
theorem aNq(hc:c<=2)(h63:n<35184372088832):
  af prog Bs 40 (.block 0 (ag f181 0)) (FB n a c 0) (BE n a c 0) 2 ⟨.normal,FB n a c n,BE n a c n,2⟩:=
 bO (ck (b:=aF (ag f181 0)) (r:=⟨.exit 0,FB n a c n,BE n a c n,2⟩) n (FB n a c) (BE n a c) (λi k _=>jO (l:=BE n a c i) (m:=BE n a c 0) rfl k) (λi hi=>aNp hc hi h63)
  (az [.lt 16 n n false s_]) n_)
end
theorem aNr{c:Nat}(hc:c<=1)(h1:nd bz a<35184372088832):kL prog 181 [ju a,.p (vI c)] 3 1 (nd bz (2*a+c)) (cH (2*a+c)):=by
 have ha:=dQ (B:=bz) d_ a;have ax:([ju a,aK.p (vI c)].all aK.ok)=true:=by simp[HV];rfl
 unfold ju cH at ax ⊢;change kL _ _ _ _ _ _ (cH (2*a+c));generalize nd bz a=n at *;have hs:2*a+c<bz^(n+1):=by have h1:bz^n*2<=bz^n*bz:=jq _ d_;rw[dr];omega
 have bK:eT prog 3 (ak (eg bz (n+1) n (2*a+c))) n (vI (qj bz 2 a c n))=some (ak (aa bz (n+1) (2*a+c))):=by have h1:=aCH (B:=bz) d_ (q:=2) d_ (show c<=2 by omega) a n;have h2:=aNf (B:=bz) (q:=2) (c:=c) ha;have jI:bz=16777216:=rfl;rw[KX (GL n) (by rw[<-h2];exact(dJ o_).symm),Gp]
 exact KV (k:=1) mixed func181 ax 100 (N:=40) k_ (λw=>[.sum 10 n 1 (n+1) rfl o_,.pI f181 11 1 (n+1) 3 8 (vI 0) (ak (eg bz (n+1) 0 (2*a+c))) (U8 _ _) rfl rfl o_ (by simp[maxLen];omega) k_,.rw 6 (vI c) (vI (qj bz 2 a c 0)) (by rw[aNc]),.code 0 _ _ _ _ _ (aNq (a:=a) (c:=c) o_ h1),.ix f181 37 1 (n+1) n o_ k_,.st f181 100037 3 1 n (.row (ak (eg bz (n+1) n (2*a+c))) 3 1) (vI (qj bz 2 a c n)) (.row (ak (aa bz (n+1) (2*a+c))) 3 1) rfl bK rfl k_,.Dg f181 39 1 (n+1) (2*a+c) (.row (ak (aa bz (n+1) (2*a+c))) 3 1) rfl rfl hs o_ k_])
   (λw=>k_) (hY _) (Fy hs) (BC hs)
section
variable{Bs:ae}{n m a b:Nat}
def vR(n m a b i k:Nat):ah:=ak (cW bz (n+m) (i+k) (part bz a b (i+1) 0) (part bz a b i 0))
def Dj(n m a b i k:Nat):aM:=[(8,vI k),(7,vI (rh bz (part bz a b i 0) (a/bz^i%bz) b i k)),(6,vI i),(0,sl 0 n),(1,sl 1 m),(5,sl 2 (n+m))]
def zx(n m a b i k:Nat):aE:=[(0,.view (ak (aa bz n a))),(1,.view (ak (aa bz m b))),(2,.row (vR n m a b i k) 3 1)]
theorem U9(i:Nat):part bz a b (i+1) 0=part bz a b i 0+a/bz^i%bz*b*bz^i:=by
 rw[Ch,Ch,oX,fp]
 congr 1
 simp only[cK,mG]
theorem aCL(hb:b<bz^m):part bz a b i 0<bz^(i+m):=by rw[Ch,eh];exact pJ (cE _ (cF d_)) hb
theorem aNs(hi:i<n)(hk:k<m)(h63:n+m<35184372088832):
  af prog Bs 63 (aF (ag f160 2)) (Dj n m a b i k) (zx n m a b i k) 3 ⟨.normal,Dj n m a b i (k+1),zx n m a b i (k+1),3⟩:=by
 have hx:=gO (B:=bz) d_ a i;have hy:=gO (B:=bz) d_ b k;have hr:=gO (B:=bz) d_ (part bz a b i 0) (i+k);have gj:=aCJ (B:=bz) d_ hx (part bz a b i 0) b i k;have hs:=aNj (B:=bz) d_ (part bz a b i 0) (a/bz^i%bz) b i k;rw[<-U9]at hs;have c9:=aNi (B:=bz) d_ (part bz a b i 0) (a/bz^i%bz) b i k;have kP:dE prog 3 (ak (aa bz n a)) i=some (vI (a/bz^i%bz)):=dP (ee hi);have kY:dE prog 3 (ak (aa bz m b)) k=some (vI (b/bz^k%bz)):=dP (ee hk);have hlr:dE prog 3 (vR n m a b i k) (i+k)=some (vI (part bz a b i 0/bz^(i+k)%bz)):=dP (Cg o_ (bh _));have bK:eT prog 3 (vR n m a b i k) (i+k) (vI (part bz a b (i+1) 0/bz^(i+k)%bz))=some (vR n m a b i (k+1)):=by unfold vR;rw[vQ (by rw[wL];omega),yB o_ rfl];rfl
 have jI:bz=16777216:=rfl;unfold Dj zx;generalize vR n m a b i (k+1)=r1 at *;generalize vR n m a b i k=r0 at *;generalize ak (aa bz n a)=ra at *;generalize ak (aa bz m b)=rb at *;generalize rh bz (part bz a b i 0) (a/bz^i%bz) b i (k+1)=c' at *;generalize rh bz (part bz a b i 0) (a/bz^i%bz) b i k=g at *;generalize part bz a b (i+1) 0/bz^(i+k)%bz=z at *;generalize part bz a b i 0/bz^(i+k)%bz=r at *;generalize a/bz^i%bz=x at *;generalize b/bz^k%bz=y at *;have km:x*y<bz*bz:=pJ hx hy;rw[jI]at km;generalize hp:x*y=p at *;exact az [.lt 24 k m true (by simp[hk]),.sum 31 i k (i+k) rfl o_,.ix f160 32 2 (n+m) (i+k) o_ k_,.ld f160 33 3 2 (i+k) (.row r0 3 1) (vI r) rfl hlr k_,.ix f160 36 0 n i hi k_,.ld f160 37 3 0 i (.view ra) (vI x) rfl kP k_,.ix f160 40 1 m k hk k_,.ld f160 41 3 1 k (.view rb) (vI y) rfl kY k_,.sF 42 x y p hp.symm o_,.sum 43 r p (r+p) rfl o_,.sum 44 g (r+p) (g+(r+p)) rfl o_,.sum 48 i k (i+k) rfl o_,.Fw 50 (g+(r+p)) bz z hs.symm,.ix f160 51 2 (n+m) (i+k) o_ k_,.st f160 100051 3 2 (i+k) (.row r0 3 1) (vI z) (.row r1 3 1) rfl bK rfl k_,.Fx 53 (g+(r+p)) bz c' c9.symm o_,.sum 26 k 1 (k+1) rfl o_]
theorem aNt(hi:i<n)(h63:n+m<35184372088832):
  af prog Bs 63 (.block 2 (ag f160 2)) (Dj n m a b i 0) (zx n m a b i 0) 3 ⟨.normal,Dj n m a b i m,zx n m a b i m,3⟩:=
 bO (id:=2) (ck (b:=aF (ag f160 2)) (r:=⟨.exit 2,Dj n m a b i m,zx n m a b i m,3⟩) m (Dj n m a b i) (zx n m a b i) (λk j _=>jO (l:=zx n m a b i k) (m:=zx n m a b i 0) rfl j) (λk hk=>aNs hi hk h63)
  (az [.lt 24 m m false s_]) n_)
def Dk(n m a b i:Nat):ah:=ak (aa bz (n+m) (part bz a b i 0))
def FC(n m i:Nat):aM:=[(6,vI i),(0,sl 0 n),(1,sl 1 m),(5,sl 2 (n+m))]
def zy(n m a b i:Nat):aE:=[(0,.view (ak (aa bz n a))),(1,.view (ak (aa bz m b))),(2,.row (Dk n m a b i) 3 1)]
theorem aNu(i:Nat):vR n m a b i 0=Dk n m a b i:=by unfold vR Dk;rw[U9,ja,YE d_]
theorem aNv(hi:i<n)(hb:b<bz^m)(h63:n+m<35184372088832):
  af prog Bs 63 (aF (ag f160 0)) (FC n m i) (zy n m a b i) 3 ⟨.normal,FC n m (i+1),zy n m a b (i+1),3⟩:=by
 have lo:=aNt (Bs:=Bs) (a:=a) (b:=b) hi h63;unfold Dj zx at lo;rw[aNu,aNh d_]at lo;have hp:=aCL (a:=a) (i:=i) hb;have iD:=aCL (a:=a) (i:=i+1) hb;have he:=aNk (x:=a/bz^i%bz) hp hb;rw[<-U9]at he;have hc:=aCJ (B:=bz) d_ (gO (B:=bz) d_ a i) (part bz a b i 0) b i m;have bK:eT prog 3 (vR n m a b i m) (i+m) (vI (rh bz (part bz a b i 0) (a/bz^i%bz) b i m))=some (Dk n m a b (i+1)):=by
  unfold vR Dk;have e:i+1+m=i+m+1:=by omega
  rw[e]at iD;rw[vQ (by rw[wL];omega),yB o_ (by rw[he];rw[he]at hc;exact(dJ hc).symm),EG d_ (cC hp (c7 d_ (yq _))) iD]
 unfold FC zy;generalize Dk n m a b (i+1)=r1 at *;generalize Dk n m a b i=r0 at *;generalize vR n m a b i m=r2 at *;generalize rh bz (part bz a b i 0) (a/bz^i%bz) b i m=c at *;generalize ak (aa bz n a)=ra at *;generalize ak (aa bz m b)=rb at *;exact az [.lt 18 i n true (by simp[hi]),.code 2 _ _ _ _ _ lo,.sum 58 i m (i+m) rfl o_,.ix f160 60 2 (n+m) (i+m) o_ k_,.st f160 100060 3 2 (i+m) (.row r2 3 1) (vI c) (.row r1 3 1) rfl bK rfl k_,.sum 20 i 1 (i+1) rfl o_]
theorem aNw(hb:b<bz^m)(h63:n+m<35184372088832):
  af prog Bs 63 (.block 0 (ag f160 0)) (FC n m 0) (zy n m a b 0) 3 ⟨.normal,FC n m n,zy n m a b n,3⟩:=
 bO (ck (b:=aF (ag f160 0)) (r:=⟨.exit 0,FC n m n,zy n m a b n,3⟩) n (FC n m) (zy n m a b) (λk j _=>jO (l:=zy n m a b k) (m:=zy n m a b 0) rfl j) (λk hk=>aNv hk hb h63)
  (az [.lt 18 n n false s_]) n_)
end
theorem Va(h63:nd bz a+nd bz b<35184372088832):kL prog 160 [ju a,ju b] 3 1 (nd bz (a*b)) (cH (a*b)):=by
 have ha:=dQ (B:=bz) d_ a;have hb:=dQ (B:=bz) d_ b;have ax:([ju a,ju b].all aK.ok)=true:=by simp[HV]
 unfold ju cH at ax ⊢;change kL _ _ _ _ _ _ (cH (a*b));generalize nd bz a=n at *;generalize nd bz b=m at *;have hs:a*b<bz^(n+m):=by rw[eh];exact pJ ha hb
 have lo:=λBs=>aNw (Bs:=Bs) (n:=n) (a:=a) hb h63;unfold zy Dk at lo;rw[Ch,Ch,dJ ha,rP,s9,lB]at lo;have hz:List.replicate (n+m) (vI 0)=ak (aa bz (n+m) 0):=by
  rw[KK]
  congr 1
  unfold aa;symm;rw[List.eq_replicate_iff];simp
 exact KV (k:=2) mixed func160 ax 100 (N:=63) k_ (λw=>[.sum 13 n m (n+m) rfl o_,.pI f160 14 2 (n+m) 3 8 (vI 0) (ak (aa bz (n+m) 0)) hz rfl rfl o_ (by simp[maxLen];omega) k_,.code 0 _ _ _ _ _ (lo _),.Dg f160 62 2 (n+m) (a*b) (.row (ak (aa bz (n+m) (a*b))) 3 1) rfl rfl hs o_ k_])
   (λw=>k_) (hY _) (Fy hs) (BC hs)
theorem xE(cells:ah)(i:Nat)(h:cells[i]?=some (.int .u8 z)):dE prog 5 cells i=some (.int .u8 z):=by
 have e:dE prog 5 cells i=cells[i+0]?:=by kernel_rfl
 rw[e,ja,h]
theorem aNx(cells:ah)(i:Nat)(z:Int)(h:i<cells.length):eT prog 5 cells i (.int .u8 z)=some (cells.set i (.int .u8 z)):=by
 have e:eT prog 5 cells i (.int .u8 z)=if(Nat.ble (i+1) cells.length&&true)then some (iN cells i [.int .u8 z])else none:=by kernel_rfl
 rw[e,Q5 h];rfl
section
variable{Bs:ae}{n a:Nat}
def tD(n a i:Nat):ah:=gE (List.replicate (3*n-i) 0++gw i a)
def FD(n i:Nat):aM:=[(4,vI i),(0,sl 0 n),(3,sl 1 (3*n))]
def zz(n a i:Nat):aE:=[(0,.view (ak (aa bz n a))),(1,.row (tD n a i) 5 1)]
theorem aNy(hi:i<3*n):(tD n a i).set (3*n-1-i) (vb (a/256^i%256))=tD n a (i+1):=by
 unfold tD;rw[wW,show 3*n-i=(3*n-1-i)+1 by omega,show 3*n-(i+1)=3*n-1-i by omega,List.replicate_succ',B8];generalize 3*n-1-i=k;unfold gE;rw[wj,wj,UH _ _ s_];simp only[fk,HX,vo,wj,qE,M8,GD,jy,List.set_cons_zero]
 congr 2
 rw[M5,dJ (cE _ d_)];rfl
theorem aNz(i:Nat)(hi:i<=3*n):(tD n a i).length=3*n:=by unfold tD;rw[ED,jM,HX,Ju];omega
theorem aNA:a/bz^(i/3)%bz/2^(8*(i%3))%256=a/256^i%256:=by
 have e1:bz^(i/3)=256^(3*(i/3)):=by rw[show bz=256^3 from HW,<-rQ]
 have e2:(2:Nat)^(8*(i%3))=256^(i%3):=by rw[rQ]
 have e3:256^i=256^(3*(i/3))*256^(i%3):=by rw[<-eh];congr 1;omega
 rw[e1,e2,e3,<-kE];generalize a/256^(3*(i/3))=c;have e4:bz=256^(i%3)*(256*256^(2-i%3)):=by rw[show bz=256^3 from HW,<-Nat.pow_succ',<-eh];congr 1;omega
 rw[e4,Ay,Jo]
theorem aNB(hi:i<3*n)(h63:n<35184372088832):
  af prog Bs 45 (aF (ag f161 0)) (FD n i) (zz n a i) 2 ⟨.normal,FD n (i+1),zz n a (i+1),2⟩:=by
 have hx:=gO (B:=bz) d_ a (i/3);have hb:=aNA (a:=a) (i:=i);have kP:dE prog 3 (ak (aa bz n a)) (i/3)=some (vI (a/bz^(i/3)%bz)):=dP (ee o_);have bK:eT prog 5 (tD n a i) (3*n-1-i) (vb (a/256^i%256))=some (tD n a (i+1)):=by unfold vb;rw[aNx _ _ _ (by rw[aNz _ o_];omega)];exact ch some (aNy hi)
 unfold FD zz;generalize tD n a (i+1)=r1 at *;generalize tD n a i=r0 at *;generalize ak (aa bz n a)=ra at *;generalize a/256^i%256=z at *;generalize a/bz^(i/3)%bz=x at *;have uK:(x:Int).fdiv (2^(min (8*(i%3)) IntKind.i64.bits))=((x/2^(8*(i%3)):Nat):Int):=by rw[show min (8*(i%3)) IntKind.i64.bits=8*(i%3)from nh (show 8*(i%3)<=64 by omega),rO _ (GJ d_),te,GK];rfl
 generalize x/2^(8*(i%3))=y at *;exact az [.lt 12 i (3*n) true (by simp[hi]),.eW 18 (3*n) 1 (3*n-1) o_ o_,.eW 20 (3*n-1) i (3*n-1-i) o_ o_,.Fx 23 i 3 (i/3) rfl o_,.ix f161 24 0 n (i/3) o_ k_,.ld f161 25 3 0 (i/3) (.view ra) (vI x) rfl kP k_,.Fw 27 i 3 (i%3) rfl,.sF 28 8 (i%3) (8*(i%3)) rfl o_,.shr f161 29 .i64 (x:Int) (y:Int) (8*(i%3)) uK k_,.wr 30 .u8 (y:Int) (z:Int) (by rw[Zr];omega),.ix f161 31 1 (3*n) (3*n-1-i) o_ k_,.st f161 100031 5 1 (3*n-1-i) (.row r0 5 1) (vb z) (.row r1 5 1) rfl bK rfl k_,.sum 14 i 1 (i+1) rfl o_]
theorem Vb(h63:n<35184372088832):af prog Bs 45 (.block 0 (ag f161 0)) (FD n 0) (zz n a 0) 2 ⟨.normal,FD n (3*n),zz n a (3*n),2⟩:=
 bO (id:=0) (ck (b:=aF (ag f161 0)) (r:=⟨.exit 0,FD n (3*n),zz n a (3*n),2⟩) (3*n) (FD n) (zz n a) (λk j _=>jO (l:=zz n a k) (m:=zz n a 0) rfl j) (λk hk=>aNB hk h63)
  (az [.lt 12 (3*n) (3*n) false s_]) n_)
def xF(L i:Nat):aM:=[(3,.slice (some ⟨1,i*1,some 7⟩) (L-i) i)]
def xG(L a:Nat):aE:=[(1,.row (gE (gw L a)) 5 1)]
theorem Vc{L a:Nat}(h:a<256^L):gw L a=List.replicate (L-nd 256 a) 0++cD a:=by have hle:=jd (B:=256) d_ h;have:=Zj (n:=nd 256 a) (k:=L-nd 256 a) (dQ (B:=256) d_ a);rw[show L-nd 256 a+nd 256 a=L by omega]at this;exact this
theorem aNC{L:Nat}(h:a<256^L)(h0:a≠0)(hi:i<L-nd 256 a)(h63:L<9223372036854775807):
  af prog Bs 45 (aF (ag f161 2)) (xF L i) (xG L a) 2 ⟨.normal,xF L (i+1),xG L a,2⟩:=by
 have hp:=wJ (B:=256) d_ h0;have iS:dE prog 5 (gE (gw L a)) i=some (vb 0):=xE _ _ (by rw[Vc h,M9,I1 (by rw[ED];simpa using hi)];simp[gE,hi])
 unfold xF xG;generalize gE (gw L a)=r0 at *;obtain⟨m,hm⟩:∃ m,L-i=m+1:=⟨L-i-1,by omega⟩;have dx:L-(i+1)=m:=by omega
 rw[hm,dx];have e1:i*1=i:=gn i;exact az [.gt 34 (m+1) 0 true s_,.ph f161 37 1 i (m+1) i 0 i 1 o_ (ja i) k_,.ld f161 38 5 1 (i*1) (.row r0 5 1) (vb 0) rfl (by rw[e1];exact iS) k_,.gm 39 0 0 true rfl,.next f161 42 1 i m 1 o_ k_]
theorem aND{L:Nat}(h:a<256^L)(h0:a≠0)(hi:i=L-nd 256 a)(h63:L<9223372036854775807):
  af prog Bs 45 (aF (ag f161 2)) (xF L i) (xG L a) 2 ⟨.exit 2,xF L i,xG L a,2⟩:=by
 have hp:=wJ (B:=256) d_ h0;have hle:=jd (B:=256) d_ h;obtain⟨c,l,hc,pE⟩:=M6 h0;have iS:dE prog 5 (gE (gw L a)) i=some (vb c.toNat):=xE _ _ (by rw[Vc h,M9,D8 (by rw[ED];simp;omega),ED,hc,hi];simp[gE])
 have bd:c.toNat≠0:=λe=>pE (MU.1 e);unfold xF xG;generalize gE (gw L a)=r0 at *;obtain⟨m,hm⟩:∃ m,L-i=m+1:=⟨L-i-1,by omega⟩;rw[hm];have e1:i*1=i:=gn i;generalize c.toNat=d at *;exact az [.gt 34 (m+1) 0 true s_,.ph f161 37 1 i (m+1) i 0 i 1 o_ (ja i) k_,.ld f161 38 5 1 (i*1) (.row r0 5 1) (vb d) rfl (by rw[e1];exact iS) k_,.gm 39 d 0 false (aO bd)]
theorem aNE{L:Nat}(h:a<256^L)(h0:a≠0)(h63:L<9223372036854775807):
  af prog Bs 45 (.block 2 (ag f161 2)) (xF L 0) (xG L a) 2 ⟨.normal,xF L (L-nd 256 a),xG L a,2⟩:=
 bO (id:=2) (ck (b:=aF (ag f161 2)) (r:=⟨.exit 2,xF L (L-nd 256 a),xG L a,2⟩) (L-nd 256 a) (xF L) (λ_=>xG L a) (λ_ _ _=>Iff.rfl) (λk hk=>aNC h h0 hk h63)
  (aND h h0 rfl h63) n_)
end
theorem aNF{n:Nat}(ha:a<bz^n)(h0:a≠0)(h63:n<35184372088832):cg prog 161 [.r n (ak (aa bz n a))] (.string (BA (cD a))):=by
 have hL:a<256^(3*n):=by rw[rQ];exact ha
 have zg:=λBs=>Vb (Bs:=Bs) (a:=a) h63;have vD:=λBs=>aNE (Bs:=Bs) hL h0 o_;have e0:List.replicate (3*n) (vb 0)=tD n a 0:=by unfold tD gE;simp[M4,vb]
 have e1:tD n a (3*n)=gE (gw (3*n) a):=by unfold tD;rw[vo];rfl
 have hle:=jd (B:=256) d_ hL;have ht:((gE (gw (3*n) a)).drop ((3*n-nd 256 a)*1)).take (nd 256 a)=gE (cD a):=by rw[Vc hL,M9,gn,QR (by rw[ED];simp),j0 (by rw[ED,ti];exact bh _)]
 unfold zz at zg;rw[e1]at zg;rw[<-e0]at zg;unfold xG at vD;have hl:3*n-(3*n-nd 256 a)=nd 256 a:=by omega
 unfold xF at vD;rw[hl]at vD;exact gg mixed func161 (by simp[aK.ok,hY]) 100 (N:=45) k_ (λw=>[.sF 7 3 n (3*n) rfl o_,.pI f161 8 1 (3*n) 5 1 (vb 0) (List.replicate (3*n) (vb 0)) rfl rfl rfl o_ (by simp[maxLen];omega) k_,.code 0 _ _ _ _ _ (zg _),.code 2 _ _ _ _ _ (vD _),.aM9 f161 44 1 ((3*n-nd 256 a)*1) (nd 256 a) (3*n-nd 256 a) (cD a) (.row (gE (gw (3*n) a)) 5 1) rfl ht (ti a) k_]) (λw=>k_) rfl
theorem aNG:cg prog 161 [.r 0 (ak (aa bz 0 0))] (.string (BA (cD 0))):=by have zg:=λBs=>Vb (Bs:=Bs) (a:=0) (n:=0) o_;rw[CA];exact gg mixed func161 (by simp[aK.ok,hY]) 100 (N:=45) k_ (λw=>[.sF 7 3 0 0 rfl o_,.pI f161 8 1 0 5 1 (vb 0) [] rfl rfl rfl o_ (by simp[maxLen]) k_,.code 0 _ _ _ _ _ (zg _),.gt 34 0 0 false rfl,.Sc f161 44 1 0 [] (.row [] 5 1) rfl rfl rfl k_]) (λw=>k_) rfl
noncomputable def Dl(Bs:ae)(i m:Nat)(h:0<m)(hl:dE prog 5 (gE (List.replicate 9 0)) (i*1)=some (vb 0)):bH prog Bs 45:=[.gt 34 (m+1) 0 true s_,.ph f161 37 1 i (m+1) i 0 i 1 o_ (ja i) k_,.ld f161 38 5 1 (i*1) (.row (gE (List.replicate 9 0)) 5 1) (vb 0) rfl hl k_,.gm 39 0 0 true rfl,.next f161 42 1 i m 1 h k_]
theorem aNH:cg prog 161 [.r 3 (ak (aa bz 3 0))] (.string (BA (cD 0))):=by
 have zg:=λBs=>Vb (Bs:=Bs) (a:=0) (n:=3) o_;rw[CA];exact gg mixed func161 (by simp[aK.ok,hY]) 300 (N:=45) k_ (λw=>[.sF 7 3 3 9 rfl o_,.pI f161 8 1 9 5 1 (vb 0) (List.replicate 9 (vb 0)) rfl rfl rfl o_ (by simp[maxLen]) k_,.code 0 _ _ _ _ _ (zg _)]++(Dl _ 0 8 o_ (xE _ _ rfl)++(Dl _ 1 7 o_ (xE _ _ rfl)++(Dl _ 2 6 o_ (xE _ _ rfl)++(Dl _ 3 5 o_ (xE _ _ rfl)++(Dl _ 4 4 o_ (xE _ _ rfl)++(Dl _ 5 3 o_ (xE _ _ rfl)++(Dl _ 6 2 o_ (xE _ _ rfl)++(Dl _ 7 1 o_ (xE _ _ rfl)++
  [.gt 34 1 0 true rfl,.ph f161 37 1 8 1 8 0 8 1 o_ rfl k_,.ld f161 38 5 1 8 (.row (gE (List.replicate 9 0)) 5 1) (vb 0) rfl (xE _ _ rfl) k_,.gm 39 0 0 true rfl,.aM8 f161 42 1 8 1 8 1 2 (.row (gE (List.replicate 9 0)) 5 1) rfl k_,.gt 34 0 0 false rfl,.Sc f161 44 2 0 [] (.view []) rfl rfl rfl k_]))))))))) (λw=>k_) rfl
structure Ps(n a:Nat):Prop where
 lt:a<bz^n
 z:a=0->n=0\/n=3
 h63:n<35184372088832
theorem aCM{n:Nat}(h:Ps n a):cg prog 161 [.r n (ak (aa bz n a))] (.string (BA (cD a))):=by
 by_cases h0:a=0
 ·subst h0;rcases h.z rfl with rfl|rfl
  ·exact aNG
  ·exact aNH
 ·exact aNF h.lt h0 h.h63
theorem aNI(h:nd bz a<35184372088832):Ps (nd bz a) a:=⟨dQ d_ a,λe=>.inl (by rw[e,qF]),h⟩
theorem aCN{n:Nat}(neg:Bool)(h:Ps n a):cg prog 111 [.p (.bool neg),.r n (ak (aa bz n a))] (bI (sg neg a)):=by
 rw[<-vu];have e:(!((BA (cD a)).toList==(ByteArray.mk #[]).toList))=decide (a≠0):=by rw[qK];simp
 cases neg
 ·exact gg mixed func111 (by simp[aK.ok,hY];rfl) 100 (N:=15) k_ (λw=>[.step 7 (ay f111 7) _ _ _ _ (pg (aCM h) (.w (k:=0) (cc:=0) (x:=.view (ak (aa bz n a))) rfl (hY _) (λe=>by subst e;rfl) .nil) (x:=.func 161) k_ k_ rfl)]) (λw=>k_) rfl
 ·exact gg mixed func111 (by simp[aK.ok,hY];rfl) 100 (N:=15) k_ (λw=>[.step 7 (ay f111 7) _ _ _ _ (pg (aCM h) (.w (k:=0) (cc:=0) (x:=.view (ak (aa bz n a))) rfl (hY _) (λe=>by subst e;rfl) .nil) (x:=.func 161) k_ k_ rfl),.rw 11 (.bool (!((BA (cD a)).toList==(ByteArray.mk #[]).toList))) (.bool (decide (a≠0))) (by rw[e])]) (λw=>k_) rfl
theorem aVl(neg:Bool)(l:List UInt8):aD prog 119 [.agg #[.bool neg,.string (BA l)]] (.bool (xa neg l)):=by
 cases l with
 |nil=>exact aZ func119 (λ_=>[.rw 5 (.bool ((BA []).toList==(ByteArray.mk #[]).toList)) b_ (by rw[Ev];rfl)])
 |cons c l=>
  have e:(((c.toNat:Nat):Int)!=0)=decide (c≠0):=by
   by_cases h:c=0
   ·subst h;rfl
   ·rw[aC h,qH];intro h2;exact h (MU.1 (by simpa using h2))
  exact aZ func119 (λ_=>[.rw 5 (.bool ((BA (c::l)).toList==(ByteArray.mk #[]).toList)) a_ (by rw[Ev];rfl),.sx f119 11 (BA (c::l)) 0 c (by rw[Jp];rfl) k_,.rw 12 (.bool (((c.toNat:Nat):Int)!=0)) (.bool (decide (c≠0))) (by rw[e])])
theorem aCO(neg:Bool)(h:neg=true->m≠0):xa neg (cD m)=true:=by
 by_cases hm:m=0
 ·subst hm;rw[CA];cases neg
  ·rfl
  ·exact absurd rfl (h rfl)
 ·obtain⟨c,l,h1,h2⟩:=M6 hm;rw[h1];exact aC h2
theorem aU1(neg:Bool)(h:neg=true->m≠0):aD prog 119 [sv neg m] b_:=by have:=aVl neg (cD m);rw[aCO neg h]at this;exact this
theorem aVq(z:Int):aD prog 119 [bI z] b_:=
 rW (C:=λ_ v=>aD prog 119 [v] b_) (λ_=>aU1 false n_) (λ_ hm=>aU1 true λ_=>hm) z
theorem aVC(h:z.natAbs<=9223372036854775808)(KI:z<9223372036854775808):aD prog 63 [.int .i64 z] (bI z):=by
 obtain⟨m,hm⟩:∃ m,m=z.natAbs:=⟨_,rfl⟩;have aUu:m<18446744073709551616:=by omega
 have hb:Ps 3 m:=⟨by
  have e:bz^3=4722366482869645213696:=by decide
  rw[e];omega,λ_=>.inr rfl,by omega⟩
 have iO:ak (aa bz 3 m)=[vI (m/bz^0%bz),vI (m/bz^1%bz),vI (m/bz^2%bz)]:=rfl;have hs:=λneg=>aCN neg hb;obtain⟨x0,kM⟩:∃ x,x=m/bz^0%bz:=⟨_,rfl⟩;obtain⟨x1,um⟩:∃ x,x=m/bz^1%bz:=⟨_,rfl⟩;obtain⟨x2,gK⟩:∃ x,x=m/bz^2%bz:=⟨_,rfl⟩;rw[<-kM,<-um,<-gK]at iO;rw[iO]at hs;have kM:m%16777216=x0:=by rw[kM,rP,Ey]
 have um:m/16777216%16777216=x1:=by rw[um,Cw]
 have gK:m/16777216/16777216=x2:=by rw[gK,show bz^2=16777216*16777216 by decide,<-kE];exact(dJ (by show _<16777216;omega)).symm
 have u0:Int.tmod (m:Int) 16777216=(x0:Int):=by rw[yJ o_];omega
 obtain⟨q,hq⟩:∃ q,q=m/16777216:=⟨_,rfl⟩;rw[<-hq]at um gK;have uq:IntKind.u64.wrap (Int.tdiv (m:Int) 16777216)=(q:Int):=by rw[Az o_,jQ];omega
 have u1:Int.tmod (q:Int) 16777216=(x1:Int):=by rw[yJ o_];omega
 have u2:IntKind.u64.wrap (Int.tdiv (q:Int) 16777216)=(x2:Int):=by rw[Az o_,jQ];omega
 have w0:IntKind.i64.wrap (x0:Int)=(x0:Int):=by rw[dU];omega
 have w1:IntKind.i64.wrap (x1:Int)=(x1:Int):=by rw[dU];omega
 have w2:IntKind.i64.wrap (x2:Int)=(x2:Int):=by rw[dU];omega
 have cG:∀ v∈[vI x0,vI x1,vI x2],flat v=true:=λv hv=>by simp at hv;rcases hv with rfl|rfl|rfl<;>rfl
 let tl:∀(Bs:ae) (t:Bool),bH prog Bs 25:=λBs t=>[.rw 11 (.bool (decide (z<0))) (.bool (decide (z<0))) rfl,.rw 13 (.int .u64 (Int.tmod (m:Int) 16777216)) (.int .u64 (x0:Int)) (by rw[u0]),.wr 14 .i64 (x0:Int) (x0:Int) w0,.wr 16 .u64 (Int.tdiv (m:Int) 16777216) (q:Int) uq,.rw 17 (.int .u64 (Int.tmod (q:Int) 16777216)) (.int .u64 (x1:Int)) (by rw[u1]),.wr 18 .i64 (x1:Int) (x1:Int) w1,.wr 20 .u64 (Int.tdiv (m:Int) 16777216) (q:Int) uq,.wr 21 .u64 (Int.tdiv (q:Int) 16777216) (x2:Int) u2,.wr 22 .i64 (x2:Int) (x2:Int) w2,.bs f63 23 1 3 3 1 [0,1,2] (vI 0) [vI x0,vI x1,vI x2] #[vI x0,vI x1,vI x2] (.row [vI x0,vI x1,vI x2] 3 1) rfl cG cG k_ rfl o_ o_ k_,.step 24 (ay f63 24) _ _ _ _ (pg (hs t) (.p rfl (.w (k:=1) (cc:=0) (x:=.row [vI x0,vI x1,vI x2] 3 1) rfl rfl n_ .nil)) (x:=.func 111) k_ k_ rfl)]
 by_cases hz:z<0
 ·have e2:sg true m=z:=by show -(m:Int)=z;omega
  rw[<-show bI (sg true m)=bI z by rw[e2]];exact aZ func63 (λ_=>.wr 5 .u64 z (z+18446744073709551616) (by rw[jQ];omega)::.rw 7 (.bool (decide (z<0))) b_ (by rw[aC hz])::
   .wr 9 .u64 (0-(z+18446744073709551616)) (m:Int) (by rw[jQ];omega)::.rw 11 (.bool (decide (z<0))) b_ (by rw[aC hz])::(tl _ true).tail)
 ·have e2:sg false m=z:=by show(m:Int)=z;omega
  rw[<-show bI (sg false m)=bI z by rw[e2]];exact aZ func63 (λ_=>.wr 5 .u64 z (m:Int) (by rw[jQ];omega)::.rw 7 (.bool (decide (z<0))) a_ (by rw[aO hz])::
   .rw 11 (.bool (decide (z<0))) a_ (by rw[aO hz])::(tl _ false).tail)
theorem aUX(z:Int):aD prog 120 [bI z] (.int .i64 z.sign):=by
 refine rW (C:=λz v=>aD prog 120 [v] (.int .i64 z.sign)) (λm=>?_) (λm hm=>?_) z
 ·by_cases h:m=0
  ·subst h;exact aZ func120 (λ_=>[(aU1 false (m:=0) n_).at 5,.rw 10 (.bool ((BA (cD 0)).toList==(ByteArray.mk #[]).toList)) b_ (by rw[qK];rfl)])
  ·have e:((m:Nat):Int).sign=1:=yO o_;rw[e];exact aZ func120 (λ_=>[(aU1 false (m:=m) n_).at 5,.rw 10 (.bool ((BA (cD m)).toList==(ByteArray.mk #[]).toList)) a_ (by rw[qK,aO h])])
 ·have e:(-(m:Int)).sign=-1:=EK o_;rw[e];exact aZ func120 (λ_=>[(aU1 true (m:=m) (λ_=>hm)).at 5,.rw 10 (.bool ((BA (cD m)).toList==(ByteArray.mk #[]).toList)) a_ (by rw[qK,aO hm])])
theorem aVd(z:Int):aD prog 110 [bI z] (bI (-z)):=by
 refine rW (C:=λz v=>aD prog 110 [v] (bI (-z))) (λm=>?_) (λm hm=>?_) z
 ·by_cases h:m=0
  ·subst h;have e:bI (-((0:Nat):Int))=.agg #[.bool false,.string ⟨#[]⟩]:=by show Value.agg #[.bool false,.string (BA (cD 0))]=_;rw[CA];rfl
   rw[e];exact aZ func110 (λ_=>[(aU1 false (m:=0) n_).at 4,.rw 9 (.bool ((BA (cD 0)).toList==(ByteArray.mk #[]).toList)) b_ (by rw[qK];rfl)])
  ·have e:=vu true m;rw[<-show sg true m=-(m:Int)from rfl,<-e];unfold AL;rw[aC h];exact aZ func110 (λ_=>[(aU1 false (m:=m) n_).at 4,.rw 9 (.bool ((BA (cD m)).toList==(ByteArray.mk #[]).toList)) a_ (by rw[qK,aO h])])
 ·have e:=vu false m;rw[JD,<-show sg false m=(m:Int)from rfl,<-e];exact aZ func110 (λ_=>[(aU1 true (m:=m) (λ_=>hm)).at 4,.rw 9 (.bool ((BA (cD m)).toList==(ByteArray.mk #[]).toList)) a_ (by rw[qK,aO hm])])
theorem aNJ(z:Int):aD prog 175 [bI z] (bI (z.natAbs:Int)):=by
 refine rW (C:=λz v=>aD prog 175 [v] (bI (z.natAbs:Int))) (λm=>?_) (λm hm=>?_) z
 ·exact aZ func175 (λ_=>[(aU1 false (m:=m) n_).at 4])
 ·rw[JC];exact aZ func175 (λ_=>[(aU1 true (m:=m) (λ_=>hm)).at 4])
section
variable{Bs:ae}{n a b:Nat}
def BF(n i:Nat):aM:=[(5,da i),(0,sl 0 n),(1,sl 1 n)]
def sG(n a b:Nat):aE:=[(0,.view (ak (aa bz n a))),(1,.view (ak (aa bz n b)))]
theorem tE{x y:Nat}(h:decide (x≠y)=t):Value.bool ((x:Int)!=(y:Int))=.bool t:=by
 rw[<-h];congr 1
 by_cases e:x=y
 ·subst e;simp
 ·rw[aC e,qH];omega
noncomputable def Vd(n a b j:Nat)(hj:j<n)(t:Bool)(h:decide (a/bz^j%bz≠b/bz^j%bz)=t)(more:bH prog Bs 41):bH prog Bs 41:=
 .rw 19 (da (j+1)) (vI j) (dV j)::.ge 20 j 0 true s_::.rw 24 (da (j+1)) (vI j) (dV j)::.ix f178 25 0 n j hj k_::.ld f178 26 3 0 j (.view (ak (aa bz n a))) (vI (a/bz^j%bz)) rfl (dP (ee hj)) k_::
  .rw 28 (da (j+1)) (vI j) (dV j)::.ix f178 29 1 n j hj k_::.ld f178 30 3 1 j (.view (ak (aa bz n b))) (vI (b/bz^j%bz)) rfl (dP (ee hj)) k_::.rw 31 _ (.bool t) (tE h)::more
noncomputable def aCP(n a b j:Nat)(hj:j<n)(t:Bool)(h:decide (a/bz^j%bz<b/bz^j%bz)=t):bH prog Bs 41:=
 [.rw 33 (da (j+1)) (vI j) (dV j),.ix f178 34 0 n j hj k_,.ld f178 35 3 0 j (.view (ak (aa bz n a))) (vI (a/bz^j%bz)) rfl (dP (ee hj)) k_,.rw 37 (da (j+1)) (vI j) (dV j),.ix f178 38 1 n j hj k_,.ld f178 39 3 1 j (.view (ak (aa bz n b))) (vI (b/bz^j%bz)) rfl (dP (ee hj)) k_,.lt 40 (a/bz^j%bz) (b/bz^j%bz) t h]
theorem aNK(hj:j<n)(he:a/bz^j%bz=b/bz^j%bz)(h63:n<35184372088832):
  af prog Bs 41 (aF (ag f178 0)) (BF n (j+1)) (sG n a b) 2 ⟨.normal,BF n j,sG n a b,2⟩:=
 az (Vd n a b j hj false (by simp[he]) [.rw 21 (da (j+1)) (vI j) (dV j),.wr 22 .i64 ((j:Int)-1) ((j:Int)-1) (oB o_)])
theorem aNL(hj:j<n)(ao:a/bz^j%bz<b/bz^j%bz):
  af prog Bs 41 (aF (ag f178 0)) (BF n (j+1)) (sG n a b) 2 ⟨.ret,[(4,.int .i64 (-1))],sG n a b,2⟩:=
 az (Vd n a b j hj true (aC o_) (aCP n a b j hj true (aC ao)))
theorem aNM(hj:j<n)(ao:b/bz^j%bz<a/bz^j%bz):
  af prog Bs 41 (aF (ag f178 0)) (BF n (j+1)) (sG n a b) 2 ⟨.ret,[(4,.int .i64 1)],sG n a b,2⟩:=
 az (Vd n a b j hj true (aC o_) (aCP n a b j hj false (aO o_)))
theorem aNN:af prog Bs 41 (aF (ag f178 0)) (BF n 0) (sG n a b) 2 ⟨.exit 0,[],sG n a b,2⟩:=
 az [.rw 20 (.bool (decide (((0:Nat):Int)-1>=0))) a_ rfl]
theorem aNO(ha:a<bz^n)(hb:b<bz^n)(h63:n<35184372088832):
  af prog Bs 41 (.block 0 (ag f178 0)) (BF n n) (sG n a b) 2 (if a=b then⟨.normal,[],sG n a b,2⟩else⟨.ret,[(4,.int .i64 (gP a b))],sG n a b,2⟩):=by
 obtain⟨e,h1,h2,h3⟩:=yA (λt=>¬(t<n/\a/bz^(n-1-t)%bz=b/bz^(n-1-t)%bz)) n o_;have wT:=YL ha hb e h1 λs hs=>(Ew.1 (h3 s hs)).2;have go:∀(r:lv),r.ex≠.normal->af prog Bs 41 (aF (ag f178 0)) (BF n (n-e)) (sG n a b) 2 r->af prog Bs 41 (.loop (aF (ag f178 0))) (BF n n) (sG n a b) 2 r:=by
  intro r hr vn
  exact ck (P:=prog) (B:=Bs) (N:=41) (b:=aF (ag f178 0)) (next:=2) (r:=r) e (λi=>BF n (n-i)) (λ_=>sG n a b) (λi k _=>Iff.rfl)
   (λi hi=>by
    have q:=Ew.1 (h3 i hi);have e1:n-i=(n-(i+1))+1:=by omega
    have e2:n-1-i=n-(i+1):=by omega
    simp only[e1];exact aNK o_ (by rw[<-e2];exact q.2) h63) vn hr
 by_cases Cu:e=n
 ·have bW:a=b:=by rw[Cu,vo,rP,Ey,Ey]at wT;exact wT
  rw[au bW];have:=go ⟨.exit 0,[],sG n a b,2⟩ n_ (by rw[Cu,vo];exact aNN);exact bO (id:=0) this
 ·have hj:n-e=(n-1-e)+1:=by omega
  have bd:a/bz^(n-1-e)%bz≠b/bz^(n-1-e)%bz:=λh=>h2 ⟨by omega,h⟩;rw[hj]at wT go;have bW:a≠b:=λh=>bd (by rw[h]);rw[al bW];rcases Eb bd with ao|sY
  ·have hl:=ML wT ao;have e1:gP a b=-1:=by unfold gP;rw[au hl]
   rw[e1];exact bO (id:=0) (go _ n_ (aNL o_ ao))
  ·have hl:=ML wT.symm sY;have e1:gP a b=1:=by unfold gP;rw[al o_,au hl]
   rw[e1];exact bO (id:=0) (go _ n_ (aNM o_ sY))
end
theorem Ve(h1:nd bz a<35184372088832)(h2:nd bz b<35184372088832):cg prog 178 [ju a,ju b] (.int .i64 (gP a b)):=by
 have ha:=dQ (B:=bz) d_ a;have hb:=dQ (B:=bz) d_ b;have cS:nd bz a<nd bz b->a<b:=λh=>by
  rcases eU a b with h1|h1
  ·exact h1
  ·have:=je (B:=bz) d_ h1;omega
 have dx:nd bz b<nd bz a->b<a:=λh=>by
  rcases eU b a with h1|h1
  ·exact h1
  ·have:=je (B:=bz) d_ h1;omega
 have ax:([ju a,ju b].all aK.ok)=true:=by simp[HV]
 unfold ju cH at ax ⊢;generalize nd bz a=n at *;generalize nd bz b=m at *;by_cases lA:n=m
 ·subst lA;have lo:=λBs=>aNO (Bs:=Bs) ha hb h1;by_cases bW:a=b
  ·simp only[au bW]at lo;have e1:gP a b=0:=by unfold gP;rw[al o_,al o_]
   rw[e1];exact gg mixed func178 ax 100 (N:=41) k_ (λw=>[.rw 10 _ a_ (tE (x:=n) (y:=n) s_),.wr 18 .i64 ((n:Int)-1) ((n:Int)-1) (oB o_),.code 0 _ _ _ _ _ (lo _)]) (λw=>k_) rfl
  ·simp only[al bW]at lo;exact gg mixed func178 ax 100 (N:=41) k_ (λw=>[.rw 10 _ a_ (tE (x:=n) (y:=n) s_),.wr 18 .i64 ((n:Int)-1) ((n:Int)-1) (oB o_),.code 0 _ _ _ _ _ (lo _)]) (λw=>k_) rfl
 ·rcases Eb lA with ao|sY
  ·have e1:gP a b=-1:=by unfold gP;rw[au (cS ao)]
   rw[e1];exact gg mixed func178 ax 100 (N:=41) k_ (λw=>[.rw 10 _ b_ (tE (x:=n) (y:=m) (aC lA)),.lt 15 n m true (aC ao)]) (λw=>k_) rfl
  ·have e1:gP a b=1:=by unfold gP;rw[al (by have:=dx sY;omega),au (dx sY)]
   rw[e1];exact gg mixed func178 ax 100 (N:=41) k_ (λw=>[.rw 10 _ b_ (tE (x:=n) (y:=m) (aC lA)),.lt 15 n m false (aO o_)]) (λw=>k_) rfl
section
variable{Bs:ae}{m:Nat}{neg:Bool}
def Dm(m i:Nat):aM:=[(5,vI i),(1,ptr 0),(4,.int .u64 ((m/256^(nd 256 m-i):Nat):Int))]
def Dn(neg:Bool)(m:Nat):aE:=[(0,.aI [.bool neg,.string (BA (cD m))] 37)]
theorem aNP{m:Nat}(h:i<nd 256 m):∃ c,(BA (cD m))[nd 256 m-1-i]?=some c/\c.toNat=m/256^i%256:=by
 obtain⟨c,h1,h2⟩:=RT (BA (cD m)) (i:=i) (by rw[oA,ti];exact h);rw[oA,ti]at h1;refine⟨c,h1,?_⟩;rw[h2]
 congr 2
 show fQ (BA (cD m)).data.toList=m;exact EC m
theorem aNQ(hi:i<nd 256 m)(hm:nd 256 m<=7):
  af prog Bs 52 (aF (ag f205 0)) (Dm m i) (Dn neg m) 1 ⟨.normal,Dm m (i+1),Dn neg m,1⟩:=by
 have ao:m<256^7:=cC (dQ (B:=256) d_ m) (c7 d_ hm);obtain⟨c,gj,c9⟩:=aNP (m:=m) (i:=nd 256 m-1-i) o_;have bE:(((BA (cD m)).size:Nat):Int)=(nd 256 m:Int):=by rw[oA,ti]
 unfold Dm Dn;generalize BA (cD m)=s at *;generalize nd 256 m=L at *;rw[show L-1-(L-1-i)=i by omega]at gj;obtain⟨j,hj⟩:∃ j,j=L-1-i:=⟨_,rfl⟩;have e1:L-i=j+1:=by omega
 have e2:L-(i+1)=j:=by omega
 rw[e1,e2];rw[<-hj]at c9;have hd:m/256^j=m/256^(j+1)*256+m/256^j%256:=wM m j;rw[<-c9]at hd;have hq:m/256^(j+1)<=m:=tf _ _;have pH:m/256^(j+1)*256<=m:=by rw[dr,<-kE];exact dc (CE _ _) (tf _ _)
 generalize m/256^(j+1)=x at *;generalize m/256^j=y at *;have hc3:=c.toNat_lt;have Vf:(256:Nat)^7=72057594037927936:=by decide
 rw[Vf]at ao;have ws:IntKind.u64.wrap ((x:Int)*2^8)=((x*256:Nat):Int):=by rw[show((x:Int)*2^8)=((x*256:Nat):Int)by simp,jQ];omega
 have wc:IntKind.u64.wrap (c.toNat:Int)=(c.toNat:Int):=by rw[jQ];omega
 have wa:IntKind.u64.wrap (((x*256:Nat):Int)+(c.toNat:Int))=(y:Int):=by rw[jQ];omega
 exact az [.rw 18 (.int .i64 (s.size:Int)) (vI L) (by rw[bE];rfl),.lt 19 i L true (aC hi),.wr 23 .u64 ((x:Int)*2^8) _ ws,.sx f205 27 s i c gj k_,.wr 28 .u64 (c.toNat:Int) _ wc,.wr 29 .u64 _ _ wa,.sum 21 i 1 (i+1) rfl o_]
theorem aNR(hm:nd 256 m<=7):af prog Bs 52 (.block 0 (ag f205 0)) (Dm m 0) (Dn neg m) 1 ⟨.normal,Dm m (nd 256 m),Dn neg m,1⟩:=
 bO (id:=0) (ck (b:=aF (ag f205 0)) (r:=⟨.exit 0,Dm m (nd 256 m),Dn neg m,1⟩) (nd 256 m) (Dm m) (λ_=>Dn neg m) (λ_ _ _=>Iff.rfl) (λk hk=>aNQ hk hm)
  (az [.rw 18 (.int .i64 ((BA (cD m)).size:Int)) (vI (nd 256 m)) (by rw[oA,ti];rfl),.lt 19 (nd 256 m) (nd 256 m) false s_]) n_)
end
theorem aNS{neg:Bool}(hv:neg=true->m≠0)(hm:nd 256 m<=7):aD prog 205 [sv neg m] (.tuple #[.int .i64 (sg neg m),.bool true]):=by
 have lo:=λBs=>aNR (Bs:=Bs) (neg:=neg) hm;have ao:m<256^7:=cC (dQ (B:=256) d_ m) (c7 d_ hm);have Vf:(256:Nat)^7=72057594037927936:=by decide
 rw[Vf]at ao;have e0:m/256^(nd 256 m-0)=0:=lV (dQ (B:=256) d_ m);have e1:m/256^(nd 256 m-nd 256 m)=m:=by rw[vo,rP,Ey]
 unfold Dm at lo;simp only[e0,e1]at lo;have bE:(((BA (cD m)).size:Nat):Int)=(nd 256 m:Int):=by rw[oA,ti]
 have mS:=aU1 neg hv;unfold Dn at lo;unfold sv o6 at mS ⊢;generalize BA (cD m)=s at *;generalize nd 256 m=L at *;have hle:decide ((L:Int)>8)=false:=aO o_;cases neg
 ·have w:IntKind.i64.wrap (m:Int)=(m:Int):=by rw[dU];omega
  exact aZ func205 (λ_=>[mS.at 7,.rw 12 (.int .i64 (s.size:Int)) (vI L) (by rw[bE];rfl),.rw 13 (.bool (decide ((L:Int)>8))) a_ (by rw[hle]),.code 0 _ _ _ _ _ (lo _),.rw 48 (.bool (decide ((m:Int)<9223372036854775808))) b_ (by rw[aC o_]),.wr 51 .i64 (m:Int) (m:Int) w])
 ·have w0:IntKind.u64.wrap ((m:Int)-1)=(m:Int)-1:=by have:=hv rfl;rw[jQ];omega
  have w1:IntKind.i64.wrap ((m:Int)-1)=(m:Int)-1:=by rw[dU];omega
  have w2:IntKind.i64.wrap (0-((m:Int)-1))=1-(m:Int):=by rw[dU];omega
  have w3:IntKind.i64.wrap (1-(m:Int)-1)=sg true m:=by rw[dU];show _=-(m:Int);omega
  exact aZ func205 (λ_=>[mS.at 7,.rw 12 (.int .i64 (s.size:Int)) (vI L) (by rw[bE];rfl),.rw 13 (.bool (decide ((L:Int)>8))) a_ (by rw[hle]),.code 0 _ _ _ _ _ (lo _),.rw 35 (.bool (decide ((m:Int)<=9223372036854775808))) b_ (by rw[aC o_]),.wr 38 .u64 _ _ w0,.wr 39 .i64 _ _ w1,.wr 40 .i64 _ _ w2,.wr 41 .i64 _ _ w3])
theorem Vg{neg:Bool}(hv:neg=true->m≠0)(hm:nd 256 m<=7):aD prog 158 [sv neg m] (.tuple #[.int .i64 (sg neg m),.bool true]):=by
 have h:=aNS hv hm;have bE:(((BA (cD m)).size:Nat):Int)=(nd 256 m:Int):=by rw[oA,ti]
 unfold sv o6 at h ⊢;generalize BA (cD m)=s at *;generalize nd 256 m=L at *;exact aZ func158 (λ_=>[.rw 8 (.int .i64 (s.size:Int)) (vI L) (by rw[bE];rfl),.rw 9 (.bool (decide ((L:Int)>7))) a_ (by rw[aO o_]),h.at 12])
theorem aNT{neg:Bool}(hm:¬nd 256 m<=7):aD prog 158 [sv neg m] (.tuple #[.int .i64 0,.bool false]):=by
 have bE:(((BA (cD m)).size:Nat):Int)=(nd 256 m:Int):=by rw[oA,ti]
 unfold sv o6;generalize BA (cD m)=s at *;generalize nd 256 m=L at *;exact aZ func158 (λ_=>[.rw 8 (.int .i64 (s.size:Int)) (vI L) (by rw[bE];rfl),.rw 9 (.bool (decide ((L:Int)>7))) b_ (by rw[aC o_])])
section
variable{Bs:ae}{N:Nat}
theorem aNU(m:Nat):(nd 256 m+2)/3=nd bz m:=by
 have e:bz=256^3:=by decide
 have h1:nd bz m<=(nd 256 m+2)/3:=jd d_ (by rw[e,<-rQ];exact cC (dQ (B:=256) d_ m) (c7 d_ o_))
 have h2:nd 256 m<=3*nd bz m:=jd d_ (by have:=dQ (B:=bz) d_ m;rw[e,<-rQ]at this;rw[e];exact this)
 omega
theorem aCQ(h:nd 256 m<35184372088832):kL prog 159 [.p (o6 m)] 3 1 (nd bz m) (cH m):=by
 have hs:(BA (cD m)).size=nd 256 m:=by rw[oA,ti]
 have hv:ko (BA (cD m))=m:=by show fQ (BA (cD m)).data.toList=m;exact EC m
 have:=aM6 (s:=BA (cD m)) (by rw[hs];exact h);rw[hs,hv,aNU]at this;exact this
theorem nE{x:Obj}(hr:x.reads=true)(hc:x.cells=cH a){nd':q_}(h:gh Bs l vs nd'):gh Bs (ju a::l) (sl k (nd bz a)::vs) ((k,some x)::nd'):=by unfold ju;rw[<-hc];exact .w hr (by rw[hc];exact sD a) (λe=>by rw[hc];exact aMz e) h
def iW(a:Nat):Obj:=.row (cH a) 3 1
def aQ.xH(fn:Func)(key k m:Nat)(h:nd 256 m<35184372088832)(ho:di (ay fn key).op=some (.func 159)):aQ prog Bs N:=
 .step key (ay fn key) [.func (.func 159) #[] #[],o6 m] [(k,none)] (sl k (nd bz m)) [(k,iW m)] (r8 (aCQ h) (.p rfl .nil) ho k_ (sD m) k)
def aQ.aCR(fn:Func)(key k k1 k2 a b:Nat)(x1 x2:Obj)(tF:x1.reads=true)(gj:x1.cells=cH a)(nt:x2.reads=true)(c9:x2.cells=cH b)(h1:nd bz a<35184372088832)(h2:nd bz b<35184372088832)
  (ho:di (ay fn key).op=some (.func 177)):aQ prog Bs N:=
 .step key (ay fn key) [.func (.func 177) #[] #[],sl k1 (nd bz a),sl k2 (nd bz b)] [(k,none),(k1,some x1),(k2,some x2)] (sl k (nd bz (a+b))) [(k,iW (a+b))] (r8 (aCF h1 h2) (nE tF gj (nE nt c9 .nil)) ho k_ (sD _) k)
def aQ.KY(fn:Func)(key k k1 k2 a b:Nat)(x1 x2:Obj)(tF:x1.reads=true)(gj:x1.cells=cH a)(nt:x2.reads=true)(c9:x2.cells=cH b)(bW:b<=a)(h1:nd bz a<35184372088832)
  (ho:di (ay fn key).op=some (.func 179)):aQ prog Bs N:=
 .step key (ay fn key) [.func (.func 179) #[] #[],sl k1 (nd bz a),sl k2 (nd bz b)] [(k,none),(k1,some x1),(k2,some x2)] (sl k (nd bz (a-b))) [(k,iW (a-b))] (r8 (aNo bW h1) (nE tF gj (nE nt c9 .nil)) ho k_ (sD _) k)
def aQ.aNV(fn:Func)(key k k1 k2 a b:Nat)(x1 x2:Obj)(tF:x1.reads=true)(gj:x1.cells=cH a)(nt:x2.reads=true)(c9:x2.cells=cH b)(h:nd bz a+nd bz b<35184372088832)
  (ho:di (ay fn key).op=some (.func 160)):aQ prog Bs N:=
 .step key (ay fn key) [.func (.func 160) #[] #[],sl k1 (nd bz a),sl k2 (nd bz b)] [(k,none),(k1,some x1),(k2,some x2)] (sl k (nd bz (a*b))) [(k,iW (a*b))] (r8 (Va h) (nE tF gj (nE nt c9 .nil)) ho k_ (sD _) k)
def aQ.HY(fn:Func)(key k1 k2 a b:Nat)(x1 x2:Obj)(tF:x1.reads=true)(gj:x1.cells=cH a)(nt:x2.reads=true)(c9:x2.cells=cH b)(h1:nd bz a<35184372088832)(h2:nd bz b<35184372088832)
  (ho:di (ay fn key).op=some (.func 178)):aQ prog Bs N:=
 .step key (ay fn key) [.func (.func 178) #[] #[],sl k1 (nd bz a),sl k2 (nd bz b)] [(k1,some x1),(k2,some x2)] (.int .i64 (gP a b)) [] (pg (Ve h1 h2) (nE tF gj (nE nt c9 .nil)) ho k_ rfl)
def aQ.zC(fn:Func)(key k1 a:Nat)(neg:Bool)(x1:Obj)(tF:x1.reads=true)(gj:x1.cells=cH a)(h1:nd bz a<35184372088832)
  (ho:di (ay fn key).op=some (.func 111)):aQ prog Bs N:=
 .step key (ay fn key) [.func (.func 111) #[] #[],.bool neg,sl k1 (nd bz a)] [(k1,some x1)] (bI (sg neg a)) [] (pg (aCN neg (aNI h1)) (.p rfl (nE tF gj .nil)) ho k_ rfl)
theorem xI{n:Nat}(h:m<2^n):nd bz m<=n:=jd d_ (cC h (ZU d_ n))
end
theorem aNW(h:decide (b<=a)=t):Value.bool (decide (gP a b>=0))=.bool t:=by
 rw[<-h];congr 1;rw[oW];unfold gP
 by_cases h1:a<b
 ·rw[au h1];omega
 ·rw[al h1];by_cases h2:b<a
  ·rw[au h2];omega
  ·rw[al h2];omega
theorem KZ(h:nd 256 m<=7):m<72057594037927936:=by have ao:m<256^7:=cC (dQ (B:=256) d_ m) (c7 d_ h);rwa[show(256:Nat)^7=72057594037927936 by decide]at ao
theorem HZ(n:Bool)(m:Nat):-(m:Int)<=sg n m/\sg n m<=m:=by cases n<;>simp[sg]<;>omega
theorem H0{n:Bool}(v:n=true->m≠0):∃(t:Bool) (i:Int),decide (nd 256 m<=7)=t/\aD prog 158 [sv n m] (.tuple #[.int .i64 i,.bool t])/\-72057594037927936<i/\i<72057594037927936/\(t=true->i=sg n m):=by
 by_cases s:nd 256 m<=7
 ·have g:=HZ n m;have l:=KZ s;exact⟨true,_,aC s,Vg v s,by omega,by omega,λ_=>rfl⟩
 ·exact⟨false,_,aO s,aNT s,by decide,by decide,λh=>by cases h⟩
theorem Vh{n:Nat}(hk:m<2^k)(hn:k<n):nd bz m<n:=eX (xI hk) hn
theorem aVp{n1 n2:Bool}{p:Nat}(v1:n1=true->m1≠0)(v2:n2=true->m2≠0)(h1:m1<2^p)(h2:m2<2^q)(hp:p<=1099511627776)(hq:q<=1099511627776):
  aD prog 124 [sv n1 m1,sv n2 m2] (bI (sg n1 m1+sg n2 m2)):=by
 have b1:=xI h1;have b2:=xI h2;have c1:=vx h1;have c2:=vx h2;obtain⟨t1,i1,_,q1,l1,u1,g1⟩:=H0 v1;obtain⟨t2,i2,_,q2,l2,u2,g2⟩:=H0 v2;have bp:nd bz (m1+m2)<35184372088832:=by have e1:=c7 (show 0<2 by decide) (show p<=p+q by omega);have e2:=c7 (show 0<2 by decide) (show q<=p+q by omega);exact Vh (k:=p+q+1) (by rw[dr];omega) o_
 have k1:=je (B:=bz) d_ (EL m1 m2);have k2:=je (B:=bz) d_ (EL m2 m1);obtain⟨ge,a,b,fG,bW,ha,e⟩:∃(ge:Bool) (a b:Nat),decide (m2<=m1)=ge/\b<=a/\(a=bif ge then m1 else m2)/\(b=bif ge then m2 else m1):=by
  by_cases h:m2<=m1
  ·exact⟨true,m1,m2,aC h,h,rfl,rfl⟩
  ·exact⟨false,m2,m1,aO h,by omega,rfl,rfl⟩
 subst ha e;have bm:nd bz ((bif ge then m1 else m2)-bif ge then m2 else m1)<35184372088832:=by cases ge<;>(dsimp only[cond];omega)
 have ba:nd bz (bif ge then m1 else m2)<35184372088832:=by cases ge<;>(dsimp only[cond];omega)
 have e:bI (sg n1 m1+sg n2 m2)=bif t1&&t2 then bI (i1+i2)else bif n1==n2 then bI (sg n1 (m1+m2))else bI (sg (bif ge then n1 else n2) ((bif ge then m1 else m2)-bif ge then m2 else m1)):=by
  cases t1<;>cases t2<;>try (rw[g1 rfl,g2 rfl];rfl)
  all_goals cases n1<;>cases n2<;>cases ge<;>simp[sg]at fG bW ⊢<;>congr 1<;>omega
 rw[e];have w:=aU1 n1 v1;have w2:=aU1 n2 v2;refine fj mixed func124 100 (λ_=>[w.at 12,w2.at 16,q1.at 22]++(bif t1 then[q2.at 28]else[])++bif t1&&t2 then[.wr 34 .i64 (i1+i2) (i1+i2) (by rw[dU];omega),(aVC (z:=i1+i2) o_ o_).at 35]else
   [.xH f124 38 3 m1 o_ k_,.xH f124 41 4 m2 o_ k_]++bif n1==n2 then[.aCR f124 52 5 3 4 m1 m2 (iW m1) (iW m2) rfl rfl rfl rfl o_ o_ k_,.zC f124 53 5 (m1+m2) n1 (iW (m1+m2)) rfl rfl bp k_]else
   [.HY f124 57 3 4 m1 m2 (iW m1) (iW m2) rfl rfl rfl rfl o_ o_ k_,.rw 58 _ (.bool ge) (aNW fG)]++
   bif ge then[.KY f124 63 5 3 4 _ _ (iW _) (iW _) rfl rfl rfl rfl bW ba k_,.zC f124 64 5 _ n1 (iW _) rfl rfl bm k_]else
   [.KY f124 69 5 4 3 _ _ (iW _) (iW _) rfl rfl rfl rfl bW ba k_,.zC f124 70 5 _ n2 (iW _) rfl rfl bm k_]) (λ_=>?_) k_ ?_<;>cases t1<;>cases t2<;>cases n1<;>cases n2<;>cases ge<;>kernel_rfl
theorem aU2{x:Int}{p:Nat}(h1:x.natAbs<2^p)(h2:y.natAbs<2^q)(hp:p<=1099511627776)(hq:q<=1099511627776):aD prog 124 [bI x,bI y] (bI (x+y)):=by revert h1 h2;refine EM (C:=λx y v u=>x.natAbs<2^p->y.natAbs<2^q->aD prog 124 [v,u] (bI (x+y))) (λn1 n2 m1 m2 v1 v2 h1 h2=>?_) x y;rw[pS]at h1 h2;exact aVp v1 v2 h1 h2 hp hq
theorem aVv{x:Int}{p:Nat}(h1:x.natAbs<2^p)(h2:y.natAbs<2^q)(hp:p<=1099511627776)(hq:q<=1099511627776):aD prog 108 [bI x,bI y] (bI (x-y)):=
 aZ func108 (λ_=>[(aVq x).at 6,(aVq y).at 10,(aVd y).at 16,(aU2 h1 (by rw[JC];exact h2) hp hq).at 17])
theorem K0(m:Nat):Value.int .i64 ((BA (cD m)).size:Int)=vI (nd 256 m):=by rw[oA,ti];rfl
theorem aVo{x:Int}{p:Nat}(h1:x.natAbs<2^p)(h2:y.natAbs<2^q)(hp:p<=1099511627776)(hq:q<=1099511627776):aD prog 109 [bI x,bI y] (bI (x*y)):=by
 revert h1 h2;refine EM (C:=λx y v u=>x.natAbs<2^p->y.natAbs<2^q->aD prog 109 [v,u] (bI (x*y))) (λn1 n2 m1 m2 v1 v2 h1 h2=>?_) x y;rw[pS]at h1 h2;have b1:=xI h1;have b2:=xI h2;have c1:=vx h1;have c2:=vx h2;have k1:=dQ (B:=256) d_ m1;have k2:=dQ (B:=256) d_ m2;have r1:=K0 m1;have r2:=K0 m2;have e:sg n1 m1*sg n2 m2=sg (n1 !=n2) (m1*m2):=by cases n1<;>cases n2<;>simp[sg,G2,G3]
 obtain⟨t1,i1,d1,q1,_,_,g1⟩:=H0 v1;obtain⟨t2,i2,d2,q2,_,_,g2⟩:=H0 v2;have bs:nd bz (m1*m2)<35184372088832:=Vh (k:=p+q) (by rw[eh];exact pJ h1 h2) o_;obtain⟨t,ht⟩:∃ t,decide (((nd 256 m1+nd 256 m2:Nat):Int)<=7)=t:=⟨_,rfl⟩;have e2:bI (sg n1 m1*sg n2 m2)=bif t then bI (IntKind.i64.wrap (i1*i2))else bI (sg (n1 !=n2) (m1*m2)):=by
  rw[e];cases t
  ·rfl
  have hs:=jh ht;rw[g1 (by rw[<-d1];exact aC o_),g2 (by rw[<-d2];exact aC o_),e,dU];have h:m1*m2<256^(nd 256 m1+nd 256 m2):=by rw[eh];exact pJ k1 k2
  have h7:=c7 (n:=256) d_ (show nd 256 m1+nd 256 m2<=7 by omega);rw[show(256:Nat)^7=72057594037927936 by decide]at h7;have g:=HZ (n1 !=n2) (m1*m2);show _=bI _
  congr 1;omega
 rw[e2];have hw:-9223372036854775808<=IntKind.i64.wrap (i1*i2)/\IntKind.i64.wrap (i1*i2)<9223372036854775808:=by rw[dU];omega
 have w:=aU1 n1 v1;have w2:=aU1 n2 v2;unfold sv o6 at *;generalize hL1:nd 256 m1=L1 at *;generalize hL2:nd 256 m2=L2 at *;refine fj mixed func109 100 (λ_=>[w.at 10,w2.at 14,.rw 20 _ (vI L1) r1,.rw 23 _ (vI L2) r2,.sum 24 L1 L2 (L1+L2) rfl o_,.rw 25 (.bool (decide (((L1+L2:Nat):Int)<=7))) (.bool t) (by rw[ht])]++bif t then[q1.at 28,q2.at 33,.wr 38 .i64 (i1*i2) _ rfl,(aVC (z:=IntKind.i64.wrap (i1*i2)) o_ o_).at 39]else
   [.xH f109 47 3 m1 o_ k_,.xH f109 50 4 m2 o_ k_,.aNV f109 51 5 3 4 m1 m2 (iW m1) (iW m2) rfl rfl rfl rfl o_ k_,.zC f109 52 5 (m1*m2) (n1 !=n2) (iW (m1*m2)) rfl rfl bs k_]) (λ_=>?_) k_ ?_<;>cases t<;>cases n1<;>cases n2<;>kernel_rfl
theorem aUO{x:Int}{p:Nat}(h1:x.natAbs<2^p)(h2:y.natAbs<2^q)(hp:p<=1099511627776)(hq:q<=1099511627776):aD prog 157 [bI x,bI y] (.int .i64 (x-y).sign):=by
 have w1:=aVq x;have w2:=aVq y;have s1:=aUX x;have s2:=aUX y;have Dp:∀ z:Int,z.sign=-1/\z<0\/z.sign=0/\z=0\/z.sign=1/\0<z:=λz=>by
  rcases NJ z 0 with h|h|h
  ·exact .inl ⟨EK h,h⟩
  ·exact .inr (.inl ⟨by rw[h];rfl,h⟩)
  ·exact .inr (.inr ⟨yO h,h⟩)
 have b1:=xI h1;have b2:=xI h2;have c1:=vx h1;have c2:=vx h2;by_cases hs:x.sign=y.sign
 ·have ho:x.sign*gP x.natAbs y.natAbs=(x-y).sign:=by unfold gP;rcases Dp x with ⟨a1,a2⟩|⟨a1,a2⟩|⟨a1,a2⟩<;>rcases Dp y with ⟨d1,d2⟩|⟨d1,d2⟩|⟨d1,d2⟩<;>rcases Dp (x-y)with ⟨f1,f2⟩|⟨f1,f2⟩|⟨f1,f2⟩<;>rw[a1,f1]<;>rw[a1,d1]at hs<;>first|(exfalso;omega)|(split<;>first|omega|(split<;>omega))
  have hw:IntKind.i64.wrap (x.sign*gP x.natAbs y.natAbs)=(x-y).sign:=by rw[ho,dU];rcases Dp (x-y)with ⟨f1,f2⟩|⟨f1,f2⟩|⟨f1,f2⟩<;>rw[f1]<;>rfl
  rw[<-hs]at s2;exact aZ func157 (λ_=>[w1.at 8,w2.at 12,s1.at 16,s2.at 18,.rw 21 (.bool (x.sign !=x.sign)) a_ s_,.xH f157 28 2 x.natAbs o_ k_,.xH f157 31 3 y.natAbs o_ k_,.HY f157 32 2 3 x.natAbs y.natAbs (iW x.natAbs) (iW y.natAbs) rfl rfl rfl rfl o_ o_ k_,.wr 33 .i64 _ _ hw])
 ·have bd:(x.sign !=y.sign)=true:=qH.2 hs;by_cases ao:x.sign<y.sign
  ·have e:(x-y).sign=-1:=by rcases Dp x with ⟨a1,a2⟩|⟨a1,a2⟩|⟨a1,a2⟩<;>rcases Dp y with ⟨d1,d2⟩|⟨d1,d2⟩|⟨d1,d2⟩<;>rw[a1,d1]at ao<;>first|omega|exact EK o_
   rw[e];exact aZ func157 (λ_=>[w1.at 8,w2.at 12,s1.at 16,s2.at 18,.rw 21 (.bool (x.sign !=y.sign)) b_ (by rw[bd]),.rw 24 (.bool (decide (x.sign<y.sign))) b_ (by rw[aC ao])])
  ·have e:(x-y).sign=1:=by rcases Dp x with ⟨a1,a2⟩|⟨a1,a2⟩|⟨a1,a2⟩<;>rcases Dp y with ⟨d1,d2⟩|⟨d1,d2⟩|⟨d1,d2⟩<;>rw[a1,d1]at ao hs<;>first|omega|exact yO o_
   rw[e];exact aZ func157 (λ_=>[w1.at 8,w2.at 12,s1.at 16,s2.at 18,.rw 21 (.bool (x.sign !=y.sign)) b_ (by rw[bd]),.rw 24 (.bool (decide (x.sign<y.sign))) a_ (by rw[aO ao])])

section
variable{P:j_}{B:ae}{N:Nat}
def Vi(o:Oper):Bool:=match o.op with
 |.call c=>match c.callee,c.args.toList with
  |.builtin .min,[_,_]=>true
  |_,_=>false
 |_=>false
theorem aNX(ho:Vi o=true){r:Nat}(hr:r=min a b):cz P B o [vI a,vI b] [] (vI r) []:=by
 unfold Vi at ho;split at ho
 ·rename_i c bM;split at ho
  ·rename_i p q h1 h2;refine(Ac (λu hu=>by simp at hu;rcases hu with rfl|rfl<;>rfl) rfl λρ e6 w _=>?_).step;obtain⟨ce,ar,at'⟩:=c;dsimp only at h1 h2;subst h1;have e1:ar=#[p,q]:=by rw[<-xn (xs:=ar),h2]
   subst e1;rw[bM]at e6;simp[Op.operands,Call.operands]at e6;simp[execOp,bM,resolve,invoke,builtin,Builtin.min_,Builtin.min2,e6.1,e6.2,vI,hr];split<;>omega
  ·cases ho
 ·cases ho
def aQ.Pt(fn:Func)(key a b r:Nat)(hr:r=min a b)(ho:Vi (ay fn key)=true):aQ P B N:=
 .step key (ay fn key) [vI a,vI b] [] (vI r) [] (aNX ho hr)
theorem aNY{cells:ah}(iq:P.follows .mixedOrders=true)(hf:P.funcs[f]?=some fn)(hl:(l.all aK.ok)=true)(n:Nat){N:Nat}(hN:N=(eM 0 l).length+(fn.ntmps-(eM 0 l).length))
  (rs:∀ w,bH P (ae.at w) N) (h:∀ w,ou (gD (P:=P) fn n (eM 0 l) (jr 0 l) (jG 0 l) (rs w)) [(k,.row cells ty size)]=ow (gD fn n (eM 0 l) (jr 0 l) (jG 0 l) (rs w)) (.tuple #[.slice (some ⟨k,0,some 7⟩) m 0,u]) [(k,.row cells ty size)])
  (hx:(cells.all flat)=true) (hlen:m*size<=cells.length) (nC:cells.take (m*size)=xs) (hu:flat u=true):HL P f l ty size m xs u:=by
 intro w vs cx;obtain⟨ι,c,h1,h2,h3,h4,h5,h6,h7⟩:=xm cx (aY.1 hl) 0 _ _ (sZ w) n_ (λ_ _=>rfl);refine uc iq hf hN n (h w) h6 h2 h4 h3 λav bX v' w' hle hc hm dG=>?_;obtain⟨cL,rfl,aU⟩:=hc.tS;obtain⟨p,q,hp,h8,h9⟩:=iY aU;have e:cL=#[p,q]:=vf.1 (by rw[hp]);subst e;rw[h9.fh hu];have:=vk hm (dG (k,_) (aL ..)) h8 hlen (aY.1 hx);rw[nC]at this;exact⟨p,rfl,this,hm.base⟩
theorem aNZ{n:Nat}{cells:ah}(ho:di o.op=some x)(eK:fW P f=true)(hn:0<n)(cG:∀ v∈cells,flat v=true)(Av:∀ v∈xs,flat v=true)(hu:flat u=true)(jX:0<m)
  (h:∀ w g cap cur,w.heap[g]?=some (.cells cur ty (0,0))->n<=cap->cap<=maxLen->cur.size=cap*1->cur.toList.take cells.length=cells->Calls P f #[.slice (some ⟨g,0,none⟩) n cap] w λe w'=>∃ z c',e=.returned (.tuple #[.slice (some ⟨g,z,none⟩) m c',u])/\Au g w w'/\(∃ fP,w'.heap[g]?=some (.cells fP ty (0,0))/\fP.size=cap*1)/\c8 w' (.slice (some ⟨g,z,none⟩) m c') m xs) :
  cz P B o [.func (.func f) #[] #[],.slice (some ⟨k,0,some 7⟩) n 0] [(k,some (.row cells ty 1)),(j,none)] (.tuple #[.slice (some ⟨j,0,some 7⟩) m 0,u]) [(j,.view xs),(k,.dead)]:=by
 refine jP (fi:=[]) (ca:=[]) ho eK λι c w hm jR args' aU=>?_;rw[jy,gY]at aU;obtain⟨v,rfl,hv⟩:=mz aU;have hk:c k=some (.row cells ty 1):=jR (k,_) s_;have hj:c j=none:=jR (j,none) s_;rcases hv.gR rfl with ⟨_,h0,_⟩|⟨g,oo,cap,c',hb,lq,mA,he⟩
 ·omega
 ·dsimp only at hb he;have kj:c'=cap:=by omega
  subst kj;obtain⟨l,q1,q2⟩:=hm.born k _ hk;rw[hb]at q1;injection q1 with q1;subst q1;rcases q2 with q2|⟨b,bj,cur,e1,lR,dF,fo,jb⟩
  ·cases q2.1
  ·injection e1 with e1 e2 e3;subst e1;subst e2;subst e3;rw[he];refine(h w g c' cur lR lq dF fo (mZ jb cG)).mono ?_
   rintro e w' ⟨z,c2,rfl,pL,⟨fP,p1,p2⟩,iO⟩
   have m1:=hm.write (y:=.row [] ty 1) hk rfl hb pL.os pL.tape pL.output pL.size (λj hj Eu=>pL.block j hj Eu) (.inr ⟨g,c',fP,rfl,p1,dF,p2,.nil⟩) n_ rfl;have m2:=m1.kill k (by unfold aV;rw[au rfl];exact n_);have bT:j≠k:=λe=>by rw[e,hk]at hj;cases hj
   have hj2:aV (aV c k (.row [] ty 1)) k .dead j=none:=by unfold aV;rw[al bT,al bT];exact hj
   obtain⟨av,q1,q2,q3⟩:=yx m2 hj2 iO Av (λb o c3 e j' y o' bj gJ hy ub=>by
    injection e with e _ _;injection e with e;injection e with e _ _;subst e;unfold aV at gJ;by_cases Pu:j'=k
    ·rw[au Pu]at gJ;injection gJ with gJ;subst gJ;cases hy
    ·rw[al Pu,al Pu]at gJ;exact Pu (hm.inj j' k y _ _ _ _ _ _ gJ hy hk rfl ub hb))
   refine⟨av,_,rfl,q1,.tup (.cons q3 (.cons (.same hu) .nil)),?_⟩;refine q2.ext λi=>?_;show aV (aV c k .dead) j (.view xs) i=_;unfold aV;by_cases h1:i=j
   ·rw[au h1,au h1]
   ·rw[al h1,al h1];by_cases h2:i=k
    ·rw[au h2,au h2]
    ·rw[al h2,al h2,al h2]
theorem aCS(x:Int)(k:Nat)(hk:k<=62):IntKind.i64.wrap (((BitVec.ofInt IntKind.i64.bits x)&&& (BitVec.ofInt IntKind.i64.bits (((2^k-1:Nat)):Int))).toNat:Int)=x%((2^k:Nat):Int):=by
 show IntKind.i64.wrap (((BitVec.ofInt 64 x)&&& (BitVec.ofInt 64 (((2^k-1:Nat)):Int))).toNat:Int)=_;have h2:2^k<=2^62:=c7 d_ hk;have h62:(2:Nat)^62=4611686018427387904:=by decide
 have hp:0<2^k:=cF d_;have e1:(BitVec.ofInt 64 (((2^k-1:Nat)):Int)).toNat=2^k-1:=by rw[BitVec.toNat_ofInt];omega
 have e2:((BitVec.ofInt 64 x).toNat:Int)=x%18446744073709551616:=by rw[BitVec.toNat_ofInt];omega
 rw[BitVec.toNat_and,e1,Nat.and_two_pow_sub_one_eq_mod,dU];have hd:((2^k:Nat):Int) ∣ 18446744073709551616:=by refine⟨((2^(64-k):Nat):Int),?_⟩;rw[<-nM,<-eh,show k+(64-k)=64 by omega];rfl
 have e3:(((BitVec.ofInt 64 x).toNat%2^k:Nat):Int)=x%((2^k:Nat):Int):=by rw[Vj,e2,Int.emod_emod_of_dvd _ hd]
 have h3:(BitVec.ofInt 64 x).toNat%2^k<2^k:=cE _ hp;rw[<-e3];omega
end
section
variable{Bs:ae}{n a d:Nat}
def aUN(n a d i:Nat):aM:=[(8,da i),(6,sl 1 n),(7,vI (a/bz^i%d)),(0,sl 0 n),(1,vI d)]
def aVg(n a d i:Nat):aE:=[(0,.view (ak (aa bz n a))),(1,.row (ak (gv bz n i (a/d))) 3 1)]
theorem aVz(hj:j<n)(hd:0<d)(mH:d<bz)(h63:n<35184372088832):
  af prog Bs 38 (aF (ag f244 0)) (aUN n a d (j+1)) (aVg n a d (j+1)) 2 ⟨.normal,aUN n a d j,aVg n a d j,2⟩:=by
 have bK:eT prog 3 (ak (gv bz n (j+1) (a/d))) j (vI (a/d/bz^j%bz))=some (ak (gv bz n j (a/d))):=by rw[vQ (by rw[MI];exact hj),MK hj rfl]
 have kP:dE prog 3 (ak (aa bz n a)) j=some (vI (a/bz^j%bz)):=dP (ee hj);have hr:a/bz^(j+1)%d<d:=cE _ hd;have hx:=gO (B:=bz) d_ a j;obtain⟨q1,q2⟩:=YK (B:=bz) d_ hd (jD mH) a j;have jI:bz=16777216:=rfl;unfold aUN aVg;generalize ak (gv bz n (j+1) (a/d))=r0 at *;generalize ak (gv bz n j (a/d))=r1 at *;generalize ak (aa bz n a)=ra at *;generalize a/d/bz^j%bz=z at *;generalize a/bz^(j+1)%d=r at *;generalize a/bz^j%d=r' at *;generalize a/bz^j%bz=x at *;have nt:r<16777216:=by omega
 have hp:r*bz<281474976710656:=by rw[jI];omega
 generalize hpe:r*bz=p at *;have CI:(d:Int)≠0:=by omega
 have w1:IntKind.i64.wrap (Int.tdiv ((p+x:Nat):Int) (d:Int))=(z:Int):=by have hq:(p+x)/d<=p+x:=tf _ _;rw[Az o_,<-te,q1,dU];omega
 have w2:Int.tmod ((p+x:Nat):Int) (d:Int)=(r':Int):=by rw[yJ o_,<-Vj,q2]
 exact az [.rw 15 (da (j+1)) (vI j) (dV j),.ge 16 j 0 true s_,.sF 20 r bz p hpe.symm o_,.rw 22 (da (j+1)) (vI j) (dV j),.ix f244 23 0 n j hj k_,.ld f244 24 3 0 j (.view ra) (vI x) rfl kP k_,.sum 25 p x (p+x) rfl o_,.rw 27 (da (j+1)) (vI j) (dV j),.vm f244 30 .i64 ((p+x:Nat):Int) (d:Int) (z:Int) CI w1 k_,.ix f244 31 1 n j hj k_,.st f244 100031 3 1 j (.row r0 3 1) (vI z) (.row r1 3 1) rfl bK rfl k_,.Aw f244 34 .i64 ((p+x:Nat):Int) (d:Int) (r':Int) CI w2 k_,.rw 17 (da (j+1)) (vI j) (dV j),.wr 18 .i64 ((j:Int)-1) ((j:Int)-1) (oB o_)]
theorem aVm(hd:0<d)(mH:d<bz)(h63:n<35184372088832):
  af prog Bs 38 (.block 0 (ag f244 0)) (aUN n a d n) (aVg n a d n) 2 ⟨.normal,aUN n a d 0,aVg n a d 0,2⟩:=by
 have:=ck (P:=prog) (B:=Bs) (N:=38) (b:=aF (ag f244 0)) (next:=2) (r:=⟨.exit 0,aUN n a d 0,aVg n a d 0,2⟩) n (λi=>aUN n a d (n-i)) (λi=>aVg n a d (n-i))
  (λi k _=>jO (l:=aVg n a d (n-i)) (m:=aVg n a d (n-0)) rfl k)
  (λi hi=>by
   have e:n-i=(n-(i+1))+1:=by omega
   simp only[e];exact aVz o_ hd mH h63)
  (by
   have e:n-n=0:=by omega
   simp only[e];exact az [.rw 16 (.bool (decide (((0:Nat):Int)-1>=0))) a_ rfl]) n_
 exact bO this
end
theorem aCT(hd:0<d)(mH:d<bz)(h1:nd bz a<35184372088832):HL prog 244 [ju a,.p (vI d)] 3 1 (nd bz (a/d)) (cH (a/d)) (vI (a%d)):=by
 have ha:=dQ (B:=bz) d_ a;have ax:([ju a,aK.p (vI d)].all aK.ok)=true:=by simp[HV];rfl
 unfold ju cH at ax ⊢;change HL _ _ _ _ _ _ (cH (a/d)) _;generalize nd bz a=n at *;have hs:a/d<bz^n:=eX (tf _ _) ha;have e0:a/bz^n%d=0:=by rw[lV ha];exact Nat.zero_mod _
 have e1:a/bz^0%d=a%d:=by rw[rP,Ey]
 have lo:=λBs=>aVm (Bs:=Bs) (n:=n) (a:=a) hd mH h1;have ez:List.replicate n (vI 0)=ak (gv bz n n (a/d)):=by rw[MJ,KK]
 unfold aUN aVg at lo;rw[e0,e1,<-ez,Jh]at lo;generalize a%d=r at *;exact aNY (k:=1) mixed func244 ax 100 (N:=38) k_ (λw=>[.pI f244 11 1 n 3 8 (vI 0) (List.replicate n (vI 0)) rfl rfl rfl o_ (by simp[maxLen];omega) k_,.wr 14 .i64 ((n:Int)-1) ((n:Int)-1) (oB o_),.code 0 _ _ _ _ _ (lo _),.Dg f244 36 1 n (a/d) (.row (ak (aa bz n (a/d))) 3 1) rfl rfl hs o_ k_])
   (λw=>k_) (hY _) (Fy hs) (BC hs) rfl
section
variable{B:Nat}
def sX(B U V q i:Nat):Int:=((U%B^i:Nat):Int)-(q:Int)*((V%B^i:Nat):Int)
def ri(B U V q i:Nat):Int:=sX B U V q i/((B^i:Nat):Int)
theorem aN0(U V q:Nat):ri B U V q 0=0:=by simp[ri,sX,s9]
theorem aN1(U V q i:Nat):sX B U V q (i+1)=sX B U V q i+(((U/B^i%B:Nat):Int)-(q:Int)*((V/B^i%B:Nat):Int))*((B^i:Nat):Int):=by unfold sX;rw[oX U i,oX V i];simp only[vt,nM,Int.sub_mul,Int.mul_add,K1];omega
theorem Vk(hB:0<B)(U V q i:Nat):ri B U V q i+(((U/B^i%B:Nat):Int)-(q:Int)*((V/B^i%B:Nat):Int))=sX B U V q (i+1)/((B^i:Nat):Int):=by
 have hp:((B^i:Nat):Int)≠0:=by have:=cF (n:=i) hB;omega
 rw[aN1,ZZ _ _ hp];rfl
theorem aN2(hB:0<B)(U V q i:Nat):(ri B U V q i+(((U/B^i%B:Nat):Int)-(q:Int)*((V/B^i%B:Nat):Int)))/(B:Int)=ri B U V q (i+1):=by
 have hp:(0:Int)<=((B^i:Nat):Int):=by omega
 rw[Vk hB,Int.ediv_ediv_of_nonneg hp];unfold ri
 congr 1
theorem aN3(hB:0<B)(U V q i:Nat):(sX B U V q i)%((B^i:Nat):Int)=((U:Int)-(q:Int)*(V:Int))%((B^i:Nat):Int):=by
 unfold sX;have e1:(U:Int)=((U%B^i:Nat):Int)+((B^i:Nat):Int)*((U/B^i:Nat):Int):=by rw[<-nM,<-vt,Nat.mod_add_div]
 have e2:(V:Int)=((V%B^i:Nat):Int)+((B^i:Nat):Int)*((V/B^i:Nat):Int):=by rw[<-nM,<-vt,Nat.mod_add_div]
 have e3:(U:Int)-(q:Int)*(V:Int)=(((U%B^i:Nat):Int)-(q:Int)*((V%B^i:Nat):Int))+((B^i:Nat):Int)*(((U/B^i:Nat):Int)-(q:Int)*((V/B^i:Nat):Int)):=by
  conv=>lhs;rw[e1,e2]
  rw[Int.mul_add,Int.mul_sub,Int.mul_left_comm (q:Int) ((B^i:Nat):Int)];omega
 rw[e3,aN4]
theorem aN5(hB:0<B){V:Nat}(hq:q*V<=U+B^(m+1)):((fR B m U V q:Nat):Int)=((U:Int)-(q:Int)*(V:Int))%((B^(m+1):Nat):Int):=by
 unfold fR;rw[Vj,Int.natCast_sub hq,vt,nM];have:(U:Int)+((B^(m+1):Nat):Int)-(q:Int)*(V:Int)=((U:Int)-(q:Int)*(V:Int))+((B^(m+1):Nat):Int):=by omega
 rw[this,Int.add_emod_right]
theorem aN6(hB:0<B){V:Nat}(hq:q*V<=U+B^(m+1))(hi:i<=m):
  (ri B U V q i+(((U/B^i%B:Nat):Int)-(q:Int)*((V/B^i%B:Nat):Int)))%(B:Int)=((fR B m U V q/B^i%B:Nat):Int):=by
 rw[Vk hB];have hp:(0:Int)<=((B^i:Nat):Int):=by omega
 have jg:0<((B^i:Nat):Int):=by have:=cF (n:=i) hB;omega
 -- both are the same digit of the number aUv B^(i+1)
 have key:∀ x y:Int,x%((B^(i+1):Nat):Int)=y%((B^(i+1):Nat):Int)->x/((B^i:Nat):Int)%(B:Int)=y/((B^i:Nat):Int)%(B:Int):=by
  intro x y h;have one:∀ z:Int,z/((B^i:Nat):Int)%(B:Int)=z%((B^(i+1):Nat):Int)/((B^i:Nat):Int):=by
   intro z;have e:=Int.emod_add_mul_ediv z ((B^(i+1):Nat):Int);have hs:((B^(i+1):Nat):Int)=((B^i:Nat):Int)*(B:Int):=by rw[dr,nM]
   have e2:z/((B^i:Nat):Int)=z%((B^(i+1):Nat):Int)/((B^i:Nat):Int)+(B:Int)*(z/((B^(i+1):Nat):Int)):=by
    have h3:z=z%((B^(i+1):Nat):Int)+((B^i:Nat):Int)*((B:Int)*(z/((B^(i+1):Nat):Int))):=by rw[<-K1,<-hs];exact e.symm
    conv=>lhs;rw[h3]
    rw[Int.add_mul_ediv_left _ _ o_]
   rw[e2,aN4];refine Int.emod_eq_of_lt (Int.ediv_nonneg (Int.emod_nonneg _ (by have:=cF (n:=i+1) hB;omega)) hp) ?_;have h4:z%((B^(i+1):Nat):Int)<((B^(i+1):Nat):Int):=Int.emod_lt_of_pos _ (by have:=cF (n:=i+1) hB;omega);rw[hs]at h4;exact Int.ediv_lt_of_lt_mul jg (by rw[SV];exact h4)
  rw[one,one,h]
 have h1:=key (sX B U V q (i+1)) ((fR B m U V q:Nat):Int) (by
  rw[aN3 hB,aN5 hB hq];have hd:((B^(i+1):Nat):Int) ∣ ((B^(m+1):Nat):Int):=by refine⟨((B^(m-i):Nat):Int),?_⟩;rw[<-nM,<-eh];congr 2;omega
  rw[Int.emod_emod_of_dvd _ hd])
 rw[h1];simp only[Vj,te]
theorem aN7(hB:0<B){V:Nat}(hV:V<B^m)(hU:U<V*B)(hb:q*V<U+V):
  ri B U V q m+((U/B^m%B:Nat):Int)=if U<q*V then -1 else((fR B m U V q/B^m%B:Nat):Int):=by
 have CF:U<B^(m+1):=by rw[dr];exact cC hU (eZ _ (jD hV))
 have Sj:V<=B^(m+1):=dc (jD hV) (c7 hB o_);have hp:0<B^m:=cF hB;have h0:V/B^m%B=0:=qG hV (bh _) hB;have h1:=Vk hB U V q m;rw[h0,Int.natCast_zero,Int.mul_zero,Int.sub_zero]at h1;rw[h1];unfold sX;rw[dJ CF,dJ (cC hV (c7 hB o_))];by_cases h:U<q*V
 ·rw[au h];have e:(U:Int)-(q:Int)*(V:Int)=((U+B^m-q*V:Nat):Int)+((B^m:Nat):Int)*(-1):=by have:((q*V:Nat):Int)=(q:Int)*(V:Int):=nM ..;omega
  rw[e,Int.add_mul_ediv_left _ _ o_,<-te,lV o_];rfl
 ·rw[al h];have e:(U:Int)-(q:Int)*(V:Int)=((U-q*V:Nat):Int):=by have:((q*V:Nat):Int)=(q:Int)*(V:Int):=nM ..;omega
  have e2:fR B m U V q=U-q*V:=by
   unfold fR;have:U+B^(m+1)-q*V=(U-q*V)+B^(m+1):=by omega
   rw[this,Jw,dJ o_]
  have ao:(U-q*V)/B^m<B:=by rw[iv hp,cK B,<-dr];show U-q*V<B^(m+1);omega
  rw[e,e2,dJ ao,<-te]
theorem aN8(hB:0<B){V:Nat}(hV:V<B^m)(hU:U<V*B)(hb:q*V<U+V)(h:U<q*V):eL B (fR B m U V q) V m=1:=by
 have Sj:V<=B^m:=jD hV;have hp:0<B^m:=cF hB;have hs:B^(m+1)=B^m*B:=dr ..;have CF:U<B^(m+1):=by rw[hs];exact cC hU (eZ _ Sj)
 have hBm:B^m<=B^(m+1):=c7 hB o_;obtain⟨t,ht⟩:∃ t,t=q*V-U:=⟨_,rfl⟩;have e1:fR B m U V q=B^(m+1)-t:=by unfold fR;rw[dJ o_];omega
 have e2:(B^(m+1)-t)%B^m=B^m-t:=by
  obtain⟨c,hc⟩:∃ c,B=c+1:=⟨B-1,by omega⟩;have:B^(m+1)-t=(B^m-t)+B^m*c:=by
   have e3:B^m*B=B^m*c+B^m:=by rw[<-MG,Nat.succ_eq_add_one,<-hc]
   rw[hs,e3];omega
  rw[this,Er,dJ o_]
 unfold eL;rw[e1,e2,dJ hV];have:B^m-t+V=(V-t)+1*B^m:=by omega
 rw[this,oY _ _ hp,lV o_]
end
theorem aCU{B:Nat}(hB:0<B)(U V q i:Nat):-(q:Int)<=ri B U V q i/\ri B U V q i<=0:=by
 unfold ri sX;have hp:0<B^i:=cF hB;have h1:U%B^i<B^i:=cE _ hp;have h2:V%B^i<B^i:=cE _ hp;have h3:=jq q (jD h2);generalize U%B^i=u at *;generalize V%B^i=v at *;have e1:(q:Int)*(v:Int)=((q*v:Nat):Int):=by simp
 rw[e1];generalize q*v=s at *;generalize B^i=b at *;constructor
 ·rw[Int.le_ediv_iff_mul_le o_];have:-(q:Int)*(b:Int)=-((q*b:Nat):Int):=by simp[G2]
  rw[this];omega
 ·have:((u:Int)-(s:Int))/(b:Int)<1:=Int.ediv_lt_of_lt_mul o_ o_;omega
section
variable{Bs:ae}{e L j T v1 v2 u2:Nat}{ru rv:ah}
def xJ(e L j T q:Nat):aM:=[(15,vI q),(9,sl 3 (e+2)),(10,vI (e+2)),(14,vI T),(11,sl 8 L),(13,da (j+1))]
def xK(ru rv:ah):aE:=[(8,.row ru 3 1),(3,.row rv 3 1)]
structure GU(e L j T v1 v2 u2:Nat)(ru rv:ah):Prop where
 hL:j+(e+2)+1<=L
 l1:dE prog 3 rv (e+1)=some (vI v1)
 l0:dE prog 3 rv e=some (vI v2)
 lu:dE prog 3 ru (j+e)=some (vI u2)
 b1:v1<bz
 b0:v2<bz
 bu:u2<bz
 h63:L<35184372088832
noncomputable def Vl(g:GU e L j T v1 v2 u2 ru rv)(q r:Nat)(hq:q<bz)(hr:q*v1+r=T)(nt:r<2*bz)(t:Bool)(ht:decide (r*bz+u2<q*v2)=t)(more:bH prog Bs 238):bH prog Bs 238:=
 .eW 102 (e+2) 2 e o_ (by have:=g.hL;have:=g.h63;omega)::.ix f230 103 3 (e+2) e o_ k_::.ld f230 104 3 3 e (.row rv 3 1) (vI v2) rfl g.l0 k_::
 .sF 105 q v2 (q*v2) rfl (by
  have:=pJ hq g.b0;have jI:bz*bz=281474976710656:=by decide
  omega)::.eW 110 (e+2) 1 (e+1) o_ (by have:=g.hL;have:=g.h63;omega)::.ix f230 111 3 (e+2) (e+1) o_ k_::.ld f230 112 3 3 (e+1) (.row rv 3 1) (vI v1) rfl g.l1 k_::
 .sF 113 q v1 (q*v1) rfl (by
  have:=pJ hq g.b1;have jI:bz*bz=281474976710656:=by decide
  omega)::.eW 114 T (q*v1) r o_ (by
  have:=pJ hq g.b1;have jI:bz*bz=281474976710656:=by decide
  have jI:bz=16777216:=rfl;omega)::.sF 115 r bz (r*bz) rfl (by
  have jI:bz=16777216:=rfl;rw[jI];omega)::.rw 117 (da (j+1)) (vI j) (dV j)::.sum 119 j (e+2) (j+(e+2)) rfl (by have:=g.hL;have:=g.h63;omega)::.eW 120 (j+(e+2)) 2 (j+e) o_ (by have:=g.hL;have:=g.h63;omega)::
 .ix f230 121 8 L (j+e) (by have:=g.hL;omega) k_::.ld f230 122 3 8 (j+e) (.row ru 3 1) (vI u2) rfl g.lu k_::.sum 123 (r*bz) u2 (r*bz+u2) rfl (by have:=g.bu;have jI:bz=16777216:=rfl;rw[jI];omega)::.gt 124 (q*v2) (r*bz+u2) t ht::more
noncomputable def aCV(g:GU e L j T v1 v2 u2 ru rv)(q r:Nat)(hq:q<bz)(hr:q*v1+r=T)(nt:r<2*bz)(t:Bool)(ht:decide (r<bz)=t)(more:bH prog Bs 238):bH prog Bs 238:=
 .eW 130 (e+2) 1 (e+1) o_ (by have:=g.hL;have:=g.h63;omega)::.ix f230 131 3 (e+2) (e+1) o_ k_::.ld f230 132 3 3 (e+1) (.row rv 3 1) (vI v1) rfl g.l1 k_::
 .sF 133 q v1 (q*v1) rfl (by
  have:=pJ hq g.b1;have jI:bz*bz=281474976710656:=by decide
  omega)::.eW 134 T (q*v1) r o_ (by
  have:=pJ hq g.b1;have jI:bz*bz=281474976710656:=by decide
  have jI:bz=16777216:=rfl;omega)::.lt 135 r bz t ht::more
theorem aN9(g:GU e L j T v1 v2 u2 ru rv){r:Nat}(hq:q+1<bz)(hr:(q+1)*v1+r=T)(nt:r<bz)(ht:r*bz+u2<(q+1)*v2):
  af prog Bs 238 (aF (ag f230 2)) (xJ e L j T (q+1)) (xK ru rv) 10 ⟨.normal,xJ e L j T q,xK ru rv,10⟩:=
 fE mixed 200 (Vl g (q+1) r hq hr o_ true (aC ht) (aCV g (q+1) r hq hr o_ true (aC nt) [.eW 138 (q+1) 1 q rfl (by have jI:bz=16777216:=rfl;omega)])) k_
theorem aOa(g:GU e L j T v1 v2 u2 ru rv){r:Nat}(hq:q<bz)(hr:q*v1+r=T)(nt:r<2*bz)(ht:¬r*bz+u2<q*v2):
  af prog Bs 238 (aF (ag f230 2)) (xJ e L j T q) (xK ru rv) 10 ⟨.exit 2,xJ e L j T q,xK ru rv,10⟩:=
 fE mixed 200 (Vl g q r hq hr nt false (aO ht) []) k_
theorem aOb(g:GU e L j T v1 v2 u2 ru rv){r:Nat}(hq:q<bz)(hr:q*v1+r=T)(nt:r<2*bz)(ht:r*bz+u2<q*v2)(Ob:¬r<bz):
  af prog Bs 238 (aF (ag f230 2)) (xJ e L j T q) (xK ru rv) 10 ⟨.exit 2,xJ e L j T q,xK ru rv,10⟩:=
 fE mixed 200 (Vl g q r hq hr nt true (aC ht) (aCV g q r hq hr nt false (aO Ob) [])) k_
theorem aOc(g:GU e L j T v1 v2 u2 ru rv){V:Nat}(h:lX bz e U V T u2 v1 v2)(o5:A=min (T/v1) (bz-1)):
  ∃ q,q<bz/\q*V<U+V/\U/V<=q/\∀ Bs,af prog Bs 238 (.block 2 (ag f230 2)) (xJ e L j T A) (xK ru rv) 10 ⟨.normal,xJ e L j T q,xK ru rv,10⟩:=by
 have jI:bz=16777216:=rfl;have kz:0<v1:=by have:=h.top;omega
 have qk:=h.small;have bK:=h.start;have aUw:A<bz:=by rw[o5];exact eX (Nat.min_le_right _ _) o_
 have aUx:A*v1<=T:=by
  have h1:A<=T/v1:=by rw[o5];exact Nat.min_le_left _ _
  exact dc (eZ _ h1) (CE _ _)
 obtain⟨r0,nS⟩:∃ r0,r0=T-A*v1:=⟨_,rfl⟩;have g0:AH U V T v1 A r0:=⟨by omega,by rw[o5];exact Nat.le_min.2 ⟨bK.le,by omega⟩⟩
 have aOd:r0<2*bz:=by
  have hTb:T<v1*bz+bz:=by
   have h1:U<V*bz:=h.hU;rw[h.hT,iv (cF d_)];have h2:V<(v1+1)*bz^(e+1):=by rw[h.kz];exact(iv (cF d_)).1 (GL _)
   have h3:=AJ h2 (show 0<bz by decide);have h4:(v1+1)*bz^(e+1)*bz=(v1*bz+bz)*bz^(e+1):=by rw[AM,fp v1 1 bz,pK]
   omega
  by_cases hc:T/v1<=bz-1
  ·have e1:A=T/v1:=by rw[o5];exact nh hc
   have e2:r0=T%v1:=by have:=jf T v1;rw[nS,e1,cK];omega
   have:=cE T kz;have:=h.CC;omega
  ·have e1:A=bz-1:=by rw[o5];exact Vm o_
   obtain⟨k,hk⟩:∃ k,bz=k+1:=⟨bz-1,by omega⟩;have e2:A*v1+v1=v1*bz:=by rw[e1,hk,Na,cK v1,fp,pK]
   have:=h.CC;omega
 obtain⟨c,c1,c2,c3⟩:=yA (λi=>¬((r0+i*v1)*bz+u2<(A-i)*v2/\r0+i*v1<bz)) A (by rw[vo,lB];omega)
 have inv:∀ i,i<=c->AH U V T v1 (A-i) (r0+i*v1)/\r0+i*v1<2*bz/\i<=A:=by
  intro i;induction i with
  |zero=>intro _;rw[Gl,lB,ja];exact⟨g0,aOd,kB _⟩
  |succ i ih=>
   intro hi;obtain⟨i1,i2,i3⟩:=ih o_;obtain⟨k1,k2⟩:=Ew.1 (c3 i o_);obtain⟨l1,l2⟩:=h.less i1 (.inr k1);have e1:r0+(i+1)*v1=r0+i*v1+v1:=by rw[fp,pK];omega
   have e2:A-(i+1)=A-i-1:=by omega
   have:=h.CC;rw[e1,e2];exact⟨l2,by omega,by omega⟩
 obtain⟨gc,gb,gq⟩:=inv c (bh _);have Dq:=h.fin gc (by
  by_cases k1:(r0+c*v1)*bz+u2<(A-c)*v2
  ·exact .inr (Oh λk2=>c2 ⟨k1,k2⟩)
  ·exact .inl ⟨by omega,by omega⟩)
 refine⟨A-c,Dq.1,Dq.2,gc.le,λBs=>?_⟩
 have:=ck (P:=prog) (B:=Bs) (N:=238) (b:=aF (ag f230 2)) (next:=10) (r:=⟨.exit 2,xJ e L j T (A-c),xK ru rv,10⟩) c (λi=>xJ e L j T (A-i)) (λ_=>xK ru rv) (λ_ _ _=>Iff.rfl)
  (λi hi=>by
   obtain⟨i1,i2,i3⟩:=inv i o_;obtain⟨j1,j2,j3⟩:=inv (i+1) o_;obtain⟨k1,k2⟩:=Ew.1 (c3 i hi);obtain⟨q,hq⟩:∃ q,A-i=q+1:=⟨A-i-1,by omega⟩;have Bk:A-(i+1)=q:=by omega
   simp only[hq,Bk]at i1 k1 ⊢;exact aN9 g o_ i1.eq k2 k1)
  (by
   by_cases k1:(r0+c*v1)*bz+u2<(A-c)*v2
   ·exact aOb g o_ gc.eq gb k1 (λk2=>c2 ⟨k1,k2⟩)
   ·exact aOa g o_ gc.eq gb k1) n_
 exact bO (id:=2) this
end
theorem aCW(x:Int):IntKind.i64.wrap (((BitVec.ofInt IntKind.i64.bits x)&&& (BitVec.ofInt IntKind.i64.bits 16777215)).toNat:Int)=x%16777216:=aCS x 24 d_
theorem aCX(x:Int):x.fdiv ((2:Int)^24)=x/16777216:=rO _ d_
section
variable{Bs:ae}{e L j U V q R D:Nat}{rv:ah}
def Dr(e L j U V q i:Nat):aM:=[(16,.int .i64 (ri bz U V q i)),(17,vI i),(10,vI (e+2)),(11,sl 8 L),(13,da (j+1)),(15,vI q),(9,sl 3 (e+2))]
def pj(L j R D i:Nat):ah:=ak (cW bz L (j+i) (ga bz j R D) R)
def zD(L j R D i:Nat)(rv:ah):aE:=[(8,.row (pj L j R D i) 3 1),(3,.row rv 3 1)]
structure SU(e L j U V q R D:Nat)(rv:ah):Prop where
 hL:j+(e+2)+1<=L
 hU:U=R/bz^j
 xL:rv=ak (aa bz (e+2) V)
 hq:q<bz
 hD:D=fR bz (e+2) U V q
 K3:q*V<=U+bz^(e+2+1)
 h63:L<35184372088832
theorem aOe(g:SU e L j U V q R D rv)(hi:i<e+2):
  af prog Bs 238 (aF (ag f230 4)) (Dr e L j U V q i) (zD L j R D i rv) 10 ⟨.normal,Dr e L j U V q (i+1),zD L j R D (i+1) rv,10⟩:=by
 have h63:=g.h63;have hL:=g.hL;have hq:=g.hq;have hc:=aCU (B:=bz) d_ U V q i;have hs:=aN6 (B:=bz) d_ (i:=i) g.K3 o_;rw[<-g.hD]at hs;have c9:=aN2 (B:=bz) d_ U V q i;have Vn:dE prog 3 (pj L j R D i) (j+i)=some (vI (U/bz^i%bz)):=by have:=dP (Cg (B:=bz) (n:=L) (i:=j+i) (s:=ga bz j R D) (p:=R) (j:=j+i) o_ (bh _));rw[GN,<-g.hU]at this;exact this
 have Vo:dE prog 3 rv i=some (vI (V/bz^i%bz)):=by rw[g.xL];exact dP (ee hi)
 have bK:eT prog 3 (pj L j R D i) (j+i) (vI (D/bz^i%bz))=some (pj L j R D (i+1)):=by unfold pj;rw[vQ (by rw[wL];omega),yB o_ (wZ d_ j R D i).symm];rfl
 have hu:=gO (B:=bz) d_ U i;have hv:=gO (B:=bz) d_ V i;have jI:bz=16777216:=rfl;have aOf:((bz:Nat):Int)=16777216:=rfl;rw[aOf]at hs c9;unfold Dr zD;generalize pj L j R D (i+1)=r1 at *;generalize pj L j R D i=r0 at *;generalize ri bz U V q (i+1)=c' at *;generalize ri bz U V q i=c at *;generalize D/bz^i%bz=z at *;generalize U/bz^i%bz=u at *;generalize V/bz^i%bz=v at *;have hp:=pJ hq hv;rw[show bz*bz=281474976710656 by decide]at hp;have e1:(q:Int)*(v:Int)=((q*v:Nat):Int):=by simp
 rw[e1]at hs c9;generalize Vp:q*v=p at *;have w1:IntKind.i64.wrap ((u:Int)-(p:Int))=(u:Int)-(p:Int):=by rw[dU];omega
 have w2:IntKind.i64.wrap (c+((u:Int)-(p:Int)))=c+((u:Int)-(p:Int)):=by rw[dU];omega
 generalize hx:c+((u:Int)-(p:Int))=x at *;have w3:=aCW x;rw[hs]at w3;have w4:=aCX x;rw[c9]at w4;exact fE mixed 200 [.lt 141 i (e+2) true (by simp[hi]),.rw 146 (da (j+1)) (vI j) (dV j),.sum 148 j i (j+i) rfl o_,.ix f230 149 8 L (j+i) o_ k_,.ld f230 150 3 8 (j+i) (.row r0 3 1) (vI u) rfl Vn k_,.ix f230 154 3 (e+2) i hi k_,.ld f230 155 3 3 i (.row rv 3 1) (vI v) rfl Vo k_,.sF 156 q v p Vp.symm o_,.wr 157 .i64 _ _ w1,.wr 158 .i64 (c+((u:Int)-(p:Int))) x (by rw[hx];exact w2),.rw 160 (da (j+1)) (vI j) (dV j),.sum 162 j i (j+i) rfl o_,.wr 164 .i64 _ (z:Int) w3,.ix f230 165 8 L (j+i) o_ k_,.st f230 100165 3 8 (j+i) (.row r0 3 1) (vI z) (.row r1 3 1) rfl bK rfl k_,.quo 167 .i64 _ c' w4,.sum 143 i 1 (i+1) rfl o_] k_
theorem aOg(g:SU e L j U V q R D rv):af prog Bs 238 (.block 4 (ag f230 4)) (Dr e L j U V q 0) (zD L j R D 0 rv) 10 ⟨.normal,Dr e L j U V q (e+2),zD L j R D (e+2) rv,10⟩:=
 bO (id:=4) (ck (b:=aF (ag f230 4)) (r:=⟨.exit 4,Dr e L j U V q (e+2),zD L j R D (e+2) rv,10⟩) (e+2) (Dr e L j U V q) (λi=>zD L j R D i rv) (λk t _=>jO (l:=zD L j R D k rv) (m:=zD L j R D 0 rv) rfl t) (λk hk=>aOe g hk)
  (fE mixed 200 [.lt 141 (e+2) (e+2) false s_] k_) n_)
def Ds(e L j V D q i:Nat):aM:=[(16,vI (eL bz D V i)),(18,vI i),(10,vI (e+2)),(11,sl 8 L),(13,da (j+1)),(15,vI q),(9,sl 3 (e+2))]
def ql(L j R D E m i:Nat):ah:=(ak (cW bz L (j+i) (ga bz j R E) (ga bz j R D))).set (j+m) (.int .i64 (-1))
def zE(L j R D E m i:Nat)(rv:ah):aE:=[(8,.row (ql L j R D E m i) 3 1),(3,.row rv 3 1)]
theorem aOh{E:Nat}(hL:j+(e+2)+1<=L)(xL:rv=ak (aa bz (e+2) V))(hE:E=(D+V)%bz^(e+2+1))(h63:L<35184372088832)(hi:i<e+2):
  af prog Bs 238 (aF (ag f230 6)) (Ds e L j V D q i) (zE L j R D E (e+2) i rv) 10 ⟨.normal,Ds e L j V D q (i+1),zE L j R D E (e+2) (i+1) rv,10⟩:=by
 have hc:=As (B:=bz) d_ D V i;have hs:=Sk (B:=bz) (V:=V) d_ (D:=D) (show i<=e+2 by omega);rw[<-hE]at hs;have c9:=Ep (B:=bz) d_ D V i;have Vn:dE prog 3 (ql L j R D E (e+2) i) (j+i)=some (vI (D/bz^i%bz)):=by unfold ql;rw[Fq,List.getElem?_set_ne o_,<-Fq,dP (Cg o_ (bh _)),wZ d_]
 have Vo:dE prog 3 rv i=some (vI (V/bz^i%bz)):=by rw[xL];exact dP (ee hi)
 have bK:eT prog 3 (ql L j R D E (e+2) i) (j+i) (vI (E/bz^i%bz))=some (ql L j R D E (e+2) (i+1)):=by unfold ql;unfold vI;rw[Pj _ _ _ (by rw[Vq,nD,wL];omega),List.set_comm _ _ o_];have:=Pk (cW bz L (j+i) (ga bz j R E) (ga bz j R D)) (j+i) (E/bz^i%bz);unfold vI at this;rw[this,yB o_ (wZ d_ j R E i).symm];rfl
 have hu:=gO (B:=bz) d_ D i;have hv:=gO (B:=bz) d_ V i;have jI:bz=16777216:=rfl;unfold Ds zE;generalize ql L j R D E (e+2) (i+1)=r1 at *;generalize ql L j R D E (e+2) i=r0 at *;generalize eL bz D V (i+1)=c' at *;generalize eL bz D V i=c at *;generalize E/bz^i%bz=z at *;generalize D/bz^i%bz=u at *;generalize V/bz^i%bz=v at *;rw[show u+v+c=c+(u+v)by omega]at hs c9;have w3:=aCW ((c+(u+v):Nat):Int);have w4:=aCX ((c+(u+v):Nat):Int);rw[show((c+(u+v):Nat):Int)%16777216=(z:Int)by rw[<-hs];rfl]at w3;rw[show((c+(u+v):Nat):Int)/16777216=(c':Int)by rw[<-c9];rfl]at w4;exact fE mixed 200 [.lt 188 i (e+2) true (by simp[hi]),.rw 193 (da (j+1)) (vI j) (dV j),.sum 195 j i (j+i) rfl o_,.ix f230 196 8 L (j+i) o_ k_,.ld f230 197 3 8 (j+i) (.row r0 3 1) (vI u) rfl Vn k_,.ix f230 200 3 (e+2) i hi k_,.ld f230 201 3 3 i (.row rv 3 1) (vI v) rfl Vo k_,.sum 202 u v (u+v) rfl o_,.sum 203 c (u+v) (c+(u+v)) rfl o_,.rw 205 (da (j+1)) (vI j) (dV j),.sum 207 j i (j+i) rfl o_,.wr 209 .i64 _ (z:Int) w3,.ix f230 210 8 L (j+i) o_ k_,.st f230 100210 3 8 (j+i) (.row r0 3 1) (vI z) (.row r1 3 1) rfl bK rfl k_,.quo 212 .i64 _ (c':Int) w4,.sum 190 i 1 (i+1) rfl o_] k_
theorem aOi{E:Nat}(hL:j+(e+2)+1<=L)(xL:rv=ak (aa bz (e+2) V))(hE:E=(D+V)%bz^(e+2+1))(h63:L<35184372088832):
  af prog Bs 238 (.block 6 (ag f230 6)) (Ds e L j V D q 0) (zE L j R D E (e+2) 0 rv) 10 ⟨.normal,Ds e L j V D q (e+2),zE L j R D E (e+2) (e+2) rv,10⟩:=
 bO (id:=6) (ck (b:=aF (ag f230 6)) (r:=⟨.exit 6,Ds e L j V D q (e+2),zE L j R D E (e+2) (e+2) rv,10⟩) (e+2) (Ds e L j V D q) (λi=>zE L j R D E (e+2) i rv) (λk t _=>jO (l:=zE L j R D E (e+2) k rv) (m:=zE L j R D E (e+2) 0 rv) rfl t) (λk hk=>aOh hL xL hE h63 hk)
  (fE mixed 200 [.lt 188 (e+2) (e+2) false s_] k_) n_)
end
theorem aOj{B L S R:Nat}(hi:i<L)(hR:R<B^(i+1))(hS:S<B^(i+1))(hB:0<B)(x:i_):(ak (cW B L i S R)).set i x=(ak (aa B L S)).set i x:=by have h:=yB (B:=B) (n:=L) (i:=i) (s:=S) (p:=R) hi rfl;rw[EG hB hR hS]at h;rw[<-h,<-Pk,List.set_set]
structure K4(e L A V:Nat):Prop where
 hV:V<bz^(e+2)
 top:bz<=2*(V/bz^(e+1))
 hL:e+3<=L
 hA:A<V*bz^(L-(e+2))
 h63:L<35184372088832
theorem K4.pos{L V:Nat}(h:K4 e L A V):0<V:=by
 rcases nq V with e1|e1
 ·have:=h.hA;rw[e1,lB]at this;omega
 ·exact e1
section
variable{Bs:ae}{e L A V p:Nat}
def Dt(e L p j:Nat):aM:=[(13,da j),(12,sl 9 p),(10,vI (e+2)),(9,sl 3 (e+2)),(11,sl 8 L)]
def zF(e L A V p j:Nat):aE:=[(8,.row (ak (aa bz L (A%(V*bz^j)))) 3 1),(9,.row (ak (gv bz p j (A/V))) 3 1),(3,.row (ak (aa bz (e+2) V)) 3 1)]
theorem aOk(h:K4 e L A V)(hp:p+(e+2)=L)(hj:j<p):
  af prog Bs 238 (aF (ag f230 0)) (Dt e L p (j+1)) (zF e L A V p (j+1)) 10 ⟨.normal,Dt e L p j,zF e L A V p j,10⟩:=by
 have h63:=h.h63;have qI:=h.pos;have hV:=h.hV;have Am:j+(e+2)+1<=L:=by omega
 obtain⟨R,hR⟩:∃ R,R=A%(V*bz^(j+1)):=⟨_,rfl⟩;obtain⟨U,hU⟩:∃ U,U=R/bz^j:=⟨_,rfl⟩;have H2:U<V*bz:=by rw[hU,hR];exact ZE d_ qI A j
 have rD:=ZC (B:=bz) d_ A V j;have aCY:=ZD (B:=bz) A V j;rw[<-hR,<-hU]at rD aCY;have EO:R<bz^(j+(e+2)+1):=by
  have h1:R<V*bz^(j+1):=by rw[hR];exact cE _ (qJ qI (cF d_))
  have h2:V*bz^(j+1)<=bz^(e+2)*bz^(j+1):=eZ _ (jD hV);rw[<-eh,show e+2+(j+1)=j+(e+2)+1 by omega]at h2;omega
 have aOl:U<bz^(e+2+1):=by rw[dr];exact cC H2 (eZ _ (jD hV))
 obtain⟨T,hT⟩:∃ T,T=U/bz^(e+1):=⟨_,rfl⟩;obtain⟨v1,kz⟩:∃ v1,v1=V/bz^(e+1):=⟨_,rfl⟩;have aCZ:V/bz^(e+1)%bz=v1:=by rw[kz];exact Eo hV
 have aC0:v1<bz:=by rw[<-aCZ];exact cE _ d_
 have ds:lX bz e U V T (U/bz^e%bz) v1 (V/bz^e%bz):={ hB:=by decide,hU:=H2,hT:=hT,hu:=rfl,kz:=kz,iu:=rfl,top:=by rw[kz];exact h.top,CC:=aC0 };have lU:∀ i,i<=e+2->dE prog 3 (ak (aa bz L R)) (j+i)=some (vI (U/bz^i%bz)):=λi hi=>by have:=dP (ee (B:=bz) (n:=L) (a:=R) (i:=j+i) o_);rw[GN,<-hU]at this;exact this
 obtain⟨rv,xL⟩:∃ rv,rv=ak (aa bz (e+2) V):=⟨_,rfl⟩;have Vr:dE prog 3 rv (e+1)=some (vI v1):=by rw[xL,<-aCZ];exact dP (ee o_)
 have lV0:dE prog 3 rv e=some (vI (V/bz^e%bz)):=by rw[xL];exact dP (ee o_)
 have g:GU e L j T v1 (V/bz^e%bz) (U/bz^e%bz) (ak (aa bz L R)) rv:=⟨Am,Vr,lV0,lU e o_,aC0,cE _ d_,cE _ d_,h63⟩;obtain⟨q0,o5⟩:∃ q0,q0=min (T/v1) (bz-1):=⟨_,rfl⟩;obtain⟨q,GR,K3,aOm,gl⟩:=aOc g ds o5;obtain⟨D,hD⟩:∃ D,D=fR bz (e+2) U V q:=⟨_,rfl⟩;have aOn:D<bz^(e+2+1):=by rw[hD];exact Si d_
 have aUy:V<=bz^(e+2+1):=dc (jD hV) (c7 d_ o_);have sg:SU e L j U V q R D rv:=⟨Am,hU,xL,GR,hD,by omega,h63⟩;have sl:=aOg (Bs:=Bs) sg;have Vt:ga bz j R D<bz^(j+(e+2)+1):=by have:=GM (B:=bz) d_ (j:=j) R aOn;rwa[show j+(e+2+1)=j+(e+2)+1 by omega]at this
 have pU:pj L j R D 0=ak (aa bz L R):=by unfold pj;rw[ja,Nb d_]
 have iS:dE prog 3 (pj L j R D (e+2)) (j+(e+2))=some (vI (U/bz^(e+2)%bz)):=by have:=dP (Cg (B:=bz) (n:=L) (i:=j+(e+2)) (s:=ga bz j R D) (p:=R) (j:=j+(e+2)) o_ (bh _));rw[GN,<-hU]at this;exact this
 have w7:=aN7 (B:=bz) d_ hV H2 K3;have hsb:=aCU (B:=bz) d_ U V q (e+2);have K5:U/bz^(e+2)%bz*bz+U/bz^(e+1)%bz=T:=by have h1:=wM (B:=bz) U (e+1);have h2:U/bz^(e+2)%bz=U/bz^(e+2):=Eo aOl;rw[h2,hT];exact h1.symm
 have iE:U/bz^(e+2)%bz<bz:=cE _ d_;have vE:U/bz^(e+1)%bz<bz:=cE _ d_;have ll:=lU (e+2) (bh _);have uZ:=lU (e+1) o_;have Vu:eT prog 3 (ak (gv bz p (j+1) (A/V))) j (vI (U/V))=some (ak (gv bz p j (A/V))):=by rw[vQ (by rw[MI];exact hj),MK hj aCY]
 have hTb:T<281474976710656+16777216:=by have jI:bz=16777216:=rfl;rw[jI]at iE vE K5;omega
 have EH:(v1:Int)≠0:=by have:=ds.top;have jI:bz=16777216:=rfl;omega
 have wq:IntKind.i64.wrap (Int.tdiv (T:Int) (v1:Int))=((T/v1:Nat):Int):=by have hq:T/v1<=T:=tf _ _;rw[Az o_,<-te,dU];omega
 unfold Dt zF;rw[<-hR,<-xL];unfold Dr zD at sl;rw[pU,aN0]at sl;unfold xJ xK at gl;have gl:=gl Bs;have jI:bz=16777216:=rfl;rw[<-hD]at w7;by_cases hb:U<q*V
 ·-- the aUz Yv too aUA
  obtain⟨g1,g2⟩:=ZB (B:=bz) d_ hV H2 K3 hb;have Jz:=aN8 (B:=bz) d_ hV H2 K3 hb;rw[<-hD]at g2 Jz;obtain⟨E,hE⟩:∃ E,E=(D+V)%bz^(e+2+1):=⟨_,rfl⟩;have bl:=aOi (Bs:=Bs) (q:=U/V) (R:=R) (D:=D) Am xL hE h63;rw[<-hE]at g2;rw[<-g2]at rD;have aC1:E<bz^(e+2):=by rw[g2];exact lD (cE _ qI) hV
  have hS2:ga bz j R E<bz^(j+(e+2)+1):=by have:=GM (B:=bz) d_ (j:=j) R (cC aC1 (c7 (n:=bz) d_ (yq _)));rwa[show j+(e+2).succ=j+(e+2)+1 by omega]at this
  have kJ:ql L j R D E (e+2) 0=(pj L j R D (e+2)).set (j+(e+2)) (.int .i64 (-1)):=by unfold ql pj;rw[aOj o_ EO Vt d_,ja,<-Zy d_ j R D E,Nb d_]
  have Jx:eT prog 3 (pj L j R D (e+2)) (j+(e+2)) (.int .i64 (-1))=some (ql L j R D E (e+2) 0):=by rw[kJ];exact Pj _ _ _ (by unfold pj;rw[nD,wL];omega)
  have Du:∀ i,dE prog 3 (ql L j R D E (e+2) i) (j+(e+2))=some (.int .i64 (-1)):=λi=>by unfold ql;rw[Fq,List.getElem?_set_self (by rw[nD,wL];omega)]
  have aOo:=Du 0;have aOp:=Du (e+2);have Sq:eT prog 3 (ql L j R D E (e+2) (e+2)) (j+(e+2)) (.int .i64 0)=some (ak (aa bz L (A%(V*bz^j)))):=by unfold ql;rw[Pj _ _ _ (by rw[Vq,nD,wL];omega),List.set_set];have h1:=yB (B:=bz) (n:=L) (i:=j+(e+2)) (s:=ga bz j R E) (p:=ga bz j R D) (d:=0) o_ (by rw[wZ d_,qG aC1 (bh _) d_]);rw[EG d_ Vt hS2]at h1;have h2:=Pk (cW bz L (j+(e+2)) (ga bz j R E) (ga bz j R D)) (j+(e+2)) 0;rw[h1]at h2;exact ch some (h2.trans (by rw[rD]))
  rw[au hb]at w7;unfold Ds zE at bl;rw[ME,Jz]at bl;generalize ak (aa bz L (A%(V*bz^j)))=r9 at *;generalize ak (aa bz L R)=r0 at *;generalize pj L j R D (e+2)=r1 at *;generalize ql L j R D E (e+2) 0=r2 at *;generalize ql L j R D E (e+2) (e+2)=r3 at *;generalize ak (gv bz p (j+1) (A/V))=p0 at *;generalize ak (gv bz p j (A/V))=p1 at *;generalize ri bz U V q (e+2)=c at *;generalize U/bz^(e+2)%bz=t1 at *;generalize U/bz^(e+1)%bz=t0 at *;generalize U/V=qq at *;have Vv:IntKind.i64.wrap ((t1:Int)+c)=-1:=by rw[dU];omega
  have m1:t1*bz<281474976710656:=by rw[jI];omega
  obtain⟨x1,iD⟩:∃ x1,x1=t1*bz:=⟨_,rfl⟩;rw[<-iD]at K5 m1;exact fE mixed 400 [.rw 72 (da (j+1)) (vI j) (dV j),.ge 73 j 0 true s_,.rw 77 (da (j+1)) (vI j) (dV j),.sum 79 j (e+2) (j+(e+2)) rfl o_,.ix f230 80 8 L (j+(e+2)) o_ k_,.ld f230 81 3 8 (j+(e+2)) (.row r0 3 1) (vI t1) rfl ll k_,.sF 82 t1 bz x1 iD o_,.rw 84 (da (j+1)) (vI j) (dV j),.sum 86 j (e+2) (j+(e+2)) rfl o_,.eW 87 (j+(e+2)) 1 (j+(e+1)) o_ o_,.ix f230 88 8 L (j+(e+1)) o_ k_,.ld f230 89 3 8 (j+(e+1)) (.row r0 3 1) (vI t0) rfl uZ k_,.sum 90 x1 t0 T K5.symm o_,.eW 94 (e+2) 1 (e+1) o_ o_,.ix f230 95 3 (e+2) (e+1) o_ k_,.ld f230 96 3 3 (e+1) (.row rv 3 1) (vI v1) rfl Vr k_,.vm f230 97 .i64 (T:Int) (v1:Int) ((T/v1:Nat):Int) EH wq k_,.Pt f230 98 (T/v1) (bz-1) q0 o5 k_,.code 2 _ _ _ _ _ gl,.code 4 _ _ _ _ _ sl,.rw 169 (da (j+1)) (vI j) (dV j),.sum 171 j (e+2) (j+(e+2)) rfl o_,.ix f230 172 8 L (j+(e+2)) o_ k_,.ld f230 173 3 8 (j+(e+2)) (.row r1 3 1) (vI t1) rfl iS k_,.wr 175 .i64 ((t1:Int)+c) (-1) Vv,.ix f230 176 8 L (j+(e+2)) o_ k_,.st f230 100176 3 8 (j+(e+2)) (.row r1 3 1) (.int .i64 (-1)) (.row r2 3 1) rfl Jx rfl k_,.rw 178 (da (j+1)) (vI j) (dV j),.sum 180 j (e+2) (j+(e+2)) rfl o_,.ix f230 181 8 L (j+(e+2)) o_ k_,.ld f230 182 3 8 (j+(e+2)) (.row r2 3 1) (.int .i64 (-1)) rfl aOo k_,.eW 185 q 1 qq o_ o_,.code 6 _ _ _ _ _ bl,.rw 214 (da (j+1)) (vI j) (dV j),.sum 216 j (e+2) (j+(e+2)) rfl o_,.ix f230 217 8 L (j+(e+2)) o_ k_,.ld f230 218 3 8 (j+(e+2)) (.row r3 3 1) (.int .i64 (-1)) rfl aOp k_,.wr 220 .i64 (-1+((1:Nat):Int)) 0 d_,.ix f230 221 8 L (j+(e+2)) o_ k_,.st f230 100221 3 8 (j+(e+2)) (.row r3 3 1) (.int .i64 0) (.row r9 3 1) rfl Sq rfl k_,
   .rw 223 (da (j+1)) (vI j) (dV j),.ix f230 225 9 p j hj k_,.st f230 100225 3 9 j (.row p0 3 1) (vI qq) (.row p1 3 1) rfl Vu rfl k_,.rw 74 (da (j+1)) (vI j) (dV j),.wr 75 .i64 ((j:Int)-1) ((j:Int)-1) (oB o_)] k_
 ·obtain⟨g1,g2⟩:=ZA (B:=bz) d_ hV H2 aOm hb;rw[<-hD]at g2;rw[<-g2]at rD;have Jx:eT prog 3 (pj L j R D (e+2)) (j+(e+2)) (vI (D/bz^(e+2)%bz))=some (ak (aa bz L (A%(V*bz^j)))):=by unfold pj;rw[vQ (by rw[wL];omega),yB o_ (wZ d_ j R D (e+2)).symm,EG d_ EO Vt,rD]
  have Du:dE prog 3 (ak (aa bz L (A%(V*bz^j)))) (j+(e+2))=some (vI (D/bz^(e+2)%bz)):=by rw[<-rD,dP (ee o_),wZ d_]
  rw[al hb]at w7;have Ub:D/bz^(e+2)%bz<bz:=cE _ d_;rw[<-g1]at Vu;generalize ak (aa bz L (A%(V*bz^j)))=r9 at *;generalize ak (aa bz L R)=r0 at *;generalize pj L j R D (e+2)=r1 at *;generalize ak (gv bz p (j+1) (A/V))=p0 at *;generalize ak (gv bz p j (A/V))=p1 at *;generalize ri bz U V q (e+2)=c at *;generalize U/bz^(e+2)%bz=t1 at *;generalize U/bz^(e+1)%bz=t0 at *;generalize D/bz^(e+2)%bz=d at *;have Vv:IntKind.i64.wrap ((t1:Int)+c)=(d:Int):=by rw[dU];omega
  have m1:t1*bz<281474976710656:=by rw[jI];omega
  obtain⟨x1,iD⟩:∃ x1,x1=t1*bz:=⟨_,rfl⟩;rw[<-iD]at K5 m1;exact fE mixed 400 [.rw 72 (da (j+1)) (vI j) (dV j),.ge 73 j 0 true s_,.rw 77 (da (j+1)) (vI j) (dV j),.sum 79 j (e+2) (j+(e+2)) rfl o_,.ix f230 80 8 L (j+(e+2)) o_ k_,.ld f230 81 3 8 (j+(e+2)) (.row r0 3 1) (vI t1) rfl ll k_,.sF 82 t1 bz x1 iD o_,.rw 84 (da (j+1)) (vI j) (dV j),.sum 86 j (e+2) (j+(e+2)) rfl o_,.eW 87 (j+(e+2)) 1 (j+(e+1)) o_ o_,.ix f230 88 8 L (j+(e+1)) o_ k_,.ld f230 89 3 8 (j+(e+1)) (.row r0 3 1) (vI t0) rfl uZ k_,.sum 90 x1 t0 T K5.symm o_,.eW 94 (e+2) 1 (e+1) o_ o_,.ix f230 95 3 (e+2) (e+1) o_ k_,.ld f230 96 3 3 (e+1) (.row rv 3 1) (vI v1) rfl Vr k_,.vm f230 97 .i64 (T:Int) (v1:Int) ((T/v1:Nat):Int) EH wq k_,.Pt f230 98 (T/v1) (bz-1) q0 o5 k_,.code 2 _ _ _ _ _ gl,.code 4 _ _ _ _ _ sl,.rw 169 (da (j+1)) (vI j) (dV j),.sum 171 j (e+2) (j+(e+2)) rfl o_,.ix f230 172 8 L (j+(e+2)) o_ k_,.ld f230 173 3 8 (j+(e+2)) (.row r1 3 1) (vI t1) rfl iS k_,.wr 175 .i64 ((t1:Int)+c) (d:Int) Vv,.ix f230 176 8 L (j+(e+2)) o_ k_,.st f230 100176 3 8 (j+(e+2)) (.row r1 3 1) (vI d) (.row r9 3 1) rfl Jx rfl k_,.rw 178 (da (j+1)) (vI j) (dV j),.sum 180 j (e+2) (j+(e+2)) rfl o_,.ix f230 181 8 L (j+(e+2)) o_ k_,.ld f230 182 3 8 (j+(e+2)) (.row r9 3 1) (vI d) rfl Du k_,.lt 183 d 0 false s_,.rw 223 (da (j+1)) (vI j) (dV j),.ix f230 225 9 p j hj k_,.st f230 100225 3 9 j (.row p0 3 1) (vI q) (.row p1 3 1) rfl Vu rfl k_,.rw 74 (da (j+1)) (vI j) (dV j),.wr 75 .i64 ((j:Int)-1) ((j:Int)-1) (oB o_)] k_
theorem aOq(h:K4 e L A V)(hp:p+(e+2)=L):
  af prog Bs 238 (.block 0 (ag f230 0)) (Dt e L p p) (zF e L A V p p) 10 ⟨.normal,Dt e L p 0,zF e L A V p 0,10⟩:=by
 have:=ck (P:=prog) (B:=Bs) (N:=238) (b:=aF (ag f230 0)) (next:=10) (r:=⟨.exit 0,Dt e L p 0,zF e L A V p 0,10⟩) p (λi=>Dt e L p (p-i)) (λi=>zF e L A V p (p-i)) (λi t _=>jO (l:=zF e L A V p (p-i)) (m:=zF e L A V p (p-0)) rfl t)
  (λi hi=>by
   have e1:p-i=(p-(i+1))+1:=by omega
   simp only[e1];exact aOk h hp o_)
  (by simp only[vo];exact az [.rw 73 (.bool (decide (((0:Nat):Int)-1>=0))) a_ rfl]) n_
 exact bO (id:=0) this
end
def BG(w:h_)(v:i_)(a:Nat):Prop:=c8 w v (nd bz a) (cH a)
def uL(w w':h_)(v:i_)(a:Nat):Prop:=w'.ownsRow w.heap.size 3 1 v (nd bz a) (cH a)
theorem Pv(hm:aJ (ae.at w) ι c w'){n:Nat}{v:i_}(hk:c k=some (.row (ak (aa bz n a)) 3 1))(ha:a<bz^n)(hv:aH ι (sl k (nd bz a)) v):uL w w' v a:=by have:=vk hm hk hv (Fy ha) (mh _);rw[BC ha]at this;exact this
theorem Pw{s:Nat}(h:s<bz):aa bz 1 s=[s]:=by simp[aa,dJ h]
theorem Vw{s:Nat}(h:s<bz)(h0:s≠0):nd bz s=1:=by have h3:=jd (B:=bz) (n:=1) d_ (by rw[Cw];exact h);have h4:=wJ (B:=bz) d_ h0;omega
theorem aOr{n:Nat}(h:A<bz^n):aa bz (n+2) A=aa bz n A++[0,0]:=by unfold aa;rw[show n+2=n+1+1 from rfl,JZ,JZ,wj,wj,B8];simp only[qE,M8,GD,jy];rw[qG h (bh _) d_,qG h (yq _) d_]
theorem aOs{B:Nat}(hd:0<d)(mH:d<B)(he:B%2=0):B<=2*(d*(B/(d+1))):=by
 obtain⟨s,hs⟩:∃ s,s=B/(d+1):=⟨_,rfl⟩;rw[<-hs];have hdm:=jf B (d+1);have MZ:=cE B (show 0<d+1 by omega);rw[<-hs]at hdm;have wB:0<s:=by rw[hs];exact Ng mH (SD d)
 rcases eU (2*d) B with h|h
 ·apply Oh;intro ao;have ao:2*(d*s)+2<=B:=by omega
  obtain⟨X,hX⟩:∃ X,X=(d+1)*s:=⟨_,rfl⟩;rw[<-hX]at hdm;have h1:=eZ (d+1) ao;rw[fp,fK,fK d s,cK s,<-hX,oz B,gn]at h1;have h2:=jq d (show B<=X+d by omega);rw[oz]at h2;obtain⟨k,hk⟩:∃ k,d=k+1:=⟨d-1,by omega⟩;have h3:=jq k (jD h);have h4:d*B=k*B+B:=by rw[hk,fp,pK]
  have h5:k*(2*d)+2*d=2*(d*d):=by
   have:d*d=k*d+d:=by conv=>lhs;rw[hk,fp,pK,<-hk]
   rw[this,mG];omega
  rw[cK B d]at h1;omega
 ·have:=jq d wB;rw[gn]at this;have:d*1<=d*s:=jq d wB;omega
theorem Vx(h:decide (a<b)=t):Value.bool (decide (gP a b<0))=.bool t:=by
 rw[<-h];congr 1;rw[oW];unfold gP
 by_cases h1:a<b
 ·rw[au h1];omega
 ·rw[al h1];by_cases h2:b<a
  ·rw[au h2];omega
  ·rw[al h2];omega
theorem aUV{vb:i_}(fZ:BG w va a)(kW:BG w vb b)(bW:a<b)(h1:nd bz a<35184372088832)(h2:nd bz b<35184372088832):
  Calls prog 230 #[va,vb] w λe w'=>e=.returned (.tuple #[.slice none 0 0,va])/\Below w.heap.size w w':=by
 have hl:∀ s∈[cA.row va (nd bz a) (cH a),cA.row vb (nd bz b) (cH b)],s.OK w:=by
  intro s hs;simp at hs;rcases hs with rfl|rfl
  ·exact⟨fZ,mh _⟩
  ·exact⟨kW,mh _⟩
 refine lC (Q:=λe w'=>e=.returned (.tuple #[.slice none 0 0,va])/\Below w.heap.size w w') mixed func230 [cA.row va (nd bz a) (cH a),cA.row vb (nd bz b) (cH b)] hl 200 (N:=238) k_
  (rs:=[(.HY f230 23 0 1 a b (.view (cH a)) (.view (cH b)) rfl rfl rfl rfl h1 h2 k_:aQ prog (ae.at w) 238),.rw 24 _ b_ (Vx (a:=a) (b:=b) (aC bW))])
  (v:=.tuple #[.slice none 0 0,sl 0 (nd bz a)]) (ms:=[]) k_ λav bX v' w' jW bo _ dz=>⟨?_,bo.base⟩
 obtain⟨cL,rfl,aU⟩:=jW.tS;obtain⟨p,q,hp,h3,h4⟩:=iY aU;cases dz with
 |cons h5 _=>
 have:q=va:=I6 h4 h5;have e:cL=#[p,q]:=vf.1 (by rw[hp]);rw[e,h3.fh rfl,this]
theorem aVr{vb:i_}(fZ:BG w va a)(kW:BG w vb b)(bW:b<=a)(kJ:b≠0)(hb:b<bz)(h1:nd bz a<35184372088832):
  Calls prog 230 #[va,vb] w λe w'=>∃ vq vr,e=.returned (.tuple #[vq,vr])/\uL w w' vq (a/b)/\uL w w' vr (a%b)/\Below w.heap.size w w':=by
 have cS:=Vw hb kJ;have mP:cH b=[vI b]:=by unfold cH;rw[cS,Pw hb];rfl
 have EI:c8 w vb 1 [vI b]:=by have:=kW;unfold BG at this;rw[cS,mP]at this;exact this
 have hl:∀ s∈[cA.row va (nd bz a) (cH a),cA.row vb 1 [vI b]],s.OK w:=by
  intro s hs;simp at hs;rcases hs with rfl|rfl
  ·exact⟨fZ,mh _⟩
  ·exact⟨EI,λv hv=>by simp at hv;subst hv;rfl⟩
 have hr:a%b<bz:=lD (cE _ (s8 kJ)) hb;have tF:a%b<bz^1:=by rw[Cw];exact hr
 have kU:cz prog (ae.at w) (ay f230 23) [.func (.func 178) #[] #[],sl 0 (nd bz a),sl 1 1] [(0,some (.view (cH a))),(1,some (.view [vI b]))] (.int .i64 (gP a b)) []:=by have:=pg (B:=ae.at w) (o:=ay f230 23) (x:=.func 178) (Ve (a:=a) (b:=b) h1 o_) (nE (k:=0) (x:=.view (cH a)) rfl rfl (nE (k:=1) (x:=.view (cH b)) rfl rfl .nil)) k_ k_ rfl;rw[cS,mP]at this;exact this
 refine lC (Q:=λe w'=>∃ vq vr,e=.returned (.tuple #[vq,vr])/\uL w w' vq (a/b)/\uL w w' vr (a%b)/\Below w.heap.size w w') mixed func230 [cA.row va (nd bz a) (cH a),cA.row vb 1 [vI b]] hl 200 (N:=238) k_
  (rs:=[(.step 23 (ay f230 23) _ _ _ _ kU:aQ prog (ae.at w) 238),.rw 24 _ a_ (Vx (a:=a) (b:=b) (aO o_)),.ld f230 33 3 1 0 (.view [vI b]) (vI b) rfl (by rw[Fq];rfl) k_,.step 34 (ay f230 34) _ _ _ _ (UO (x:=.func 244) (aCT (s8 kJ) hb h1) (nE (k:=0) (x:=.view (cH a)) rfl rfl (.p (v:=vI b) rfl .nil)) k_ k_ (sD _) rfl 2),.bs f230 39 3 1 3 1 [0] (vI 0) [vI (a%b)] #[vI (a%b)] (.row (ak (aa bz 1 (a%b))) 3 1) (by rw[Pw hr];rfl) (λv hv=>by simp at hv;subst hv;rfl) (λv hv=>by simp at hv;subst hv;rfl) k_ rfl o_ o_ k_,.Dg f230 40 3 1 (a%b) (.row (ak (aa bz 1 (a%b))) 3 1) rfl rfl tF o_ k_])
  (v:=.tuple #[sl 2 (nd bz (a/b)),sl 3 (nd bz (a%b))]) (ms:=[(2,iW (a/b)),(3,.row (ak (aa bz 1 (a%b))) 3 1)]) k_ λav bX v' w' jW bo dG _=>?_
 obtain⟨cL,rfl,aU⟩:=jW.tS;obtain⟨p,q,hp,h3,h4⟩:=iY aU;have e:cL=#[p,q]:=vf.1 (by rw[hp]);subst e;exact⟨p,q,rfl,Pv bo (dG _ (aL ..)) (dQ d_ _) h3,Pv bo (dG _ (bw _ (aL ..))) tF h4,bo.base⟩
theorem aVA{vb:i_}(fZ:BG w va a)(kW:BG w vb b)(bW:b<=a)(hb:nd bz b=e+2)(h1:nd bz a<17592186044000):
  Calls prog 230 #[va,vb] w λe w'=>∃ vq vr,e=.returned (.tuple #[vq,vr])/\uL w w' vq (a/b)/\uL w w' vr (a%b)/\Below w.heap.size w w':=by
 have jI:bz=16777216:=rfl;have ao:=dQ (B:=bz) d_ b;rw[hb]at ao;have hp:0<bz^(e+1):=cF d_;have fG:bz^(e+1)<=b:=YD d_ o_;have kJ:0<b:=cC hp fG;obtain⟨d,hd⟩:∃ d,d=b/bz^(e+1):=⟨_,rfl⟩;have lG:b/bz^(e+1)%bz=d:=by rw[hd];exact Eo ao
 have mH:d<bz:=by rw[<-lG];exact cE _ d_
 have CI:0<d:=by rw[hd];exact Ng fG hp
 obtain⟨s,hs⟩:∃ s,s=bz/(d+1):=⟨_,rfl⟩;have bK:=aOs CI mH d_;rw[<-hs]at bK;have pU:0<s:=by rw[hs];exact Ng mH (SD d)
 have U0:s*(d+1)<=bz:=by rw[hs];exact CE _ _
 have Px:s<bz:=by have:=jq s (show 2<=d+1 by omega);omega
 have wY:b*s<bz^(e+2):=by
  have h3:b<(d+1)*bz^(e+1):=by rw[hd];exact(iv hp).1 (GL _)
  have h5:=AJ h3 pU;have h6:=eZ (bz^(e+1)) U0;rw[cK bz,<-dr]at h6;have e1:(d+1)*bz^(e+1)*s=s*(d+1)*bz^(e+1):=by rw[cK _ s,fK]
  rw[e1]at h5;exact cC h5 h6
 have aC2:b<=b*s:=Ez _ pU;have Nk:nd bz (b*s)=e+2:=Zl (jd d_ wY) (by rw[<-hb];exact je d_ aC2);have w7:bz<=2*(b*s/bz^(e+1)):=by
  have:d*s<=b*s/bz^(e+1):=by rw[CD hp,AM];refine eZ _ ?_;rw[hd];exact CE _ _
  omega
 obtain⟨n,hn⟩:∃ n,n=nd bz (a*s):=⟨_,rfl⟩;have hA:=dQ (B:=bz) d_ (a*s);rw[<-hn]at hA;have hnb:n<=nd bz a+1:=by rw[hn];refine jd d_ ?_;rw[dr];exact pJ (dQ (B:=bz) d_ a) Px
 have aUB:e+2<=n:=by rw[hn,<-hb];exact je d_ (dc bW (Ez _ pU))
 obtain⟨p,Vp⟩:∃ p,p+(e+2)=n+2:=⟨n+2-(e+2),by omega⟩;have Vy:a*s<b*s*bz^p:=by have h3:bz^(e+1)*bz^p<=b*s*bz^p:=eZ _ (dc fG aC2);rw[<-eh,show e+1+p=n+1 by omega]at h3;have h4:bz^n<=bz^(n+1):=c7 d_ (yq _);omega
 have dv:K4 e (n+2) (a*s) (b*s):=⟨wY,w7,by omega,by rw[show n+2-(e+2)=p by omega];exact Vy,by omega⟩;have lo:=λBs=>aOq (Bs:=Bs) dv Vp;have hQ:a*s/(b*s)=a/b:=ZI _ _ pU;have SK:a*s%(b*s*bz^0)=a%b*s:=by rw[rP,gn,ZH]
 have SJ:a*s%(b*s*bz^p)=a*s:=dJ Vy;have JB:a/b<bz^p:=by rw[<-hQ,iv dv.pos,cK (bz^p)];exact Vy
 have G1:a%b*s<bz^(n+2):=by have h3:a%b*s<=a*s:=eZ _ (Jg _ _);have h4:bz^n<=bz^(n+2):=c7 d_ o_;omega
 have hnr:nd bz (a%b*s)<35184372088832:=by have:=jd (B:=bz) d_ G1;omega
 unfold zF at lo;rw[SJ,SK,hQ,MJ,Jh,<-KK]at lo;have hcA:cH (a*s)++[vI 0,vI 0]=ak (aa bz (n+2) (a*s)):=by unfold cH ak;rw[<-hn,aOr hA,wj];rfl
 have Af:=Vw Px o_;have fo:cH s=[vI s]:=by unfold cH;rw[Af,Pw Px];rfl
 have mP:cH b=ak (aa bz (e+2) b):=by unfold cH;rw[hb]
 have hcV:cH (b*s)=ak (aa bz (e+2) (b*s)):=by unfold cH;rw[Nk]
 have EI:c8 w vb (e+2) (ak (aa bz (e+2) b)):=by have:=kW;unfold BG at this;rw[hb,mP]at this;exact this
 have hl:∀ s∈[cA.row va (nd bz a) (cH a),cA.row vb (e+2) (ak (aa bz (e+2) b))],s.OK w:=by
  intro s hs;simp at hs;rcases hs with rfl|rfl
  ·exact⟨fZ,mh _⟩
  ·exact⟨EI,mh _⟩
 have kU:cz prog (ae.at w) (ay f230 23) [.func (.func 178) #[] #[],sl 0 (nd bz a),sl 1 (e+2)] [(0,some (.view (cH a))),(1,some (.view (ak (aa bz (e+2) b))))] (.int .i64 (gP a b)) []:=by have:=pg (B:=ae.at w) (o:=ay f230 23) (x:=.func 178) (Ve (a:=a) (b:=b) o_ o_) (nE (k:=0) (x:=.view (cH a)) rfl rfl (nE (k:=1) (x:=.view (cH b)) rfl rfl .nil)) k_ k_ rfl;rw[hb,mP]at this;exact this
 have cS:cz prog (ae.at w) (ay f230 52) [.func (.func 160) #[] #[],sl 1 (e+2),sl 2 1] [(3,none),(1,some (.view (ak (aa bz (e+2) b)))),(2,some (.row [vI s] 3 1))] (sl 3 (e+2)) [(3,.row (ak (aa bz (e+2) (b*s))) 3 1)]:=by have:=r8 (B:=ae.at w) (o:=ay f230 52) (x:=.func 160) (Va (a:=b) (b:=s) o_) (nE (k:=1) (x:=.view (cH b)) rfl rfl (nE (k:=2) (x:=.row (cH s) 3 1) rfl rfl .nil)) k_ k_ (sD _) 3;rw[hb,mP,Af,fo,Nk,hcV]at this;exact this
 have dx:cz prog (ae.at w) (ay f230 58) [.func (.func 160) #[] #[],sl 0 (nd bz a),sl 2 1] [(5,none),(0,some (.view (cH a))),(2,some (.row [vI s] 3 1))] (sl 5 n) [(5,.row (cH (a*s)) 3 1)]:=by have:=r8 (B:=ae.at w) (o:=ay f230 58) (x:=.func 160) (Va (a:=a) (b:=s) o_) (nE (k:=0) (x:=.view (cH a)) rfl rfl (nE (k:=2) (x:=.row (cH s) 3 1) rfl rfl .nil)) k_ k_ (sD _) 5;rw[Af,fo,<-hn]at this;exact this
 have uK:∀(xr:ah),xr=ak (aa bz (n+2) (a%b*s))->cz prog (ae.at w) (ay f230 232) [.func (.func 244) #[] #[],sl 8 (nd bz (a%b*s)),vI s] [(10,none),(8,some (.row xr 3 1))] (.tuple #[sl 10 (nd bz (a%b)),vI 0]) [(10,iW (a%b))]:=by
  rintro xr rfl
  have hq:a%b*s/s=a%b:=RG _ pU;have hz:a%b*s%s=0:=YF _ _;have bP:=aCT (a:=a%b*s) pU Px hnr;rw[hq,hz]at bP;have CH:((Obj.row (ak (aa bz (n+2) (a%b*s))) 3 1).cells.drop 0).take (nd bz (a%b*s))=cH (a%b*s):=by rw[lW];have:=BC G1;rwa[gn]at this
  have yp:gh (ae.at w) [ju (a%b*s),.p (vI s)] [sl 8 (nd bz (a%b*s)),vI s] [(8,some (.row (ak (aa bz (n+2) (a%b*s))) 3 1))]:=by unfold ju;rw[<-CH];exact .r (k:=8) (off:=0) (cc:=0) rfl (hY _) (λh=>h) (.p rfl .nil)
  exact UO (x:=.func 244) bP yp k_ k_ (sD _) rfl 10
 have w48:IntKind.i64.wrap (Int.tdiv ((bz:Nat):Int) ((d+1:Nat):Int))=(s:Int):=by rw[Az o_,<-te,<-hs,dU];omega
 have aOt:∀ v∈cH (a*s),v.oneCell'=true:=λv hv=>by unfold cH ak at hv;obtain⟨x,_,rfl⟩:=de.1 hv;rfl
 have hlen:(cH (a*s)).length=n:=by rw[UX,hn]
 have lo:=lo (ae.at w);unfold Dt at lo;have hxr:=uK _ rfl;have kY:dE prog 3 (ak (aa bz (e+2) b)) (e+1)=some (vI d):=by rw[<-lG];exact dP (ee o_)
 have Fc:nd bz (a%b*s)=nd bz (a%b*s):=rfl
 refine lC (Q:=λe w'=>∃ vq vr,e=.returned (.tuple #[vq,vr])/\uL w w' vq (a/b)/\uL w w' vr (a%b)/\Below w.heap.size w w') mixed func230 [cA.row va (nd bz a) (cH a),cA.row vb (e+2) (ak (aa bz (e+2) b))] hl 400 (N:=238) k_
  (rs:=[(.step 23 (ay f230 23) _ _ _ _ kU:aQ prog (ae.at w) 238),.rw 24 _ a_ (Vx (a:=a) (b:=b) (aO o_)),.gm 28 (e+2) 1 false s_,.eW 44 (e+2) 1 (e+1) rfl o_,.ix f230 45 1 (e+2) (e+1) o_ k_,.ld f230 46 3 1 (e+1) (.view (ak (aa bz (e+2) b))) (vI d) rfl kY k_,.sum 47 d 1 (d+1) rfl o_,.vm f230 48 .i64 ((bz:Nat):Int) ((d+1:Nat):Int) (s:Int) o_ w48 k_,.bs f230 49 2 1 3 1 [0] (vI 0) [vI s] #[vI s] (.row [vI s] 3 1) rfl (λv hv=>by simp at hv;subst hv;rfl) (λv hv=>by simp at hv;subst hv;rfl) k_ rfl o_ o_ k_,.step 52 (ay f230 52) _ _ _ _ cS,.KO f230 55 4 3 1 (vI 0) k_,.step 58 (ay f230 58) _ _ _ _ dx,.pP f230 59 6 4 0 n n 3 1 8 [] 5 (.row (cH (a*s)) 3 1) (cH (a*s)) (jL n) rfl (by rw[gn];exact hlen) rfl rfl aOt o_ (by simp[maxLen];omega) o_ k_,.bs f230 60 7 2 3 1 [0,1] (vI 0) [vI 0,vI 0] #[vI 0,vI 0] (.row [vI 0,vI 0] 3 1) rfl (λv hv=>by simp at hv;subst hv;rfl) (λv hv=>by simp at hv;subst hv;rfl) k_ rfl o_ o_ k_,.pP f230 61 8 6 n 2 (n+2) 3 1 8 (cH (a*s)) 7 (.row [vI 0,vI 0] 3 1) (ak (aa bz (n+2) (a*s))) rfl rfl rfl (by rw[gn];exact hlen) hcA (λv hv=>by simp[Obj.cells]at hv;subst hv;rfl) o_ (by simp[maxLen];omega) o_ k_,.eW 65 (n+2) (e+2) p o_ o_,.pI f230 66 9 p 3 8 (vI 0) (List.replicate p (vI 0)) rfl rfl rfl o_ (by simp[maxLen];omega) k_,.eW 70 (n+2) (e+2) p o_ o_,.wr 71 .i64 ((p:Int)-1) ((p:Int)-1) (oB o_),.code 0 _ _ _ _ _ lo,.Dg f230 228 8 (n+2) (a%b*s) (.row (ak (aa bz (n+2) (a%b*s))) 3 1) rfl rfl G1 o_ k_,.ld f230 231 3 2 0 (.row [vI s] 3 1) (vI s) rfl (by rw[Fq];rfl) k_,.step 232 (ay f230 232) _ _ _ _ hxr,.Dg f230 236 9 p (a/b) (.row (ak (aa bz p (a/b))) 3 1) rfl rfl JB o_ k_])
  (v:=.tuple #[sl 9 (nd bz (a/b)),sl 10 (nd bz (a%b))]) (ms:=[(9,.row (ak (aa bz p (a/b))) 3 1),(10,iW (a%b))]) k_ λav bX v' w' jW bo dG _=>?_
 obtain⟨cL,rfl,aU⟩:=jW.tS;obtain⟨p,q,hp,h3,h4⟩:=iY aU;have e:cL=#[p,q]:=vf.1 (by rw[hp]);subst e;exact⟨p,q,rfl,Pv bo (dG _ (aL ..)) JB h3,Pv bo (dG _ (bw _ (aL ..))) (dQ d_ _) h4,bo.base⟩
section
variable{P:j_}{Bs B:ae}{N:Nat}
theorem aC3{n:Nat}{nd:q_}(h:kL P f l ty size n xs)(hs:gh B l vs nd)(ho:di o.op=some x)(eK:fW P f=true)(hx:(xs.all flat)=true)(k:Nat):
  cz P B o (.func (.func f) #[] #[]::vs) ((k,none)::nd) (.slice (some ⟨k,0,some 7⟩) n 0) [(k,.view xs)]:=by
 have:=jP (P:=P) (B:=B) (o:=o) (x:=x) (f:=f) (fi:=[]) (args:=vs) (ca:=[]) (need:=(k,none)::nd) (val:=.slice (some ⟨k,0,some 7⟩) n 0) (cP:=[(k,.view xs)]) ho eK ?_
 ·simpa using this
 ·intro ι c w hm hn args' ha;rw[jy,gY]at ha;refine(h w args' (Bg hs hm (λp hp=>hn p (bw _ hp)) ha)).mono ?_
  rintro e w' ⟨v,rfl,h1,h2⟩
  obtain⟨av,q1,q2,q3⟩:=YA hm h2 (k:=k) (hn (k,none) (aL ..)) h1 (aY.1 hx);exact⟨av,v,rfl,q1,q3,q2⟩
def dT(a:Nat):Obj:=.view (cH a)
def aQ.aC4(fn:Func)(key k m:Nat)(h:nd 256 m<35184372088832)(ho:di (ay fn key).op=some (.func 159)):aQ prog Bs N:=
 .step key (ay fn key) [.func (.func 159) #[] #[],o6 m] [(k,none)] (sl k (nd bz m)) [(k,dT m)] (aC3 (aCQ h) (.p rfl .nil) ho k_ (sD m) k)
end
theorem aVa{y:m_}(ho:di o.op=some y){kq kr:Nat}(hk:kr≠kq)(kJ:b≠0)(h1:nd bz a<17592186044000)(h2:nd bz b<35184372088831):
  cz prog Bs o [.func (.func 230) #[] #[],sl k1 (nd bz a),sl k2 (nd bz b)] [(k1,some (dT a)),(k2,some (dT b)),(kq,none),(kr,none)] (.tuple #[sl kq (nd bz (a/b)),sl kr (nd bz (a%b))]) [(kr,dT (a%b)),(kq,dT (a/b))]:=by
 refine jP (fi:=[]) (ca:=[]) ho k_ λι c w hm hn args' aU=>?_;rw[jy,gY]at aU;obtain⟨va,vb,rfl,hv,iu⟩:=iY aU;have gN:c k1=some (dT a):=hn (k1,_) s_;have gi:c k2=some (dT b):=hn (k2,_) s_;have JE:c kq=none:=hn (kq,none) s_;have SN:c kr=none:=hn (kr,none) s_;have nin:∀{k a v},c k=some (dT a)->aH ι (sl k (nd bz a)) v->BG w v a:=λ{k a v} hk hv=>by have:=ox (len:=nd bz a) hm hk rfl (mh _) (λh=>h) hv;rwa[lW,j0 (by show(cH a).length<=_;rw[UX];exact bh _)]at this
 have ha:=nin gN hv;have hb:=nin gi iu;have fin:∀(w':h_) (vq vr:i_),Below w.heap.size w w'->(∃ bJ,Map.le ι bJ/\aJ Bs bJ (aV c kq (dT (a/b))) w'/\aH bJ (sl kq (nd bz (a/b))) vq/\∃ dq,Map.le bJ dq/\aJ Bs dq (aV (aV c kq (dT (a/b))) kr (dT (a%b))) w'/\aH dq (sl kr (nd bz (a%b))) vr)->
   ∃ av v',Ending.returned (.tuple #[vq,vr])=.returned v'/\Map.le ι av/\aH av (.tuple #[sl kq (nd bz (a/b)),sl kr (nd bz (a%b))]) v'/\aJ Bs av (lp c [(kr,dT (a%b)),(kq,dT (a/b))]) w':=by
  rintro w' vq vr gH ⟨bJ,q1,q2,q3,dq,s1,s2,s3⟩
  exact⟨dq,_,rfl,q1.trans s1,.tup (.cons (q3.mono s1) (.cons s3 .nil)),s2⟩
 have JF:∀ x,aV c kq x kr=none:=λx=>by unfold aV;rw[al hk];exact SN
 have new:∀(w':h_) (vq vr:i_),Below w.heap.size w w'->uL w w' vq (a/b)->uL w w' vr (a%b)->(∃ bJ,Map.le ι bJ/\aJ Bs bJ (aV c kq (dT (a/b))) w'/\aH bJ (sl kq (nd bz (a/b))) vq/\∃ dq,Map.le bJ dq/\aJ Bs dq (aV (aV c kq (dT (a/b))) kr (dT (a%b))) w'/\aH dq (sl kr (nd bz (a%b))) vr):=by intro w' vq vr gH h3 h4;have bo:=hm.call gH;obtain⟨bJ,q1,q2,q3⟩:=Nn bo JE h3 (mh _) (Np hm);obtain⟨dq,s1,s2,s3⟩:=Nn q2 (JF _) h4 (mh _) (ZW bo q1 (Np hm));exact⟨bJ,q1,q2,q3,dq,s1,s2,s3⟩
 by_cases bW:a<b
 ·have e1:a/b=0:=lV bW;have e2:a%b=a:=dJ bW;refine(aUV ha hb bW o_ o_).mono ?_
  rintro e w' ⟨rfl,gH⟩
  refine fin w' _ _ gH ?_;have bo:=hm.call gH;obtain⟨bJ,q1,q2,q3⟩:=yx (xs:=[]) (n:=0) (v:=.slice none 0 0) bo JE (.inl ⟨rfl,rfl,rfl⟩) n_ n_;have ez:dT (a/b)=.view []:=by unfold dT cH;rw[e1,qF];rfl
  have en:nd bz (a/b)=0:=by rw[e1,qF]
  rw[ez,en,e2];have SO:c8 w' va (nd bz a) (cH a):=c8.jw ha gH;obtain⟨dq,s1,s2,s3⟩:=yx q2 (JF _) SO (mh _) (λb o c' e j y o' bj hj hy he=>by
   have AG:c j=some y:=by
    unfold aV at hj;by_cases bT:j=kq
    ·rw[au bT]at hj;injection hj with hj;subst hj;cases hy
    ·rw[al bT]at hj;exact hj
   obtain⟨l,e1,_⟩:=hm.born j y AG;have e2:=q1 j l e1;rw[he]at e2;injection e2 with e2;subst e2;subst e;rcases hv.gR rfl with ⟨_,_,_,_,e⟩|⟨b',o2,pA,c2,gM,_,_,e⟩
   ·cases e
   ·injection e with e _ _;injection e with e;injection e with e _ _;subst e;exact(hm.seen k1 _ _ _ _ gN rfl gM).2 j y _ _ AG hy e1)
  exact⟨bJ,q1,q2,q3,dq,s1,s2,s3⟩
 ·have JG:b<=a:=Jv.1 bW;have go:Calls prog 230 #[va,vb] w λe w'=>∃ vq vr,e=.returned (.tuple #[vq,vr])/\uL w w' vq (a/b)/\uL w w' vr (a%b)/\Below w.heap.size w w':=by
   by_cases ao:b<bz
   ·exact aVr ha hb JG kJ ao o_
   ·have h3:2<=nd bz b:=by
     rcases eU (nd bz b) 2 with h|h
     ·have h4:=dQ (B:=bz) d_ b;have h5:bz^nd bz b<=bz^1:=c7 d_ o_;rw[Cw]at h5;omega
     ·exact h
    exact aVA (e:=nd bz b-2) ha hb JG o_ h1
  refine go.mono ?_
  rintro e w' ⟨vq,vr,rfl,h3,h4,gH⟩
  exact fin w' _ _ gH (new w' vq vr gH h3 h4)
theorem aOu(n1 n2:Bool)(a b:Nat):(sg n1 a).tdiv (sg n2 b)=sg (n1 !=n2) (a/b):=by cases n1<;>cases n2<;>simp[sg,Int.neg_tdiv,Int.tdiv_neg]
theorem aOv(n1 n2:Bool)(a b:Nat):(sg n1 a).tmod (sg n2 b)=sg n1 (a%b):=by cases n1<;>cases n2<;>simp[sg,Int.neg_tmod,Int.tmod_neg]<;>exact yJ o_
theorem aOw{x:Int}(h1:-4611686018427387904<=x)(h2:x<=4611686018427387903):IntKind.i64.wrap x=x:=by rw[dU];omega
theorem Vz:nd bz 1=1/\cH 1=[vI 1]:=by have h:=Vw (s:=1) d_ d_;exact⟨h,by unfold cH;rw[h,Pw d_];rfl⟩
theorem VA{n:Bool}(h:n=true->m≠0):decide (sg n m<0)=n:=by
 cases n
 ·exact aO (by simp[sg])
 ·exact aC (by have:=h rfl;simp[sg];omega)
theorem aOx(n:Bool)(m:Nat):(sg n m !=0)=decide (m≠0):=by
 by_cases h:m=0
 ·subst h;cases n<;>rfl
 ·rw[aC h,qH];cases n<;>simp[sg]<;>omega
theorem aVh{x:Int}{p:Nat}(hy:y≠0)(h1:x.natAbs<2^p)(h2:y.natAbs<2^q)(hp:p<=1099511627774)(hq:q<=1099511627774):
  aD prog 213 [bI x,bI y] (.tuple #[bI (x.fdiv y),bI (x.fmod y),.int .i64 0]):=by
 revert hy h1 h2;refine EM (C:=λx y v u=>y≠0->x.natAbs<2^p->y.natAbs<2^q->aD prog 213 [v,u] (.tuple #[bI (x.fdiv y),bI (x.fmod y),.int .i64 0])) (λn1 n2 m1 m2 v1 v2 hy h1 h2=>?_) x y;rw[pS]at h1 h2;have G7:m2≠0:=by intro e;rw[e]at hy;cases n2<;>exact hy rfl
 have b1:=xI h1;have b2:=xI h2;have c1:=vx h1;have c2:=vx h2;obtain⟨Q,hQ⟩:∃ Q,Q=m1/m2:=⟨_,rfl⟩;obtain⟨R,hR⟩:∃ R,R=m1%m2:=⟨_,rfl⟩;have JJ:m1=Q*m2+R:=by rw[hQ,hR,cK];exact(jf _ _).symm
 have EO:R<m2:=by rw[hR];exact cE _ (s8 G7)
 have SY:Q<=m1:=by rw[hQ];exact tf _ _
 have jg:((Q*m2:Nat):Int)=(Q:Int)*m2:=nM ..;have fix:R≠0->n1≠n2->(sg n1 m1).fdiv (sg n2 m2)=sg true (Q+1)/\(sg n1 m1).fmod (sg n2 m2)=sg n2 (m2-R):=λur bd=>by
  refine Nu ?_ ?_
  ·rw[JJ];have e:((m2-R:Nat):Int)=(m2:Int)-R:=by omega
   cases n1<;>cases n2<;>first|exact absurd rfl bd|(simp only[sg,qx,uj,ui,vt,jg,e,G2,G3,JD,Int.add_mul];omega)
  ·cases n2
   ·left;simp only[sg,uj,ui];omega
   ·right;simp only[sg,qx];omega
 have aOy:¬(R≠0/\n1≠n2)->(sg n1 m1).fdiv (sg n2 m2)=sg (n1 !=n2) Q/\(sg n1 m1).fmod (sg n2 m2)=sg n2 R:=λh=>by
  have h0:n1≠n2->R=0:=λbd=>jo λh3=>h ⟨h3,bd⟩;refine Nu ?_ ?_
  ·rw[JJ];cases n1<;>cases n2<;>simp only[sg,Bool.bne_false,Bool.bne_true,Jl,MO,qx,uj,ui,vt,jg,G2,G3,JD]<;>first|omega|(have:=h0 n_;omega)
  ·cases n2
   ·left;simp only[sg,uj,ui];omega
   ·right;simp only[sg,qx];omega
 have w1:=aU1 n1 v1;have w2:=aU1 n2 v2;have e26:((BA (cD m2)).toList==(ByteArray.mk #[]).toList)=false:=by rw[qK,aO G7]
 have r2:=K0 m2;obtain⟨tR,ur⟩:∃ t,decide (R≠0)=t:=⟨_,rfl⟩;have fx:(sg n1 m1).fdiv (sg n2 m2)=(bif tR&&(n1 !=n2)then sg true (Q+1)else sg (n1 !=n2) Q)/\(sg n1 m1).fmod (sg n2 m2)=(bif tR&&(n1 !=n2)then sg n2 (m2-R)else sg n2 R):=by
  by_cases hf:R≠0/\n1≠n2
  ·rw[<-ur,aC hf.1,qH.2 hf.2];exact fix hf.1 hf.2
  ·rw[show(tR&&(n1 !=n2))=false from FE.2 λh=>by rw[cY,<-ur]at h;exact hf ⟨jh h.1,qH.1 h.2⟩]
   exact aOy hf
 obtain⟨t1,i1,d1,q1,_,_,g1⟩:=H0 v1;obtain⟨t2,i2,d2,q2,_,_,g2⟩:=H0 v2;have e39:decide (((nd 256 m2:Nat):Int)<=7)=t2:=by rw[<-d2];exact oW.2 o_
 by_cases hs:t1=true/\t2=true
 ·obtain⟨rfl,rfl⟩:=hs;obtain rfl:=g1 rfl;obtain rfl:=g2 rfl;have l1:=KZ (jh d1);have l2:=KZ (jh d2);have td:=aOu n1 n2 m1 m2;have tm:=aOv n1 n2 m1 m2;rw[<-hQ]at td;rw[<-hR]at tm;have gx:=HZ n1 m1;have gq:=HZ (n1 !=n2) Q;have t52:=(aOx n1 R).trans ur;have t55:=VA v1;have t57:=VA v2;have wq:IntKind.i64.wrap ((sg n1 m1).tdiv (sg n2 m2))=sg (n1 !=n2) Q:=by rw[td,dU];omega
  have bk:=Int.mul_fdiv_add_fmod (sg n1 m1) (sg n2 m2);have e1:(bif tR&&(n1 !=n2)then sg true (Q+1)else sg (n1 !=n2) Q)=bif tR&&(n1 !=n2)then sg (n1 !=n2) Q-1 else sg (n1 !=n2) Q:=by cases tR<;>cases n1<;>cases n2<;>first|rfl|(simp[sg];omega)
  have gr:-(m2:Int)<=(bif tR&&(n1 !=n2)then sg n2 (m2-R)else sg n2 R)/\(bif tR&&(n1 !=n2)then sg n2 (m2-R)else sg n2 R)<=m2:=by have h1:=HZ n2 (m2-R);have h2:=HZ n2 R;cases tR&&(n1 !=n2)<;>(dsimp only[cond];omega)
  rw[fx.1,fx.2,e1]at bk;rw[fx.1,fx.2,e1];have gz:-4611686018427387904<=(bif tR&&(n1 !=n2)then sg (n1 !=n2) Q-1 else sg (n1 !=n2) Q)/\(bif tR&&(n1 !=n2)then sg (n1 !=n2) Q-1 else sg (n1 !=n2) Q)<=4611686018427387903:=by cases tR&&(n1 !=n2)<;>(dsimp only[cond];omega)
  rw[SV]at bk;generalize (bif tR&&(n1 !=n2)then sg n2 (m2-R)else sg n2 R)=rr at *;generalize sg (n1 !=n2) Q=q0 at *;generalize sg n1 R=r0 at *;generalize sg n1 m1=X at *;generalize sg n2 m2=Y at *;have w67:IntKind.i64.wrap ((bif tR&&(n1 !=n2)then q0-1 else q0)*Y)=(bif tR&&(n1 !=n2)then q0-1 else q0)*Y:=by rw[dU];omega
  have w68:IntKind.i64.wrap (X-(bif tR&&(n1 !=n2)then q0-1 else q0)*Y)=rr:=by rw[dU];omega
  have o1:=aVC (z:=bif tR&&(n1 !=n2)then q0-1 else q0) o_ o_;refine fj mixed func213 100 (λw=>[w1.at 15,w2.at 19,.rw 26 (.bool ((BA (cD m2)).toList==(ByteArray.mk #[]).toList)) a_ (by rw[e26]),q1.at 31,.rw 38 _ (vI (nd 256 m2)) r2,.rw 39 (.bool (decide (((nd 256 m2:Nat):Int)<=7))) b_ (by rw[e39]),q2.at 43,.vm f213 48 .i64 X Y _ hy wq k_,.Aw f213 51 .i64 X Y _ hy tm k_,.rw 52 (.bool (r0 !=0)) (.bool tR) (by rw[t52])]++(bif tR then[.rw 55 (.bool (decide (X<0))) (.bool n1) (by rw[t55]),.rw 57 (.bool (decide (Y<0))) (.bool n2) (by rw[t57])]++(bif n1 !=n2 then[.wr 61 .i64 (q0-1) (q0-1) (aOw o_ o_)]else[])else[])++[o1.at 63,.wr 67 .i64 _ _ w67,.wr 68 .i64 _ rr w68,(aVC (z:=rr) o_ o_).at 69]) (λ_=>?_) k_ ?_<;>cases tR<;>cases n1<;>cases n2<;>kernel_rfl
 ·have bQ:nd bz Q<1099511627776:=by have:=je (B:=bz) d_ SY;omega
  have bR:nd bz R<1099511627776:=by have:=je (B:=bz) d_ (jD EO);omega
  have bD:nd bz (m2-R)<1099511627776:=by have:=je (B:=bz) d_ (EL m2 R);omega
  have bQ1:nd bz (Q+1)<1099511627776:=Vh (k:=p+1) (by rw[dr];omega) o_;have GZ:∀ w,cz prog (ae.at w) (ay f213 77) [.func (.func 230) #[] #[],sl 4 (nd bz m1),sl 5 (nd bz m2)] [(4,some (dT m1)),(5,some (dT m2)),(6,none),(7,none)] (.tuple #[sl 6 (nd bz Q),sl 7 (nd bz R)]) [(7,dT R),(6,dT Q)]:=λw=>by rw[hQ,hR];exact aVa (Bs:=ae.at w) (o:=ay f213 77) (y:=.func 230) k_ (k1:=4) (k2:=5) (kq:=6) (kr:=7) d_ G7 o_ o_
  have FF:∀ w,cz prog (ae.at w) (ay f213 92) [.func (.func 177) #[] #[],sl 6 (nd bz Q),sl 8 1] [(9,none),(6,some (dT Q)),(8,some (.row [vI 1] 3 1))] (sl 9 (nd bz (Q+1))) [(9,iW (Q+1))]:=λw=>by have:=r8 (B:=ae.at w) (o:=ay f213 92) (x:=.func 177) (aCF (a:=Q) (b:=1) o_ (by rw[Vz.1];omega)) (nE (k:=6) (x:=dT Q) rfl rfl (nE (k:=8) (x:=.row (cH 1) 3 1) rfl rfl .nil)) k_ k_ (sD _) 9;rw[Vz.1,Vz.2]at this;exact this
  have GW:decide (0<nd bz R)=tR:=by have:(0<nd bz R)↔R≠0:=⟨λh e=>by rw[e,qF]at h;omega,λh=>wJ d_ h⟩;rw[oW.2 this,ur]
  rw[fx.1,fx.2];refine fj mixed func213 100 (λw=>[w1.at 15,w2.at 19,.rw 26 (.bool ((BA (cD m2)).toList==(ByteArray.mk #[]).toList)) a_ (by rw[e26]),q1.at 31]++(bif t1 then[.rw 38 _ (vI (nd 256 m2)) r2,.rw 39 (.bool (decide (((nd 256 m2:Nat):Int)<=7))) (.bool t2) (by rw[e39])]else[])++[.aC4 f213 73 4 m1 o_ k_,.aC4 f213 76 5 m2 o_ k_,.step 77 _ _ _ _ _ (GZ w)]++(bif n1 !=n2 then[.gt 88 (nd bz R) 0 tR GW]else[])++
    bif tR&&(n1 !=n2)then[.bs f213 91 8 1 3 1 [0] (vI 0) [vI 1] #[vI 1] (.row [vI 1] 3 1) rfl (λv hv=>by simp at hv;subst hv;rfl) (λv hv=>by simp at hv;subst hv;rfl) k_ rfl o_ o_ k_,.step 92 (ay f213 92) _ _ _ _ (FF w),.xH f213 95 10 m2 o_ k_,.KY f213 97 11 10 7 m2 R (iW m2) (dT R) rfl rfl rfl rfl (jD EO) o_ k_,.zC f213 104 9 (Q+1) true (iW (Q+1)) rfl rfl o_ k_,.zC f213 108 11 (m2-R) n2 (iW (m2-R)) rfl rfl o_ k_]
    else[.zC f213 104 6 Q (n1 !=n2) (dT Q) rfl rfl o_ k_,.zC f213 108 7 R n2 (dT R) rfl rfl o_ k_]) (λ_=>?_) k_ ?_<;>cases t1<;>cases t2<;>first|exact absurd ⟨rfl,rfl⟩ hs|(cases tR<;>cases n1<;>cases n2<;>kernel_rfl)

theorem aOz{y:m_}(ho:di o.op=some y){n:Nat}{x:Obj}(hx:x.reads=true)(cG:(x.cells.all flat)=true)(hc:(x.cells.drop off).take n=ak (aa bz n a))(ha:a<bz^n)(h63:n<=9223372036854775807):
  cz prog Bs o [.func (.func 206) #[] #[],.slice (some ⟨k,off,some 7⟩) n cc] [(k,some x)] (.slice (some ⟨k,off,some 7⟩) (nd bz a) cc) []:=by
 refine jP (fi:=[]) (ca:=[]) ho k_ λι c w hm hn args' dz=>?_;obtain⟨v,rfl,h1⟩:=mz dz;have hk:c k=some x:=hn _ (aL ..);have hr:=ox (len:=n) hm hk hx (aY.1 cG) (λh=>h) h1;rw[hc]at hr;refine(aCi hr ha h63).mono ?_
 rintro e w' ⟨rfl,hb⟩
 refine⟨ι,_,rfl,Map.le.refl _,?_,hm.call hb⟩;have jR:=jd (B:=bz) d_ ha;rcases h1.gR rfl with ⟨q1,q2,q3,q4,q5⟩|⟨b,oo,cap,c',q1,q2,q3,q5⟩
 ·rw[q5];have:nd bz a=0:=by omega
  dsimp only at q4;rw[this,q4,q3];exact .slcN q1
 ·rw[q5];exact .slc q1 o_ q3
theorem aOA(x:Int):IntKind.i64.wrap (((BitVec.ofInt IntKind.i64.bits x)&&& (BitVec.ofInt IntKind.i64.bits 1)).toNat:Int)=x%2:=aCS x 1 d_
theorem aC5(x:Nat):IntKind.i64.wrap (((BitVec.ofInt IntKind.i64.bits (x:Int))&&& (BitVec.ofInt IntKind.i64.bits 1)).toNat:Int)=((x%2:Nat):Int):=by rw[aOA];rfl
theorem aOB{n z:Nat}(hz:z<=n)(h0:∀ i,i<z->a/bz^i%bz=0):aa bz n a=List.replicate z 0++aa bz (n-z) (a/bz^z):=by
 apply wK
 ·simp[oy];omega
 ·intro i h1 h2;rw[oy]at h1;by_cases hi:i<z
  ·rw[List.getElem_append_left (by simpa using hi)];simp only[aa,Ce,Cf,List.getElem_replicate];exact h0 i hi
  ·rw[List.getElem_append_right (by simp;omega)];simp only[aa,Ce,Cf,HX];rw[kE,<-eh,show z+(i-z)=i by omega]
theorem aC6{a:Nat}:∀ z,(∀ i,i<z->a/bz^i%bz=0)->a%bz^z=0
 |0,_=>by rw[rP,s9]
 |z+1,h=>by rw[oX,aC6 z (λi hi=>h i o_),h z o_];simp
theorem VB{d:Nat}:∀ r,(∀ i,i<r->d/2^i%2=0)->d%2^r=0
 |0,_=>by rw[rP,s9]
 |r+1,h=>by have e:=oX (B:=2) d r;rw[VB r (λi hi=>h i o_),h r o_]at e;rw[e];simp
theorem aOC{x y r:Nat}(hr:r<=24)(hx:x<bz)(hy:y<bz):x/2^r+y*2^(24-r)%bz=(y*bz+x)/2^r%bz:=by
 have hb:bz=2^(24-r)*2^r:=by rw[<-eh,show 24-r+r=24 by omega]
 have h2:0<2^r:=cF d_;obtain⟨c,hc⟩:∃ c,c=2^(24-r):=⟨_,rfl⟩;obtain⟨q,hq⟩:∃ q,q=2^r:=⟨_,rfl⟩;rw[<-hc,<-hq]at hb;rw[<-hc,<-hq];rw[<-hq]at h2;have h3:x/q<c:=by rw[iv h2,<-hb];exact hx
 have e1:(y*bz+x)/q=y*c+x/q:=by rw[hb,<-fK,mF,oY _ _ h2,mF]
 have e2:y*c%bz=c*(y%q):=by rw[hb,cK y c,Nat.mul_mod_mul_left]
 have e3:y*c=c*(y%q)+bz*(y/q):=by have:=jf y q;rw[hb,fK,<-oz,mF,this,cK]
 have h4:y%q<q:=cE _ h2;have h5:c*(y%q)+c<=bz:=by rw[hb,<-MG];exact jq _ h4
 have h6:c*(y%q)+x/q<bz:=by omega
 rw[e1,e2,e3,show c*(y%q)+bz*(y/q)+x/q=(c*(y%q)+x/q)+bz*(y/q)by omega,Er,dJ h6];omega
section
variable{Bs:ae}{n a z r:Nat}
def xM(k n z:Nat):Value:=.slice (some ⟨k,z*1,some 7⟩) n z
def xN(n i:Nat):aM:=[(0,xM 0 (n-i) i),(4,vI (24*i))]
def mT(n a:Nat):aE:=[(0,.row (ak (aa bz n a)) 3 1)]
theorem aOD(hi:i+1<n)(h0:a/bz^i%bz=0)(h63:n<35184372088832):
  af prog Bs 62 (aF (ag f180 0)) (xN n i) (mT n a) 1 ⟨.normal,xN n (i+1),mT n a,1⟩:=by
 have iS:dE prog 3 (ak (aa bz n a)) (i*1)=some (vI 0):=by rw[gn,dP (ee o_),h0]
 unfold xN mT xM;generalize ak (aa bz n a)=r0 at *;obtain⟨m,hm⟩:∃ m,n-i=m+1:=⟨n-i-1,by omega⟩;have dx:n-(i+1)=m:=by omega
 rw[hm,dx];exact az [.ph f180 8 0 i (m+1) i 0 i 1 o_ (ja i) k_,.ld f180 9 3 0 (i*1) (.row r0 3 1) (vI 0) rfl iS k_,.gm 10 0 0 true rfl,.next f180 12 0 i m 1 o_ k_,.sum 14 (24*i) 24 (24*(i+1)) o_ o_]
theorem aOE(hi:i<n)(h0:a/bz^i%bz≠0):
  af prog Bs 62 (aF (ag f180 0)) (xN n i) (mT n a) 1 ⟨.exit 0,xN n i,mT n a,1⟩:=by
 have iS:dE prog 3 (ak (aa bz n a)) (i*1)=some (vI (a/bz^i%bz)):=by rw[gn,dP (ee o_)]
 unfold xN mT xM;generalize ak (aa bz n a)=r0 at *;generalize a/bz^i%bz=d at *;exact az [.ph f180 8 0 i (n-i) i 0 i 1 o_ (ja i) k_,.ld f180 9 3 0 (i*1) (.row r0 3 1) (vI d) rfl iS k_,.gm 10 d 0 false (aO h0)]
theorem aOF(hz:z<n)(h0:∀ i,i<z->a/bz^i%bz=0)(h1:a/bz^z%bz≠0)(h63:n<35184372088832):
  af prog Bs 62 (.block 0 (ag f180 0)) (xN n 0) (mT n a) 1 ⟨.normal,xN n z,mT n a,1⟩:=
 bO (id:=0) (ck (b:=aF (ag f180 0)) (r:=⟨.exit 0,xN n z,mT n a,1⟩) z (xN n) (λ_=>mT n a) (λ_ _ _=>Iff.rfl) (λi hi=>aOD o_ (h0 i hi) h63) (aOE hz h1) n_)
def xO(n z i:Nat):aM:=[(0,xM 0 (n-z) z),(5,vI i)]
theorem aOG(hz:z<n)(hd:a/bz^z%bz=d)(Dv:d<bz)(hi:i<24)(h0:d/2^i%2=0):
  af prog Bs 62 (aF (ag f180 2)) (xO n z i) (mT n a) 1 ⟨.normal,xO n z (i+1),mT n a,1⟩:=by
 have iS:dE prog 3 (ak (aa bz n a)) (z*1)=some (vI d):=by rw[gn,dP (ee o_),hd]
 unfold xO mT xM;generalize ak (aa bz n a)=r0 at *;exact az [.ph f180 16 0 z (n-z) z 0 z 1 o_ (ja z) k_,.ld f180 17 3 0 (z*1) (.row r0 3 1) (vI d) rfl iS k_,.shr f180 19 .i64 (d:Int) ((d/2^i:Nat):Int) i (by rw[show min i IntKind.i64.bits=i from nh (show i<=64 by omega),rO _ (GJ d_),te,GK];rfl) k_,.wr 20 .i64 _ ((d/2^i%2:Nat):Int) (aC5 _),.gm 21 (d/2^i%2) 0 true (aC h0),.sum 23 i 1 (i+1) rfl o_]
theorem aOH(hz:z<n)(hd:a/bz^z%bz=d)(Dv:d<bz)(hi:i<24)(h0:d/2^i%2≠0):
  af prog Bs 62 (aF (ag f180 2)) (xO n z i) (mT n a) 1 ⟨.exit 2,xO n z i,mT n a,1⟩:=by
 have iS:dE prog 3 (ak (aa bz n a)) (z*1)=some (vI d):=by rw[gn,dP (ee o_),hd]
 unfold xO mT xM;generalize ak (aa bz n a)=r0 at *;exact az [.ph f180 16 0 z (n-z) z 0 z 1 o_ (ja z) k_,.ld f180 17 3 0 (z*1) (.row r0 3 1) (vI d) rfl iS k_,.shr f180 19 .i64 (d:Int) ((d/2^i:Nat):Int) i (by rw[show min i IntKind.i64.bits=i from nh (show i<=64 by omega),rO _ (GJ d_),te,GK];rfl) k_,.wr 20 .i64 _ ((d/2^i%2:Nat):Int) (aC5 _),.gm 21 (d/2^i%2) 0 false (aO h0)]
theorem aOI(hz:z<n)(hd:a/bz^z%bz=d)(Dv:d<bz)(hr:r<24)(h0:∀ i,i<r->d/2^i%2=0)(h1:d/2^r%2≠0):
  af prog Bs 62 (.block 2 (ag f180 2)) (xO n z 0) (mT n a) 1 ⟨.normal,xO n z r,mT n a,1⟩:=
 bO (id:=2) (ck (b:=aF (ag f180 2)) (r:=⟨.exit 2,xO n z r,mT n a,1⟩) r (xO n z) (λ_=>mT n a) (λ_ _ _=>Iff.rfl) (λi hi=>aOG hz hd Dv o_ (h0 i hi)) (aOH hz hd Dv hr h1) n_)
def Dw(l z r i:Nat):aM:=[(0,xM 0 l z),(5,vI r),(6,vI i)]
def oL(l z r a1 i:Nat):List Nat:=List.replicate z 0++cW bz l i (a1/2^r) a1
def zG(l z r a1 i:Nat):aE:=[(0,.row (ak (oL l z r a1 i)) 3 1)]
theorem aC7{l:Nat}(hj:j<l)(h:i<=j):(oL l z r a1 i)[z+j]?=some (a1/bz^j%bz):=by unfold oL;rw[D8 s_,HX,EB];exact Cg hj h
theorem aC8{l:Nat}(hi:i<l)(hd:d=a1/2^r/bz^i%bz):(oL l z r a1 i).set (z+i) d=oL l z r a1 (i+1):=by unfold oL;rw[UH _ _ s_,HX,EB,yB hi hd]
theorem VC{l:Nat}:(oL l z r a1 i).length=z+l:=by unfold oL;rw[jM,HX,wL]
theorem aOJ{l:Nat}(hr:r<24)(hi:i<l)(ha:a1<bz^l)(h63:z+l<35184372088832):
  af prog Bs 62 (aF (ag f180 4)) (Dw l z r i) (zG l z r a1 i) 1 ⟨.normal,Dw l z r (i+1),zG l z r a1 (i+1),1⟩:=by
 have hx:=gO (B:=bz) d_ a1 i;have hy:=gO (B:=bz) d_ a1 (i+1);have uK:=aOC (r:=r) o_ hx hy;rw[ZF (B:=bz) (k:=r) (X:=a1) (i:=i) d_ ⟨2^(24-r),by rw[<-eh,show r+(24-r)=24 by omega]⟩]at uK;have hw:=gO (B:=bz) d_ (a1/2^r) i;have hlx:dE prog 3 (ak (oL l z r a1 i)) ((z+i)*1)=some (vI (a1/bz^i%bz)):=by rw[gn];exact dP (aC7 hi (bh _))
 obtain⟨Dx,Db⟩:∃ Dx,Dx=(oL l z r a1 i).set (z+i) (a1/bz^i%bz/2^r):=⟨_,rfl⟩;have wB:eT prog 3 (ak (oL l z r a1 i)) ((z+i)*1) (vI (a1/bz^i%bz/2^r))=some (ak Dx):=by rw[gn,vQ (by rw[VC];omega),Db]
 have Du:dE prog 3 (ak Dx) ((z+i)*1)=some (vI (a1/bz^i%bz/2^r)):=by rw[gn];refine dP ?_;rw[Db,List.getElem?_set_self (by rw[VC];omega)]
 have VD:i+1<l->dE prog 3 (ak Dx) ((z+(i+1))*1)=some (vI (a1/bz^(i+1)%bz)):=λh=>by rw[gn];refine dP ?_;rw[Db,List.getElem?_set_ne o_];exact aC7 h o_
 have ua:eT prog 3 (ak Dx) ((z+i)*1) (vI (a1/2^r/bz^i%bz))=some (ak (oL l z r a1 (i+1))):=by rw[gn,vQ (by rw[Db,Vq,VC];omega),Db,List.set_set,aC8 hi rfl]
 have vn:¬i+1<l->ak Dx=ak (oL l z r a1 (i+1))/\True:=λh=>by have h0:a1/bz^(i+1)%bz=0:=qG ha o_ d_;rw[h0,lB,Nat.zero_mod,ja]at uK;refine⟨?_,trivial⟩;rw[Db,uK,aC8 hi rfl]
 have jI:bz=16777216:=rfl;unfold Dw zG xM;generalize ak (oL l z r a1 (i+1))=r2 at *;generalize ak (oL l z r a1 i)=r0 at *;generalize ak Dx=r1 at *;generalize a1/2^r/bz^i%bz=w at *;generalize a1/bz^(i+1)%bz=y at *;generalize a1/bz^i%bz=x at *;have hq:(x:Int).fdiv (2^(min r IntKind.i64.bits))=((x/2^r:Nat):Int):=by rw[show min r IntKind.i64.bits=r from nh (show r<=64 by omega),rO _ (GJ d_),te,GK];rfl
 have hxq:x/2^r<=x:=tf _ _;by_cases hl:i+1<l
 ·have VD:=VD hl;have h24:y*2^(24-r)<281474976710656:=by have h1:2^(24-r)<=2^24:=c7 d_ o_;have h2:=ZJ hy h1 d_;rw[show bz*2^24=281474976710656 by decide]at h2;exact h2
  have aC9:IntKind.i64.wrap ((y:Int)*2^(min (24-r) IntKind.i64.bits))=((y*2^(24-r):Nat):Int):=by
   have e:(y:Int)*2^(24-r)=((y*2^(24-r):Nat):Int):=by simp
   rw[show min (24-r) IntKind.i64.bits=24-r from nh (show 24-r<=64 by omega),dU,e];omega
  obtain⟨g,hg⟩:∃ g,g=y*2^(24-r):=⟨_,rfl⟩;rw[<-hg]at uK aC9 h24;obtain⟨v,hv⟩:∃ v,v=x/2^r:=⟨_,rfl⟩;rw[<-hv]at uK hq hxq wB Du;exact fE mixed 200 [.lt 27 i l true (by simp[hi]),.ph f180 32 0 z l z i (z+i) 1 hi rfl k_,.ld f180 33 3 0 ((z+i)*1) (.row r0 3 1) (vI x) rfl hlx k_,.shr f180 35 .i64 (x:Int) (v:Int) r hq k_,.ph f180 36 0 z l z i (z+i) 1 hi rfl k_,.st f180 100036 3 0 ((z+i)*1) (.row r0 3 1) (vI v) (.row r1 3 1) rfl wB rfl k_,.sum 38 i 1 (i+1) rfl o_,.lt 41 (i+1) l true (by simp[hl]),.ph f180 44 0 z l z i (z+i) 1 hi rfl k_,.ld f180 45 3 0 ((z+i)*1) (.row r1 3 1) (vI v) rfl Du k_,.sum 48 i 1 (i+1) rfl o_,.ph f180 49 0 z l z (i+1) (z+(i+1)) 1 hl rfl k_,.ld f180 50 3 0 ((z+(i+1))*1) (.row r1 3 1) (vI y) rfl VD k_,.eW 52 24 r (24-r) o_ o_,.shl f180 53 .i64 (y:Int) (g:Int) (24-r) aC9 k_,.Fw 54 g bz (g%bz) rfl,.sum 55 v (g%bz) w uK.symm o_,.ph f180 56 0 z l z i (z+i) 1 hi rfl k_,.st f180 100056 3 0 ((z+i)*1) (.row r1 3 1) (vI w) (.row r2 3 1) rfl ua rfl k_,.sum 29 i 1 (i+1) rfl o_] k_
 ·obtain⟨e1,_⟩:=vn hl;subst e1;obtain⟨v,hv⟩:∃ v,v=x/2^r:=⟨_,rfl⟩;rw[<-hv]at uK hq hxq wB Du;exact fE mixed 200 [.lt 27 i l true (by simp[hi]),.ph f180 32 0 z l z i (z+i) 1 hi rfl k_,.ld f180 33 3 0 ((z+i)*1) (.row r0 3 1) (vI x) rfl hlx k_,.shr f180 35 .i64 (x:Int) (v:Int) r hq k_,.ph f180 36 0 z l z i (z+i) 1 hi rfl k_,.st f180 100036 3 0 ((z+i)*1) (.row r0 3 1) (vI v) (.row r1 3 1) rfl wB rfl k_,.sum 38 i 1 (i+1) rfl o_,.lt 41 (i+1) l false (by simp[hl]),.sum 29 i 1 (i+1) rfl o_] k_
theorem aOK{l:Nat}(hr:r<24)(ha:a1<bz^l)(h63:z+l<35184372088832):
  af prog Bs 62 (.block 4 (ag f180 4)) (Dw l z r 0) (zG l z r a1 0) 1 ⟨.normal,Dw l z r l,zG l z r a1 l,1⟩:=
 bO (id:=4) (ck (b:=aF (ag f180 4)) (r:=⟨.exit 4,Dw l z r l,zG l z r a1 l,1⟩) l (Dw l z r) (zG l z r a1) (λk j _=>jO (l:=zG l z r a1 k) (m:=zG l z r a1 0) rfl j) (λi hi=>aOJ hr hi ha h63)
  (az [.lt 27 l l false s_]) n_)
end

theorem aDa(h0:a≠0):∃ z r,z<nd bz a/\r<24/\(∀ i,i<z->a/bz^i%bz=0)/\a/bz^z%bz≠0/\(∀ i,i<r->a/bz^z%bz/2^i%2=0)/\a/bz^z%bz/2^r%2≠0/\
  a=a/bz^z/2^r*2^(24*z+r)/\a/bz^z/2^r%2=1:=by
 have hnp:=wJ (B:=bz) d_ h0;have w7:¬a/bz^(nd bz a-1)%bz=0:=λh=>by have h1:=dQ (B:=bz) d_ a;rw[show nd bz a=nd bz a-1+1 by omega]at h1;have h2:=(Gn (B:=bz) d_ h1).1 h;have h3:=jd (B:=bz) d_ h2;omega
 obtain⟨z,z1,z2,z3⟩:=yA (λi=>¬a/bz^i%bz=0) _ w7;have z3':∀ i,i<z->a/bz^i%bz=0:=λi hi=>Ew.1 (z3 i hi);obtain⟨d,hd⟩:∃ d,d=a/bz^z%bz:=⟨_,rfl⟩;have Dv:d<bz:=by rw[hd];exact cE _ d_
 have CI:d≠0:=by rw[hd];exact z2
 have aOL:∃ i,i<24/\¬d/2^i%2=0:=jo λfJ=>CI (by have h:=VB (d:=d) 24 (λi hi=>jo λh=>fJ ⟨i,hi,h⟩);rw[dJ (show d<2^24 from Dv)]at h;exact h)
 obtain⟨i0,hi0,kJ⟩:=aOL;obtain⟨r,r1,r2,r3⟩:=yA (λi=>¬d/2^i%2=0) _ kJ;have VE:∀ i,i<r->d/2^i%2=0:=λi hi=>Ew.1 (r3 i hi);have e1:a%bz^z=0:=aC6 z z3';have e2:d%2^r=0:=VB r VE;obtain⟨a1,dY⟩:∃ a1,a1=a/bz^z:=⟨_,rfl⟩;have ea:a=a1*bz^z:=by have:=jf a (bz^z);rw[e1,<-dY,cK]at this;omega
 have hb:bz=2^(24-r)*2^r:=by rw[<-eh,show 24-r+r=24 by omega]
 have ed:a1=bz*(a1/bz)+d:=by rw[hd,<-dY];exact(jf _ _).symm
 have e3:a1%2^r=0:=by
  rw[ed]
  conv=>lhs;rw[hb]
  rw[AM,cK _ (2^r),Nat.mul_add_mod,e2]
 have ea1:a1=a1/2^r*2^r:=by have:=jf a1 (2^r);rw[e3,cK]at this;omega
 have e4:a1/2^r%2=d/2^r%2:=by
  have h2:0<2^r:=cF d_;have h3:a1/2^r=2^(24-r)*(a1/bz)+d/2^r:=by
   conv=>lhs;rw[ed,hb]
   rw[AM,mF,oY _ _ h2,mF];rw[<-hb]
  rw[h3,show 24-r=(23-r)+1 by omega,dr,AM,mF,CB]
 rw[hd]at r2 VE;refine⟨z,r,by omega,by omega,z3',z2,VE,r2,?_,?_⟩
 ·rw[<-dY];have e5:bz^z=2^(24*z):=by rw[rQ]
  rw[eh,cK (2^(24*z)),<-fK,<-ea1,<-e5];exact ea
 ·rw[<-dY,e4,hd];omega
theorem aOM(h0:a≠0)(h63:nd bz a<1099511627776):∃ s a2,a=a2*2^s/\a2%2=1/\s<35184372088832/\∀(Bs:ae) (o:Oper) (k j:Nat),di o.op=some (.func 180)->
  cz prog Bs o [.func (.func 180) #[] #[],sl k (nd bz a)] [(k,some (iW a)),(j,none)] (.tuple #[sl j (nd bz a2),vI s]) [(j,dT a2),(k,.dead)]:=by
 obtain⟨z,r,hz,hr,z3,z2,r3,r2,aDb,Py⟩:=aDa h0;have ao:=dQ (B:=bz) d_ a;obtain⟨a1,dY⟩:∃ a1,a1=a/bz^z:=⟨_,rfl⟩;obtain⟨a2,fX⟩:∃ a2,a2=a1/2^r:=⟨_,rfl⟩;have Dv:a/bz^z%bz<bz:=cE _ d_;rw[<-dY,<-fX]at aDb Py;refine⟨24*z+r,a2,aDb,Py,by omega,λBs o k j ho=>?_⟩;have h20:a2≠0:=λe=>by rw[e]at Py;cases Py
 have FG:=aOB (n:=nd bz a) (z:=z) (a:=a) o_ z3;rw[<-dY]at FG;have iO:iW a=.row (ak (aa bz (nd bz a) a)) 3 1:=rfl;obtain⟨n,hn⟩:∃ n,n=nd bz a:=⟨_,rfl⟩;rw[iO];rw[<-hn]at hz ao FG h63 ⊢;have aDc:a1<bz^(n-z):=by rw[dY,iv (cF d_),<-eh,show n-z+z=n by omega];exact ao
 have VF:a2<bz^(n-z):=eX (by rw[fX];exact tf _ _) aDc;have l1:=λBs=>aOF (Bs:=Bs) hz z3 z2 o_;have l2:=λBs=>aOI (Bs:=Bs) (r:=r) hz rfl Dv hr r3 r2;have l3:=λBs=>aOK (Bs:=Bs) (z:=z) (l:=n-z) hr aDc o_;have e0:oL (n-z) z r a1 0=aa bz n a:=by unfold oL;rw[FG];unfold cW aa;simp
 have e1:oL (n-z) z r a1 (n-z)=List.replicate z 0++aa bz (n-z) a2:=by
  unfold oL;rw[<-fX]
  congr 1
  unfold cW aa;refine wD λi hi=>?_;rw[au (kk.1 hi)]
 obtain⟨fin,Dq⟩:∃ fin,fin=ak (List.replicate z 0++aa bz (n-z) a2):=⟨_,rfl⟩;have aDd:(fin.drop (z*1)).take (n-z)=ak (aa bz (n-z) a2):=by rw[Dq,gn];unfold ak;rw[wj,QR s_,j0 (by simp[oy])]
 unfold zG at l3;rw[e0,e1,<-Dq]at l3;have aON:nd bz a2<=n-z:=jd d_ VF;have AF:fin.all flat=true:=by rw[Dq];exact hY _
 have CH:(fin.drop (z*1)).take (nd bz a2)=cH a2:=by
  have h1:(ak (aa bz (n-z) a2)).take (nd bz a2)=cH a2:=by have:=BC VF;rwa[gn]at this
  rw[<-aDd,L6,nh aON]at h1;exact h1
 have jX:=wJ (B:=bz) d_ h20;have htr:∀ Bs,cz prog Bs (ay f180 58) [.func (.func 206) #[] #[],xM 0 (n-z) z] [(0,some (.row fin 3 1))] (xM 0 (nd bz a2) z) []:=λBs=>
  aOz (Bs:=Bs) (y:=.func 206) (k:=0) (off:=z*1) (cc:=z) (x:=.row fin 3 1) k_ rfl AF aDd VF o_
 unfold xN mT at l1;unfold xO mT at l2;unfold Dw at l3;refine aNZ (x:=.func 180) ho k_ o_ (mh _) (mh _) rfl jX λw g cap cur hg lq jx bE hc=>?_;have hm:=RJ hg jx bE hc (mh _)
 refine uc (M:=[(0,.row (ak (aa bz n a)) 3 1)]) (next:=1) (args:=[sl 0 n]) (args':=[.slice (some ⟨g,0,none⟩) n cap]) (v:=.tuple #[xM 0 (nd bz a2) z,vI (24*z+r)])
  (ms:=[(0,.row fin 3 1)]) (N:=62) mixed func180 k_ 200
  (rs:=[(.code 0 _ _ _ _ _ (l1 _):aQ prog (ae.vl w g) 62),.code 2 _ _ _ _ _ (l2 _),.code 4 _ _ _ _ _ (l3 _),.step 58 (ay f180 58) _ _ _ _ (htr _),.sum 61 (24*z) r (24*z+r) rfl o_]) k_ ?_ hm ?_ ?_ ?_
 ·exact .cons (.slc (off:=0) (fC _ _ _) lq o_) .nil
 ·exact YU _ _ _
 ·intro k hk;unfold aV;rw[al o_]
 ·intro av bX v' w' hle sT bo dG;have Bd:=dG _ (aL ..);have tT:=hle 0 _ (fC _ _ _);obtain⟨q1,fP,q2,q3,q4⟩:=RK bo tT Bd (aY.1 AF);obtain⟨cL,rfl,aU⟩:=sT.tS;obtain⟨p,q,hp,h3,h4⟩:=iY aU;have e:cL=#[p,q]:=vf.1 (by rw[hp]);subst e;rw[h4.fh rfl];have cx:=ox (len:=nd bz a2) bo Bd rfl (aY.1 AF) (λh=>h) h3;have VG:c8 w' p (nd bz a2) ((fin.drop (z*1)).take (nd bz a2)):=cx;rw[CH]at VG;rcases h3.gR rfl with ⟨_,D1,_⟩|⟨b,oo,pA,c2,gM,_,_,he⟩
  ·omega
  ·dsimp only at gM he;rw[tT]at gM;injection gM with gM;injection gM with gM hb3 hb4;subst gM;subst hb3;rw[he]at VG ⊢;exact⟨_,_,rfl,q1,⟨fP,q2,q3⟩,VG⟩
theorem aDe(h:m%2=1)(s:Nat):Nat.Coprime (2^s) m:=by refine Nat.Coprime.pow_left s ?_;show Nat.gcd 2 m=1;rw[Nat.gcd_rec,h];rfl
theorem aDf{x y s t:Nat}(h:x*2^s=y*2^t)(hx:x%2=1)(bK:s<=t):x=y/\s=t:=by
 obtain⟨d,rfl⟩:∃ d,t=s+d:=⟨t-s,by omega⟩;have h2:0<2^s:=cF d_;rw[eh,cK (2^s),<-fK]at h;have h3:=aJF h2 h;cases d with
 |zero=>exact⟨by rw[h3];simp,rfl⟩
 |succ d=>
  exfalso;rw[dr,<-fK]at h3;rw[h3,YF]at hx;cases hx
theorem aOO{x y s t:Nat}(h:x*2^s=y*2^t)(hx:x%2=1)(hy:y%2=1):x=y/\s=t:=by
 rcases Ns s t with h1|h1
 ·exact aDf h hx h1
 ·obtain⟨e1,e2⟩:=aDf h.symm hy h1;exact⟨e1.symm,e2.symm⟩
noncomputable def gF(a:Nat):Nat:=by
 classical
 exact if h:∃ x s,a=x*2^s/\x%2=1 then h.choose else 1
theorem aDg{x s:Nat}(h:a=x*2^s)(hx:x%2=1):gF a=x:=by have hex:∃ x s,a=x*2^s/\x%2=1:=⟨x,s,h,hx⟩;unfold gF;rw[dif_pos hex];obtain⟨t,h1,h2⟩:=hex.choose_spec;exact(aOO (h1.symm.trans h) h2 hx).1
theorem VH(h0:a≠0):∃ s,a=gF a*2^s/\gF a%2=1/\gF a<=a:=by obtain⟨z,r,_,_,_,_,_,_,h1,h2⟩:=aDa h0;have e:=aDg h1 h2;rw[e];exact⟨_,h1,h2,dc (Ez _ (cF d_)) (u4 h1.symm)⟩
noncomputable def gs(a b:Nat):Nat->Nat×Nat
 |0=>(a,b)
 |i+1=>(min (gs a b i).1 (gs a b i).2,gF (max (gs a b i).1 (gs a b i).2-min (gs a b i).1 (gs a b i).2))
theorem aOP{u v:Nat}(hu:u%2=1)(hv:v%2=1)(bd:u≠v):min u v%2=1/\gF (max u v-min u v)%2=1/\Nat.gcd (min u v) (gF (max u v-min u v))=Nat.gcd u v/\min u v+gF (max u v-min u v)<u+v/\max (min u v) (gF (max u v-min u v))<=max u v:=by
 have go:∀ u v,u%2=1->u<v->gF (v-u)%2=1/\Nat.gcd u (gF (v-u))=Nat.gcd u v/\u+gF (v-u)<u+v/\max u (gF (v-u))<=v:=by intro u v hu ao;obtain⟨s,h1,h2,h3⟩:=VH (show v-u≠0 by omega);refine⟨h2,?_,by omega,Nat.max_le.2 ⟨by omega,by omega⟩⟩;have h4:=(aDe hu s).gcd_mul_right_cancel_right (gF (v-u));rw[<-h1]at h4;rw[<-h4,Nat.gcd_sub_self_right o_]
 rcases Eb bd with h|h
 ·rw[nh o_,aDh o_];obtain⟨h1,h2,h3,h4⟩:=go u v hu h;exact⟨hu,h1,h2,h3,h4⟩
 ·rw[Vm o_,aDi o_];obtain⟨h1,h2,h3,h4⟩:=go v u hv h;exact⟨hv,h1,by rw[h2,G4],by omega,h4⟩
theorem Pz{a b:Nat}(ha:a%2=1)(hb:b%2=1):∀ i,(∀ j,j<i->(gs a b j).1≠(gs a b j).2)->(gs a b i).1%2=1/\(gs a b i).2%2=1/\Nat.gcd (gs a b i).1 (gs a b i).2=Nat.gcd a b/\(gs a b i).1+(gs a b i).2+i<=a+b/\max (gs a b i).1 (gs a b i).2<=max a b
 |0,_=>⟨ha,hb,rfl,bh _,bh _⟩
 |i+1,h=>by obtain⟨h1,h2,h3,h4,h5⟩:=Pz ha hb i λj hj=>h j o_;obtain⟨k1,k2,k3,k4,k5⟩:=aOP h1 h2 (h i o_);exact⟨k1,k2,k3.trans h3,by show min _ _+gF _+(i+1)<=a+b;omega,dc k5 h5⟩
theorem aOQ(ha:a%2=1)(hb:b%2=1):∃ n,(gs a b n).1=(gs a b n).2/\∀ i,i<n->(gs a b i).1≠(gs a b i).2:=by
 have key:∃ n,(gs a b n).1=(gs a b n).2:=jo λfJ=>by have:=Pz ha hb (a+b+1) λj _ h=>fJ ⟨j,h⟩;omega
 obtain⟨n,hn⟩:=key;obtain⟨e,h1,h2,h3⟩:=yA (λi=>(gs a b i).1=(gs a b i).2) n hn;exact⟨e,h2,h3⟩
theorem aOR{x y s t:Nat}(hx:x%2=1)(hy:y%2=1):Nat.gcd (x*2^s) (y*2^t)=Nat.gcd x y*2^(min s t):=by
 have go:∀ x y s t,x%2=1->s<=t->Nat.gcd (x*2^s) (y*2^t)=Nat.gcd x y*2^s:=by intro x y s t hx bK;obtain⟨d,rfl⟩:∃ d,t=s+d:=⟨t-s,by omega⟩;rw[eh,cK (2^s),<-fK,Nat.gcd_mul_right,(aDe hx d).gcd_mul_right_cancel_right]
 rcases Ns s t with h|h
 ·rw[nh h,go x y s t hx h]
 ·rw[Vm h,G4,go y x t s hy h,G4]
theorem VI(h:decide (a=b)=t):Value.bool (gP a b==0)=.bool t:=by
 rw[<-h];congr 1;unfold gP
 by_cases h1:a<b
 ·rw[au h1,aO o_];rfl
 ·rw[al h1];by_cases h2:b<a
  ·rw[au h2,aO o_];rfl
  ·rw[al h2,aC o_];rfl
theorem aDj(h:decide (b<a)=t):Value.bool (decide (gP a b>0))=.bool t:=by
 rw[<-h];congr 1;rw[oW];unfold gP
 by_cases h1:a<b
 ·rw[au h1];omega
 ·rw[al h1];by_cases h2:b<a
  ·rw[au h2];omega
  ·rw[al h2];omega
theorem PA(h0:a≠0)(h63:nd bz a<1099511627776):∃ s,a=gF a*2^s/\s<35184372088832/\∀(Bs:ae) (o:Oper) (k j:Nat),di o.op=some (.func 180)->
  cz prog Bs o [.func (.func 180) #[] #[],sl k (nd bz a)] [(k,some (iW a)),(j,none)] (.tuple #[sl j (nd bz (gF a)),vI s]) [(j,dT (gF a)),(k,.dead)]:=by
 obtain⟨s,a2,h1,h2,h3,h4⟩:=aOM h0 h63;have e:=aDg h1 h2;rw[e];exact⟨s,h1,h3,h4⟩
section
variable{Bs:ae}
def gI(u v:Nat):aM:=[(9,sl 7 (nd bz u)),(10,sl 8 (nd bz v))]
def gX(u v:Nat):List Obj:=[dT u,dT v]
theorem aOS{u v:Nat}(ao:u<v)(hu:nd bz u<1099511627776)(hv:nd bz v<1099511627776):
  af prog Bs 111 (aF (ag f126 2)) (gI u v) ([]++marks 7 (gX u v)) 9 ⟨.normal,fm 7 [some 7,some 10] (gI u (gF (v-u))),[]++dj [some 7,some 10] (gX u (gF (v-u))),11⟩:=by
 have hd:nd bz (v-u)<1099511627776:=eX (je d_ (EL _ _)) hv;obtain⟨s,_,_,ho⟩:=PA (show v-u≠0 by omega) hd;exact az [.HY f126 86 7 8 u v (dT u) (dT v) rfl rfl rfl rfl o_ o_ k_,.rw 88 _ a_ (VI (a:=u) (b:=v) (aO o_)),.rw 90 _ a_ (aDj (a:=u) (b:=v) (aO o_)),.KY f126 96 9 8 7 v u (dT v) (dT u) rfl rfl rfl rfl o_ o_ k_,.step 97 _ _ _ _ _ (ho Bs (ay f126 97) 9 10 k_)]
theorem aOT{u v:Nat}(ao:v<u)(hu:nd bz u<1099511627776)(hv:nd bz v<1099511627776):
  af prog Bs 111 (aF (ag f126 2)) (gI u v) ([]++marks 7 (gX u v)) 9 ⟨.normal,fm 7 [some 8,some 10] (gI v (gF (u-v))),[]++dj [some 8,some 10] (gX v (gF (u-v))),11⟩:=by
 have hd:nd bz (u-v)<1099511627776:=eX (je d_ (EL _ _)) hu;obtain⟨s,_,_,ho⟩:=PA (show u-v≠0 by omega) hd;exact az [.HY f126 86 7 8 u v (dT u) (dT v) rfl rfl rfl rfl o_ o_ k_,.rw 88 _ a_ (VI (a:=u) (b:=v) (aO o_)),.rw 90 _ b_ (aDj (a:=u) (b:=v) (aC o_)),.KY f126 96 9 7 8 u v (dT u) (dT v) rfl rfl rfl rfl o_ o_ k_,.step 97 _ _ _ _ _ (ho Bs (ay f126 97) 9 10 k_)]
theorem aOU{u:Nat}(hu:nd bz u<1099511627776):
  af prog Bs 111 (aF (ag f126 2)) (gI u u) ([]++marks 7 (gX u u)) 9 ⟨.exit 2,[(9,sl 7 (nd bz u))],[(7,dT u)],9⟩:=
 az [.HY f126 86 7 8 u u (dT u) (dT u) rfl rfl rfl rfl o_ o_ k_,.rw 88 _ b_ (VI (a:=u) (b:=u) (aC rfl))]
theorem aOV(ha:a%2=1)(hb:b%2=1)(hm:nd bz (max a b)<1099511627776):
  af prog Bs 111 (.block 2 (ag f126 2)) [(9,sl 5 (nd bz a)),(10,sl 6 (nd bz b))] [(5,dT a),(6,dT b)] 7 ⟨.normal,[(9,sl 7 (nd bz (Nat.gcd a b)))],[(7,dT (Nat.gcd a b))],9⟩:=by
 obtain⟨n,hn,hi⟩:=aOQ ha hb;have uB:=(Pz ha hb n hi).2.2.1;rw[hn,Nat.gcd_self]at uB;have Ec:∀ i,i<=n->nd bz (gs a b i).1<1099511627776/\nd bz (gs a b i).2<1099511627776:=λi cx=>by have h:=(Pz ha hb i λj hj=>hi j o_).2.2.2.2;have h1:=je (B:=bz) d_ (dc (Nat.le_max_left _ _) h);have h2:=je (B:=bz) d_ (dc (Nat.le_max_right _ _) h);omega
 have vn:af prog Bs 111 (aF (ag f126 2)) (gI (gs a b n).1 (gs a b n).2) ([]++marks 7 (gX (gs a b n).1 (gs a b n).2)) 9 ⟨.exit 2,[(9,sl 7 (nd bz (Nat.gcd a b)))],[(7,dT (Nat.gcd a b))],9⟩:=by have gM:=(Ec n (bh _)).2;rw[hn,uB]at *;exact aOU gM
 have:=rT (P:=prog) (B:=Bs) (N:=111) (b:=aF (ag f126 2)) (next:=7) (p:=2) (r:=⟨.exit 2,[(9,sl 7 (nd bz (Nat.gcd a b)))],[(7,dT (Nat.gcd a b))],9⟩) n (λi=>gI (gs a b i).1 (gs a b i).2) (λ_=>[]) (λi=>gX (gs a b i).1 (gs a b i).2) [some 5,some 6] (λ_ _=>rfl)
  (λi _=>⟨λq hq=>(by cases hq),λz hz=>by simp[gX]at hz;rcases hz with rfl|rfl<;>exact GF (mh _)⟩) k_ k_
  (λi ao=>by
   have bd:=hi i ao;obtain⟨b1,b2⟩:=Ec i o_;have e1:(gs a b (i+1)).1=min (gs a b i).1 (gs a b i).2:=rfl;have e2:(gs a b (i+1)).2=gF (max (gs a b i).1 (gs a b i).2-min (gs a b i).1 (gs a b i).2):=rfl;simp only[e1,e2];generalize (gs a b i).1=u at *;generalize (gs a b i).2=v at *;rcases Eb bd with h|h
   ·rw[nh o_,aDh o_];exact⟨[some 7,some 10],11,k_,aOS h b1 b2⟩
   ·rw[Vm o_,aDi o_];exact⟨[some 8,some 10],11,k_,aOT h b1 b2⟩) vn n_
 exact bO (id:=2) this
def tI(g s t i:Nat):aM:=[(14,vI i),(9,sl 9 (nd bz (g*2^i))),(11,vI s),(12,vI t)]
theorem aOW{g s t:Nat}(hi:i<min s t)(hg:nd bz (g*2^i)<35184372088832)(hs:s<35184372088832):
  af prog Bs 111 (aF (ag f126 4)) (tI g s t i) ([]++marks 9 [dT (g*2^i)]) 10 ⟨.normal,fm 9 [some 10] (tI g s t (i+1)),[]++dj [some 10] [dT (g*2^(i+1))],11⟩:=by
 have ht:=aC3 (B:=Bs) (o:=ay f126 108) (x:=.func 181) (aNr (a:=g*2^i) (c:=0) o_ hg) (nE (k:=9) (x:=dT (g*2^i)) rfl rfl (.p (v:=vI 0) rfl .nil)) k_ k_ (sD _) 10;have e:2*(g*2^i)+0=g*2^(i+1):=by rw[dr,ja,mG,cK 2]
 rw[e]at ht;obtain⟨m,hm⟩:∃ m,m=min s t:=⟨_,rfl⟩;rw[<-hm]at hi;have dG:m<=s:=by rw[hm];exact Nat.min_le_left _ _
 unfold tI;generalize g*2^(i+1)=y at *;generalize g*2^i=x at *;exact az [.Pt f126 103 s t m hm k_,.lt 104 i m true (aC hi),.step 108 _ _ _ _ _ ht,.sum 106 i 1 (i+1) rfl o_]
theorem aOX{g s t:Nat}(hg:∀ i,i<=min s t->nd bz (g*2^i)<35184372088832)(hs:s<35184372088832):
  af prog Bs 111 (.block 4 (ag f126 4)) [(14,vI 0),(9,sl 7 (nd bz g)),(11,vI s),(12,vI t)] [(7,dT g)] 9 ⟨.normal,[(9,sl 9 (nd bz (g*2^min s t)))],[(9,dT (g*2^min s t))],10⟩:=by
 have:=rT (P:=prog) (B:=Bs) (N:=111) (b:=aF (ag f126 4)) (next:=9) (p:=1) (r:=⟨.exit 4,[(9,sl 9 (nd bz (g*2^min s t)))],[(9,dT (g*2^min s t))],10⟩) (min s t) (tI g s t) (λ_=>[]) (λi=>[dT (g*2^i)]) [some 7] (λ_ _=>rfl)
  (λi _=>⟨λq hq=>(by cases hq),λz hz=>by simp at hz;subst hz;exact GF (mh _)⟩) k_ k_
  (λi ao=>⟨[some 10],11,k_,aOW ao (hg i o_) hs⟩)
  (by unfold tI;obtain⟨m,hm⟩:∃ m,m=min s t:=⟨_,rfl⟩;rw[<-hm];generalize g*2^m=x at *;exact az [.Pt f126 103 s t m hm k_,.lt 104 m m false s_]) n_
 have e0:g*2^0=g:=by simp
 unfold tI at this;rw[e0]at this;exact bO (id:=4) this
def aVj(u v:Nat):aM:=[(5,vI u),(7,vI v)]
theorem aVs{x y:Nat}:af prog Bs 111 (.block 0 (ag f126 0)) (aVj x y) [] 3 ⟨.normal,[(5,vI (Nat.gcd x y))],[],3⟩:=by
 obtain⟨n,hn,hi⟩:=Nr x y (λ_ v=>decide (v≠0)) (λu v h=>jh h);have hz:(eu x y n).2=0:=by have:=AV hn;omega
 have hg:=JH x y n;rw[hz,SR]at hg;rw[<-hg];refine bO (id:=0) (ck (P:=prog) (B:=Bs) (N:=111) (b:=aF (ag f126 0)) (next:=3) (r:=⟨.exit 0,[(5,vI (eu x y n).1)],[],3⟩) n (λi=>aVj (eu x y i).1 (eu x y i).2) (λ_=>[]) (λ_ _ _=>Iff.rfl) (λi ao=>?_) ?_ n_)
 ·have h0:(eu x y i).2≠0:=jh (hi i ao);show af _ _ _ _ (aVj (eu x y i).1 (eu x y i).2) [] 3 ⟨.normal,aVj (eu x y i).2 ((eu x y i).1%(eu x y i).2),[],3⟩;generalize (eu x y i).1=u at *;generalize (eu x y i).2=v at *;exact az [.rw 49 (.bool ((v:Int)!=0)) b_ (by congr 1;rw[qH];omega),.Aw f126 53 .i64 (u:Int) v ((u%v:Nat):Int) o_ (by rw[yJ o_];rfl) k_]
 ·rw[hz];exact az [.rw 49 (.bool (((0:Nat):Int)!=0)) a_ rfl]
end
theorem aVu{n1 n2:Bool}{p:Nat}(v1:n1=true->m1≠0)(v2:n2=true->m2≠0)(h1:m1<2^p)(h2:m2<2^q)(hp:p<=1099511627774)(hq:q<=1099511627774):
  aD prog 126 [sv n1 m1,sv n2 m2] (bI (Nat.gcd m1 m2:Nat)):=by
 have b1:=xI h1;have b2:=xI h2;have c1:=vx h1;have c2:=vx h2;have w1:=aU1 n1 v1;have w2:=aU1 n2 v2;have r1:=K0 m1;have r2:=K0 m2;obtain⟨t1,iE⟩:∃ t,decide (((nd 256 m1:Nat):Int)<=7)=t:=⟨_,rfl⟩;obtain⟨t2,nP⟩:∃ t,decide (((nd 256 m2:Nat):Int)<=7)=t:=⟨_,rfl⟩;by_cases hs:t1=true/\t2=true
 ·obtain⟨rfl,rfl⟩:=hs;have s1:=jh iE;have s2:=jh nP;have q1:=Vg (neg:=false) (m:=m1) n_ o_;have q2:=Vg (neg:=false) (m:=m2) n_ o_;have l1:m1<_:=KZ o_;have l2:m2<_:=KZ o_;have Nt:Nat.gcd m1 m2<72057594037927936:=by
   by_cases h0:m1=0
   ·rw[h0,Tw];exact l2
   ·exact eX (aAu _ (s8 h0)) l1
  exact aZ func126 (λw=>[w1.at 16,w2.at 20,.rw 26 _ (vI (nd 256 m1)) r1,.rw 27 (.bool (decide (((nd 256 m1:Nat):Int)<=7))) (.bool _) (by rw[iE]),.rw 31 _ (vI (nd 256 m2)) r2,.rw 32 (.bool (decide (((nd 256 m2:Nat):Int)<=7))) (.bool _) (by rw[nP]),q1.at 38,q2.at 45,.code 0 _ _ _ _ _ (aVs (x:=m1) (y:=m2)),(aVC (z:=((Nat.gcd m1 m2:Nat):Int)) o_ o_).at 55])
 ·by_cases hz:m1=0\/m2=0
  ·have e:Nat.gcd m1 m2=m1+m2:=by rcases hz with h|h<;>rw[h]<;>simp
   have bs:nd bz (m1+m2)<35184372088832:=by rcases hz with h|h<;>rw[h]<;>simp<;>omega
   rw[e];obtain⟨z1,HM⟩:∃ t,decide (nd bz m1=0)=t:=⟨_,rfl⟩;obtain⟨z2,KI⟩:∃ t,decide (nd bz m2=0)=t:=⟨_,rfl⟩;have hzz:¬(z1=false/\z2=false):=by
    rintro⟨rfl,rfl⟩
    rcases hz with h|h
    ·exact AV HM (by rw[h,qF])
    ·exact AV KI (by rw[h,qF])
   refine fj mixed func126 100 (λw=>[w1.at 16,w2.at 20,.rw 26 _ (vI (nd 256 m1)) r1,.rw 27 (.bool (decide (((nd 256 m1:Nat):Int)<=7))) (.bool t1) (by rw[iE])]++(bif t1 then[.rw 31 _ (vI (nd 256 m2)) r2,.rw 32 (.bool (decide (((nd 256 m2:Nat):Int)<=7))) (.bool t2) (by rw[nP])]else[])++[.xH f126 58 3 m1 o_ k_,.xH f126 61 4 m2 o_ k_,.gm 64 (nd bz m1) 0 z1 HM]++(bif z1 then[]else[.gm 68 (nd bz m2) 0 z2 KI])++[
     .aCR f126 72 5 3 4 m1 m2 (iW m1) (iW m2) rfl rfl rfl rfl o_ o_ k_,.zC f126 73 5 (m1+m2) false (iW (m1+m2)) rfl rfl bs k_]) (λ_=>?_) k_ ?_<;>cases t1<;>cases t2<;>cases z1<;>cases z2<;>first|exact absurd ⟨rfl,rfl⟩ hs|exact absurd ⟨rfl,rfl⟩ hzz|kernel_rfl
  ·have uh:m1≠0:=λe=>hz (.inl e);have Cy:m2≠0:=λe=>hz (.inr e);have h41:=wJ (B:=bz) d_ uh;have h42:=wJ (B:=bz) d_ Cy;obtain⟨s,es,hsb,os⟩:=PA uh o_;obtain⟨t,et,htb,ot⟩:=PA Cy o_;obtain⟨_,_,o1,xk⟩:=VH uh;obtain⟨_,_,o2,VJ⟩:=VH Cy;have sY:=aOR (s:=s) (t:=t) o1 o2;rw[<-es,<-et]at sY;have Uj:nd bz (max (gF m1) (gF m2))<1099511627776:=by
    have k1:=je (B:=bz) d_ xk;have k2:=je (B:=bz) d_ VJ;rcases Ns (gF m1) (gF m2)with h|h
    ·rw[aDh h];omega
    ·rw[aDi h];omega
   have gl:=λBs=>aOV (Bs:=Bs) o1 o2 Uj;have J7:Nat.gcd m1 m2<=m1:=aAu _ (s8 uh);have tb:∀ i,i<=min s t->nd bz (Nat.gcd (gF m1) (gF m2)*2^i)<35184372088832:=λi hi=>by
    have k1:Nat.gcd (gF m1) (gF m2)*2^i<=Nat.gcd m1 m2:=by rw[sY];exact jq _ (c7 d_ hi)
    have k2:=je (B:=bz) d_ (dc k1 J7);omega
   have tl:=λBs=>aOX (Bs:=Bs) (g:=Nat.gcd (gF m1) (gF m2)) (s:=s) (t:=t) tb hsb;rw[<-sY]at tl;have bg:nd bz (Nat.gcd m1 m2)<35184372088832:=by have:=je (B:=bz) d_ J7;omega
   generalize Nat.gcd m1 m2=G at *;generalize Nat.gcd (gF m1) (gF m2)=G0 at *;generalize gF m1=x1 at *;generalize gF m2=x2 at *;refine fj mixed func126 200 (λw=>[w1.at 16,w2.at 20,.rw 26 _ (vI (nd 256 m1)) r1,.rw 27 (.bool (decide (((nd 256 m1:Nat):Int)<=7))) (.bool t1) (by rw[iE])]++(bif t1 then[.rw 31 _ (vI (nd 256 m2)) r2,.rw 32 (.bool (decide (((nd 256 m2:Nat):Int)<=7))) (.bool t2) (by rw[nP])]else[])++[.xH f126 58 3 m1 o_ k_,.xH f126 61 4 m2 o_ k_,.gm 64 (nd bz m1) 0 false (aO o_),.gm 68 (nd bz m2) 0 false (aO o_),.step 76 _ _ _ _ _ (os _ (ay f126 76) 3 5 k_),.step 81 _ _ _ _ _ (ot _ (ay f126 81) 4 6 k_),.code 2 _ _ _ _ _ (gl _),.code 4 _ _ _ _ _ (tl _),.zC f126 110 9 G false (dT G) rfl rfl bg k_]) (λ_=>?_) k_ ?_<;>cases t1<;>cases t2<;>first|exact absurd ⟨rfl,rfl⟩ hs|kernel_rfl
theorem aVJ{x:Int}{p:Nat}(h1:x.natAbs<2^p)(h2:y.natAbs<2^q)(hp:p<=1099511627774)(hq:q<=1099511627774):aD prog 126 [bI x,bI y] (bI (Nat.gcd x.natAbs y.natAbs:Nat)):=by revert h1 h2;refine EM (C:=λx y v u=>x.natAbs<2^p->y.natAbs<2^q->aD prog 126 [v,u] (bI (Nat.gcd x.natAbs y.natAbs:Nat))) (λn1 n2 m1 m2 v1 v2 h1 h2=>?_) x y;rw[pS]at h1 h2;rw[pS,pS];exact aVu v1 v2 h1 h2 hp hq
theorem aUJ{g:Nat}{x:Int}{p:Nat}(h1:g<2^p)(h2:x.natAbs<2^q)(hp:p<=aA)(hq:q<=aA):aD prog 126 [bI g,bI x] (bI (Nat.gcd g x.natAbs:Nat)):=by have:=aVJ (x:=(g:Int)) (y:=x) (by rw[AY];exact h1) h2 hp hq;rw[AY]at this;exact this
theorem aVE{x:Int}{n:Nat}(hy:y≠0)(h1:x.natAbs<2^n)(h2:y.natAbs<2^n)(hn:n<=aA):aD prog 176 [bI x,bI y] (bI (x.fdiv y)):=
 aZ func176 (λ_=>[(aVh hy h1 h2 hn hn).at 11])
theorem aUQ{c:Nat->Int}{d:Int}{n:Nat}(hd:d≠0)(h:dH n (nU c d))(hn:n<=aA):aD prog 121 [pb c,bI d] (gZ (nU c d).low):=by
 obtain⟨h0,h1,h2,h3,h4⟩:=h;have g1:=aVJ h4 h0 hn hn;have s1:=tu h4 h0;have g2:=aUJ s1 h1 hn hn;have s2:=tu s1 h1;have g3:=aUJ s2 h2 hn hn;have s3:=tu s2 h2;have g4:=aUJ s3 h3 hn hn;obtain⟨f,hf⟩:∃ f,f=nU c d:=⟨_,rfl⟩;have u5:f.d≠0:=by rw[hf];exact hd
 have pU:=Tk u5;have Tz:=NO f;have hg:f.g<2^n:=by
  have h5:f.d.natAbs<2^n:=by rw[hf];exact h4
  exact eX (Nat.le_of_dvd o_ (ET f)) h5
 have bE:f.s.natAbs<2^n:=by rw[Tz];exact hg
 have ov:∀ u:Int,f.g ∣ u.natAbs->u.natAbs<2^n->aD prog 176 [bI u,bI f.s] (bI (u/f.s)):=λu hu xg=>by have:=aVE pU xg bE hn;rw[Int.fdiv_eq_ediv_of_dvd (CP hu)]at this;exact this
 have o0:=ov f.a (NK f) (by rw[hf];exact h0);have o1:=ov f.b (NL f) (by rw[hf];exact h1);have o2:=ov f.c (NM f) (by rw[hf];exact h2);have o3:=ov f.e (NN f) (by rw[hf];exact h3);have o4:=ov f.d (ET f) (by rw[hf];exact h4);have A1:=aVC (z:=1) d_ d_;have aB:=aUX d;have VK:Nat.gcd (Nat.gcd (Nat.gcd (Nat.gcd (nU c d).d.natAbs (nU c d).a.natAbs) (nU c d).b.natAbs) (nU c d).c.natAbs) (nU c d).e.natAbs=f.g:=by rw[hf];rfl
 rw[VK]at g4;have ab:=aNJ (f.g:Int);rw[AY]at ab;rw[<-hf];have e0:f.a=c 0:=by rw[hf];rfl
 have e1:f.b=c 1:=by rw[hf];rfl
 have e2:f.c=c 2:=by rw[hf];rfl
 have e3:f.e=c 3:=by rw[hf];rfl
 have e4:f.d=d:=by rw[hf];rfl
 have one:(bt 1).Sm:=tt (n:=1) d_ d_;have sm:(bt f.s).Sm:=tt bE hn;by_cases E0:d<0
 ·have hs:f.s=-(f.g:Int):=by unfold Fr.s;rw[e4,au E0]
  have bd:bt f.s≠bt 1:=λe=>by have:=xf e;omega
  have ng:=aVd (f.g:Int);rw[<-hs]at ng;rw[e0]at o0;rw[e1]at o1;rw[e2]at o2;rw[e3]at o3;rw[e4]at o4;have du:f.low=⟨c 0/f.s,c 1/f.s,c 2/f.s,c 3/f.s,d/f.s⟩:=by unfold Fr.low;rw[e0,e1,e2,e3,e4]
  rw[du];have A2:decide (d.sign<0)=true:=aC (by rw[EK E0];decide);generalize f.s=s at *;exact fj mixed func121 200 (λ_=>[g1.at 18,g2.at 18,g3.at 18,g4.at 18,ab.at 20,aB.at 22,.rw 23 (.bool (decide (d.sign<0))) b_ (by rw[A2]),ng.at 25,A1.at 30,.step 31 (ay f121 31) _ _ _ _ (A0 (neg:=false) k_ (bt s) (bt 1) sm one (b:=true) (by simp;exact bd)),o0.at 41,o1.at 41,o2.at 41,o3.at 41,o4.at 46]) (λ_=>k_) k_ k_
 ·have hs:f.s=(f.g:Int):=by unfold Fr.s;rw[e4,al E0]
  have A2:decide (d.sign<0)=false:=aO (by rw[yO o_];decide);by_cases tv:f.g=1
  ·have du:f.low=f:=by unfold Fr.low;rw[hs,tv];simp
   rw[du,hf];rw[tv]at g4 ab;exact fj mixed func121 200 (λ_=>[g1.at 18,g2.at 18,g3.at 18,g4.at 18,ab.at 20,aB.at 22,.rw 23 (.bool (decide (d.sign<0))) a_ (by rw[A2]),A1.at 30,.step 31 (ay f121 31) _ _ _ _ (A0 (neg:=false) k_ (bt 1) (bt 1) one one (b:=false) s_)]) (λ_=>k_) k_ k_
  ·have bd:bt f.s≠bt 1:=λe=>by have:=xf e;omega
   rw[e0]at o0;rw[e1]at o1;rw[e2]at o2;rw[e3]at o3;rw[e4]at o4;have du:f.low=⟨c 0/f.s,c 1/f.s,c 2/f.s,c 3/f.s,d/f.s⟩:=by unfold Fr.low;rw[e0,e1,e2,e3,e4]
   rw[du];rw[<-hs]at g4 ab;generalize f.s=s at *;exact fj mixed func121 200 (λ_=>[g1.at 18,g2.at 18,g3.at 18,g4.at 18,ab.at 20,aB.at 22,.rw 23 (.bool (decide (d.sign<0))) a_ (by rw[A2]),A1.at 30,.step 31 (ay f121 31) _ _ _ _ (A0 (neg:=false) k_ (bt s) (bt 1) sm one (b:=true) (by simp;exact bd)),o0.at 41,o1.at 41,o2.at 41,o3.at 41,o4.at 46]) (λ_=>k_) k_ k_
theorem aVH(h:z.natAbs<9223372036854775808):aD prog 19 [.int .i64 z] (cd (kI z)):=by
 rw[aAv];have e:gZ ⟨z,0,0,0,1⟩=(RN.mk (bt z) ⟨false,[]⟩ ⟨false,[]⟩ ⟨false,[]⟩ (bt 1)).v:=by unfold gZ qO;rw[CV]
 rw[e];exact aZ func19 (λ_=>[(aVC (z:=z) o_ o_).at 4,(aVC (z:=1) d_ d_).at 6])
section
variable{P:j_}{B:ae}{N:Nat}
def H3(o:Oper):Bool:=match o.op with
 |.call c=>match c.callee,c.args.toList with
  |.builtin .max,[_,_]=>true
  |_,_=>false
 |_=>false
theorem aOY(ho:H3 o=true){x:Int}:cz P B o [.int .i64 x,.int .i64 (-x)] [] (vI x.natAbs) []:=by
 unfold H3 at ho;split at ho
 ·rename_i c bM;split at ho
  ·rename_i p q h1 h2;refine(Ac (λu hu=>by simp at hu;rcases hu with rfl|rfl<;>rfl) rfl λρ e6 w _=>?_).step;obtain⟨ce,ar,at'⟩:=c;dsimp only at h1 h2;subst h1;have e1:ar=#[p,q]:=by rw[<-xn (xs:=ar),h2]
   subst e1;rw[bM]at e6;simp[Op.operands,Call.operands]at e6;simp[execOp,bM,resolve,invoke,builtin,Builtin.max_,Builtin.max2,e6.1,e6.2,vI];split<;>omega
  ·cases ho
 ·cases ho
def aQ.K6(fn:Func)(key:Nat)(x:Int)(ho:H3 (ay fn key)=true):aQ P B N:=
 .step key (ay fn key) [.int .i64 x,.int .i64 (-x)] [] (vI x.natAbs) [] (aOY ho)
end
theorem aOZ(l:List UInt8)(c:UInt8):fQ (l++[c])=fQ l*256+c.toNat:=by unfold fQ;rw[O7];rfl
def fU(r:RN):Nat->RI
 |0=>r.a
 |1=>r.b
 |2=>r.c
 |3=>r.e
 |_=>r.d
def dL(r:RI):Int:=sg r.neg (fQ r.aT)
def w5(W:Nat->Int):ah:=[.int .i64 (W 0),.int .i64 (W 1),.int .i64 (W 2),.int .i64 (W 3),.int .i64 (W 4)]
def wv(r:RN)(i:Nat):Nat->Int:=λj=>match Nat.blt j i with|true=>dL (fU r j)|false=>0
def aO0(W:Nat->Int)(i:Nat)(x:Int):Nat->Int:=λj=>match Nat.beq j i with|true=>x|false=>W j
section
variable{Bs:ae}{W:Nat->Int}{q:RI}
def BH(i k:Nat):aM:=[(5,vI i),(4,ptr 2),(6,ptr (3+i)),(7,vI k)]
def xP(W:Nat->Int)(q:RI)(i k:Nat):aE:=[(2,.aI (w5 (aO0 W i (fQ (q.aT.take k):Nat))) 132),(3+i,.aI q.cs 37)]
theorem aO1(hi:i<5)(hk:k<q.aT.length)(h3:q.aT.length<=3):
  af prog Bs 58 (aF (ag f122 2)) (BH i k) (xP W q i k) (4+i) ⟨.normal,BH i (k+1),xP W q i (k+1),4+i⟩:=by
 obtain⟨c,hc⟩:∃ c,q.aT[k]?=some c:=⟨q.aT[k],aW hk⟩;have hv:fQ (q.aT.take (k+1))=fQ (q.aT.take k)*256+c.toNat:=by rw[sA,hc];exact aOZ _ _
 have hb:(BA q.aT)[k]?=some c:=by rw[Jp];exact hc
 have bE:Value.int .i64 ((BA q.aT).size:Int)=vI q.aT.length:=by rw[oA];rfl
 have ao:fQ (q.aT.take k)<65536:=by have h1:=Ax (q.aT.take k);have h2:(256:Nat)^(q.aT.take k).length<=256^2:=c7 d_ (by rw[jn];omega);exact cC h1 (dc h2 d_)
 have hc3:=c.toNat_lt;unfold BH xP;rw[hv];generalize fQ (q.aT.take k)=x at *;have w1:IntKind.i64.wrap ((x:Int)*2^8)=((x*256:Nat):Int):=by rw[show((x:Int)*2^8)=((x*256:Nat):Int)by simp,dU];omega
 have w2:IntKind.i64.wrap (c.toNat:Int)=(c.toNat:Int):=by rw[dU];omega
 have w3:IntKind.i64.wrap (((x*256:Nat):Int)+(c.toNat:Int))=((x*256+c.toNat:Nat):Int):=by rw[dU];omega
 generalize x*256+c.toNat=y at *;generalize x*256=z at *;generalize q.aT.length=L at *;rcases i with _|_|_|_|_|i
 all_goals first|omega|exact az [.rw 33 _ (vI L) bE,.lt 34 k L true (aC hk),.wr 41 .i64 ((x:Int)*2^8) _ w1,.sx f122 45 (BA q.aT) k c hb k_,.wr 46 .i64 (c.toNat:Int) _ w2,.wr 47 .i64 _ _ w3,.sum 36 k 1 (k+1) rfl o_]
theorem aO2(hi:i<5)(h3:q.aT.length<=3):
  af prog Bs 58 (.block 2 (ag f122 2)) (BH i 0) (xP W q i 0) (4+i) ⟨.normal,BH i q.aT.length,xP W q i q.aT.length,4+i⟩:=by
 have bE:Value.int .i64 ((BA q.aT).size:Int)=vI q.aT.length:=by rw[oA];rfl
 refine bO (id:=2) (ck (b:=aF (ag f122 2)) (r:=⟨.exit 2,BH i q.aT.length,xP W q i q.aT.length,4+i⟩) q.aT.length (BH i) (xP W q i) (λk t _=>jO (l:=xP W q i k) (m:=xP W q i 0) rfl t) (λk hk=>aO1 hi hk h3) ?_ n_);unfold BH xP;generalize fQ (q.aT.take q.aT.length)=x at *;generalize q.aT.length=L at *;rcases i with _|_|_|_|_|i
 all_goals first|omega|exact az [.rw 33 _ (vI L) bE,.lt 34 L L false s_]
def FH(i:Nat):aM:=[(5,vI i),(1,ptr 0),(2,ptr 1),(4,ptr 2)]
def FI(r:RN)(W:Nat->Int):aE:=[(0,.aI r.cs 40),(1,.aI (w5 λ_=>0) 132),(2,.aI (w5 W) 132)]
theorem aO3(hi:i<5)(h3:(fU r i).aT.length<=3)(hv:xa (fU r i).neg (fU r i).aT=true):
  af prog Bs 58 (.block 1 (ag f122 1)) (FH i) (FI r (wv r i)) (3+i) ⟨.normal,FH i,FI r (wv r (i+1)),4+i⟩:=by
 have lo:=aO2 (Bs:=Bs) (W:=wv r i) (q:=fU r i) hi h3;have mS:=aVl (fU r i).neg (fU r i).aT;rw[hv]at mS;have bE:Value.int .i64 ((BA (fU r i).aT).size:Int)=vI (fU r i).aT.length:=by rw[oA];rfl
 have lg:Value.bool (decide (((fU r i).aT.length:Int)>3))=.bool false:=by rw[aO o_]
 unfold xP BH at lo;rw[Sb,mN]at lo;have e0:fQ []=0:=rfl;rw[e0]at lo;have ao:fQ (fU r i).aT<16777216:=by have h1:=Ax (fU r i).aT;have h2:(256:Nat)^(fU r i).aT.length<=256^3:=c7 d_ h3;exact cC h1 (dc h2 d_)
 have wn:IntKind.i64.wrap (0-(fQ (fU r i).aT:Int))=-(fQ (fU r i).aT:Int):=by rw[dU];omega
 rcases r with ⟨⟨an,am⟩,⟨bn,bm⟩,⟨cn,cm⟩,⟨en,em⟩,⟨dn,dm⟩⟩;rcases i with _|_|_|_|_|i
 ·cases an
  ·exact az [.rw 22 _ (vI am.length) bE,.rw 23 _ a_ lg,mS.at 26,.code 2 _ _ _ _ _ lo]
  ·exact az [.rw 22 _ (vI am.length) bE,.rw 23 _ a_ lg,mS.at 26,.code 2 _ _ _ _ _ lo,.wr 55 .i64 _ _ wn]
 ·cases bn
  ·exact az [.rw 22 _ (vI bm.length) bE,.rw 23 _ a_ lg,mS.at 26,.code 2 _ _ _ _ _ lo]
  ·exact az [.rw 22 _ (vI bm.length) bE,.rw 23 _ a_ lg,mS.at 26,.code 2 _ _ _ _ _ lo,.wr 55 .i64 _ _ wn]
 ·cases cn
  ·exact az [.rw 22 _ (vI cm.length) bE,.rw 23 _ a_ lg,mS.at 26,.code 2 _ _ _ _ _ lo]
  ·exact az [.rw 22 _ (vI cm.length) bE,.rw 23 _ a_ lg,mS.at 26,.code 2 _ _ _ _ _ lo,.wr 55 .i64 _ _ wn]
 ·cases en
  ·exact az [.rw 22 _ (vI em.length) bE,.rw 23 _ a_ lg,mS.at 26,.code 2 _ _ _ _ _ lo]
  ·exact az [.rw 22 _ (vI em.length) bE,.rw 23 _ a_ lg,mS.at 26,.code 2 _ _ _ _ _ lo,.wr 55 .i64 _ _ wn]
 ·cases dn
  ·exact az [.rw 22 _ (vI dm.length) bE,.rw 23 _ a_ lg,mS.at 26,.code 2 _ _ _ _ _ lo]
  ·exact az [.rw 22 _ (vI dm.length) bE,.rw 23 _ a_ lg,mS.at 26,.code 2 _ _ _ _ _ lo,.wr 55 .i64 _ _ wn]
 ·omega
theorem aO4(hi:i<5)(h3:¬(fU r i).aT.length<=3):
  af prog Bs 58 (.block 1 (ag f122 1)) (FH i) (FI r (wv r i)) (3+i) ⟨.ret,[(2,ptr 1),(3,.bool false)],[(1,.aI (w5 (wv r i)) 132)],4+i⟩:=by
 have bE:Value.int .i64 ((BA (fU r i).aT).size:Int)=vI (fU r i).aT.length:=by rw[oA];rfl
 have lg:Value.bool (decide (((fU r i).aT.length:Int)>3))=.bool true:=by rw[aC o_]
 rcases r with ⟨⟨an,am⟩,⟨bn,bm⟩,⟨cn,cm⟩,⟨en,em⟩,⟨dn,dm⟩⟩;rcases i with _|_|_|_|_|i
 ·exact az [.rw 22 _ (vI am.length) bE,.rw 23 _ b_ lg]
 ·exact az [.rw 22 _ (vI bm.length) bE,.rw 23 _ b_ lg]
 ·exact az [.rw 22 _ (vI cm.length) bE,.rw 23 _ b_ lg]
 ·exact az [.rw 22 _ (vI em.length) bE,.rw 23 _ b_ lg]
 ·exact az [.rw 22 _ (vI dm.length) bE,.rw 23 _ b_ lg]
 ·omega
theorem aO5(hi:i<5)(h3:(fU r i).aT.length<=3)(hv:xa (fU r i).neg (fU r i).aT=false):
  af prog Bs 58 (.block 1 (ag f122 1)) (FH i) (FI r (wv r i)) (3+i) ⟨.ret,[(2,ptr 1),(3,.bool false)],[(1,.aI (w5 (wv r i)) 132)],4+i⟩:=by
 have mS:=aVl (fU r i).neg (fU r i).aT;rw[hv]at mS;have bE:Value.int .i64 ((BA (fU r i).aT).size:Int)=vI (fU r i).aT.length:=by rw[oA];rfl
 have lg:Value.bool (decide (((fU r i).aT.length:Int)>3))=.bool false:=by rw[aO o_]
 rcases r with ⟨⟨an,am⟩,⟨bn,bm⟩,⟨cn,cm⟩,⟨en,em⟩,⟨dn,dm⟩⟩;rcases i with _|_|_|_|_|i
 ·exact az [.rw 22 _ (vI am.length) bE,.rw 23 _ a_ lg,mS.at 26]
 ·exact az [.rw 22 _ (vI bm.length) bE,.rw 23 _ a_ lg,mS.at 26]
 ·exact az [.rw 22 _ (vI cm.length) bE,.rw 23 _ a_ lg,mS.at 26]
 ·exact az [.rw 22 _ (vI em.length) bE,.rw 23 _ a_ lg,mS.at 26]
 ·exact az [.rw 22 _ (vI dm.length) bE,.rw 23 _ a_ lg,mS.at 26]
 ·omega
end
def qm(q:RI):Bool:=decide (q.aT.length<=3)&&xa q.neg q.aT
theorem aO6(hi:i<5)(h:qm (fU r i)=false):
  af prog Bs 58 (.block 1 (ag f122 1)) (FH i) (FI r (wv r i)) (3+i) ⟨.ret,[(2,ptr 1),(3,.bool false)],[(1,.aI (w5 (wv r i)) 132)],4+i⟩:=by
 unfold qm at h;by_cases h3:(fU r i).aT.length<=3
 ·rw[aC h3,kX]at h;exact aO5 hi h3 h
 ·exact aO4 hi h3
theorem H4(hi:i<5)(h:qm (fU r i)=true):
  af prog Bs 58 (.block 1 (ag f122 1)) (FH i) (FI r (wv r i)) (3+i) ⟨.normal,FH i,FI r (wv r (i+1)),4+i⟩:=by
 unfold qm at h;simp at h;exact aO3 hi h.1 h.2
theorem aDk(h:∀ i,i<5->qm (fU r i)=true):aD prog 122 [r.v] (.tuple #[.agg (w5 (wv r 5)).toArray,.bool true]):=
 fj mixed func122 200 (λw=>[.code 1 _ _ _ _ _ (H4 o_ (h 0 o_)),.code 1 _ _ _ _ _ (H4 o_ (h 1 o_)),.code 1 _ _ _ _ _ (H4 o_ (h 2 o_)),.code 1 _ _ _ _ _ (H4 o_ (h 3 o_)),.code 1 _ _ _ _ _ (H4 o_ (h 4 o_))]) (λ_=>k_) k_ k_
theorem aDl(h:¬∀ i,i<5->qm (fU r i)=true):∃ n,aD prog 122 [r.v] (.tuple #[.agg (w5 (wv r n)).toArray,.bool false]):=by
 have hex:∃ n,n<5/\qm (fU r n)=false:=jo λfJ=>h λi hi=>by
  cases hb:qm (fU r i)with
  |true=>rfl
  |false=>exact absurd ⟨i,hi,hb⟩ fJ
 obtain⟨n0,ki,kJ⟩:=hex;obtain⟨n,h1,h2,h3⟩:=yA (λi=>qm (fU r i)=false) n0 kJ;have ax:∀ i,i<n->qm (fU r i)=true:=λi hi=>by
  cases hb:qm (fU r i)with
  |true=>rfl
  |false=>exact absurd hb (h3 i hi)
 refine⟨n,?_⟩;have no:=λBs=>aO6 (Bs:=Bs) (show n<5 by omega) h2;have yes:=λBs i (hi:i<n)=>H4 (Bs:=Bs) (show i<5 by omega) (ax i hi)
 rcases n with _|_|_|_|_|n
 ·exact fj mixed func122 200 (λw=>[.code 1 _ _ _ _ _ (no _)]) (λ_=>k_) k_ k_
 ·exact fj mixed func122 200 (λw=>[.code 1 _ _ _ _ _ (yes _ 0 o_),.code 1 _ _ _ _ _ (no _)]) (λ_=>k_) k_ k_
 ·exact fj mixed func122 200 (λw=>[.code 1 _ _ _ _ _ (yes _ 0 o_),.code 1 _ _ _ _ _ (yes _ 1 o_),.code 1 _ _ _ _ _ (no _)]) (λ_=>k_) k_ k_
 ·exact fj mixed func122 200 (λw=>[.code 1 _ _ _ _ _ (yes _ 0 o_),.code 1 _ _ _ _ _ (yes _ 1 o_),.code 1 _ _ _ _ _ (yes _ 2 o_),.code 1 _ _ _ _ _ (no _)]) (λ_=>k_) k_ k_
 ·exact fj mixed func122 200 (λw=>[.code 1 _ _ _ _ _ (yes _ 0 o_),.code 1 _ _ _ _ _ (yes _ 1 o_),.code 1 _ _ _ _ _ (yes _ 2 o_),.code 1 _ _ _ _ _ (yes _ 3 o_),.code 1 _ _ _ _ _ (no _)]) (λ_=>k_) k_ k_
 ·omega
def G5(W:Nat->Int):Nat:=Nat.gcd (Nat.gcd (Nat.gcd (Nat.gcd (Nat.gcd 0 (W 0).natAbs) (W 1).natAbs) (W 2).natAbs) (W 3).natAbs) (W 4).natAbs
theorem K7(x y:Nat):af prog Bs 28 (.block 2 (ag f125 2)) [(5,vI x),(6,vI y)] [] 1 ⟨.normal,[(5,vI (Nat.gcd x y))],[],1⟩:=by
 obtain⟨n,hn,hi⟩:=Nr x y (λ_ v=>decide (v≠0)) (λu v h=>jh h);have hz:(eu x y n).2=0:=by have:=AV hn;omega
 have hg:=JH x y n;rw[hz,SR]at hg;rw[<-hg];refine bO (id:=2) (ck (P:=prog) (B:=Bs) (N:=28) (b:=aF (ag f125 2)) (next:=1) (r:=⟨.exit 2,[(5,vI (eu x y n).1)],[],1⟩) n (λi=>[(5,vI (eu x y i).1),(6,vI (eu x y i).2)]) (λ_=>[]) (λ_ _ _=>Iff.rfl) (λi ao=>?_) ?_ n_)
 ·have h0:(eu x y i).2≠0:=jh (hi i ao);show af _ _ _ _ [(5,vI (eu x y i).1),(6,vI (eu x y i).2)] [] 1 ⟨.normal,[(5,vI (eu x y i).2),(6,vI ((eu x y i).1%(eu x y i).2))],[],1⟩;generalize (eu x y i).1=u at *;generalize (eu x y i).2=v at *;exact az [.rw 21 (.bool ((v:Int)!=0)) b_ (by congr 1;rw[qH];omega),.Aw f125 25 .i64 (u:Int) v ((u%v:Nat):Int) o_ (by rw[yJ o_];rfl) k_]
 ·rw[hz];exact az [.rw 21 (.bool (((0:Nat):Int)!=0)) a_ rfl]
theorem aDm{W:Nat->Int}(hW:∀ i,(W i).natAbs<4611686018427387904):aD prog 125 [.agg (w5 W).toArray] (vI (G5 W)):=by
 have ng:∀ i,IntKind.i64.wrap (0-W i)=-(W i):=λi=>by have:=hW i;rw[dU];omega
 exact fj mixed func125 200 (λw=>[.wr 18 .i64 _ _ (ng 0),.K6 f125 19 (W 0) k_,.code 2 _ _ _ _ _ (K7 0 (W 0).natAbs),.wr 18 .i64 _ _ (ng 1),.K6 f125 19 (W 1) k_,.code 2 _ _ _ _ _ (K7 (Nat.gcd 0 (W 0).natAbs) (W 1).natAbs),.wr 18 .i64 _ _ (ng 2),.K6 f125 19 (W 2) k_,.code 2 _ _ _ _ _ (K7 (Nat.gcd (Nat.gcd 0 (W 0).natAbs) (W 1).natAbs) (W 2).natAbs),.wr 18 .i64 _ _ (ng 3),.K6 f125 19 (W 3) k_,.code 2 _ _ _ _ _ (K7 (Nat.gcd (Nat.gcd (Nat.gcd 0 (W 0).natAbs) (W 1).natAbs) (W 2).natAbs) (W 3).natAbs),.wr 18 .i64 _ _ (ng 4),.K6 f125 19 (W 4) k_,.code 2 _ _ _ _ _ (K7 (Nat.gcd (Nat.gcd (Nat.gcd (Nat.gcd 0 (W 0).natAbs) (W 1).natAbs) (W 2).natAbs) (W 3).natAbs) (W 4).natAbs)]) (λ_=>k_) k_ k_
def cw(f:Fr):Nat->Int
 |0=>f.a
 |1=>f.b
 |2=>f.c
 |3=>f.e
 |_=>f.d
theorem VL(f:Fr):G5 (cw f)=f.g:=by show Nat.gcd (Nat.gcd (Nat.gcd (Nat.gcd (Nat.gcd 0 f.a.natAbs) f.b.natAbs) f.c.natAbs) f.e.natAbs) f.d.natAbs=Nat.gcd (Nat.gcd (Nat.gcd (Nat.gcd f.d.natAbs f.a.natAbs) f.b.natAbs) f.c.natAbs) f.e.natAbs;rw[Tw];simp only[G4,Nat.gcd_left_comm]
theorem aDn{f:Fr}(hd:0<f.d)(hW:∀ i,(cw f i).natAbs<4611686018427387904):aD prog 123 [.agg (w5 (cw f)).toArray] (gZ f.low):=by
 have hg:=aDm hW;rw[VL]at hg;have hg0:=Tj (x:=f) o_;have hs:f.s=(f.g:Int):=by unfold Fr.s;rw[al o_]
 have du:f.low=⟨f.a/(f.g:Int),f.b/(f.g:Int),f.c/(f.g:Int),f.e/(f.g:Int),f.d/(f.g:Int)⟩:=by unfold Fr.low;rw[hs]
 rw[du];have qu:∀ u:Int,f.g ∣ u.natAbs->u.natAbs<4611686018427387904->IntKind.i64.wrap (u.tdiv (f.g:Int))=u/(f.g:Int)/\(u/(f.g:Int)).natAbs<4611686018427387904:=λu hu hb=>by have hd:=CP hu;rw[hs]at hd;have h2:=aJG u (f.g:Int);rw[Int.tdiv_eq_ediv_of_dvd hd,dU];omega
 obtain⟨a1,a2⟩:=qu f.a (NK f) (hW 0);obtain⟨b1,b2⟩:=qu f.b (NL f) (hW 1);obtain⟨c1,c2⟩:=qu f.c (NM f) (hW 2);obtain⟨e1,e2⟩:=qu f.e (NN f) (hW 3);obtain⟨d1,d2⟩:=qu f.d (ET f) (hW 4);have tv:(f.g:Int)≠0:=by omega
 have of:=λ(z:Int) (h:z.natAbs<4611686018427387904)=>aVC (z:=z) o_ o_
 exact fj mixed func123 200 (λw=>[hg.at 7,.vm f123 17 .i64 f.a (f.g:Int) (f.a/(f.g:Int)) tv a1 k_,(of _ a2).at 18,.vm f123 17 .i64 f.b (f.g:Int) (f.b/(f.g:Int)) tv b1 k_,(of _ b2).at 18,.vm f123 17 .i64 f.c (f.g:Int) (f.c/(f.g:Int)) tv c1 k_,(of _ c2).at 18,.vm f123 17 .i64 f.e (f.g:Int) (f.e/(f.g:Int)) tv e1 k_,(of _ e2).at 18,.vm f123 24 .i64 f.d (f.g:Int) (f.d/(f.g:Int)) tv d1 k_,(of _ d2).at 25]) (λ_=>k_) k_ k_
def e9(q:RI):Bool:=xa q.neg q.aT
theorem vS{q:RI}(h:e9 q=true):bt (dL q)=q:=by
 obtain⟨n,l⟩:=q;unfold e9 at h;unfold dL bt;rw[pS];cases l with
 |nil=>
  simp[xa]at h;subst h;simp[fQ,sg,CA]
 |cons c l=>
  simp[xa]at h;have hv:fQ (c::l)≠0:=by have:=Zk (l:=l) h;have:=cF (n:=l.length) (show 0<256 by decide);omega
  have hm:cD (fQ (c::l))=c::l:=aIm (by rintro c' r' e;injection e with e1 e2;rw[<-e1];exact h);show RI.mk (decide (sg n (fQ (c::l))<0)) (cD (fQ (c::l)))=_;rw[hm,VA (λ_=>hv)]
theorem xQ(z:Int):dL (bt z)=z:=by
 show sg (decide (z<0)) (fQ (cD z.natAbs))=z;rw[EC];unfold sg;by_cases h:z<0
 ·rw[aC h];simp;omega
 ·rw[aO h];simp;omega
theorem K8(z:Int):e9 (bt z)=true:=by show xa (decide (z<0)) (cD z.natAbs)=true;exact aCO _ (λh=>by have:=jh h;omega)
def fB(r:RN):Fr:=⟨dL r.a,dL r.b,dL r.c,dL r.e,dL r.d⟩
def kx(r:RN):Bool:=e9 r.a&&(e9 r.b&&(e9 r.c&&(e9 r.e&&(e9 r.d&&(decide (0<dL r.d)&&decide ((fB r).g=1))))))
theorem K9{g:Nat}{q:RI}{n:Nat}(h:e9 q=true)(h1:g<2^n)(h2:(dL q).natAbs<2^n)(hn:n<=aA):aD prog 126 [bI g,q.v] (bI (Nat.gcd g (dL q).natAbs:Nat)):=by have:=aUJ (g:=g) (x:=dL q) h1 h2 hn hn;rw[aAt (dL q),vS h]at this;exact this
theorem aO7:bI ((0:Nat):Int)=.agg #[.bool false,.string ⟨#[]⟩]:=by show(bt 0).v=_;rw[CV];rfl
theorem La{n:Nat}(bE:dH n (fB r))(hn:n<=aA):aD prog 76 [r.v] (.bool (kx r)):=by
 obtain⟨sa,sb,sc,se,sd⟩:=bE
 replace sa:(dL r.a).natAbs<2^n:=sa
 replace sb:(dL r.b).natAbs<2^n:=sb
 replace sc:(dL r.c).natAbs<2^n:=sc
 replace se:(dL r.e).natAbs<2^n:=se
 replace sd:(dL r.d).natAbs<2^n:=sd
 by_cases hw:∀ i,i<5->qm (fU r i)=true
 ·have wok:=aDk hw;have raw:∀ i,i<5->e9 (fU r i)=true:=λi hi=>by have:=hw i hi;unfold qm at this;simp at this;exact this.2
  have hb:∀ i,(wv r 5 i).natAbs<4611686018427387904:=λi=>by
   unfold wv;split
   ·rename_i h;have hi:i<5:=by rw[yu]at h;exact h
    have:=hw i hi;unfold qm at this;simp at this;unfold dL;rw[pS];have h1:=Ax (fU r i).aT;have h2:(256:Nat)^(fU r i).aT.length<=256^3:=c7 d_ this.1;exact cC h1 (dc h2 d_)
   ·decide
  have wg:=aDm hb;have e1:G5 (wv r 5)=(fB r).g:=VL (fB r);rw[e1]at wg;have e2:kx r=(decide (0<dL r.d)&&decide ((fB r).g=1)):=by unfold kx;rw[show e9 r.a=true from raw 0 o_,show e9 r.b=true from raw 1 o_,show e9 r.c=true from raw 2 o_,show e9 r.e=true from raw 3 o_,show e9 r.d=true from raw 4 o_];rfl
  rw[e2];by_cases hd:0<dL r.d
  ·rw[aC hd,kX];have VM:Value.bool (decide (dL r.d>0))=.bool true:=by rw[aC hd]
   exact fj mixed func76 200 (λw=>[wok.at 9,.rw 15 _ b_ VM,wg.at 18,.gm 19 (fB r).g 1 _ rfl]) (λ_=>k_) k_ k_
  ·rw[aO hd,yG];have VM:Value.bool (decide (dL r.d>0))=.bool false:=by rw[aO hd]
   exact fj mixed func76 200 (λw=>[wok.at 9,.rw 15 _ a_ VM]) (λ_=>k_) k_ k_
 ·obtain⟨m,FJ⟩:=aDl hw;have hp:0<2^n:=cF d_;have va:=aVl r.a.neg r.a.aT;have vb:=aVl r.b.neg r.b.aT;have vc:=aVl r.c.neg r.c.aT;have ve:=aVl r.e.neg r.e.aT;have vd:=aVl r.d.neg r.d.aT;unfold kx;change aD _ _ _ (.bool (e9 r.a))at va;change aD _ _ _ (.bool (e9 r.b))at vb;change aD _ _ _ (.bool (e9 r.c))at vc;change aD _ _ _ (.bool (e9 r.e))at ve;change aD _ _ _ (.bool (e9 r.d))at vd;have go:∀ q b,e9 q=b->e9 q=b:=λ_ _ h=>h;rcases ha:e9 r.a with _|_
  ·rw[ha]at va;exact fj mixed func76 200 (λw=>[FJ.at 9,va.at 30]) (λ_=>k_) k_ k_
  rw[ha]at va;have g1:=K9 (g:=0) ha hp sa hn;rw[aO7]at g1;have s1:Nat.gcd 0 (dL r.a).natAbs<2^n:=by rw[Tw];exact sa
  rcases hb:e9 r.b with _|_
  ·rw[hb]at vb;exact fj mixed func76 200 (λw=>[FJ.at 9,va.at 30,g1.at 37,vb.at 30]) (λ_=>k_) k_ k_
  rw[hb]at vb;have g2:=K9 hb s1 sb hn;have s2:=tu s1 sb;rcases hc:e9 r.c with _|_
  ·rw[hc]at vc;exact fj mixed func76 200 (λw=>[FJ.at 9,va.at 30,g1.at 37,vb.at 30,g2.at 37,vc.at 30]) (λ_=>k_) k_ k_
  rw[hc]at vc;have g3:=K9 hc s2 sc hn;have s3:=tu s2 sc;rcases he:e9 r.e with _|_
  ·rw[he]at ve;exact fj mixed func76 200 (λw=>[FJ.at 9,va.at 30,g1.at 37,vb.at 30,g2.at 37,vc.at 30,g3.at 37,ve.at 30]) (λ_=>k_) k_ k_
  rw[he]at ve;have g4:=K9 he s3 se hn;have s4:=tu s3 se;rcases hd:e9 r.d with _|_
  ·rw[hd]at vd;exact fj mixed func76 200 (λw=>[FJ.at 9,va.at 30,g1.at 37,vb.at 30,g2.at 37,vc.at 30,g3.at 37,ve.at 30,g4.at 37,vd.at 40]) (λ_=>k_) k_ k_
  rw[hd]at vd;have g5:=K9 hd s4 sd hn;have s5:=tu s4 sd;have VK:Nat.gcd (Nat.gcd (Nat.gcd (Nat.gcd (Nat.gcd 0 (dL r.a).natAbs) (dL r.b).natAbs) (dL r.c).natAbs) (dL r.e).natAbs) (dL r.d).natAbs=(fB r).g:=VL (fB r);rw[VK]at g5 s5;have aB:=aUX (dL r.d);rw[aAt,vS hd]at aB;have A1:=aVC (z:=1) d_ d_;have one:(bt 1).Sm:=tt (n:=1) d_ d_;have sm:(bt ((fB r).g:Int)).Sm:=tt (z:=((fB r).g:Int)) (n:=n) (by rw[AY];exact s5) hn;by_cases hp:0<dL r.d
  ·rw[aC hp];have VN:Value.bool (decide ((dL r.d).sign>0))=.bool true:=by rw[yO hp];rfl
   have heq:∀ w,cz prog (ae.at w) (ay f76 53) [(bt ((fB r).g:Int)).v,(bt 1).v] [] (.bool (decide ((fB r).g=1))) []:=λw=>A0 (neg:=true) k_ (bt ((fB r).g:Int)) (bt 1) sm one (by simp only[qx,rI];exact⟨λh=>by rw[h];rfl,λh=>by have:=xf h;omega⟩)
   exact fj mixed func76 200 (λw=>[FJ.at 9,va.at 30,g1.at 37,vb.at 30,g2.at 37,vc.at 30,g3.at 37,ve.at 30,g4.at 37,vd.at 40,aB.at 44,.rw 45 _ b_ VN,g5.at 51,A1.at 52,.step 53 (ay f76 53) _ _ _ _ (heq w)]) (λ_=>k_) k_ k_
  ·rw[aO hp];have VN:Value.bool (decide ((dL r.d).sign>0))=.bool false:=by
    rw[aO];have h0:dL r.d<=0:=by omega
    rcases Int.lt_or_eq_of_le h0 with h|h
    ·rw[EK h];decide
    ·rw[h];decide
   exact fj mixed func76 200 (λw=>[FJ.at 9,va.at 30,g1.at 37,vb.at 30,g2.at 37,vc.at 30,g3.at 37,ve.at 30,g4.at 37,vd.at 40,aB.at 44,.rw 45 _ a_ VN]) (λ_=>k_) k_ k_
theorem VO(f:Fr):fB (qO f)=f:=by show Fr.mk (dL (bt f.a)) (dL (bt f.b)) (dL (bt f.c)) (dL (bt f.e)) (dL (bt f.d))=f;rw[xQ,xQ,xQ,xQ,xQ]
theorem aDo{f:Fr}(h:f.o9):kx (qO f)=true:=by unfold kx;rw[VO,h.one];show(e9 (bt f.a)&&(e9 (bt f.b)&&(e9 (bt f.c)&&(e9 (bt f.e)&&(e9 (bt f.d)&&(decide (0<dL (bt f.d))&&decide (1=1)))))))=true;rw[K8,K8,K8,K8,K8,xQ,aC h.pos];rfl
theorem aU3{f:Fr}{n:Nat}(hf:f.o9)(h:dH n f)(hn:n<=aA):aD prog 76 [gZ f] b_:=by have:=La (r:=qO f) (n:=n) (by rw[VO];exact h) hn;rw[aDo hf]at this;exact this
theorem aVt{x:K}{n:Nat}(h:Sz n x)(hn:n<=aA):aD prog 76 [cd x] b_:=aU3 (ku x) h hn
theorem PB(h:kx r=true):r=dR (fB r).val:=by unfold kx at h;simp only[cY,rI]at h;obtain⟨h1,h2,h3,h4,h5,h6,h7⟩:=h;unfold dR;rw[EU ⟨h6,h7⟩];obtain⟨a,b,c,e,d⟩:=r;show RN.mk a b c e d=RN.mk (bt (dL a)) (bt (dL b)) (bt (dL c)) (bt (dL e)) (bt (dL d));rw[vS h1,vS h2,vS h3,vS h4,vS h5]
theorem aVn{x:K}{n:Nat}(h:Sz n x)(hn:n<=aA):aD prog 62 [cd x] (cd (-x)):=by
 have hv:=aVt h hn;have e:cd (-x)=gZ (yU (bF x)):=by unfold cd dR;rw[To];rfl
 rw[e];exact aZ func62 (λ_=>[hv.at 6,(aVd (bF x).a).at 19,(aVd (bF x).b).at 19,(aVd (bF x).c).at 19,(aVd (bF x).e).at 19])
theorem aO8(f:Fr):w5 (wv (qO f) 5)=w5 (cw f):=by show[Value.int .i64 (dL (bt f.a)),.int .i64 (dL (bt f.b)),.int .i64 (dL (bt f.c)),.int .i64 (dL (bt f.e)),.int .i64 (dL (bt f.d))]=_;rw[xQ,xQ,xQ,xQ,xQ];rfl
def BI(f:Fr):Prop:=∀ i,i<5->qm (fU (qO f) i)=true
theorem PC{f:Fr}(h:BI f):∀ i,(cw f i).natAbs<16777216:=by
 have key:∀ z:Int,qm (bt z)=true->z.natAbs<16777216:=λz hz=>by
  unfold qm at hz;simp at hz;have h1:nd 256 z.natAbs<=3:=by have:=hz.1;show _<=3;rw[<-ti];exact this
  have h2:=dQ (B:=256) d_ z.natAbs;have h3:(256:Nat)^nd 256 z.natAbs<=256^3:=c7 d_ h1;exact cC h2 (dc h3 d_)
 intro i;rcases i with _|_|_|_|i
 ·exact key _ (h 0 o_)
 ·exact key _ (h 1 o_)
 ·exact key _ (h 2 o_)
 ·exact key _ (h 3 o_)
 ·exact key _ (h 4 o_)
theorem H5{f:Fr}(h:BI f):aD prog 122 [gZ f] (.tuple #[.agg (w5 (cw f)).toArray,.bool true]):=by have:=aDk h;rw[aO8]at this;exact this
theorem PD{f:Fr}(h:¬BI f):∃ n,aD prog 122 [gZ f] (.tuple #[.agg (w5 (wv (qO f) n)).toArray,.bool false]):=aDl h
theorem VP{x:Int}(hx:x.natAbs<16777216)(hy:y.natAbs<16777216):-281474976710656<=x*y/\x*y<=281474976710656:=by have h:=pJ hx hy;rw[<-xd]at h;generalize x*y=p at *;have h2:p.natAbs<281474976710656:=h;omega
abbrev W(x:Int):Int:=IntKind.i64.wrap x
theorem aO9(x k:Int):W (x+18446744073709551616*k)=W x:=by simp only[dU];omega
theorem aPa(x:Int):∃ k,W x=x+18446744073709551616*k:=⟨(W x-x)/18446744073709551616,by simp only[dU];omega⟩
theorem Dy(a b:Int):W (W a+b)=W (a+b):=by simp only[dU];omega
theorem Dz(a b:Int):W (a+W b)=W (a+b):=by simp only[dU];omega
theorem VQ(a b:Int):W (W a*b)=W (a*b):=by obtain⟨k,h⟩:=aPa a;rw[h,Int.add_mul,K1,aO9]
theorem zH{u:Int}(h:W u=W z)(hz:z.natAbs<4611686018427387904):Value.int .i64 (W u)=.int .i64 z:=by rw[h];congr 1;simp only[dU];omega
theorem aU0{x y:K}{n:Nat}(hx:Sz m x)(hy:Sz n y)(cU:m+n<aA):aD prog 75 [cd x,cd y] (cd (x+y)):=by
 have v1:=aVt hx o_;have v2:=aVt hy o_;have pc:aA<=1099511627776:=by decide
 have xe:=(ku x).pos;have vy:=(ku y).pos;have hl:=aUQ (c:=co (pT (bF x) (bF y))) (d:=(pT (bF x) (bF y)).d) (n:=m+n+1) (CQ o_ o_) (dH.add hx hy) o_;have e:cd (x+y)=gZ (pT (bF x) (bF y)).low:=by unfold cd dR;rw[Tm];rfl
 rw[e];by_cases hw:BI (bF x)/\BI (bF y)
 ·obtain⟨w1,w2⟩:=hw;have q1:=H5 w1;have q2:=H5 w2;have b1:=PC w1;have b2:=PC w2;change aD _ _ [gZ (bF x)] _ at v1;change aD _ _ [gZ (bF y)] _ at v2;show aD _ _ [gZ (bF x),gZ (bF y)] _;clear hl hx hy e;generalize bF x=f at *;generalize bF y=g at *;have P:=λi j=>VP (b1 i) (b2 j);have Q:=λi j=>VP (b2 i) (b1 j);have hb:∀ i,(cw (pT f g) i).natAbs<4611686018427387904:=by
   intro i;rcases i with _|_|_|_|i
   ·have h1:=P 0 4;have h2:=Q 0 4;show(f.a*g.d+g.a*f.d).natAbs<_;simp only[cw]at h1 h2;omega
   ·have h1:=P 1 4;have h2:=Q 1 4;show(f.b*g.d+g.b*f.d).natAbs<_;simp only[cw]at h1 h2;omega
   ·have h1:=P 2 4;have h2:=Q 2 4;show(f.c*g.d+g.c*f.d).natAbs<_;simp only[cw]at h1 h2;omega
   ·have h1:=P 3 4;have h2:=Q 3 4;show(f.e*g.d+g.e*f.d).natAbs<_;simp only[cw]at h1 h2;omega
   ·have h1:=P 4 4;show(f.d*g.d).natAbs<_;simp only[cw]at h1;omega
  have nm:=aDn (f:=pT f g) (Tr xe vy) hb;exact fj mixed func75 200 (λ_=>[v1.at 13,v2.at 17,q1.at 23,q2.at 29,.rw 50 (.int .i64 (W (W (f.a*g.d)+W (g.a*f.d)))) (.int .i64 (pT f g).a) (zH (by rw[Dy,Dz];rfl) (hb 0)),.rw 50 (.int .i64 (W (W (f.b*g.d)+W (g.b*f.d)))) (.int .i64 (pT f g).b) (zH (by rw[Dy,Dz];rfl) (hb 1)),.rw 50 (.int .i64 (W (W (f.c*g.d)+W (g.c*f.d)))) (.int .i64 (pT f g).c) (zH (by rw[Dy,Dz];rfl) (hb 2)),.rw 50 (.int .i64 (W (W (f.e*g.d)+W (g.e*f.d)))) (.int .i64 (pT f g).e) (zH (by rw[Dy,Dz];rfl) (hb 3)),.rw 56 (.int .i64 (W (f.d*g.d))) (.int .i64 (pT f g).d) (zH rfl (hb 4)),nm.at 59]) (λ_=>k_) k_ k_
 ·obtain⟨x1,x2,x3,x4,x5⟩:=hx;obtain⟨y1,y2,y3,y4,y5⟩:=hy;have mu:∀{u v:Int} {p q:Nat},u.natAbs<2^p->v.natAbs<2^q->p+q<=aA->aD prog 109 [bI u,bI v] (bI (u*v)):=λh1 h2 h3=>aVo h1 h2 o_ o_;have ad:∀{u v:Int},u.natAbs<2^m->v.natAbs<2^n->aD prog 124 [bI (u*(bF y).d),bI (v*(bF x).d)] (bI (u*(bF y).d+v*(bF x).d)):=λh1 h2=>
   aU2 (ek h1 y5) (ek h2 x5) o_ o_
  by_cases w1:BI (bF x)
  ·obtain⟨k,q2⟩:=PD (f:=bF y) (λh=>hw ⟨w1,h⟩);have q1:=H5 w1;exact fj mixed func75 200 (λ_=>[v1.at 13,v2.at 17,q1.at 23,q2.at 29,(mu x1 y5 o_).at 71,(mu y1 x5 o_).at 78,(ad x1 y1).at 79,(mu x2 y5 o_).at 71,(mu y2 x5 o_).at 78,(ad x2 y2).at 79,(mu x3 y5 o_).at 71,(mu y3 x5 o_).at 78,(ad x3 y3).at 79,(mu x4 y5 o_).at 71,(mu y4 x5 o_).at 78,(ad x4 y4).at 79,(mu x5 y5 o_).at 86,hl.at 87]) (λ_=>k_) k_ k_
  ·obtain⟨k,q1⟩:=PD (f:=bF x) w1;exact fj mixed func75 200 (λ_=>[v1.at 13,v2.at 17,q1.at 23,(mu x1 y5 o_).at 71,(mu y1 x5 o_).at 78,(ad x1 y1).at 79,(mu x2 y5 o_).at 71,(mu y2 x5 o_).at 78,(ad x2 y2).at 79,(mu x3 y5 o_).at 71,(mu y3 x5 o_).at 78,(ad x3 y3).at 79,(mu x4 y5 o_).at 71,(mu y4 x5 o_).at 78,(ad x4 y4).at 79,(mu x5 y5 o_).at 86,hl.at 87]) (λ_=>k_) k_ k_
theorem aU5{x y:K}{n:Nat}(hx:Sz m x)(hy:Sz n y)(cU:m+n<aA):aD prog 127 [cd x,cd y] (cd (x-y)):=by rw[CR.sub_def];exact aZ func127 (λ_=>[(aVn hy o_).at 7,(aU0 hx hy.neg cU).at 8])
section
variable{Bs:ae}{a b:Nat->Int}
def VR(n:Nat):aM:=[(6,vI (n/4)),(7,vI (n%4)),(2,ptr 0),(3,ptr 1),(5,ptr 3)]
def H6(a b c:Nat->Int):aE:=[(0,.aI (ic a) 38),(1,.aI (ic b) 38),(3,.aI (ic c) 38)]
theorem aPb(n:Nat)(hn:n<16){c:Nat->Int}{p r:Nat}(ha:∀ i,(a i).natAbs<2^p)(hb:∀ i,(b i).natAbs<2^q)(hc:∀ i,(c i).natAbs<2^r)(N1:p+q+3<=aA)(hr:r<=aA):
  af prog Bs 66 (.block 3 (ag f107 3)) (VR n) (H6 a b c) (4+n) ⟨.normal,[],H6 a b (xj n a b c),5+n⟩:=by
 have pc:aA<=1099511627776:=by decide
 have qR:∀ m,(sq m).natAbs<2^3:=λm=>by unfold sq;split<;>decide
 have m1:=aVo (ha (n/4)) (hb (n%4)) o_ o_;have m2:=aVo (qR ((n/4)&&& (n%4))) (ek (ha (n/4)) (hb (n%4))) o_ o_;have ad:=aU2 (hc ((n/4) ^^^ (n%4))) (ek (qR ((n/4)&&& (n%4))) (ek (ha (n/4)) (hb (n%4)))) o_ o_;have so:=aVC (z:=sq ((n/4)&&& (n%4))) (by have:=qR ((n/4)&&& (n%4));omega) (by have:=qR ((n/4)&&& (n%4));omega);have sa:=aUX (a (n/4));have sb:=aUX (b (n%4));have z1:∀ z:Int,z=0->Value.bool (z.sign==0)=.bool true:=λz h=>by rw[h];rfl
 have z2:∀ z:Int,z≠0->Value.bool (z.sign==0)=.bool false:=λz h=>by congr 1;simp;exact h
 by_cases h1:a (n/4)=0
 ·rw[N0 (.inl h1)];have e:=z1 _ h1;rcases n with _|_|_|_|_|_|_|_|_|_|_|_|_|_|_|_|n
  all_goals first|omega|exact az [sa.at 21,.rw 22 _ b_ e]
 ·have e:=z2 _ h1;by_cases h2:b (n%4)=0
  ·rw[N0 (.inr h2)];have e':=z1 _ h2;rcases n with _|_|_|_|_|_|_|_|_|_|_|_|_|_|_|_|n
   all_goals first|omega|exact az [sa.at 21,.rw 22 _ a_ e,sb.at 27,.rw 28 _ b_ e']
  ·have e':=z2 _ h2;rcases n with _|_|_|_|_|_|_|_|_|_|_|_|_|_|_|_|n
   all_goals first|omega|exact az [sa.at 21,.rw 22 _ a_ e,sb.at 27,.rw 28 _ a_ e',so.at 45,m1.at 52,m2.at 53,ad.at 63]
end
theorem aDp{a b:Nat->Int}{n:Nat}(ca:∀ i,(a i).natAbs<2^m)(cb:∀ i,(b i).natAbs<2^n)(cU:m+n+8<=aA):aD prog 107 [pb a,pb b] (pb (jF a b 16)):=by
 have pc:aA<=1099511627776:=by decide
 have hs:∀ i,i<=16->∀ k,(jF a b i k).natAbs<2^(m+n+8):=λi hi k=>by
  have h1:=TF ca cb i hi k;have h2:i*2^(m+n+3)<=16*2^(m+n+3):=eZ _ hi;have h3:2^(m+n+8)=32*2^(m+n+3):=by rw[show m+n+8=5+(m+n+3)by omega,eh]
  have h4:0<2^(m+n+3):=cF d_;omega
 have go:∀(w:h_) (i:Nat),i<16->af prog (ae.at w) 66 (.block 3 (ag f107 3)) (VR i) (H6 a b (jF a b i)) (4+i) ⟨.normal,[],H6 a b (jF a b (i+1)),5+i⟩:=λw i hi=>
  aPb i hi ca cb (hs i o_) o_ o_
 have TG:∀(w:h_),af prog (ae.at w) 66 (.block 3 (ag f107 3)) (VR 0) [(0,.aI (ic a) 38),(1,.aI (ic b) 38),(3,.aI [.bool false,.string ⟨#[]⟩,.bool false,.string ⟨#[]⟩,.bool false,.string ⟨#[]⟩,.bool false,.string ⟨#[]⟩] 38)] 4
   ⟨.normal,[],H6 a b (jF a b 1),5⟩:=λw=>by
  have h:=go w 0 o_;have e:H6 a b (jF a b 0)=[(0,.aI (ic a) 38),(1,.aI (ic b) 38),(3,.aI [.bool false,.string ⟨#[]⟩,.bool false,.string ⟨#[]⟩,.bool false,.string ⟨#[]⟩,.bool false,.string ⟨#[]⟩] 38)]:=by show[(0,Obj.aI (ic a) 38),(1,.aI (ic b) 38),(3,.aI (ic (λ_=>0)) 38)]=_;rw[aAB]
  rw[e]at h;exact h
 generalize jF a b=c at *;exact fj mixed func107 300 (λw=>[.code 3 _ _ _ _ _ (TG w),.code 3 _ _ _ _ _ (go w 1 o_),.code 3 _ _ _ _ _ (go w 2 o_),.code 3 _ _ _ _ _ (go w 3 o_),.code 3 _ _ _ _ _ (go w 4 o_),.code 3 _ _ _ _ _ (go w 5 o_),.code 3 _ _ _ _ _ (go w 6 o_),.code 3 _ _ _ _ _ (go w 7 o_),.code 3 _ _ _ _ _ (go w 8 o_),.code 3 _ _ _ _ _ (go w 9 o_),.code 3 _ _ _ _ _ (go w 10 o_),.code 3 _ _ _ _ _ (go w 11 o_),.code 3 _ _ _ _ _ (go w 12 o_),.code 3 _ _ _ _ _ (go w 13 o_),.code 3 _ _ _ _ _ (go w 14 o_),.code 3 _ _ _ _ _ (go w 15 o_)]) (λ_=>k_) k_ k_
theorem aVB{x y:K}{n:Nat}(hx:Sz m x)(hy:Sz n y)(cU:m+n+8<=aA):aD prog 77 [cd x,cd y] (cd (x*y)):=by
 have v1:=aVt hx o_;have v2:=aVt hy o_;have pc:aA<=1099511627776:=by decide
 have xe:=(ku x).pos;have vy:=(ku y).pos;have e:cd (x*y)=gZ (dO (bF x) (bF y)).low:=by unfold cd dR;rw[Tn];rfl
 rw[e];by_cases hw:BI (bF x)/\BI (bF y)
 ·obtain⟨w1,w2⟩:=hw;have q1:=H5 w1;have q2:=H5 w2;have b1:=PC w1;have b2:=PC w2;change aD _ _ [gZ (bF x)] _ at v1;change aD _ _ [gZ (bF y)] _ at v2;show aD _ _ [gZ (bF x),gZ (bF y)] _;clear hx hy e;generalize bF x=f at *;generalize bF y=g at *;have P:=λi j=>VP (b1 i) (b2 j);have hb:∀ i,(cw (dO f g) i).natAbs<4611686018427387904:=by have h00:=P 0 0;have uh:=P 0 1;have Cy:=P 0 2;have h03:=P 0 3;have h10:=P 1 0;have h11:=P 1 1;have OD:=P 1 2;have R0:=P 1 3;have h20:=P 2 0;have h21:=P 2 1;have Y4:=P 2 2;have h23:=P 2 3;have h30:=P 3 0;have h31:=P 3 1;have h32:=P 3 2;have h33:=P 3 3;have h44:=P 4 4;simp only[cw]at *;intro i;rcases i with _|_|_|_|i<;>(simp only[cw,dO];omega)
  have nm:=aDn (f:=dO f g) (Tr xe vy) hb;exact fj mixed func77 300 (λ_=>[v1.at 10,v2.at 14,q1.at 20,q2.at 26,.rw 55 (.int .i64 (W (W (W (W (f.a*g.a)+W (W (2*f.b)*g.b))+W (W (3*f.c)*g.c))+W (W (6*f.e)*g.e)))) (.int .i64 (dO f g).a) (zH (by simp only[Dy,Dz,VQ];congr 1;unfold dO;simp only[K1]) (hb 0)),.rw 80 (.int .i64 (W (W (W (W (f.a*g.b)+W (f.b*g.a))+W (W (3*f.c)*g.e))+W (W (3*f.e)*g.c)))) (.int .i64 (dO f g).b) (zH (by simp only[Dy,Dz,VQ];congr 1;unfold dO;simp only[K1]) (hb 1)),.rw 105 (.int .i64 (W (W (W (W (f.a*g.c)+W (f.c*g.a))+W (W (2*f.b)*g.e))+W (W (2*f.e)*g.b)))) (.int .i64 (dO f g).c) (zH (by simp only[Dy,Dz,VQ];congr 1;unfold dO;simp only[K1];omega) (hb 2)),.rw 128 (.int .i64 (W (W (W (W (f.a*g.e)+W (f.e*g.a))+W (f.b*g.c))+W (f.c*g.b)))) (.int .i64 (dO f g).e) (zH (by simp only[Dy,Dz];congr 1;unfold dO;simp only[];omega) (hb 3)),.rw 133 (.int .i64 (W (f.d*g.d))) (.int .i64 (dO f g).d) (zH rfl (hb 4)),nm.at 135]) (λ_=>k_) k_ k_
 ·have ca:=Hq hx;have cb:=Hq hy;have tm:=aDp ca cb cU;have hl:=aUQ (c:=jF (co (bF x)) (co (bF y)) 16) (d:=(bF x).d*(bF y).d) (n:=m+n+4) (CQ o_ o_) (by rw[J3];exact dH.mul hx hy) o_;rw[J3]at hl;have md:=aVo hx.2.2.2.2 hy.2.2.2.2 o_ o_;generalize jF (co (bF x)) (co (bF y)) 16=c at *;by_cases w1:BI (bF x)
  ·obtain⟨k,q2⟩:=PD (f:=bF y) (λh=>hw ⟨w1,h⟩);have q1:=H5 w1;exact fj mixed func77 200 (λ_=>[v1.at 10,v2.at 14,q1.at 20,q2.at 26,tm.at 140,md.at 145,hl.at 146]) (λ_=>k_) k_ k_
  ·obtain⟨k,q1⟩:=PD (f:=bF x) w1;exact fj mixed func77 200 (λ_=>[v1.at 10,v2.at 14,q1.at 20,tm.at 140,md.at 145,hl.at 146]) (λ_=>k_) k_ k_
theorem aDq{a s:Int}(ha:a.natAbs<=1)(hs:s.natAbs<=1):IntKind.i64.wrap (a*s)=a*s:=by
 have h1:a=-1\/a=0\/a=1:=by omega
 rcases h1 with h1|h1|h1<;>rw[h1,dU]<;>omega
theorem xR{a b:Int}(h:a=b):Value.bool (a==b)=.bool true:=by rw[h];simp
theorem pk{a b:Int}(h:a≠b):Value.bool (a==b)=.bool false:=by congr 1;simpa using h
theorem VT{x:Int}{p:Nat}(h1:x.natAbs<2^p)(h2:y.natAbs<2^q)(hp:p+p+3<=aA)(hq:q+q+3<=aA):aD prog 106 [bI x,bI y] (.int .i64 (pa x y)):=by
 have pc:aA<=1099511627776:=by decide
 have s1:=aUX x;have s2:=aUX y;have l1:=CW x;have l3:=CW (x*x-2*(y*y));have m1:=aVo h1 h1 o_ o_;have o2:=aVC (z:=2) d_ d_;have m2:=aVo h2 h2 o_ o_;have m3:=aVo (x:=2) (y:=y*y) (p:=2) d_ (ek h2 h2) d_ o_;have cm:=aUO (x:=x*x) (y:=2*(y*y)) (ek h1 h1) (ek (m:=2) (u:=2) d_ (ek h2 h2)) o_ o_;have hw:=aDq l1 l3;unfold pa tn;generalize (x*x-2*(y*y)).sign=t at *;generalize x.sign=a at *;generalize y.sign=b at *;by_cases h1:a=b
 ·rw[au (.inl h1)];exact aZ func106 (λ_=>[s1.at 8,s2.at 10,.rw 13 _ b_ (xR h1)])
 ·by_cases h2:b=0
  ·rw[au (.inr h2)];exact aZ func106 (λ_=>[s1.at 8,s2.at 10,.rw 13 _ a_ (pk h1),.rw 16 _ b_ (xR h2)])
  ·rw[al (λh=>h.elim h1 h2)];by_cases h3:a=0
   ·rw[au h3];exact aZ func106 (λ_=>[s1.at 8,s2.at 10,.rw 13 _ a_ (pk h1),.rw 16 _ a_ (pk h2),.rw 20 _ b_ (xR h3)])
   ·rw[al h3];exact aZ func106 (λ_=>[s1.at 8,s2.at 10,.rw 13 _ a_ (pk h1),.rw 16 _ a_ (pk h2),.rw 20 _ a_ (pk h3),m1.at 25,o2.at 26,m2.at 29,m3.at 30,cm.at 31,.wr 32 .i64 (a*t) (a*t) hw])
theorem H7{f g:Fr}{n:Nat}(hf:dH m f)(hg:dH n g)(cU:m+n+8<=aA):aD prog 107 [pb (co f),pb (co g)] (pb (co (dO f g))):=by
 have h:=aDp (Hq hf) (Hq hg) cU;have e:pb (jF (co f) (co g) 16)=pb (co (dO f g)):=by rw[<-J3 f g];rfl
 rw[e]at h;exact h
def f2(a b:Int):Fr:=⟨a,b,0,0,1⟩
theorem aPc(a b:Int):dO (f2 a b) (f2 a b)=⟨a*a+2*(b*b),2*(a*b),0,0,1⟩:=by
 unfold dO f2;simp only[Fr.mk.injEq];refine⟨?_,?_,?_,?_,?_⟩
 ·simp
 ·rw[SV b a];simp;omega
 ·simp
 ·simp
 ·rfl
theorem aPd(a b:Int):pb (co (f2 a b))=.agg #[.bool (bt a).neg,.string (BA (bt a).aT),.bool (bt b).neg,.string (BA (bt b).aT),.bool false,.string ⟨#[]⟩,.bool false,.string ⟨#[]⟩]:=by show Value.agg #[.bool (bt a).neg,.string (BA (bt a).aT),.bool (bt b).neg,.string (BA (bt b).aT),.bool (bt 0).neg,.string (BA (bt 0).aT),.bool (bt 0).neg,.string (BA (bt 0).aT)]=_;rw[CV];rfl
theorem aDr{a b:Int}{n:Nat}(ha:a.natAbs<2^n)(hb:b.natAbs<2^n)(hn:2*n+10<=aA):
  aD prog 107 [.agg #[.bool (bt a).neg,.string (BA (bt a).aT),.bool (bt b).neg,.string (BA (bt b).aT),.bool false,.string ⟨#[]⟩,.bool false,.string ⟨#[]⟩],.agg #[.bool (bt a).neg,.string (BA (bt a).aT),.bool (bt b).neg,.string (BA (bt b).aT),.bool false,.string ⟨#[]⟩,.bool false,.string ⟨#[]⟩]]
   (pb (co ⟨a*a+2*(b*b),2*(a*b),0,0,1⟩)):=by
 have hp:0<2^n:=cF d_;have h:dH (n+1) (f2 a b):=by have h2:2^n*2=2^(n+1):=(dr ..).symm;refine⟨?_,?_,?_,?_,?_⟩<;>unfold f2<;>dsimp only<;>omega
 have:=H7 h h o_;rw[aPc,aPd]at this;exact this
theorem aUW{x:K}{n:Nat}(hx:Sz n x)(hn:4*n+30<=aA):aD prog 61 [cd x] (.int .i64 (OF.aB x)):=by
 have pc:aA<=1099511627776:=by decide
 have hv:=aVt hx o_;rw[aAq];obtain⟨x1,x2,x3,x4,x5⟩:=hx;unfold cd dR at *;generalize bF x=f at *;have s1:=VT x1 x2 o_ o_;have s2:=VT x3 x4 o_ o_;have t1:=aDr x1 x2 o_;have t2:=aDr x3 x4 o_;have o3:=aVC (z:=3) d_ d_;have z1:(f.a*f.a).natAbs<2^(n+n+2):=cC (ek x1 x1) (c7 d_ o_);have z2:(2*(f.b*f.b)).natAbs<2^(n+n+2):=by have:=ek (m:=2) (u:=2) d_ (ek x2 x2);rwa[show 2+(n+n)=n+n+2 by omega]at this
 have z3:(f.c*f.c).natAbs<2^(n+n+2):=cC (ek x3 x3) (c7 d_ o_);have z4:(2*(f.e*f.e)).natAbs<2^(n+n+2):=by have:=ek (m:=2) (u:=2) d_ (ek x4 x4);rwa[show 2+(n+n)=n+n+2 by omega]at this
 have z12:=Hu z1 z2;have z34:=Hu z3 z4;have y1:(2*(f.a*f.b)).natAbs<2^(n+n+2):=by have:=ek (m:=2) (u:=2) d_ (ek x1 x2);rwa[show 2+(n+n)=n+n+2 by omega]at this
 have y2:(2*(f.c*f.e)).natAbs<2^(n+n+2):=by have:=ek (m:=2) (u:=2) d_ (ek x3 x4);rwa[show 2+(n+n)=n+n+2 by omega]at this
 have m34:=aVo (x:=3) (p:=2) d_ z34 d_ o_;have zm:(3*(f.c*f.c+2*(f.e*f.e))).natAbs<2^(n+n+5):=by have:=ek (m:=2) (u:=3) d_ z34;rwa[show 2+(n+n+2+1)=n+n+5 by omega]at this
 have aDs:(f.a*f.a+2*(f.b*f.b)).natAbs<2^(n+n+5):=cC z12 (c7 d_ o_);have d1:=aVv aDs zm o_ o_;have my:=aVo (x:=3) (p:=2) d_ y2 d_ o_;have ym:(3*(2*(f.c*f.e))).natAbs<2^(n+n+4):=by have:=ek (m:=2) (u:=3) d_ y2;rwa[show 2+(n+n+2)=n+n+4 by omega]at this
 have y1':(2*(f.a*f.b)).natAbs<2^(n+n+4):=cC y1 (c7 d_ o_);have d2:=aVv y1' ym o_ o_;have s3:=VT (N2 aDs zm) (N2 y1' ym) o_ o_;have e1:(f.a*f.a+2*(f.b*f.b))-3*(f.c*f.c+2*(f.e*f.e))=(f.a*f.a+2*(f.b*f.b))-(3*(f.c*f.c)+6*(f.e*f.e)):=by omega
 have e2:2*(f.a*f.b)-3*(2*(f.c*f.e))=2*(f.a*f.b)-6*(f.c*f.e):=by omega
 have xk:=N3 f.a f.b;have TJ:=N3 ((f.a*f.a+2*(f.b*f.b))-(3*(f.c*f.c)+6*(f.e*f.e))) (2*(f.a*f.b)-6*(f.c*f.e));have hw:=aDq xk TJ;rw[<-e1,<-e2]at hw;unfold NU tn;rw[<-e1,<-e2];generalize pa ((f.a*f.a+2*(f.b*f.b))-3*(f.c*f.c+2*(f.e*f.e))) (2*(f.a*f.b)-3*(2*(f.c*f.e)))=t at *;generalize pa f.a f.b=p at *;generalize pa f.c f.e=q at *;by_cases h1:p=q
 ·rw[au (.inl h1)];exact aZ func61 (λ_=>[hv.at 9,s1.at 17,s2.at 24,.rw 27 _ b_ (xR h1)])
 ·by_cases h2:q=0
  ·rw[au (.inr h2)];exact aZ func61 (λ_=>[hv.at 9,s1.at 17,s2.at 24,.rw 27 _ a_ (pk h1),.rw 30 _ b_ (xR h2)])
  ·rw[al (λh=>h.elim h1 h2)];by_cases h3:p=0
   ·rw[au h3];exact aZ func61 (λ_=>[hv.at 9,s1.at 17,s2.at 24,.rw 27 _ a_ (pk h1),.rw 30 _ a_ (pk h2),.rw 34 _ b_ (xR h3)])
   ·rw[al h3];exact fj mixed func61 200 (λ_=>[hv.at 9,s1.at 17,s2.at 24,.rw 27 _ a_ (pk h1),.rw 30 _ a_ (pk h2),.rw 34 _ a_ (pk h3),t1.at 50,t2.at 65,o3.at 66,m34.at 73,d1.at 74,my.at 80,d2.at 81,s3.at 82,.wr 83 .i64 (p*t) (p*t) hw]) (λ_=>k_) k_ k_
theorem aUM{x y:K}{n:Nat}(hx:Sz m x)(hy:Sz n y)(cU:4*(m+n)+40<=aA):aD prog 80 [cd x,cd y] (.int .i64 (OF.aB (x-y))):=
 aZ func80 (λ_=>[(aVt hx o_).at 6,(aVt hy o_).at 10,(aU5 hx hy o_).at 15,(aUW (hx.sub hy) o_).at 16])
theorem aU7{x:K}{n:Nat}(hx:Sz n x)(hn:4*n+30<=aA):aD prog 18 [cd x] (cd (iI x)):=by
 unfold iI;have n1:=aVn hx o_;have n2:=aVn hx.neg o_;rw[CR.neg_neg]at n2;by_cases h:OF.aB x<0
 ·rw[au h];exact aZ func18 (λ_=>[(aUW hx hn).at 4,.rw 5 (.bool (decide (OF.aB x<0))) b_ (by rw[aC h]),n1.at 7])
 ·rw[al h];exact aZ func18 (λ_=>[(aUW hx hn).at 4,.rw 5 (.bool (decide (OF.aB x<0))) a_ (by rw[aO h]),n1.at 9,n2.at 10])
def sH(q:RI):Nat:=q.aT.length
def sI(r:RN)(k:Nat):Bool:=decide (sH r.a<=k)&&(decide (sH r.b<=k)&&(decide (sH r.c<=k)&&(decide (sH r.e<=k)&&decide (sH r.d<=k))))
theorem zJ(l:List UInt8):Value.int .i64 ((BA l).size:Int)=vI l.length:=by rw[oA];rfl
theorem tG(h:decide (a<=b)=!t):Value.bool (decide ((a:Int)>(b:Int)))=.bool t:=by
 congr 1
 cases t
 ·have:=jh h;exact aO o_
 ·have:=AV h;exact aC o_
theorem PE(r:RN)(k:Nat):aD prog 69 [r.v,vI k] (.bool (sI r k)):=by
 unfold sI sH;have la:=zJ r.a.aT;have lb:=zJ r.b.aT;have lc:=zJ r.c.aT;have le:=zJ r.e.aT;have ld:=zJ r.d.aT;rcases ha:decide (r.a.aT.length<=k)with _|_
 ·exact aZ func69 (λ_=>[.rw 15 _ (vI r.a.aT.length) la,.rw 17 _ b_ (tG (t:=true) ha)])
 rcases hb:decide (r.b.aT.length<=k)with _|_
 ·exact aZ func69 (λ_=>[.rw 15 _ (vI r.a.aT.length) la,.rw 17 _ a_ (tG (t:=false) ha),.rw 15 _ (vI r.b.aT.length) lb,.rw 17 _ b_ (tG (t:=true) hb)])
 rcases hc:decide (r.c.aT.length<=k)with _|_
 ·exact aZ func69 (λ_=>[.rw 15 _ (vI r.a.aT.length) la,.rw 17 _ a_ (tG (t:=false) ha),.rw 15 _ (vI r.b.aT.length) lb,.rw 17 _ a_ (tG (t:=false) hb),.rw 15 _ (vI r.c.aT.length) lc,.rw 17 _ b_ (tG (t:=true) hc)])
 rcases he:decide (r.e.aT.length<=k)with _|_
 ·exact aZ func69 (λ_=>[.rw 15 _ (vI r.a.aT.length) la,.rw 17 _ a_ (tG (t:=false) ha),.rw 15 _ (vI r.b.aT.length) lb,.rw 17 _ a_ (tG (t:=false) hb),.rw 15 _ (vI r.c.aT.length) lc,.rw 17 _ a_ (tG (t:=false) hc),.rw 15 _ (vI r.e.aT.length) le,.rw 17 _ b_ (tG (t:=true) he)])
 have hd:Value.bool (decide ((r.d.aT.length:Int)<=(k:Int)))=.bool (decide (r.d.aT.length<=k)):=by congr 1;rw[oW];omega
 exact aZ func69 (λ_=>[.rw 15 _ (vI r.a.aT.length) la,.rw 17 _ a_ (tG (t:=false) ha),.rw 15 _ (vI r.b.aT.length) lb,.rw 17 _ a_ (tG (t:=false) hb),.rw 15 _ (vI r.c.aT.length) lc,.rw 17 _ a_ (tG (t:=false) hc),.rw 15 _ (vI r.e.aT.length) le,.rw 17 _ a_ (tG (t:=false) he),.rw 21 _ (vI r.d.aT.length) ld,.rw 23 _ (.bool (decide (r.d.aT.length<=k))) hd])
def wN(r:RN):Nat:=sH r.d+sH r.a+sH r.b+sH r.c+sH r.e
theorem PF(h:wN r<9223372036854775808):aD prog 41 [r.v] (vI (wN r)):=by unfold wN sH at *;have la:=zJ r.a.aT;have lb:=zJ r.b.aT;have lc:=zJ r.c.aT;have le:=zJ r.e.aT;have ld:=zJ r.d.aT;exact aZ func41 (λ_=>[.rw 8 _ (vI r.d.aT.length) ld,.rw 19 _ (vI r.a.aT.length) la,.sum 20 r.d.aT.length r.a.aT.length (r.d.aT.length+r.a.aT.length) rfl o_,.rw 19 _ (vI r.b.aT.length) lb,.sum 20 (r.d.aT.length+r.a.aT.length) r.b.aT.length (r.d.aT.length+r.a.aT.length+r.b.aT.length) rfl o_,.rw 19 _ (vI r.c.aT.length) lc,.sum 20 (r.d.aT.length+r.a.aT.length+r.b.aT.length) r.c.aT.length (r.d.aT.length+r.a.aT.length+r.b.aT.length+r.c.aT.length) rfl o_,.rw 19 _ (vI r.e.aT.length) le,.sum 20 (r.d.aT.length+r.a.aT.length+r.b.aT.length+r.c.aT.length) r.e.aT.length (r.d.aT.length+r.a.aT.length+r.b.aT.length+r.c.aT.length+r.e.aT.length) rfl o_])
theorem VU(p q r t:Rat)(k:Rat):(⟨⟨p,q⟩,⟨r,t⟩⟩:K)*⟨⟨k,0⟩,⟨0,0⟩⟩=⟨⟨p*k,q*k⟩,⟨r*k,t*k⟩⟩:=by
 apply bA.ext
 ·apply bA.ext
  ·show(p*k+2*(q*0))+(3*(r*0+2*(t*0))+2*(0*(r*0+t*0)))=p*k
   grind
  ·show(p*0+q*k)+(3*(r*0+t*0)+0*(r*0+2*(t*0)))=q*k
   grind
 ·apply bA.ext
  ·show(p*0+2*(q*0))+(r*k+2*(t*0))=r*k
   grind
  ·show(p*0+q*0)+(r*0+t*k)=t*k
   grind
theorem PG(u d k:Int):Rat.divInt (u*k) d=Rat.divInt u d*(k:Rat):=by
 rw[AZ,AZ,EX,EX];have:((u*k:Int):Rat)=(u:Rat)*(k:Rat):=by simp
 rw[this]
 grind
theorem aPe(a b c e d k:Int):Fr.val ⟨a*k,b*k,c*k,e*k,d⟩=Fr.val ⟨a,b,c,e,d⟩*kI k:=by unfold Fr.val kI;dsimp only;rw[VU,PG,PG,PG,PG]
theorem PH{a b c e d:Int}(hd:d≠0):Fr.val ⟨a,b,c,e,d⟩*kI d=Fr.val ⟨a,b,c,e,1⟩:=by
 unfold Fr.val kI;dsimp only;have h1:∀ u:Int,Rat.divInt u 1=(u:Rat):=λu=>by rw[AZ,EX];grind
 rw[VU,oF hd,oF hd,oF hd,oF hd,h1,h1,h1,h1]
theorem aPf(a b:Int):kI (a*b)=kI a*kI b:=by
 unfold kI;rw[VU];have:((a*b:Int):Rat)=(a:Rat)*(b:Rat):=by simp
 rw[this];apply bA.ext<;>apply bA.ext<;>simp
theorem aPg:kI 1=1:=rfl
theorem PI{a:Int}(h:a≠0):kI a≠0:=λe=>by have h1:=ch (λx:K=>x.re.re) e;have h2:((a:Int):Rat)=0:=h1;exact h (by simpa using h2)
theorem VV(f:Fr)(h:f.d=1):f.val=⟨⟨f.a,f.b⟩,⟨f.c,f.e⟩⟩:=by
 have h1:∀ u:Int,Rat.divInt u 1=(u:Rat):=λu=>by rw[AZ,EX];grind
 unfold Fr.val;rw[h,h1,h1,h1,h1]
theorem aPh(u v:K):lJ (u*v)=lJ u*lJ v:=by
 obtain⟨⟨a,b⟩,⟨c,d⟩⟩:=u;obtain⟨⟨p,q⟩,⟨r,s⟩⟩:=v;apply bA.ext
 ·apply bA.ext
  ·show(a*p+2*(b*q))+(3*(c*r+2*(d*s))+2*(0*(c*s+d*r)))=(a*p+2*(-b*-q))+(3*(c*r+2*(-d*-s))+2*(0*(c*-s+-d*r)))
   grind
  ·show -((a*q+b*p)+(3*(c*s+d*r)+0*(c*r+2*(d*s))))=(a*-q+-b*p)+(3*(c*-s+-d*r)+0*(c*r+2*(-d*-s)))
   grind
 ·apply bA.ext
  ·show(a*r+2*(b*s))+(c*p+2*(d*q))=(a*r+2*(-b*-s))+(c*p+2*(-d*-q))
   grind
  ·show -((a*s+b*r)+(c*q+d*p))=(a*-s+-b*r)+(c*-q+-d*p)
   grind
def nf(f:Fr):Fr:=⟨f.a,f.b,f.c,f.e,1⟩
def PJ(f:Fr):Fr:=⟨f.a,-f.b,-f.c,f.e,1⟩
def PK:Fr:=⟨1,0,0,0,1⟩
def hZ(f:Fr):Fr:=dO (dO (dO PK (xi (nf f))) (xh (nf f))) (PJ f)
theorem aDt(f:Fr):(hZ f).d=1:=rfl
theorem aPi(f:Fr):(nf f).val*(hZ f).val=qQ (nf f).val:=by
 have h1:∀ g h:Fr,g.d=1->h.d=1->(dO g h).val=g.val*h.val:=λg h e1 e2=>JY (by rw[e1];decide) (by rw[e2];decide);have e3:PJ f=xi (xh (nf f)):=by unfold PJ xi xh nf;simp
 unfold hZ;rw[h1 _ _ rfl rfl,h1 _ _ rfl rfl,h1 _ _ rfl rfl,e3,TC,TC,aAw];have eo:PK.val=1:=by rw[VV _ rfl];rfl
 rw[eo];unfold qQ two;rw[aPh];generalize (nf f).val=y;rw[CR.one_mul];exact OF.ER y (lJ y) (mL y) (lJ (mL y)) (λy c b i=>y*(c*b*i)) (λy c b i=>y*b*(c*i)) d_
def mU(f g:Fr):Fr:=⟨(dO (nf f) (hZ g)).a*g.d,(dO (nf f) (hZ g)).b*g.d,(dO (nf f) (hZ g)).c*g.d,(dO (nf f) (hZ g)).e*g.d,(dO (nf g) (hZ g)).a*f.d⟩
theorem aPj{g:Fr}(hg:g.d≠0)(h:g.val≠0):(dO (nf g) (hZ g)).a≠0/\kI (dO (nf g) (hZ g)).a=(nf g).val*(hZ g).val:=by
 have hv:(dO (nf g) (hZ g)).val=(nf g).val*(hZ g).val:=JY (show(1:Int)≠0 by decide) (by rw[aDt];decide);have hy:(nf g).val≠0:=λe=>h (by
  have h1:=PH (a:=g.a) (b:=g.b) (c:=g.c) (e:=g.e) hg;have h2:Fr.val ⟨g.a,g.b,g.c,g.e,g.d⟩*kI g.d=0:=by rw[h1];exact e
  exact jo λh3=>OF.mul_ne_zero (a:=Fr.val ⟨g.a,g.b,g.c,g.e,g.d⟩) h3 (PI hg) h2)
 have hn:=aPi g;rw[NY]at hn;have hq:=TD hy;rw[<-hv,VV _ (by rfl)]at hn;have e1:(((dO (nf g) (hZ g)).a:Int):Rat)=bA.nm (bA.nm (nf g).val):=ch (λx:K=>x.re.re) hn;have e2:(((dO (nf g) (hZ g)).b:Int):Rat)=0:=ch (λx:K=>x.re.im) hn;have e3:(((dO (nf g) (hZ g)).c:Int):Rat)=0:=ch (λx:K=>x.im.re) hn;have e4:(((dO (nf g) (hZ g)).e:Int):Rat)=0:=ch (λx:K=>x.im.im) hn;refine⟨λe=>hq (by rw[<-e1,e];rfl),?_⟩;rw[<-hv,VV _ (by rfl),e2,e3,e4];rfl
theorem aPk{f g:Fr}(hf:f.d≠0)(hg:g.d≠0)(h:g.val≠0):(mU f g).d≠0/\(mU f g).val=f.val*(g.val)⁻¹:=by
 obtain⟨ha,hk⟩:=aPj hg h;have hd:(mU f g).d≠0:=CQ ha hf;refine⟨hd,?_⟩;have h1:=PH (a:=(mU f g).a) (b:=(mU f g).b) (c:=(mU f g).c) (e:=(mU f g).e) hd;have h2:=aPe (dO (nf f) (hZ g)).a (dO (nf f) (hZ g)).b (dO (nf f) (hZ g)).c (dO (nf f) (hZ g)).e 1 g.d;have h3:(dO (nf f) (hZ g)).val=(nf f).val*(hZ g).val:=JY (show(1:Int)≠0 by decide) (by rw[aDt];decide);have h4:=PH (a:=f.a) (b:=f.b) (c:=f.c) (e:=f.e) hf;have h5:=PH (a:=g.a) (b:=g.b) (c:=g.c) (e:=g.e) hg;have h6:kI (mU f g).d=(nf g).val*(hZ g).val*kI f.d:=by show kI ((dO (nf g) (hZ g)).a*f.d)=_;rw[aPf,hk]
 have e1:(mU f g).val*((nf g).val*(hZ g).val*kI f.d)=(nf f).val*(hZ g).val*kI g.d:=by rw[<-h6,<-h3];exact h1.trans h2
 replace h4:f.val*kI f.d=(nf f).val:=h4
 replace h5:g.val*kI g.d=(nf g).val:=h5
 rw[<-h4,<-h5]at e1;have hc:(hZ g).val≠0:=λe=>by rw[e,CR.mul_zero]at hk;exact PI ha hk
 have hm:kI g.d*((hZ g).val*kI f.d)≠0:=OF.mul_ne_zero (PI hg) (OF.mul_ne_zero hc (PI hf));have e2:(mU f g).val*g.val*(kI g.d*((hZ g).val*kI f.d))=f.val*(kI g.d*((hZ g).val*kI f.d)):=by
  rw[show(mU f g).val*g.val*(kI g.d*((hZ g).val*kI f.d))=(mU f g).val*(g.val*kI g.d*(hZ g).val*kI f.d)from
   OF.JQ (mU f g).val g.val (kI g.d) (hZ g).val (kI f.d) (λd g k c l=>d*g*(k*(c*l))) (λd g k c l=>d*(g*k*c*l)) d_,e1]
  exact OF.ER f.val (kI f.d) (hZ g).val (kI g.d) (λf l c k=>f*l*c*k) (λf l c k=>f*(k*(c*l))) d_
 have e3:(mU f g).val*g.val=f.val:=by have h7:=ch (λt=>t*(kI g.d*((hZ g).val*kI f.d))⁻¹) e2;rw[CR.mul_assoc ((mU f g).val*g.val),CR.mul_assoc f.val,OF.lI _ hm,CR.mul_one,CR.mul_one]at h7;exact h7
 rw[<-e3,CR.mul_assoc,OF.lI _ h,CR.mul_one]
theorem aPl:pb (co PK)=.agg #[.bool (bt 1).neg,.string (BA (bt 1).aT),.bool false,.string ⟨#[]⟩,.bool false,.string ⟨#[]⟩,.bool false,.string ⟨#[]⟩]:=by show Value.agg #[.bool (bt 1).neg,.string (BA (bt 1).aT),.bool (bt 0).neg,.string (BA (bt 0).aT),.bool (bt 0).neg,.string (BA (bt 0).aT),.bool (bt 0).neg,.string (BA (bt 0).aT)]=_;rw[CV];rfl
theorem aDu{n:Nat}{f:Fr}(h:dH n f)(hd:f.d≠0):dH n (nf f):=by
 obtain⟨h1,h2,h3,h4,h5⟩:=h;refine⟨h1,h2,h3,h4,?_⟩;show(1:Int).natAbs<2^n;have:f.d.natAbs≠0:=by omega
 show 1<2^n;omega
theorem aPm{n:Nat}{f:Fr}(h:dH n (nf f)):dH n (xi (nf f))/\dH n (xh (nf f))/\dH n (PJ f):=by
 obtain⟨h1,h2,h3,h4,h5⟩:=h;have e:∀ z:Int,z.natAbs<2^n->(-z).natAbs<2^n:=λz hz=>by rw[JC];exact hz
 exact⟨⟨h1,e _ h2,h3,e _ h4,h5⟩,⟨h1,h2,e _ h3,e _ h4,h5⟩,⟨h1,e _ h2,e _ h3,h4,h5⟩⟩
theorem aUS{x y:K}{n:Nat}(h:y≠0)(hx:Sz m x)(hy:Sz n y)(cU:m+4*n+60<=aA):aD prog 150 [cd x,cd y] (.tuple #[cd (x*y⁻¹),.int .i64 0]):=by
 have pc:aA<=1099511627776:=by decide
 have v1:=aVt hx o_;have v2:=aVt hy o_;have sy:=aUW hy o_;have h26:Value.bool (OF.aB y==0)=.bool false:=pk (λe=>h ((OF.e7 y).1 e));have u5:(bF x).d≠0:=by have:=(ku x).pos;omega
 have nO:(bF y).d≠0:=by have:=(ku y).pos;omega
 obtain⟨hd,hv⟩:=aPk u5 nO (by rw[oE];exact h);rw[oE,oE]at hv;have e:cd (x*y⁻¹)=gZ (mU (bF x) (bF y)).low:=by unfold cd dR;rw[<-hv,EV hd];rfl
 rw[e];have so1:dH 1 PK:=⟨by decide,by decide,by decide,by decide,by decide⟩;have sg:=aDu hy nO;have sf:=aDu hx u5;obtain⟨c1,c2,c3⟩:=aPm sg;have s1:=dH.mul so1 c1;have s2:=dH.mul s1 c2;have s3:=dH.mul s2 c3;have sN:=dH.mul sg s3;have sM:=dH.mul sf s3;have t1:=H7 so1 c1 o_;rw[aPl]at t1;have t2:=H7 s1 c2 o_;have t3:=H7 s2 c3 o_;have tN:=H7 sg s3 o_;have tM:=H7 sf s3 o_;have gd:=hy.2.2.2.2;have fd:=hx.2.2.2.2;have ma:=aVo sM.1 gd o_ o_;have mb:=aVo sM.2.1 gd o_ o_;have mc:=aVo sM.2.2.1 gd o_ o_;have me:=aVo sM.2.2.2.1 gd o_ o_;have md:=aVo sN.1 fd o_ o_;have za:=ek sM.1 gd;have zb:=ek sM.2.1 gd;have zc:=ek sM.2.2.1 gd;have ze:=ek sM.2.2.2.1 gd;have zd:=ek sN.1 fd;have xk:2^(m+(1+n+4+n+4+n+4)+4+n)<=2^(m+4*n+20):=c7 d_ o_;have VJ:2^(n+(1+n+4+n+4+n+4)+4+m)<=2^(m+4*n+20):=c7 d_ o_;have hl:=aUQ (c:=co (mU (bF x) (bF y))) (d:=(mU (bF x) (bF y)).d) (n:=m+4*n+20) hd ⟨cC za xk,cC zb xk,cC zc xk,cC ze xk,cC zd VJ⟩ o_;have du:nU (co (mU (bF x) (bF y))) (mU (bF x) (bF y)).d=mU (bF x) (bF y):=rfl;rw[du]at hl;have nb:=aVd (bF y).b;have nc:=aVd (bF y).c;have ne:=aVd (bF y).e;have one:=aVC (z:=1) d_ d_;generalize hD:(mU (bF x) (bF y)).low=D at *;exact fj mixed func150 300 (λ_=>[v1.at 15,v2.at 19,sy.at 25,.rw 26 _ a_ h26,one.at 28,nb.at 54,ne.at 54,t1.at 58,nc.at 54,ne.at 54,t2.at 58,nb.at 54,nc.at 54,t3.at 58,tN.at 62,tM.at 66,ma.at 77,mb.at 77,mc.at 77,me.at 77,md.at 84,hl.at 85]) (λ_=>k_) k_ k_
section
open V3 (dot aw cI smul)
def FK(n:Nat)(r:RV):Prop:=dH n (fB r.x)/\dH n (fB r.y)/\dH n (fB r.z)
def tH(r:RV):Bool:=kx r.x&&(kx r.y&&kx r.z)
theorem aUK{r:RV}{n:Nat}(h:FK n r)(hn:n<=aA):aD prog 72 [r.v] (.bool (tH r)):=by
 have hx:=La h.1 hn;have hy:=La h.2.1 hn;have hz:=La h.2.2 hn;unfold tH;generalize kx r.x=bb at *;rcases bb with _|_
 ·exact aZ func72 (λ_=>[hx.at 5])
 generalize kx r.y=bb at *;rcases bb with _|_
 ·exact aZ func72 (λ_=>[hx.at 5,hy.at 9])
 exact aZ func72 (λ_=>[hx.at 5,hy.at 9,hz.at 14])
theorem PL(x:K):kx (dR x)=true:=aDo (ku x)
theorem FL(x:K):fB (dR x)=bF x:=VO (bF x)
theorem aDv{n:Nat}{v:V3 K}(h:aG n v):FK n (cJ v):=by
 refine⟨?_,?_,?_⟩
 ·show dH n (fB (dR v.x));rw[FL];exact h.1
 ·show dH n (fB (dR v.y));rw[FL];exact h.2.1
 ·show dH n (fB (dR v.z));rw[FL];exact h.2.2
theorem aDw(v:V3 K):tH (cJ v)=true:=by show(kx (dR v.x)&&(kx (dR v.y)&&kx (dR v.z)))=true;rw[PL,PL,PL];rfl
theorem aVF{v:V3 K}{n:Nat}(h:aG n v)(hn:n<=aA):aD prog 72 [bN v] b_:=by have:=aUK (aDv h) hn;rw[aDw]at this;exact this
def vZ(r:RV):V3 K:=⟨(fB r.x).val,(fB r.y).val,(fB r.z).val⟩
theorem PM{r:RV}(h:tH r=true):r=cJ (vZ r):=by unfold tH at h;simp only[cY]at h;obtain⟨x,y,z⟩:=r;show RV.mk x y z=RV.mk (dR (fB x).val) (dR (fB y).val) (dR (fB z).val);rw[<-PB h.1,<-PB h.2.1,<-PB h.2.2]
theorem aUZ{a b c:Int}(ha:a.natAbs<9223372036854775808)(hb:b.natAbs<9223372036854775808)(hc:c.natAbs<9223372036854775808):aD prog 27 [.int .i64 a,.int .i64 b,.int .i64 c] (bN ⟨kI a,kI b,kI c⟩):=
 aZ func27 (λ_=>[(aVH ha).at 8,(aVH hb).at 10,(aVH hc).at 12])
theorem aVe{u v:V3 K}{n:Nat}(hu:aG m u)(hv:aG n v)(cU:m+n<aA):aD prog 28 [bN u,bN v] (bN (u+v)):=
 aZ func28 (λ_=>[(aVF hu o_).at 6,(aVF hv o_).at 10,(aU0 hu.1 hv.1 cU).at 18,(aU0 hu.2.1 hv.2.1 cU).at 23,(aU0 hu.2.2 hv.2.2 cU).at 28])
theorem aUL{v:V3 K}{n:Nat}(hv:aG n v)(hn:n<=aA):aD prog 78 [bN v] (bN (-v)):=
 aZ func78 (λ_=>[(aVF hv hn).at 4,(aVn hv.1 hn).at 9,(aVn hv.2.1 hn).at 12,(aVn hv.2.2 hn).at 15])
theorem aVi{u v:V3 K}{n:Nat}(hu:aG m u)(hv:aG n v)(cU:m+n<aA):aD prog 30 [bN u,bN v] (bN (u-v)):=by have e:u-v=u+-v:=V3.ext (CR.sub_def _ _) (CR.sub_def _ _) (CR.sub_def _ _);rw[e];exact aZ func30 (λ_=>[(aUL hv o_).at 7,(aVe hu hv.neg cU).at 8])
theorem aU6{v:V3 K}{k:K}{n:Nat}(hv:aG m v)(hk:Sz n k)(cU:m+n+8<=aA):aD prog 29 [bN v,cd k] (bN (smul v k)):=
 aZ func29 (λ_=>[(aVF hv o_).at 6,(aVt hk o_).at 10,(aVB hv.1 hk cU).at 17,(aVB hv.2.1 hk cU).at 21,(aVB hv.2.2 hk cU).at 25])
theorem aU8{u v:V3 K}{n:Nat}(hu:aG m u)(hv:aG n v)(cU:3*(m+n)+16<aA):aD prog 81 [bN u,bN v] (cd (dot u v)):=
 aZ func81 (λ_=>[(aVF hu o_).at 6,(aVF hv o_).at 10,(aVB hu.1 hv.1 o_).at 18,(aVB hu.2.1 hv.2.1 o_).at 23,(aU0 (hu.1.mul hv.1) (hu.2.1.mul hv.2.1) o_).at 24,(aVB hu.2.2 hv.2.2 o_).at 29,(aU0 ((hu.1.mul hv.1).add (hu.2.1.mul hv.2.1)) (hu.2.2.mul hv.2.2) o_).at 30])
theorem aVy{a b c d:K}{n:Nat}(ha:Sz m a)(hb:Sz m b)(hc:Sz n c)(hd:Sz n d)(cU:2*(m+n)+16<aA):aD prog 148 [cd a,cd b,cd c,cd d] (cd (a*d-b*c)):=
 aZ func148 (λ_=>[(aVB ha hd o_).at 11,(aVB hb hc o_).at 14,(aU5 (ha.mul hd) (hb.mul hc) o_).at 15])
theorem aUP{u v:V3 K}{n:Nat}(hu:aG m u)(hv:aG n v)(cU:2*(m+n)+16<aA):aD prog 99 [bN u,bN v] (bN (aw u v)):=
 aZ func99 (λ_=>[(aVF hu o_).at 6,(aVF hv o_).at 10,(aVy hu.2.1 hu.2.2 hv.2.1 hv.2.2 cU).at 22,(aVy hu.2.2 hu.1 hv.2.2 hv.1 cU).at 31,(aVy hu.1 hu.2.1 hv.1 hv.2.1 cU).at 40])
theorem aVI{v:V3 K}{n:Nat}(hv:aG n v)(hn:n<=aA):aD prog 79 [bN v] (.bool (decide (v=0))):=by have hz:(⟨kI 0,kI 0,kI 0⟩:V3 K)=0:=rfl;exact aZ func79 (λ_=>[(aUZ (a:=0) (b:=0) (c:=0) d_ d_ d_).at 4,.step 5 (ay f79 5) _ _ _ _ (EZ (neg:=true) k_ (cJ v) (cJ ⟨kI 0,kI 0,kI 0⟩) (hv.sm hn) (Kw.sm d_) (b:=decide (v=0)) (by rw[au rfl,qU];exact⟨λh=>by rw[h,hz],λh=>OO h⟩))])
theorem aDx{u v w:V3 K}{l n:Nat}(hu:aG l u)(hv:aG m v)(hw:aG n w)(cU:3*(l+(2*(m+n)+9))+16<aA):aD prog 149 [bN u,bN v,bN w] (cd (cI u v w)):=
 aZ func149 (λ_=>[(aVF hu o_).at 8,(aVF hv o_).at 12,(aVF hw o_).at 17,(aUP hv hw o_).at 24,(aU8 hu (hv.aw hw) o_).at 25])
theorem Lb(h:decide (z≠0)=t):Value.bool (z !=0)=.bool t:=by
 rw[<-h];congr 1
 by_cases e:z=0
 ·subst e;rfl
 ·rw[aC e,qH];exact e
theorem aVG{u v:V3 K}{n:Nat}(hu:aG m u)(hv:aG n v)(cU:4*(m+n)+40<=aA):aD prog 151 [bN u,bN v] (.int .i64 (dW u v)):=by
 rw[<-aBO];have h1:=aVF hu (show m<=aA by omega);have h2:=aVF hv (show n<=aA by omega);have c1:=aUM hu.1 hv.1 cU;have c2:=aUM hu.2.1 hv.2.1 cU;have c3:=aUM hu.2.2 hv.2.2 cU;generalize OF.aB (u.x-v.x)=a at *;generalize OF.aB (u.y-v.y)=b at *;generalize OF.aB (u.z-v.z)=c at *;unfold OP;by_cases ha:a=0
 ·rw[al (λh=>h ha)];by_cases hb:b=0
  ·rw[al (λh=>h hb)];exact aZ func151 (λ_=>[h1.at 8,h2.at 12,c1.at 19,.rw 21 _ a_ (Lb (aO (λh=>h ha))),c2.at 27,.rw 29 _ a_ (Lb (aO (λh=>h hb))),c3.at 35])
  ·rw[au hb];exact aZ func151 (λ_=>[h1.at 8,h2.at 12,c1.at 19,.rw 21 _ a_ (Lb (aO (λh=>h ha))),c2.at 27,.rw 29 _ b_ (Lb (aC hb))])
 ·rw[au ha];exact aZ func151 (λ_=>[h1.at 8,h2.at 12,c1.at 19,.rw 21 _ b_ (Lb (aC ha))])
def po(r:RV)(k:Nat):Bool:=sI r.x k&&(sI r.y k&&sI r.z k)
theorem PN(r:RV)(k:Nat):aD prog 22 [r.v,vI k] (.bool (po r k)):=by
 have hx:=PE r.x k;have hy:=PE r.y k;have hz:=PE r.z k;unfold po;generalize sI r.x k=bb at *;rcases bb with _|_
 ·exact aZ func22 (λ_=>[hx.at 8])
 generalize sI r.y k=bb at *;rcases bb with _|_
 ·exact aZ func22 (λ_=>[hx.at 8,hy.at 13])
 exact aZ func22 (λ_=>[hx.at 8,hy.at 13,hz.at 19])
def wV(r:RV):Nat:=wN r.x+wN r.y+wN r.z
theorem aPn{r:RV}(h:wV r<9223372036854775808):aD prog 40 [r.v] (vI (wV r)):=by unfold wV at *;exact aZ func40 (λ_=>[(PF (r:=r.x) o_).at 5,(PF (r:=r.y) o_).at 8,.sum 9 (wN r.x) (wN r.y) (wN r.x+wN r.y) rfl o_,(PF (r:=r.z) o_).at 12,.sum 13 (wN r.x+wN r.y) (wN r.z) (wN r.x+wN r.y+wN r.z) rfl o_])
theorem PO{n:Nat}(h:sI r k=true)(hn:8*k<=n):dH n (fB r):=by
 unfold sI sH at h;simp only[cY,rI]at h;have key:∀ q:RI,q.aT.length<=k->(dL q).natAbs<2^n:=λq hq=>by
  unfold dL;rw[pS];have h1:=Ax q.aT;have h2:(256:Nat)^q.aT.length<=256^k:=c7 d_ hq;have h3:(256:Nat)^k=2^(8*k):=by rw[rQ]
  have h4:2^(8*k)<=2^n:=c7 d_ hn;omega
 exact⟨key _ h.1,key _ h.2.1,key _ h.2.2.1,key _ h.2.2.2.1,key _ h.2.2.2.2⟩
theorem aDy{r:RV}{n:Nat}(h:po r k=true)(hn:8*k<=n):FK n r:=by unfold po at h;simp only[cY]at h;exact⟨PO h.1 hn,PO h.2.1 hn,PO h.2.2 hn⟩
def uN(n:Nat)(r:RP):Prop:=FK n r.n/\dH n (fB r.d)
def ml(r:RP):Bool:=tH r.n&&(decide (vZ r.n≠0)&&kx r.d)
def pZ(r:RP):HS K:=⟨vZ r.n,(fB r.d).val⟩
theorem aPo(h:kx r=true):bF (fB r).val=fB r:=by unfold kx at h;simp only[cY,rI]at h;obtain⟨h1,h2,h3,h4,h5,h6,h7⟩:=h;exact EU ⟨h6,h7⟩
theorem PQ{n:Nat}(h:kx r=true)(hs:dH n (fB r)):Sz n (fB r).val:=by unfold Sz;rw[aPo h];exact hs
theorem PR{r:RV}{n:Nat}(h:tH r=true)(hs:FK n r):aG n (vZ r):=by unfold tH at h;simp only[cY]at h;exact⟨PQ h.1 hs.1,PQ h.2.1 hs.2.1,PQ h.2.2 hs.2.2⟩
theorem VW{r:RP}{n:Nat}(h:uN n r)(hn:n<=aA):aD prog 37 [r.v] (.bool (ml r)):=by
 have hv:=aUK h.1 hn;have hd:=La h.2 hn;unfold ml;rcases hb:tH r.n with _|_
 ·rw[hb]at hv;exact aZ func37 (λ_=>[hv.at 5])
 ·rw[hb]at hv;have hz:=aVI (PR hb h.1) hn;unfold bN at hz;rw[<-PM hb]at hz;by_cases h0:vZ r.n=0
  ·rw[aC h0]at hz;rw[aO (λe=>e h0)];exact aZ func37 (λ_=>[hv.at 5,hz.at 9])
  ·rw[aO h0]at hz;rw[aC h0];exact aZ func37 (λ_=>[hv.at 5,hz.at 9,hd.at 15])
theorem aPp(v:V3 K):vZ (cJ v)=v:=by show V3.mk (fB (dR v.x)).val (fB (dR v.y)).val (fB (dR v.z)).val=v;rw[FL,FL,FL,oE,oE,oE]
theorem aDz(p:HS K):ml (cV p)=decide (p.n≠0):=by show(tH (cJ p.n)&&(decide (vZ (cJ p.n)≠0)&&kx (dR p.d)))=_;rw[aDw,aPp,PL,kX,iM]
theorem aDA{n:Nat}(h:bB n p):uN n (cV p):=⟨aDv h.1,by show dH n (fB (dR p.d));rw[FL];exact h.2⟩
theorem aVk{n:Nat}(hp:bB n p)(hn:n<=aA):aD prog 37 [dp p] (.bool (decide (p.n≠0))):=by have:=VW (aDA hp) hn;rw[aDz]at this;exact this
theorem aDB{r:RP}(h:ml r=true):r=cV (pZ r)/\(pZ r).n≠0:=by unfold ml at h;simp only[cY,rI]at h;obtain⟨n,d⟩:=r;refine⟨?_,h.2.1⟩;show RP.mk n d=RP.mk (cJ (vZ n)) (dR (fB d).val);rw[<-PM h.1,<-PB h.2.2]
theorem aPq{r:RP}{n:Nat}(h:ml r=true)(hs:uN n r):bB n (pZ r):=by unfold ml at h;simp only[cY]at h;exact⟨PR h.1 hs.1,PQ h.2.2 hs.2⟩
def BJ(r:RP)(k:Nat):Bool:=po r.n k&&sI r.d k
theorem aDC(r:RP)(k:Nat):aD prog 36 [r.v,vI k] (.bool (BJ r k)):=by
 have hx:=PN r.n k;have hd:=PE r.d k;unfold BJ;generalize po r.n k=bb at *;rcases bb with _|_
 ·exact aZ func36 (λ_=>[hx.at 8])
 exact aZ func36 (λ_=>[hx.at 8,hd.at 13])
theorem aPr{r:RP}{n:Nat}(h:BJ r k=true)(hn:8*k<=n):uN n r:=by unfold BJ at h;simp only[cY]at h;exact⟨aDy h.1 hn,PO h.2 hn⟩
theorem aUT{v:V3 K}{n:Nat}(hp:bB m p)(hv:aG n v)(cU:4*(3*(m+n)+14+m)+50<=aA)(h:p.n≠0):aD prog 38 [dp p,bN v] (.int .i64 (OF.aB (dot p.n v-p.d))):=by have h1:=aVk hp o_;rw[aC h]at h1;exact aZ func38 (λ_=>[h1.at 6,(aVF hv o_).at 10,(aU8 hp.1 hv o_).at 16,(aUM (hp.1.dot hv) hp.2 o_).at 19])
def H8(p q r:HS K):V3 K:=smul (aw q.n r.n) p.d+smul (aw r.n p.n) q.d+smul (aw p.n q.n) r.d
def kQ(p q r:HS K):V3 K:=smul (H8 p q r) (kI 1*(cI p.n q.n r.n)⁻¹)
theorem Sz.cI{n:Nat}{u v w:V3 K}(hu:aG n u)(hv:aG n v)(hw:aG n w):Sz (15*n+41) (V3.cI u v w):=(hu.dot (hv.aw hw)).mono o_
theorem aG.H8{n:Nat}{q r:HS K}(hp:bB n p)(hq:bB n q)(hr:bB n r):aG (15*n+41) (Go.Proofs.YthccllenbnhogaaGreatDoor.H8 p q r):=
 (((hq.1.aw hr.1).smul hp.2).add ((hr.1.aw hp.1).smul hq.2)).add ((hp.1.aw hq.1).smul hr.2) |>.mono o_
theorem aG.kQ{n:Nat}{q r:HS K}(hp:bB n p)(hq:bB n q)(hr:bB n r)(h:V3.cI p.n q.n r.n≠0):aG (120*n+365) (Go.Proofs.YthccllenbnhogaaGreatDoor.kQ p q r):=
 (aG.H8 hp hq hr).smul (Sz.div (m:=1) h (qP d_ d_) (Sz.cI hp.1 hq.1 hr.1)) |>.mono o_
theorem aPs(n:Nat):1+7*(15*n+41)+28<=105*n+316:=by omega
theorem aPt(n:Nat):15*n+41+(105*n+316)+8<=200*n+1000:=by omega
theorem aPu{n:Nat}(h:200*n+1000<=aA):15*n+41+(105*n+316)+8<=aA:=dc (aPt n) h
theorem aPv{q r:HS K}{n:Nat}(hp:bB n p)(hq:bB n q)(hr:bB n r)(hn:200*n+1000<=aA)(pn:p.n≠0)(qn:q.n≠0)(rn:r.n≠0):
  aD prog 101 [dp p,dp q,dp r] (if cI p.n q.n r.n=0 then .tuple #[zV.v,.int .i64 11]else .tuple #[bN (kQ p q r),.int .i64 0]):=by
 have h1:=aVk hp o_;have h2:=aVk hq o_;have h3:=aVk hr o_;rw[aC pn]at h1;rw[aC qn]at h2;rw[aC rn]at h3;have dt:=aDx hp.1 hq.1 hr.1 o_;have sd:=Sz.cI hp.1 hq.1 hr.1;have sg:=aUW sd o_;have qR:=aPs n;have pc:=aPu hn;by_cases h:cI p.n q.n r.n=0
 ·rw[au h];have VX:Value.bool (OF.aB (cI p.n q.n r.n)==0)=.bool true:=xR ((OF.e7 _).2 h);exact fj mixed func101 200 (λ_=>[h1.at 13,h2.at 17,h3.at 22,dt.at 32,sg.at 34,.rw 35 _ b_ VX]) (λ_=>k_) k_ k_
 ·rw[al h];have VX:Value.bool (OF.aB (cI p.n q.n r.n)==0)=.bool false:=pk (λe=>h ((OF.e7 _).1 e));have c1:=aUP hq.1 hr.1 o_;have c2:=aUP hr.1 hp.1 o_;have c3:=aUP hp.1 hq.1 o_;have s1:=aU6 (hq.1.aw hr.1) hp.2 o_;have s2:=aU6 (hr.1.aw hp.1) hq.2 o_;have s3:=aU6 (hp.1.aw hq.1) hr.2 o_;have a1:=aVe ((hq.1.aw hr.1).smul hp.2) ((hr.1.aw hp.1).smul hq.2) o_;have zA:aG (10*n+27) (smul (aw q.n r.n) p.d+smul (aw r.n p.n) q.d):=aG.mono o_ (((hq.1.aw hr.1).smul hp.2).add ((hr.1.aw hp.1).smul hq.2));have zB:aG (5*n+13) (smul (aw p.n q.n) r.d):=aG.mono o_ ((hp.1.aw hq.1).smul hr.2);have a2:=aVe zA zB o_;have o1:=aVH (z:=1) d_;have so:Sz 1 (kI 1):=qP d_ d_;have dv:=aUS h so sd o_;have sq:Sz (105*n+316) (kI 1*(cI p.n q.n r.n)⁻¹):=Sz.mono qR (Sz.div h so sd);have fs:=aU6 (aG.H8 hp hq hr) sq pc;exact fj mixed func101 200 (λ_=>[h1.at 13,h2.at 17,h3.at 22,dt.at 32,sg.at 34,.rw 35 _ a_ VX,c1.at 41,s1.at 44,c2.at 50,s2.at 53,a1.at 54,c3.at 60,s3.at 63,a2.at 64,o1.at 66,dv.at 68,fs.at 73]) (λ_=>k_) k_ k_
theorem aVw{n:Nat}(hp:bB n p)(hn:16*n+100<=aA)(bd:p.n≠0):aD prog 152 [dp p] (.tuple #[dp (canon p),.int .i64 0]):=by
 have hv:=aVk hp o_;rw[aC bd]at hv;have sx:=aUW hp.1.1 o_;have sy:=aUW hp.1.2.1 o_;have o1:=aVH (z:=1) d_;have so:Sz 1 (kI 1):=qP d_ d_;have fin:∀ x:K,x≠0->Sz n x->aD prog 18 [cd x] (cd (iI x))/\aD prog 150 [cd (kI 1),cd (iI x)] (.tuple #[cd (mg x),.int .i64 0])/\
   aD prog 29 [bN p.n,cd (mg x)] (bN (smul p.n (mg x)))/\aD prog 77 [cd p.d,cd (mg x)] (cd (p.d*mg x)):=λx hx hs=>
  ⟨aU7 hs o_,aUS (OR hx) so hs.iI o_,aU6 hp.1 (hs.mg hx) o_,aVB hp.2 (hs.mg hx) o_⟩
 have hc:canon p=C8 p (qc p.n):=rfl;unfold qc at hc;by_cases hx:p.n.x=0
 ·have ex:Value.bool (OF.aB p.n.x==0)=.bool true:=xR ((OF.e7 _).2 hx);rw[al (λe=>e hx)]at hc;by_cases hy:p.n.y=0
  ·have ey:Value.bool (OF.aB p.n.y==0)=.bool true:=xR ((OF.e7 _).2 hy);rw[al (λe=>e hy)]at hc;have hz:p.n.z≠0:=λhz=>bd (V3.ext hx hy hz);obtain⟨f1,f2,f3,f4⟩:=fin p.n.z hz hp.1.2.2;rw[hc];exact fj mixed func152 200 (λ_=>[hv.at 8,sx.at 15,.rw 16 _ b_ ex,sy.at 21,.rw 22 _ b_ ey,o1.at 27,f1.at 29,f2.at 30,f3.at 36,f4.at 40]) (λ_=>k_) k_ k_
  ·have ey:Value.bool (OF.aB p.n.y==0)=.bool false:=pk (λe=>hy ((OF.e7 _).1 e));rw[au hy]at hc;obtain⟨f1,f2,f3,f4⟩:=fin p.n.y hy hp.1.2.1;rw[hc];exact fj mixed func152 200 (λ_=>[hv.at 8,sx.at 15,.rw 16 _ b_ ex,sy.at 21,.rw 22 _ a_ ey,o1.at 27,f1.at 29,f2.at 30,f3.at 36,f4.at 40]) (λ_=>k_) k_ k_
 ·have ex:Value.bool (OF.aB p.n.x==0)=.bool false:=pk (λe=>hx ((OF.e7 _).1 e));rw[au hx]at hc;obtain⟨f1,f2,f3,f4⟩:=fin p.n.x hx hp.1.1;rw[hc];exact fj mixed func152 200 (λ_=>[hv.at 8,sx.at 15,.rw 16 _ a_ ex,sx.at 21,.rw 22 _ a_ ex,o1.at 27,f1.at 29,f2.at 30,f3.at 36,f4.at 40]) (λ_=>k_) k_ k_
theorem aVc{q:HS K}{n:Nat}(hp:bB m p)(hq:bB n q)(hm:16*m+100<=aA)(hn:16*n+100<=aA)(js:p.n≠0)(zj:q.n≠0):aD prog 103 [dp p,dp q] (.bool (decide (canon p=canon q))):=
 aZ func103 (λ_=>[(aVw hp hm js).at 11,(aVw hq hn zj).at 16,.step 28 (ay f103 28) _ _ _ _ (Tv (neg:=true) k_ (cV (canon p)) (cV (canon q)) ((hp.canon js).sm o_) ((hq.canon zj).sm o_) (b:=decide (canon p=canon q)) (by rw[au rfl,qU];exact⟨λh=>by rw[h],λh=>OQ h⟩))])
theorem aDD{g o a b:V3 K}{n:Nat}(hg:aG n g)(ho:aG n o)(ha:aG n a)(hb:aG n b)(hn:200*n+400<=aA):aD prog 154 [bN g,bN o,bN a,bN b] (.int .i64 (OF.aB (cI g (a-o) (b-o)))):=
 aZ func154 (λ_=>[(aVi ha ho o_).at 12,(aVi hb ho o_).at 15,(aDx hg (ha.sub ho) (hb.sub ho) o_).at 16,(aUW (hg.dot ((ha.sub ho).aw (hb.sub ho))) o_).at 17])
end
section
variable{Bs:ae}{a b:List RV}
def DA(n i:Nat):aM:=[(5,vI i),(0,sl 0 n),(1,sl 1 n)]
def vT(a b:List RV):aE:=[(0,.view (cO a)),(1,.view (cO b))]
noncomputable def svS{n:Nat}{x y:RV}(hi:i<n)(hx:a[i]?=some x)(hy:b[i]?=some y)(nC:x.Sm)(xA:y.Sm)(ht:(!t)=true↔x=y)(more:bH prog Bs 26):bH prog Bs 26:=
 .lt 14 i n true (aC hi)::.df f35 19 0 n i 30 hi k_::.ld f35 20 42 0 (i*30) (.view (cO a)) x.v rfl (sn hx) k_::.df f35 23 1 n i 30 hi k_::.ld f35 24 42 1 (i*30) (.view (cO b)) y.v rfl (sn hy) k_::
  .step 25 (ay f35 25) [x.v,y.v] [] (.bool t) [] (EZ (neg:=false) k_ x y nC xA ht)::more
theorem aDE{n:Nat}{x:RV}(hi:i<n)(hx:a[i]?=some x)(hy:b[i]?=some x)(nC:x.Sm)(h63:n<9223372036854775807):
  af prog Bs 26 (aF (ag f35 0)) (DA n i) (vT a b) 2 ⟨.normal,DA n (i+1),vT a b,2⟩:=
 az (svS (t:=false) hi hx hy nC nC s_ [.sum 16 i 1 (i+1) rfl o_])
theorem aPw{n:Nat}{x y:RV}(hi:i<n)(hx:a[i]?=some x)(hy:b[i]?=some y)(nC:x.Sm)(xA:y.Sm)(bd:x≠y):
  af prog Bs 26 (aF (ag f35 0)) (DA n i) (vT a b) 2 ⟨.ret,[(4,.bool false)],vT a b,2⟩:=
 az (svS (t:=true) hi hx hy nC xA (by simp[bd]) [])
theorem aPx{n:Nat}:af prog Bs 26 (aF (ag f35 0)) (DA n n) (vT a b) 2 ⟨.exit 0,[],vT a b,2⟩:=
 az [.lt 14 n n false s_]
theorem aPy(ha:∀ x∈a,x.Sm)(hb:∀ x∈b,x.Sm)(h63:a.length<9223372036854775807):cg prog 35 [.r a.length (cO a),.r b.length (cO b)] (.bool (decide (a=b))):=by
 have ax:([aK.r a.length (cO a),.r b.length (cO b)].all aK.ok)=true:=by simp only[eY,fO,aK.ok,gA gp,iM]
 by_cases hl:a.length=b.length
 ·rcases Dd a b hl with h|⟨e,x,y,h1,h2,h3,h4⟩
  ·rw[aC h];subst h;have lo:∀ B:ae,af prog B 26 (.block 0 (ag f35 0)) (DA a.length 0) (vT a a) 2 ⟨.normal,[],vT a a,2⟩:=λB=>
    bO (id:=0) (ck a.length (λi=>DA a.length i) (λ_=>vT a a) (λi k _=>Iff.rfl) (λi hi=>by have hx:a[i]?=some a[i]:=aW hi;exact aDE hi hx hx (ha _ (dK hi)) h63) aPx n_)
   exact dC func35 ax 26 (λw=>[.rw 10 _ a_ (tE (x:=a.length) (y:=a.length) s_),.code 0 _ _ _ _ _ (lo _)])
  ·have bW:a≠b:=λh=>by subst h;rw[h1]at h2;injection h2 with h2;exact h3 h2
   rw[aO bW];have ao:=(eB.1 h1).1;have lo:∀ B:ae,af prog B 26 (.block 0 (ag f35 0)) (DA a.length 0) (vT a b) 2 ⟨.ret,[(4,.bool false)],vT a b,2⟩:=λB=>
    bO (id:=0) (ck e (λi=>DA a.length i) (λ_=>vT a b) (λi k _=>Iff.rfl) (λi hi=>by have hx:a[i]?=some a[i]:=aW o_;have hy:b[i]?=some b[i]:=aW o_;have:=h4 i _ _ hi hx hy;rw[<-this]at hy;exact aDE o_ hx hy (ha _ (dK _)) h63) (aPw ao h1 h2 (ha _ (cN h1)) (hb _ (cN h2)) h3) n_)
   have Bf:([aK.r a.length (cO a),.r a.length (cO b)].all aK.ok)=true:=by simp only[eY,fO,aK.ok,gA gp,iM]
   rw[<-hl];exact dC func35 Bf 26 (λw=>[.rw 10 _ a_ (tE (x:=a.length) (y:=a.length) s_),.code 0 _ _ _ _ _ (lo _)])
 ·have bW:a≠b:=λh=>hl (by rw[h]);rw[aO bW];exact dC func35 ax 26 (λw=>[.rw 10 _ b_ (tE (x:=a.length) (y:=b.length) (aC hl))])
end
section
variable{Bs:ae}{a b:List Int}
def DB(n i:Nat):aM:=[(5,vI i),(0,sl 0 n),(1,sl 1 n)]
def vU(a b:List Int):aE:=[(0,.view (eQ a)),(1,.view (eQ b))]
theorem neZ{x:Int}(h:decide (x≠y)=t):Value.bool (x !=y)=.bool t:=by
 rw[<-h];congr 1
 by_cases e:x=y
 ·subst e;simp
 ·rw[aC e,qH];exact e
noncomputable def siS{n:Nat}{x:Int}(hi:i<n)(hx:a[i]?=some x)(hy:b[i]?=some y)(ht:decide (x≠y)=t)(more:bH prog Bs 26):bH prog Bs 26:=
 .lt 14 i n true (aC hi)::.ix f39 19 0 n i hi k_::.ld f39 20 3 0 i (.view (eQ a)) (iV x) rfl (Pg hx) k_::.ix f39 23 1 n i hi k_::.ld f39 24 3 1 i (.view (eQ b)) (iV y) rfl (Pg hy) k_::.rw 25 _ (.bool t) (neZ ht)::more
theorem aDF{n:Nat}{x:Int}(hi:i<n)(hx:a[i]?=some x)(hy:b[i]?=some x)(h63:n<9223372036854775807):
  af prog Bs 26 (aF (ag f39 0)) (DB n i) (vU a b) 2 ⟨.normal,DB n (i+1),vU a b,2⟩:=
 az (siS (t:=false) hi hx hy s_ [.sum 16 i 1 (i+1) rfl o_])
theorem aPz{n:Nat}{x:Int}(hi:i<n)(hx:a[i]?=some x)(hy:b[i]?=some y)(bd:x≠y):
  af prog Bs 26 (aF (ag f39 0)) (DB n i) (vU a b) 2 ⟨.ret,[(4,.bool false)],vU a b,2⟩:=
 az (siS (t:=true) hi hx hy (aC bd) [])
theorem aPA{n:Nat}:af prog Bs 26 (aF (ag f39 0)) (DB n n) (vU a b) 2 ⟨.exit 0,[],vU a b,2⟩:=
 az [.lt 14 n n false s_]
theorem aDG(l:List Int):(eQ l).all flat=true:=aY.2 λu hu=>by obtain⟨x,_,rfl⟩:=de.1 hu;rfl
theorem aPB(h63:a.length<9223372036854775807):cg prog 39 [.r a.length (eQ a),.r b.length (eQ b)] (.bool (decide (a=b))):=by
 have ax:([aK.r a.length (eQ a),.r b.length (eQ b)].all aK.ok)=true:=by simp only[eY,fO,aK.ok,aDG,iM]
 by_cases hl:a.length=b.length
 ·rcases Dd a b hl with h|⟨e,x,y,h1,h2,h3,h4⟩
  ·rw[aC h];subst h;have lo:∀ B:ae,af prog B 26 (.block 0 (ag f39 0)) (DB a.length 0) (vU a a) 2 ⟨.normal,[],vU a a,2⟩:=λB=>
    bO (id:=0) (ck a.length (λi=>DB a.length i) (λ_=>vU a a) (λi k _=>Iff.rfl) (λi hi=>by have hx:a[i]?=some a[i]:=aW hi;exact aDF hi hx hx h63) aPA n_)
   exact dC func39 ax 26 (λw=>[.rw 10 _ a_ (tE (x:=a.length) (y:=a.length) s_),.code 0 _ _ _ _ _ (lo _)])
  ·have bW:a≠b:=λh=>by subst h;rw[h1]at h2;injection h2 with h2;exact h3 h2
   rw[aO bW];have ao:=(eB.1 h1).1;have lo:∀ B:ae,af prog B 26 (.block 0 (ag f39 0)) (DB a.length 0) (vU a b) 2 ⟨.ret,[(4,.bool false)],vU a b,2⟩:=λB=>
    bO (id:=0) (ck e (λi=>DB a.length i) (λ_=>vU a b) (λi k _=>Iff.rfl) (λi hi=>by have hx:a[i]?=some a[i]:=aW o_;have hy:b[i]?=some b[i]:=aW o_;have:=h4 i _ _ hi hx hy;rw[<-this]at hy;exact aDF o_ hx hy h63) (aPz ao h1 h2 h3) n_)
   have Bf:([aK.r a.length (eQ a),.r a.length (eQ b)].all aK.ok)=true:=by simp only[eY,fO,aK.ok,aDG,iM]
   rw[<-hl];exact dC func39 Bf 26 (λw=>[.rw 10 _ a_ (tE (x:=a.length) (y:=a.length) s_),.code 0 _ _ _ _ _ (lo _)])
 ·have bW:a≠b:=λh=>hl (by rw[h]);rw[aO bW];exact dC func39 ax 26 (λw=>[.rw 10 _ b_ (tE (x:=a.length) (y:=b.length) (aC hl))])
end
section
variable{α:Type}[DecidableEq α]
def dd:List α->List α
 |a::b::l=>if a=b then dd (b::l)else a::dd (b::l)
 |l=>l
theorem Lc(a b:α)(l:List α):dd (a::b::l)=if a=b then dd (b::l)else a::dd (b::l):=rfl
theorem aDH:∀(l:List α) (a b:α),dd (l++[a,b])=if a=b then dd (l++[a])else dd (l++[a])++[b]
 |[],a,b=>by
  show(if a=b then[b]else[a,b])=if a=b then[a]else[a]++[b]
  split
  ·rename_i h;rw[h]
  ·rfl
 |[c],a,b=>by
  show(if c=a then(if a=b then[b]else[a,b])else c::(if a=b then[b]else[a,b]))=if a=b then(if c=a then[a]else[c,a])else(if c=a then[a]else[c,a])++[b]
  by_cases h:a=b<;>by_cases k:c=a<;>simp[h,k]
 |c::d::l,a,b=>by
  show(if c=d then dd (d::(l++[a,b]))else c::dd (d::(l++[a,b])))=if a=b then(if c=d then dd (d::(l++[a]))else c::dd (d::(l++[a])))else(if c=d then dd (d::(l++[a]))else c::dd (d::(l++[a])))++[b]
  have ih:=aDH (d::l) a b;rw[GD,GD]at ih;rw[ih];by_cases h:a=b<;>by_cases k:c=d<;>simp[h,k]
theorem PS{l:List α}{x y:α}(hj:l[j]?=some y)(hx:l[j+1]?=some x):dd (l.take (j+2))=if y=x then dd (l.take (j+1))else dd (l.take (j+1))++[x]:=by
 have e1:l.take (j+1)=l.take j++[y]:=by rw[sA,hj];rfl
 have e2:l.take (j+2)=l.take j++[y,x]:=by rw[sA,hx,e1,B8];rfl
 rw[e1,e2,aDH]
theorem aDI{x:α}:∀{l:List α},x∈dd l↔x∈l
 |[]=>Iff.rfl
 |[a]=>Iff.rfl
 |a::b::l=>by
  rw[Lc];have ih:=aDI (x:=x) (l:=b::l);split
  ·rename_i h;subst h;rw[ih];simp
  ·rw[b9,ih];simp
def jT(l:List α)(j:Nat):List α:=dd (l.take j)++l.drop (dd (l.take j)).length
def iX(l:List α)(j:Nat):Nat:=(dd (l.take j)).length
theorem PT(l:List α):∀ j,iX l j<=j/\iX l j<=l.length
 |0=>by simp[iX,dd]
 |1=>by
  cases l with
  |nil=>simp[iX,dd]
  |cons a l=>simp[iX,dd]
 |j+2=>by
  have ih:=PT l (j+1);rcases eU (j+1) l.length with h|h
  ·have hy:l[j]?=some l[j]:=aW o_;have hx:l[j+1]?=some l[j+1]:=aW h;have:=PS hy hx;unfold iX at ih ⊢;rw[this];split
   ·omega
   ·rw[jM,KA];omega
  ·have:l.take (j+2)=l.take (j+1):=by rw[j0 h,j0 o_]
   unfold iX at ih ⊢;rw[this];omega
theorem aDJ(l:List α)(j:Nat):(jT l j).length=l.length:=by have:=(PT l j).2;unfold iX at this;unfold jT;rw[jM,u7];omega
theorem aDK{l:List α}(h:iX l j<=i):(jT l j)[i]?=l[i]?:=by
 unfold iX at h;unfold jT;rw[D8 h,DZ]
 congr 1;omega
theorem PU{l:List α}{x:α}(hj:l[j]?=some x)(hx:l[j+1]?=some x):jT l (j+2)=jT l (j+1)/\iX l (j+2)=iX l (j+1):=by unfold jT iX;rw[PS hj hx,au rfl];exact⟨rfl,rfl⟩
theorem aDL{l:List α}{x y:α}(hj:l[j]?=some y)(hx:l[j+1]?=some x)(bd:y≠x)(hd:iX l (j+1)<l.length):(jT l (j+1)).set (iX l (j+1)) x=jT l (j+2)/\iX l (j+2)=iX l (j+1)+1:=by
 unfold jT iX at *;rw[PS hj hx,al bd];refine⟨?_,by rw[jM];rfl⟩;rw[UH _ _ (bh _),vo,jM,KA,B8]
 congr 1
 rw[aBS hd];rfl
theorem VY{l:List α}:∀(j:Nat),(∀ i x,i+1<j->l[i]?=some x->l[i+1]?≠some x)->j<=l.length->dd (l.take j)=l.take j
 |0,_,_=>rfl
 |1,_,_=>by
  cases l with
  |nil=>rfl
  |cons a l=>rfl
 |j+2,h,hl=>by
  have ih:=VY (j+1) (λi x hi=>h i x o_) o_;have hy:l[j]?=some l[j]:=aW o_;have hx:l[j+1]?=some l[j+1]:=aW o_;rw[PS hy hx,al (λe=>h j _ o_ hy (by rw[hx,e])),ih];have e:l.take (j+2)=l.take (j+1)++[l[j+1]]:=by rw[sA,hx];rfl
  exact e.symm
theorem aDM(l:List α):∀ n,n<=l.length->(∀ i x,i+1<n->l[i]?=some x->l[i+1]?≠some x)\/∃ e x,e+1<n/\l[e]?=some x/\l[e+1]?=some x/\∀ i x,i+1<e+1->l[i]?=some x->l[i+1]?≠some x
 |0,_=>.inl λi x h=>by omega
 |1,_=>.inl λi x h=>by omega
 |n+2,hn=>by
  rcases aDM l (n+1) o_ with h|⟨e,x,h1,h2,h3,h4⟩
  ·have hy:l[n]?=some l[n]:=aW o_;have hx:l[n+1]?=some l[n+1]:=aW o_;by_cases he:l[n]=l[n+1]
   ·exact .inr ⟨n,l[n],by omega,hy,by rw[hx,he],h⟩
   ·refine .inl λi x hi Ah=>?_;rcases eU (i+1) (n+1)with h1|h1
    ·exact h i x h1 Ah
    ·have:i=n:=by omega
     subst this;rw[hy]at Ah;injection Ah with Ah;rw[hx,<-Ah];intro e;injection e with e;exact he e.symm
  ·exact .inr ⟨e,x,by omega,h2,h3,h4⟩
theorem aDN{β:Type}[DecidableEq β]{f:α->β}(hf:∀ a b,f a=f b->a=b):∀ l:List α,dd (l.map f)=(dd l).map f
 |[]=>rfl
 |[a]=>rfl
 |a::b::l=>by
  have ih:=aDN hf (b::l);rw[qE,qE,Lc,Lc];rw[qE]at ih;by_cases h:a=b
  ·subst h;rw[au rfl,au rfl,ih]
  ·rw[al h,al (λe=>h (hf _ _ e)),ih];rfl
end
section
variable{Bs:ae}{l:List RV}
def Ld:RI:=⟨false,[]⟩
def H9:RN:=⟨Ld,Ld,Ld,Ld,Ld⟩
def sJ:RV:=⟨H9,H9,H9⟩
def FM(n i:Nat):aM:=[(3,vI i),(0,sl 1 n)]
def lh(l:List RV):aE:=[(1,.row (cO l) 42 30)]
def aPC(k a n:Nat):Value:=.slice (some ⟨k,a*30,some 7⟩) n a
def Le(n e d k:Nat):aM:=[(5,vI k),(4,aPC 1 e (n-e)),(3,vI d),(0,sl 1 n)]
theorem stV{l:List RV}{y:RV}(hi:i<l.length):eT prog 42 (cO l) (i*30) y.v=some (cO (l.set i y)):=aLG gp k_ hi
theorem aDO{n:Nat}{x y:RV}(hi:i+1<n)(h63:n<4611686018427387904)(hy:l[i]?=some y)(hx:l[i+1]?=some x)(xA:y.Sm)(nC:x.Sm)(bd:x≠y):
  af prog Bs 61 (aF (ag f91 0)) (FM n (i+1)) (lh l) 2 ⟨.normal,FM n (i+1+1),lh l,2⟩:=
 az [.lt 13 (i+1) n true (aC hi),.df f91 18 1 n (i+1) 30 hi k_,.ld f91 19 42 1 ((i+1)*30) (.row (cO l) 42 30) x.v rfl (sn hx) k_,.eW 22 (i+1) 1 i rfl o_,.df f91 23 1 n i 30 o_ k_,.ld f91 24 42 1 (i*30) (.row (cO l) 42 30) y.v rfl (sn hy) k_,.step 25 (ay f91 25) [x.v,y.v] [] a_ [] (EZ (neg:=true) k_ x y nC xA (by simp[bd])),.sum 15 (i+1) 1 (i+1+1) rfl o_]
theorem aPD{n:Nat}:af prog Bs 61 (aF (ag f91 0)) (FM n n) (lh l) 2 ⟨.exit 0,[(0,sl 1 n)],lh l,2⟩:=
 az [.lt 13 n n false s_]
noncomputable def aDP{n:Nat}{r:List RV}{x y:RV}(hk:k+1<n-e)(hj:e+k=j)(h63:n<4611686018427387904)(hy:r[j]?=some y)(hx:r[j+1]?=some x)(xA:y.Sm)(nC:x.Sm)(ht:(!t)=true↔x=y)(more:bH prog Bs 61):bH prog Bs 61:=
 .lt 32 (k+1) (n-e) true (aC hk)::.ph f91 37 1 e (n-e) e (k+1) (j+1) 30 hk o_ k_::.ld f91 38 42 1 ((j+1)*30) (.row (cO r) 42 30) x.v rfl (sn hx) k_::.eW 41 (k+1) 1 k rfl o_::
  .ph f91 42 1 e (n-e) e k j 30 o_ hj k_::.ld f91 43 42 1 (j*30) (.row (cO r) 42 30) y.v rfl (sn hy) k_::.step 44 (ay f91 44) [x.v,y.v] [] (.bool t) [] (EZ (neg:=false) k_ x y nC xA ht)::more
theorem aPE{n:Nat}(hl:l.length=n)(hk:e+1+k+1<n)(h63:n<4611686018427387904)(qk:∀ x∈l,x.Sm)(hd:d=iX l (e+1+k+1))(hde:d<=e+1+k):
  af prog Bs 61 (aF (ag f91 2)) (Le n (e+1) d (k+1)) (lh (jT l (e+1+k+1))) 2 ⟨.normal,Le n (e+1) (iX l (e+1+k+2)) (k+1+1),lh (jT l (e+1+k+2)),2⟩:=by
 have hy:l[e+1+k]?=some l[e+1+k]:=aW o_;have hx:l[e+1+k+1]?=some l[e+1+k+1]:=aW o_;have NR:(jT l (e+1+k+1))[e+1+k]?=some l[e+1+k]:=by rw[aDK o_];exact hy
 have th:(jT l (e+1+k+1))[e+1+k+1]?=some l[e+1+k+1]:=by rw[aDK o_];exact hx
 have sy:=qk _ (cN hy);have sx:=qk _ (cN hx);by_cases h:l[e+1+k]=l[e+1+k+1]
 ·obtain⟨q1,q2⟩:=PU hy (by rw[hx,h]);rw[q1,q2,<-hd];exact az (aDP (t:=false) o_ rfl h63 NR th sy sx (by simp[h]) [.sum 34 (k+1) 1 (k+1+1) rfl o_])
 ·have ao:iX l (e+1+k+1)<l.length:=by omega
  obtain⟨q1,q2⟩:=aDL hy hx h ao;rw[<-hd]at q1 q2 ao;have bK:=stV (l:=jT l (e+1+k+1)) (i:=d) (y:=l[e+1+k+1]) (by rw[aDJ];exact ao);rw[q1]at bK;rw[q2];generalize l[e+1+k+1]=x at *;generalize l[e+1+k]=y at *;generalize jT l (e+1+k+1)=r at *;generalize jT l (e+1+k+2)=r' at *;exact az (aDP (t:=true) o_ rfl h63 NR th sy sx (by simp;exact λe=>h e.symm) [.ph f91 49 1 (e+1) (n-(e+1)) (e+1) (k+1) (e+1+k+1) 30 o_ o_ k_,.ld f91 50 42 1 ((e+1+k+1)*30) (.row (cO r) 42 30) x.v rfl (sn th) k_,.df f91 51 1 n d 30 o_ k_,.st f91 100051 42 1 (d*30) (.row (cO r) 42 30) x.v (.row (cO r') 42 30) rfl bK rfl k_,.sum 53 d 1 (d+1) rfl o_,.sum 34 (k+1) 1 (k+1+1) rfl o_])
theorem aPF{n:Nat}{r:List RV}(he:e<=n):af prog Bs 61 (aF (ag f91 2)) (Le n e d (n-e)) (lh r) 2 ⟨.exit 2,[(3,vI d),(0,sl 1 n)],lh r,2⟩:=
 az [.lt 32 (n-e) (n-e) false s_]
theorem aPG{n:Nat}{x:RV}(hl:l.length=n)(he:e+1<n)(h63:n<4611686018427387904)(qk:∀ x∈l,x.Sm)(hy:l[e]?=some x)(hx:l[e+1]?=some x)(fJ:dd (l.take (e+1))=l.take (e+1)):
  af prog Bs 61 (.block 2 (ag f91 2)) (Le n (e+1) (e+1) 1) (lh l) 2 ⟨.normal,[(3,vI (dd l).length),(0,sl 1 n)],lh (jT l n),2⟩/\(dd l).length<n:=by
 have h0:iX l (e+1)=e+1:=by unfold iX;rw[fJ,jn];omega
 have h1:iX l (e+2)=e+1:=by rw[(PU hy hx).2,h0]
 have gj:jT l (e+2)=l:=by rw[(PU hy hx).1];unfold jT;rw[fJ];rw[jn,nh o_,KQ]
 have vh:∀ k,e+1+k+1<n->iX l (e+1+k+2)<=iX l (e+1+k+1)+1:=λk hk=>by
  have a:l[e+1+k]?=some l[e+1+k]:=aW o_;have b:l[e+1+k+1]?=some l[e+1+k+1]:=aW o_;by_cases h:l[e+1+k]=l[e+1+k+1]
  ·have:=(PU a (by rw[b,h])).2;omega
  ·have:=(aDL a b h (by have:=(PT l (e+1+k+1)).1;omega)).2;omega
 have Ec:∀ k,e+1+k<n->iX l (e+1+k+1)<=e+1+k:=by
  intro k;induction k with
  |zero=>intro _;show iX l (e+2)<=_;omega
  |succ k ih=>
   intro hk;have a:=ih o_;have b:=vh k o_;show iX l (e+1+k+2)<=_;omega
 have aU:iX l n=(dd l).length:=by unfold iX;rw[j0 o_]
 refine⟨?_,?_⟩
 ·have:=ck (P:=prog) (B:=Bs) (N:=61) (b:=aF (ag f91 2)) (next:=2) (n-(e+1)-1) (λk=>Le n (e+1) (iX l (e+1+k+1)) (k+1)) (λk=>lh (jT l (e+1+k+1)))
   (r:=⟨.exit 2,[(3,vI (dd l).length),(0,sl 1 n)],lh (jT l n),2⟩) (λi k _=>jO (l:=lh (jT l (e+1+i+1))) (m:=lh (jT l (e+1+0+1))) rfl k)
   (λk hk=>aPE hl o_ h63 qk rfl (Ec k o_))
   (by
    have e1:e+1+(n-(e+1)-1)+1=n:=by omega
    have e2:n-(e+1)-1+1=n-(e+1):=by omega
    simp only[e1,e2,aU];exact aPF o_) n_
  have h2:=bO (id:=2) this;simp only[jL,ja,h1,gj]at h2;exact h2
 ·have:=Ec (n-(e+1)-1) o_;rw[show e+1+(n-(e+1)-1)+1=n by omega,aU]at this;omega
def Ia(l:List RV):List RV:=dd l++List.replicate (l.length-(dd l).length) sJ
theorem aDQ{l:List RV}(h:dd l=l):Ia l=l:=by unfold Ia;rw[h];simp
theorem aPH(qk:∀ x∈l,x.Sm)(h63:l.length<4611686018427387904):zk prog 91 2 [sl 1 l.length] (lh l) [] (sl 1 (dd l).length) (lh (Ia l)):=by
 by_cases h2:l.length<2
 ·have hd:dd l=l:=by
   cases l with
   |nil=>rfl
   |cons a l=>cases l with
    |nil=>rfl
    |cons b l=>simp at h2;omega
  rw[aDQ hd,hd];exact oK mixed func91 100 (N:=61) k_ (λ_=>[.lt 8 l.length 2 true (aC h2)]) (λ_=>k_)
 ·have ao:(Value.bool (decide ((l.length:Int)<(2:Int))))=.bool false:=by simp;omega
  rcases aDM l l.length (bh _)with h|⟨e,x,h3,h4,h5,h6⟩
  ·have hd:dd l=l:=by have:=VY l.length h (bh _);rwa[mN]at this
   rw[aDQ hd,hd];generalize hn:l.length=n at *;have lo:∀ B:ae,af prog B 61 (.block 0 (ag f91 0)) (FM n 1) (lh l) 2 ⟨.normal,[(0,sl 1 n)],lh l,2⟩:=λB=>by
    have:=ck (P:=prog) (B:=B) (N:=61) (b:=aF (ag f91 0)) (next:=2) (n-1) (λi=>FM n (i+1)) (λ_=>lh l) (r:=⟨.exit 0,[(0,sl 1 n)],lh l,2⟩) (λi k _=>Iff.rfl)
     (λi hi=>by have hy:l[i]?=some l[i]:=aW o_;have hx:l[i+1]?=some l[i+1]:=aW o_;exact aDO o_ h63 hy hx (qk _ (cN hy)) (qk _ (cN hx)) λe=>h i _ o_ hy (by rw[hx,e]))
     (by rw[show n-1+1=n by omega];exact aPD) n_
    exact bO (id:=0) this
   exact oK mixed func91 100 (N:=61) k_ (λB=>[.rw 8 _ _ ao,.code 0 _ _ _ _ _ (lo B)]) (λ_=>k_)
  ·have fJ:dd (l.take (e+1))=l.take (e+1):=VY (e+1) h6 o_;have sx:=qk _ (cN h4);generalize hn:l.length=n at *;have hz:ct RV.cs (List.replicate (n-(dd l).length) sJ)=(Builtin.zeroCells (sJ.v).cells (n-(dd l).length)).toList:=(aMK gp rfl d_ _).symm;unfold Ia;rw[hn];have cx:=λB=>aPG (Bs:=B) hn h3 h63 qk h4 h5 fJ;have Nl:=(cx (ae.at default)).2;have Fe:jT l n=dd l++l.drop (dd l).length:=by unfold jT;rw[j0 o_]
   have aPI:iN (cO (jT l n)) ((dd l).length*30) (Builtin.zeroCells (sJ.v).cells (n-(dd l).length)).toList=cO (dd l++List.replicate (n-(dd l).length) sJ):=by rw[<-hz,Fe];show iN (ct RV.cs (dd l++l.drop (dd l).length)) _ _=ct RV.cs _;rw[Ky,Ky];have:=OV (ct RV.cs (List.replicate (n-(dd l).length) sJ)) (ct RV.cs (dd l)) (ct RV.cs (l.drop (dd l).length)) 0;rw[sk gp,ja]at this;rw[this];have h2:=UI (ct RV.cs (List.replicate (n-(dd l).length) sJ)) (ct RV.cs (l.drop (dd l).length)) [] (by rw[sk gp,sk gp,u7,HX,hn]);rw[gY,gY]at h2;rw[h2]
   have hlen:(dd l).length*30+(n-(dd l).length)*(sJ.v).cells.size<=(cO (jT l n)).length:=by rw[sk gp,aDJ,hn,show(sJ.v).cells.size=30 from rfl,<-fp];exact eZ _ o_
   generalize jT l n=r at *;generalize (dd l++List.replicate (n-(dd l).length) sJ)=r' at *;generalize (dd l).length=d at *;have lo:∀ B:ae,af prog B 61 (.block 0 (ag f91 0)) (FM n 1) (lh l) 2 ⟨.ret,[(2,sl 1 d)],lh r',2⟩:=λB=>by
    have:=ck (P:=prog) (B:=B) (N:=61) (b:=aF (ag f91 0)) (next:=2) e (λi=>FM n (i+1)) (λ_=>lh l) (r:=⟨.ret,[(2,sl 1 d)],lh r',2⟩) (λi k _=>Iff.rfl)
     (λi hi=>by have hy:l[i]?=some l[i]:=aW o_;have hx:l[i+1]?=some l[i+1]:=aW o_;exact aDO o_ h63 hy hx (qk _ (cN hy)) (qk _ (cN hx)) λe=>h6 i _ o_ hy (by rw[hx,e]))
     (az [.lt 13 (e+1) n true (aC h3),.df f91 18 1 n (e+1) 30 h3 k_,.ld f91 19 42 1 ((e+1)*30) (.row (cO l) 42 30) x.v rfl (sn h5) k_,.eW 22 (e+1) 1 e rfl o_,.df f91 23 1 n e 30 o_ k_,.ld f91 24 42 1 (e*30) (.row (cO l) 42 30) x.v rfl (sn h4) k_,.step 25 (ay f91 25) [x.v,x.v] [] b_ [] (EZ (neg:=true) k_ x x sx sx s_),.behind f91 28 1 n (e+1) (n-(e+1)) 30 o_ o_ k_,.code 2 _ _ _ _ _ (cx B).1,.behind f91 56 1 n d (n-d) 30 o_ o_ k_,.clear f91 99999 1 (d*30) (n-d) d 42 30 sJ.v (cO r) (cO r') d_ o_ hlen aPI k_,.upto f91 59 1 n d 30 o_ k_]) n_
    exact bO (id:=0) this
   exact oK mixed func91 100 (N:=61) k_ (λB=>[.rw 8 _ _ ao,.code 0 _ _ _ _ _ (lo B)]) (λ_=>k_)
end
section
open Go.Shelf
def aDR:Go.Shelf.Ren:=⟨λ| 6=>89|15=>114|14=>138|28=>170|29=>171|20=>191|21=>192|22=>193|23=>194|24=>195|25=>196|26=>197|27=>198|46=>223|47=>208|48=>209|49=>224|50=>225|57=>238|n=>n,λ| 22=>25|24=>42|25=>106|3=>3|39=>124|0=>0|53=>172|55=>118|4=>4|46=>166|45=>165|50=>159|5=>5|9=>9|66=>194|70=>198|76=>211|77=>212|n=>n,λ| n=>n⟩
theorem aPJ:Go.Proofs.SlLaysF0.n6 prog aDR:={
 mixed:=by kernel_rfl
 f6:=⟨f89.name,by decide,func89.trans (ch some k_)⟩
 f14:=⟨f138.name,by decide,func138.trans (ch some k_)⟩
 f15:=func114.trans (ch some k_)
 f20:=⟨f191.name,by decide,func191.trans (ch some k_)⟩
 f21:=⟨f192.name,by decide,func192.trans (ch some k_)⟩
 f22:=⟨f193.name,by decide,func193.trans (ch some k_)⟩
 f23:=⟨f194.name,by decide,func194.trans (ch some k_)⟩
 f24:=⟨f195.name,by decide,func195.trans (ch some k_)⟩
 f25:=⟨f196.name,by decide,func196.trans (ch some k_)⟩
 f26:=⟨f197.name,by decide,func197.trans (ch some k_)⟩
 f27:=⟨f198.name,by decide,func198.trans (ch some k_)⟩
 f28:=func170.trans (ch some k_)
 f29:=func171.trans (ch some k_)
 f46:=⟨f223.name,by decide,func223.trans (ch some k_)⟩
 f47:=func208.trans (ch some k_)
 f48:=func209.trans (ch some k_)
 f49:=⟨f224.name,by decide,func224.trans (ch some k_)⟩
 f50:=⟨f225.name,by decide,func225.trans (ch some k_)⟩
 f57:=⟨f238.name,by decide,func238.trans (ch some k_)⟩
 t0:=Tryz.underlying0
 a0:=isAgg0
 z0:=sizeOf0
 v0:=Tryz.zeroValue0
 t3:=Tryz.underlying3
 a3:=isAgg3
 z3:=sizeOf3
 v3:=Tryz.zeroValue3
 t4:=Tryz.underlying4
 a4:=isAgg4
 z4:=sizeOf4
 v4:=Tryz.zeroValue4
 t5:=Tryz.underlying5
 a5:=isAgg5
 z5:=sizeOf5
 v5:=Tryz.zeroValue5
 t9:=Tryz.underlying9
 a9:=isAgg9
 z9:=sizeOf9
 v9:=Tryz.zeroValue9
 t22:=Tryz.underlying25
 a22:=isAgg25
 z22:=sizeOf25
 v22:=Tryz.zeroValue25
 t25:=Tryz.underlying106
 a25:=isAgg106
 z25:=sizeOf106
 v25:=Tryz.zeroValue106
 t39:=Tryz.underlying124
 a39:=isAgg124
 z39:=sizeOf124
 v39:=Tryz.zeroValue124
 t45:=Tryz.underlying165
 a45:=isAgg165
 z45:=sizeOf165
 v45:=Tryz.zeroValue165
 t46:=Tryz.underlying166
 a46:=isAgg166
 z46:=sizeOf166
 v46:=Tryz.zeroValue166
 t50:=Tryz.underlying159
 a50:=isAgg159
 z50:=sizeOf159
 v50:=Tryz.zeroValue159
 t53:=Tryz.underlying172
 a53:=isAgg172
 z53:=sizeOf172
 v53:=Tryz.zeroValue172
 t55:=Tryz.underlying118
 a55:=isAgg118
 z55:=sizeOf118
 v55:=Tryz.zeroValue118
 t66:=Tryz.underlying194
 a66:=isAgg194
 z66:=sizeOf194
 v66:=Tryz.zeroValue194
 t70:=Tryz.underlying198
 a70:=isAgg198
 z70:=sizeOf198
 v70:=Tryz.zeroValue198
 t76:=Tryz.underlying211
 a76:=isAgg211
 z76:=sizeOf211
 v76:=Tryz.zeroValue211
 t77:=Tryz.underlying212
 a77:=isAgg212
 z77:=sizeOf212
 v77:=Tryz.zeroValue212 }
end
section
open CR OF
section
variable{F:Type}[OF F]
def sK(u v:V3 F):Bool:=decide (dW u v≠1)
theorem Ib{u v:V3 F}:sK u v=true↔jH u v\/u=v:=by unfold sK jH;rw[qU,<-Kr];rcases HF u v with h|h|h<;>rw[h]<;>decide
theorem aDS(u v w:V3 F)(h:sK u v=true)(k:sK v w=true):sK u w=true:=by
 rw[Ib]at *;rcases h with h|rfl
 ·rcases k with k|rfl
  ·exact .inl (Ks h k)
  ·exact .inl h
 ·exact k
theorem aPK(u v:V3 F):(sK u v||sK v u)=true:=by
 rw[rH,Ib,Ib];rcases HF u v with h|h|h
 ·exact .inl (.inl h)
 ·exact .inl (.inr (Kr.1 h))
 ·exact .inr (.inl (Ku h))
theorem aPL{u v:V3 F}(h:sK u v=true)(k:sK v u=true):u=v:=by
 rw[Ib]at h k;rcases h with h|h
 ·rcases k with k|k
  ·exact absurd (OM h k) id
  ·exact k.symm
 ·exact h
def rj(l:List (V3 F)):List (V3 F):=l.mergeSort sK
theorem Lf(l:List (V3 F)):(rj l).Perm l:=List.mergeSort_perm l sK
theorem aDT(l:List (V3 F)):(rj l).Pairwise λu v=>sK u v=true:=List.pairwise_mergeSort aDS aPK l
theorem aPM{l d:List (V3 F)}(hp:d.Perm l)(hs:d.Pairwise λu v=>sK u v=true):d=rj l:=
 List.Perm.eq_of_pairwise (λ_ _ _ _=>aPL) hs (aDT l) (hp.trans (Lf l).symm)
theorem aDU{α:Type}[DecidableEq α]:∀(a:α) (l:List α),∃ m,dd (a::l)=a::m
 |a,[]=>⟨[],rfl⟩
 |a,b::l=>by
  rw[Lc];by_cases h:a=b
  ·subst h;rw[au rfl];exact aDU a l
  ·rw[al h];exact⟨_,rfl⟩
theorem aDV[DecidableEq (V3 F)]:∀{l:List (V3 F)},(l.Pairwise λu v=>sK u v=true)->(dd l).Pairwise jH
 |[],_=>aBM
 |[a],_=>aBq ..
 |a::b::l,h=>by
  have h':=(sj.1 h).2;have ih:=aDV h';rw[Lc];by_cases bW:a=b
  ·rw[au bW];exact ih
  ·rw[al bW];refine sj.2 ⟨λx hx=>?_,ih⟩;have ao:jH a b:=(Ib.1 ((sj.1 h).1 b (aL ..))).resolve_right bW;obtain⟨m,hm⟩:=aDU b l;rw[hm]at hx ih;rcases b9.1 hx with rfl|hx
   ·exact ao
   ·exact Ks ao ((sj.1 ih).1 x hx)
theorem aDW[DecidableEq (V3 F)](l:List (V3 F)):dd (rj l)=Kv l:=
 Uy (aDV (aDT l)) (UA l) λx=>by rw[aDI,Uz,(Lf l).mem_iff]
end
end
section
open V3 (dot aw cI smul)
open Go.Sort (SWO)
theorem aPN{q:HS K}(bP:∀ p∈ps,bB m p)(hp:bB m p)(hq:bB m q)(lG:dX p q≠0->dot (dX p q) (dX p q)≠0):∀ v∈qY ps p q,aG (10000*(m+10)) v:=by
 intro v hv;unfold qY Fm at hv;have hD:=UP hp hq;by_cases h0:dX p q=0
 ·rw[au h0]at hv;cases hv
 ·rw[al h0]at hv;obtain⟨r,hr⟩:∃ r,r=300*m+1000:=⟨_,rfl⟩;have hB:aG r (vL p q):=hr▸aB1 hp hq h0 (lG h0);have Fp:aG r (dX p q):=hD.mono o_;obtain⟨zl,zh⟩:=O3 (m:=m) (q:=r) (z:=24*(m+r)+m+200) hB Fp o_ ps ⟨none,none⟩ bP n_ n_;have key:∀ t,Sz (24*(m+r)+m+200) t->aG (10000*(m+10)) (vL p q+smul (dX p q) t):=λt ht=>(hB.add (Fp.smul ht)).mono o_;unfold KC at hv;split at hv
  ·rename_i x y he;split at he
   ·split at he
    ·rename_i l h e1 e2;injection he with he;injection he with f1 f2;subst f1;subst f2;simp only[b9,fv,fA]at hv;rcases hv with rfl|rfl
     ·exact key _ (zl _ e1)
     ·exact key _ (zh _ e2)
    ·cases he
   ·cases he
  ·cases hv
theorem aDX(bP:∀ p∈ps,bB m p)(lG:∀ p q:HS K,dX p q≠0->dot (dX p q) (dX p q)≠0)(n:Nat):∀ v∈mR ps n,aG (10000*(m+10)) v:=by
 intro v hv;unfold mR at hv;rw[Bt]at hv;obtain⟨i,_,hv⟩:=hv;unfold KH at hv;split at hv
 ·rename_i p hp;unfold lf at hv;rw[Bt]at hv;obtain⟨q,hq,hv⟩:=hv;exact aPN bP (bP p (cN hp)) (bP q (Fo hq)) (lG p q) v hv
 ·cases hv
structure VS(m:Nat) where
 v:V3 K
 sz:aG m v
theorem VS.ext'{m:Nat}{a b:VS m}(h:a.v=b.v):a=b:=by cases a;cases b;cases h;rfl
def PV(v:VS m):ah:=(cJ v.v).cs
theorem VZ:qd (PV (m:=m)) 30:=⟨λ_=>gp.len _,λ_=>gp.flat _,λ_=>gp.one _⟩
theorem V0(h:1<=m):aG m (⟨kI 0,kI 0,kI 0⟩:V3 K):=Kw.mono h
def Lg(u v:VS m):Bool:=Go.Proofs.ltOf (λa b:VS m=>dW a.v b.v) u v
theorem V1{u v:VS m}:Lg u v=true↔jH u.v v.v:=by show decide (dW u.v v.v<0)=true↔dW u.v v.v=-1;rw[qU];rcases HF u.v v.v with h|h|h<;>rw[h]<;>decide
theorem aDY{u v:VS m}:Lg u v=false↔sK v.v u.v=true:=by
 rw[FE,ne_eq,V1,Ib];rcases HF u.v v.v with h|h|h
 ·exact⟨λk=>absurd h k,λk _=>by
   rcases k with k|k
   ·exact OM h k
   ·rw[k]at h;exact C7 _ h⟩
 ·have:=Kr.1 h;exact⟨λ_=>.inr this.symm,λ_ k=>by rw[this]at k;exact C7 _ k⟩
 ·exact⟨λ_=>.inl (Ku h),λ_ k=>OM k (Ku h)⟩
theorem aPO:SWO (Lg (m:=m)) where
 irrefl x:=by rw[FE,ne_eq,V1];exact C7 _
 trans x y z h k:=by rw[V1]at *;exact Ks h k
 ntrans x y z h k:=by rw[aDY]at *;exact aDS _ _ _ k h
theorem aDZ(h:fW prog f=true):∀ args w,(callFunc f args).run prog w=.ok (.enter f args) w:=λargs w=>Md h args w
def Ic:Value:=.func (.func 90) #[] #[]
theorem aPP(cS:1<=m)(hm:8*m+24<=aA)(l:List (VS m))(h63:l.length<4611686018427387904):
  letI:Inhabited (VS m):=⟨⟨_,V0 cS⟩⟩
  UZ prog 89 Ic PV 30 Lg l:=by
 letI:Inhabited (VS m):=⟨⟨_,V0 cS⟩⟩
 intro aI cap w hH hblk
 have:=aPQ (P:=prog) (ρ:=aDR) aPJ 30 isAgg42 sizeOf42 (PV (m:=m)) VZ.len VZ.one (λa b=>dW a.v b.v) aPO 90 #[] aI 0 cap l.toArray w
  (aDZ k_) (aCl (λx y=>UC x.sz y.sz o_) aI _ _ w) hH hblk (by simpa using h63)
 have e:l.toArray.size=l.length:=by simp
 rw[e]at this;exact this
theorem aPR:aD prog 191 [.slice none 0 0,vI 0,vI 0,Ic] (.tuple #[]):=aZ func191 (λ_=>[])
theorem aPS:aD prog 138 [.slice none 0 0,vI 0,vI 0,vI 0,Ic] (.tuple #[]):=aZ func138 (λ_=>[aPR.at 30])
theorem aPT:aD prog 171 [.int .u64 0] (vI 0):=aZ func171 (λ_=>[])
theorem aPU:aD prog 114 [.int .u64 0] (vI 0):=aZ func114 (λ_=>[aPT.at 7])
theorem aPV:aD prog 89 [.slice none 0 0,Ic] (.tuple #[]):=aZ func89 (λ_=>[aPU.at 11,aPS.at 13])
theorem aPW{l:e_}(cS:1<=m)(hm:8*m+24<=aA)(hl:∀ v∈l,aG m v)(h63:l.length<4611686018427387904)(ho:di o.op=some x)(k:Nat):
  cz prog Bs o [.func (.func 89) #[] #[],sl k l.length,Ic] [(k,some (.row (aX l) 42 30))] (.tuple #[]) [(k,.row (aX (rj l)) 42 30)]:=by
 letI:Inhabited (VS m):=⟨⟨_,V0 cS⟩⟩
 have hex:∀ l:e_,(∀ v∈l,aG m v)->∃ l2:List (VS m),l2.map VS.v=l:=by
  intro l;induction l with
  |nil=>exact λ_=>⟨[],rfl⟩
  |cons a l ih=>
   intro h;obtain⟨l2,h2⟩:=ih λv hv=>h v (bw _ hv);exact⟨⟨a,h a (aL ..)⟩::l2,by rw[qE,h2]⟩
 obtain⟨l2,h2⟩:=hex l hl;obtain⟨l3,h3⟩:=hex (rj l) λv hv=>hl v ((Lf l).mem_iff.1 hv);have Uq:∀ a b:VS m,a.v=b.v->a=b:=λa b h=>VS.ext' h;have iO:∀ l2:List (VS m),ct PV l2=aX (l2.map VS.v):=by intro l2;unfold aX cO ct;rw[List.map_map,List.flatMap_map];rfl
 have hlen:l2.length=l.length:=by rw[<-h2,fk]
 have:=aCn (P:=prog) (B:=Bs) (l:=l2) (l':=l3) (o:=o) (x:=x) (ty:=42) (lt:=Lg) (g:=Ic) VZ d_ (aPP cS hm l2 o_) k_ ho k_ k (λ_=>aPV) λd hd hs=>by
  have aPX:∀ a b:List (VS m),a.map VS.v=b.map VS.v->a=b:=by intro a b h;exact List.map_inj_right (λx y=>Uq x y) |>.1 h
  refine aPX _ _ ?_;rw[h3];refine aPM ?_ ?_
  ·rw[<-h2];exact hd.map _
  ·rw[List.pairwise_map,Lh];intro i j hi hj nK;have:=hs i j nK hj _ _ (aW hi) (aW hj);exact aDY.1 this
 rw[iO,iO,h2,h3,hlen]at this;exact this
theorem V2(hm:10000000*(m+10)<=aA):1<=10000*(m+10)/\8*(10000*(m+10))+24<=aA/\10000*(m+10)<=aA:=by omega
def cQ(ps:c_):e_:=Kv (mR ps ps.length)
theorem aD0(l:e_):dd (l.map cJ)=(dd l).map cJ:=aDN (λ_ _ h=>OO h) l
theorem aPY(bP:∀ p∈ps,bB m p)(hm:10000000*(m+10)<=aA)(h63:ps.length<=500)(lG:∀ p q:HS K,dX p q≠0->dot (dX p q) (dX p q)≠0):
  kL prog 46 [fF ps] 42 30 (cQ ps).length (aX (cQ ps)):=by
 have ax:([fF ps].all aK.ok)=true:=by simp only[eY,fO,fF,aK.ok,dh,iM]
 have bE:=aDX bP lG ps.length;have hl:=O9 ps.length (bh _) (ps:=ps);have ll:ps.length*(2*ps.length)<=500*1000:=Cr o_ o_;have lg:(mR ps ps.length).length<=500000:=dc hl ll;clear hl ll;have lo:=λBs=>aMs (Bs:=Bs) bP hm h63 lG;have hv:cQ ps=dd (rj (mR ps ps.length)):=(aDW _).symm;rw[hv];generalize mR ps ps.length=l at *;obtain⟨b1,b2,b3⟩:=V2 hm;have st:=λBs (o:Oper) x ho=>aPW (Bs:=Bs) (o:=o) (x:=x) (l:=l) (m:=10000*(m+10)) b1 b2 bE (eX lg d_) ho 1;have hp:=Lf l;have FF:(rj l).length=l.length:=hp.length_eq;have dF:=aPH (l:=(rj l).map cJ) (λx hx=>by obtain⟨v,hv,rfl⟩:=de.1 hx;exact(bE v (hp.mem_iff.1 hv)).sm b3) (by rw[fk,FF];exact eX lg d_)
 rw[fk,FF,aD0,fk]at dF;have hz:∃ t,cO (Ia ((rj l).map cJ))=aX (dd (rj l))++cO t:=⟨_,by unfold Ia;rw[aD0];exact Ky _ _⟩;obtain⟨t,hz⟩:=hz;unfold lh at dF;rw[hz]at dF;change zk prog _ 2 _ [(1,.row (aX (rj l)) 42 30)] _ _ _ at dF;have hlen:(aX (dd (rj l))).length=(dd (rj l)).length*30:=tC _;generalize dd (rj l)=d at *;generalize hS:rj l=s at *;intro w vs cx;obtain⟨ι,c,h1,h2,h3,h4,h5,h6,h7⟩:=xm cx (aY.1 ax) 0 _ _ (sZ w) n_ (λ_ _=>rfl);refine uc (ms:=[(1,.row (aX d++cO t) 42 30)]) (v:=sl 1 d.length) mixed func46 (N:=42) k_ 100 (rs:=[.code 0 _ _ _ _ _ (lo _),.step 39 (ay Tryz.f46 39) _ _ _ _ (st _ _ (.func 89) k_),.step 41 (ay Tryz.f46 41) _ _ _ _ (OT (args:=[sl 1 l.length]) (ca:=[]) (x:=.func 91) dF k_ k_ k_ k_ ?_ ?_ k_ k_ k_ k_)]) k_ h6 h2 h4 h3 λav bX v' w' hle hc hm dG=>⟨v',rfl,?_,hm.base⟩
 ·show((Nat.blt 1 2&&l4 2 (1,.row (aX s) 42 30))&&true)=true;rw[zq (x:=.row (aX s) 42 30) λv hv=>aY.1 (eD s) v hv];rfl
 ·show(l4 2 (1,.row (aX d++cO t) 42 30)&&true)=true;rw[zq (x:=.row (aX d++cO t) 42 30) λv hv=>(eA.1 hv).elim (λh=>aY.1 (eD d) v h) λh=>HI gp t v h];rfl
 ·have:=vk hm (dG (1,_) (aL ..)) hc (by rw[jM];omega) λv hv=>by
   rcases eA.1 hv with h|h
   ·exact aY.1 (eD d) v h
   ·exact HI gp t v h
  rwa[<-hlen,QQ]at this;rfl
end
section
open V3 (dot aw cI smul)
theorem Li(l:l_):∀ v∈ak l,v.oneCell'=true:=λv hv=>by obtain⟨x,_,rfl⟩:=de.1 hv;rfl
theorem aPZ(l m:l_):ak l++ak m=ak (l++m):=by simp[ak]
theorem PW{l:l_}(h:l.length=0):ak l=[]:=by rw[kA h];rfl
def FN(l:l_):aK:=.r l.length (ak l)
theorem V4(l:l_):(FN l).ok=true:=hY l
theorem aP0{l:l_}(hl:0<l.length)(h63:l.length<=1000000):kL prog 146 [FN l] 3 1 l.length (ak l):=
 yY (k:=2) mixed func146 (by simp only[eY,fO,V4,iM]) 100 (N:=8) k_ (λ_=>[.step 4 (ay f146 4) [sl 0 l.length,.slice none 0 0] [] a_ [] (aCh k_ hl),.KO f146 5 1 3 1 (vI 0) k_,.pP f146 7 2 1 0 l.length l.length 3 1 8 [] 0 (.view (ak l)) (ak l) o_ rfl (by rw[gn];exact nD l) rfl rfl (Li l) d_ (by simp[maxLen];omega) o_ k_]) (λ_=>k_) (hY l) (by rw[nD];omega)
theorem DC(ps:c_):(bf ps).length=ps.length*40:=by unfold bf;rw[sk iL,fk]
theorem aD1(ps:c_):∀ v∈bf ps,v.oneCell'=true:=λv hv=>by unfold bf db ct at hv;rw[Bt]at hv;obtain⟨x,_,hx⟩:=hv;exact iL.one x v hx
theorem aP1(hl:0<ps.length)(h63:ps.length<=1000000):kL prog 48 [fF ps] 66 40 ps.length (bf ps):=
 yY (k:=2) mixed func48 (by simp only[eY,fO,fF,aK.ok,dh,iM]) 100 (N:=8) k_ (λ_=>[.step 4 (ay Tryz.f48 4) [sl 0 ps.length,.slice none 0 0] [] a_ [] (aCh k_ hl),.KO Tryz.f48 5 1 66 40 (RP.v ⟨sJ,H9⟩) k_,.pP Tryz.f48 7 2 1 0 ps.length ps.length 66 40 480 [] 0 (.view (bf ps)) (bf ps) o_ rfl (DC ps) rfl rfl (aD1 ps) d_ (by simp[maxLen];omega) o_ k_]) (λ_=>k_) (dh ps) (DC ps)
def nF(l:l_)(i:Nat):List Nat:=(List.range l.length).map λt=>if t<i\/l.length<=t+i then l.getD (l.length-1-t) 0 else l.getD t 0
theorem V5(l:l_)(i:Nat):(nF l i).length=l.length:=by simp[nF]
theorem aP2(l:l_):nF l 0=l:=by
 apply wK
 ·simp[nF]
 ·intro t h1 h2;have:¬(l.length<=t):=by omega
  simp[nF,this,h2]
theorem aD2{l:l_}{t:Nat}(h1:i<=t)(h2:t+i<l.length):(nF l i)[t]?=some (l.getD t 0):=by
 have:¬(t<i\/l.length<=t+i):=by omega
 simp[nF,show t<l.length by omega,this]
theorem aP3{l:l_}(h:i+(i+1)<l.length):((nF l i).set i (l.getD (l.length-1-i) 0)).set (l.length-1-i) (l.getD i 0)=nF l (i+1):=by
 apply wK
 ·simp[nF]
 ·intro t h1 h2;rw[V5]at h2;rw[Gq,Gq];simp only[nF,Ce,Cf];by_cases e1:l.length-1-i=t
  ·subst e1;rw[au rfl,au o_]
   congr 1;omega
  ·rw[al e1];by_cases e2:i=t
   ·subst e2;rw[au rfl,au o_]
   ·rw[al e2];by_cases e3:t<i\/l.length<=t+i
    ·rw[au e3,au o_]
    ·rw[al e3,al o_]
theorem aP4{l:l_}(h:l.length<=i+(i+1))(h2:i+i<=l.length):nF l i=l.reverse:=by
 apply wK
 ·simp[nF]
 ·intro t h1 h3;rw[V5]at h1;rw[List.getElem_reverse];simp only[nF,Ce,Cf];split
  ·rw[D7,aW o_];rfl
  ·have:t=l.length-1-t:=by omega
   rw[D7,aW o_];simp only[Option.getD_some]
   congr 1
section
variable{Bs:ae}{l:l_}
def PX(n i:Nat):aM:=[(2,vI i),(3,vI (n-1-i)),(0,sl 5 n)]
def xT(l:l_):aE:=[(5,.row (ak l) 3 1)]
theorem aP5{n:Nat}(hn:l.length=n)(hi:i+(i+1)<n)(h63:n<4611686018427387904):
  af prog Bs 28 (aF (ag f147 0)) (PX n i) (xT (nF l i)) 6 ⟨.normal,PX n (i+1),xT (nF l (i+1)),6⟩:=by
 have g1:=aD2 (l:=l) (i:=i) (t:=n-1-i) o_ o_;have g2:=aD2 (l:=l) (i:=i) (t:=i) o_ o_;have hlen:=V5 l i;have vh:=aP3 (l:=l) (i:=i) o_;rw[hn]at vh hlen;generalize l.getD (n-1-i) 0=y at *;generalize l.getD i 0=x at *;generalize nF l i=r at *;rw[<-vh];have s1:=vQ (l:=r) (i:=i) (d:=y) o_;have s2:=vQ (l:=r.set i y) (i:=n-1-i) (d:=x) (by rw[Vq];omega);exact az [.lt 9 i (n-1-i) true (by simp;omega),.ix f147 20 5 n (n-1-i) o_ k_,.ld f147 21 3 5 (n-1-i) (.row (ak r) 3 1) (vI y) rfl (dP g1) k_,.ix f147 24 5 n i o_ k_,.ld f147 25 3 5 i (.row (ak r) 3 1) (vI x) rfl (dP g2) k_,.ix f147 26 5 n i o_ k_,.st f147 100026 3 5 i (.row (ak r) 3 1) (vI y) (.row (ak (r.set i y)) 3 1) rfl s1 rfl k_,.ix f147 27 5 n (n-1-i) o_ k_,.st f147 100027 3 5 (n-1-i) (.row (ak (r.set i y)) 3 1) (vI x) (.row (ak ((r.set i y).set (n-1-i) x)) 3 1) rfl s2 rfl k_,.sum 11 i 1 (i+1) rfl o_,.eW 13 (n-1-i) 1 (n-1-(i+1)) o_ o_]
theorem aP6{n:Nat}(hn:l.length=n)(h0:0<n)(h63:n<4611686018427387904):
  af prog Bs 28 (.block 0 (ag f147 0)) (PX n 0) (xT l) 6 ⟨.normal,[],xT l.reverse,6⟩:=by
 have uB:l.reverse=nF l (n/2):=(aP4 o_ o_).symm
 have:=ck (P:=prog) (B:=Bs) (N:=28) (b:=aF (ag f147 0)) (next:=6) (n/2) (λi=>PX n i) (λi=>xT (nF l i)) (r:=⟨.exit 0,[],xT l.reverse,6⟩) (λi k _=>jO (l:=xT (nF l i)) (m:=xT (nF l 0)) rfl k)
  (λi hi=>aP5 hn o_ h63)
  (by rw[<-uB];generalize l.reverse=r;exact az [.lt 9 (n/2) (n-1-n/2) false (by simp;omega)]) n_
 rw[aP2]at this;exact bO (id:=0) this
theorem aP7{l:l_}(h0:0<l.length)(h63:l.length<=1000000):zk prog 147 6 [sl 5 l.length] (xT l) [] (.tuple #[]) (xT l.reverse):=
 oK mixed func147 100 (N:=28) k_ (λB=>[.eW 6 l.length 1 (l.length-1) o_ o_,.code 0 _ _ _ _ _ (aP6 rfl h0 o_)]) (λ_=>k_)
end
theorem V6(ps:c_):(fF ps).ok=true:=dh ps
theorem aD3(vs:e_):(uH vs).ok=true:=eD vs
theorem aP8(vs:e_):(aK.b vs.length (aX vs)).ok=true:=eD vs
theorem aP9(v:V3 K):(aK.q (cJ v).cs).ok=true:=aY.2 (RV.nw _)
theorem aQa(v:V3 K):(aK.p (bN v)).ok=true:=rfl
theorem aUC(p:HS K):(aK.p (dp p)).ok=true:=rfl
def aP(vs:e_)(i:Nat):V3 K:=(vs[i]?).getD 0
theorem lj{vs:e_}(h:i<vs.length):vs[i]?=some (aP vs i):=by unfold aP;rw[aW h];rfl
theorem aD4{x:K}:0<x↔OF.aB x>0:=by rw[OF.iz];rcases OF.iH x with h|h|h<;>rw[h]<;>decide
def xU(n:V3 K)(pt:Nat->V3 K)(p:Nat):List Nat->Nat
 |b::a::st=>if 0<turn n (pt a) (pt b) (pt p)then 0 else xU n pt p (a::st)+1
 |_=>0
theorem PY(n:V3 K)(pt:Nat->V3 K)(p:Nat):∀ st:List Nat,pop n pt p st=st.drop (xU n pt p st)
 |[]=>rfl
 |[a]=>rfl
 |b::a::st=>by
  unfold pop xU;split
  ·rfl
  ·exact PY n pt p (a::st)
theorem aD5(n:V3 K)(pt:Nat->V3 K)(p:Nat):∀(st:l_) (d:Nat),d<xU n pt p st->∃ b a e8,st.drop d=b::a::e8/\¬0<turn n (pt a) (pt b) (pt p)
 |[],d,h=>by simp[xU]at h
 |[a],d,h=>by simp[xU]at h
 |b::a::st,d,h=>by
  unfold xU at h;split at h
  ·omega
  ·rename_i ht;cases d with
   |zero=>exact⟨b,a,st,rfl,ht⟩
   |succ d=>exact aD5 n pt p (a::st) d o_
theorem aD6(n:V3 K)(pt:Nat->V3 K)(p:Nat):∀(st:l_),(∃ b a e8,st.drop (xU n pt p st)=b::a::e8/\0<turn n (pt a) (pt b) (pt p))\/(st.drop (xU n pt p st)).length<=1
 |[]=>.inr (kB _)
 |[a]=>.inr (bh _)
 |b::a::st=>by
  unfold xU;split
  ·rename_i ht;exact .inl ⟨b,a,st,rfl,ht⟩
  ·exact aD6 n pt p (a::st)
section
variable{Bs:ae}{vs:e_}{nn:V3 K}{l:l_}
def oM(l:l_)(vs:e_)(nn:V3 K):aE:=[(0,.view (ak l)),(1,.view (aX vs)),(2,.view [sl 1 vs.length]),(3,.view (cJ nn).cs)]
def lL(st:l_):List Obj:=[.row (ak st.reverse) 3 1]
def DD(p L:Nat):aM:=[(7,vI p),(5,sl 4 L),(1,bZ 2),(2,bZ 3)]
def PZ(n i L:Nat):aM:=[(12,vI i),(10,sl 0 n),(11,vI n),(5,sl 4 L),(1,bZ 2),(2,bZ 3)]
theorem aD7(hm:4<=m):∀ x∈oM l vs nn,fH m x.2:=λx hx=>by
 simp only[oM,b9,fv,fA]at hx;rcases hx with rfl|rfl|rfl|rfl
 ·exact λv hv=>iF (mh l v hv)
 ·exact λv hv=>iF (aY.1 (eD vs) v hv)
 ·intro v hv;have:v=sl 1 vs.length:=by simpa[Obj.cells]using hv
  subst this;show Gk m ⟨1,0,some 7⟩=true;unfold Gk;simp;omega
 ·exact λv hv=>iF (RV.nw _ v hv)
theorem aQb{st:l_}:∀ x∈lL st,fH m x:=λx hx=>by simp only[lL,b9,fv,fA]at hx;subst hx;exact λv hv=>iF (mh _ v hv)
theorem aD8(hm:5<=m){st:l_}:∀ x∈oM l vs nn++marks 4 (lL st),fH m x.2:=λx hx=>by
 rcases eA.1 hx with h|h
 ·exact aD7 o_ x h
 ·simp only[lL,marks,b9,fv,fA]at h;subst h;exact λv hv=>iF (mh _ v hv)
noncomputable def hiS{p L:Nat}{r:l_}(hL:r.length=L+2)(ha:r[L]?=some a)(hb:r[L+1]?=some b)(kP:a<vs.length)(kY:b<vs.length)(rk:p<vs.length)(aN:∀ v∈vs,aG q v)(hn:aG m nn)(hm:100*(m+q)+1000<=aA)(h63:L<1000000)
  (ht:decide (OF.aB (turn nn (aP vs a) (aP vs b) (aP vs p))>0)=t) (more:bH prog Bs 66):bH prog Bs 66:=
 have sa:=aN _ (cN (lj kP));have sb:=aN _ (cN (lj kY));have sp:=aN _ (cN (lj rk))
 .gt 18 (L+2) 1 true s_::.eW 23 (L+2) 2 L rfl o_::.ix f145 24 4 (L+2) L o_ k_::.ld f145 25 3 4 L (.row (ak r) 3 1) (vI a) rfl (dP ha) k_::
  .df f145 26 1 vs.length a 30 kP k_::.ld f145 27 42 1 (a*30) (.view (aX vs)) (bN (aP vs a)) rfl (nW (lj kP)) k_::.eW 32 (L+2) 1 (L+1) rfl o_::.ix f145 33 4 (L+2) (L+1) o_ k_::
  .ld f145 34 3 4 (L+1) (.row (ak r) 3 1) (vI b) rfl (dP hb) k_::.df f145 35 1 vs.length b 30 kY k_::.ld f145 36 42 1 (b*30) (.view (aX vs)) (bN (aP vs b)) rfl (nW (lj kY)) k_::
  (Bp sb sa o_).at 40::.df f145 43 1 vs.length p 30 rk k_::.ld f145 44 42 1 (p*30) (.view (aX vs)) (bN (aP vs p)) rfl (nW (lj rk)) k_::(Bp sp sa o_).at 46::
  (vG (sb.sub sa) (sp.sub sa) o_).at 47::(uG hn ((sb.sub sa).aw (sp.sub sa)) o_).at 48::(nA (hn.dot ((sb.sub sa).aw (sp.sub sa))) o_).at 49::
  .rw 50 (.bool (decide (OF.aB (dot nn (aw (aP vs b-aP vs a) (aP vs p-aP vs a)))>0))) (.bool t) (by rw[<-ht];rfl)::more
theorem aD9{st e8:l_}(h:st=b::a::e8):st.reverse.length=e8.length+2/\st.reverse[e8.length]?=some a/\st.reverse[e8.length+1]?=some b/\st.reverse.take (e8.length+1)=(a::e8).reverse:=by
 subst h;have e:(b::a::e8).reverse=e8.reverse++[a,b]:=by simp
 rw[e];refine⟨by simp,?_,?_,?_⟩
 ·rw[D8 s_];simp
 ·rw[D8 s_];simp
 ·rw[aBR];simp[j0]
theorem aEa(l:l_)(m:Nat):(ak l).take (m*1)=ak (l.take m):=by rw[gn];simp[ak,Cd]
theorem aQc{st e8:l_}{p:Nat}(bK:st=b::a::e8)(aU:∀ x∈st,x<vs.length)(rk:p<vs.length)(aN:∀ v∈vs,aG q v)(hn:aG m nn)(hm:100*(m+q)+1000<=aA)(h63:st.length<1000000)
  (ht:¬0<turn nn (aP vs a) (aP vs b) (aP vs p)):af prog Bs 66 (aF (ag f145 2)) (DD p st.length) (oM l vs nn++marks 4 (lL st)) 5 ⟨.normal,DD p (a::e8).length,oM l vs nn++marks 4 (lL (a::e8)),5⟩:=by
 obtain⟨r1,r2,r3,r4⟩:=aD9 bK;have kP:=aU a (by rw[bK];simp);have kY:=aU b (by rw[bK];simp);have hl:st.length=e8.length+2:=by rw[bK];rfl
 have hd:decide (OF.aB (turn nn (aP vs a) (aP vs b) (aP vs p))>0)=false:=aO λh=>ht (aD4.2 h);have FG:(ak st.reverse).take ((e8.length+1)*1)=ak (a::e8).reverse:=by rw[aEa,r4]
 have du:=aD8 (l:=l) (vs:=vs) (nn:=nn) (m:=5) (bh _) (st:=a::e8);unfold lL at *;rw[hl]at h63 ⊢;rw[show(a::e8).length=e8.length+1 from rfl];generalize st.reverse=r at *;generalize (a::e8).reverse=r' at *;exact ue mixed 100 (fY:=7) (hiS r1 r2 r3 kP kY rk aN hn hm o_ hd [.eW 54 (e8.length+2) 1 (e8.length+1) rfl o_,.cut f145 55 4 (e8.length+2) (e8.length+1) ((e8.length+1)*1) 1 1 3 (ak r) (ak r') o_ FG k_]) k_ rfl k_ du k_
theorem aQd{st:l_}{p:Nat}(aU:∀ x∈st,x<vs.length)(rk:p<vs.length)(aN:∀ v∈vs,aG q v)(hn:aG m nn)(hm:100*(m+q)+1000<=aA)(h63:st.length<1000000)
  (h:(∃ b a e8,st=b::a::e8/\0<turn nn (aP vs a) (aP vs b) (aP vs p))\/st.length<=1):af prog Bs 66 (aF (ag f145 2)) (DD p st.length) (oM l vs nn++marks 4 (lL st)) 5 ⟨.exit 2,DD p st.length,oM l vs nn++marks 4 (lL st),5⟩:=by
 have du:=aD8 (l:=l) (vs:=vs) (nn:=nn) (m:=5) (bh _) (st:=st);rcases h with ⟨b,a,e8,bK,ht⟩|h
 ·obtain⟨r1,r2,r3,r4⟩:=aD9 bK;have kP:=aU a (by rw[bK];simp);have kY:=aU b (by rw[bK];simp);have hl:st.length=e8.length+2:=by rw[bK];rfl
  have hd:decide (OF.aB (turn nn (aP vs a) (aP vs b) (aP vs p))>0)=true:=aC (aD4.1 ht);unfold lL at *;rw[hl]at h63 ⊢;generalize st.reverse=r at *;exact ue mixed 100 (fY:=7) (hiS r1 r2 r3 kP kY rk aN hn hm o_ hd []) k_ rfl k_ du k_
 ·exact az [.gt 18 st.length 1 false (by simp;omega)]
theorem aEb{st:l_}{n:Nat}(h:∀ x∈st,x<n):∀ x∈st.drop d,x<n:=λx hx=>h x (V7 hx)
theorem aQe{st:l_}{p:Nat}(aU:∀ x∈st,x<vs.length)(rk:p<vs.length)(aN:∀ v∈vs,aG q v)(hn:aG m nn)(hm:100*(m+q)+1000<=aA)(h63:st.length<1000000):
  af prog Bs 66 (.block 2 (ag f145 2)) (DD p st.length) (oM l vs nn++marks 4 (lL st)) 5 ⟨.normal,DD p (pop nn (aP vs) p st).length,oM l vs nn++marks 4 (lL (pop nn (aP vs) p st)),5⟩:=by
 have hlen:∀ d,(st.drop d).length<1000000:=λd=>by rw[u7];omega
 have:=ck (P:=prog) (B:=Bs) (N:=66) (b:=aF (ag f145 2)) (next:=5) (xU nn (aP vs) p st) (λd=>DD p (st.drop d).length) (λd=>oM l vs nn++marks 4 (lL (st.drop d)))
  (r:=⟨.exit 2,DD p (pop nn (aP vs) p st).length,oM l vs nn++marks 4 (lL (pop nn (aP vs) p st)),5⟩) (λi k _=>jO (l:=oM l vs nn++marks 4 (lL (st.drop i))) (m:=oM l vs nn++marks 4 (lL (st.drop 0))) rfl k)
  (λd hd=>by
   obtain⟨b,a,e8,h1,h2⟩:=aD5 nn (aP vs) p st d hd;have h3:st.drop (d+1)=a::e8:=by rw[<-MT,h1];rfl
   rw[h3];exact aQc h1 (aEb aU) rk aN hn hm (hlen d) h2)
  (by rw[PY];exact aQd (aEb aU) rk aN hn hm (hlen _) (aD6 nn (aP vs) p st)) n_
 exact bO (id:=2) this
def bK(nn:V3 K)(vs:e_)(l:l_)(i:Nat):List Nat:=half nn (aP vs) (l.take i)
theorem aEc{p:Nat}(h:l[i]?=some p):bK nn vs l (i+1)=p::pop nn (aP vs) p (bK nn vs l i):=by unfold bK half;rw[sA,h,Option.toList,O7];rfl
theorem aQf(n:V3 K)(pt:Nat->V3 K)(p:Nat)(st:l_):∀ x∈pop n pt p st,x∈st:=λx hx=>by rw[PY]at hx;exact V7 hx
theorem aEd(n:V3 K)(pt:Nat->V3 K)(p:Nat)(st:l_):(pop n pt p st).length<=st.length:=by rw[PY,u7];omega
theorem Lj:∀ i,i<=l.length->(∀ x∈bK nn vs l i,x∈l)/\(bK nn vs l i).length<=i
 |0,_=>⟨λx hx=>by simp[bK,half]at hx,bh _⟩
 |i+1,h=>by
  obtain⟨h1,h2⟩:=Lj i o_;have hp:l[i]?=some l[i]:=aW o_;rw[aEc hp];refine⟨λx hx=>?_,?_⟩
  ·rcases b9.1 hx with rfl|hx
   ·exact dK o_
   ·exact h1 x (aQf _ _ _ _ x hx)
  ·have:=aEd nn (aP vs) l[i] (bK nn vs l i);rw[nL];omega
theorem aQg{p:Nat}{st:l_}(hi:i<l.length)(hp:l[i]?=some p)(aU:∀ x∈st,x<vs.length)(rk:p<vs.length)(aN:∀ v∈vs,aG q v)(hn:aG m nn)(hm:100*(m+q)+1000<=aA)(h63:st.length<900000)(pq:l.length<1000000):
  af prog Bs 66 (aF (ag f145 0)) (PZ l.length i st.length) (oM l vs nn++marks 4 (lL st)) 5
   ⟨.normal,fm 4 [some 6] (PZ l.length (i+1) (p::pop nn (aP vs) p st).length),oM l vs nn++dj [some 6] (lL (p::pop nn (aP vs) p st)),7⟩:=by
 have lo:=aQe (Bs:=Bs) (l:=l) aU rk aN hn hm (show st.length<1000000 by omega);have FF:=aEd nn (aP vs) p st;generalize pop nn (aP vs) p st=r at *;have hr:ak r.reverse++[vI p]=ak (p::r).reverse:=by simp[ak]
 have DE:(ak r.reverse).length=r.length*1:=by rw[nD,FO,gn]
 have h1:=Li r.reverse;unfold lL at *;rw[show(p::r).length=r.length+1 from rfl];generalize st.reverse=s0 at *;generalize ak r.reverse=c0 at *;generalize ak (p::r).reverse=c1 at *;exact az [.lt 13 i l.length true (aC hi),.ix f145 14 0 l.length i hi k_,.ld f145 15 3 0 i (.view (ak l)) (vI p) rfl (dP hp) k_,.code 2 _ _ _ _ _ lo,.bs f145 58 5 1 3 1 [0] (vI 0) [vI p] #[vI p] (.row [vI p] 3 1) rfl (λv hv=>by simp at hv;subst hv;rfl) (λv hv=>by simp at hv;subst hv;rfl) k_ rfl d_ d_ k_,.pP f145 59 6 4 r.length 1 (r.length+1) 3 1 8 c0 5 (.row [vI p] 3 1) c1 rfl rfl rfl DE hr (λv hv=>by simp[Obj.cells]at hv;subst hv;rfl) d_ (by simp[maxLen];omega) o_ k_,.sum 60 i 1 (i+1) rfl o_]
theorem aQh(aU:∀ x∈l,x<vs.length)(aN:∀ v∈vs,aG q v)(hn:aG m nn)(hm:100*(m+q)+1000<=aA)(h63:l.length<900000):
  af prog Bs 66 (.block 0 (ag f145 0)) (fm 4 [none] (PZ l.length 0 0)) (oM l vs nn++dj [none] (lL [])) 4 ⟨.normal,[(5,sl 4 (half nn (aP vs) l).length)],oM l vs nn++marks 4 (lL (half nn (aP vs) l)),5⟩:=by
 have Dq:bK nn vs l l.length=half nn (aP vs) l:=by unfold bK;rw[mN]
 have:=rT (P:=prog) (B:=Bs) (N:=66) (b:=aF (ag f145 0)) (next:=4) (p:=1) (r:=⟨.exit 0,[(5,sl 4 (half nn (aP vs) l).length)],oM l vs nn++marks 4 (lL (half nn (aP vs) l)),5⟩) l.length
  (λi=>PZ l.length i (bK nn vs l i).length) (λ_=>oM l vs nn) (λi=>lL (bK nn vs l i)) [none] (λ_ _=>rfl) (λj _=>⟨aD7 (bh _),aQb⟩) k_ k_
  (λi hi=>by have hp:l[i]?=some l[i]:=aW hi;obtain⟨f1,f2⟩:=Lj (nn:=nn) (vs:=vs) (l:=l) i o_;refine⟨[some 6],7,k_,?_⟩;rw[aEc hp];exact aQg hi hp (λx hx=>aU x (f1 x hx)) (aU _ (dK hi)) aN hn hm o_ o_)
  (by rw[Dq];generalize half nn (aP vs) l=a;exact az [.lt 13 l.length l.length false s_]) n_
 exact bO (id:=0) this
theorem aQi(nn:V3 K)(pt:Nat->V3 K){l:l_}(h:l≠[]):half nn pt l≠[]:=by
 have:∀(l st:l_),st≠[]->l.foldl (λst p=>p::pop nn pt p st) st≠[]:=by
  intro l;induction l with
  |nil=>exact λ_ h=>h
  |cons a l ih=>exact λst _=>ih _ n_
 cases l with
 |nil=>exact absurd rfl h
 |cons a l=>exact this l _ n_
def j8(nn:V3 K)(vs:e_)(l:l_):List Nat:=(half nn (aP vs) l).tail.reverse
theorem aEe(sV:0<l.length)(aU:∀ x∈l,x<vs.length)(aN:∀ v∈vs,aG q v)(hn:aG m nn)(hm:100*(m+q)+1000<=aA)(h63:l.length<900000):
  kL prog 145 [FN l,.b vs.length (aX vs),.q (cJ nn).cs] 3 1 (j8 nn vs l).length (ak (j8 nn vs l)):=by
 have ax:([FN l,.b vs.length (aX vs),.q (cJ nn).cs].all aK.ok)=true:=by simp only[eY,fO,V4,aP8,aP9,zo]
 have lo:=λBs=>aQh (Bs:=Bs) aU aN hn hm h63;have bd:=aQi nn (aP vs) (l:=l) (λe=>by rw[e]at sV;cases sV);have hlen:(half nn (aP vs) l).length<=l.length:=by have:=(Lj (nn:=nn) (vs:=vs) (l:=l) l.length (bh _)).2;unfold bK at this;rwa[mN]at this
 unfold j8;cases hh:half nn (aP vs) l with
 |nil=>exact absurd hh bd
 |cons a st=>
  rw[hh]at lo hlen;simp only[List.tail_cons,FO];have FG:(ak (a::st).reverse).take (st.length*1)=ak st.reverse:=by rw[aEa,vC,QQ s_]
  unfold lL at lo;rw[show(a::st).length=st.length+1 from rfl]at lo hlen;have hx:=hY st.reverse;have V8:(ak st.reverse).length=st.length*1:=by rw[nD,FO,gn]
  generalize ak (a::st).reverse=c0 at *;generalize ak st.reverse=c1 at *;exact yY (k:=4) mixed func145 ax 100 (N:=66) k_ (λ_=>[.code 0 _ _ _ _ _ (lo _),.eW 64 (st.length+1) 1 st.length rfl o_,.cut f145 65 4 (st.length+1) st.length (st.length*1) 1 1 3 c0 c1 o_ FG k_]) (λ_=>k_) hx V8
end
theorem aEf(nn:V3 K)(vs:e_)(l:l_):order nn (aP vs) l=j8 nn vs l++j8 nn vs l.reverse:=rfl
theorem V9{vs:e_}{nn:V3 K}{l:l_}(sV:0<l.length)(aU:∀ x∈l,x<vs.length)(aN:∀ v∈vs,aG q v)(hn:aG m nn)(hm:100*(m+q)+1000<=aA)(h63:l.length<900000):
  kL prog 98 [uH vs,FN l,.p (bN nn)] 3 1 (order nn (aP vs) l).length (ak (order nn (aP vs) l)):=by
 have ax:([uH vs,FN l,.p (bN nn)].all aK.ok)=true:=by simp only[eY,fO,V4,aD3,aQa,zo]
 have h1:=aEe sV aU aN hn hm h63;have h2:=aEe (l:=l.reverse) (by simpa using sV) (λx hx=>aU x (Km.1 hx)) aN hn hm (by simpa using h63);have hc:=aP0 sV o_;have hr:=aP7 sV o_;rw[aEf];have e1:ak (j8 nn vs l)++ak (j8 nn vs l.reverse)=ak (j8 nn vs l++j8 nn vs l.reverse):=aPZ _ _;have bE:∀ l:List Nat,(∀ x∈l,x∈l)->(j8 nn vs l).length<=l.length:=λl _=>by have:=(Lj (nn:=nn) (vs:=vs) (l:=l) l.length (bh _)).2;unfold bK at this;rw[mN]at this;unfold j8;rw[FO,List.length_tail];omega
 have s1:=bE l λ_ h=>h;have s2:=bE l.reverse λ_ h=>h;have g1:=nD (j8 nn vs l);have g2:=nD (j8 nn vs l.reverse);have o2:=Li (j8 nn vs l.reverse);have f3:=hY (j8 nn vs l++j8 nn vs l.reverse);have g3:=nD (j8 nn vs l++j8 nn vs l.reverse);have f1:=hY (j8 nn vs l);have f2:=hY (j8 nn vs l.reverse);rw[jM]at g3 ⊢;rw[FO]at s2;have hb:∀{l:l_},l.length=0->(Obj.view (ak l)).cells=[]:=λh=>PW h;unfold xT at hr;have aEg:l.reverse.length=l.length:=FO ..;unfold FN at h2;rw[aEg]at h2;have ir:l.length=0->ak l.reverse=[]:=λh=>PW (by rw[aEg];exact h);have irf:=hY l.reverse;generalize (j8 nn vs l).length=a1 at *;generalize (j8 nn vs l.reverse).length=a2 at *;generalize ak (j8 nn vs l++j8 nn vs l.reverse)=i3 at *;generalize ak (j8 nn vs l)=i1 at *;generalize ak (j8 nn vs l.reverse)=i2 at *;generalize ak l.reverse=lr at *;exact yY (k:=7) mixed func98 ax 100 (N:=23) k_ (λ_=>[
  .step 13 (ay f98 13) [.func (.func 145) #[] #[bZ 2,bZ 3],sl 1 l.length] [(4,none),(1,some (.view (ak l))),(2,some (.aI [sl 0 vs.length] 25)),(0,some (.view (aX vs))),(3,some (.aI (cJ nn).cs 42))] (sl 4 a1) [(4,.row i1 3 1)]
   (aCz (vs:=[sl 1 l.length]) (ca:=[bZ 2,bZ 3]) h1 (.w (x:=.view (ak l)) rfl (hY l) hb (.b (x:=.view (aX vs)) (y:=.aI [sl 0 vs.length] 25) (cc:=0) rfl rfl rfl (eD vs) xz (.q (x:=.aI (cJ nn).cs 42) rfl (aY.2 (RV.nw _)) .nil))) (x:=.tmp 11) k_ k_ f1 4),
  .step 15 (ay f98 15) [.func (.func 146) #[] #[],sl 1 l.length] [(5,none),(1,some (.view (ak l)))] (sl 5 l.length) [(5,.row (ak l) 3 1)]
   (r8 hc (.w (x:=.view (ak l)) rfl (hY l) hb .nil) (x:=.func 146) k_ k_ (hY l) 5),
  .step 17 (ay f98 17) [.func (.func 147) #[] #[],sl 5 l.length] [(5,some (.row (ak l) 3 1))] (.tuple #[]) [(5,.row lr 3 1)]
   (OT (args:=[sl 5 l.length]) (ca:=[]) (x:=.func 147) hr k_ k_ k_ k_ (by
    show((Nat.blt 5 6&&l4 6 (5,.row (ak l) 3 1))&&true)=true;rw[zq (x:=.row (ak l) 3 1) λv hv=>mh l v hv];rfl) (by
    show(l4 6 (5,.row lr 3 1)&&true)=true;rw[zq (x:=.row lr 3 1) λv hv=>aY.1 irf v hv];rfl) k_ k_ k_ k_),.step 21 (ay f98 21) [.func (.func 145) #[] #[bZ 2,bZ 3],sl 5 l.length] [(6,none),(5,some (.row lr 3 1)),(2,some (.aI [sl 0 vs.length] 25)),(0,some (.view (aX vs))),(3,some (.aI (cJ nn).cs 42))] (sl 6 a2) [(6,.row i2 3 1)]
   (aCz (vs:=[sl 5 l.length]) (ca:=[bZ 2,bZ 3]) h2 (.w (x:=.row lr 3 1) rfl irf ir (.b (x:=.view (aX vs)) (y:=.aI [sl 0 vs.length] 25) (cc:=0) rfl rfl rfl (eD vs) xz (.q (x:=.aI (cJ nn).cs 42) rfl (aY.2 (RV.nw _)) .nil))) (x:=.tmp 19) k_ k_ f2 6),
  .pP f98 22 7 4 a1 a2 (a1+a2) 3 1 8 i1 6 (.row i2 3 1) i3 rfl rfl (by rw[gn];exact g2) (by rw[gn];exact g1) e1 o2 d_ (by simp[maxLen];omega) o_ k_]) (λ_=>k_) f3 (by rw[gn];exact g3)
end
end Go.Proofs.YthccllenbnhogaaGreatDoor
