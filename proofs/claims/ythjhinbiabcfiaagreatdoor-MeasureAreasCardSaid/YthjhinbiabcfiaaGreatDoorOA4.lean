/- Ends and areas: the proof of MeasureAreasCardSaid (the law's function answers true at every solid, direction and number; theorem measureAreas_card, last part), part 4 of 7; no condition. -/
import Derived.Test.YthjhinbiabcfiaaGreatDoorOA3
namespace Go.Proofs.YthjhinbiabcfiaaGreatDoor
open Go Go.RowKit Tryz
abbrev e_:=List (V3 K)
abbrev c_:=List (HS K)
variable{i m k a q b j size e d off cc k1 n2 k2 A U a1 m1 m2:Nat}{w w':h_}{ι:Map}{p:HS K}{o:Oper}{c:g_}{f:FuncId}{Bs:aa}{x:K}{t:Bool}{ps:c_}{ty:TypeId}{xs vs:ah}{fn:Func}{l:List aL}{u va:i_}{r:RN}{z:Int}
section
variable{P:j_}{B:aa}{N:Nat}
def aU.next(fn:Func)(key k z n s:Nat)(h0:0<n)(ho:su P (aA fn key)=some (true,false,s)):aU P B N:=
 .step key (aA fn key) [.slice (some ⟨k,z*s,some 7⟩) (n+1) z,vI 1] [] (.slice (some ⟨k,(z+1)*s,some 7⟩) n (z+1)) [] (by have:=Hd (B:=B) ho (k:=k) (off:=z*s) (n:=n+1) (cc:=z) (l:=1) (h:=n+1) n_ (λ_=>rfl) o_ (bA _) (.inl o_);rw[<-fF,NZ]at this;simpa using this)
theorem aNY{s:Nat}(ho:su P o=some (true,false,s)){n:Nat}{x:Obj}(hx:x.owns=true)(j:Nat):
  cA P B o [.slice (some ⟨k,off,some 7⟩) n cc,vI n] [(j,none),(k,some x)] (.slice (some ⟨j,0,some 7⟩) 0 0) [(j,.view []),(k,.dead)]:=by
 unfold su at ho;split at ho
 ·rename_i t y lo hi bY;split at ho
  ·rename_i e ht;split at ho
   ·rename_i i gy;injection ho with ho;injection ho with h1 ho;injection ho with h2 h3;cases lo with
    |none=>cases h1
    |some yl=>
    cases hi with
    |some yh=>cases h2
    |none=>
    refine iC.step λι c ρ w aQ hm hn=>?_;have hj:c j=none:=hn (j,none) s_;have hk:c k=some x:=hn (k,some x) s_;rw[bY]at aQ;obtain⟨u,u2,hu,hc,dq⟩:=js aQ;have dS:ρ y=u:=by simp[Op.operands]at hu;exact hu.1
    have eX:ρ yl=u2:=by simp[Op.operands]at hu;exact hu.2
    have dq:=dq.fk rfl;have G4:=hm.kill k (by rw[hk];exact n_);have fK:bh c k .dead j=none:=by unfold bh;rw[ao (λe=>by subst e;rw[hj]at hk;cases hk)];exact hj
    have LI:∀ y code,n<=y->(Instr.sliceBound (.int .i64 n) y code).run P w=.ok n w:=by intro y code hq;have:(0:Int)<=n/\(n:Int)<=y:=⟨by omega,by omega⟩;simp[Instr.sliceBound,asIntOf,this]
    rcases hc.hZ rfl with ⟨hb,kz,qf,yM,he⟩|⟨b,oo,cap,c',hb,lJ,mL,he⟩
    ·refine⟨dR ι j .nil,.slice none 0 0,w,gN (hm.dJ j hj),.slcN (fP _ _ _),G4.add fK (.inl ⟨rfl,rfl⟩) n_ n_ n_,.inl ?_⟩;subst kz;have kX:∀ code,(Instr.sliceBound (.int .i64 0) 0 code).run P w=.ok 0 w:=λcode=>by simp[Instr.sliceBound,asIntOf]
     simp only[execOp,bY];simp[Instr.sliceAt,jF ht,Instr.slice,dS,eX,dq,he,vI,Instr.sliceBounds,kX,sizeOf,typeInfo,gy]
    ·dsimp only at hb he;obtain⟨o1,xn⟩:∃ o1,o1=(if c'=n then oo+off else oo+off+n*i.size):=⟨_,rfl⟩;have iB:=hm.own k x b oo cap hk hx hb;refine⟨dR ι j (.at b o1 (c'-n)),.slice (some ⟨b,o1+0,none⟩) 0 (c'-n),w,gN (hm.dJ j hj),.slc (fP _ _ _) (jH _) (ko _),G4.add fK (.inr ⟨b,o1,c'-n,[],rfl,.nil,λj u h=>by simp at h⟩) n_ n_ (λb1 o2 lG _ e=>?_),.inl ?_⟩
     ·injection e with e1 e2 e3;subst e1;refine⟨iB.1,λq y o' bE hq hy AO=>?_⟩;unfold bh at hq;by_cases wQ:q=k
      ·rw[ax wQ]at hq;injection hq with hq;subst hq;cases hy
      ·rw[ao wQ]at hq;exact wQ (hm.inj q k y x b o' bE oo cap hq hy hk hx AO hb)
     ·simp only[execOp,bY];by_cases ig:c'=n
      ·rw[ax ig]at xn;subst xn;subst ig;simp[Instr.sliceAt,jF ht,Instr.slice,dS,eX,dq,he,vI,Instr.sliceBounds,LI c' _ (bA _),sizeOf,typeInfo,gy]
      ·rw[ao ig]at xn;subst xn;simp[Instr.sliceAt,jF ht,Instr.slice,dS,eX,dq,he,vI,Instr.sliceBounds,LI n _ (bA _),sizeOf,typeInfo,gy,ig,yL]
   ·cases ho
  ·cases ho
 ·cases ho
def aU.aNZ(fn:Func)(key k off n cc s j:Nat)(x:Obj)(hx:x.owns=true)(ho:su P (aA fn key)=some (true,false,s)):aU P B N:=
 .step key (aA fn key) [.slice (some ⟨k,off,some 7⟩) n cc,vI n] [(j,none),(k,some x)] (.slice (some ⟨j,0,some 7⟩) 0 0) [(j,.view []),(k,.dead)] (aNY ho hx j)
def aU.aN0(fn:Func)(key k off n cc:Nat)(l:List UInt8)(x:Obj)(hx:x.reads=true)(hc:(x.cells.drop off).take n=gQ l)(hn:l.length=n)(ho:NW P (aA fn key)=true):aU P B N:=
 .step key (aA fn key) [.slice (some ⟨k,off,some 7⟩) n cc] [(k,some x)] (.string (BA l)) [] (by
  unfold NW at ho;split at ho
  ·rename_i src dst y bY;split at ho
   ·rename_i e hs hd;split at ho
    ·rename_i he;have:=YG (P:=P) (B:=B) bY hs he hd (k:=k) (off:=off) (n:=n) (cc:=cc) (y:=x) (ns:=l.map λc=>(c.toNat:Int)) hx (by rw[hc];simp[gQ,Function.comp_def]) (by simpa using hn)
     have e2:=aAj l [];rw[jG]at e2;rw[show ByteArray.empty=BA []from rfl,e2]at this;exact this.step
    ·cases ho
   ·cases ho
  ·cases ho)
end
theorem aWX{n:Nat}(ha:a<bz^n)(hb:b<bz^n):a+b<bz^(n+1):=by have h1:bz^n*2<=bz^n*bz:=jJ _ d_;rw[dD];omega
theorem LJ{n s:Nat}(hi:i<n)(hd:d=s/bz^i%bz):e9 prog 3 (al (eO bz n i s)) i (vI d)=some (al (eO bz n (i+1) s)):=by rw[wj (by rw[Nq];exact hi),Nr hi hd]
theorem V6(n s:Nat):List.replicate n (vI 0)=al (eO bz n 0 s):=by rw[SM,Lv]
section
variable{Bs:aa}{ka kb n m a b:Nat}
def Gi(ka kb n m a b i:Nat):aN:=[(7,vI i),(0,sl ka n),(1,sl kb m),(5,sl 2 (n+1)),(6,vI (eZ bz a b i))]
def Ca(ka kb n m a b i:Nat):aH:=[(ka,.view (al (ae bz n a))),(kb,.view (al (ae bz m b))),(2,.row (al (eO bz (n+1) i (a+b))) 3 1)]
theorem aN1(hk:(ka=0/\kb=1)\/(ka=1/\kb=0))(hi:i<n)(hb:b<bz^m)(h63:n<35184372088832):
  af prog Bs 55 (aF (ag f132 0)) (Gi ka kb n m a b i) (Ca ka kb n m a b i) 3 ⟨.normal,Gi ka kb n m a b (i+1),Ca ka kb n m a b (i+1),3⟩:=by
 have hx:=gZ (B:=bz) d_ a i;have hy:=gZ (B:=bz) d_ b i;have hc:=A3 (B:=bz) d_ a b i;have hs:=Hh (B:=bz) d_ a b i;have dq:=E4 (B:=bz) d_ a b i;have bT:=LJ (n:=n+1) (i:=i) (s:=a+b) o_ rfl;have k9:dO prog 3 (al (ae bz n a)) i=some (vI (a/bz^i%bz)):=dZ (eM hi);have lp:i<m->dO prog 3 (al (ae bz m b)) i=some (vI (b/bz^i%bz)):=λjS=>dZ (eM jS);have kX:¬i<m->b/bz^i%bz=0:=λjS=>rf hb o_ d_;unfold Gi Ca;generalize al (eO bz (n+1) (i+1) (a+b))=r1 at *;generalize al (eO bz (n+1) i (a+b))=r0 at *;generalize al (ae bz n a)=ra at *;generalize al (ae bz m b)=rb at *;generalize eZ bz a b (i+1)=c' at *;generalize eZ bz a b i=c at *;generalize (a+b)/bz^i%bz=z at *;generalize a/bz^i%bz=x at *;generalize b/bz^i%bz=y at *;have e0:x+y+c=c+x+y:=by omega
 have e1:z=(c+x+y)%bz:=by rw[<-hs,e0]
 have e2:c'=(c+x+y)/bz:=by rw[<-dq,e0]
 have jY:bz=16777216:=rfl;by_cases jS:i<m
 ·have lp:=lp jS
  let S:Nat->Nat->bL prog Bs 55:=λka kb=>[.lt 22 i n true (by simp[hi]),.ix f132 28 ka n i hi k_,.ld f132 29 3 ka i (.view ra) (vI x) rfl k9 k_,.sum 30 c x (c+x) rfl o_,.lt 34 i m true (by simp[jS]),.ix f132 38 kb m i jS k_,.ld f132 39 3 kb i (.view rb) (vI y) rfl lp k_,.sum 40 (c+x) y (c+x+y) rfl o_,.Gf 44 (c+x+y) bz z e1,.ix f132 45 2 (n+1) i o_ k_,.st f132 100045 3 2 i (.row r0 3 1) (vI z) (.row r1 3 1) rfl bT rfl k_,.Gg 47 (c+x+y) bz c' e2 o_,.sum 24 i 1 (i+1) rfl o_]
  rcases hk with ⟨rfl,rfl⟩|⟨rfl,rfl⟩
  ·exact aC (S 0 1)
  ·exact aC (S 1 0)
 ·have xd:=kX jS;rw[xd,jd]at e1 e2
  let S:Nat->Nat->bL prog Bs 55:=λka kb=>[.lt 22 i n true (by simp[hi]),.ix f132 28 ka n i hi k_,.ld f132 29 3 ka i (.view ra) (vI x) rfl k9 k_,.sum 30 c x (c+x) rfl o_,.lt 34 i m false (by simp[jS]),.Gf 44 (c+x) bz z e1,.ix f132 45 2 (n+1) i o_ k_,.st f132 100045 3 2 i (.row r0 3 1) (vI z) (.row r1 3 1) rfl bT rfl k_,.Gg 47 (c+x) bz c' e2 o_,.sum 24 i 1 (i+1) rfl o_]
  rcases hk with ⟨rfl,rfl⟩|⟨rfl,rfl⟩
  ·exact aC (S 0 1)
  ·exact aC (S 1 0)
theorem aN2(hk:(ka=0/\kb=1)\/(ka=1/\kb=0))(hb:b<bz^m)(h63:n<35184372088832):
  af prog Bs 55 (.block 0 (ag f132 0)) (Gi ka kb n m a b 0) (Ca ka kb n m a b 0) 3 ⟨.normal,Gi ka kb n m a b n,Ca ka kb n m a b n,3⟩:=
 bO (ch (b:=aF (ag f132 0)) (r:=⟨.exit 0,Gi ka kb n m a b n,Ca ka kb n m a b n,3⟩) n (Gi ka kb n m a b) (Ca ka kb n m a b) (λi k _=>j6 (l:=Ca ka kb n m a b i) (m:=Ca ka kb n m a b 0) rfl k) (λi hi=>aN1 hk hi hb h63)
  (by rcases hk with ⟨rfl,rfl⟩|⟨rfl,rfl⟩<;>exact aC [.lt 22 n n false s_]) n_)
noncomputable def aDA(hk:(ka=0/\kb=1)\/(ka=1/\kb=0))(hb:b<bz^m)(h63:n<35184372088832)(hs:a+b<bz^(n+1))
  (bT:e9 prog 3 (al (eO bz (n+1) n (a+b))) n (vI (eZ bz a b n))=some (al (ae bz (n+1) (a+b)))):bL prog Bs 55:=
 [.sum 17 n 1 (n+1) rfl o_,.qj f132 18 2 (n+1) 3 8 (vI 0) (al (eO bz (n+1) 0 (a+b))) (V6 _ _) rfl rfl o_ (by simp[maxLen];omega) k_,.rw 6 (.int .i64 0) (vI (eZ bz a b 0)) (by rw[Nt];rfl),.code 0 _ _ _ _ _ (aN2 (ka:=ka) (kb:=kb) (a:=a) hk hb o_),.ix f132 52 2 (n+1) n o_ k_,.st f132 100052 3 2 n (.row (al (eO bz (n+1) n (a+b))) 3 1) (vI (eZ bz a b n)) (.row (al (ae bz (n+1) (a+b))) 3 1) rfl bT rfl k_,.DN f132 54 2 (n+1) (a+b) (.row (al (ae bz (n+1) (a+b))) 3 1) rfl rfl hs o_ k_]
end
theorem aWG{n:Nat}(ha:a<bz^n)(hb:b<bz^n):e9 prog 3 (al (eO bz (n+1) n (a+b))) n (vI (eZ bz a b n))=some (al (ae bz (n+1) (a+b))):=by have h1:=A3 (B:=bz) d_ a b n;have h2:=SN ha hb;rw[LJ (Hy n) (by rw[<-h2];exact(dU (eV h1 d_)).symm),Hf]
theorem aDB(h1:nd bz a<35184372088832)(h2:nd bz b<35184372088832):kY prog 132 [jM a,jM b] 3 1 (nd bz (a+b)) (cD (a+b)):=by
 have ha:=ek (B:=bz) d_ a;have hb:=ek (B:=bz) d_ b;have iO:=s7 a;have kR:=s7 b;have au:([jM a,jM b].all aL.ok)=true:=by simp[IG]
 unfold jM cD at au ⊢;change kY _ _ _ _ _ _ (cD (a+b));generalize nd bz a=n at *;generalize nd bz b=m at *;by_cases lL:n<m
 ·have gk:=cF ha (df (n:=bz) d_ (show n<=m by omega));have hs:=aWX hb gk;rw[mR a b]
  exact LH (k:=2) mixed func132 au 100 (N:=55) k_ (λw=>(aU.lt 12 n m true (by simp[lL]):aU prog (aa.at w) 55)::aDA (ka:=1) (kb:=0) (a:=b) (b:=a) (.inr ⟨rfl,rfl⟩) ha h2 hs (aWG hb gk))
   (λw=>k_) (iv _) (Gh hs) (B9 hs)
 ·have gW:=cF hb (df (n:=bz) d_ (show m<=n by omega));have hs:=aWX ha gW
  exact LH (k:=2) mixed func132 au 100 (N:=55) k_ (λw=>(aU.lt 12 n m false (by simp[lL]):aU prog (aa.at w) 55)::aDA (ka:=0) (kb:=1) (a:=a) (b:=b) (.inl ⟨rfl,rfl⟩) hb h1 hs (aWG ha gW))
   (λw=>k_) (iv _) (Gh hs) (B9 hs)
section
variable{B:Nat}
def qM(B q V c i:Nat):Nat:=(q*(V%B^i)+c)/B^i
theorem aN3(q V c:Nat):qM B q V c 0=c:=by simp[qM,tL]
theorem aDC(hB:0<B)(q V c i:Nat):qM B q V c i+q*(V/B^i%B)=(q*(V%B^(i+1))+c)/B^i:=by unfold qM;rw[pE,oU,<-fU,Nat.add_right_comm,pF _ _ (cI hB)]
theorem aN4(hB:0<B)(q V c i:Nat):(qM B q V c i+q*(V/B^i%B))/B=qM B q V c (i+1):=by rw[aDC hB,kT,<-dD];rfl
theorem aN5(hB:0<B)(q V c i:Nat):(qM B q V c i+q*(V/B^i%B))%B=(q*V+c)/B^i%B:=by
 rw[aDC hB];have h1:=jx V (B^(i+1));have h2:q*V+c=(q*(V%B^(i+1))+c)+q*(V/B^(i+1))*B*B^i:=by
  have e:q*(V/B^(i+1))*B*B^i=q*(B^(i+1)*(V/B^(i+1))):=by rw[dD];simp only[cP,mS,fU]
  rw[e];have h3:q*V=q*(B^(i+1)*(V/B^(i+1)))+q*(V%B^(i+1)):=by rw[<-oU,h1]
  omega
 conv=>rhs;rw[h2]
 rw[pF _ _ (cI hB),C5]
theorem aDD(hB:0<B){c:Nat}(hq:q<B)(hc:c<=q)(V i:Nat):qM B q V c i<=q:=by
 unfold qM;have hp:0<B^i:=cI hB;have h1:V%B^i<B^i:=cJ _ hp;have h2:=jJ q (show V%B^i+1<=B^i from h1);rw[oU,gC]at h2;have h3:q*(V%B^i)+c<(q+1)*B^i:=by rw[fF,ql];omega
 have:=(iG hp).2 h3;omega
theorem aN6{c V n:Nat}(hV:V<B^n):qM B q V c n=(q*V+c)/B^n:=by unfold qM;rw[dU hV]
theorem aN7(hB:0<B)(bZ:b<=a)(i:Nat):
  (a-b)/B^i%B=if a/B^i%B<b/B^i%B+kU B a b i then a/B^i%B+B-b/B^i%B-kU B a b i else a/B^i%B-b/B^i%B-kU B a b i:=by
 rw[<-SQ hB bZ i];have hx:=gZ hB a i;have hy:=gZ hB b i;have hc:=Nu (B:=B) a b i;generalize a/B^i%B=x at *;generalize b/B^i%B=y at *;generalize kU B a b i=c at *;by_cases h:x<y+c
 ·rw[ax h,show x+2*B-y-c=(x+B-y-c)+B by omega,Kd,dU o_]
 ·rw[ao h,show x+2*B-y-c=(x-y-c)+B+B by omega,Kd,Kd,dU o_]
def rK(B p x b i k:Nat):Nat:=(p%B^(i+k)+x*(b%B^k)*B^i)/B^(i+k)
theorem aN8{p x:Nat}(hB:0<B):rK B p x b i 0=0:=by unfold rK;rw[sC,tL,Nat.mul_zero,kS,jd,jd];exact mf (cJ _ (cI hB))
theorem aDE(hB:0<B)(p x b i k:Nat):rK B p x b i k+(p/B^(i+k)%B+x*(b/B^k%B))=(p%B^(i+k+1)+x*(b%B^(k+1))*B^i)/B^(i+k):=by
 unfold rK;rw[<-pF _ _ (cI hB),pE p,pE b]
 congr 1
 rw[oU,fF,fF,eP];have:x*(b/B^k%B*B^k)*B^i=x*(b/B^k%B)*(B^i*B^k):=by simp only[cP,mS]
 omega
theorem aN9(hB:0<B)(p x b i k:Nat):(rK B p x b i k+(p/B^(i+k)%B+x*(b/B^k%B)))/B=rK B p x b i (k+1):=by rw[aDE hB,kT,<-dD];rfl
theorem aOa(hB:0<B)(p x b i k:Nat):(rK B p x b i k+(p/B^(i+k)%B+x*(b/B^k%B)))%B=(p+x*b*B^i)/B^(i+k)%B:=by
 rw[aDE hB];have h1:=jx p (B^(i+k+1));have h2:=jx b (B^(k+1));have h3:p+x*b*B^i=(p%B^(i+k+1)+x*(b%B^(k+1))*B^i)+(p/B^(i+k+1)+x*(b/B^(k+1)))*B*B^(i+k):=by
  have e1:(p/B^(i+k+1)+x*(b/B^(k+1)))*B*B^(i+k)=B^(i+k+1)*(p/B^(i+k+1))+x*(B^(k+1)*(b/B^(k+1)))*B^i:=by
   rw[fF,fF]
   congr 1
   ·rw[dD];simp only[cP,mS,fU]
   ·rw[dD,eP];simp only[cP,mS,fU]
  have e2:x*b*B^i=x*(B^(k+1)*(b/B^(k+1)))*B^i+x*(b%B^(k+1))*B^i:=by rw[<-fF,<-oU,h2]
  rw[e1];omega
 conv=>rhs;rw[h3]
 rw[pF _ _ (cI hB),C5]
theorem aDF(hB:0<B){x:Nat}(hx:x<B)(p b i k:Nat):rK B p x b i k<B:=by
 unfold rK;have hp:0<B^(i+k):=cI hB;rw[iG hp];have h1:p%B^(i+k)<B^(i+k):=cJ _ hp;have h2:b%B^k<B^k:=cJ _ (cI hB);have h3:x*(b%B^k)*B^i<=x*B^(i+k):=by rw[fU,eP];refine jJ _ ?_;rw[cP];exact jJ _ (jV h2)
 have h4:=eh (B^(i+k)) (show x+1<=B from hx);rw[fF,ql]at h4;omega
theorem aOb{p x:Nat}(hp:p<B^(i+m))(hb:b<B^m):rK B p x b i m=(p+x*b*B^i)/B^(i+m):=by unfold rK;rw[dU hp,dU hb]
end
section
variable{Bs:aa}{n m a b:Nat}
def Gj(n m a b i:Nat):aN:=[(7,vI i),(0,sl 0 n),(1,sl 1 m),(5,sl 2 n),(6,vI (kU bz a b i))]
def Af(n m a b i:Nat):aH:=[(0,.view (al (ae bz n a))),(1,.view (al (ae bz m b))),(2,.row (al (eO bz n i (a-b))) 3 1)]
theorem aDG{x y:Int}(h:-4611686018427387904<=x)(h2:x<=4611686018427387903)(h3:-4611686018427387904<=y)(h4:y<=4611686018427387904):IntKind.i64.wrap (x-y)=x-y:=by rw[dX];omega
theorem aOc{x y:Int}(h:-4611686018427387904<=x)(h2:x<=4611686018427387903)(h3:-4611686018427387904<=y)(h4:y<=4611686018427387904):IntKind.i64.wrap (x+y)=x+y:=by rw[dX];omega
theorem aOd(bZ:b<=a)(hi:i<n)(hb:b<bz^m)(h63:n<35184372088832):
  af prog Bs 44 (aF (ag f135 0)) (Gj n m a b i) (Af n m a b i) 3 ⟨.normal,Gj n m a b (i+1),Af n m a b (i+1),3⟩:=by
 have hx:=gZ (B:=bz) d_ a i;have hy:=gZ (B:=bz) d_ b i;have hc:=Nu (B:=bz) a b i;have hs:=aN7 (B:=bz) d_ bZ i;have dq:=SP (B:=bz) d_ a b i;have bT:=LJ (n:=n) (i:=i) (s:=a-b) hi rfl;have k9:dO prog 3 (al (ae bz n a)) i=some (vI (a/bz^i%bz)):=dZ (eM hi);have lp:i<m->dO prog 3 (al (ae bz m b)) i=some (vI (b/bz^i%bz)):=λjS=>dZ (eM jS);have kX:¬i<m->b/bz^i%bz=0:=λjS=>rf hb o_ d_;have jY:bz=16777216:=rfl;unfold Gj Af;generalize al (eO bz n (i+1) (a-b))=r1 at *;generalize al (eO bz n i (a-b))=r0 at *;generalize al (ae bz n a)=ra at *;generalize al (ae bz m b)=rb at *;generalize kU bz a b (i+1)=c' at *;generalize kU bz a b i=c at *;generalize (a-b)/bz^i%bz=z at *;generalize a/bz^i%bz=x at *;generalize b/bz^i%bz=y at *;have w1:IntKind.i64.wrap ((x:Int)-(c:Int))=(x:Int)-(c:Int):=aDG o_ o_ o_ o_;have w2:IntKind.i64.wrap (((x:Int)-(c:Int))-(y:Int))=(x:Int)-(c:Int)-(y:Int):=aDG o_ o_ o_ o_;have tail:∀ d:Int,d=(x:Int)-c-y->(∃ t,decide (d<0)=t/\(t=true->IntKind.i64.wrap (d+16777216)=(z:Int)/\c'=1)/\(t=false->d=(z:Int)/\c'=0)):=by
  intro d hd;by_cases h:x<y+c
  ·rw[ax h]at hs dq;refine⟨true,aE o_,λ_=>⟨?_,dq.symm⟩,λe=>by cases e⟩;rw[aOc o_ o_ o_ o_];omega
  ·rw[ao h]at hs dq;exact⟨false,aO o_,n_,λ_=>⟨by omega,dq.symm⟩⟩
 by_cases jS:i<m
 ·have lp:=lp jS;obtain⟨t,ht,h1,h2⟩:=tail _ rfl;cases t with
  |true=>
   obtain⟨q1,q2⟩:=h1 rfl;subst q2;exact aC [.lt 15 i n true (by simp[hi]),.ix f135 20 0 n i hi k_,.ld f135 21 3 0 i (.view ra) (vI x) rfl k9 k_,.wr 23 .i64 ((x:Int)-(c:Int)) _ w1,.lt 27 i m true (by simp[jS]),.ix f135 31 1 m i jS k_,.ld f135 32 3 1 i (.view rb) (vI y) rfl lp k_,.wr 33 .i64 ((x:Int)-(c:Int)-(y:Int)) _ w2,.rw 35 (.bool (decide ((x:Int)-(c:Int)-(y:Int)<0))) b_ (by rw[ht]),.wr 37 .i64 _ (z:Int) q1,.ix f135 41 2 n i hi k_,.st f135 100041 3 2 i (.row r0 3 1) (vI z) (.row r1 3 1) rfl bT rfl k_,.sum 17 i 1 (i+1) rfl o_]
  |false=>
   obtain⟨q1,q2⟩:=h2 rfl;subst q2;exact aC [.lt 15 i n true (by simp[hi]),.ix f135 20 0 n i hi k_,.ld f135 21 3 0 i (.view ra) (vI x) rfl k9 k_,.wr 23 .i64 ((x:Int)-(c:Int)) _ w1,.lt 27 i m true (by simp[jS]),.ix f135 31 1 m i jS k_,.ld f135 32 3 1 i (.view rb) (vI y) rfl lp k_,.wr 33 .i64 ((x:Int)-(c:Int)-(y:Int)) (z:Int) (w2.trans q1),.rw 35 (.bool (decide ((z:Int)<0))) a_ (by rw[<-q1,ht]),.ix f135 41 2 n i hi k_,.st f135 100041 3 2 i (.row r0 3 1) (vI z) (.row r1 3 1) rfl bT rfl k_,.sum 17 i 1 (i+1) rfl o_]
 ·have xd:=kX jS;subst xd;obtain⟨t,ht,h1,h2⟩:=tail ((x:Int)-c) o_;cases t with
  |true=>
   obtain⟨q1,q2⟩:=h1 rfl;subst q2;exact aC [.lt 15 i n true (by simp[hi]),.ix f135 20 0 n i hi k_,.ld f135 21 3 0 i (.view ra) (vI x) rfl k9 k_,.wr 23 .i64 ((x:Int)-(c:Int)) _ w1,.lt 27 i m false (by simp[jS]),.rw 35 (.bool (decide ((x:Int)-(c:Int)<0))) b_ (by rw[ht]),.wr 37 .i64 _ (z:Int) q1,.ix f135 41 2 n i hi k_,.st f135 100041 3 2 i (.row r0 3 1) (vI z) (.row r1 3 1) rfl bT rfl k_,.sum 17 i 1 (i+1) rfl o_]
  |false=>
   obtain⟨q1,q2⟩:=h2 rfl;subst q2;exact aC [.lt 15 i n true (by simp[hi]),.ix f135 20 0 n i hi k_,.ld f135 21 3 0 i (.view ra) (vI x) rfl k9 k_,.wr 23 .i64 ((x:Int)-(c:Int)) (z:Int) (w1.trans q1),.lt 27 i m false (by simp[jS]),.rw 35 (.bool (decide ((z:Int)<0))) a_ (by rw[<-q1,ht]),.ix f135 41 2 n i hi k_,.st f135 100041 3 2 i (.row r0 3 1) (vI z) (.row r1 3 1) rfl bT rfl k_,.sum 17 i 1 (i+1) rfl o_]
theorem aOe(bZ:b<=a)(hb:b<bz^m)(h63:n<35184372088832):
  af prog Bs 44 (.block 0 (ag f135 0)) (Gj n m a b 0) (Af n m a b 0) 3 ⟨.normal,Gj n m a b n,Af n m a b n,3⟩:=
 bO (ch (b:=aF (ag f135 0)) (r:=⟨.exit 0,Gj n m a b n,Af n m a b n,3⟩) n (Gj n m a b) (Af n m a b) (λi k _=>j6 (l:=Af n m a b i) (m:=Af n m a b 0) rfl k) (λi hi=>aOd bZ hi hb h63)
  (aC [.lt 15 n n false s_]) n_)
end
theorem aOf(bZ:b<=a)(h1:nd bz a<35184372088832):kY prog 135 [jM a,jM b] 3 1 (nd bz (a-b)) (cD (a-b)):=by
 have ha:=ek (B:=bz) d_ a;have hb:=ek (B:=bz) d_ b;have au:([jM a,jM b].all aL.ok)=true:=by simp[IG]
 unfold jM cD at au ⊢;change kY _ _ _ _ _ _ (cD (a-b));generalize nd bz a=n at *;generalize nd bz b=m at *;have hs:a-b<bz^n:=eV (Fv _ _) ha;have lo:=λBs=>aOe (Bs:=Bs) (n:=n) (m:=m) bZ hb h1;unfold Af at lo;rw[Hf]at lo;exact LH (k:=2) mixed func135 au 100 (N:=44) k_ (λw=>[.qj f135 11 2 n 3 8 (vI 0) (al (eO bz n 0 (a-b))) (V6 _ _) rfl rfl o_ (by simp[maxLen];omega) k_,.rw 6 (.int .i64 0) (vI (kU bz a b 0)) (by rw[SO];rfl),.code 0 _ _ _ _ _ (lo _),.DN f135 43 2 n (a-b) (.row (al (ae bz n (a-b))) 3 1) rfl rfl hs o_ k_])
   (λw=>k_) (iv _) (Gh hs) (B9 hs)
section
variable{Bs:aa}{n a c:Nat}
def Gk(n a c i:Nat):aN:=[(7,vI i),(0,sl 0 n),(5,sl 1 (n+1)),(6,vI (qM bz 2 a c i))]
def Cb(n a c i:Nat):aH:=[(0,.view (al (ae bz n a))),(1,.row (al (eO bz (n+1) i (2*a+c))) 3 1)]
theorem aOg(hc:c<=2)(hi:i<n)(h63:n<35184372088832):
  af prog Bs 40 (aF (ag f136 0)) (Gk n a c i) (Cb n a c i) 2 ⟨.normal,Gk n a c (i+1),Cb n a c (i+1),2⟩:=by
 have hx:=gZ (B:=bz) d_ a i;have gw:=aDD (B:=bz) d_ (q:=2) d_ hc a i;have hs:=aN5 (B:=bz) d_ 2 a c i;have dq:=aN4 (B:=bz) d_ 2 a c i;have bT:=LJ (n:=n+1) (i:=i) (s:=2*a+c) o_ rfl;have k9:dO prog 3 (al (ae bz n a)) i=some (vI (a/bz^i%bz)):=dZ (eM hi);have jY:bz=16777216:=rfl;unfold Gk Cb;generalize al (eO bz (n+1) (i+1) (2*a+c))=r1 at *;generalize al (eO bz (n+1) i (2*a+c))=r0 at *;generalize al (ae bz n a)=ra at *;generalize qM bz 2 a c (i+1)=c' at *;generalize qM bz 2 a c i=g at *;generalize (2*a+c)/bz^i%bz=z at *;generalize a/bz^i%bz=x at *;exact aC [.lt 16 i n true (by simp[hi]),.ix f136 22 0 n i hi k_,.ld f136 23 3 0 i (.view ra) (vI x) rfl k9 k_,.s9 24 2 x (2*x) rfl o_,.sum 25 g (2*x) (g+2*x) rfl o_,.Gf 29 (g+2*x) bz z hs.symm,.ix f136 30 1 (n+1) i o_ k_,.st f136 100030 3 1 i (.row r0 3 1) (vI z) (.row r1 3 1) rfl bT rfl k_,.Gg 32 (g+2*x) bz c' dq.symm o_,.sum 18 i 1 (i+1) rfl o_]
theorem aOh(hc:c<=2)(h63:n<35184372088832):
  af prog Bs 40 (.block 0 (ag f136 0)) (Gk n a c 0) (Cb n a c 0) 2 ⟨.normal,Gk n a c n,Cb n a c n,2⟩:=
 bO (ch (b:=aF (ag f136 0)) (r:=⟨.exit 0,Gk n a c n,Cb n a c n,2⟩) n (Gk n a c) (Cb n a c) (λi k _=>j6 (l:=Cb n a c i) (m:=Cb n a c 0) rfl k) (λi hi=>aOg hc hi h63)
  (aC [.lt 16 n n false s_]) n_)
end
theorem aOi{c:Nat}(hc:c<=1)(h1:nd bz a<35184372088832):kY prog 136 [jM a,.p (vI c)] 3 1 (nd bz (2*a+c)) (cD (2*a+c)):=by
 have ha:=ek (B:=bz) d_ a;have au:([jM a,aL.p (vI c)].all aL.ok)=true:=by simp[IG];rfl
 unfold jM cD at au ⊢;change kY _ _ _ _ _ _ (cD (2*a+c));generalize nd bz a=n at *;have hs:2*a+c<bz^(n+1):=by have h1:bz^n*2<=bz^n*bz:=jJ _ d_;rw[dD];omega
 have bT:e9 prog 3 (al (eO bz (n+1) n (2*a+c))) n (vI (qM bz 2 a c n))=some (al (ae bz (n+1) (2*a+c))):=by have h1:=aDD (B:=bz) d_ (q:=2) d_ (show c<=2 by omega) a n;have h2:=aN6 (B:=bz) (q:=2) (c:=c) ha;have jY:bz=16777216:=rfl;rw[LJ (Hy n) (by rw[<-h2];exact(dU o_).symm),Hf]
 exact LH (k:=1) mixed func136 au 100 (N:=40) k_ (λw=>[.sum 10 n 1 (n+1) rfl o_,.qj f136 11 1 (n+1) 3 8 (vI 0) (al (eO bz (n+1) 0 (2*a+c))) (V6 _ _) rfl rfl o_ (by simp[maxLen];omega) k_,.rw 6 (vI c) (vI (qM bz 2 a c 0)) (by rw[aN3]),.code 0 _ _ _ _ _ (aOh (a:=a) (c:=c) o_ h1),.ix f136 37 1 (n+1) n o_ k_,.st f136 100037 3 1 n (.row (al (eO bz (n+1) n (2*a+c))) 3 1) (vI (qM bz 2 a c n)) (.row (al (ae bz (n+1) (2*a+c))) 3 1) rfl bT rfl k_,.DN f136 39 1 (n+1) (2*a+c) (.row (al (ae bz (n+1) (2*a+c))) 3 1) rfl rfl hs o_ k_])
   (λw=>k_) (iv _) (Gh hs) (B9 hs)
section
variable{Bs:aa}{n m a b:Nat}
def wm(n m a b i k:Nat):ah:=al (dc bz (n+m) (i+k) (part bz a b (i+1) 0) (part bz a b i 0))
def DP(n m a b i k:Nat):aN:=[(8,vI k),(7,vI (rK bz (part bz a b i 0) (a/bz^i%bz) b i k)),(6,vI i),(0,sl 0 n),(1,sl 1 m),(5,sl 2 (n+m))]
def Ag(n m a b i k:Nat):aH:=[(0,.view (al (ae bz n a))),(1,.view (al (ae bz m b))),(2,.row (wm n m a b i k) 3 1)]
theorem V7(i:Nat):part bz a b (i+1) 0=part bz a b i 0+a/bz^i%bz*b*bz^i:=by
 rw[CM,CM,pE,fF]
 congr 1
 simp only[cP,mS]
theorem aDH(hb:b<bz^m):part bz a b i 0<bz^(i+m):=by rw[CM,eP];exact qk (cJ _ (cI d_)) hb
theorem aOj(hi:i<n)(hk:k<m)(h63:n+m<35184372088832):
  af prog Bs 63 (aF (ag f120 2)) (DP n m a b i k) (Ag n m a b i k) 3 ⟨.normal,DP n m a b i (k+1),Ag n m a b i (k+1),3⟩:=by
 have hx:=gZ (B:=bz) d_ a i;have hy:=gZ (B:=bz) d_ b k;have hr:=gZ (B:=bz) d_ (part bz a b i 0) (i+k);have gw:=aDF (B:=bz) d_ hx (part bz a b i 0) b i k;have hs:=aOa (B:=bz) d_ (part bz a b i 0) (a/bz^i%bz) b i k;rw[<-V7]at hs;have dq:=aN9 (B:=bz) d_ (part bz a b i 0) (a/bz^i%bz) b i k;have k9:dO prog 3 (al (ae bz n a)) i=some (vI (a/bz^i%bz)):=dZ (eM hi);have lp:dO prog 3 (al (ae bz m b)) k=some (vI (b/bz^k%bz)):=dZ (eM hk);have hlr:dO prog 3 (wm n m a b i k) (i+k)=some (vI (part bz a b i 0/bz^(i+k)%bz)):=dZ (CL o_ (bA _));have bT:e9 prog 3 (wm n m a b i k) (i+k) (vI (part bz a b (i+1) 0/bz^(i+k)%bz))=some (wm n m a b i (k+1)):=by unfold wm;rw[wj (by rw[xb];omega),y0 o_ rfl];rfl
 have jY:bz=16777216:=rfl;unfold DP Ag;generalize wm n m a b i (k+1)=r1 at *;generalize wm n m a b i k=r0 at *;generalize al (ae bz n a)=ra at *;generalize al (ae bz m b)=rb at *;generalize rK bz (part bz a b i 0) (a/bz^i%bz) b i (k+1)=c' at *;generalize rK bz (part bz a b i 0) (a/bz^i%bz) b i k=g at *;generalize part bz a b (i+1) 0/bz^(i+k)%bz=z at *;generalize part bz a b i 0/bz^(i+k)%bz=r at *;generalize a/bz^i%bz=x at *;generalize b/bz^k%bz=y at *;have kB:x*y<bz*bz:=qk hx hy;rw[jY]at kB;generalize hp:x*y=p at *;exact aC [.lt 24 k m true (by simp[hk]),.sum 31 i k (i+k) rfl o_,.ix f120 32 2 (n+m) (i+k) o_ k_,.ld f120 33 3 2 (i+k) (.row r0 3 1) (vI r) rfl hlr k_,.ix f120 36 0 n i hi k_,.ld f120 37 3 0 i (.view ra) (vI x) rfl k9 k_,.ix f120 40 1 m k hk k_,.ld f120 41 3 1 k (.view rb) (vI y) rfl lp k_,.s9 42 x y p hp.symm o_,.sum 43 r p (r+p) rfl o_,.sum 44 g (r+p) (g+(r+p)) rfl o_,.sum 48 i k (i+k) rfl o_,.Gf 50 (g+(r+p)) bz z hs.symm,.ix f120 51 2 (n+m) (i+k) o_ k_,.st f120 100051 3 2 (i+k) (.row r0 3 1) (vI z) (.row r1 3 1) rfl bT rfl k_,.Gg 53 (g+(r+p)) bz c' dq.symm o_,.sum 26 k 1 (k+1) rfl o_]
theorem aOk(hi:i<n)(h63:n+m<35184372088832):
  af prog Bs 63 (.block 2 (ag f120 2)) (DP n m a b i 0) (Ag n m a b i 0) 3 ⟨.normal,DP n m a b i m,Ag n m a b i m,3⟩:=
 bO (id:=2) (ch (b:=aF (ag f120 2)) (r:=⟨.exit 2,DP n m a b i m,Ag n m a b i m,3⟩) m (DP n m a b i) (Ag n m a b i) (λk j _=>j6 (l:=Ag n m a b i k) (m:=Ag n m a b i 0) rfl j) (λk hk=>aOj hi hk h63)
  (aC [.lt 24 m m false s_]) n_)
def DQ(n m a b i:Nat):ah:=al (ae bz (n+m) (part bz a b i 0))
def Gl(n m i:Nat):aN:=[(6,vI i),(0,sl 0 n),(1,sl 1 m),(5,sl 2 (n+m))]
def Ah(n m a b i:Nat):aH:=[(0,.view (al (ae bz n a))),(1,.view (al (ae bz m b))),(2,.row (DQ n m a b i) 3 1)]
theorem aOl(i:Nat):wm n m a b i 0=DQ n m a b i:=by unfold wm DQ;rw[V7,jd,ZC d_]
theorem aOm(hi:i<n)(hb:b<bz^m)(h63:n+m<35184372088832):
  af prog Bs 63 (aF (ag f120 0)) (Gl n m i) (Ah n m a b i) 3 ⟨.normal,Gl n m (i+1),Ah n m a b (i+1),3⟩:=by
 have lo:=aOk (Bs:=Bs) (a:=a) (b:=b) hi h63;unfold DP Ag at lo;rw[aOl,aN8 d_]at lo;have hp:=aDH (a:=a) (i:=i) hb;have iN:=aDH (a:=a) (i:=i+1) hb;have he:=aOb (x:=a/bz^i%bz) hp hb;rw[<-V7]at he;have hc:=aDF (B:=bz) d_ (gZ (B:=bz) d_ a i) (part bz a b i 0) b i m;have bT:e9 prog 3 (wm n m a b i m) (i+m) (vI (rK bz (part bz a b i 0) (a/bz^i%bz) b i m))=some (DQ n m a b (i+1)):=by
  unfold wm DQ;have e:i+1+m=i+m+1:=by omega
  rw[e]at iN;rw[wj (by rw[xb];omega),y0 o_ (by rw[he];rw[he]at hc;exact(dU hc).symm),Fo d_ (cF hp (df d_ (yO _))) iN]
 unfold Gl Ah;generalize DQ n m a b (i+1)=r1 at *;generalize DQ n m a b i=r0 at *;generalize wm n m a b i m=r2 at *;generalize rK bz (part bz a b i 0) (a/bz^i%bz) b i m=c at *;generalize al (ae bz n a)=ra at *;generalize al (ae bz m b)=rb at *;exact aC [.lt 18 i n true (by simp[hi]),.code 2 _ _ _ _ _ lo,.sum 58 i m (i+m) rfl o_,.ix f120 60 2 (n+m) (i+m) o_ k_,.st f120 100060 3 2 (i+m) (.row r2 3 1) (vI c) (.row r1 3 1) rfl bT rfl k_,.sum 20 i 1 (i+1) rfl o_]
theorem aOn(hb:b<bz^m)(h63:n+m<35184372088832):
  af prog Bs 63 (.block 0 (ag f120 0)) (Gl n m 0) (Ah n m a b 0) 3 ⟨.normal,Gl n m n,Ah n m a b n,3⟩:=
 bO (ch (b:=aF (ag f120 0)) (r:=⟨.exit 0,Gl n m n,Ah n m a b n,3⟩) n (Gl n m) (Ah n m a b) (λk j _=>j6 (l:=Ah n m a b k) (m:=Ah n m a b 0) rfl j) (λk hk=>aOm hk hb h63)
  (aC [.lt 18 n n false s_]) n_)
end
theorem V8(h63:nd bz a+nd bz b<35184372088832):kY prog 120 [jM a,jM b] 3 1 (nd bz (a*b)) (cD (a*b)):=by
 have ha:=ek (B:=bz) d_ a;have hb:=ek (B:=bz) d_ b;have au:([jM a,jM b].all aL.ok)=true:=by simp[IG]
 unfold jM cD at au ⊢;change kY _ _ _ _ _ _ (cD (a*b));generalize nd bz a=n at *;generalize nd bz b=m at *;have hs:a*b<bz^(n+m):=by rw[eP];exact qk ha hb
 have lo:=λBs=>aOn (Bs:=Bs) (n:=n) (a:=a) hb h63;unfold Ah DQ at lo;rw[CM,CM,dU ha,sC,tL,kS]at lo;have hz:List.replicate (n+m) (vI 0)=al (ae bz (n+m) 0):=by
  rw[Lv]
  congr 1
  unfold ae;symm;rw[List.eq_replicate_iff];simp
 exact LH (k:=2) mixed func120 au 100 (N:=63) k_ (λw=>[.sum 13 n m (n+m) rfl o_,.qj f120 14 2 (n+m) 3 8 (vI 0) (al (ae bz (n+m) 0)) hz rfl rfl o_ (by simp[maxLen];omega) k_,.code 0 _ _ _ _ _ (lo _),.DN f120 62 2 (n+m) (a*b) (.row (al (ae bz (n+m) (a*b))) 3 1) rfl rfl hs o_ k_])
   (λw=>k_) (iv _) (Gh hs) (B9 hs)
theorem xV(cells:ah)(i:Nat)(h:cells[i]?=some (.int .u8 z)):dO prog 5 cells i=some (.int .u8 z):=by
 have e:dO prog 5 cells i=cells[i+0]?:=by kernel_rfl
 rw[e,jd,h]
theorem aOo(cells:ah)(i:Nat)(z:Int)(h:i<cells.length):e9 prog 5 cells i (.int .u8 z)=some (cells.set i (.int .u8 z)):=by
 have e:e9 prog 5 cells i (.int .u8 z)=if(Nat.ble (i+1) cells.length&&true)then some (jc cells i [.int .u8 z])else none:=by kernel_rfl
 rw[e,Se h];rfl
section
variable{Bs:aa}{n a:Nat}
def ui(n a i:Nat):ah:=gQ (List.replicate (3*n-i) 0++gG i a)
def Gm(n i:Nat):aN:=[(4,vI i),(0,sl 0 n),(3,sl 1 (3*n))]
def Ai(n a i:Nat):aH:=[(0,.view (al (ae bz n a))),(1,.row (ui n a i) 5 1)]
theorem aOp(hi:i<3*n):(ui n a i).set (3*n-1-i) (vb (a/256^i%256))=ui n a (i+1):=by
 unfold ui;rw[xm,show 3*n-i=(3*n-1-i)+1 by omega,show 3*n-(i+1)=3*n-1-i by omega,List.replicate_succ',EU];generalize 3*n-1-i=k;unfold gQ;rw[rW,rW,VH _ _ s_];simp only[dr,II,vL,rW,sk,NX,C3,jG,List.set_cons_zero]
 congr 2
 rw[NU,dU (cJ _ d_)];rfl
theorem aOq(i:Nat)(hi:i<=3*n):(ui n a i).length=3*n:=by unfold ui;rw[Fk,kP,II,Kb];omega
theorem aOr:a/bz^(i/3)%bz/2^(8*(i%3))%256=a/256^i%256:=by
 have e1:bz^(i/3)=256^(3*(i/3)):=by rw[show bz=256^3 from IH,<-sD]
 have e2:(2:Nat)^(8*(i%3))=256^(i%3):=by rw[sD]
 have e3:256^i=256^(3*(i/3))*256^(i%3):=by rw[<-eP];congr 1;omega
 rw[e1,e2,e3,<-kT];generalize a/256^(3*(i/3))=c;have e4:bz=256^(i%3)*(256*256^(2-i%3)):=by rw[show bz=256^3 from IH,<-Nat.pow_succ',<-eP];congr 1;omega
 rw[e4,A7,J4]
theorem aOs(hi:i<3*n)(h63:n<35184372088832):
  af prog Bs 45 (aF (ag f162 0)) (Gm n i) (Ai n a i) 2 ⟨.normal,Gm n (i+1),Ai n a (i+1),2⟩:=by
 have hx:=gZ (B:=bz) d_ a (i/3);have hb:=aOr (a:=a) (i:=i);have k9:dO prog 3 (al (ae bz n a)) (i/3)=some (vI (a/bz^(i/3)%bz)):=dZ (eM o_);have bT:e9 prog 5 (ui n a i) (3*n-1-i) (vb (a/256^i%256))=some (ui n a (i+1)):=by unfold vb;rw[aOo _ _ _ (by rw[aOq _ o_];omega)];exact cL some (aOp hi)
 unfold Gm Ai;generalize ui n a (i+1)=r1 at *;generalize ui n a i=r0 at *;generalize al (ae bz n a)=ra at *;generalize a/256^i%256=z at *;generalize a/bz^(i/3)%bz=x at *;have vn:(x:Int).fdiv (2^(min (8*(i%3)) IntKind.i64.bits))=((x/2^(8*(i%3)):Nat):Int):=by rw[show min (8*(i%3)) IntKind.i64.bits=8*(i%3)from nZ (show 8*(i%3)<=64 by omega),sB _ (Hw d_),tO,Hx];rfl
 generalize x/2^(8*(i%3))=y at *;exact aC [.lt 12 i (3*n) true (by simp[hi]),.fh 18 (3*n) 1 (3*n-1) o_ o_,.fh 20 (3*n-1) i (3*n-1-i) o_ o_,.Gg 23 i 3 (i/3) rfl o_,.ix f162 24 0 n (i/3) o_ k_,.ld f162 25 3 0 (i/3) (.view ra) (vI x) rfl k9 k_,.Gf 27 i 3 (i%3) rfl,.s9 28 8 (i%3) (8*(i%3)) rfl o_,.shr f162 29 .i64 (x:Int) (y:Int) (8*(i%3)) vn k_,.wr 30 .u8 (y:Int) (z:Int) (by rw[aAo];omega),.ix f162 31 1 (3*n) (3*n-1-i) o_ k_,.st f162 100031 5 1 (3*n-1-i) (.row r0 5 1) (vb z) (.row r1 5 1) rfl bT rfl k_,.sum 14 i 1 (i+1) rfl o_]
theorem V9(h63:n<35184372088832):af prog Bs 45 (.block 0 (ag f162 0)) (Gm n 0) (Ai n a 0) 2 ⟨.normal,Gm n (3*n),Ai n a (3*n),2⟩:=
 bO (id:=0) (ch (b:=aF (ag f162 0)) (r:=⟨.exit 0,Gm n (3*n),Ai n a (3*n),2⟩) (3*n) (Gm n) (Ai n a) (λk j _=>j6 (l:=Ai n a k) (m:=Ai n a 0) rfl j) (λk hk=>aOs hk h63)
  (aC [.lt 12 (3*n) (3*n) false s_]) n_)
def xW(L i:Nat):aN:=[(3,.slice (some ⟨1,i*1,some 7⟩) (L-i) i)]
def xX(L a:Nat):aH:=[(1,.row (gQ (gG L a)) 5 1)]
theorem Wa{L a:Nat}(h:a<256^L):gG L a=List.replicate (L-nd 256 a) 0++cG a:=by have hle:=jv (B:=256) d_ h;have:=aAf (n:=nd 256 a) (k:=L-nd 256 a) (ek (B:=256) d_ a);rw[show L-nd 256 a+nd 256 a=L by omega]at this;exact this
theorem aOt{L:Nat}(h:a<256^L)(h0:a≠0)(hi:i<L-nd 256 a)(h63:L<9223372036854775807):
  af prog Bs 45 (aF (ag f162 2)) (xW L i) (xX L a) 2 ⟨.normal,xW L (i+1),xX L a,2⟩:=by
 have hp:=w9 (B:=256) d_ h0;have iI:dO prog 5 (gQ (gG L a)) i=some (vb 0):=xV _ _ (by rw[Wa h,NY,JH (by rw[Fk];simpa using hi)];simp[gQ,hi])
 unfold xW xX;generalize gQ (gG L a)=r0 at *;obtain⟨m,hm⟩:∃ m,L-i=m+1:=⟨L-i-1,by omega⟩;have dF:L-(i+1)=m:=by omega
 rw[hm,dF];have e1:i*1=i:=gC i;exact aC [.gt 34 (m+1) 0 true s_,.pQ f162 37 1 i (m+1) i 0 i 1 o_ (jd i) k_,.ld f162 38 5 1 (i*1) (.row r0 5 1) (vb 0) rfl (by rw[e1];exact iI) k_,.fZ 39 0 0 true rfl,.next f162 42 1 i m 1 o_ k_]
theorem aOu{L:Nat}(h:a<256^L)(h0:a≠0)(hi:i=L-nd 256 a)(h63:L<9223372036854775807):
  af prog Bs 45 (aF (ag f162 2)) (xW L i) (xX L a) 2 ⟨.exit 2,xW L i,xX L a,2⟩:=by
 have hp:=w9 (B:=256) d_ h0;have hle:=jv (B:=256) d_ h;obtain⟨c,l,hc,qf⟩:=NV h0;have iI:dO prog 5 (gQ (gG L a)) i=some (vb c.toNat):=xV _ _ (by rw[Wa h,NY,EL (by rw[Fk];simp;omega),Fk,hc,hi];simp[gQ])
 have bj:c.toNat≠0:=λe=>qf (NL.1 e);unfold xW xX;generalize gQ (gG L a)=r0 at *;obtain⟨m,hm⟩:∃ m,L-i=m+1:=⟨L-i-1,by omega⟩;rw[hm];have e1:i*1=i:=gC i;generalize c.toNat=d at *;exact aC [.gt 34 (m+1) 0 true s_,.pQ f162 37 1 i (m+1) i 0 i 1 o_ (jd i) k_,.ld f162 38 5 1 (i*1) (.row r0 5 1) (vb d) rfl (by rw[e1];exact iI) k_,.fZ 39 d 0 false (aO bj)]
theorem aOv{L:Nat}(h:a<256^L)(h0:a≠0)(h63:L<9223372036854775807):
  af prog Bs 45 (.block 2 (ag f162 2)) (xW L 0) (xX L a) 2 ⟨.normal,xW L (L-nd 256 a),xX L a,2⟩:=
 bO (id:=2) (ch (b:=aF (ag f162 2)) (r:=⟨.exit 2,xW L (L-nd 256 a),xX L a,2⟩) (L-nd 256 a) (xW L) (λ_=>xX L a) (λ_ _ _=>Iff.rfl) (λk hk=>aOt h h0 hk h63)
  (aOu h h0 rfl h63) n_)
end
theorem aOw{n:Nat}(ha:a<bz^n)(h0:a≠0)(h63:n<35184372088832):bw prog 162 [.r n (al (ae bz n a))] (.string (BA (cG a))):=by
 have hL:a<256^(3*n):=by rw[sD];exact ha
 have zT:=λBs=>V9 (Bs:=Bs) (a:=a) h63;have vX:=λBs=>aOv (Bs:=Bs) hL h0 o_;have e0:List.replicate (3*n) (vb 0)=ui n a 0:=by unfold ui gQ;simp[NT,vb]
 have e1:ui n a (3*n)=gQ (gG (3*n) a):=by unfold ui;rw[vL];rfl
 have hle:=jv (B:=256) d_ hL;have ht:((gQ (gG (3*n) a)).drop ((3*n-nd 256 a)*1)).take (nd 256 a)=gQ (cG a):=by rw[Wa hL,NY,gC,R0 (by rw[Fk];simp),j8 (by rw[Fk,tS];exact bA _)]
 unfold Ai at zT;rw[e1]at zT;rw[<-e0]at zT;unfold xX at vX;have hl:3*n-(3*n-nd 256 a)=nd 256 a:=by omega
 unfold xW at vX;rw[hl]at vX;exact iT mixed func162 (by simp[aL.ok,iv]) 100 (N:=45) k_ (λw=>[.s9 7 3 n (3*n) rfl o_,.qj f162 8 1 (3*n) 5 1 (vb 0) (List.replicate (3*n) (vb 0)) rfl rfl rfl o_ (by simp[maxLen];omega) k_,.code 0 _ _ _ _ _ (zT _),.code 2 _ _ _ _ _ (vX _),.aN0 f162 44 1 ((3*n-nd 256 a)*1) (nd 256 a) (3*n-nd 256 a) (cG a) (.row (gQ (gG (3*n) a)) 5 1) rfl ht (tS a) k_]) (λw=>k_) rfl
theorem aOx:bw prog 162 [.r 0 (al (ae bz 0 0))] (.string (BA (cG 0))):=by have zT:=λBs=>V9 (Bs:=Bs) (a:=0) (n:=0) o_;rw[C4];exact iT mixed func162 (by simp[aL.ok,iv]) 100 (N:=45) k_ (λw=>[.s9 7 3 0 0 rfl o_,.qj f162 8 1 0 5 1 (vb 0) [] rfl rfl rfl o_ (by simp[maxLen]) k_,.code 0 _ _ _ _ _ (zT _),.gt 34 0 0 false rfl,.Tl f162 44 1 0 [] (.row [] 5 1) rfl rfl rfl k_]) (λw=>k_) rfl
noncomputable def DR(Bs:aa)(i m:Nat)(h:0<m)(hl:dO prog 5 (gQ (List.replicate 9 0)) (i*1)=some (vb 0)):bL prog Bs 45:=[.gt 34 (m+1) 0 true s_,.pQ f162 37 1 i (m+1) i 0 i 1 o_ (jd i) k_,.ld f162 38 5 1 (i*1) (.row (gQ (List.replicate 9 0)) 5 1) (vb 0) rfl hl k_,.fZ 39 0 0 true rfl,.next f162 42 1 i m 1 h k_]
theorem aOy:bw prog 162 [.r 3 (al (ae bz 3 0))] (.string (BA (cG 0))):=by
 have zT:=λBs=>V9 (Bs:=Bs) (a:=0) (n:=3) o_;rw[C4];exact iT mixed func162 (by simp[aL.ok,iv]) 300 (N:=45) k_ (λw=>[.s9 7 3 3 9 rfl o_,.qj f162 8 1 9 5 1 (vb 0) (List.replicate 9 (vb 0)) rfl rfl rfl o_ (by simp[maxLen]) k_,.code 0 _ _ _ _ _ (zT _)]++(DR _ 0 8 o_ (xV _ _ rfl)++(DR _ 1 7 o_ (xV _ _ rfl)++(DR _ 2 6 o_ (xV _ _ rfl)++(DR _ 3 5 o_ (xV _ _ rfl)++(DR _ 4 4 o_ (xV _ _ rfl)++(DR _ 5 3 o_ (xV _ _ rfl)++(DR _ 6 2 o_ (xV _ _ rfl)++(DR _ 7 1 o_ (xV _ _ rfl)++
  [.gt 34 1 0 true rfl,.pQ f162 37 1 8 1 8 0 8 1 o_ rfl k_,.ld f162 38 5 1 8 (.row (gQ (List.replicate 9 0)) 5 1) (vb 0) rfl (xV _ _ rfl) k_,.fZ 39 0 0 true rfl,.aNZ f162 42 1 8 1 8 1 2 (.row (gQ (List.replicate 9 0)) 5 1) rfl k_,.gt 34 0 0 false rfl,.Tl f162 44 2 0 [] (.view []) rfl rfl rfl k_]))))))))) (λw=>k_) rfl
structure Qg(n a:Nat):Prop where
 lt:a<bz^n
 z:a=0->n=0\/n=3
 h63:n<35184372088832
theorem aDI{n:Nat}(h:Qg n a):bw prog 162 [.r n (al (ae bz n a))] (.string (BA (cG a))):=by
 by_cases h0:a=0
 ·subst h0;rcases h.z rfl with rfl|rfl
  ·exact aOx
  ·exact aOy
 ·exact aOw h.lt h0 h.h63
theorem aOz(h:nd bz a<35184372088832):Qg (nd bz a) a:=⟨ek d_ a,λe=>.inl (by rw[e,od]),h⟩
theorem aDJ{n:Nat}(neg:Bool)(h:Qg n a):bw prog 117 [.p (.bool neg),.r n (al (ae bz n a))] (aV (sg neg a)):=by
 rw[<-vN];have e:(!((BA (cG a)).toList==(ByteArray.mk #[]).toList))=decide (a≠0):=by rw[qy];simp
 cases neg
 ·exact iT mixed func117 (by simp[aL.ok,iv];rfl) 100 (N:=15) k_ (λw=>[.step 7 (aA f117 7) _ _ _ _ (pb (aDI h) (.w (k:=0) (cc:=0) (x:=.view (al (ae bz n a))) rfl (iv _) (λe=>by subst e;rfl) .nil) (x:=.func 162) k_ k_ rfl)]) (λw=>k_) rfl
 ·exact iT mixed func117 (by simp[aL.ok,iv];rfl) 100 (N:=15) k_ (λw=>[.step 7 (aA f117 7) _ _ _ _ (pb (aDI h) (.w (k:=0) (cc:=0) (x:=.view (al (ae bz n a))) rfl (iv _) (λe=>by subst e;rfl) .nil) (x:=.func 162) k_ k_ rfl),.rw 11 (.bool (!((BA (cG a)).toList==(ByteArray.mk #[]).toList))) (.bool (decide (a≠0))) (by rw[e])]) (λw=>k_) rfl
theorem aW4(neg:Bool)(l:List UInt8):aB prog 111 [.agg #[.bool neg,.string (BA l)]] (.bool (xx neg l)):=by
 cases l with
 |nil=>exact bo func111 (λ_=>[.rw 5 (.bool ((BA []).toList==(ByteArray.mk #[]).toList)) b_ (by rw[Fb];rfl)])
 |cons c l=>
  have e:(((c.toNat:Nat):Int)!=0)=decide (c≠0):=by
   by_cases h:c=0
   ·subst h;rfl
   ·rw[aE h,rh];intro h2;exact h (NL.1 (by simpa using h2))
  exact bo func111 (λ_=>[.rw 5 (.bool ((BA (c::l)).toList==(ByteArray.mk #[]).toList)) a_ (by rw[Fb];rfl),.sx f111 11 (BA (c::l)) 0 c (by rw[J5];rfl) k_,.rw 12 (.bool (((c.toNat:Nat):Int)!=0)) (.bool (decide (c≠0))) (by rw[e])])
theorem aDK(neg:Bool)(h:neg=true->m≠0):xx neg (cG m)=true:=by
 by_cases hm:m=0
 ·subst hm;rw[C4];cases neg
  ·rfl
  ·exact absurd rfl (h rfl)
 ·obtain⟨c,l,h1,h2⟩:=NV hm;rw[h1];exact aE h2
theorem aWJ(neg:Bool)(h:neg=true->m≠0):aB prog 111 [sv neg m] b_:=by have:=aW4 neg (cG m);rw[aDK neg h]at this;exact this
theorem aW9(z:Int):aB prog 111 [aV z] b_:=
 sI (C:=λ_ v=>aB prog 111 [v] b_) (λ_=>aWJ false n_) (λ_ hm=>aWJ true λ_=>hm) z
theorem aXm(h:z.natAbs<=9223372036854775808)(Lt:z<9223372036854775808):aB prog 63 [.int .i64 z] (aV z):=by
 obtain⟨m,hm⟩:∃ m,m=z.natAbs:=⟨_,rfl⟩;have aWa:m<18446744073709551616:=by omega
 have hb:Qg 3 m:=⟨by
  have e:bz^3=4722366482869645213696:=by decide
  rw[e];omega,λ_=>.inr rfl,by omega⟩
 have jE:al (ae bz 3 m)=[vI (m/bz^0%bz),vI (m/bz^1%bz),vI (m/bz^2%bz)]:=rfl;have hs:=λneg=>aDJ neg hb;obtain⟨x0,kZ⟩:∃ x,x=m/bz^0%bz:=⟨_,rfl⟩;obtain⟨x1,uV⟩:∃ x,x=m/bz^1%bz:=⟨_,rfl⟩;obtain⟨x2,gU⟩:∃ x,x=m/bz^2%bz:=⟨_,rfl⟩;rw[<-kZ,<-uV,<-gU]at jE;rw[jE]at hs;have kZ:m%16777216=x0:=by rw[kZ,sC,Fe]
 have uV:m/16777216%16777216=x1:=by rw[uV,Bb]
 have gU:m/16777216/16777216=x2:=by rw[gU,show bz^2=16777216*16777216 by decide,<-kT];exact(dU (by show _<16777216;omega)).symm
 have u0:Int.tmod (m:Int) 16777216=(x0:Int):=by rw[zk o_];omega
 obtain⟨q,hq⟩:∃ q,q=m/16777216:=⟨_,rfl⟩;rw[<-hq]at uV gU;have uq:IntKind.u64.wrap (Int.tdiv (m:Int) 16777216)=(q:Int):=by rw[A8 o_,j9];omega
 have u1:Int.tmod (q:Int) 16777216=(x1:Int):=by rw[zk o_];omega
 have u2:IntKind.u64.wrap (Int.tdiv (q:Int) 16777216)=(x2:Int):=by rw[A8 o_,j9];omega
 have w0:IntKind.i64.wrap (x0:Int)=(x0:Int):=by rw[dX];omega
 have w1:IntKind.i64.wrap (x1:Int)=(x1:Int):=by rw[dX];omega
 have w2:IntKind.i64.wrap (x2:Int)=(x2:Int):=by rw[dX];omega
 have cK:∀ v∈[vI x0,vI x1,vI x2],flat v=true:=λv hv=>by simp at hv;rcases hv with rfl|rfl|rfl<;>rfl
 let tl:∀(Bs:aa) (t:Bool),bL prog Bs 25:=λBs t=>[.rw 11 (.bool (decide (z<0))) (.bool (decide (z<0))) rfl,.rw 13 (.int .u64 (Int.tmod (m:Int) 16777216)) (.int .u64 (x0:Int)) (by rw[u0]),.wr 14 .i64 (x0:Int) (x0:Int) w0,.wr 16 .u64 (Int.tdiv (m:Int) 16777216) (q:Int) uq,.rw 17 (.int .u64 (Int.tmod (q:Int) 16777216)) (.int .u64 (x1:Int)) (by rw[u1]),.wr 18 .i64 (x1:Int) (x1:Int) w1,.wr 20 .u64 (Int.tdiv (m:Int) 16777216) (q:Int) uq,.wr 21 .u64 (Int.tdiv (q:Int) 16777216) (x2:Int) u2,.wr 22 .i64 (x2:Int) (x2:Int) w2,.bs f63 23 1 3 3 1 [0,1,2] (vI 0) [vI x0,vI x1,vI x2] #[vI x0,vI x1,vI x2] (.row [vI x0,vI x1,vI x2] 3 1) rfl cK cK k_ rfl o_ o_ k_,.step 24 (aA f63 24) _ _ _ _ (pb (hs t) (.p rfl (.w (k:=1) (cc:=0) (x:=.row [vI x0,vI x1,vI x2] 3 1) rfl rfl n_ .nil)) (x:=.func 117) k_ k_ rfl)]
 by_cases hz:z<0
 ·have e2:sg true m=z:=by show -(m:Int)=z;omega
  rw[<-show aV (sg true m)=aV z by rw[e2]];exact bo func63 (λ_=>.wr 5 .u64 z (z+18446744073709551616) (by rw[j9];omega)::.rw 7 (.bool (decide (z<0))) b_ (by rw[aE hz])::
   .wr 9 .u64 (0-(z+18446744073709551616)) (m:Int) (by rw[j9];omega)::.rw 11 (.bool (decide (z<0))) b_ (by rw[aE hz])::(tl _ true).tail)
 ·have e2:sg false m=z:=by show(m:Int)=z;omega
  rw[<-show aV (sg false m)=aV z by rw[e2]];exact bo func63 (λ_=>.wr 5 .u64 z (m:Int) (by rw[j9];omega)::.rw 7 (.bool (decide (z<0))) a_ (by rw[aO hz])::
   .rw 11 (.bool (decide (z<0))) a_ (by rw[aO hz])::(tl _ false).tail)
theorem aWF(z:Int):aB prog 74 [aV z] (.int .i64 z.sign):=by
 refine sI (C:=λz v=>aB prog 74 [v] (.int .i64 z.sign)) (λm=>?_) (λm hm=>?_) z
 ·by_cases h:m=0
  ·subst h;exact bo func74 (λ_=>[(aWJ false (m:=0) n_).at 5,.rw 10 (.bool ((BA (cG 0)).toList==(ByteArray.mk #[]).toList)) b_ (by rw[qy];rfl)])
  ·have e:((m:Nat):Int).sign=1:=zu o_;rw[e];exact bo func74 (λ_=>[(aWJ false (m:=m) n_).at 5,.rw 10 (.bool ((BA (cG m)).toList==(ByteArray.mk #[]).toList)) a_ (by rw[qy,aO h])])
 ·have e:(-(m:Int)).sign=-1:=Fu o_;rw[e];exact bo func74 (λ_=>[(aWJ true (m:=m) (λ_=>hm)).at 5,.rw 10 (.bool ((BA (cG m)).toList==(ByteArray.mk #[]).toList)) a_ (by rw[qy,aO hm])])
theorem aWV(z:Int):aB prog 104 [aV z] (aV (-z)):=by
 refine sI (C:=λz v=>aB prog 104 [v] (aV (-z))) (λm=>?_) (λm hm=>?_) z
 ·by_cases h:m=0
  ·subst h;have e:aV (-((0:Nat):Int))=.agg #[.bool false,.string ⟨#[]⟩]:=by show Value.agg #[.bool false,.string (BA (cG 0))]=_;rw[C4];rfl
   rw[e];exact bo func104 (λ_=>[(aWJ false (m:=0) n_).at 4,.rw 9 (.bool ((BA (cG 0)).toList==(ByteArray.mk #[]).toList)) b_ (by rw[qy];rfl)])
  ·have e:=vN true m;rw[<-show sg true m=-(m:Int)from rfl,<-e];unfold Bj;rw[aE h];exact bo func104 (λ_=>[(aWJ false (m:=m) n_).at 4,.rw 9 (.bool ((BA (cG m)).toList==(ByteArray.mk #[]).toList)) a_ (by rw[qy,aO h])])
 ·have e:=vN false m;rw[Kk,<-show sg false m=(m:Int)from rfl,<-e];exact bo func104 (λ_=>[(aWJ true (m:=m) (λ_=>hm)).at 4,.rw 9 (.bool ((BA (cG m)).toList==(ByteArray.mk #[]).toList)) a_ (by rw[qy,aO hm])])
theorem Wb(z:Int):aB prog 77 [aV z] (aV (z.natAbs:Int)):=by
 refine sI (C:=λz v=>aB prog 77 [v] (aV (z.natAbs:Int))) (λm=>?_) (λm hm=>?_) z
 ·exact bo func77 (λ_=>[(aWJ false (m:=m) n_).at 4])
 ·rw[Kj];exact bo func77 (λ_=>[(aWJ true (m:=m) (λ_=>hm)).at 4])
section
variable{Bs:aa}{n a b:Nat}
def Cc(n i:Nat):aN:=[(5,du i),(0,sl 0 n),(1,sl 1 n)]
def te(n a b:Nat):aH:=[(0,.view (al (ae bz n a))),(1,.view (al (ae bz n b)))]
theorem uj{x y:Nat}(h:decide (x≠y)=t):Value.bool ((x:Int)!=(y:Int))=.bool t:=by
 rw[<-h];congr 1
 by_cases e:x=y
 ·subst e;simp
 ·rw[aE e,rh];omega
noncomputable def Wc(n a b j:Nat)(hj:j<n)(t:Bool)(h:decide (a/bz^j%bz≠b/bz^j%bz)=t)(more:bL prog Bs 41):bL prog Bs 41:=
 .rw 19 (du (j+1)) (vI j) (ew j)::.ge 20 j 0 true s_::.rw 24 (du (j+1)) (vI j) (ew j)::.ix f134 25 0 n j hj k_::.ld f134 26 3 0 j (.view (al (ae bz n a))) (vI (a/bz^j%bz)) rfl (dZ (eM hj)) k_::
  .rw 28 (du (j+1)) (vI j) (ew j)::.ix f134 29 1 n j hj k_::.ld f134 30 3 1 j (.view (al (ae bz n b))) (vI (b/bz^j%bz)) rfl (dZ (eM hj)) k_::.rw 31 _ (.bool t) (uj h)::more
noncomputable def aDL(n a b j:Nat)(hj:j<n)(t:Bool)(h:decide (a/bz^j%bz<b/bz^j%bz)=t):bL prog Bs 41:=
 [.rw 33 (du (j+1)) (vI j) (ew j),.ix f134 34 0 n j hj k_,.ld f134 35 3 0 j (.view (al (ae bz n a))) (vI (a/bz^j%bz)) rfl (dZ (eM hj)) k_,.rw 37 (du (j+1)) (vI j) (ew j),.ix f134 38 1 n j hj k_,.ld f134 39 3 1 j (.view (al (ae bz n b))) (vI (b/bz^j%bz)) rfl (dZ (eM hj)) k_,.lt 40 (a/bz^j%bz) (b/bz^j%bz) t h]
theorem aOA(hj:j<n)(he:a/bz^j%bz=b/bz^j%bz)(h63:n<35184372088832):
  af prog Bs 41 (aF (ag f134 0)) (Cc n (j+1)) (te n a b) 2 ⟨.normal,Cc n j,te n a b,2⟩:=
 aC (Wc n a b j hj false (by simp[he]) [.rw 21 (du (j+1)) (vI j) (ew j),.wr 22 .i64 ((j:Int)-1) ((j:Int)-1) (oW o_)])
theorem aOB(hj:j<n)(ak:a/bz^j%bz<b/bz^j%bz):
  af prog Bs 41 (aF (ag f134 0)) (Cc n (j+1)) (te n a b) 2 ⟨.ret,[(4,.int .i64 (-1))],te n a b,2⟩:=
 aC (Wc n a b j hj true (aE o_) (aDL n a b j hj true (aE ak)))
theorem aOC(hj:j<n)(ak:b/bz^j%bz<a/bz^j%bz):
  af prog Bs 41 (aF (ag f134 0)) (Cc n (j+1)) (te n a b) 2 ⟨.ret,[(4,.int .i64 1)],te n a b,2⟩:=
 aC (Wc n a b j hj true (aE o_) (aDL n a b j hj false (aO o_)))
theorem aOD:af prog Bs 41 (aF (ag f134 0)) (Cc n 0) (te n a b) 2 ⟨.exit 0,[],te n a b,2⟩:=
 aC [.rw 20 (.bool (decide (((0:Nat):Int)-1>=0))) a_ rfl]
theorem aOE(ha:a<bz^n)(hb:b<bz^n)(h63:n<35184372088832):
  af prog Bs 41 (.block 0 (ag f134 0)) (Cc n n) (te n a b) 2 (if a=b then⟨.normal,[],te n a b,2⟩else⟨.ret,[(4,.int .i64 (hJ a b))],te n a b,2⟩):=by
 obtain⟨e,h1,h2,h3⟩:=yZ (λt=>¬(t<n/\a/bz^(n-1-t)%bz=b/bz^(n-1-t)%bz)) n o_;have xj:=ZJ ha hb e h1 λs hs=>(Fc.1 (h3 s hs)).2;have go:∀(r:lK),r.ex≠.normal->af prog Bs 41 (aF (ag f134 0)) (Cc n (n-e)) (te n a b) 2 r->af prog Bs 41 (.loop (aF (ag f134 0))) (Cc n n) (te n a b) 2 r:=by
  intro r hr mU
  exact ch (P:=prog) (B:=Bs) (N:=41) (b:=aF (ag f134 0)) (next:=2) (r:=r) e (λi=>Cc n (n-i)) (λ_=>te n a b) (λi k _=>Iff.rfl)
   (λi hi=>by
    have q:=Fc.1 (h3 i hi);have e1:n-i=(n-(i+1))+1:=by omega
    have e2:n-1-i=n-(i+1):=by omega
    simp only[e1];exact aOA o_ (by rw[<-e2];exact q.2) h63) mU hr
 by_cases CY:e=n
 ·have bZ:a=b:=by rw[CY,vL,sC,Fe,Fe]at xj;exact xj
  rw[ax bZ];have:=go ⟨.exit 0,[],te n a b,2⟩ n_ (by rw[CY,vL];exact aOD);exact bO (id:=0) this
 ·have hj:n-e=(n-1-e)+1:=by omega
  have bj:a/bz^(n-1-e)%bz≠b/bz^(n-1-e)%bz:=λh=>h2 ⟨by omega,h⟩;rw[hj]at xj go;have bZ:a≠b:=λh=>bj (by rw[h]);rw[ao bZ];rcases EO bj with ak|tG
  ·have hl:=NB xj ak;have e1:hJ a b=-1:=by unfold hJ;rw[ax hl]
   rw[e1];exact bO (id:=0) (go _ n_ (aOB o_ ak))
  ·have hl:=NB xj.symm tG;have e1:hJ a b=1:=by unfold hJ;rw[ao o_,ax hl]
   rw[e1];exact bO (id:=0) (go _ n_ (aOC o_ tG))
end
theorem Wd(h1:nd bz a<35184372088832)(h2:nd bz b<35184372088832):bw prog 134 [jM a,jM b] (.int .i64 (hJ a b)):=by
 have ha:=ek (B:=bz) d_ a;have hb:=ek (B:=bz) d_ b;have c7:nd bz a<nd bz b->a<b:=λh=>by
  rcases fm a b with h1|h1
  ·exact h1
  ·have:=jw (B:=bz) d_ h1;omega
 have dF:nd bz b<nd bz a->b<a:=λh=>by
  rcases fm b a with h1|h1
  ·exact h1
  ·have:=jw (B:=bz) d_ h1;omega
 have au:([jM a,jM b].all aL.ok)=true:=by simp[IG]
 unfold jM cD at au ⊢;generalize nd bz a=n at *;generalize nd bz b=m at *;by_cases lL:n=m
 ·subst lL;have lo:=λBs=>aOE (Bs:=Bs) ha hb h1;by_cases bZ:a=b
  ·simp only[ax bZ]at lo;have e1:hJ a b=0:=by unfold hJ;rw[ao o_,ao o_]
   rw[e1];exact iT mixed func134 au 100 (N:=41) k_ (λw=>[.rw 10 _ a_ (uj (x:=n) (y:=n) s_),.wr 18 .i64 ((n:Int)-1) ((n:Int)-1) (oW o_),.code 0 _ _ _ _ _ (lo _)]) (λw=>k_) rfl
  ·simp only[ao bZ]at lo;exact iT mixed func134 au 100 (N:=41) k_ (λw=>[.rw 10 _ a_ (uj (x:=n) (y:=n) s_),.wr 18 .i64 ((n:Int)-1) ((n:Int)-1) (oW o_),.code 0 _ _ _ _ _ (lo _)]) (λw=>k_) rfl
 ·rcases EO lL with ak|tG
  ·have e1:hJ a b=-1:=by unfold hJ;rw[ax (c7 ak)]
   rw[e1];exact iT mixed func134 au 100 (N:=41) k_ (λw=>[.rw 10 _ b_ (uj (x:=n) (y:=m) (aE lL)),.lt 15 n m true (aE ak)]) (λw=>k_) rfl
  ·have e1:hJ a b=1:=by unfold hJ;rw[ao (by have:=dF tG;omega),ax (dF tG)]
   rw[e1];exact iT mixed func134 au 100 (N:=41) k_ (λw=>[.rw 10 _ b_ (uj (x:=n) (y:=m) (aE lL)),.lt 15 n m false (aO o_)]) (λw=>k_) rfl
section
variable{Bs:aa}{m:Nat}{neg:Bool}
def DS(m i:Nat):aN:=[(5,vI i),(1,ptr 0),(4,.int .u64 ((m/256^(nd 256 m-i):Nat):Int))]
def DT(neg:Bool)(m:Nat):aH:=[(0,.aI [.bool neg,.string (BA (cG m))] 30)]
theorem aOF{m:Nat}(h:i<nd 256 m):∃ c,(BA (cG m))[nd 256 m-1-i]?=some c/\c.toNat=m/256^i%256:=by
 obtain⟨c,h1,h2⟩:=S4 (BA (cG m)) (i:=i) (by rw[oV,tS];exact h);rw[oV,tS]at h1;refine⟨c,h1,?_⟩;rw[h2]
 congr 2
 show ga (BA (cG m)).data.toList=m;exact Fj m
theorem aOG(hi:i<nd 256 m)(hm:nd 256 m<=7):
  af prog Bs 52 (aF (ag f163 0)) (DS m i) (DT neg m) 1 ⟨.normal,DS m (i+1),DT neg m,1⟩:=by
 have ak:m<256^7:=cF (ek (B:=256) d_ m) (df d_ hm);obtain⟨c,gw,dq⟩:=aOF (m:=m) (i:=nd 256 m-1-i) o_;have bC:(((BA (cG m)).size:Nat):Int)=(nd 256 m:Int):=by rw[oV,tS]
 unfold DS DT;generalize BA (cG m)=s at *;generalize nd 256 m=L at *;rw[show L-1-(L-1-i)=i by omega]at gw;obtain⟨j,hj⟩:∃ j,j=L-1-i:=⟨_,rfl⟩;have e1:L-i=j+1:=by omega
 have e2:L-(i+1)=j:=by omega
 rw[e1,e2];rw[<-hj]at dq;have hd:m/256^j=m/256^(j+1)*256+m/256^j%256:=xc m j;rw[<-dq]at hd;have hq:m/256^(j+1)<=m:=tP _ _;have qi:m/256^(j+1)*256<=m:=by rw[dD,<-kT];exact di (C8 _ _) (tP _ _)
 generalize m/256^(j+1)=x at *;generalize m/256^j=y at *;have hc3:=c.toNat_lt;have We:(256:Nat)^7=72057594037927936:=by decide
 rw[We]at ak;have ws:IntKind.u64.wrap ((x:Int)*2^8)=((x*256:Nat):Int):=by rw[show((x:Int)*2^8)=((x*256:Nat):Int)by simp,j9];omega
 have wc:IntKind.u64.wrap (c.toNat:Int)=(c.toNat:Int):=by rw[j9];omega
 have wa:IntKind.u64.wrap (((x*256:Nat):Int)+(c.toNat:Int))=(y:Int):=by rw[j9];omega
 exact aC [.rw 18 (.int .i64 (s.size:Int)) (vI L) (by rw[bC];rfl),.lt 19 i L true (aE hi),.wr 23 .u64 ((x:Int)*2^8) _ ws,.sx f163 27 s i c gw k_,.wr 28 .u64 (c.toNat:Int) _ wc,.wr 29 .u64 _ _ wa,.sum 21 i 1 (i+1) rfl o_]
theorem aOH(hm:nd 256 m<=7):af prog Bs 52 (.block 0 (ag f163 0)) (DS m 0) (DT neg m) 1 ⟨.normal,DS m (nd 256 m),DT neg m,1⟩:=
 bO (id:=0) (ch (b:=aF (ag f163 0)) (r:=⟨.exit 0,DS m (nd 256 m),DT neg m,1⟩) (nd 256 m) (DS m) (λ_=>DT neg m) (λ_ _ _=>Iff.rfl) (λk hk=>aOG hk hm)
  (aC [.rw 18 (.int .i64 ((BA (cG m)).size:Int)) (vI (nd 256 m)) (by rw[oV,tS];rfl),.lt 19 (nd 256 m) (nd 256 m) false s_]) n_)
end
theorem aOI{neg:Bool}(hv:neg=true->m≠0)(hm:nd 256 m<=7):aB prog 163 [sv neg m] (.tuple #[.int .i64 (sg neg m),.bool true]):=by
 have lo:=λBs=>aOH (Bs:=Bs) (neg:=neg) hm;have ak:m<256^7:=cF (ek (B:=256) d_ m) (df d_ hm);have We:(256:Nat)^7=72057594037927936:=by decide
 rw[We]at ak;have e0:m/256^(nd 256 m-0)=0:=mf (ek (B:=256) d_ m);have e1:m/256^(nd 256 m-nd 256 m)=m:=by rw[vL,sC,Fe]
 unfold DS at lo;simp only[e0,e1]at lo;have bC:(((BA (cG m)).size:Nat):Int)=(nd 256 m:Int):=by rw[oV,tS]
 have nr:=aWJ neg hv;unfold DT at lo;unfold sv oh at nr ⊢;generalize BA (cG m)=s at *;generalize nd 256 m=L at *;have hle:decide ((L:Int)>8)=false:=aO o_;cases neg
 ·have w:IntKind.i64.wrap (m:Int)=(m:Int):=by rw[dX];omega
  exact bo func163 (λ_=>[nr.at 7,.rw 12 (.int .i64 (s.size:Int)) (vI L) (by rw[bC];rfl),.rw 13 (.bool (decide ((L:Int)>8))) a_ (by rw[hle]),.code 0 _ _ _ _ _ (lo _),.rw 48 (.bool (decide ((m:Int)<9223372036854775808))) b_ (by rw[aE o_]),.wr 51 .i64 (m:Int) (m:Int) w])
 ·have w0:IntKind.u64.wrap ((m:Int)-1)=(m:Int)-1:=by have:=hv rfl;rw[j9];omega
  have w1:IntKind.i64.wrap ((m:Int)-1)=(m:Int)-1:=by rw[dX];omega
  have w2:IntKind.i64.wrap (0-((m:Int)-1))=1-(m:Int):=by rw[dX];omega
  have w3:IntKind.i64.wrap (1-(m:Int)-1)=sg true m:=by rw[dX];show _=-(m:Int);omega
  exact bo func163 (λ_=>[nr.at 7,.rw 12 (.int .i64 (s.size:Int)) (vI L) (by rw[bC];rfl),.rw 13 (.bool (decide ((L:Int)>8))) a_ (by rw[hle]),.code 0 _ _ _ _ _ (lo _),.rw 35 (.bool (decide ((m:Int)<=9223372036854775808))) b_ (by rw[aE o_]),.wr 38 .u64 _ _ w0,.wr 39 .i64 _ _ w1,.wr 40 .i64 _ _ w2,.wr 41 .i64 _ _ w3])
theorem Wf{neg:Bool}(hv:neg=true->m≠0)(hm:nd 256 m<=7):aB prog 118 [sv neg m] (.tuple #[.int .i64 (sg neg m),.bool true]):=by
 have h:=aOI hv hm;have bC:(((BA (cG m)).size:Nat):Int)=(nd 256 m:Int):=by rw[oV,tS]
 unfold sv oh at h ⊢;generalize BA (cG m)=s at *;generalize nd 256 m=L at *;exact bo func118 (λ_=>[.rw 8 (.int .i64 (s.size:Int)) (vI L) (by rw[bC];rfl),.rw 9 (.bool (decide ((L:Int)>7))) a_ (by rw[aO o_]),h.at 12])
theorem aOJ{neg:Bool}(hm:¬nd 256 m<=7):aB prog 118 [sv neg m] (.tuple #[.int .i64 0,.bool false]):=by
 have bC:(((BA (cG m)).size:Nat):Int)=(nd 256 m:Int):=by rw[oV,tS]
 unfold sv oh;generalize BA (cG m)=s at *;generalize nd 256 m=L at *;exact bo func118 (λ_=>[.rw 8 (.int .i64 (s.size:Int)) (vI L) (by rw[bC];rfl),.rw 9 (.bool (decide ((L:Int)>7))) b_ (by rw[aE o_])])
section
variable{Bs:aa}{N:Nat}
theorem aOK(m:Nat):(nd 256 m+2)/3=nd bz m:=by
 have e:bz=256^3:=by decide
 have h1:nd bz m<=(nd 256 m+2)/3:=jv d_ (by rw[e,<-sD];exact cF (ek (B:=256) d_ m) (df d_ o_))
 have h2:nd 256 m<=3*nd bz m:=jv d_ (by have:=ek (B:=bz) d_ m;rw[e,<-sD]at this;rw[e];exact this)
 omega
theorem IJ(h:nd 256 m<35184372088832):kY prog 119 [.p (oh m)] 3 1 (nd bz m) (cD m):=by
 have hs:(BA (cG m)).size=nd 256 m:=by rw[oV,tS]
 have hv:kC (BA (cG m))=m:=by show ga (BA (cG m)).data.toList=m;exact Fj m
 have:=aNX (s:=BA (cG m)) (by rw[hs];exact h);rw[hs,hv,aOK]at this;exact this
theorem nQ{x:Obj}(hr:x.reads=true)(hc:x.cells=cD a){nd':q_}(h:fW Bs l vs nd'):fW Bs (jM a::l) (sl k (nd bz a)::vs) ((k,some x)::nd'):=by unfold jM;rw[<-hc];exact .w hr (by rw[hc];exact s7 a) (λe=>by rw[hc];exact aNp e) h
def jo(a:Nat):Obj:=.row (cD a) 3 1
def aU.xY(fn:Func)(key k m:Nat)(h:nd 256 m<35184372088832)(ho:dC (aA fn key).op=some (.func 119)):aU prog Bs N:=
 .step key (aA fn key) [.func (.func 119) #[] #[],oh m] [(k,none)] (sl k (nd bz m)) [(k,jo m)] (qF (IJ h) (.p rfl .nil) ho k_ (s7 m) k)
def aU.aDM(fn:Func)(key k k1 k2 a b:Nat)(x1 x2:Obj)(uk:x1.reads=true)(gw:x1.cells=cD a)(nH:x2.reads=true)(dq:x2.cells=cD b)(h1:nd bz a<35184372088832)(h2:nd bz b<35184372088832)
  (ho:dC (aA fn key).op=some (.func 132)):aU prog Bs N:=
 .step key (aA fn key) [.func (.func 132) #[] #[],sl k1 (nd bz a),sl k2 (nd bz b)] [(k,none),(k1,some x1),(k2,some x2)] (sl k (nd bz (a+b))) [(k,jo (a+b))] (qF (aDB h1 h2) (nQ uk gw (nQ nH dq .nil)) ho k_ (s7 _) k)
def aU.LK(fn:Func)(key k k1 k2 a b:Nat)(x1 x2:Obj)(uk:x1.reads=true)(gw:x1.cells=cD a)(nH:x2.reads=true)(dq:x2.cells=cD b)(bZ:b<=a)(h1:nd bz a<35184372088832)
  (ho:dC (aA fn key).op=some (.func 135)):aU prog Bs N:=
 .step key (aA fn key) [.func (.func 135) #[] #[],sl k1 (nd bz a),sl k2 (nd bz b)] [(k,none),(k1,some x1),(k2,some x2)] (sl k (nd bz (a-b))) [(k,jo (a-b))] (qF (aOf bZ h1) (nQ uk gw (nQ nH dq .nil)) ho k_ (s7 _) k)
def aU.aOL(fn:Func)(key k k1 k2 a b:Nat)(x1 x2:Obj)(uk:x1.reads=true)(gw:x1.cells=cD a)(nH:x2.reads=true)(dq:x2.cells=cD b)(h:nd bz a+nd bz b<35184372088832)
  (ho:dC (aA fn key).op=some (.func 120)):aU prog Bs N:=
 .step key (aA fn key) [.func (.func 120) #[] #[],sl k1 (nd bz a),sl k2 (nd bz b)] [(k,none),(k1,some x1),(k2,some x2)] (sl k (nd bz (a*b))) [(k,jo (a*b))] (qF (V8 h) (nQ uk gw (nQ nH dq .nil)) ho k_ (s7 _) k)
def aU.IK(fn:Func)(key k1 k2 a b:Nat)(x1 x2:Obj)(uk:x1.reads=true)(gw:x1.cells=cD a)(nH:x2.reads=true)(dq:x2.cells=cD b)(h1:nd bz a<35184372088832)(h2:nd bz b<35184372088832)
  (ho:dC (aA fn key).op=some (.func 134)):aU prog Bs N:=
 .step key (aA fn key) [.func (.func 134) #[] #[],sl k1 (nd bz a),sl k2 (nd bz b)] [(k1,some x1),(k2,some x2)] (.int .i64 (hJ a b)) [] (pb (Wd h1 h2) (nQ uk gw (nQ nH dq .nil)) ho k_ rfl)
def aU.Aj(fn:Func)(key k1 a:Nat)(neg:Bool)(x1:Obj)(uk:x1.reads=true)(gw:x1.cells=cD a)(h1:nd bz a<35184372088832)
  (ho:dC (aA fn key).op=some (.func 117)):aU prog Bs N:=
 .step key (aA fn key) [.func (.func 117) #[] #[],.bool neg,sl k1 (nd bz a)] [(k1,some x1)] (aV (sg neg a)) [] (pb (aDJ neg (aOz h1)) (.p rfl (nQ uk gw .nil)) ho k_ rfl)
theorem xZ{n:Nat}(h:m<2^n):nd bz m<=n:=jv d_ (cF h (aAQ d_ n))
end
theorem aOM(h:decide (b<=a)=t):Value.bool (decide (hJ a b>=0))=.bool t:=by
 rw[<-h];congr 1;rw[pD];unfold hJ
 by_cases h1:a<b
 ·rw[ax h1];omega
 ·rw[ao h1];by_cases h2:b<a
  ·rw[ax h2];omega
  ·rw[ao h2];omega
theorem LL(h:nd 256 m<=7):m<72057594037927936:=by have ak:m<256^7:=cF (ek (B:=256) d_ m) (df d_ h);rwa[show(256:Nat)^7=72057594037927936 by decide]at ak
theorem IL(n:Bool)(m:Nat):-(m:Int)<=sg n m/\sg n m<=m:=by cases n<;>simp[sg]<;>omega
theorem IM{n:Bool}(v:n=true->m≠0):∃(t:Bool) (i:Int),decide (nd 256 m<=7)=t/\aB prog 118 [sv n m] (.tuple #[.int .i64 i,.bool t])/\-72057594037927936<i/\i<72057594037927936/\(t=true->i=sg n m):=by
 by_cases s:nd 256 m<=7
 ·have g:=IL n m;have l:=LL s;exact⟨true,_,aE s,Wf v s,by omega,by omega,λ_=>rfl⟩
 ·exact⟨false,_,aO s,aOJ s,by decide,by decide,λh=>by cases h⟩
theorem Wg{n:Nat}(hk:m<2^k)(hn:k<n):nd bz m<n:=eV (xZ hk) hn
theorem aW8{n1 n2:Bool}{p:Nat}(v1:n1=true->m1≠0)(v2:n2=true->m2≠0)(h1:m1<2^p)(h2:m2<2^q)(hp:p<=1099511627776)(hq:q<=1099511627776):
  aB prog 102 [sv n1 m1,sv n2 m2] (aV (sg n1 m1+sg n2 m2)):=by
 have b1:=xZ h1;have b2:=xZ h2;have c1:=vO h1;have c2:=vO h2;obtain⟨t1,i1,_,q1,l1,u1,g1⟩:=IM v1;obtain⟨t2,i2,_,q2,l2,u2,g2⟩:=IM v2;have bp:nd bz (m1+m2)<35184372088832:=by have e1:=df (show 0<2 by decide) (show p<=p+q by omega);have e2:=df (show 0<2 by decide) (show q<=p+q by omega);exact Wg (k:=p+q+1) (by rw[dD];omega) o_
 have k1:=jw (B:=bz) d_ (Fv m1 m2);have k2:=jw (B:=bz) d_ (Fv m2 m1);obtain⟨ge,a,b,fR,bZ,ha,e⟩:∃(ge:Bool) (a b:Nat),decide (m2<=m1)=ge/\b<=a/\(a=bif ge then m1 else m2)/\(b=bif ge then m2 else m1):=by
  by_cases h:m2<=m1
  ·exact⟨true,m1,m2,aE h,h,rfl,rfl⟩
  ·exact⟨false,m2,m1,aO h,by omega,rfl,rfl⟩
 subst ha e;have bm:nd bz ((bif ge then m1 else m2)-bif ge then m2 else m1)<35184372088832:=by cases ge<;>(dsimp only[cond];omega)
 have ba:nd bz (bif ge then m1 else m2)<35184372088832:=by cases ge<;>(dsimp only[cond];omega)
 have e:aV (sg n1 m1+sg n2 m2)=bif t1&&t2 then aV (i1+i2)else bif n1==n2 then aV (sg n1 (m1+m2))else aV (sg (bif ge then n1 else n2) ((bif ge then m1 else m2)-bif ge then m2 else m1)):=by
  cases t1<;>cases t2<;>try (rw[g1 rfl,g2 rfl];rfl)
  all_goals cases n1<;>cases n2<;>cases ge<;>simp[sg]at fR bZ ⊢<;>congr 1<;>omega
 rw[e];have w:=aWJ n1 v1;have w2:=aWJ n2 v2;refine eF mixed func102 100 (λ_=>[w.at 12,w2.at 16,q1.at 22]++(bif t1 then[q2.at 28]else[])++bif t1&&t2 then[.wr 34 .i64 (i1+i2) (i1+i2) (by rw[dX];omega),(aXm (z:=i1+i2) o_ o_).at 35]else
   [.xY f102 38 3 m1 o_ k_,.xY f102 41 4 m2 o_ k_]++bif n1==n2 then[.aDM f102 52 5 3 4 m1 m2 (jo m1) (jo m2) rfl rfl rfl rfl o_ o_ k_,.Aj f102 53 5 (m1+m2) n1 (jo (m1+m2)) rfl rfl bp k_]else
   [.IK f102 57 3 4 m1 m2 (jo m1) (jo m2) rfl rfl rfl rfl o_ o_ k_,.rw 58 _ (.bool ge) (aOM fR)]++
   bif ge then[.LK f102 63 5 3 4 _ _ (jo _) (jo _) rfl rfl rfl rfl bZ ba k_,.Aj f102 64 5 _ n1 (jo _) rfl rfl bm k_]else
   [.LK f102 69 5 4 3 _ _ (jo _) (jo _) rfl rfl rfl rfl bZ ba k_,.Aj f102 70 5 _ n2 (jo _) rfl rfl bm k_]) (λ_=>?_) k_ ?_<;>cases t1<;>cases t2<;>cases n1<;>cases n2<;>cases ge<;>kernel_rfl
theorem aWK{x y:Int}{p:Nat}(h1:x.natAbs<2^p)(h2:y.natAbs<2^q)(hp:p<=1099511627776)(hq:q<=1099511627776):aB prog 102 [aV x,aV y] (aV (x+y)):=by revert h1 h2;refine Fw (C:=λx y v u=>x.natAbs<2^p->y.natAbs<2^q->aB prog 102 [v,u] (aV (x+y))) (λn1 n2 m1 m2 v1 v2 h1 h2=>?_) x y;rw[qA]at h1 h2;exact aW8 v1 v2 h1 h2 hp hq
theorem aXf{x y:Int}{p:Nat}(h1:x.natAbs<2^p)(h2:y.natAbs<2^q)(hp:p<=1099511627776)(hq:q<=1099511627776):aB prog 64 [aV x,aV y] (aV (x-y)):=
 bo func64 (λ_=>[(aW9 x).at 6,(aW9 y).at 10,(aWV y).at 16,(aWK h1 (by rw[Kj];exact h2) hp hq).at 17])
theorem LM(m:Nat):Value.int .i64 ((BA (cG m)).size:Int)=vI (nd 256 m):=by rw[oV,tS];rfl
theorem aW7{x y:Int}{p:Nat}(h1:x.natAbs<2^p)(h2:y.natAbs<2^q)(hp:p<=1099511627776)(hq:q<=1099511627776):aB prog 65 [aV x,aV y] (aV (x*y)):=by
 revert h1 h2;refine Fw (C:=λx y v u=>x.natAbs<2^p->y.natAbs<2^q->aB prog 65 [v,u] (aV (x*y))) (λn1 n2 m1 m2 v1 v2 h1 h2=>?_) x y;rw[qA]at h1 h2;have b1:=xZ h1;have b2:=xZ h2;have c1:=vO h1;have c2:=vO h2;have k1:=ek (B:=256) d_ m1;have k2:=ek (B:=256) d_ m2;have r1:=LM m1;have r2:=LM m2;have e:sg n1 m1*sg n2 m2=sg (n1 !=n2) (m1*m2):=by cases n1<;>cases n2<;>simp[sg,HM,HN]
 obtain⟨t1,i1,d1,q1,_,_,g1⟩:=IM v1;obtain⟨t2,i2,d2,q2,_,_,g2⟩:=IM v2;have bs:nd bz (m1*m2)<35184372088832:=Wg (k:=p+q) (by rw[eP];exact qk h1 h2) o_;obtain⟨t,ht⟩:∃ t,decide (((nd 256 m1+nd 256 m2:Nat):Int)<=7)=t:=⟨_,rfl⟩;have e2:aV (sg n1 m1*sg n2 m2)=bif t then aV (IntKind.i64.wrap (i1*i2))else aV (sg (n1 !=n2) (m1*m2)):=by
  rw[e];cases t
  ·rfl
  have hs:=jz ht;rw[g1 (by rw[<-d1];exact aE o_),g2 (by rw[<-d2];exact aE o_),e,dX];have h:m1*m2<256^(nd 256 m1+nd 256 m2):=by rw[eP];exact qk k1 k2
  have h7:=df (n:=256) d_ (show nd 256 m1+nd 256 m2<=7 by omega);rw[show(256:Nat)^7=72057594037927936 by decide]at h7;have g:=IL (n1 !=n2) (m1*m2);show _=aV _
  congr 1;omega
 rw[e2];have hw:-9223372036854775808<=IntKind.i64.wrap (i1*i2)/\IntKind.i64.wrap (i1*i2)<9223372036854775808:=by rw[dX];omega
 have w:=aWJ n1 v1;have w2:=aWJ n2 v2;unfold sv oh at *;generalize hL1:nd 256 m1=L1 at *;generalize hL2:nd 256 m2=L2 at *;refine eF mixed func65 100 (λ_=>[w.at 10,w2.at 14,.rw 20 _ (vI L1) r1,.rw 23 _ (vI L2) r2,.sum 24 L1 L2 (L1+L2) rfl o_,.rw 25 (.bool (decide (((L1+L2:Nat):Int)<=7))) (.bool t) (by rw[ht])]++bif t then[q1.at 28,q2.at 33,.wr 38 .i64 (i1*i2) _ rfl,(aXm (z:=IntKind.i64.wrap (i1*i2)) o_ o_).at 39]else
   [.xY f65 47 3 m1 o_ k_,.xY f65 50 4 m2 o_ k_,.aOL f65 51 5 3 4 m1 m2 (jo m1) (jo m2) rfl rfl rfl rfl o_ k_,.Aj f65 52 5 (m1*m2) (n1 !=n2) (jo (m1*m2)) rfl rfl bs k_]) (λ_=>?_) k_ ?_<;>cases t<;>cases n1<;>cases n2<;>kernel_rfl
theorem aWu{x y:Int}{p:Nat}(h1:x.natAbs<2^p)(h2:y.natAbs<2^q)(hp:p<=1099511627776)(hq:q<=1099511627776):aB prog 116 [aV x,aV y] (.int .i64 (x-y).sign):=by
 have w1:=aW9 x;have w2:=aW9 y;have s1:=aWF x;have s2:=aWF y;have DU:∀ z:Int,z.sign=-1/\z<0\/z.sign=0/\z=0\/z.sign=1/\0<z:=λz=>by
  rcases Ox z 0 with h|h|h
  ·exact .inl ⟨Fu h,h⟩
  ·exact .inr (.inl ⟨by rw[h];rfl,h⟩)
  ·exact .inr (.inr ⟨zu h,h⟩)
 have b1:=xZ h1;have b2:=xZ h2;have c1:=vO h1;have c2:=vO h2;by_cases hs:x.sign=y.sign
 ·have ho:x.sign*hJ x.natAbs y.natAbs=(x-y).sign:=by unfold hJ;rcases DU x with ⟨a1,a2⟩|⟨a1,a2⟩|⟨a1,a2⟩<;>rcases DU y with ⟨d1,d2⟩|⟨d1,d2⟩|⟨d1,d2⟩<;>rcases DU (x-y)with ⟨f1,f2⟩|⟨f1,f2⟩|⟨f1,f2⟩<;>rw[a1,f1]<;>rw[a1,d1]at hs<;>first|(exfalso;omega)|(split<;>first|omega|(split<;>omega))
  have hw:IntKind.i64.wrap (x.sign*hJ x.natAbs y.natAbs)=(x-y).sign:=by rw[ho,dX];rcases DU (x-y)with ⟨f1,f2⟩|⟨f1,f2⟩|⟨f1,f2⟩<;>rw[f1]<;>rfl
  rw[<-hs]at s2;exact bo func116 (λ_=>[w1.at 8,w2.at 12,s1.at 16,s2.at 18,.rw 21 (.bool (x.sign !=x.sign)) a_ s_,.xY f116 28 2 x.natAbs o_ k_,.xY f116 31 3 y.natAbs o_ k_,.IK f116 32 2 3 x.natAbs y.natAbs (jo x.natAbs) (jo y.natAbs) rfl rfl rfl rfl o_ o_ k_,.wr 33 .i64 _ _ hw])
 ·have bj:(x.sign !=y.sign)=true:=rh.2 hs;by_cases ak:x.sign<y.sign
  ·have e:(x-y).sign=-1:=by rcases DU x with ⟨a1,a2⟩|⟨a1,a2⟩|⟨a1,a2⟩<;>rcases DU y with ⟨d1,d2⟩|⟨d1,d2⟩|⟨d1,d2⟩<;>rw[a1,d1]at ak<;>first|omega|exact Fu o_
   rw[e];exact bo func116 (λ_=>[w1.at 8,w2.at 12,s1.at 16,s2.at 18,.rw 21 (.bool (x.sign !=y.sign)) b_ (by rw[bj]),.rw 24 (.bool (decide (x.sign<y.sign))) b_ (by rw[aE ak])])
  ·have e:(x-y).sign=1:=by rcases DU x with ⟨a1,a2⟩|⟨a1,a2⟩|⟨a1,a2⟩<;>rcases DU y with ⟨d1,d2⟩|⟨d1,d2⟩|⟨d1,d2⟩<;>rw[a1,d1]at ak hs<;>first|omega|exact zu o_
   rw[e];exact bo func116 (λ_=>[w1.at 8,w2.at 12,s1.at 16,s2.at 18,.rw 21 (.bool (x.sign !=y.sign)) b_ (by rw[bj]),.rw 24 (.bool (decide (x.sign<y.sign))) a_ (by rw[aO ak])])

section
variable{P:j_}{B:aa}{N:Nat}
def Wh(o:Oper):Bool:=match o.op with
 |.call c=>match c.callee,c.args.toList with
  |.builtin .min,[_,_]=>true
  |_,_=>false
 |_=>false
theorem aON(ho:Wh o=true){r:Nat}(hr:r=min a b):cA P B o [vI a,vI b] [] (vI r) []:=by
 unfold Wh at ho;split at ho
 ·rename_i c bY;split at ho
  ·rename_i p q h1 h2;refine(Cu (λu hu=>by simp at hu;rcases hu with rfl|rfl<;>rfl) rfl λρ fY w _=>?_).step;obtain⟨ce,ar,at'⟩:=c;dsimp only at h1 h2;subst h1;have e1:ar=#[p,q]:=by rw[<-zK (xs:=ar),h2]
   subst e1;rw[bY]at fY;simp[Op.operands,Call.operands]at fY;simp[execOp,bY,resolve,invoke,builtin,Builtin.min_,Builtin.min2,fY.1,fY.2,vI,hr];split<;>omega
  ·cases ho
 ·cases ho
def aU.Qh(fn:Func)(key a b r:Nat)(hr:r=min a b)(ho:Wh (aA fn key)=true):aU P B N:=
 .step key (aA fn key) [vI a,vI b] [] (vI r) [] (aON ho hr)
theorem aOO{cells:ah}(iE:P.follows .mixedOrders=true)(hf:P.funcs[f]?=some fn)(hl:(l.all aL.ok)=true)(n:Nat){N:Nat}(hN:N=(eG 0 l).length+(fn.ntmps-(eG 0 l).length))
  (rs:∀ w,bL P (aa.at w) N) (h:∀ w,oQ (gO (P:=P) fn n (eG 0 l) (ji 0 l) (jB 0 l) (rs w)) [(k,.row cells ty size)]=oR (gO fn n (eG 0 l) (ji 0 l) (jB 0 l) (rs w)) (.tuple #[.slice (some ⟨k,0,some 7⟩) m 0,u]) [(k,.row cells ty size)])
  (hx:(cells.all flat)=true) (hlen:m*size<=cells.length) (nO:cells.take (m*size)=xs) (hu:flat u=true):DH P f l ty size m xs u:=by
 intro w vs cv;obtain⟨ι,c,h1,h2,h3,h4,h5,h6,h7⟩:=xJ cv (bd.1 hl) 0 _ _ (tH w) n_ (λ_ _=>rfl);refine uO iE hf hN n (h w) h6 h2 h4 h3 λay b9 v' w' hle hc hm dQ=>?_;obtain⟨cQ,rfl,aY⟩:=hc.uD;obtain⟨p,q,hp,h8,h9⟩:=js aY;have e:cQ=#[p,q]:=vF.1 (by rw[hp]);subst e;rw[h9.fk hu];have:=wZ hm (dQ (k,_) (aP ..)) h8 hlen (bd.1 hx);rw[nO]at this;exact⟨p,rfl,this,hm.base⟩
theorem aOP{x:m_}{n:Nat}{cells:ah}(ho:dC o.op=some x)(eY:fN P f=true)(hn:0<n)(cK:∀ v∈cells,flat v=true)(A5:∀ v∈xs,flat v=true)(hu:flat u=true)(kp:0<m)
  (h:∀ w g cap cur,w.heap[g]?=some (.cells cur ty (0,0))->n<=cap->cap<=maxLen->cur.size=cap*1->cur.toList.take cells.length=cells->Calls P f #[.slice (some ⟨g,0,none⟩) n cap] w λe w'=>∃ z c',e=.returned (.tuple #[.slice (some ⟨g,z,none⟩) m c',u])/\A4 g w w'/\(∃ fX,w'.heap[g]?=some (.cells fX ty (0,0))/\fX.size=cap*1)/\dp w' (.slice (some ⟨g,z,none⟩) m c') m xs) :
  cA P B o [.func (.func f) #[] #[],.slice (some ⟨k,0,some 7⟩) n 0] [(k,some (.row cells ty 1)),(j,none)] (.tuple #[.slice (some ⟨j,0,some 7⟩) m 0,u]) [(j,.view xs),(k,.dead)]:=by
 refine j7 (fi:=[]) (ca:=[]) ho eY λι c w hm jK args' aY=>?_;rw[jG,jh]at aY;obtain⟨v,rfl,hv⟩:=nB aY;have hk:c k=some (.row cells ty 1):=jK (k,_) s_;have hj:c j=none:=jK (j,none) s_;rcases hv.hZ rfl with ⟨_,h0,_⟩|⟨g,oo,cap,c',hb,lJ,mL,he⟩
 ·omega
 ·dsimp only at hb he;have kA:c'=cap:=by omega
  subst kA;obtain⟨l,q1,q2⟩:=hm.born k _ hk;rw[hb]at q1;injection q1 with q1;subst q1;rcases q2 with q2|⟨b,bE,cur,e1,l4,dP,fQ,jt⟩
  ·cases q2.1
  ·injection e1 with e1 e2 e3;subst e1;subst e2;subst e3;rw[he];refine(h w g c' cur l4 lJ dP fQ (nC jt cK)).mono ?_
   rintro e w' ⟨z,c2,rfl,qm,⟨fX,p1,p2⟩,jE⟩
   have m1:=hm.write (y:=.row [] ty 1) hk rfl hb qm.os qm.tape qm.output qm.size (λj hj E8=>qm.block j hj E8) (.inr ⟨g,c',fX,rfl,p1,dP,p2,.nil⟩) n_ rfl;have m2:=m1.kill k (by unfold bh;rw[ax rfl];exact n_);have bX:j≠k:=λe=>by rw[e,hk]at hj;cases hj
   have hj2:bh (bh c k (.row [] ty 1)) k .dead j=none:=by unfold bh;rw[ao bX,ao bX];exact hj
   obtain⟨ay,q1,q2,q3⟩:=yV m2 hj2 jE A5 (λb o c3 e j' y o' bE fK hy uN=>by
    injection e with e _ _;injection e with e;injection e with e _ _;subst e;unfold bh at fK;by_cases Qi:j'=k
    ·rw[ax Qi]at fK;injection fK with fK;subst fK;cases hy
    ·rw[ao Qi,ao Qi]at fK;exact Qi (hm.inj j' k y _ _ _ _ _ _ fK hy hk rfl uN hb))
   refine⟨ay,_,rfl,q1,.tup (.cons q3 (.cons (.same hu) .nil)),?_⟩;refine q2.ext λi=>?_;show bh (bh c k .dead) j (.view xs) i=_;unfold bh;by_cases h1:i=j
   ·rw[ax h1,ax h1]
   ·rw[ao h1,ao h1];by_cases h2:i=k
    ·rw[ax h2,ax h2]
    ·rw[ao h2,ao h2,ao h2]
theorem aDN(x:Int)(k:Nat)(hk:k<=62):IntKind.i64.wrap (((BitVec.ofInt IntKind.i64.bits x)&&& (BitVec.ofInt IntKind.i64.bits (((2^k-1:Nat)):Int))).toNat:Int)=x%((2^k:Nat):Int):=by
 show IntKind.i64.wrap (((BitVec.ofInt 64 x)&&& (BitVec.ofInt 64 (((2^k-1:Nat)):Int))).toNat:Int)=_;have h2:2^k<=2^62:=df d_ hk;have h62:(2:Nat)^62=4611686018427387904:=by decide
 have hp:0<2^k:=cI d_;have e1:(BitVec.ofInt 64 (((2^k-1:Nat)):Int)).toNat=2^k-1:=by rw[BitVec.toNat_ofInt];omega
 have e2:((BitVec.ofInt 64 x).toNat:Int)=x%18446744073709551616:=by rw[BitVec.toNat_ofInt];omega
 rw[BitVec.toNat_and,e1,Nat.and_two_pow_sub_one_eq_mod,dX];have hd:((2^k:Nat):Int) ∣ 18446744073709551616:=by refine⟨((2^(64-k):Nat):Int),?_⟩;rw[<-nY,<-eP,show k+(64-k)=64 by omega];rfl
 have e3:(((BitVec.ofInt 64 x).toNat%2^k:Nat):Int)=x%((2^k:Nat):Int):=by rw[Wi,e2,Int.emod_emod_of_dvd _ hd]
 have h3:(BitVec.ofInt 64 x).toNat%2^k<2^k:=cJ _ hp;rw[<-e3];omega
end
section
variable{Bs:aa}{n a d:Nat}
def aWt(n a d i:Nat):aN:=[(8,du i),(6,sl 1 n),(7,vI (a/bz^i%d)),(0,sl 0 n),(1,vI d)]
def aWY(n a d i:Nat):aH:=[(0,.view (al (ae bz n a))),(1,.row (al (gF bz n i (a/d))) 3 1)]
theorem aXj(hj:j<n)(hd:0<d)(mT:d<bz)(h63:n<35184372088832):
  af prog Bs 38 (aF (ag f207 0)) (aWt n a d (j+1)) (aWY n a d (j+1)) 2 ⟨.normal,aWt n a d j,aWY n a d j,2⟩:=by
 have bT:e9 prog 3 (al (gF bz n (j+1) (a/d))) j (vI (a/d/bz^j%bz))=some (al (gF bz n j (a/d))):=by rw[wj (by rw[Ny];exact hj),NA hj rfl]
 have k9:dO prog 3 (al (ae bz n a)) j=some (vI (a/bz^j%bz)):=dZ (eM hj);have hr:a/bz^(j+1)%d<d:=cJ _ hd;have hx:=gZ (B:=bz) d_ a j;obtain⟨q1,q2⟩:=ZI (B:=bz) d_ hd (jV mT) a j;have jY:bz=16777216:=rfl;unfold aWt aWY;generalize al (gF bz n (j+1) (a/d))=r0 at *;generalize al (gF bz n j (a/d))=r1 at *;generalize al (ae bz n a)=ra at *;generalize a/d/bz^j%bz=z at *;generalize a/bz^(j+1)%d=r at *;generalize a/bz^j%d=r' at *;generalize a/bz^j%bz=x at *;have nH:r<16777216:=by omega
 have hp:r*bz<281474976710656:=by rw[jY];omega
 generalize hpe:r*bz=p at *;have Dc:(d:Int)≠0:=by omega
 have w1:IntKind.i64.wrap (Int.tdiv ((p+x:Nat):Int) (d:Int))=(z:Int):=by have hq:(p+x)/d<=p+x:=tP _ _;rw[A8 o_,<-tO,q1,dX];omega
 have w2:Int.tmod ((p+x:Nat):Int) (d:Int)=(r':Int):=by rw[zk o_,<-Wi,q2]
 exact aC [.rw 15 (du (j+1)) (vI j) (ew j),.ge 16 j 0 true s_,.s9 20 r bz p hpe.symm o_,.rw 22 (du (j+1)) (vI j) (ew j),.ix f207 23 0 n j hj k_,.ld f207 24 3 0 j (.view ra) (vI x) rfl k9 k_,.sum 25 p x (p+x) rfl o_,.rw 27 (du (j+1)) (vI j) (ew j),.vK f207 30 .i64 ((p+x:Nat):Int) (d:Int) (z:Int) Dc w1 k_,.ix f207 31 1 n j hj k_,.st f207 100031 3 1 j (.row r0 3 1) (vI z) (.row r1 3 1) rfl bT rfl k_,.E9 f207 34 .i64 ((p+x:Nat):Int) (d:Int) (r':Int) Dc w2 k_,.rw 17 (du (j+1)) (vI j) (ew j),.wr 18 .i64 ((j:Int)-1) ((j:Int)-1) (oW o_)]
theorem aW5(hd:0<d)(mT:d<bz)(h63:n<35184372088832):
  af prog Bs 38 (.block 0 (ag f207 0)) (aWt n a d n) (aWY n a d n) 2 ⟨.normal,aWt n a d 0,aWY n a d 0,2⟩:=by
 have:=ch (P:=prog) (B:=Bs) (N:=38) (b:=aF (ag f207 0)) (next:=2) (r:=⟨.exit 0,aWt n a d 0,aWY n a d 0,2⟩) n (λi=>aWt n a d (n-i)) (λi=>aWY n a d (n-i))
  (λi k _=>j6 (l:=aWY n a d (n-i)) (m:=aWY n a d (n-0)) rfl k)
  (λi hi=>by
   have e:n-i=(n-(i+1))+1:=by omega
   simp only[e];exact aXj o_ hd mT h63)
  (by
   have e:n-n=0:=by omega
   simp only[e];exact aC [.rw 16 (.bool (decide (((0:Nat):Int)-1>=0))) a_ rfl]) n_
 exact bO this
end
theorem aDO(hd:0<d)(mT:d<bz)(h1:nd bz a<35184372088832):DH prog 207 [jM a,.p (vI d)] 3 1 (nd bz (a/d)) (cD (a/d)) (vI (a%d)):=by
 have ha:=ek (B:=bz) d_ a;have au:([jM a,aL.p (vI d)].all aL.ok)=true:=by simp[IG];rfl
 unfold jM cD at au ⊢;change DH _ _ _ _ _ _ (cD (a/d)) _;generalize nd bz a=n at *;have hs:a/d<bz^n:=eV (tP _ _) ha;have e0:a/bz^n%d=0:=by rw[mf ha];exact Nat.zero_mod _
 have e1:a/bz^0%d=a%d:=by rw[sC,Fe]
 have lo:=λBs=>aW5 (Bs:=Bs) (n:=n) (a:=a) hd mT h1;have ez:List.replicate n (vI 0)=al (gF bz n n (a/d)):=by rw[Nz,Lv]
 unfold aWt aWY at lo;rw[e0,e1,<-ez,JX]at lo;generalize a%d=r at *;exact aOO (k:=1) mixed func207 au 100 (N:=38) k_ (λw=>[.qj f207 11 1 n 3 8 (vI 0) (List.replicate n (vI 0)) rfl rfl rfl o_ (by simp[maxLen];omega) k_,.wr 14 .i64 ((n:Int)-1) ((n:Int)-1) (oW o_),.code 0 _ _ _ _ _ (lo _),.DN f207 36 1 n (a/d) (.row (al (ae bz n (a/d))) 3 1) rfl rfl hs o_ k_])
   (λw=>k_) (iv _) (Gh hs) (B9 hs) rfl
section
variable{B:Nat}
def sX(B U V q i:Nat):Int:=((U%B^i:Nat):Int)-(q:Int)*((V%B^i:Nat):Int)
def rL(B U V q i:Nat):Int:=sX B U V q i/((B^i:Nat):Int)
theorem aOQ(U V q:Nat):rL B U V q 0=0:=by simp[rL,sX,tL]
theorem aOR(U V q i:Nat):sX B U V q (i+1)=sX B U V q i+(((U/B^i%B:Nat):Int)-(q:Int)*((V/B^i%B:Nat):Int))*((B^i:Nat):Int):=by unfold sX;rw[pE U i,pE V i];simp only[vM,nY,Int.sub_mul,Int.mul_add,LN];omega
theorem Wj(hB:0<B)(U V q i:Nat):rL B U V q i+(((U/B^i%B:Nat):Int)-(q:Int)*((V/B^i%B:Nat):Int))=sX B U V q (i+1)/((B^i:Nat):Int):=by
 have hp:((B^i:Nat):Int)≠0:=by have:=cI (n:=i) hB;omega
 rw[aOR,aAV _ _ hp];rfl
theorem aOS(hB:0<B)(U V q i:Nat):(rL B U V q i+(((U/B^i%B:Nat):Int)-(q:Int)*((V/B^i%B:Nat):Int)))/(B:Int)=rL B U V q (i+1):=by
 have hp:(0:Int)<=((B^i:Nat):Int):=by omega
 rw[Wj hB,Int.ediv_ediv_of_nonneg hp];unfold rL
 congr 1
theorem aOT(hB:0<B)(U V q i:Nat):(sX B U V q i)%((B^i:Nat):Int)=((U:Int)-(q:Int)*(V:Int))%((B^i:Nat):Int):=by
 unfold sX;have e1:(U:Int)=((U%B^i:Nat):Int)+((B^i:Nat):Int)*((U/B^i:Nat):Int):=by rw[<-nY,<-vM,Nat.mod_add_div]
 have e2:(V:Int)=((V%B^i:Nat):Int)+((B^i:Nat):Int)*((V/B^i:Nat):Int):=by rw[<-nY,<-vM,Nat.mod_add_div]
 have e3:(U:Int)-(q:Int)*(V:Int)=(((U%B^i:Nat):Int)-(q:Int)*((V%B^i:Nat):Int))+((B^i:Nat):Int)*(((U/B^i:Nat):Int)-(q:Int)*((V/B^i:Nat):Int)):=by
  conv=>lhs;rw[e1,e2]
  rw[Int.mul_add,Int.mul_sub,Int.mul_left_comm (q:Int) ((B^i:Nat):Int)];omega
 rw[e3,aOU]
theorem aOV(hB:0<B){V:Nat}(hq:q*V<=U+B^(m+1)):((gg B m U V q:Nat):Int)=((U:Int)-(q:Int)*(V:Int))%((B^(m+1):Nat):Int):=by
 unfold gg;rw[Wi,Int.natCast_sub hq,vM,nY];have:(U:Int)+((B^(m+1):Nat):Int)-(q:Int)*(V:Int)=((U:Int)-(q:Int)*(V:Int))+((B^(m+1):Nat):Int):=by omega
 rw[this,Int.add_emod_right]
theorem aOW(hB:0<B){V:Nat}(hq:q*V<=U+B^(m+1))(hi:i<=m):
  (rL B U V q i+(((U/B^i%B:Nat):Int)-(q:Int)*((V/B^i%B:Nat):Int)))%(B:Int)=((gg B m U V q/B^i%B:Nat):Int):=by
 rw[Wj hB];have hp:(0:Int)<=((B^i:Nat):Int):=by omega
 have iQ:0<((B^i:Nat):Int):=by have:=cI (n:=i) hB;omega
 -- both are the same digit of the number aWb B^(i+1)
 have key:∀ x y:Int,x%((B^(i+1):Nat):Int)=y%((B^(i+1):Nat):Int)->x/((B^i:Nat):Int)%(B:Int)=y/((B^i:Nat):Int)%(B:Int):=by
  intro x y h;have one:∀ z:Int,z/((B^i:Nat):Int)%(B:Int)=z%((B^(i+1):Nat):Int)/((B^i:Nat):Int):=by
   intro z;have e:=Int.emod_add_mul_ediv z ((B^(i+1):Nat):Int);have hs:((B^(i+1):Nat):Int)=((B^i:Nat):Int)*(B:Int):=by rw[dD,nY]
   have e2:z/((B^i:Nat):Int)=z%((B^(i+1):Nat):Int)/((B^i:Nat):Int)+(B:Int)*(z/((B^(i+1):Nat):Int)):=by
    have h3:z=z%((B^(i+1):Nat):Int)+((B^i:Nat):Int)*((B:Int)*(z/((B^(i+1):Nat):Int))):=by rw[<-LN,<-hs];exact e.symm
    conv=>lhs;rw[h3]
    rw[Int.add_mul_ediv_left _ _ o_]
   rw[e2,aOU];refine Int.emod_eq_of_lt (Int.ediv_nonneg (Int.emod_nonneg _ (by have:=cI (n:=i+1) hB;omega)) hp) ?_;have h4:z%((B^(i+1):Nat):Int)<((B^(i+1):Nat):Int):=Int.emod_lt_of_pos _ (by have:=cI (n:=i+1) hB;omega);rw[hs]at h4;exact Int.ediv_lt_of_lt_mul iQ (by rw[TW];exact h4)
  rw[one,one,h]
 have h1:=key (sX B U V q (i+1)) ((gg B m U V q:Nat):Int) (by
  rw[aOT hB,aOV hB hq];have hd:((B^(i+1):Nat):Int) ∣ ((B^(m+1):Nat):Int):=by refine⟨((B^(m-i):Nat):Int),?_⟩;rw[<-nY,<-eP];congr 2;omega
  rw[Int.emod_emod_of_dvd _ hd])
 rw[h1];simp only[Wi,tO]
theorem aOX(hB:0<B){V:Nat}(hV:V<B^m)(hU:U<V*B)(hb:q*V<U+V):
  rL B U V q m+((U/B^m%B:Nat):Int)=if U<q*V then -1 else((gg B m U V q/B^m%B:Nat):Int):=by
 have C9:U<B^(m+1):=by rw[dD];exact cF hU (eh _ (jV hV))
 have Tr:V<=B^(m+1):=di (jV hV) (df hB o_);have hp:0<B^m:=cI hB;have h0:V/B^m%B=0:=rf hV (bA _) hB;have h1:=Wj hB U V q m;rw[h0,Int.natCast_zero,Int.mul_zero,Int.sub_zero]at h1;rw[h1];unfold sX;rw[dU C9,dU (cF hV (df hB o_))];by_cases h:U<q*V
 ·rw[ax h];have e:(U:Int)-(q:Int)*(V:Int)=((U+B^m-q*V:Nat):Int)+((B^m:Nat):Int)*(-1):=by have:((q*V:Nat):Int)=(q:Int)*(V:Int):=nY ..;omega
  rw[e,Int.add_mul_ediv_left _ _ o_,<-tO,mf o_];rfl
 ·rw[ao h];have e:(U:Int)-(q:Int)*(V:Int)=((U-q*V:Nat):Int):=by have:((q*V:Nat):Int)=(q:Int)*(V:Int):=nY ..;omega
  have e2:gg B m U V q=U-q*V:=by
   unfold gg;have:U+B^(m+1)-q*V=(U-q*V)+B^(m+1):=by omega
   rw[this,Kd,dU o_]
  have ak:(U-q*V)/B^m<B:=by rw[iG hp,cP B,<-dD];show U-q*V<B^(m+1);omega
  rw[e,e2,dU ak,<-tO]
theorem aOY(hB:0<B){V:Nat}(hV:V<B^m)(hU:U<V*B)(hb:q*V<U+V)(h:U<q*V):eZ B (gg B m U V q) V m=1:=by
 have Tr:V<=B^m:=jV hV;have hp:0<B^m:=cI hB;have hs:B^(m+1)=B^m*B:=dD ..;have C9:U<B^(m+1):=by rw[hs];exact cF hU (eh _ Tr)
 have hBm:B^m<=B^(m+1):=df hB o_;obtain⟨t,ht⟩:∃ t,t=q*V-U:=⟨_,rfl⟩;have e1:gg B m U V q=B^(m+1)-t:=by unfold gg;rw[dU o_];omega
 have e2:(B^(m+1)-t)%B^m=B^m-t:=by
  obtain⟨c,hc⟩:∃ c,B=c+1:=⟨B-1,by omega⟩;have:B^(m+1)-t=(B^m-t)+B^m*c:=by
   have e3:B^m*B=B^m*c+B^m:=by rw[<-Nv,Nat.succ_eq_add_one,<-hc]
   rw[hs,e3];omega
  rw[this,E5,dU o_]
 unfold eZ;rw[e1,e2,dU hV];have:B^m-t+V=(V-t)+1*B^m:=by omega
 rw[this,pF _ _ hp,mf o_]
end
theorem aDP{B:Nat}(hB:0<B)(U V q i:Nat):-(q:Int)<=rL B U V q i/\rL B U V q i<=0:=by
 unfold rL sX;have hp:0<B^i:=cI hB;have h1:U%B^i<B^i:=cJ _ hp;have h2:V%B^i<B^i:=cJ _ hp;have h3:=jJ q (jV h2);generalize U%B^i=u at *;generalize V%B^i=v at *;have e1:(q:Int)*(v:Int)=((q*v:Nat):Int):=by simp
 rw[e1];generalize q*v=s at *;generalize B^i=b at *;constructor
 ·rw[Int.le_ediv_iff_mul_le o_];have:-(q:Int)*(b:Int)=-((q*b:Nat):Int):=by simp[HM]
  rw[this];omega
 ·have:((u:Int)-(s:Int))/(b:Int)<1:=Int.ediv_lt_of_lt_mul o_ o_;omega
section
variable{Bs:aa}{e L j T v1 v2 u2:Nat}{ru rv:ah}
def x7(e L j T q:Nat):aN:=[(15,vI q),(9,sl 3 (e+2)),(10,vI (e+2)),(14,vI T),(11,sl 8 L),(13,du (j+1))]
def x8(ru rv:ah):aH:=[(8,.row ru 3 1),(3,.row rv 3 1)]
structure GU(e L j T v1 v2 u2:Nat)(ru rv:ah):Prop where
 hL:j+(e+2)+1<=L
 l1:dO prog 3 rv (e+1)=some (vI v1)
 l0:dO prog 3 rv e=some (vI v2)
 lu:dO prog 3 ru (j+e)=some (vI u2)
 b1:v1<bz
 b0:v2<bz
 bu:u2<bz
 h63:L<35184372088832
noncomputable def Wk(g:GU e L j T v1 v2 u2 ru rv)(q r:Nat)(hq:q<bz)(hr:q*v1+r=T)(nH:r<2*bz)(t:Bool)(ht:decide (r*bz+u2<q*v2)=t)(more:bL prog Bs 238):bL prog Bs 238:=
 .fh 102 (e+2) 2 e o_ (by have:=g.hL;have:=g.h63;omega)::.ix f178 103 3 (e+2) e o_ k_::.ld f178 104 3 3 e (.row rv 3 1) (vI v2) rfl g.l0 k_::
 .s9 105 q v2 (q*v2) rfl (by
  have:=qk hq g.b0;have jY:bz*bz=281474976710656:=by decide
  omega)::.fh 110 (e+2) 1 (e+1) o_ (by have:=g.hL;have:=g.h63;omega)::.ix f178 111 3 (e+2) (e+1) o_ k_::.ld f178 112 3 3 (e+1) (.row rv 3 1) (vI v1) rfl g.l1 k_::
 .s9 113 q v1 (q*v1) rfl (by
  have:=qk hq g.b1;have jY:bz*bz=281474976710656:=by decide
  omega)::.fh 114 T (q*v1) r o_ (by
  have:=qk hq g.b1;have jY:bz*bz=281474976710656:=by decide
  have jY:bz=16777216:=rfl;omega)::.s9 115 r bz (r*bz) rfl (by
  have jY:bz=16777216:=rfl;rw[jY];omega)::.rw 117 (du (j+1)) (vI j) (ew j)::.sum 119 j (e+2) (j+(e+2)) rfl (by have:=g.hL;have:=g.h63;omega)::.fh 120 (j+(e+2)) 2 (j+e) o_ (by have:=g.hL;have:=g.h63;omega)::
 .ix f178 121 8 L (j+e) (by have:=g.hL;omega) k_::.ld f178 122 3 8 (j+e) (.row ru 3 1) (vI u2) rfl g.lu k_::.sum 123 (r*bz) u2 (r*bz+u2) rfl (by have:=g.bu;have jY:bz=16777216:=rfl;rw[jY];omega)::.gt 124 (q*v2) (r*bz+u2) t ht::more
noncomputable def aDQ(g:GU e L j T v1 v2 u2 ru rv)(q r:Nat)(hq:q<bz)(hr:q*v1+r=T)(nH:r<2*bz)(t:Bool)(ht:decide (r<bz)=t)(more:bL prog Bs 238):bL prog Bs 238:=
 .fh 130 (e+2) 1 (e+1) o_ (by have:=g.hL;have:=g.h63;omega)::.ix f178 131 3 (e+2) (e+1) o_ k_::.ld f178 132 3 3 (e+1) (.row rv 3 1) (vI v1) rfl g.l1 k_::
 .s9 133 q v1 (q*v1) rfl (by
  have:=qk hq g.b1;have jY:bz*bz=281474976710656:=by decide
  omega)::.fh 134 T (q*v1) r o_ (by
  have:=qk hq g.b1;have jY:bz*bz=281474976710656:=by decide
  have jY:bz=16777216:=rfl;omega)::.lt 135 r bz t ht::more
theorem aOZ(g:GU e L j T v1 v2 u2 ru rv){r:Nat}(hq:q+1<bz)(hr:(q+1)*v1+r=T)(nH:r<bz)(ht:r*bz+u2<(q+1)*v2):
  af prog Bs 238 (aF (ag f178 2)) (x7 e L j T (q+1)) (x8 ru rv) 10 ⟨.normal,x7 e L j T q,x8 ru rv,10⟩:=
 fB mixed 200 (Wk g (q+1) r hq hr o_ true (aE ht) (aDQ g (q+1) r hq hr o_ true (aE nH) [.fh 138 (q+1) 1 q rfl (by have jY:bz=16777216:=rfl;omega)])) k_
theorem aO0(g:GU e L j T v1 v2 u2 ru rv){r:Nat}(hq:q<bz)(hr:q*v1+r=T)(nH:r<2*bz)(ht:¬r*bz+u2<q*v2):
  af prog Bs 238 (aF (ag f178 2)) (x7 e L j T q) (x8 ru rv) 10 ⟨.exit 2,x7 e L j T q,x8 ru rv,10⟩:=
 fB mixed 200 (Wk g q r hq hr nH false (aO ht) []) k_
theorem aO1(g:GU e L j T v1 v2 u2 ru rv){r:Nat}(hq:q<bz)(hr:q*v1+r=T)(nH:r<2*bz)(ht:r*bz+u2<q*v2)(O1:¬r<bz):
  af prog Bs 238 (aF (ag f178 2)) (x7 e L j T q) (x8 ru rv) 10 ⟨.exit 2,x7 e L j T q,x8 ru rv,10⟩:=
 fB mixed 200 (Wk g q r hq hr nH true (aE ht) (aDQ g q r hq hr nH false (aO O1) [])) k_
theorem aO2(g:GU e L j T v1 v2 u2 ru rv){V:Nat}(h:mh bz e U V T u2 v1 v2)(pI:n2=min (T/v1) (bz-1)):
  ∃ q,q<bz/\q*V<U+V/\U/V<=q/\∀ Bs,af prog Bs 238 (.block 2 (ag f178 2)) (x7 e L j T n2) (x8 ru rv) 10 ⟨.normal,x7 e L j T q,x8 ru rv,10⟩:=by
 have jY:bz=16777216:=rfl;have kN:0<v1:=by have:=h.top;omega
 have qN:=h.small;have bT:=h.start;have aWc:n2<bz:=by rw[pI];exact eV (Nat.min_le_right _ _) o_
 have aWd:n2*v1<=T:=by
  have h1:n2<=T/v1:=by rw[pI];exact Nat.min_le_left _ _
  exact di (eh _ h1) (C8 _ _)
 obtain⟨r0,oj⟩:∃ r0,r0=T-n2*v1:=⟨_,rfl⟩;have g0:Bg U V T v1 n2 r0:=⟨by omega,by rw[pI];exact Nat.le_min.2 ⟨bT.le,by omega⟩⟩
 have aO3:r0<2*bz:=by
  have hTb:T<v1*bz+bz:=by
   have h1:U<V*bz:=h.hU;rw[h.hT,iG (cI d_)];have h2:V<(v1+1)*bz^(e+1):=by rw[h.kN];exact(iG (cI d_)).1 (Hy _)
   have h3:=Bh h2 (show 0<bz by decide);have h4:(v1+1)*bz^(e+1)*bz=(v1*bz+bz)*bz^(e+1):=by rw[Bk,fF v1 1 bz,ql]
   omega
  by_cases hc:T/v1<=bz-1
  ·have e1:n2=T/v1:=by rw[pI];exact nZ hc
   have e2:r0=T%v1:=by have:=jx T v1;rw[oj,e1,cP];omega
   have:=cJ T kN;have:=h.C6;omega
  ·have e1:n2=bz-1:=by rw[pI];exact Wl o_
   obtain⟨k,hk⟩:∃ k,bz=k+1:=⟨bz-1,by omega⟩;have e2:n2*v1+v1=v1*bz:=by rw[e1,hk,NZ,cP v1,fF,ql]
   have:=h.C6;omega
 obtain⟨c,c1,c2,c3⟩:=yZ (λi=>¬((r0+i*v1)*bz+u2<(n2-i)*v2/\r0+i*v1<bz)) n2 (by rw[vL,kS];omega)
 have inv:∀ i,i<=c->Bg U V T v1 (n2-i) (r0+i*v1)/\r0+i*v1<2*bz/\i<=n2:=by
  intro i;induction i with
  |zero=>intro _;rw[Hc,kS,jd];exact⟨g0,aO3,jH _⟩
  |succ i ih=>
   intro hi;obtain⟨i1,i2,i3⟩:=ih o_;obtain⟨k1,k2⟩:=Fc.1 (c3 i o_);obtain⟨l1,l2⟩:=h.less i1 (.inr k1);have e1:r0+(i+1)*v1=r0+i*v1+v1:=by rw[fF,ql];omega
   have e2:n2-(i+1)=n2-i-1:=by omega
   have:=h.C6;rw[e1,e2];exact⟨l2,by omega,by omega⟩
 obtain⟨gc,gb,gq⟩:=inv c (bA _);have DW:=h.fin gc (by
  by_cases k1:(r0+c*v1)*bz+u2<(n2-c)*v2
  ·exact .inr (O9 λk2=>c2 ⟨k1,k2⟩)
  ·exact .inl ⟨by omega,by omega⟩)
 refine⟨n2-c,DW.1,DW.2,gc.le,λBs=>?_⟩
 have:=ch (P:=prog) (B:=Bs) (N:=238) (b:=aF (ag f178 2)) (next:=10) (r:=⟨.exit 2,x7 e L j T (n2-c),x8 ru rv,10⟩) c (λi=>x7 e L j T (n2-i)) (λ_=>x8 ru rv) (λ_ _ _=>Iff.rfl)
  (λi hi=>by
   obtain⟨i1,i2,i3⟩:=inv i o_;obtain⟨j1,j2,j3⟩:=inv (i+1) o_;obtain⟨k1,k2⟩:=Fc.1 (c3 i hi);obtain⟨q,hq⟩:∃ q,n2-i=q+1:=⟨n2-i-1,by omega⟩;have BQ:n2-(i+1)=q:=by omega
   simp only[hq,BQ]at i1 k1 ⊢;exact aOZ g o_ i1.eq k2 k1)
  (by
   by_cases k1:(r0+c*v1)*bz+u2<(n2-c)*v2
   ·exact aO1 g o_ gc.eq gb k1 (λk2=>c2 ⟨k1,k2⟩)
   ·exact aO0 g o_ gc.eq gb k1) n_
 exact bO (id:=2) this
end
theorem aDR(x:Int):IntKind.i64.wrap (((BitVec.ofInt IntKind.i64.bits x)&&& (BitVec.ofInt IntKind.i64.bits 16777215)).toNat:Int)=x%16777216:=aDN x 24 d_
theorem aDS(x:Int):x.fdiv ((2:Int)^24)=x/16777216:=sB _ d_
section
variable{Bs:aa}{e L j U V q R D:Nat}{rv:ah}
def DX(e L j U V q i:Nat):aN:=[(16,.int .i64 (rL bz U V q i)),(17,vI i),(10,vI (e+2)),(11,sl 8 L),(13,du (j+1)),(15,vI q),(9,sl 3 (e+2))]
def pR(L j R D i:Nat):ah:=al (dc bz L (j+i) (gn bz j R D) R)
def Ak(L j R D i:Nat)(rv:ah):aH:=[(8,.row (pR L j R D i) 3 1),(3,.row rv 3 1)]
structure SU(e L j U V q R D:Nat)(rv:ah):Prop where
 hL:j+(e+2)+1<=L
 hU:U=R/bz^j
 x9:rv=al (ae bz (e+2) V)
 hq:q<bz
 hD:D=gg bz (e+2) U V q
 LO:q*V<=U+bz^(e+2+1)
 h63:L<35184372088832
theorem aO4(g:SU e L j U V q R D rv)(hi:i<e+2):
  af prog Bs 238 (aF (ag f178 4)) (DX e L j U V q i) (Ak L j R D i rv) 10 ⟨.normal,DX e L j U V q (i+1),Ak L j R D (i+1) rv,10⟩:=by
 have h63:=g.h63;have hL:=g.hL;have hq:=g.hq;have hc:=aDP (B:=bz) d_ U V q i;have hs:=aOW (B:=bz) d_ (i:=i) g.LO o_;rw[<-g.hD]at hs;have dq:=aOS (B:=bz) d_ U V q i;have Wm:dO prog 3 (pR L j R D i) (j+i)=some (vI (U/bz^i%bz)):=by have:=dZ (CL (B:=bz) (n:=L) (i:=j+i) (s:=gn bz j R D) (p:=R) (j:=j+i) o_ (bA _));rw[HA,<-g.hU]at this;exact this
 have Wn:dO prog 3 rv i=some (vI (V/bz^i%bz)):=by rw[g.x9];exact dZ (eM hi)
 have bT:e9 prog 3 (pR L j R D i) (j+i) (vI (D/bz^i%bz))=some (pR L j R D (i+1)):=by unfold pR;rw[wj (by rw[xb];omega),y0 o_ (xq d_ j R D i).symm];rfl
 have hu:=gZ (B:=bz) d_ U i;have hv:=gZ (B:=bz) d_ V i;have jY:bz=16777216:=rfl;have aO5:((bz:Nat):Int)=16777216:=rfl;rw[aO5]at hs dq;unfold DX Ak;generalize pR L j R D (i+1)=r1 at *;generalize pR L j R D i=r0 at *;generalize rL bz U V q (i+1)=c' at *;generalize rL bz U V q i=c at *;generalize D/bz^i%bz=z at *;generalize U/bz^i%bz=u at *;generalize V/bz^i%bz=v at *;have hp:=qk hq hv;rw[show bz*bz=281474976710656 by decide]at hp;have e1:(q:Int)*(v:Int)=((q*v:Nat):Int):=by simp
 rw[e1]at hs dq;generalize LP:q*v=p at *;have w1:IntKind.i64.wrap ((u:Int)-(p:Int))=(u:Int)-(p:Int):=by rw[dX];omega
 have w2:IntKind.i64.wrap (c+((u:Int)-(p:Int)))=c+((u:Int)-(p:Int)):=by rw[dX];omega
 generalize hx:c+((u:Int)-(p:Int))=x at *;have w3:=aDR x;rw[hs]at w3;have w4:=aDS x;rw[dq]at w4;exact fB mixed 200 [.lt 141 i (e+2) true (by simp[hi]),.rw 146 (du (j+1)) (vI j) (ew j),.sum 148 j i (j+i) rfl o_,.ix f178 149 8 L (j+i) o_ k_,.ld f178 150 3 8 (j+i) (.row r0 3 1) (vI u) rfl Wm k_,.ix f178 154 3 (e+2) i hi k_,.ld f178 155 3 3 i (.row rv 3 1) (vI v) rfl Wn k_,.s9 156 q v p LP.symm o_,.wr 157 .i64 _ _ w1,.wr 158 .i64 (c+((u:Int)-(p:Int))) x (by rw[hx];exact w2),.rw 160 (du (j+1)) (vI j) (ew j),.sum 162 j i (j+i) rfl o_,.wr 164 .i64 _ (z:Int) w3,.ix f178 165 8 L (j+i) o_ k_,.st f178 100165 3 8 (j+i) (.row r0 3 1) (vI z) (.row r1 3 1) rfl bT rfl k_,.quo 167 .i64 _ c' w4,.sum 143 i 1 (i+1) rfl o_] k_
theorem aO6(g:SU e L j U V q R D rv):af prog Bs 238 (.block 4 (ag f178 4)) (DX e L j U V q 0) (Ak L j R D 0 rv) 10 ⟨.normal,DX e L j U V q (e+2),Ak L j R D (e+2) rv,10⟩:=
 bO (id:=4) (ch (b:=aF (ag f178 4)) (r:=⟨.exit 4,DX e L j U V q (e+2),Ak L j R D (e+2) rv,10⟩) (e+2) (DX e L j U V q) (λi=>Ak L j R D i rv) (λk t _=>j6 (l:=Ak L j R D k rv) (m:=Ak L j R D 0 rv) rfl t) (λk hk=>aO4 g hk)
  (fB mixed 200 [.lt 141 (e+2) (e+2) false s_] k_) n_)
def DY(e L j V D q i:Nat):aN:=[(16,vI (eZ bz D V i)),(18,vI i),(10,vI (e+2)),(11,sl 8 L),(13,du (j+1)),(15,vI q),(9,sl 3 (e+2))]
def qO(L j R D E m i:Nat):ah:=(al (dc bz L (j+i) (gn bz j R E) (gn bz j R D))).set (j+m) (.int .i64 (-1))
def Al(L j R D E m i:Nat)(rv:ah):aH:=[(8,.row (qO L j R D E m i) 3 1),(3,.row rv 3 1)]
theorem aO7{E:Nat}(hL:j+(e+2)+1<=L)(x9:rv=al (ae bz (e+2) V))(hE:E=(D+V)%bz^(e+2+1))(h63:L<35184372088832)(hi:i<e+2):
  af prog Bs 238 (aF (ag f178 6)) (DY e L j V D q i) (Al L j R D E (e+2) i rv) 10 ⟨.normal,DY e L j V D q (i+1),Al L j R D E (e+2) (i+1) rv,10⟩:=by
 have hc:=A3 (B:=bz) d_ D V i;have hs:=Ts (B:=bz) (V:=V) d_ (D:=D) (show i<=e+2 by omega);rw[<-hE]at hs;have dq:=E4 (B:=bz) d_ D V i;have Wm:dO prog 3 (qO L j R D E (e+2) i) (j+i)=some (vI (D/bz^i%bz)):=by unfold qO;rw[Gb,List.getElem?_set_ne o_,<-Gb,dZ (CL o_ (bA _)),xq d_]
 have Wn:dO prog 3 rv i=some (vI (V/bz^i%bz)):=by rw[x9];exact dZ (eM hi)
 have bT:e9 prog 3 (qO L j R D E (e+2) i) (j+i) (vI (E/bz^i%bz))=some (qO L j R D E (e+2) (i+1)):=by unfold qO;unfold vI;rw[P7 _ _ _ (by rw[Wo,nP,xb];omega),List.set_comm _ _ o_];have:=P8 (dc bz L (j+i) (gn bz j R E) (gn bz j R D)) (j+i) (E/bz^i%bz);unfold vI at this;rw[this,y0 o_ (xq d_ j R E i).symm];rfl
 have hu:=gZ (B:=bz) d_ D i;have hv:=gZ (B:=bz) d_ V i;have jY:bz=16777216:=rfl;unfold DY Al;generalize qO L j R D E (e+2) (i+1)=r1 at *;generalize qO L j R D E (e+2) i=r0 at *;generalize eZ bz D V (i+1)=c' at *;generalize eZ bz D V i=c at *;generalize E/bz^i%bz=z at *;generalize D/bz^i%bz=u at *;generalize V/bz^i%bz=v at *;rw[show u+v+c=c+(u+v)by omega]at hs dq;have w3:=aDR ((c+(u+v):Nat):Int);have w4:=aDS ((c+(u+v):Nat):Int);rw[show((c+(u+v):Nat):Int)%16777216=(z:Int)by rw[<-hs];rfl]at w3;rw[show((c+(u+v):Nat):Int)/16777216=(c':Int)by rw[<-dq];rfl]at w4;exact fB mixed 200 [.lt 188 i (e+2) true (by simp[hi]),.rw 193 (du (j+1)) (vI j) (ew j),.sum 195 j i (j+i) rfl o_,.ix f178 196 8 L (j+i) o_ k_,.ld f178 197 3 8 (j+i) (.row r0 3 1) (vI u) rfl Wm k_,.ix f178 200 3 (e+2) i hi k_,.ld f178 201 3 3 i (.row rv 3 1) (vI v) rfl Wn k_,.sum 202 u v (u+v) rfl o_,.sum 203 c (u+v) (c+(u+v)) rfl o_,.rw 205 (du (j+1)) (vI j) (ew j),.sum 207 j i (j+i) rfl o_,.wr 209 .i64 _ (z:Int) w3,.ix f178 210 8 L (j+i) o_ k_,.st f178 100210 3 8 (j+i) (.row r0 3 1) (vI z) (.row r1 3 1) rfl bT rfl k_,.quo 212 .i64 _ (c':Int) w4,.sum 190 i 1 (i+1) rfl o_] k_
theorem aO8{E:Nat}(hL:j+(e+2)+1<=L)(x9:rv=al (ae bz (e+2) V))(hE:E=(D+V)%bz^(e+2+1))(h63:L<35184372088832):
  af prog Bs 238 (.block 6 (ag f178 6)) (DY e L j V D q 0) (Al L j R D E (e+2) 0 rv) 10 ⟨.normal,DY e L j V D q (e+2),Al L j R D E (e+2) (e+2) rv,10⟩:=
 bO (id:=6) (ch (b:=aF (ag f178 6)) (r:=⟨.exit 6,DY e L j V D q (e+2),Al L j R D E (e+2) (e+2) rv,10⟩) (e+2) (DY e L j V D q) (λi=>Al L j R D E (e+2) i rv) (λk t _=>j6 (l:=Al L j R D E (e+2) k rv) (m:=Al L j R D E (e+2) 0 rv) rfl t) (λk hk=>aO7 hL x9 hE h63 hk)
  (fB mixed 200 [.lt 188 (e+2) (e+2) false s_] k_) n_)
end
theorem aO9{B L S R:Nat}(hi:i<L)(hR:R<B^(i+1))(hS:S<B^(i+1))(hB:0<B)(x:i_):(al (dc B L i S R)).set i x=(al (ae B L S)).set i x:=by have h:=y0 (B:=B) (n:=L) (i:=i) (s:=S) (p:=R) hi rfl;rw[Fo hB hR hS]at h;rw[<-h,<-P8,List.set_set]
structure LQ(e L A V:Nat):Prop where
 hV:V<bz^(e+2)
 top:bz<=2*(V/bz^(e+1))
 hL:e+3<=L
 hA:A<V*bz^(L-(e+2))
 h63:L<35184372088832
theorem LQ.pos{L V:Nat}(h:LQ e L A V):0<V:=by
 rcases nF V with e1|e1
 ·have:=h.hA;rw[e1,kS]at this;omega
 ·exact e1
section
variable{Bs:aa}{e L A V p:Nat}
def DZ(e L p j:Nat):aN:=[(13,du j),(12,sl 9 p),(10,vI (e+2)),(9,sl 3 (e+2)),(11,sl 8 L)]
def Am(e L A V p j:Nat):aH:=[(8,.row (al (ae bz L (A%(V*bz^j)))) 3 1),(9,.row (al (gF bz p j (A/V))) 3 1),(3,.row (al (ae bz (e+2) V)) 3 1)]
theorem aPa(h:LQ e L A V)(hp:p+(e+2)=L)(hj:j<p):
  af prog Bs 238 (aF (ag f178 0)) (DZ e L p (j+1)) (Am e L A V p (j+1)) 10 ⟨.normal,DZ e L p j,Am e L A V p j,10⟩:=by
 have h63:=h.h63;have ri:=h.pos;have hV:=h.hV;have AY:j+(e+2)+1<=L:=by omega
 obtain⟨R,hR⟩:∃ R,R=A%(V*bz^(j+1)):=⟨_,rfl⟩;obtain⟨U,hU⟩:∃ U,U=R/bz^j:=⟨_,rfl⟩;have IP:U<V*bz:=by rw[hU,hR];exact aAB d_ ri A j
 have rX:=aAz (B:=bz) d_ A V j;have aDT:=aAA (B:=bz) A V j;rw[<-hR,<-hU]at rX aDT;have Fz:R<bz^(j+(e+2)+1):=by
  have h1:R<V*bz^(j+1):=by rw[hR];exact cJ _ (rj ri (cI d_))
  have h2:V*bz^(j+1)<=bz^(e+2)*bz^(j+1):=eh _ (jV hV);rw[<-eP,show e+2+(j+1)=j+(e+2)+1 by omega]at h2;omega
 have aPb:U<bz^(e+2+1):=by rw[dD];exact cF IP (eh _ (jV hV))
 obtain⟨T,hT⟩:∃ T,T=U/bz^(e+1):=⟨_,rfl⟩;obtain⟨v1,kN⟩:∃ v1,v1=V/bz^(e+1):=⟨_,rfl⟩;have aDU:V/bz^(e+1)%bz=v1:=by rw[kN];exact E3 hV
 have aDV:v1<bz:=by rw[<-aDU];exact cJ _ d_
 have ds:mh bz e U V T (U/bz^e%bz) v1 (V/bz^e%bz):={ hB:=by decide,hU:=IP,hT:=hT,hu:=rfl,kN:=kN,iF:=rfl,top:=by rw[kN];exact h.top,C6:=aDV };have lU:∀ i,i<=e+2->dO prog 3 (al (ae bz L R)) (j+i)=some (vI (U/bz^i%bz)):=λi hi=>by have:=dZ (eM (B:=bz) (n:=L) (a:=R) (i:=j+i) o_);rw[HA,<-hU]at this;exact this
 obtain⟨rv,x9⟩:∃ rv,rv=al (ae bz (e+2) V):=⟨_,rfl⟩;have Wp:dO prog 3 rv (e+1)=some (vI v1):=by rw[x9,<-aDU];exact dZ (eM o_)
 have lV0:dO prog 3 rv e=some (vI (V/bz^e%bz)):=by rw[x9];exact dZ (eM o_)
 have g:GU e L j T v1 (V/bz^e%bz) (U/bz^e%bz) (al (ae bz L R)) rv:=⟨AY,Wp,lV0,lU e o_,aDV,cJ _ d_,cJ _ d_,h63⟩;obtain⟨q0,pI⟩:∃ q0,q0=min (T/v1) (bz-1):=⟨_,rfl⟩;obtain⟨q,HE,LO,aPc,gl⟩:=aO2 g ds pI;obtain⟨D,hD⟩:∃ D,D=gg bz (e+2) U V q:=⟨_,rfl⟩;have aPd:D<bz^(e+2+1):=by rw[hD];exact Tq d_
 have aWe:V<=bz^(e+2+1):=di (jV hV) (df d_ o_);have sg:SU e L j U V q R D rv:=⟨AY,hU,x9,HE,hD,by omega,h63⟩;have sl:=aO6 (Bs:=Bs) sg;have Wq:gn bz j R D<bz^(j+(e+2)+1):=by have:=Hz (B:=bz) d_ (j:=j) R aPd;rwa[show j+(e+2+1)=j+(e+2)+1 by omega]at this
 have qC:pR L j R D 0=al (ae bz L R):=by unfold pR;rw[jd,N0 d_]
 have iI:dO prog 3 (pR L j R D (e+2)) (j+(e+2))=some (vI (U/bz^(e+2)%bz)):=by have:=dZ (CL (B:=bz) (n:=L) (i:=j+(e+2)) (s:=gn bz j R D) (p:=R) (j:=j+(e+2)) o_ (bA _));rw[HA,<-hU]at this;exact this
 have xu:=aOX (B:=bz) d_ hV IP LO;have hsb:=aDP (B:=bz) d_ U V q (e+2);have LR:U/bz^(e+2)%bz*bz+U/bz^(e+1)%bz=T:=by have h1:=xc (B:=bz) U (e+1);have h2:U/bz^(e+2)%bz=U/bz^(e+2):=E3 aPb;rw[h2,hT];exact h1.symm
 have iP:U/bz^(e+2)%bz<bz:=cJ _ d_;have vY:U/bz^(e+1)%bz<bz:=cJ _ d_;have lH:=lU (e+2) (bA _);have vB:=lU (e+1) o_;have Wr:e9 prog 3 (al (gF bz p (j+1) (A/V))) j (vI (U/V))=some (al (gF bz p j (A/V))):=by rw[wj (by rw[Ny];exact hj),NA hj aDT]
 have hTb:T<281474976710656+16777216:=by have jY:bz=16777216:=rfl;rw[jY]at iP vY LR;omega
 have Fp:(v1:Int)≠0:=by have:=ds.top;have jY:bz=16777216:=rfl;omega
 have wq:IntKind.i64.wrap (Int.tdiv (T:Int) (v1:Int))=((T/v1:Nat):Int):=by have hq:T/v1<=T:=tP _ _;rw[A8 o_,<-tO,dX];omega
 unfold DZ Am;rw[<-hR,<-x9];unfold DX Ak at sl;rw[qC,aOQ]at sl;unfold x7 x8 at gl;have gl:=gl Bs;have jY:bz=16777216:=rfl;rw[<-hD]at xu;by_cases hb:U<q*V
 ·-- the aWf Zt too aWg
  obtain⟨g1,g2⟩:=aAy (B:=bz) d_ hV IP LO hb;have Kg:=aOY (B:=bz) d_ hV IP LO hb;rw[<-hD]at g2 Kg;obtain⟨E,hE⟩:∃ E,E=(D+V)%bz^(e+2+1):=⟨_,rfl⟩;have bl:=aO8 (Bs:=Bs) (q:=U/V) (R:=R) (D:=D) AY x9 hE h63;rw[<-hE]at g2;rw[<-g2]at rX;have aDW:E<bz^(e+2):=by rw[g2];exact lO (cJ _ ri) hV
  have hS2:gn bz j R E<bz^(j+(e+2)+1):=by have:=Hz (B:=bz) d_ (j:=j) R (cF aDW (df (n:=bz) d_ (yO _)));rwa[show j+(e+2).succ=j+(e+2)+1 by omega]at this
  have kX:qO L j R D E (e+2) 0=(pR L j R D (e+2)).set (j+(e+2)) (.int .i64 (-1)):=by unfold qO pR;rw[aO9 o_ Fz Wq d_,jd,<-aAv d_ j R D E,N0 d_]
  have Ke:e9 prog 3 (pR L j R D (e+2)) (j+(e+2)) (.int .i64 (-1))=some (qO L j R D E (e+2) 0):=by rw[kX];exact P7 _ _ _ (by unfold pR;rw[nP,xb];omega)
  have D0:∀ i,dO prog 3 (qO L j R D E (e+2) i) (j+(e+2))=some (.int .i64 (-1)):=λi=>by unfold qO;rw[Gb,List.getElem?_set_self (by rw[nP,xb];omega)]
  have aPe:=D0 0;have aPf:=D0 (e+2);have Tw:e9 prog 3 (qO L j R D E (e+2) (e+2)) (j+(e+2)) (.int .i64 0)=some (al (ae bz L (A%(V*bz^j)))):=by unfold qO;rw[P7 _ _ _ (by rw[Wo,nP,xb];omega),List.set_set];have h1:=y0 (B:=bz) (n:=L) (i:=j+(e+2)) (s:=gn bz j R E) (p:=gn bz j R D) (d:=0) o_ (by rw[xq d_,rf aDW (bA _) d_]);rw[Fo d_ Wq hS2]at h1;have h2:=P8 (dc bz L (j+(e+2)) (gn bz j R E) (gn bz j R D)) (j+(e+2)) 0;rw[h1]at h2;exact cL some (h2.trans (by rw[rX]))
  rw[ax hb]at xu;unfold DY Al at bl;rw[Nt,Kg]at bl;generalize al (ae bz L (A%(V*bz^j)))=r9 at *;generalize al (ae bz L R)=r0 at *;generalize pR L j R D (e+2)=r1 at *;generalize qO L j R D E (e+2) 0=r2 at *;generalize qO L j R D E (e+2) (e+2)=r3 at *;generalize al (gF bz p (j+1) (A/V))=p0 at *;generalize al (gF bz p j (A/V))=p1 at *;generalize rL bz U V q (e+2)=c at *;generalize U/bz^(e+2)%bz=t1 at *;generalize U/bz^(e+1)%bz=t0 at *;generalize U/V=qq at *;have Ws:IntKind.i64.wrap ((t1:Int)+c)=-1:=by rw[dX];omega
  have m1:t1*bz<281474976710656:=by rw[jY];omega
  obtain⟨x1,iN⟩:∃ x1,x1=t1*bz:=⟨_,rfl⟩;rw[<-iN]at LR m1;exact fB mixed 400 [.rw 72 (du (j+1)) (vI j) (ew j),.ge 73 j 0 true s_,.rw 77 (du (j+1)) (vI j) (ew j),.sum 79 j (e+2) (j+(e+2)) rfl o_,.ix f178 80 8 L (j+(e+2)) o_ k_,.ld f178 81 3 8 (j+(e+2)) (.row r0 3 1) (vI t1) rfl lH k_,.s9 82 t1 bz x1 iN o_,.rw 84 (du (j+1)) (vI j) (ew j),.sum 86 j (e+2) (j+(e+2)) rfl o_,.fh 87 (j+(e+2)) 1 (j+(e+1)) o_ o_,.ix f178 88 8 L (j+(e+1)) o_ k_,.ld f178 89 3 8 (j+(e+1)) (.row r0 3 1) (vI t0) rfl vB k_,.sum 90 x1 t0 T LR.symm o_,.fh 94 (e+2) 1 (e+1) o_ o_,.ix f178 95 3 (e+2) (e+1) o_ k_,.ld f178 96 3 3 (e+1) (.row rv 3 1) (vI v1) rfl Wp k_,.vK f178 97 .i64 (T:Int) (v1:Int) ((T/v1:Nat):Int) Fp wq k_,.Qh f178 98 (T/v1) (bz-1) q0 pI k_,.code 2 _ _ _ _ _ gl,.code 4 _ _ _ _ _ sl,.rw 169 (du (j+1)) (vI j) (ew j),.sum 171 j (e+2) (j+(e+2)) rfl o_,.ix f178 172 8 L (j+(e+2)) o_ k_,.ld f178 173 3 8 (j+(e+2)) (.row r1 3 1) (vI t1) rfl iI k_,.wr 175 .i64 ((t1:Int)+c) (-1) Ws,.ix f178 176 8 L (j+(e+2)) o_ k_,.st f178 100176 3 8 (j+(e+2)) (.row r1 3 1) (.int .i64 (-1)) (.row r2 3 1) rfl Ke rfl k_,.rw 178 (du (j+1)) (vI j) (ew j),.sum 180 j (e+2) (j+(e+2)) rfl o_,.ix f178 181 8 L (j+(e+2)) o_ k_,.ld f178 182 3 8 (j+(e+2)) (.row r2 3 1) (.int .i64 (-1)) rfl aPe k_,.fh 185 q 1 qq o_ o_,.code 6 _ _ _ _ _ bl,.rw 214 (du (j+1)) (vI j) (ew j),.sum 216 j (e+2) (j+(e+2)) rfl o_,.ix f178 217 8 L (j+(e+2)) o_ k_,.ld f178 218 3 8 (j+(e+2)) (.row r3 3 1) (.int .i64 (-1)) rfl aPf k_,.wr 220 .i64 (-1+((1:Nat):Int)) 0 d_,.ix f178 221 8 L (j+(e+2)) o_ k_,.st f178 100221 3 8 (j+(e+2)) (.row r3 3 1) (.int .i64 0) (.row r9 3 1) rfl Tw rfl k_,
   .rw 223 (du (j+1)) (vI j) (ew j),.ix f178 225 9 p j hj k_,.st f178 100225 3 9 j (.row p0 3 1) (vI qq) (.row p1 3 1) rfl Wr rfl k_,.rw 74 (du (j+1)) (vI j) (ew j),.wr 75 .i64 ((j:Int)-1) ((j:Int)-1) (oW o_)] k_
 ·obtain⟨g1,g2⟩:=aAx (B:=bz) d_ hV IP aPc hb;rw[<-hD]at g2;rw[<-g2]at rX;have Ke:e9 prog 3 (pR L j R D (e+2)) (j+(e+2)) (vI (D/bz^(e+2)%bz))=some (al (ae bz L (A%(V*bz^j)))):=by unfold pR;rw[wj (by rw[xb];omega),y0 o_ (xq d_ j R D (e+2)).symm,Fo d_ Fz Wq,rX]
  have D0:dO prog 3 (al (ae bz L (A%(V*bz^j)))) (j+(e+2))=some (vI (D/bz^(e+2)%bz)):=by rw[<-rX,dZ (eM o_),xq d_]
  rw[ao hb]at xu;have U9:D/bz^(e+2)%bz<bz:=cJ _ d_;rw[<-g1]at Wr;generalize al (ae bz L (A%(V*bz^j)))=r9 at *;generalize al (ae bz L R)=r0 at *;generalize pR L j R D (e+2)=r1 at *;generalize al (gF bz p (j+1) (A/V))=p0 at *;generalize al (gF bz p j (A/V))=p1 at *;generalize rL bz U V q (e+2)=c at *;generalize U/bz^(e+2)%bz=t1 at *;generalize U/bz^(e+1)%bz=t0 at *;generalize D/bz^(e+2)%bz=d at *;have Ws:IntKind.i64.wrap ((t1:Int)+c)=(d:Int):=by rw[dX];omega
  have m1:t1*bz<281474976710656:=by rw[jY];omega
  obtain⟨x1,iN⟩:∃ x1,x1=t1*bz:=⟨_,rfl⟩;rw[<-iN]at LR m1;exact fB mixed 400 [.rw 72 (du (j+1)) (vI j) (ew j),.ge 73 j 0 true s_,.rw 77 (du (j+1)) (vI j) (ew j),.sum 79 j (e+2) (j+(e+2)) rfl o_,.ix f178 80 8 L (j+(e+2)) o_ k_,.ld f178 81 3 8 (j+(e+2)) (.row r0 3 1) (vI t1) rfl lH k_,.s9 82 t1 bz x1 iN o_,.rw 84 (du (j+1)) (vI j) (ew j),.sum 86 j (e+2) (j+(e+2)) rfl o_,.fh 87 (j+(e+2)) 1 (j+(e+1)) o_ o_,.ix f178 88 8 L (j+(e+1)) o_ k_,.ld f178 89 3 8 (j+(e+1)) (.row r0 3 1) (vI t0) rfl vB k_,.sum 90 x1 t0 T LR.symm o_,.fh 94 (e+2) 1 (e+1) o_ o_,.ix f178 95 3 (e+2) (e+1) o_ k_,.ld f178 96 3 3 (e+1) (.row rv 3 1) (vI v1) rfl Wp k_,.vK f178 97 .i64 (T:Int) (v1:Int) ((T/v1:Nat):Int) Fp wq k_,.Qh f178 98 (T/v1) (bz-1) q0 pI k_,.code 2 _ _ _ _ _ gl,.code 4 _ _ _ _ _ sl,.rw 169 (du (j+1)) (vI j) (ew j),.sum 171 j (e+2) (j+(e+2)) rfl o_,.ix f178 172 8 L (j+(e+2)) o_ k_,.ld f178 173 3 8 (j+(e+2)) (.row r1 3 1) (vI t1) rfl iI k_,.wr 175 .i64 ((t1:Int)+c) (d:Int) Ws,.ix f178 176 8 L (j+(e+2)) o_ k_,.st f178 100176 3 8 (j+(e+2)) (.row r1 3 1) (vI d) (.row r9 3 1) rfl Ke rfl k_,.rw 178 (du (j+1)) (vI j) (ew j),.sum 180 j (e+2) (j+(e+2)) rfl o_,.ix f178 181 8 L (j+(e+2)) o_ k_,.ld f178 182 3 8 (j+(e+2)) (.row r9 3 1) (vI d) rfl D0 k_,.lt 183 d 0 false s_,.rw 223 (du (j+1)) (vI j) (ew j),.ix f178 225 9 p j hj k_,.st f178 100225 3 9 j (.row p0 3 1) (vI q) (.row p1 3 1) rfl Wr rfl k_,.rw 74 (du (j+1)) (vI j) (ew j),.wr 75 .i64 ((j:Int)-1) ((j:Int)-1) (oW o_)] k_
theorem aPg(h:LQ e L A V)(hp:p+(e+2)=L):
  af prog Bs 238 (.block 0 (ag f178 0)) (DZ e L p p) (Am e L A V p p) 10 ⟨.normal,DZ e L p 0,Am e L A V p 0,10⟩:=by
 have:=ch (P:=prog) (B:=Bs) (N:=238) (b:=aF (ag f178 0)) (next:=10) (r:=⟨.exit 0,DZ e L p 0,Am e L A V p 0,10⟩) p (λi=>DZ e L p (p-i)) (λi=>Am e L A V p (p-i)) (λi t _=>j6 (l:=Am e L A V p (p-i)) (m:=Am e L A V p (p-0)) rfl t)
  (λi hi=>by
   have e1:p-i=(p-(i+1))+1:=by omega
   simp only[e1];exact aPa h hp o_)
  (by simp only[vL];exact aC [.rw 73 (.bool (decide (((0:Nat):Int)-1>=0))) a_ rfl]) n_
 exact bO (id:=0) this
end
def Cd(w:h_)(v:i_)(a:Nat):Prop:=dp w v (nd bz a) (cD a)
def vo(w w':h_)(v:i_)(a:Nat):Prop:=w'.ownsRow w.heap.size 3 1 v (nd bz a) (cD a)
theorem Qj(hm:aM (aa.at w) ι c w'){n:Nat}{v:i_}(hk:c k=some (.row (al (ae bz n a)) 3 1))(ha:a<bz^n)(hv:aK ι (sl k (nd bz a)) v):vo w w' v a:=by have:=wZ hm hk hv (Gh ha) (mD _);rw[B9 ha]at this;exact this
theorem Ce{s:Nat}(h:s<bz):ae bz 1 s=[s]:=by simp[ae,dU h]
theorem vp{s:Nat}(h:s<bz)(h0:s≠0):nd bz s=1:=by have h3:=jv (B:=bz) (n:=1) d_ (by rw[Bb];exact h);have h4:=w9 (B:=bz) d_ h0;omega
theorem aPh{n:Nat}(h:A<bz^n):ae bz (n+2) A=ae bz n A++[0,0]:=by unfold ae;rw[show n+2=n+1+1 from rfl,KG,KG,rW,rW,EU];simp only[sk,NX,C3,jG];rw[rf h (bA _) d_,rf h (yO _) d_]
theorem aPi{B:Nat}(hd:0<d)(mT:d<B)(he:B%2=0):B<=2*(d*(B/(d+1))):=by
 obtain⟨s,hs⟩:∃ s,s=B/(d+1):=⟨_,rfl⟩;rw[<-hs];have hdm:=jx B (d+1);have NQ:=cJ B (show 0<d+1 by omega);rw[<-hs]at hdm;have wS:0<s:=by rw[hs];exact N3 mT (TH d)
 rcases fm (2*d) B with h|h
 ·apply O9;intro ak;have ak:2*(d*s)+2<=B:=by omega
  obtain⟨X,hX⟩:∃ X,X=(d+1)*s:=⟨_,rfl⟩;rw[<-hX]at hdm;have h1:=eh (d+1) ak;rw[fF,fU,fU d s,cP s,<-hX,oU B,gC]at h1;have h2:=jJ d (show B<=X+d by omega);rw[oU]at h2;obtain⟨k,hk⟩:∃ k,d=k+1:=⟨d-1,by omega⟩;have h3:=jJ k (jV h);have h4:d*B=k*B+B:=by rw[hk,fF,ql]
  have h5:k*(2*d)+2*d=2*(d*d):=by
   have:d*d=k*d+d:=by conv=>lhs;rw[hk,fF,ql,<-hk]
   rw[this,mS];omega
  rw[cP B d]at h1;omega
 ·have:=jJ d wS;rw[gC]at this;have:d*1<=d*s:=jJ d wS;omega
theorem Wt(h:decide (a<b)=t):Value.bool (decide (hJ a b<0))=.bool t:=by
 rw[<-h];congr 1;rw[pD];unfold hJ
 by_cases h1:a<b
 ·rw[ax h1];omega
 ·rw[ao h1];by_cases h2:b<a
  ·rw[ax h2];omega
  ·rw[ao h2];omega
theorem aWC{vb:i_}(gm:Cd w va a)(ll:Cd w vb b)(bZ:a<b)(h1:nd bz a<35184372088832)(h2:nd bz b<35184372088832):
  Calls prog 178 #[va,vb] w λe w'=>e=.returned (.tuple #[.slice none 0 0,va])/\Below w.heap.size w w':=by
 have hl:∀ s∈[cz.row va (nd bz a) (cD a),cz.row vb (nd bz b) (cD b)],s.OK w:=by
  intro s hs;simp at hs;rcases hs with rfl|rfl
  ·exact⟨gm,mD _⟩
  ·exact⟨ll,mD _⟩
 refine lN (Q:=λe w'=>e=.returned (.tuple #[.slice none 0 0,va])/\Below w.heap.size w w') mixed func178 [cz.row va (nd bz a) (cD a),cz.row vb (nd bz b) (cD b)] hl 200 (N:=238) k_
  (rs:=[(.IK f178 23 0 1 a b (.view (cD a)) (.view (cD b)) rfl rfl rfl rfl h1 h2 k_:aU prog (aa.at w) 238),.rw 24 _ b_ (Wt (a:=a) (b:=b) (aE bZ))])
  (v:=.tuple #[.slice none 0 0,sl 0 (nd bz a)]) (ms:=[]) k_ λay b9 v' w' km bF _ dK=>⟨?_,bF.base⟩
 obtain⟨cQ,rfl,aY⟩:=km.uD;obtain⟨p,q,hp,h3,h4⟩:=js aY;cases dK with
 |cons h5 _=>
 have:q=va:=JM h4 h5;have e:cQ=#[p,q]:=vF.1 (by rw[hp]);rw[e,h3.fk rfl,this]
theorem aXa{vb:i_}(gm:Cd w va a)(ll:Cd w vb b)(bZ:b<=a)(kX:b≠0)(hb:b<bz)(h1:nd bz a<35184372088832):
  Calls prog 178 #[va,vb] w λe w'=>∃ vq vr,e=.returned (.tuple #[vq,vr])/\vo w w' vq (a/b)/\vo w w' vr (a%b)/\Below w.heap.size w w':=by
 have c7:=vp hb kX;have nk:cD b=[vI b]:=by unfold cD;rw[c7,Ce hb];rfl
 have Fq:dp w vb 1 [vI b]:=by have:=ll;unfold Cd at this;rw[c7,nk]at this;exact this
 have hl:∀ s∈[cz.row va (nd bz a) (cD a),cz.row vb 1 [vI b]],s.OK w:=by
  intro s hs;simp at hs;rcases hs with rfl|rfl
  ·exact⟨gm,mD _⟩
  ·exact⟨Fq,λv hv=>by simp at hv;subst hv;rfl⟩
 have hr:a%b<bz:=lO (cJ _ (tK kX)) hb;have uk:a%b<bz^1:=by rw[Bb];exact hr
 have lj:cA prog (aa.at w) (aA f178 23) [.func (.func 134) #[] #[],sl 0 (nd bz a),sl 1 1] [(0,some (.view (cD a))),(1,some (.view [vI b]))] (.int .i64 (hJ a b)) []:=by have:=pb (B:=aa.at w) (o:=aA f178 23) (x:=.func 134) (Wd (a:=a) (b:=b) h1 o_) (nQ (k:=0) (x:=.view (cD a)) rfl rfl (nQ (k:=1) (x:=.view (cD b)) rfl rfl .nil)) k_ k_ rfl;rw[c7,nk]at this;exact this
 refine lN (Q:=λe w'=>∃ vq vr,e=.returned (.tuple #[vq,vr])/\vo w w' vq (a/b)/\vo w w' vr (a%b)/\Below w.heap.size w w') mixed func178 [cz.row va (nd bz a) (cD a),cz.row vb 1 [vI b]] hl 200 (N:=238) k_
  (rs:=[(.step 23 (aA f178 23) _ _ _ _ lj:aU prog (aa.at w) 238),.rw 24 _ a_ (Wt (a:=a) (b:=b) (aO o_)),.ld f178 33 3 1 0 (.view [vI b]) (vI b) rfl (by rw[Gb];rfl) k_,.step 34 (aA f178 34) _ _ _ _ (Lk (x:=.func 207) (aDO (tK kX) hb h1) (nQ (k:=0) (x:=.view (cD a)) rfl rfl (.p (v:=vI b) rfl .nil)) k_ k_ (s7 _) rfl 2),.bs f178 39 3 1 3 1 [0] (vI 0) [vI (a%b)] #[vI (a%b)] (.row (al (ae bz 1 (a%b))) 3 1) (by rw[Ce hr];rfl) (λv hv=>by simp at hv;subst hv;rfl) (λv hv=>by simp at hv;subst hv;rfl) k_ rfl o_ o_ k_,.DN f178 40 3 1 (a%b) (.row (al (ae bz 1 (a%b))) 3 1) rfl rfl uk o_ k_])
  (v:=.tuple #[sl 2 (nd bz (a/b)),sl 3 (nd bz (a%b))]) (ms:=[(2,jo (a/b)),(3,.row (al (ae bz 1 (a%b))) 3 1)]) k_ λay b9 v' w' km bF dQ _=>?_
 obtain⟨cQ,rfl,aY⟩:=km.uD;obtain⟨p,q,hp,h3,h4⟩:=js aY;have e:cQ=#[p,q]:=vF.1 (by rw[hp]);subst e;exact⟨p,q,rfl,Qj bF (dQ _ (aP ..)) (ek d_ _) h3,Qj bF (dQ _ (bH _ (aP ..))) uk h4,bF.base⟩
theorem aXk{vb:i_}(gm:Cd w va a)(ll:Cd w vb b)(bZ:b<=a)(hb:nd bz b=e+2)(h1:nd bz a<17592186044000):
  Calls prog 178 #[va,vb] w λe w'=>∃ vq vr,e=.returned (.tuple #[vq,vr])/\vo w w' vq (a/b)/\vo w w' vr (a%b)/\Below w.heap.size w w':=by
 have jY:bz=16777216:=rfl;have ak:=ek (B:=bz) d_ b;rw[hb]at ak;have hp:0<bz^(e+1):=cI d_;have fR:bz^(e+1)<=b:=ZB d_ o_;have kX:0<b:=cF hp fR;obtain⟨d,hd⟩:∃ d,d=b/bz^(e+1):=⟨_,rfl⟩;have lR:b/bz^(e+1)%bz=d:=by rw[hd];exact E3 ak
 have mT:d<bz:=by rw[<-lR];exact cJ _ d_
 have Dc:0<d:=by rw[hd];exact N3 fR hp
 obtain⟨s,hs⟩:∃ s,s=bz/(d+1):=⟨_,rfl⟩;have bT:=aPi Dc mT d_;rw[<-hs]at bT;have qC:0<s:=by rw[hs];exact N3 mT (TH d)
 have VY:s*(d+1)<=bz:=by rw[hs];exact C8 _ _
 have Qk:s<bz:=by have:=jJ s (show 2<=d+1 by omega);omega
 have xo:b*s<bz^(e+2):=by
  have h3:b<(d+1)*bz^(e+1):=by rw[hd];exact(iG hp).1 (Hy _)
  have h5:=Bh h3 qC;have h6:=eh (bz^(e+1)) VY;rw[cP bz,<-dD]at h6;have e1:(d+1)*bz^(e+1)*s=s*(d+1)*bz^(e+1):=by rw[cP _ s,fU]
  rw[e1]at h5;exact cF h5 h6
 have aDX:b<=b*s:=Ff _ qC;have N7:nd bz (b*s)=e+2:=aAh (jv d_ xo) (by rw[<-hb];exact jw d_ aDX);have xu:bz<=2*(b*s/bz^(e+1)):=by
  have:d*s<=b*s/bz^(e+1):=by rw[C7 hp,Bk];refine eh _ ?_;rw[hd];exact C8 _ _
  omega
 obtain⟨n,hn⟩:∃ n,n=nd bz (a*s):=⟨_,rfl⟩;have hA:=ek (B:=bz) d_ (a*s);rw[<-hn]at hA;have hnb:n<=nd bz a+1:=by rw[hn];refine jv d_ ?_;rw[dD];exact qk (ek (B:=bz) d_ a) Qk
 have aWh:e+2<=n:=by rw[hn,<-hb];exact jw d_ (di bZ (Ff _ qC))
 obtain⟨p,LP⟩:∃ p,p+(e+2)=n+2:=⟨n+2-(e+2),by omega⟩;have Wu:a*s<b*s*bz^p:=by have h3:bz^(e+1)*bz^p<=b*s*bz^p:=eh _ (di fR aDX);rw[<-eP,show e+1+p=n+1 by omega]at h3;have h4:bz^n<=bz^(n+1):=df d_ (yO _);omega
 have dv:LQ e (n+2) (a*s) (b*s):=⟨xo,xu,by omega,by rw[show n+2-(e+2)=p by omega];exact Wu,by omega⟩;have lo:=λBs=>aPg (Bs:=Bs) dv LP;have hQ:a*s/(b*s)=a/b:=aAF _ _ qC;have TN:a*s%(b*s*bz^0)=a%b*s:=by rw[sC,gC,aAE]
 have TM:a*s%(b*s*bz^p)=a*s:=dU Wu;have Ki:a/b<bz^p:=by rw[<-hQ,iG dv.pos,cP (bz^p)];exact Wu
 have HL:a%b*s<bz^(n+2):=by have h3:a%b*s<=a*s:=eh _ (JW _ _);have h4:bz^n<=bz^(n+2):=df d_ o_;omega
 have hnr:nd bz (a%b*s)<35184372088832:=by have:=jv (B:=bz) d_ HL;omega
 unfold Am at lo;rw[TM,TN,hQ,Nz,JX,<-Lv]at lo;have hcA:cD (a*s)++[vI 0,vI 0]=al (ae bz (n+2) (a*s)):=by unfold cD al;rw[<-hn,aPh hA,rW];rfl
 have AP:=vp Qk o_;have fQ:cD s=[vI s]:=by unfold cD;rw[AP,Ce Qk];rfl
 have nk:cD b=al (ae bz (e+2) b):=by unfold cD;rw[hb]
 have hcV:cD (b*s)=al (ae bz (e+2) (b*s)):=by unfold cD;rw[N7]
 have Fq:dp w vb (e+2) (al (ae bz (e+2) b)):=by have:=ll;unfold Cd at this;rw[hb,nk]at this;exact this
 have hl:∀ s∈[cz.row va (nd bz a) (cD a),cz.row vb (e+2) (al (ae bz (e+2) b))],s.OK w:=by
  intro s hs;simp at hs;rcases hs with rfl|rfl
  ·exact⟨gm,mD _⟩
  ·exact⟨Fq,mD _⟩
 have lj:cA prog (aa.at w) (aA f178 23) [.func (.func 134) #[] #[],sl 0 (nd bz a),sl 1 (e+2)] [(0,some (.view (cD a))),(1,some (.view (al (ae bz (e+2) b))))] (.int .i64 (hJ a b)) []:=by have:=pb (B:=aa.at w) (o:=aA f178 23) (x:=.func 134) (Wd (a:=a) (b:=b) o_ o_) (nQ (k:=0) (x:=.view (cD a)) rfl rfl (nQ (k:=1) (x:=.view (cD b)) rfl rfl .nil)) k_ k_ rfl;rw[hb,nk]at this;exact this
 have c7:cA prog (aa.at w) (aA f178 52) [.func (.func 120) #[] #[],sl 1 (e+2),sl 2 1] [(3,none),(1,some (.view (al (ae bz (e+2) b)))),(2,some (.row [vI s] 3 1))] (sl 3 (e+2)) [(3,.row (al (ae bz (e+2) (b*s))) 3 1)]:=by have:=qF (B:=aa.at w) (o:=aA f178 52) (x:=.func 120) (V8 (a:=b) (b:=s) o_) (nQ (k:=1) (x:=.view (cD b)) rfl rfl (nQ (k:=2) (x:=.row (cD s) 3 1) rfl rfl .nil)) k_ k_ (s7 _) 3;rw[hb,nk,AP,fQ,N7,hcV]at this;exact this
 have dF:cA prog (aa.at w) (aA f178 58) [.func (.func 120) #[] #[],sl 0 (nd bz a),sl 2 1] [(5,none),(0,some (.view (cD a))),(2,some (.row [vI s] 3 1))] (sl 5 n) [(5,.row (cD (a*s)) 3 1)]:=by have:=qF (B:=aa.at w) (o:=aA f178 58) (x:=.func 120) (V8 (a:=a) (b:=s) o_) (nQ (k:=0) (x:=.view (cD a)) rfl rfl (nQ (k:=2) (x:=.row (cD s) 3 1) rfl rfl .nil)) k_ k_ (s7 _) 5;rw[AP,fQ,<-hn]at this;exact this
 have vn:∀(xr:ah),xr=al (ae bz (n+2) (a%b*s))->cA prog (aa.at w) (aA f178 232) [.func (.func 207) #[] #[],sl 8 (nd bz (a%b*s)),vI s] [(10,none),(8,some (.row xr 3 1))] (.tuple #[sl 10 (nd bz (a%b)),vI 0]) [(10,jo (a%b))]:=by
  rintro xr rfl
  have hq:a%b*s/s=a%b:=SR _ qC;have hz:a%b*s%s=0:=ZD _ _;have cd:=aDO (a:=a%b*s) qC Qk hnr;rw[hq,hz]at cd;have Db:((Obj.row (al (ae bz (n+2) (a%b*s))) 3 1).cells.drop 0).take (nd bz (a%b*s))=cD (a%b*s):=by rw[mg];have:=B9 HL;rwa[gC]at this
  have yN:fW (aa.at w) [jM (a%b*s),.p (vI s)] [sl 8 (nd bz (a%b*s)),vI s] [(8,some (.row (al (ae bz (n+2) (a%b*s))) 3 1))]:=by unfold jM;rw[<-Db];exact .r (k:=8) (off:=0) (cc:=0) rfl (iv _) (λh=>h) (.p rfl .nil)
  exact Lk (x:=.func 207) cd yN k_ k_ (s7 _) rfl 10
 have w48:IntKind.i64.wrap (Int.tdiv ((bz:Nat):Int) ((d+1:Nat):Int))=(s:Int):=by rw[A8 o_,<-tO,<-hs,dX];omega
 have aPj:∀ v∈cD (a*s),v.oneCell'=true:=λv hv=>by unfold cD al at hv;obtain⟨x,_,rfl⟩:=dj.1 hv;rfl
 have hlen:(cD (a*s)).length=n:=by rw[VW,hn]
 have lo:=lo (aa.at w);unfold DZ at lo;have hxr:=vn _ rfl;have lp:dO prog 3 (al (ae bz (e+2) b)) (e+1)=some (vI d):=by rw[<-lR];exact dZ (eM o_)
 have F1:nd bz (a%b*s)=nd bz (a%b*s):=rfl
 refine lN (Q:=λe w'=>∃ vq vr,e=.returned (.tuple #[vq,vr])/\vo w w' vq (a/b)/\vo w w' vr (a%b)/\Below w.heap.size w w') mixed func178 [cz.row va (nd bz a) (cD a),cz.row vb (e+2) (al (ae bz (e+2) b))] hl 400 (N:=238) k_
  (rs:=[(.step 23 (aA f178 23) _ _ _ _ lj:aU prog (aa.at w) 238),.rw 24 _ a_ (Wt (a:=a) (b:=b) (aO o_)),.fZ 28 (e+2) 1 false s_,.fh 44 (e+2) 1 (e+1) rfl o_,.ix f178 45 1 (e+2) (e+1) o_ k_,.ld f178 46 3 1 (e+1) (.view (al (ae bz (e+2) b))) (vI d) rfl lp k_,.sum 47 d 1 (d+1) rfl o_,.vK f178 48 .i64 ((bz:Nat):Int) ((d+1:Nat):Int) (s:Int) o_ w48 k_,.bs f178 49 2 1 3 1 [0] (vI 0) [vI s] #[vI s] (.row [vI s] 3 1) rfl (λv hv=>by simp at hv;subst hv;rfl) (λv hv=>by simp at hv;subst hv;rfl) k_ rfl o_ o_ k_,.step 52 (aA f178 52) _ _ _ _ c7,.Lz f178 55 4 3 1 (vI 0) k_,.step 58 (aA f178 58) _ _ _ _ dF,.oX f178 59 6 4 0 n n 3 1 8 [] 5 (.row (cD (a*s)) 3 1) (cD (a*s)) (ko n) rfl (by rw[gC];exact hlen) rfl rfl aPj o_ (by simp[maxLen];omega) o_ k_,.bs f178 60 7 2 3 1 [0,1] (vI 0) [vI 0,vI 0] #[vI 0,vI 0] (.row [vI 0,vI 0] 3 1) rfl (λv hv=>by simp at hv;subst hv;rfl) (λv hv=>by simp at hv;subst hv;rfl) k_ rfl o_ o_ k_,.oX f178 61 8 6 n 2 (n+2) 3 1 8 (cD (a*s)) 7 (.row [vI 0,vI 0] 3 1) (al (ae bz (n+2) (a*s))) rfl rfl rfl (by rw[gC];exact hlen) hcA (λv hv=>by simp[Obj.cells]at hv;subst hv;rfl) o_ (by simp[maxLen];omega) o_ k_,.fh 65 (n+2) (e+2) p o_ o_,.qj f178 66 9 p 3 8 (vI 0) (List.replicate p (vI 0)) rfl rfl rfl o_ (by simp[maxLen];omega) k_,.fh 70 (n+2) (e+2) p o_ o_,.wr 71 .i64 ((p:Int)-1) ((p:Int)-1) (oW o_),.code 0 _ _ _ _ _ lo,.DN f178 228 8 (n+2) (a%b*s) (.row (al (ae bz (n+2) (a%b*s))) 3 1) rfl rfl HL o_ k_,.ld f178 231 3 2 0 (.row [vI s] 3 1) (vI s) rfl (by rw[Gb];rfl) k_,.step 232 (aA f178 232) _ _ _ _ hxr,.DN f178 236 9 p (a/b) (.row (al (ae bz p (a/b))) 3 1) rfl rfl Ki o_ k_])
  (v:=.tuple #[sl 9 (nd bz (a/b)),sl 10 (nd bz (a%b))]) (ms:=[(9,.row (al (ae bz p (a/b))) 3 1),(10,jo (a%b))]) k_ λay b9 v' w' km bF dQ _=>?_
 obtain⟨cQ,rfl,aY⟩:=km.uD;obtain⟨p,q,hp,h3,h4⟩:=js aY;have e:cQ=#[p,q]:=vF.1 (by rw[hp]);subst e;exact⟨p,q,rfl,Qj bF (dQ _ (aP ..)) Ki h3,Qj bF (dQ _ (bH _ (aP ..))) (ek d_ _) h4,bF.base⟩
section
variable{P:j_}{Bs B:aa}{N:Nat}
theorem aDY{n:Nat}{nd:q_}{x:m_}(h:kY P f l ty size n xs)(hs:fW B l vs nd)(ho:dC o.op=some x)(eY:fN P f=true)(hx:(xs.all flat)=true)(k:Nat):
  cA P B o (.func (.func f) #[] #[]::vs) ((k,none)::nd) (.slice (some ⟨k,0,some 7⟩) n 0) [(k,.view xs)]:=by
 have:=j7 (P:=P) (B:=B) (o:=o) (x:=x) (f:=f) (fi:=[]) (args:=vs) (ca:=[]) (need:=(k,none)::nd) (val:=.slice (some ⟨k,0,some 7⟩) n 0) (cX:=[(k,.view xs)]) ho eY ?_
 ·simpa using this
 ·intro ι c w hm hn args' ha;rw[jG,jh]at ha;refine(h w args' (BM hs hm (λp hp=>hn p (bH _ hp)) ha)).mono ?_
  rintro e w' ⟨v,rfl,h1,h2⟩
  obtain⟨ay,q1,q2,q3⟩:=Zy hm h2 (k:=k) (hn (k,none) (aP ..)) h1 (bd.1 hx);exact⟨ay,v,rfl,q1,q3,q2⟩
def ev(a:Nat):Obj:=.view (cD a)
def aU.aDZ(fn:Func)(key k m:Nat)(h:nd 256 m<35184372088832)(ho:dC (aA fn key).op=some (.func 119)):aU prog Bs N:=
 .step key (aA fn key) [.func (.func 119) #[] #[],oh m] [(k,none)] (sl k (nd bz m)) [(k,ev m)] (aDY (IJ h) (.p rfl .nil) ho k_ (s7 m) k)
end
theorem aWS{y:m_}(ho:dC o.op=some y){kq kr:Nat}(hk:kr≠kq)(kX:b≠0)(h1:nd bz a<17592186044000)(h2:nd bz b<35184372088831):
  cA prog Bs o [.func (.func 178) #[] #[],sl k1 (nd bz a),sl k2 (nd bz b)] [(k1,some (ev a)),(k2,some (ev b)),(kq,none),(kr,none)] (.tuple #[sl kq (nd bz (a/b)),sl kr (nd bz (a%b))]) [(kr,ev (a%b)),(kq,ev (a/b))]:=by
 refine j7 (fi:=[]) (ca:=[]) ho k_ λι c w hm hn args' aY=>?_;rw[jG,jh]at aY;obtain⟨va,vb,rfl,hv,iF⟩:=js aY;have gY:c k1=some (ev a):=hn (k1,_) s_;have gv:c k2=some (ev b):=hn (k2,_) s_;have Kl:c kq=none:=hn (kq,none) s_;have TQ:c kr=none:=hn (kr,none) s_;have nin:∀{k a v},c k=some (ev a)->aK ι (sl k (nd bz a)) v->Cd w v a:=λ{k a v} hk hv=>by have:=oS (len:=nd bz a) hm hk rfl (mD _) (λh=>h) hv;rwa[mg,j8 (by show(cD a).length<=_;rw[VW];exact bA _)]at this
 have ha:=nin gY hv;have hb:=nin gv iF;have fin:∀(w':h_) (vq vr:i_),Below w.heap.size w w'->(∃ bP,Map.le ι bP/\aM Bs bP (bh c kq (ev (a/b))) w'/\aK bP (sl kq (nd bz (a/b))) vq/\∃ dG,Map.le bP dG/\aM Bs dG (bh (bh c kq (ev (a/b))) kr (ev (a%b))) w'/\aK dG (sl kr (nd bz (a%b))) vr)->
   ∃ ay v',Ending.returned (.tuple #[vq,vr])=.returned v'/\Map.le ι ay/\aK ay (.tuple #[sl kq (nd bz (a/b)),sl kr (nd bz (a%b))]) v'/\aM Bs ay (lI c [(kr,ev (a%b)),(kq,ev (a/b))]) w':=by
  rintro w' vq vr iB ⟨bP,q1,q2,q3,dG,s1,s2,s3⟩
  exact⟨dG,_,rfl,q1.trans s1,.tup (.cons (q3.mono s1) (.cons s3 .nil)),s2⟩
 have Km:∀ x,bh c kq x kr=none:=λx=>by unfold bh;rw[ao hk];exact TQ
 have new:∀(w':h_) (vq vr:i_),Below w.heap.size w w'->vo w w' vq (a/b)->vo w w' vr (a%b)->(∃ bP,Map.le ι bP/\aM Bs bP (bh c kq (ev (a/b))) w'/\aK bP (sl kq (nd bz (a/b))) vq/\∃ dG,Map.le bP dG/\aM Bs dG (bh (bh c kq (ev (a/b))) kr (ev (a%b))) w'/\aK dG (sl kr (nd bz (a%b))) vr):=by intro w' vq vr iB h3 h4;have bF:=hm.call iB;obtain⟨bP,q1,q2,q3⟩:=N9 bF Kl h3 (mD _) (Oa hm);obtain⟨dG,s1,s2,s3⟩:=N9 q2 (Km _) h4 (mD _) (aAS bF q1 (Oa hm));exact⟨bP,q1,q2,q3,dG,s1,s2,s3⟩
 by_cases bZ:a<b
 ·have e1:a/b=0:=mf bZ;have e2:a%b=a:=dU bZ;refine(aWC ha hb bZ o_ o_).mono ?_
  rintro e w' ⟨rfl,iB⟩
  refine fin w' _ _ iB ?_;have bF:=hm.call iB;obtain⟨bP,q1,q2,q3⟩:=yV (xs:=[]) (n:=0) (v:=.slice none 0 0) bF Kl (.inl ⟨rfl,rfl,rfl⟩) n_ n_;have ez:ev (a/b)=.view []:=by unfold ev cD;rw[e1,od];rfl
  have en:nd bz (a/b)=0:=by rw[e1,od]
  rw[ez,en,e2];have TR:dp w' va (nd bz a) (cD a):=dp.jO ha iB;obtain⟨dG,s1,s2,s3⟩:=yV q2 (Km _) TR (mD _) (λb o c' e j y o' bE hj hy he=>by
   have Bf:c j=some y:=by
    unfold bh at hj;by_cases bX:j=kq
    ·rw[ax bX]at hj;injection hj with hj;subst hj;cases hy
    ·rw[ao bX]at hj;exact hj
   obtain⟨l,e1,_⟩:=hm.born j y Bf;have e2:=q1 j l e1;rw[he]at e2;injection e2 with e2;subst e2;subst e;rcases hv.hZ rfl with ⟨_,_,_,_,e⟩|⟨b',o2,qb,c2,gW,_,_,e⟩
   ·cases e
   ·injection e with e _ _;injection e with e;injection e with e _ _;subst e;exact(hm.seen k1 _ _ _ _ gY rfl gW).2 j y _ _ Bf hy e1)
  exact⟨bP,q1,q2,q3,dG,s1,s2,s3⟩
 ·have Kn:b<=a:=Kc.1 bZ;have go:Calls prog 178 #[va,vb] w λe w'=>∃ vq vr,e=.returned (.tuple #[vq,vr])/\vo w w' vq (a/b)/\vo w w' vr (a%b)/\Below w.heap.size w w':=by
   by_cases ak:b<bz
   ·exact aXa ha hb Kn kX ak o_
   ·have h3:2<=nd bz b:=by
     rcases fm (nd bz b) 2 with h|h
     ·have h4:=ek (B:=bz) d_ b;have h5:bz^nd bz b<=bz^1:=df d_ o_;rw[Bb]at h5;omega
     ·exact h
    exact aXk (e:=nd bz b-2) ha hb Kn o_ h1
  refine go.mono ?_
  rintro e w' ⟨vq,vr,rfl,h3,h4,iB⟩
  exact fin w' _ _ iB (new w' vq vr iB h3 h4)
theorem aPk(n1 n2:Bool)(a b:Nat):(sg n1 a).tdiv (sg n2 b)=sg (n1 !=n2) (a/b):=by cases n1<;>cases n2<;>simp[sg,Int.neg_tdiv,Int.tdiv_neg]
theorem aPl(n1 n2:Bool)(a b:Nat):(sg n1 a).tmod (sg n2 b)=sg n1 (a%b):=by cases n1<;>cases n2<;>simp[sg,Int.neg_tmod,Int.tmod_neg]<;>exact zk o_
theorem aPm{x:Int}(h1:-4611686018427387904<=x)(h2:x<=4611686018427387903):IntKind.i64.wrap x=x:=by rw[dX];omega
theorem Wv:nd bz 1=1/\cD 1=[vI 1]:=by have h:=vp (s:=1) d_ d_;exact⟨h,by unfold cD;rw[h,Ce d_];rfl⟩
theorem Ww{n:Bool}(h:n=true->m≠0):decide (sg n m<0)=n:=by
 cases n
 ·exact aO (by simp[sg])
 ·exact aE (by have:=h rfl;simp[sg];omega)
theorem aPn(n:Bool)(m:Nat):(sg n m !=0)=decide (m≠0):=by
 by_cases h:m=0
 ·subst h;cases n<;>rfl
 ·rw[aE h,rh];cases n<;>simp[sg]<;>omega
theorem aWZ{x y:Int}{p:Nat}(hy:y≠0)(h1:x.natAbs<2^p)(h2:y.natAbs<2^q)(hp:p<=1099511627774)(hq:q<=1099511627774):
  aB prog 137 [aV x,aV y] (.tuple #[aV (x.fdiv y),aV (x.fmod y),.int .i64 0]):=by
 revert hy h1 h2;refine Fw (C:=λx y v u=>y≠0->x.natAbs<2^p->y.natAbs<2^q->aB prog 137 [v,u] (.tuple #[aV (x.fdiv y),aV (x.fmod y),.int .i64 0])) (λn1 n2 m1 m2 v1 v2 hy h1 h2=>?_) x y;rw[qA]at h1 h2;have HQ:m2≠0:=by intro e;rw[e]at hy;cases n2<;>exact hy rfl
 have b1:=xZ h1;have b2:=xZ h2;have c1:=vO h1;have c2:=vO h2;obtain⟨Q,hQ⟩:∃ Q,Q=m1/m2:=⟨_,rfl⟩;obtain⟨R,hR⟩:∃ R,R=m1%m2:=⟨_,rfl⟩;have Kp:m1=Q*m2+R:=by rw[hQ,hR,cP];exact(jx _ _).symm
 have Fz:R<m2:=by rw[hR];exact cJ _ (tK HQ)
 have TY:Q<=m1:=by rw[hQ];exact tP _ _
 have iQ:((Q*m2:Nat):Int)=(Q:Int)*m2:=nY ..;have fix:R≠0->n1≠n2->(sg n1 m1).fdiv (sg n2 m2)=sg true (Q+1)/\(sg n1 m1).fmod (sg n2 m2)=sg n2 (m2-R):=λuX bj=>by
  refine Of ?_ ?_
  ·rw[Kp];have e:((m2-R:Nat):Int)=(m2:Int)-R:=by omega
   cases n1<;>cases n2<;>first|exact absurd rfl bj|(simp only[sg,qS,uT,uR,vM,iQ,e,HM,HN,Kk,Int.add_mul];omega)
  ·cases n2
   ·left;simp only[sg,uT,uR];omega
   ·right;simp only[sg,qS];omega
 have aPo:¬(R≠0/\n1≠n2)->(sg n1 m1).fdiv (sg n2 m2)=sg (n1 !=n2) Q/\(sg n1 m1).fmod (sg n2 m2)=sg n2 R:=λh=>by
  have h0:n1≠n2->R=0:=λbj=>jI λh3=>h ⟨h3,bj⟩;refine Of ?_ ?_
  ·rw[Kp];cases n1<;>cases n2<;>simp only[sg,Bool.bne_false,Bool.bne_true,J1,NF,qS,uT,uR,vM,iQ,HM,HN,Kk]<;>first|omega|(have:=h0 n_;omega)
  ·cases n2
   ·left;simp only[sg,uT,uR];omega
   ·right;simp only[sg,qS];omega
 have w1:=aWJ n1 v1;have w2:=aWJ n2 v2;have e26:((BA (cG m2)).toList==(ByteArray.mk #[]).toList)=false:=by rw[qy,aO HQ]
 have r2:=LM m2;obtain⟨tR,uX⟩:∃ t,decide (R≠0)=t:=⟨_,rfl⟩;have fx:(sg n1 m1).fdiv (sg n2 m2)=(bif tR&&(n1 !=n2)then sg true (Q+1)else sg (n1 !=n2) Q)/\(sg n1 m1).fmod (sg n2 m2)=(bif tR&&(n1 !=n2)then sg n2 (m2-R)else sg n2 R):=by
  by_cases hf:R≠0/\n1≠n2
  ·rw[<-uX,aE hf.1,rh.2 hf.2];exact fix hf.1 hf.2
  ·rw[show(tR&&(n1 !=n2))=false from Ql.2 λh=>by rw[cZ,<-uX]at h;exact hf ⟨jz h.1,rh.1 h.2⟩]
   exact aPo hf
 obtain⟨t1,i1,d1,q1,_,_,g1⟩:=IM v1;obtain⟨t2,i2,d2,q2,_,_,g2⟩:=IM v2;have e39:decide (((nd 256 m2:Nat):Int)<=7)=t2:=by rw[<-d2];exact pD.2 o_
 by_cases hs:t1=true/\t2=true
 ·obtain⟨rfl,rfl⟩:=hs;obtain rfl:=g1 rfl;obtain rfl:=g2 rfl;have l1:=LL (jz d1);have l2:=LL (jz d2);have td:=aPk n1 n2 m1 m2;have tm:=aPl n1 n2 m1 m2;rw[<-hQ]at td;rw[<-hR]at tm;have gx:=IL n1 m1;have gq:=IL (n1 !=n2) Q;have t52:=(aPn n1 R).trans uX;have t55:=Ww v1;have t57:=Ww v2;have wq:IntKind.i64.wrap ((sg n1 m1).tdiv (sg n2 m2))=sg (n1 !=n2) Q:=by rw[td,dX];omega
  have bk:=Int.mul_fdiv_add_fmod (sg n1 m1) (sg n2 m2);have e1:(bif tR&&(n1 !=n2)then sg true (Q+1)else sg (n1 !=n2) Q)=bif tR&&(n1 !=n2)then sg (n1 !=n2) Q-1 else sg (n1 !=n2) Q:=by cases tR<;>cases n1<;>cases n2<;>first|rfl|(simp[sg];omega)
  have gr:-(m2:Int)<=(bif tR&&(n1 !=n2)then sg n2 (m2-R)else sg n2 R)/\(bif tR&&(n1 !=n2)then sg n2 (m2-R)else sg n2 R)<=m2:=by have h1:=IL n2 (m2-R);have h2:=IL n2 R;cases tR&&(n1 !=n2)<;>(dsimp only[cond];omega)
  rw[fx.1,fx.2,e1]at bk;rw[fx.1,fx.2,e1];have gz:-4611686018427387904<=(bif tR&&(n1 !=n2)then sg (n1 !=n2) Q-1 else sg (n1 !=n2) Q)/\(bif tR&&(n1 !=n2)then sg (n1 !=n2) Q-1 else sg (n1 !=n2) Q)<=4611686018427387903:=by cases tR&&(n1 !=n2)<;>(dsimp only[cond];omega)
  rw[TW]at bk;generalize (bif tR&&(n1 !=n2)then sg n2 (m2-R)else sg n2 R)=rr at *;generalize sg (n1 !=n2) Q=q0 at *;generalize sg n1 R=r0 at *;generalize sg n1 m1=X at *;generalize sg n2 m2=Y at *;have w67:IntKind.i64.wrap ((bif tR&&(n1 !=n2)then q0-1 else q0)*Y)=(bif tR&&(n1 !=n2)then q0-1 else q0)*Y:=by rw[dX];omega
  have w68:IntKind.i64.wrap (X-(bif tR&&(n1 !=n2)then q0-1 else q0)*Y)=rr:=by rw[dX];omega
  have o1:=aXm (z:=bif tR&&(n1 !=n2)then q0-1 else q0) o_ o_;refine eF mixed func137 100 (λw=>[w1.at 15,w2.at 19,.rw 26 (.bool ((BA (cG m2)).toList==(ByteArray.mk #[]).toList)) a_ (by rw[e26]),q1.at 31,.rw 38 _ (vI (nd 256 m2)) r2,.rw 39 (.bool (decide (((nd 256 m2:Nat):Int)<=7))) b_ (by rw[e39]),q2.at 43,.vK f137 48 .i64 X Y _ hy wq k_,.E9 f137 51 .i64 X Y _ hy tm k_,.rw 52 (.bool (r0 !=0)) (.bool tR) (by rw[t52])]++(bif tR then[.rw 55 (.bool (decide (X<0))) (.bool n1) (by rw[t55]),.rw 57 (.bool (decide (Y<0))) (.bool n2) (by rw[t57])]++(bif n1 !=n2 then[.wr 61 .i64 (q0-1) (q0-1) (aPm o_ o_)]else[])else[])++[o1.at 63,.wr 67 .i64 _ _ w67,.wr 68 .i64 _ rr w68,(aXm (z:=rr) o_ o_).at 69]) (λ_=>?_) k_ ?_<;>cases tR<;>cases n1<;>cases n2<;>kernel_rfl
 ·have bQ:nd bz Q<1099511627776:=by have:=jw (B:=bz) d_ TY;omega
  have bR:nd bz R<1099511627776:=by have:=jw (B:=bz) d_ (jV Fz);omega
  have bD:nd bz (m2-R)<1099511627776:=by have:=jw (B:=bz) d_ (Fv m2 R);omega
  have bQ1:nd bz (Q+1)<1099511627776:=Wg (k:=p+1) (by rw[dD];omega) o_;have HK:∀ w,cA prog (aa.at w) (aA f137 77) [.func (.func 178) #[] #[],sl 4 (nd bz m1),sl 5 (nd bz m2)] [(4,some (ev m1)),(5,some (ev m2)),(6,none),(7,none)] (.tuple #[sl 6 (nd bz Q),sl 7 (nd bz R)]) [(7,ev R),(6,ev Q)]:=λw=>by rw[hQ,hR];exact aWS (Bs:=aa.at w) (o:=aA f137 77) (y:=.func 178) k_ (k1:=4) (k2:=5) (kq:=6) (kr:=7) d_ HQ o_ o_
  have Gn:∀ w,cA prog (aa.at w) (aA f137 92) [.func (.func 132) #[] #[],sl 6 (nd bz Q),sl 8 1] [(9,none),(6,some (ev Q)),(8,some (.row [vI 1] 3 1))] (sl 9 (nd bz (Q+1))) [(9,jo (Q+1))]:=λw=>by have:=qF (B:=aa.at w) (o:=aA f137 92) (x:=.func 132) (aDB (a:=Q) (b:=1) o_ (by rw[Wv.1];omega)) (nQ (k:=6) (x:=ev Q) rfl rfl (nQ (k:=8) (x:=.row (cD 1) 3 1) rfl rfl .nil)) k_ k_ (s7 _) 9;rw[Wv.1,Wv.2]at this;exact this
  have HH:decide (0<nd bz R)=tR:=by have:(0<nd bz R)↔R≠0:=⟨λh e=>by rw[e,od]at h;omega,λh=>w9 d_ h⟩;rw[pD.2 this,uX]
  rw[fx.1,fx.2];refine eF mixed func137 100 (λw=>[w1.at 15,w2.at 19,.rw 26 (.bool ((BA (cG m2)).toList==(ByteArray.mk #[]).toList)) a_ (by rw[e26]),q1.at 31]++(bif t1 then[.rw 38 _ (vI (nd 256 m2)) r2,.rw 39 (.bool (decide (((nd 256 m2:Nat):Int)<=7))) (.bool t2) (by rw[e39])]else[])++[.aDZ f137 73 4 m1 o_ k_,.aDZ f137 76 5 m2 o_ k_,.step 77 _ _ _ _ _ (HK w)]++(bif n1 !=n2 then[.gt 88 (nd bz R) 0 tR HH]else[])++
    bif tR&&(n1 !=n2)then[.bs f137 91 8 1 3 1 [0] (vI 0) [vI 1] #[vI 1] (.row [vI 1] 3 1) rfl (λv hv=>by simp at hv;subst hv;rfl) (λv hv=>by simp at hv;subst hv;rfl) k_ rfl o_ o_ k_,.step 92 (aA f137 92) _ _ _ _ (Gn w),.xY f137 95 10 m2 o_ k_,.LK f137 97 11 10 7 m2 R (jo m2) (ev R) rfl rfl rfl rfl (jV Fz) o_ k_,.Aj f137 104 9 (Q+1) true (jo (Q+1)) rfl rfl o_ k_,.Aj f137 108 11 (m2-R) n2 (jo (m2-R)) rfl rfl o_ k_]
    else[.Aj f137 104 6 Q (n1 !=n2) (ev Q) rfl rfl o_ k_,.Aj f137 108 7 R n2 (ev R) rfl rfl o_ k_]) (λ_=>?_) k_ ?_<;>cases t1<;>cases t2<;>first|exact absurd ⟨rfl,rfl⟩ hs|(cases tR<;>cases n1<;>cases n2<;>kernel_rfl)

theorem aPp{y:m_}(ho:dC o.op=some y){n:Nat}{x:Obj}(hx:x.reads=true)(cK:(x.cells.all flat)=true)(hc:(x.cells.drop off).take n=al (ae bz n a))(ha:a<bz^n)(h63:n<=9223372036854775807):
  cA prog Bs o [.func (.func 138) #[] #[],.slice (some ⟨k,off,some 7⟩) n cc] [(k,some x)] (.slice (some ⟨k,off,some 7⟩) (nd bz a) cc) []:=by
 refine j7 (fi:=[]) (ca:=[]) ho k_ λι c w hm hn args' dK=>?_;obtain⟨v,rfl,h1⟩:=nB dK;have hk:c k=some x:=hn _ (aP ..);have hr:=oS (len:=n) hm hk hx (bd.1 cK) (λh=>h) h1;rw[hc]at hr;refine(aDe hr ha h63).mono ?_
 rintro e w' ⟨rfl,hb⟩
 refine⟨ι,_,rfl,Map.le.refl _,?_,hm.call hb⟩;have jK:=jv (B:=bz) d_ ha;rcases h1.hZ rfl with ⟨q1,q2,q3,q4,q5⟩|⟨b,oo,cap,c',q1,q2,q3,q5⟩
 ·rw[q5];have:nd bz a=0:=by omega
  dsimp only at q4;rw[this,q4,q3];exact .slcN q1
 ·rw[q5];exact .slc q1 o_ q3
theorem aPq(x:Int):IntKind.i64.wrap (((BitVec.ofInt IntKind.i64.bits x)&&& (BitVec.ofInt IntKind.i64.bits 1)).toNat:Int)=x%2:=aDN x 1 d_
theorem aD0(x:Nat):IntKind.i64.wrap (((BitVec.ofInt IntKind.i64.bits (x:Int))&&& (BitVec.ofInt IntKind.i64.bits 1)).toNat:Int)=((x%2:Nat):Int):=by rw[aPq];rfl
theorem aPr{n z:Nat}(hz:z<=n)(h0:∀ i,i<z->a/bz^i%bz=0):ae bz n a=List.replicate z 0++ae bz (n-z) (a/bz^z):=by
 apply xa
 ·simp[oT];omega
 ·intro i h1 h2;rw[oT]at h1;by_cases hi:i<z
  ·rw[List.getElem_append_left (by simpa using hi)];simp only[ae,CJ,CK,List.getElem_replicate];exact h0 i hi
  ·rw[List.getElem_append_right (by simp;omega)];simp only[ae,CJ,CK,II];rw[kT,<-eP,show z+(i-z)=i by omega]
theorem aD1{a:Nat}:∀ z,(∀ i,i<z->a/bz^i%bz=0)->a%bz^z=0
 |0,_=>by rw[sC,tL]
 |z+1,h=>by rw[pE,aD1 z (λi hi=>h i o_),h z o_];simp
theorem Wx{d:Nat}:∀ r,(∀ i,i<r->d/2^i%2=0)->d%2^r=0
 |0,_=>by rw[sC,tL]
 |r+1,h=>by have e:=pE (B:=2) d r;rw[Wx r (λi hi=>h i o_),h r o_]at e;rw[e];simp
theorem aPs{x y r:Nat}(hr:r<=24)(hx:x<bz)(hy:y<bz):x/2^r+y*2^(24-r)%bz=(y*bz+x)/2^r%bz:=by
 have hb:bz=2^(24-r)*2^r:=by rw[<-eP,show 24-r+r=24 by omega]
 have h2:0<2^r:=cI d_;obtain⟨c,hc⟩:∃ c,c=2^(24-r):=⟨_,rfl⟩;obtain⟨q,hq⟩:∃ q,q=2^r:=⟨_,rfl⟩;rw[<-hc,<-hq]at hb;rw[<-hc,<-hq];rw[<-hq]at h2;have h3:x/q<c:=by rw[iG h2,<-hb];exact hx
 have e1:(y*bz+x)/q=y*c+x/q:=by rw[hb,<-fU,mR,pF _ _ h2,mR]
 have e2:y*c%bz=c*(y%q):=by rw[hb,cP y c,Nat.mul_mod_mul_left]
 have e3:y*c=c*(y%q)+bz*(y/q):=by have:=jx y q;rw[hb,fU,<-oU,mR,this,cP]
 have h4:y%q<q:=cJ _ h2;have h5:c*(y%q)+c<=bz:=by rw[hb,<-Nv];exact jJ _ h4
 have h6:c*(y%q)+x/q<bz:=by omega
 rw[e1,e2,e3,show c*(y%q)+bz*(y/q)+x/q=(c*(y%q)+x/q)+bz*(y/q)by omega,E5,dU h6];omega
section
variable{Bs:aa}{n a z r:Nat}
def ya(k n z:Nat):Value:=.slice (some ⟨k,z*1,some 7⟩) n z
def yb(n i:Nat):aN:=[(0,ya 0 (n-i) i),(4,vI (24*i))]
def nt(n a:Nat):aH:=[(0,.row (al (ae bz n a)) 3 1)]
theorem aPt(hi:i+1<n)(h0:a/bz^i%bz=0)(h63:n<35184372088832):
  af prog Bs 62 (aF (ag f133 0)) (yb n i) (nt n a) 1 ⟨.normal,yb n (i+1),nt n a,1⟩:=by
 have iI:dO prog 3 (al (ae bz n a)) (i*1)=some (vI 0):=by rw[gC,dZ (eM o_),h0]
 unfold yb nt ya;generalize al (ae bz n a)=r0 at *;obtain⟨m,hm⟩:∃ m,n-i=m+1:=⟨n-i-1,by omega⟩;have dF:n-(i+1)=m:=by omega
 rw[hm,dF];exact aC [.pQ f133 8 0 i (m+1) i 0 i 1 o_ (jd i) k_,.ld f133 9 3 0 (i*1) (.row r0 3 1) (vI 0) rfl iI k_,.fZ 10 0 0 true rfl,.next f133 12 0 i m 1 o_ k_,.sum 14 (24*i) 24 (24*(i+1)) o_ o_]
theorem aPu(hi:i<n)(h0:a/bz^i%bz≠0):
  af prog Bs 62 (aF (ag f133 0)) (yb n i) (nt n a) 1 ⟨.exit 0,yb n i,nt n a,1⟩:=by
 have iI:dO prog 3 (al (ae bz n a)) (i*1)=some (vI (a/bz^i%bz)):=by rw[gC,dZ (eM o_)]
 unfold yb nt ya;generalize al (ae bz n a)=r0 at *;generalize a/bz^i%bz=d at *;exact aC [.pQ f133 8 0 i (n-i) i 0 i 1 o_ (jd i) k_,.ld f133 9 3 0 (i*1) (.row r0 3 1) (vI d) rfl iI k_,.fZ 10 d 0 false (aO h0)]
theorem aPv(hz:z<n)(h0:∀ i,i<z->a/bz^i%bz=0)(h1:a/bz^z%bz≠0)(h63:n<35184372088832):
  af prog Bs 62 (.block 0 (ag f133 0)) (yb n 0) (nt n a) 1 ⟨.normal,yb n z,nt n a,1⟩:=
 bO (id:=0) (ch (b:=aF (ag f133 0)) (r:=⟨.exit 0,yb n z,nt n a,1⟩) z (yb n) (λ_=>nt n a) (λ_ _ _=>Iff.rfl) (λi hi=>aPt o_ (h0 i hi) h63) (aPu hz h1) n_)
def yc(n z i:Nat):aN:=[(0,ya 0 (n-z) z),(5,vI i)]
theorem aPw(hz:z<n)(hd:a/bz^z%bz=d)(D1:d<bz)(hi:i<24)(h0:d/2^i%2=0):
  af prog Bs 62 (aF (ag f133 2)) (yc n z i) (nt n a) 1 ⟨.normal,yc n z (i+1),nt n a,1⟩:=by
 have iI:dO prog 3 (al (ae bz n a)) (z*1)=some (vI d):=by rw[gC,dZ (eM o_),hd]
 unfold yc nt ya;generalize al (ae bz n a)=r0 at *;exact aC [.pQ f133 16 0 z (n-z) z 0 z 1 o_ (jd z) k_,.ld f133 17 3 0 (z*1) (.row r0 3 1) (vI d) rfl iI k_,.shr f133 19 .i64 (d:Int) ((d/2^i:Nat):Int) i (by rw[show min i IntKind.i64.bits=i from nZ (show i<=64 by omega),sB _ (Hw d_),tO,Hx];rfl) k_,.wr 20 .i64 _ ((d/2^i%2:Nat):Int) (aD0 _),.fZ 21 (d/2^i%2) 0 true (aE h0),.sum 23 i 1 (i+1) rfl o_]
theorem aPx(hz:z<n)(hd:a/bz^z%bz=d)(D1:d<bz)(hi:i<24)(h0:d/2^i%2≠0):
  af prog Bs 62 (aF (ag f133 2)) (yc n z i) (nt n a) 1 ⟨.exit 2,yc n z i,nt n a,1⟩:=by
 have iI:dO prog 3 (al (ae bz n a)) (z*1)=some (vI d):=by rw[gC,dZ (eM o_),hd]
 unfold yc nt ya;generalize al (ae bz n a)=r0 at *;exact aC [.pQ f133 16 0 z (n-z) z 0 z 1 o_ (jd z) k_,.ld f133 17 3 0 (z*1) (.row r0 3 1) (vI d) rfl iI k_,.shr f133 19 .i64 (d:Int) ((d/2^i:Nat):Int) i (by rw[show min i IntKind.i64.bits=i from nZ (show i<=64 by omega),sB _ (Hw d_),tO,Hx];rfl) k_,.wr 20 .i64 _ ((d/2^i%2:Nat):Int) (aD0 _),.fZ 21 (d/2^i%2) 0 false (aO h0)]
theorem aPy(hz:z<n)(hd:a/bz^z%bz=d)(D1:d<bz)(hr:r<24)(h0:∀ i,i<r->d/2^i%2=0)(h1:d/2^r%2≠0):
  af prog Bs 62 (.block 2 (ag f133 2)) (yc n z 0) (nt n a) 1 ⟨.normal,yc n z r,nt n a,1⟩:=
 bO (id:=2) (ch (b:=aF (ag f133 2)) (r:=⟨.exit 2,yc n z r,nt n a,1⟩) r (yc n z) (λ_=>nt n a) (λ_ _ _=>Iff.rfl) (λi hi=>aPw hz hd D1 o_ (h0 i hi)) (aPx hz hd D1 hr h1) n_)
def D2(l z r i:Nat):aN:=[(0,ya 0 l z),(5,vI r),(6,vI i)]
def pd(l z r a1 i:Nat):List Nat:=List.replicate z 0++dc bz l i (a1/2^r) a1
def An(l z r a1 i:Nat):aH:=[(0,.row (al (pd l z r a1 i)) 3 1)]
theorem aD2{l:Nat}(hj:j<l)(h:i<=j):(pd l z r a1 i)[z+j]?=some (a1/bz^j%bz):=by unfold pd;rw[EL s_,II,Fi];exact CL hj h
theorem aD3{l:Nat}(hi:i<l)(hd:d=a1/2^r/bz^i%bz):(pd l z r a1 i).set (z+i) d=pd l z r a1 (i+1):=by unfold pd;rw[VH _ _ s_,II,Fi,y0 hi hd]
theorem Wy{l:Nat}:(pd l z r a1 i).length=z+l:=by unfold pd;rw[kP,II,xb]
theorem aPz{l:Nat}(hr:r<24)(hi:i<l)(ha:a1<bz^l)(h63:z+l<35184372088832):
  af prog Bs 62 (aF (ag f133 4)) (D2 l z r i) (An l z r a1 i) 1 ⟨.normal,D2 l z r (i+1),An l z r a1 (i+1),1⟩:=by
 have hx:=gZ (B:=bz) d_ a1 i;have hy:=gZ (B:=bz) d_ a1 (i+1);have vn:=aPs (r:=r) o_ hx hy;rw[aAC (B:=bz) (k:=r) (X:=a1) (i:=i) d_ ⟨2^(24-r),by rw[<-eP,show r+(24-r)=24 by omega]⟩]at vn;have hw:=gZ (B:=bz) d_ (a1/2^r) i;have hlx:dO prog 3 (al (pd l z r a1 i)) ((z+i)*1)=some (vI (a1/bz^i%bz)):=by rw[gC];exact dZ (aD2 hi (bA _))
 obtain⟨D3,DI⟩:∃ D3,D3=(pd l z r a1 i).set (z+i) (a1/bz^i%bz/2^r):=⟨_,rfl⟩;have wS:e9 prog 3 (al (pd l z r a1 i)) ((z+i)*1) (vI (a1/bz^i%bz/2^r))=some (al D3):=by rw[gC,wj (by rw[Wy];omega),DI]
 have D0:dO prog 3 (al D3) ((z+i)*1)=some (vI (a1/bz^i%bz/2^r)):=by rw[gC];refine dZ ?_;rw[DI,List.getElem?_set_self (by rw[Wy];omega)]
 have Wz:i+1<l->dO prog 3 (al D3) ((z+(i+1))*1)=some (vI (a1/bz^(i+1)%bz)):=λh=>by rw[gC];refine dZ ?_;rw[DI,List.getElem?_set_ne o_];exact aD2 h o_
 have uL:e9 prog 3 (al D3) ((z+i)*1) (vI (a1/2^r/bz^i%bz))=some (al (pd l z r a1 (i+1))):=by rw[gC,wj (by rw[DI,Wo,Wy];omega),DI,List.set_set,aD3 hi rfl]
 have mU:¬i+1<l->al D3=al (pd l z r a1 (i+1))/\True:=λh=>by have h0:a1/bz^(i+1)%bz=0:=rf ha o_ d_;rw[h0,kS,Nat.zero_mod,jd]at vn;refine⟨?_,trivial⟩;rw[DI,vn,aD3 hi rfl]
 have jY:bz=16777216:=rfl;unfold D2 An ya;generalize al (pd l z r a1 (i+1))=r2 at *;generalize al (pd l z r a1 i)=r0 at *;generalize al D3=r1 at *;generalize a1/2^r/bz^i%bz=w at *;generalize a1/bz^(i+1)%bz=y at *;generalize a1/bz^i%bz=x at *;have hq:(x:Int).fdiv (2^(min r IntKind.i64.bits))=((x/2^r:Nat):Int):=by rw[show min r IntKind.i64.bits=r from nZ (show r<=64 by omega),sB _ (Hw d_),tO,Hx];rfl
 have hxq:x/2^r<=x:=tP _ _;by_cases hl:i+1<l
 ·have Wz:=Wz hl;have h24:y*2^(24-r)<281474976710656:=by have h1:2^(24-r)<=2^24:=df d_ o_;have h2:=aAG hy h1 d_;rw[show bz*2^24=281474976710656 by decide]at h2;exact h2
  have aD4:IntKind.i64.wrap ((y:Int)*2^(min (24-r) IntKind.i64.bits))=((y*2^(24-r):Nat):Int):=by
   have e:(y:Int)*2^(24-r)=((y*2^(24-r):Nat):Int):=by simp
   rw[show min (24-r) IntKind.i64.bits=24-r from nZ (show 24-r<=64 by omega),dX,e];omega
  obtain⟨g,hg⟩:∃ g,g=y*2^(24-r):=⟨_,rfl⟩;rw[<-hg]at vn aD4 h24;obtain⟨v,hv⟩:∃ v,v=x/2^r:=⟨_,rfl⟩;rw[<-hv]at vn hq hxq wS D0;exact fB mixed 200 [.lt 27 i l true (by simp[hi]),.pQ f133 32 0 z l z i (z+i) 1 hi rfl k_,.ld f133 33 3 0 ((z+i)*1) (.row r0 3 1) (vI x) rfl hlx k_,.shr f133 35 .i64 (x:Int) (v:Int) r hq k_,.pQ f133 36 0 z l z i (z+i) 1 hi rfl k_,.st f133 100036 3 0 ((z+i)*1) (.row r0 3 1) (vI v) (.row r1 3 1) rfl wS rfl k_,.sum 38 i 1 (i+1) rfl o_,.lt 41 (i+1) l true (by simp[hl]),.pQ f133 44 0 z l z i (z+i) 1 hi rfl k_,.ld f133 45 3 0 ((z+i)*1) (.row r1 3 1) (vI v) rfl D0 k_,.sum 48 i 1 (i+1) rfl o_,.pQ f133 49 0 z l z (i+1) (z+(i+1)) 1 hl rfl k_,.ld f133 50 3 0 ((z+(i+1))*1) (.row r1 3 1) (vI y) rfl Wz k_,.fh 52 24 r (24-r) o_ o_,.shl f133 53 .i64 (y:Int) (g:Int) (24-r) aD4 k_,.Gf 54 g bz (g%bz) rfl,.sum 55 v (g%bz) w vn.symm o_,.pQ f133 56 0 z l z i (z+i) 1 hi rfl k_,.st f133 100056 3 0 ((z+i)*1) (.row r1 3 1) (vI w) (.row r2 3 1) rfl uL rfl k_,.sum 29 i 1 (i+1) rfl o_] k_
 ·obtain⟨e1,_⟩:=mU hl;subst e1;obtain⟨v,hv⟩:∃ v,v=x/2^r:=⟨_,rfl⟩;rw[<-hv]at vn hq hxq wS D0;exact fB mixed 200 [.lt 27 i l true (by simp[hi]),.pQ f133 32 0 z l z i (z+i) 1 hi rfl k_,.ld f133 33 3 0 ((z+i)*1) (.row r0 3 1) (vI x) rfl hlx k_,.shr f133 35 .i64 (x:Int) (v:Int) r hq k_,.pQ f133 36 0 z l z i (z+i) 1 hi rfl k_,.st f133 100036 3 0 ((z+i)*1) (.row r0 3 1) (vI v) (.row r1 3 1) rfl wS rfl k_,.sum 38 i 1 (i+1) rfl o_,.lt 41 (i+1) l false (by simp[hl]),.sum 29 i 1 (i+1) rfl o_] k_
theorem aPA{l:Nat}(hr:r<24)(ha:a1<bz^l)(h63:z+l<35184372088832):
  af prog Bs 62 (.block 4 (ag f133 4)) (D2 l z r 0) (An l z r a1 0) 1 ⟨.normal,D2 l z r l,An l z r a1 l,1⟩:=
 bO (id:=4) (ch (b:=aF (ag f133 4)) (r:=⟨.exit 4,D2 l z r l,An l z r a1 l,1⟩) l (D2 l z r) (An l z r a1) (λk j _=>j6 (l:=An l z r a1 k) (m:=An l z r a1 0) rfl j) (λi hi=>aPz hr hi ha h63)
  (aC [.lt 27 l l false s_]) n_)
end

theorem aD5(h0:a≠0):∃ z r,z<nd bz a/\r<24/\(∀ i,i<z->a/bz^i%bz=0)/\a/bz^z%bz≠0/\(∀ i,i<r->a/bz^z%bz/2^i%2=0)/\a/bz^z%bz/2^r%2≠0/\
  a=a/bz^z/2^r*2^(24*z+r)/\a/bz^z/2^r%2=1:=by
 have D4:=w9 (B:=bz) d_ h0;have xu:¬a/bz^(nd bz a-1)%bz=0:=λh=>by have h1:=ek (B:=bz) d_ a;rw[show nd bz a=nd bz a-1+1 by omega]at h1;have h2:=(He (B:=bz) d_ h1).1 h;have h3:=jv (B:=bz) d_ h2;omega
 obtain⟨z,z1,z2,z3⟩:=yZ (λi=>¬a/bz^i%bz=0) _ xu;have z3':∀ i,i<z->a/bz^i%bz=0:=λi hi=>Fc.1 (z3 i hi);obtain⟨d,hd⟩:∃ d,d=a/bz^z%bz:=⟨_,rfl⟩;have D1:d<bz:=by rw[hd];exact cJ _ d_
 have Dc:d≠0:=by rw[hd];exact z2
 have aPB:∃ i,i<24/\¬d/2^i%2=0:=jI λfT=>Dc (by have h:=Wx (d:=d) 24 (λi hi=>jI λh=>fT ⟨i,hi,h⟩);rw[dU (show d<2^24 from D1)]at h;exact h)
 obtain⟨i0,hi0,kX⟩:=aPB;obtain⟨r,r1,r2,r3⟩:=yZ (λi=>¬d/2^i%2=0) _ kX;have WA:∀ i,i<r->d/2^i%2=0:=λi hi=>Fc.1 (r3 i hi);have e1:a%bz^z=0:=aD1 z z3';have e2:d%2^r=0:=Wx r WA;obtain⟨a1,eE⟩:∃ a1,a1=a/bz^z:=⟨_,rfl⟩;have ea:a=a1*bz^z:=by have:=jx a (bz^z);rw[e1,<-eE,cP]at this;omega
 have hb:bz=2^(24-r)*2^r:=by rw[<-eP,show 24-r+r=24 by omega]
 have ed:a1=bz*(a1/bz)+d:=by rw[hd,<-eE];exact(jx _ _).symm
 have e3:a1%2^r=0:=by
  rw[ed]
  conv=>lhs;rw[hb]
  rw[Bk,cP _ (2^r),Nat.mul_add_mod,e2]
 have ea1:a1=a1/2^r*2^r:=by have:=jx a1 (2^r);rw[e3,cP]at this;omega
 have e4:a1/2^r%2=d/2^r%2:=by
  have h2:0<2^r:=cI d_;have h3:a1/2^r=2^(24-r)*(a1/bz)+d/2^r:=by
   conv=>lhs;rw[ed,hb]
   rw[Bk,mR,pF _ _ h2,mR];rw[<-hb]
  rw[h3,show 24-r=(23-r)+1 by omega,dD,Bk,mR,C5]
 rw[hd]at r2 WA;refine⟨z,r,by omega,by omega,z3',z2,WA,r2,?_,?_⟩
 ·rw[<-eE];have e5:bz^z=2^(24*z):=by rw[sD]
  rw[eP,cP (2^(24*z)),<-fU,<-ea1,<-e5];exact ea
 ·rw[<-eE,e4,hd];omega
theorem aPC(h0:a≠0)(h63:nd bz a<1099511627776):∃ s a2,a=a2*2^s/\a2%2=1/\s<35184372088832/\∀(Bs:aa) (o:Oper) (k j:Nat),dC o.op=some (.func 133)->
  cA prog Bs o [.func (.func 133) #[] #[],sl k (nd bz a)] [(k,some (jo a)),(j,none)] (.tuple #[sl j (nd bz a2),vI s]) [(j,ev a2),(k,.dead)]:=by
 obtain⟨z,r,hz,hr,z3,z2,r3,r2,aD6,Qm⟩:=aD5 h0;have ak:=ek (B:=bz) d_ a;obtain⟨a1,eE⟩:∃ a1,a1=a/bz^z:=⟨_,rfl⟩;obtain⟨a2,gk⟩:∃ a2,a2=a1/2^r:=⟨_,rfl⟩;have D1:a/bz^z%bz<bz:=cJ _ d_;rw[<-eE,<-gk]at aD6 Qm;refine⟨24*z+r,a2,aD6,Qm,by omega,λBs o k j ho=>?_⟩;have h20:a2≠0:=λe=>by rw[e]at Qm;cases Qm
 have Gp:=aPr (n:=nd bz a) (z:=z) (a:=a) o_ z3;rw[<-eE]at Gp;have jE:jo a=.row (al (ae bz (nd bz a) a)) 3 1:=rfl;obtain⟨n,hn⟩:∃ n,n=nd bz a:=⟨_,rfl⟩;rw[jE];rw[<-hn]at hz ak Gp h63 ⊢;have aD7:a1<bz^(n-z):=by rw[eE,iG (cI d_),<-eP,show n-z+z=n by omega];exact ak
 have WB:a2<bz^(n-z):=eV (by rw[gk];exact tP _ _) aD7;have l1:=λBs=>aPv (Bs:=Bs) hz z3 z2 o_;have l2:=λBs=>aPy (Bs:=Bs) (r:=r) hz rfl D1 hr r3 r2;have l3:=λBs=>aPA (Bs:=Bs) (z:=z) (l:=n-z) hr aD7 o_;have e0:pd (n-z) z r a1 0=ae bz n a:=by unfold pd;rw[Gp];unfold dc ae;simp
 have e1:pd (n-z) z r a1 (n-z)=List.replicate z 0++ae bz (n-z) a2:=by
  unfold pd;rw[<-gk]
  congr 1
  unfold dc ae;refine wU λi hi=>?_;rw[ax (j4.1 hi)]
 obtain⟨fin,DW⟩:∃ fin,fin=al (List.replicate z 0++ae bz (n-z) a2):=⟨_,rfl⟩;have aD8:(fin.drop (z*1)).take (n-z)=al (ae bz (n-z) a2):=by rw[DW,gC];unfold al;rw[rW,R0 s_,j8 (by simp[oT])]
 unfold An at l3;rw[e0,e1,<-DW]at l3;have aPD:nd bz a2<=n-z:=jv d_ WB;have Be:fin.all flat=true:=by rw[DW];exact iv _
 have Db:(fin.drop (z*1)).take (nd bz a2)=cD a2:=by
  have h1:(al (ae bz (n-z) a2)).take (nd bz a2)=cD a2:=by have:=B9 WB;rwa[gC]at this
  rw[<-aD8,MP,nZ aPD]at h1;exact h1
 have kp:=w9 (B:=bz) d_ h20;have htr:∀ Bs,cA prog Bs (aA f133 58) [.func (.func 138) #[] #[],ya 0 (n-z) z] [(0,some (.row fin 3 1))] (ya 0 (nd bz a2) z) []:=λBs=>
  aPp (Bs:=Bs) (y:=.func 138) (k:=0) (off:=z*1) (cc:=z) (x:=.row fin 3 1) k_ rfl Be aD8 WB o_
 unfold yb nt at l1;unfold yc nt at l2;unfold D2 at l3;refine aOP (x:=.func 133) ho k_ o_ (mD _) (mD _) rfl kp λw g cap cur hg lJ jP bC hc=>?_;have hm:=SV hg jP bC hc (mD _)
 refine uO (M:=[(0,.row (al (ae bz n a)) 3 1)]) (next:=1) (args:=[sl 0 n]) (args':=[.slice (some ⟨g,0,none⟩) n cap]) (v:=.tuple #[ya 0 (nd bz a2) z,vI (24*z+r)])
  (ms:=[(0,.row fin 3 1)]) (N:=62) mixed func133 k_ 200
  (rs:=[(.code 0 _ _ _ _ _ (l1 _):aU prog (aa.vJ w g) 62),.code 2 _ _ _ _ _ (l2 _),.code 4 _ _ _ _ _ (l3 _),.step 58 (aA f133 58) _ _ _ _ (htr _),.sum 61 (24*z) r (24*z+r) rfl o_]) k_ ?_ hm ?_ ?_ ?_
 ·exact .cons (.slc (off:=0) (fP _ _ _) lJ o_) .nil
 ·exact ZS _ _ _
 ·intro k hk;unfold bh;rw[ao o_]
 ·intro ay b9 v' w' hle tA bF dQ;have BJ:=dQ _ (aP ..);have uE:=hle 0 _ (fP _ _ _);obtain⟨q1,fX,q2,q3,q4⟩:=SX bF uE BJ (bd.1 Be);obtain⟨cQ,rfl,aY⟩:=tA.uD;obtain⟨p,q,hp,h3,h4⟩:=js aY;have e:cQ=#[p,q]:=vF.1 (by rw[hp]);subst e;rw[h4.fk rfl];have cv:=oS (len:=nd bz a2) bF BJ rfl (bd.1 Be) (λh=>h) h3;have WC:dp w' p (nd bz a2) ((fin.drop (z*1)).take (nd bz a2)):=cv;rw[Db]at WC;rcases h3.hZ rfl with ⟨_,EE,_⟩|⟨b,oo,qb,c2,gW,_,_,he⟩
  ·omega
  ·dsimp only at gW he;rw[uE]at gW;injection gW with gW;injection gW with gW hb3 hb4;subst gW;subst hb3;rw[he]at WC ⊢;exact⟨_,_,rfl,q1,⟨fX,q2,q3⟩,WC⟩
theorem aD9(h:m%2=1)(s:Nat):Nat.Coprime (2^s) m:=by refine Nat.Coprime.pow_left s ?_;show Nat.gcd 2 m=1;rw[Nat.gcd_rec,h];rfl
theorem aEa{x y s t:Nat}(h:x*2^s=y*2^t)(hx:x%2=1)(bT:s<=t):x=y/\s=t:=by
 obtain⟨d,rfl⟩:∃ d,t=s+d:=⟨t-s,by omega⟩;have h2:0<2^s:=cI d_;rw[eP,cP (2^s),<-fU]at h;have h3:=aKC h2 h;cases d with
 |zero=>exact⟨by rw[h3];simp,rfl⟩
 |succ d=>
  exfalso;rw[dD,<-fU]at h3;rw[h3,ZD]at hx;cases hx
theorem aPE{x y s t:Nat}(h:x*2^s=y*2^t)(hx:x%2=1)(hy:y%2=1):x=y/\s=t:=by
 rcases Od s t with h1|h1
 ·exact aEa h hx h1
 ·obtain⟨e1,e2⟩:=aEa h.symm hy h1;exact⟨e1.symm,e2.symm⟩
noncomputable def gR(a:Nat):Nat:=by
 classical
 exact if h:∃ x s,a=x*2^s/\x%2=1 then h.choose else 1
theorem aEb{x s:Nat}(h:a=x*2^s)(hx:x%2=1):gR a=x:=by have hex:∃ x s,a=x*2^s/\x%2=1:=⟨x,s,h,hx⟩;unfold gR;rw[dif_pos hex];obtain⟨t,h1,h2⟩:=hex.choose_spec;exact(aPE (h1.symm.trans h) h2 hx).1
theorem WD(h0:a≠0):∃ s,a=gR a*2^s/\gR a%2=1/\gR a<=a:=by obtain⟨z,r,_,_,_,_,_,_,h1,h2⟩:=aD5 h0;have e:=aEb h1 h2;rw[e];exact⟨_,h1,h2,di (Ff _ (cI d_)) (vC h1.symm)⟩
noncomputable def gs(a b:Nat):Nat->Nat×Nat
 |0=>(a,b)
 |i+1=>(min (gs a b i).1 (gs a b i).2,gR (max (gs a b i).1 (gs a b i).2-min (gs a b i).1 (gs a b i).2))
theorem aPF{u v:Nat}(hu:u%2=1)(hv:v%2=1)(bj:u≠v):min u v%2=1/\gR (max u v-min u v)%2=1/\Nat.gcd (min u v) (gR (max u v-min u v))=Nat.gcd u v/\min u v+gR (max u v-min u v)<u+v/\max (min u v) (gR (max u v-min u v))<=max u v:=by
 have go:∀ u v,u%2=1->u<v->gR (v-u)%2=1/\Nat.gcd u (gR (v-u))=Nat.gcd u v/\u+gR (v-u)<u+v/\max u (gR (v-u))<=v:=by intro u v hu ak;obtain⟨s,h1,h2,h3⟩:=WD (show v-u≠0 by omega);refine⟨h2,?_,by omega,Nat.max_le.2 ⟨by omega,by omega⟩⟩;have h4:=(aD9 hu s).gcd_mul_right_cancel_right (gR (v-u));rw[<-h1]at h4;rw[<-h4,Nat.gcd_sub_self_right o_]
 rcases EO bj with h|h
 ·rw[nZ o_,aEc o_];obtain⟨h1,h2,h3,h4⟩:=go u v hu h;exact⟨hu,h1,h2,h3,h4⟩
 ·rw[Wl o_,aEd o_];obtain⟨h1,h2,h3,h4⟩:=go v u hv h;exact⟨hv,h1,by rw[h2,HO],by omega,h4⟩
theorem Qn{a b:Nat}(ha:a%2=1)(hb:b%2=1):∀ i,(∀ j,j<i->(gs a b j).1≠(gs a b j).2)->(gs a b i).1%2=1/\(gs a b i).2%2=1/\Nat.gcd (gs a b i).1 (gs a b i).2=Nat.gcd a b/\(gs a b i).1+(gs a b i).2+i<=a+b/\max (gs a b i).1 (gs a b i).2<=max a b
 |0,_=>⟨ha,hb,rfl,bA _,bA _⟩
 |i+1,h=>by obtain⟨h1,h2,h3,h4,h5⟩:=Qn ha hb i λj hj=>h j o_;obtain⟨k1,k2,k3,k4,k5⟩:=aPF h1 h2 (h i o_);exact⟨k1,k2,k3.trans h3,by show min _ _+gR _+(i+1)<=a+b;omega,di k5 h5⟩
theorem aPG(ha:a%2=1)(hb:b%2=1):∃ n,(gs a b n).1=(gs a b n).2/\∀ i,i<n->(gs a b i).1≠(gs a b i).2:=by
 have key:∃ n,(gs a b n).1=(gs a b n).2:=jI λfT=>by have:=Qn ha hb (a+b+1) λj _ h=>fT ⟨j,h⟩;omega
 obtain⟨n,hn⟩:=key;obtain⟨e,h1,h2,h3⟩:=yZ (λi=>(gs a b i).1=(gs a b i).2) n hn;exact⟨e,h2,h3⟩
theorem aPH{x y s t:Nat}(hx:x%2=1)(hy:y%2=1):Nat.gcd (x*2^s) (y*2^t)=Nat.gcd x y*2^(min s t):=by
 have go:∀ x y s t,x%2=1->s<=t->Nat.gcd (x*2^s) (y*2^t)=Nat.gcd x y*2^s:=by intro x y s t hx bT;obtain⟨d,rfl⟩:∃ d,t=s+d:=⟨t-s,by omega⟩;rw[eP,cP (2^s),<-fU,Nat.gcd_mul_right,(aD9 hx d).gcd_mul_right_cancel_right]
 rcases Od s t with h|h
 ·rw[nZ h,go x y s t hx h]
 ·rw[Wl h,HO,go y x t s hy h,HO]
theorem WE(h:decide (a=b)=t):Value.bool (hJ a b==0)=.bool t:=by
 rw[<-h];congr 1;unfold hJ
 by_cases h1:a<b
 ·rw[ax h1,aO o_];rfl
 ·rw[ao h1];by_cases h2:b<a
  ·rw[ax h2,aO o_];rfl
  ·rw[ao h2,aE o_];rfl
theorem aEe(h:decide (b<a)=t):Value.bool (decide (hJ a b>0))=.bool t:=by
 rw[<-h];congr 1;rw[pD];unfold hJ
 by_cases h1:a<b
 ·rw[ax h1];omega
 ·rw[ao h1];by_cases h2:b<a
  ·rw[ax h2];omega
  ·rw[ao h2];omega
theorem Qo(h0:a≠0)(h63:nd bz a<1099511627776):∃ s,a=gR a*2^s/\s<35184372088832/\∀(Bs:aa) (o:Oper) (k j:Nat),dC o.op=some (.func 133)->
  cA prog Bs o [.func (.func 133) #[] #[],sl k (nd bz a)] [(k,some (jo a)),(j,none)] (.tuple #[sl j (nd bz (gR a)),vI s]) [(j,ev (gR a)),(k,.dead)]:=by
 obtain⟨s,a2,h1,h2,h3,h4⟩:=aPC h0 h63;have e:=aEb h1 h2;rw[e];exact⟨s,h1,h3,h4⟩
section
variable{Bs:aa}
def gI(u v:Nat):aN:=[(9,sl 7 (nd bz u)),(10,sl 8 (nd bz v))]
def gX(u v:Nat):List Obj:=[ev u,ev v]
theorem aPI{u v:Nat}(ak:u<v)(hu:nd bz u<1099511627776)(hv:nd bz v<1099511627776):
  af prog Bs 111 (aF (ag f75 2)) (gI u v) ([]++marks 7 (gX u v)) 9 ⟨.normal,fj 7 [some 7,some 10] (gI u (gR (v-u))),[]++dB [some 7,some 10] (gX u (gR (v-u))),11⟩:=by
 have hd:nd bz (v-u)<1099511627776:=eV (jw d_ (Fv _ _)) hv;obtain⟨s,_,_,ho⟩:=Qo (show v-u≠0 by omega) hd;exact aC [.IK f75 86 7 8 u v (ev u) (ev v) rfl rfl rfl rfl o_ o_ k_,.rw 88 _ a_ (WE (a:=u) (b:=v) (aO o_)),.rw 90 _ a_ (aEe (a:=u) (b:=v) (aO o_)),.LK f75 96 9 8 7 v u (ev v) (ev u) rfl rfl rfl rfl o_ o_ k_,.step 97 _ _ _ _ _ (ho Bs (aA f75 97) 9 10 k_)]
theorem aPJ{u v:Nat}(ak:v<u)(hu:nd bz u<1099511627776)(hv:nd bz v<1099511627776):
  af prog Bs 111 (aF (ag f75 2)) (gI u v) ([]++marks 7 (gX u v)) 9 ⟨.normal,fj 7 [some 8,some 10] (gI v (gR (u-v))),[]++dB [some 8,some 10] (gX v (gR (u-v))),11⟩:=by
 have hd:nd bz (u-v)<1099511627776:=eV (jw d_ (Fv _ _)) hu;obtain⟨s,_,_,ho⟩:=Qo (show u-v≠0 by omega) hd;exact aC [.IK f75 86 7 8 u v (ev u) (ev v) rfl rfl rfl rfl o_ o_ k_,.rw 88 _ a_ (WE (a:=u) (b:=v) (aO o_)),.rw 90 _ b_ (aEe (a:=u) (b:=v) (aE o_)),.LK f75 96 9 7 8 u v (ev u) (ev v) rfl rfl rfl rfl o_ o_ k_,.step 97 _ _ _ _ _ (ho Bs (aA f75 97) 9 10 k_)]
theorem aPK{u:Nat}(hu:nd bz u<1099511627776):
  af prog Bs 111 (aF (ag f75 2)) (gI u u) ([]++marks 7 (gX u u)) 9 ⟨.exit 2,[(9,sl 7 (nd bz u))],[(7,ev u)],9⟩:=
 aC [.IK f75 86 7 8 u u (ev u) (ev u) rfl rfl rfl rfl o_ o_ k_,.rw 88 _ b_ (WE (a:=u) (b:=u) (aE rfl))]
theorem aPL(ha:a%2=1)(hb:b%2=1)(hm:nd bz (max a b)<1099511627776):
  af prog Bs 111 (.block 2 (ag f75 2)) [(9,sl 5 (nd bz a)),(10,sl 6 (nd bz b))] [(5,ev a),(6,ev b)] 7 ⟨.normal,[(9,sl 7 (nd bz (Nat.gcd a b)))],[(7,ev (Nat.gcd a b))],9⟩:=by
 obtain⟨n,hn,hi⟩:=aPG ha hb;have u7:=(Qn ha hb n hi).2.2.1;rw[hn,Nat.gcd_self]at u7;have EP:∀ i,i<=n->nd bz (gs a b i).1<1099511627776/\nd bz (gs a b i).2<1099511627776:=λi cv=>by have h:=(Qn ha hb i λj hj=>hi j o_).2.2.2.2;have h1:=jw (B:=bz) d_ (di (Nat.le_max_left _ _) h);have h2:=jw (B:=bz) d_ (di (Nat.le_max_right _ _) h);omega
 have mU:af prog Bs 111 (aF (ag f75 2)) (gI (gs a b n).1 (gs a b n).2) ([]++marks 7 (gX (gs a b n).1 (gs a b n).2)) 9 ⟨.exit 2,[(9,sl 7 (nd bz (Nat.gcd a b)))],[(7,ev (Nat.gcd a b))],9⟩:=by have gW:=(EP n (bA _)).2;rw[hn,u7]at *;exact aPK gW
 have:=pH (P:=prog) (B:=Bs) (N:=111) (b:=aF (ag f75 2)) (next:=7) (p:=2) (r:=⟨.exit 2,[(9,sl 7 (nd bz (Nat.gcd a b)))],[(7,ev (Nat.gcd a b))],9⟩) n (λi=>gI (gs a b i).1 (gs a b i).2) (λ_=>[]) (λi=>gX (gs a b i).1 (gs a b i).2) [some 5,some 6] (λ_ _=>rfl)
  (λi _=>⟨λq hq=>(by cases hq),λz hz=>by simp[gX]at hz;rcases hz with rfl|rfl<;>exact Hs (mD _)⟩) k_ k_
  (λi ak=>by
   have bj:=hi i ak;obtain⟨b1,b2⟩:=EP i o_;have e1:(gs a b (i+1)).1=min (gs a b i).1 (gs a b i).2:=rfl;have e2:(gs a b (i+1)).2=gR (max (gs a b i).1 (gs a b i).2-min (gs a b i).1 (gs a b i).2):=rfl;simp only[e1,e2];generalize (gs a b i).1=u at *;generalize (gs a b i).2=v at *;rcases EO bj with h|h
   ·rw[nZ o_,aEc o_];exact⟨[some 7,some 10],11,k_,aPI h b1 b2⟩
   ·rw[Wl o_,aEd o_];exact⟨[some 8,some 10],11,k_,aPJ h b1 b2⟩) mU n_
 exact bO (id:=2) this
def tI(g s t i:Nat):aN:=[(14,vI i),(9,sl 9 (nd bz (g*2^i))),(11,vI s),(12,vI t)]
theorem aPM{g s t:Nat}(hi:i<min s t)(hg:nd bz (g*2^i)<35184372088832)(hs:s<35184372088832):
  af prog Bs 111 (aF (ag f75 4)) (tI g s t i) ([]++marks 9 [ev (g*2^i)]) 10 ⟨.normal,fj 9 [some 10] (tI g s t (i+1)),[]++dB [some 10] [ev (g*2^(i+1))],11⟩:=by
 have ht:=aDY (B:=Bs) (o:=aA f75 108) (x:=.func 136) (aOi (a:=g*2^i) (c:=0) o_ hg) (nQ (k:=9) (x:=ev (g*2^i)) rfl rfl (.p (v:=vI 0) rfl .nil)) k_ k_ (s7 _) 10;have e:2*(g*2^i)+0=g*2^(i+1):=by rw[dD,jd,mS,cP 2]
 rw[e]at ht;obtain⟨m,hm⟩:∃ m,m=min s t:=⟨_,rfl⟩;rw[<-hm]at hi;have dQ:m<=s:=by rw[hm];exact Nat.min_le_left _ _
 unfold tI;generalize g*2^(i+1)=y at *;generalize g*2^i=x at *;exact aC [.Qh f75 103 s t m hm k_,.lt 104 i m true (aE hi),.step 108 _ _ _ _ _ ht,.sum 106 i 1 (i+1) rfl o_]
theorem aPN{g s t:Nat}(hg:∀ i,i<=min s t->nd bz (g*2^i)<35184372088832)(hs:s<35184372088832):
  af prog Bs 111 (.block 4 (ag f75 4)) [(14,vI 0),(9,sl 7 (nd bz g)),(11,vI s),(12,vI t)] [(7,ev g)] 9 ⟨.normal,[(9,sl 9 (nd bz (g*2^min s t)))],[(9,ev (g*2^min s t))],10⟩:=by
 have:=pH (P:=prog) (B:=Bs) (N:=111) (b:=aF (ag f75 4)) (next:=9) (p:=1) (r:=⟨.exit 4,[(9,sl 9 (nd bz (g*2^min s t)))],[(9,ev (g*2^min s t))],10⟩) (min s t) (tI g s t) (λ_=>[]) (λi=>[ev (g*2^i)]) [some 7] (λ_ _=>rfl)
  (λi _=>⟨λq hq=>(by cases hq),λz hz=>by simp at hz;subst hz;exact Hs (mD _)⟩) k_ k_
  (λi ak=>⟨[some 10],11,k_,aPM ak (hg i o_) hs⟩)
  (by unfold tI;obtain⟨m,hm⟩:∃ m,m=min s t:=⟨_,rfl⟩;rw[<-hm];generalize g*2^m=x at *;exact aC [.Qh f75 103 s t m hm k_,.lt 104 m m false s_]) n_
 have e0:g*2^0=g:=by simp
 unfold tI at this;rw[e0]at this;exact bO (id:=4) this
def aW2(u v:Nat):aN:=[(5,vI u),(7,vI v)]
theorem aXc{x y:Nat}:af prog Bs 111 (.block 0 (ag f75 0)) (aW2 x y) [] 3 ⟨.normal,[(5,vI (Nat.gcd x y))],[],3⟩:=by
 obtain⟨n,hn,hi⟩:=Oc x y (λ_ v=>decide (v≠0)) (λu v h=>jz h);have hz:(eu x y n).2=0:=by have:=Df hn;omega
 have hg:=Ko x y n;rw[hz,TU]at hg;rw[<-hg];refine bO (id:=0) (ch (P:=prog) (B:=Bs) (N:=111) (b:=aF (ag f75 0)) (next:=3) (r:=⟨.exit 0,[(5,vI (eu x y n).1)],[],3⟩) n (λi=>aW2 (eu x y i).1 (eu x y i).2) (λ_=>[]) (λ_ _ _=>Iff.rfl) (λi ak=>?_) ?_ n_)
 ·have h0:(eu x y i).2≠0:=jz (hi i ak);show af _ _ _ _ (aW2 (eu x y i).1 (eu x y i).2) [] 3 ⟨.normal,aW2 (eu x y i).2 ((eu x y i).1%(eu x y i).2),[],3⟩;generalize (eu x y i).1=u at *;generalize (eu x y i).2=v at *;exact aC [.rw 49 (.bool ((v:Int)!=0)) b_ (by congr 1;rw[rh];omega),.E9 f75 53 .i64 (u:Int) v ((u%v:Nat):Int) o_ (by rw[zk o_];rfl) k_]
 ·rw[hz];exact aC [.rw 49 (.bool (((0:Nat):Int)!=0)) a_ rfl]
end
theorem aXe{n1 n2:Bool}{p:Nat}(v1:n1=true->m1≠0)(v2:n2=true->m2≠0)(h1:m1<2^p)(h2:m2<2^q)(hp:p<=1099511627774)(hq:q<=1099511627774):
  aB prog 75 [sv n1 m1,sv n2 m2] (aV (Nat.gcd m1 m2:Nat)):=by
 have b1:=xZ h1;have b2:=xZ h2;have c1:=vO h1;have c2:=vO h2;have w1:=aWJ n1 v1;have w2:=aWJ n2 v2;have r1:=LM m1;have r2:=LM m2;obtain⟨t1,iP⟩:∃ t,decide (((nd 256 m1:Nat):Int)<=7)=t:=⟨_,rfl⟩;obtain⟨t2,oc⟩:∃ t,decide (((nd 256 m2:Nat):Int)<=7)=t:=⟨_,rfl⟩;by_cases hs:t1=true/\t2=true
 ·obtain⟨rfl,rfl⟩:=hs;have s1:=jz iP;have s2:=jz oc;have q1:=Wf (neg:=false) (m:=m1) n_ o_;have q2:=Wf (neg:=false) (m:=m2) n_ o_;have l1:m1<_:=LL o_;have l2:m2<_:=LL o_;have Oe:Nat.gcd m1 m2<72057594037927936:=by
   by_cases h0:m1=0
   ·rw[h0,Uw];exact l2
   ·exact eV (aBp _ (tK h0)) l1
  exact bo func75 (λw=>[w1.at 16,w2.at 20,.rw 26 _ (vI (nd 256 m1)) r1,.rw 27 (.bool (decide (((nd 256 m1:Nat):Int)<=7))) (.bool _) (by rw[iP]),.rw 31 _ (vI (nd 256 m2)) r2,.rw 32 (.bool (decide (((nd 256 m2:Nat):Int)<=7))) (.bool _) (by rw[oc]),q1.at 38,q2.at 45,.code 0 _ _ _ _ _ (aXc (x:=m1) (y:=m2)),(aXm (z:=((Nat.gcd m1 m2:Nat):Int)) o_ o_).at 55])
 ·by_cases hz:m1=0\/m2=0
  ·have e:Nat.gcd m1 m2=m1+m2:=by rcases hz with h|h<;>rw[h]<;>simp
   have bs:nd bz (m1+m2)<35184372088832:=by rcases hz with h|h<;>rw[h]<;>simp<;>omega
   rw[e];obtain⟨z1,B6⟩:∃ t,decide (nd bz m1=0)=t:=⟨_,rfl⟩;obtain⟨z2,Lt⟩:∃ t,decide (nd bz m2=0)=t:=⟨_,rfl⟩;have hzz:¬(z1=false/\z2=false):=by
    rintro⟨rfl,rfl⟩
    rcases hz with h|h
    ·exact Df B6 (by rw[h,od])
    ·exact Df Lt (by rw[h,od])
   refine eF mixed func75 100 (λw=>[w1.at 16,w2.at 20,.rw 26 _ (vI (nd 256 m1)) r1,.rw 27 (.bool (decide (((nd 256 m1:Nat):Int)<=7))) (.bool t1) (by rw[iP])]++(bif t1 then[.rw 31 _ (vI (nd 256 m2)) r2,.rw 32 (.bool (decide (((nd 256 m2:Nat):Int)<=7))) (.bool t2) (by rw[oc])]else[])++[.xY f75 58 3 m1 o_ k_,.xY f75 61 4 m2 o_ k_,.fZ 64 (nd bz m1) 0 z1 B6]++(bif z1 then[]else[.fZ 68 (nd bz m2) 0 z2 Lt])++[
     .aDM f75 72 5 3 4 m1 m2 (jo m1) (jo m2) rfl rfl rfl rfl o_ o_ k_,.Aj f75 73 5 (m1+m2) false (jo (m1+m2)) rfl rfl bs k_]) (λ_=>?_) k_ ?_<;>cases t1<;>cases t2<;>cases z1<;>cases z2<;>first|exact absurd ⟨rfl,rfl⟩ hs|exact absurd ⟨rfl,rfl⟩ hzz|kernel_rfl
  ·have uQ:m1≠0:=λe=>hz (.inl e);have C1:m2≠0:=λe=>hz (.inr e);have h41:=w9 (B:=bz) d_ uQ;have h42:=w9 (B:=bz) d_ C1;obtain⟨s,es,hsb,os⟩:=Qo uQ o_;obtain⟨t,et,htb,ot⟩:=Qo C1 o_;obtain⟨_,_,o1,xH⟩:=WD uQ;obtain⟨_,_,o2,WG⟩:=WD C1;have tG:=aPH (s:=s) (t:=t) o1 o2;rw[<-es,<-et]at tG;have Vh:nd bz (max (gR m1) (gR m2))<1099511627776:=by
    have k1:=jw (B:=bz) d_ xH;have k2:=jw (B:=bz) d_ WG;rcases Od (gR m1) (gR m2)with h|h
    ·rw[aEc h];omega
    ·rw[aEd h];omega
   have gl:=λBs=>aPL (Bs:=Bs) o1 o2 Vh;have KQ:Nat.gcd m1 m2<=m1:=aBp _ (tK uQ);have tb:∀ i,i<=min s t->nd bz (Nat.gcd (gR m1) (gR m2)*2^i)<35184372088832:=λi hi=>by
    have k1:Nat.gcd (gR m1) (gR m2)*2^i<=Nat.gcd m1 m2:=by rw[tG];exact jJ _ (df d_ hi)
    have k2:=jw (B:=bz) d_ (di k1 KQ);omega
   have tl:=λBs=>aPN (Bs:=Bs) (g:=Nat.gcd (gR m1) (gR m2)) (s:=s) (t:=t) tb hsb;rw[<-tG]at tl;have bg:nd bz (Nat.gcd m1 m2)<35184372088832:=by have:=jw (B:=bz) d_ KQ;omega
   generalize Nat.gcd m1 m2=G at *;generalize Nat.gcd (gR m1) (gR m2)=G0 at *;generalize gR m1=x1 at *;generalize gR m2=x2 at *;refine eF mixed func75 200 (λw=>[w1.at 16,w2.at 20,.rw 26 _ (vI (nd 256 m1)) r1,.rw 27 (.bool (decide (((nd 256 m1:Nat):Int)<=7))) (.bool t1) (by rw[iP])]++(bif t1 then[.rw 31 _ (vI (nd 256 m2)) r2,.rw 32 (.bool (decide (((nd 256 m2:Nat):Int)<=7))) (.bool t2) (by rw[oc])]else[])++[.xY f75 58 3 m1 o_ k_,.xY f75 61 4 m2 o_ k_,.fZ 64 (nd bz m1) 0 false (aO o_),.fZ 68 (nd bz m2) 0 false (aO o_),.step 76 _ _ _ _ _ (os _ (aA f75 76) 3 5 k_),.step 81 _ _ _ _ _ (ot _ (aA f75 81) 4 6 k_),.code 2 _ _ _ _ _ (gl _),.code 4 _ _ _ _ _ (tl _),.Aj f75 110 9 G false (ev G) rfl rfl bg k_]) (λ_=>?_) k_ ?_<;>cases t1<;>cases t2<;>first|exact absurd ⟨rfl,rfl⟩ hs|kernel_rfl
theorem aXt{x y:Int}{p:Nat}(h1:x.natAbs<2^p)(h2:y.natAbs<2^q)(hp:p<=1099511627774)(hq:q<=1099511627774):aB prog 75 [aV x,aV y] (aV (Nat.gcd x.natAbs y.natAbs:Nat)):=by revert h1 h2;refine Fw (C:=λx y v u=>x.natAbs<2^p->y.natAbs<2^q->aB prog 75 [v,u] (aV (Nat.gcd x.natAbs y.natAbs:Nat))) (λn1 n2 m1 m2 v1 v2 h1 h2=>?_) x y;rw[qA]at h1 h2;rw[qA,qA];exact aXe v1 v2 h1 h2 hp hq
theorem aWp{g:Nat}{x:Int}{p:Nat}(h1:g<2^p)(h2:x.natAbs<2^q)(hp:p<=az)(hq:q<=az):aB prog 75 [aV g,aV x] (aV (Nat.gcd g x.natAbs:Nat)):=by have:=aXt (x:=(g:Int)) (y:=x) (by rw[xB];exact h1) h2 hp hq;rw[xB]at this;exact this
theorem aXo{x y:Int}{n:Nat}(hy:y≠0)(h1:x.natAbs<2^n)(h2:y.natAbs<2^n)(hn:n<=az):aB prog 76 [aV x,aV y] (aV (x.fdiv y)):=
 bo func76 (λ_=>[(aWZ hy h1 h2 hn hn).at 11])
theorem aWw{c:Nat->Int}{d:Int}{n:Nat}(hd:d≠0)(h:dL n (mY c d))(hn:n<=az):aB prog 103 [ou c,aV d] (gH (mY c d).low):=by
 obtain⟨h0,h1,h2,h3,h4⟩:=h;have g1:=aXt h4 h0 hn hn;have s1:=tV h4 h0;have g2:=aWp s1 h1 hn hn;have s2:=tV s1 h1;have g3:=aWp s2 h2 hn hn;have s3:=tV s2 h2;have g4:=aWp s3 h3 hn hn;obtain⟨f,hf⟩:∃ f,f=mY c d:=⟨_,rfl⟩;have vD:f.d≠0:=by rw[hf];exact hd
 have qC:=Uk vD;have Uy:=OC f;have hg:f.g<2^n:=by
  have h5:f.d.natAbs<2^n:=by rw[hf];exact h4
  exact eV (Nat.le_of_dvd o_ (FE f)) h5
 have bC:f.s.natAbs<2^n:=by rw[Uy];exact hg
 have ov:∀ u:Int,f.g ∣ u.natAbs->u.natAbs<2^n->aB prog 76 [aV u,aV f.s] (aV (u/f.s)):=λu hu xD=>by have:=aXo qC xD bC hn;rw[Int.fdiv_eq_ediv_of_dvd (Dk hu)]at this;exact this
 have o0:=ov f.a (Oy f) (by rw[hf];exact h0);have o1:=ov f.b (Oz f) (by rw[hf];exact h1);have o2:=ov f.c (OA f) (by rw[hf];exact h2);have o3:=ov f.e (OB f) (by rw[hf];exact h3);have o4:=ov f.d (FE f) (by rw[hf];exact h4);have Bw:=aXm (z:=1) d_ d_;have aD:=aWF d;have WH:Nat.gcd (Nat.gcd (Nat.gcd (Nat.gcd (mY c d).d.natAbs (mY c d).a.natAbs) (mY c d).b.natAbs) (mY c d).c.natAbs) (mY c d).e.natAbs=f.g:=by rw[hf];rfl
 rw[WH]at g4;have ab:=Wb (f.g:Int);rw[xB]at ab;rw[<-hf];have e0:f.a=c 0:=by rw[hf];rfl
 have e1:f.b=c 1:=by rw[hf];rfl
 have e2:f.c=c 2:=by rw[hf];rfl
 have e3:f.e=c 3:=by rw[hf];rfl
 have e4:f.d=d:=by rw[hf];rfl
 have one:(bt 1).Sm:=rp (n:=1) d_ d_;have sm:(bt f.s).Sm:=rp bC hn;by_cases FL:d<0
 ·have hs:f.s=-(f.g:Int):=by unfold Fr.s;rw[e4,ax FL]
  have bj:bt f.s≠bt 1:=λe=>by have:=vR e;omega
  have ng:=aWV (f.g:Int);rw[<-hs]at ng;rw[e0]at o0;rw[e1]at o1;rw[e2]at o2;rw[e3]at o3;rw[e4]at o4;have dE:f.low=⟨c 0/f.s,c 1/f.s,c 2/f.s,c 3/f.s,d/f.s⟩:=by unfold Fr.low;rw[e0,e1,e2,e3,e4]
  rw[dE];have Bx:decide (d.sign<0)=true:=aE (by rw[Fu FL];decide);generalize f.s=s at *;exact eF mixed func103 200 (λ_=>[g1.at 18,g2.at 18,g3.at 18,g4.at 18,ab.at 20,aD.at 22,.rw 23 (.bool (decide (d.sign<0))) b_ (by rw[Bx]),ng.at 25,Bw.at 30,.step 31 (aA f103 31) _ _ _ _ (zD (neg:=false) k_ (bt s) (bt 1) sm one (b:=true) (by simp;exact bj)),o0.at 41,o1.at 41,o2.at 41,o3.at 41,o4.at 46]) (λ_=>k_) k_ k_
 ·have hs:f.s=(f.g:Int):=by unfold Fr.s;rw[e4,ao FL]
  have Bx:decide (d.sign<0)=false:=aO (by rw[zu o_];decide);by_cases tW:f.g=1
  ·have dE:f.low=f:=by unfold Fr.low;rw[hs,tW];simp
   rw[dE,hf];rw[tW]at g4 ab;exact eF mixed func103 200 (λ_=>[g1.at 18,g2.at 18,g3.at 18,g4.at 18,ab.at 20,aD.at 22,.rw 23 (.bool (decide (d.sign<0))) a_ (by rw[Bx]),Bw.at 30,.step 31 (aA f103 31) _ _ _ _ (zD (neg:=false) k_ (bt 1) (bt 1) one one (b:=false) s_)]) (λ_=>k_) k_ k_
  ·have bj:bt f.s≠bt 1:=λe=>by have:=vR e;omega
   rw[e0]at o0;rw[e1]at o1;rw[e2]at o2;rw[e3]at o3;rw[e4]at o4;have dE:f.low=⟨c 0/f.s,c 1/f.s,c 2/f.s,c 3/f.s,d/f.s⟩:=by unfold Fr.low;rw[e0,e1,e2,e3,e4]
   rw[dE];rw[<-hs]at g4 ab;generalize f.s=s at *;exact eF mixed func103 200 (λ_=>[g1.at 18,g2.at 18,g3.at 18,g4.at 18,ab.at 20,aD.at 22,.rw 23 (.bool (decide (d.sign<0))) a_ (by rw[Bx]),Bw.at 30,.step 31 (aA f103 31) _ _ _ _ (zD (neg:=false) k_ (bt s) (bt 1) sm one (b:=true) (by simp;exact bj)),o0.at 41,o1.at 41,o2.at 41,o3.at 41,o4.at 46]) (λ_=>k_) k_ k_
theorem aXr(h:z.natAbs<9223372036854775808):aB prog 31 [.int .i64 z] (bK (kI z)):=by
 rw[aBq];have e:gH ⟨z,0,0,0,1⟩=(RN.mk (bt z) ⟨false,[]⟩ ⟨false,[]⟩ ⟨false,[]⟩ (bt 1)).v:=by unfold gH rm;rw[Bz]
 rw[e];exact bo func31 (λ_=>[(aXm (z:=z) o_ o_).at 4,(aXm (z:=1) d_ d_).at 6])
section
variable{P:j_}{B:aa}{N:Nat}
def WI(o:Oper):Bool:=match o.op with
 |.call c=>match c.callee,c.args.toList with
  |.builtin .max,[_,_]=>true
  |_,_=>false
 |_=>false
theorem aPO(ho:WI o=true){x:Int}:cA P B o [.int .i64 x,.int .i64 (-x)] [] (vI x.natAbs) []:=by
 unfold WI at ho;split at ho
 ·rename_i c bY;split at ho
  ·rename_i p q h1 h2;refine(Cu (λu hu=>by simp at hu;rcases hu with rfl|rfl<;>rfl) rfl λρ fY w _=>?_).step;obtain⟨ce,ar,at'⟩:=c;dsimp only at h1 h2;subst h1;have e1:ar=#[p,q]:=by rw[<-zK (xs:=ar),h2]
   subst e1;rw[bY]at fY;simp[Op.operands,Call.operands]at fY;simp[execOp,bY,resolve,invoke,builtin,Builtin.max_,Builtin.max2,fY.1,fY.2,vI];split<;>omega
  ·cases ho
 ·cases ho
def aU.LS(fn:Func)(key:Nat)(x:Int)(ho:WI (aA fn key)=true):aU P B N:=
 .step key (aA fn key) [.int .i64 x,.int .i64 (-x)] [] (vI x.natAbs) [] (aPO ho)
end
theorem aPP(l:List UInt8)(c:UInt8):ga (l++[c])=ga l*256+c.toNat:=by unfold ga;rw[aC1];rfl
def gi(r:RN):Nat->RI
 |0=>r.a
 |1=>r.b
 |2=>r.c
 |3=>r.e
 |_=>r.d
def dV(r:RI):Int:=sg r.neg (ga r.aW)
def w5(W:Nat->Int):ah:=[.int .i64 (W 0),.int .i64 (W 1),.int .i64 (W 2),.int .i64 (W 3),.int .i64 (W 4)]
def wv(r:RN)(i:Nat):Nat->Int:=λj=>match Nat.blt j i with|true=>dV (gi r j)|false=>0
def aPQ(W:Nat->Int)(i:Nat)(x:Int):Nat->Int:=λj=>match Nat.beq j i with|true=>x|false=>W j
section
variable{Bs:aa}{W:Nat->Int}{q:RI}
def Cf(i k:Nat):aN:=[(5,vI i),(4,ptr 2),(6,ptr (3+i)),(7,vI k)]
def yd(W:Nat->Int)(q:RI)(i k:Nat):aH:=[(2,.aI (w5 (aPQ W i (ga (q.aW.take k):Nat))) 110),(3+i,.aI q.cs 30)]
theorem aPR(hi:i<5)(hk:k<q.aW.length)(h3:q.aW.length<=3):
  af prog Bs 58 (aF (ag f100 2)) (Cf i k) (yd W q i k) (4+i) ⟨.normal,Cf i (k+1),yd W q i (k+1),4+i⟩:=by
 obtain⟨c,hc⟩:∃ c,q.aW[k]?=some c:=⟨q.aW[k],aT hk⟩;have hv:ga (q.aW.take (k+1))=ga (q.aW.take k)*256+c.toNat:=by rw[sY,hc];exact aPP _ _
 have hb:(BA q.aW)[k]?=some c:=by rw[J5];exact hc
 have bC:Value.int .i64 ((BA q.aW).size:Int)=vI q.aW.length:=by rw[oV];rfl
 have ak:ga (q.aW.take k)<65536:=by have h1:=A6 (q.aW.take k);have h2:(256:Nat)^(q.aW.take k).length<=256^2:=df d_ (by rw[jr];omega);exact cF h1 (di h2 d_)
 have hc3:=c.toNat_lt;unfold Cf yd;rw[hv];generalize ga (q.aW.take k)=x at *;have w1:IntKind.i64.wrap ((x:Int)*2^8)=((x*256:Nat):Int):=by rw[show((x:Int)*2^8)=((x*256:Nat):Int)by simp,dX];omega
 have w2:IntKind.i64.wrap (c.toNat:Int)=(c.toNat:Int):=by rw[dX];omega
 have w3:IntKind.i64.wrap (((x*256:Nat):Int)+(c.toNat:Int))=((x*256+c.toNat:Nat):Int):=by rw[dX];omega
 generalize x*256+c.toNat=y at *;generalize x*256=z at *;generalize q.aW.length=L at *;rcases i with _|_|_|_|_|i
 all_goals first|omega|exact aC [.rw 33 _ (vI L) bC,.lt 34 k L true (aE hk),.wr 41 .i64 ((x:Int)*2^8) _ w1,.sx f100 45 (BA q.aW) k c hb k_,.wr 46 .i64 (c.toNat:Int) _ w2,.wr 47 .i64 _ _ w3,.sum 36 k 1 (k+1) rfl o_]
theorem aPS(hi:i<5)(h3:q.aW.length<=3):
  af prog Bs 58 (.block 2 (ag f100 2)) (Cf i 0) (yd W q i 0) (4+i) ⟨.normal,Cf i q.aW.length,yd W q i q.aW.length,4+i⟩:=by
 have bC:Value.int .i64 ((BA q.aW).size:Int)=vI q.aW.length:=by rw[oV];rfl
 refine bO (id:=2) (ch (b:=aF (ag f100 2)) (r:=⟨.exit 2,Cf i q.aW.length,yd W q i q.aW.length,4+i⟩) q.aW.length (Cf i) (yd W q i) (λk t _=>j6 (l:=yd W q i k) (m:=yd W q i 0) rfl t) (λk hk=>aPR hi hk h3) ?_ n_);unfold Cf yd;generalize ga (q.aW.take q.aW.length)=x at *;generalize q.aW.length=L at *;rcases i with _|_|_|_|_|i
 all_goals first|omega|exact aC [.rw 33 _ (vI L) bC,.lt 34 L L false s_]
def Gq(i:Nat):aN:=[(5,vI i),(1,ptr 0),(2,ptr 1),(4,ptr 2)]
def Gr(r:RN)(W:Nat->Int):aH:=[(0,.aI r.cs 33),(1,.aI (w5 λ_=>0) 110),(2,.aI (w5 W) 110)]
theorem aPT(hi:i<5)(h3:(gi r i).aW.length<=3)(hv:xx (gi r i).neg (gi r i).aW=true):
  af prog Bs 58 (.block 1 (ag f100 1)) (Gq i) (Gr r (wv r i)) (3+i) ⟨.normal,Gq i,Gr r (wv r (i+1)),4+i⟩:=by
 have lo:=aPS (Bs:=Bs) (W:=wv r i) (q:=gi r i) hi h3;have nr:=aW4 (gi r i).neg (gi r i).aW;rw[hv]at nr;have bC:Value.int .i64 ((BA (gi r i).aW).size:Int)=vI (gi r i).aW.length:=by rw[oV];rfl
 have lE:Value.bool (decide (((gi r i).aW.length:Int)>3))=.bool false:=by rw[aO o_]
 unfold yd Cf at lo;rw[aAi,ox]at lo;have e0:ga []=0:=rfl;rw[e0]at lo;have ak:ga (gi r i).aW<16777216:=by have h1:=A6 (gi r i).aW;have h2:(256:Nat)^(gi r i).aW.length<=256^3:=df d_ h3;exact cF h1 (di h2 d_)
 have wn:IntKind.i64.wrap (0-(ga (gi r i).aW:Int))=-(ga (gi r i).aW:Int):=by rw[dX];omega
 rcases r with ⟨⟨an,am⟩,⟨bn,bm⟩,⟨cn,cm⟩,⟨en,em⟩,⟨dn,dm⟩⟩;rcases i with _|_|_|_|_|i
 ·cases an
  ·exact aC [.rw 22 _ (vI am.length) bC,.rw 23 _ a_ lE,nr.at 26,.code 2 _ _ _ _ _ lo]
  ·exact aC [.rw 22 _ (vI am.length) bC,.rw 23 _ a_ lE,nr.at 26,.code 2 _ _ _ _ _ lo,.wr 55 .i64 _ _ wn]
 ·cases bn
  ·exact aC [.rw 22 _ (vI bm.length) bC,.rw 23 _ a_ lE,nr.at 26,.code 2 _ _ _ _ _ lo]
  ·exact aC [.rw 22 _ (vI bm.length) bC,.rw 23 _ a_ lE,nr.at 26,.code 2 _ _ _ _ _ lo,.wr 55 .i64 _ _ wn]
 ·cases cn
  ·exact aC [.rw 22 _ (vI cm.length) bC,.rw 23 _ a_ lE,nr.at 26,.code 2 _ _ _ _ _ lo]
  ·exact aC [.rw 22 _ (vI cm.length) bC,.rw 23 _ a_ lE,nr.at 26,.code 2 _ _ _ _ _ lo,.wr 55 .i64 _ _ wn]
 ·cases en
  ·exact aC [.rw 22 _ (vI em.length) bC,.rw 23 _ a_ lE,nr.at 26,.code 2 _ _ _ _ _ lo]
  ·exact aC [.rw 22 _ (vI em.length) bC,.rw 23 _ a_ lE,nr.at 26,.code 2 _ _ _ _ _ lo,.wr 55 .i64 _ _ wn]
 ·cases dn
  ·exact aC [.rw 22 _ (vI dm.length) bC,.rw 23 _ a_ lE,nr.at 26,.code 2 _ _ _ _ _ lo]
  ·exact aC [.rw 22 _ (vI dm.length) bC,.rw 23 _ a_ lE,nr.at 26,.code 2 _ _ _ _ _ lo,.wr 55 .i64 _ _ wn]
 ·omega
theorem aPU(hi:i<5)(h3:¬(gi r i).aW.length<=3):
  af prog Bs 58 (.block 1 (ag f100 1)) (Gq i) (Gr r (wv r i)) (3+i) ⟨.ret,[(2,ptr 1),(3,.bool false)],[(1,.aI (w5 (wv r i)) 110)],4+i⟩:=by
 have bC:Value.int .i64 ((BA (gi r i).aW).size:Int)=vI (gi r i).aW.length:=by rw[oV];rfl
 have lE:Value.bool (decide (((gi r i).aW.length:Int)>3))=.bool true:=by rw[aE o_]
 rcases r with ⟨⟨an,am⟩,⟨bn,bm⟩,⟨cn,cm⟩,⟨en,em⟩,⟨dn,dm⟩⟩;rcases i with _|_|_|_|_|i
 ·exact aC [.rw 22 _ (vI am.length) bC,.rw 23 _ b_ lE]
 ·exact aC [.rw 22 _ (vI bm.length) bC,.rw 23 _ b_ lE]
 ·exact aC [.rw 22 _ (vI cm.length) bC,.rw 23 _ b_ lE]
 ·exact aC [.rw 22 _ (vI em.length) bC,.rw 23 _ b_ lE]
 ·exact aC [.rw 22 _ (vI dm.length) bC,.rw 23 _ b_ lE]
 ·omega
theorem aPV(hi:i<5)(h3:(gi r i).aW.length<=3)(hv:xx (gi r i).neg (gi r i).aW=false):
  af prog Bs 58 (.block 1 (ag f100 1)) (Gq i) (Gr r (wv r i)) (3+i) ⟨.ret,[(2,ptr 1),(3,.bool false)],[(1,.aI (w5 (wv r i)) 110)],4+i⟩:=by
 have nr:=aW4 (gi r i).neg (gi r i).aW;rw[hv]at nr;have bC:Value.int .i64 ((BA (gi r i).aW).size:Int)=vI (gi r i).aW.length:=by rw[oV];rfl
 have lE:Value.bool (decide (((gi r i).aW.length:Int)>3))=.bool false:=by rw[aO o_]
 rcases r with ⟨⟨an,am⟩,⟨bn,bm⟩,⟨cn,cm⟩,⟨en,em⟩,⟨dn,dm⟩⟩;rcases i with _|_|_|_|_|i
 ·exact aC [.rw 22 _ (vI am.length) bC,.rw 23 _ a_ lE,nr.at 26]
 ·exact aC [.rw 22 _ (vI bm.length) bC,.rw 23 _ a_ lE,nr.at 26]
 ·exact aC [.rw 22 _ (vI cm.length) bC,.rw 23 _ a_ lE,nr.at 26]
 ·exact aC [.rw 22 _ (vI em.length) bC,.rw 23 _ a_ lE,nr.at 26]
 ·exact aC [.rw 22 _ (vI dm.length) bC,.rw 23 _ a_ lE,nr.at 26]
 ·omega
end
def qP(q:RI):Bool:=decide (q.aW.length<=3)&&xx q.neg q.aW
theorem aPW(hi:i<5)(h:qP (gi r i)=false):
  af prog Bs 58 (.block 1 (ag f100 1)) (Gq i) (Gr r (wv r i)) (3+i) ⟨.ret,[(2,ptr 1),(3,.bool false)],[(1,.aI (w5 (wv r i)) 110)],4+i⟩:=by
 unfold qP at h;by_cases h3:(gi r i).aW.length<=3
 ·rw[aE h3,jy]at h;exact aPV hi h3 h
 ·exact aPU hi h3
theorem IQ(hi:i<5)(h:qP (gi r i)=true):
  af prog Bs 58 (.block 1 (ag f100 1)) (Gq i) (Gr r (wv r i)) (3+i) ⟨.normal,Gq i,Gr r (wv r (i+1)),4+i⟩:=by
 unfold qP at h;simp at h;exact aPT hi h.1 h.2
theorem aEf(h:∀ i,i<5->qP (gi r i)=true):aB prog 100 [r.v] (.tuple #[.agg (w5 (wv r 5)).toArray,.bool true]):=
 eF mixed func100 200 (λw=>[.code 1 _ _ _ _ _ (IQ o_ (h 0 o_)),.code 1 _ _ _ _ _ (IQ o_ (h 1 o_)),.code 1 _ _ _ _ _ (IQ o_ (h 2 o_)),.code 1 _ _ _ _ _ (IQ o_ (h 3 o_)),.code 1 _ _ _ _ _ (IQ o_ (h 4 o_))]) (λ_=>k_) k_ k_
theorem aEg(h:¬∀ i,i<5->qP (gi r i)=true):∃ n,aB prog 100 [r.v] (.tuple #[.agg (w5 (wv r n)).toArray,.bool false]):=by
 have hex:∃ n,n<5/\qP (gi r n)=false:=jI λfT=>h λi hi=>by
  cases hb:qP (gi r i)with
  |true=>rfl
  |false=>exact absurd ⟨i,hi,hb⟩ fT
 obtain⟨n0,kz,kX⟩:=hex;obtain⟨n,h1,h2,h3⟩:=yZ (λi=>qP (gi r i)=false) n0 kX;have au:∀ i,i<n->qP (gi r i)=true:=λi hi=>by
  cases hb:qP (gi r i)with
  |true=>rfl
  |false=>exact absurd hb (h3 i hi)
 refine⟨n,?_⟩;have no:=λBs=>aPW (Bs:=Bs) (show n<5 by omega) h2;have yes:=λBs i (hi:i<n)=>IQ (Bs:=Bs) (show i<5 by omega) (au i hi)
 rcases n with _|_|_|_|_|n
 ·exact eF mixed func100 200 (λw=>[.code 1 _ _ _ _ _ (no _)]) (λ_=>k_) k_ k_
 ·exact eF mixed func100 200 (λw=>[.code 1 _ _ _ _ _ (yes _ 0 o_),.code 1 _ _ _ _ _ (no _)]) (λ_=>k_) k_ k_
 ·exact eF mixed func100 200 (λw=>[.code 1 _ _ _ _ _ (yes _ 0 o_),.code 1 _ _ _ _ _ (yes _ 1 o_),.code 1 _ _ _ _ _ (no _)]) (λ_=>k_) k_ k_
 ·exact eF mixed func100 200 (λw=>[.code 1 _ _ _ _ _ (yes _ 0 o_),.code 1 _ _ _ _ _ (yes _ 1 o_),.code 1 _ _ _ _ _ (yes _ 2 o_),.code 1 _ _ _ _ _ (no _)]) (λ_=>k_) k_ k_
 ·exact eF mixed func100 200 (λw=>[.code 1 _ _ _ _ _ (yes _ 0 o_),.code 1 _ _ _ _ _ (yes _ 1 o_),.code 1 _ _ _ _ _ (yes _ 2 o_),.code 1 _ _ _ _ _ (yes _ 3 o_),.code 1 _ _ _ _ _ (no _)]) (λ_=>k_) k_ k_
 ·omega
def G5(W:Nat->Int):Nat:=Nat.gcd (Nat.gcd (Nat.gcd (Nat.gcd (Nat.gcd 0 (W 0).natAbs) (W 1).natAbs) (W 2).natAbs) (W 3).natAbs) (W 4).natAbs
theorem LU(x y:Nat):af prog Bs 28 (.block 2 (ag f110 2)) [(5,vI x),(6,vI y)] [] 1 ⟨.normal,[(5,vI (Nat.gcd x y))],[],1⟩:=by
 obtain⟨n,hn,hi⟩:=Oc x y (λ_ v=>decide (v≠0)) (λu v h=>jz h);have hz:(eu x y n).2=0:=by have:=Df hn;omega
 have hg:=Ko x y n;rw[hz,TU]at hg;rw[<-hg];refine bO (id:=2) (ch (P:=prog) (B:=Bs) (N:=28) (b:=aF (ag f110 2)) (next:=1) (r:=⟨.exit 2,[(5,vI (eu x y n).1)],[],1⟩) n (λi=>[(5,vI (eu x y i).1),(6,vI (eu x y i).2)]) (λ_=>[]) (λ_ _ _=>Iff.rfl) (λi ak=>?_) ?_ n_)
 ·have h0:(eu x y i).2≠0:=jz (hi i ak);show af _ _ _ _ [(5,vI (eu x y i).1),(6,vI (eu x y i).2)] [] 1 ⟨.normal,[(5,vI (eu x y i).2),(6,vI ((eu x y i).1%(eu x y i).2))],[],1⟩;generalize (eu x y i).1=u at *;generalize (eu x y i).2=v at *;exact aC [.rw 21 (.bool ((v:Int)!=0)) b_ (by congr 1;rw[rh];omega),.E9 f110 25 .i64 (u:Int) v ((u%v:Nat):Int) o_ (by rw[zk o_];rfl) k_]
 ·rw[hz];exact aC [.rw 21 (.bool (((0:Nat):Int)!=0)) a_ rfl]
theorem aEh{W:Nat->Int}(hW:∀ i,(W i).natAbs<4611686018427387904):aB prog 110 [.agg (w5 W).toArray] (vI (G5 W)):=by
 have ng:∀ i,IntKind.i64.wrap (0-W i)=-(W i):=λi=>by have:=hW i;rw[dX];omega
 exact eF mixed func110 200 (λw=>[.wr 18 .i64 _ _ (ng 0),.LS f110 19 (W 0) k_,.code 2 _ _ _ _ _ (LU 0 (W 0).natAbs),.wr 18 .i64 _ _ (ng 1),.LS f110 19 (W 1) k_,.code 2 _ _ _ _ _ (LU (Nat.gcd 0 (W 0).natAbs) (W 1).natAbs),.wr 18 .i64 _ _ (ng 2),.LS f110 19 (W 2) k_,.code 2 _ _ _ _ _ (LU (Nat.gcd (Nat.gcd 0 (W 0).natAbs) (W 1).natAbs) (W 2).natAbs),.wr 18 .i64 _ _ (ng 3),.LS f110 19 (W 3) k_,.code 2 _ _ _ _ _ (LU (Nat.gcd (Nat.gcd (Nat.gcd 0 (W 0).natAbs) (W 1).natAbs) (W 2).natAbs) (W 3).natAbs),.wr 18 .i64 _ _ (ng 4),.LS f110 19 (W 4) k_,.code 2 _ _ _ _ _ (LU (Nat.gcd (Nat.gcd (Nat.gcd (Nat.gcd 0 (W 0).natAbs) (W 1).natAbs) (W 2).natAbs) (W 3).natAbs) (W 4).natAbs)]) (λ_=>k_) k_ k_
def cw(f:Fr):Nat->Int
 |0=>f.a
 |1=>f.b
 |2=>f.c
 |3=>f.e
 |_=>f.d
theorem WJ(f:Fr):G5 (cw f)=f.g:=by show Nat.gcd (Nat.gcd (Nat.gcd (Nat.gcd (Nat.gcd 0 f.a.natAbs) f.b.natAbs) f.c.natAbs) f.e.natAbs) f.d.natAbs=Nat.gcd (Nat.gcd (Nat.gcd (Nat.gcd f.d.natAbs f.a.natAbs) f.b.natAbs) f.c.natAbs) f.e.natAbs;rw[Uw];simp only[HO,Nat.gcd_left_comm]
theorem aEi{f:Fr}(hd:0<f.d)(hW:∀ i,(cw f i).natAbs<4611686018427387904):aB prog 101 [.agg (w5 (cw f)).toArray] (gH f.low):=by
 have hg:=aEh hW;rw[WJ]at hg;have hg0:=Uj (x:=f) o_;have hs:f.s=(f.g:Int):=by unfold Fr.s;rw[ao o_]
 have dE:f.low=⟨f.a/(f.g:Int),f.b/(f.g:Int),f.c/(f.g:Int),f.e/(f.g:Int),f.d/(f.g:Int)⟩:=by unfold Fr.low;rw[hs]
 rw[dE];have qu:∀ u:Int,f.g ∣ u.natAbs->u.natAbs<4611686018427387904->IntKind.i64.wrap (u.tdiv (f.g:Int))=u/(f.g:Int)/\(u/(f.g:Int)).natAbs<4611686018427387904:=λu hu hb=>by have hd:=Dk hu;rw[hs]at hd;have h2:=aKD u (f.g:Int);rw[Int.tdiv_eq_ediv_of_dvd hd,dX];omega
 obtain⟨a1,a2⟩:=qu f.a (Oy f) (hW 0);obtain⟨b1,b2⟩:=qu f.b (Oz f) (hW 1);obtain⟨c1,c2⟩:=qu f.c (OA f) (hW 2);obtain⟨e1,e2⟩:=qu f.e (OB f) (hW 3);obtain⟨d1,d2⟩:=qu f.d (FE f) (hW 4);have tW:(f.g:Int)≠0:=by omega
 have of:=λ(z:Int) (h:z.natAbs<4611686018427387904)=>aXm (z:=z) o_ o_
 exact eF mixed func101 200 (λw=>[hg.at 7,.vK f101 17 .i64 f.a (f.g:Int) (f.a/(f.g:Int)) tW a1 k_,(of _ a2).at 18,.vK f101 17 .i64 f.b (f.g:Int) (f.b/(f.g:Int)) tW b1 k_,(of _ b2).at 18,.vK f101 17 .i64 f.c (f.g:Int) (f.c/(f.g:Int)) tW c1 k_,(of _ c2).at 18,.vK f101 17 .i64 f.e (f.g:Int) (f.e/(f.g:Int)) tW e1 k_,(of _ e2).at 18,.vK f101 24 .i64 f.d (f.g:Int) (f.d/(f.g:Int)) tW d1 k_,(of _ d2).at 25]) (λ_=>k_) k_ k_
def ft(q:RI):Bool:=xx q.neg q.aW
theorem wo{q:RI}(h:ft q=true):bt (dV q)=q:=by
 obtain⟨n,l⟩:=q;unfold ft at h;unfold dV bt;rw[qA];cases l with
 |nil=>
  simp[xx]at h;subst h;simp[ga,sg,C4]
 |cons c l=>
  simp[xx]at h;have hv:ga (c::l)≠0:=by have:=aAg (l:=l) h;have:=cI (n:=l.length) (show 0<256 by decide);omega
  have hm:cG (ga (c::l))=c::l:=aJi (by rintro c' r' e;injection e with e1 e2;rw[<-e1];exact h);show RI.mk (decide (sg n (ga (c::l))<0)) (cG (ga (c::l)))=_;rw[hm,Ww (λ_=>hv)]
theorem ye(z:Int):dV (bt z)=z:=by
 show sg (decide (z<0)) (ga (cG z.natAbs))=z;rw[Fj];unfold sg;by_cases h:z<0
 ·rw[aE h];simp;omega
 ·rw[aO h];simp;omega
theorem LV(z:Int):ft (bt z)=true:=by show xx (decide (z<0)) (cG z.natAbs)=true;exact aDK _ (λh=>by have:=jz h;omega)
def fJ(r:RN):Fr:=⟨dV r.a,dV r.b,dV r.c,dV r.e,dV r.d⟩
def kK(r:RN):Bool:=ft r.a&&(ft r.b&&(ft r.c&&(ft r.e&&(ft r.d&&(decide (0<dV r.d)&&decide ((fJ r).g=1))))))
theorem LW{g:Nat}{q:RI}{n:Nat}(h:ft q=true)(h1:g<2^n)(h2:(dV q).natAbs<2^n)(hn:n<=az):aB prog 75 [aV g,q.v] (aV (Nat.gcd g (dV q).natAbs:Nat)):=by have:=aWp (g:=g) (x:=dV q) h1 h2 hn hn;rw[aBo (dV q),wo h]at this;exact this
theorem aPX:aV ((0:Nat):Int)=.agg #[.bool false,.string ⟨#[]⟩]:=by show(bt 0).v=_;rw[Bz];rfl
theorem LX{n:Nat}(bC:dL n (fJ r))(hn:n<=az):aB prog 55 [r.v] (.bool (kK r)):=by
 obtain⟨sa,sb,sc,se,sd⟩:=bC
 replace sa:(dV r.a).natAbs<2^n:=sa
 replace sb:(dV r.b).natAbs<2^n:=sb
 replace sc:(dV r.c).natAbs<2^n:=sc
 replace se:(dV r.e).natAbs<2^n:=se
 replace sd:(dV r.d).natAbs<2^n:=sd
 by_cases hw:∀ i,i<5->qP (gi r i)=true
 ·have wok:=aEf hw;have raw:∀ i,i<5->ft (gi r i)=true:=λi hi=>by have:=hw i hi;unfold qP at this;simp at this;exact this.2
  have hb:∀ i,(wv r 5 i).natAbs<4611686018427387904:=λi=>by
   unfold wv;split
   ·rename_i h;have hi:i<5:=by rw[yR]at h;exact h
    have:=hw i hi;unfold qP at this;simp at this;unfold dV;rw[qA];have h1:=A6 (gi r i).aW;have h2:(256:Nat)^(gi r i).aW.length<=256^3:=df d_ this.1;exact cF h1 (di h2 d_)
   ·decide
  have wg:=aEh hb;have e1:G5 (wv r 5)=(fJ r).g:=WJ (fJ r);rw[e1]at wg;have e2:kK r=(decide (0<dV r.d)&&decide ((fJ r).g=1)):=by unfold kK;rw[show ft r.a=true from raw 0 o_,show ft r.b=true from raw 1 o_,show ft r.c=true from raw 2 o_,show ft r.e=true from raw 3 o_,show ft r.d=true from raw 4 o_];rfl
  rw[e2];by_cases hd:0<dV r.d
  ·rw[aE hd,jy];have WK:Value.bool (decide (dV r.d>0))=.bool true:=by rw[aE hd]
   exact eF mixed func55 200 (λw=>[wok.at 9,.rw 15 _ b_ WK,wg.at 18,.fZ 19 (fJ r).g 1 _ rfl]) (λ_=>k_) k_ k_
  ·rw[aO hd,zg];have WK:Value.bool (decide (dV r.d>0))=.bool false:=by rw[aO hd]
   exact eF mixed func55 200 (λw=>[wok.at 9,.rw 15 _ a_ WK]) (λ_=>k_) k_ k_
 ·obtain⟨m,Gs⟩:=aEg hw;have hp:0<2^n:=cI d_;have va:=aW4 r.a.neg r.a.aW;have vb:=aW4 r.b.neg r.b.aW;have vc:=aW4 r.c.neg r.c.aW;have ve:=aW4 r.e.neg r.e.aW;have vd:=aW4 r.d.neg r.d.aW;unfold kK;change aB _ _ _ (.bool (ft r.a))at va;change aB _ _ _ (.bool (ft r.b))at vb;change aB _ _ _ (.bool (ft r.c))at vc;change aB _ _ _ (.bool (ft r.e))at ve;change aB _ _ _ (.bool (ft r.d))at vd;have go:∀ q b,ft q=b->ft q=b:=λ_ _ h=>h;rcases ha:ft r.a with _|_
  ·rw[ha]at va;exact eF mixed func55 200 (λw=>[Gs.at 9,va.at 30]) (λ_=>k_) k_ k_
  rw[ha]at va;have g1:=LW (g:=0) ha hp sa hn;rw[aPX]at g1;have s1:Nat.gcd 0 (dV r.a).natAbs<2^n:=by rw[Uw];exact sa
  rcases hb:ft r.b with _|_
  ·rw[hb]at vb;exact eF mixed func55 200 (λw=>[Gs.at 9,va.at 30,g1.at 37,vb.at 30]) (λ_=>k_) k_ k_
  rw[hb]at vb;have g2:=LW hb s1 sb hn;have s2:=tV s1 sb;rcases hc:ft r.c with _|_
  ·rw[hc]at vc;exact eF mixed func55 200 (λw=>[Gs.at 9,va.at 30,g1.at 37,vb.at 30,g2.at 37,vc.at 30]) (λ_=>k_) k_ k_
  rw[hc]at vc;have g3:=LW hc s2 sc hn;have s3:=tV s2 sc;rcases he:ft r.e with _|_
  ·rw[he]at ve;exact eF mixed func55 200 (λw=>[Gs.at 9,va.at 30,g1.at 37,vb.at 30,g2.at 37,vc.at 30,g3.at 37,ve.at 30]) (λ_=>k_) k_ k_
  rw[he]at ve;have g4:=LW he s3 se hn;have s4:=tV s3 se;rcases hd:ft r.d with _|_
  ·rw[hd]at vd;exact eF mixed func55 200 (λw=>[Gs.at 9,va.at 30,g1.at 37,vb.at 30,g2.at 37,vc.at 30,g3.at 37,ve.at 30,g4.at 37,vd.at 40]) (λ_=>k_) k_ k_
  rw[hd]at vd;have g5:=LW hd s4 sd hn;have s5:=tV s4 sd;have WH:Nat.gcd (Nat.gcd (Nat.gcd (Nat.gcd (Nat.gcd 0 (dV r.a).natAbs) (dV r.b).natAbs) (dV r.c).natAbs) (dV r.e).natAbs) (dV r.d).natAbs=(fJ r).g:=WJ (fJ r);rw[WH]at g5 s5;have aD:=aWF (dV r.d);rw[aBo,wo hd]at aD;have Bw:=aXm (z:=1) d_ d_;have one:(bt 1).Sm:=rp (n:=1) d_ d_;have sm:(bt ((fJ r).g:Int)).Sm:=rp (z:=((fJ r).g:Int)) (n:=n) (by rw[xB];exact s5) hn;by_cases hp:0<dV r.d
  ·rw[aE hp];have WL:Value.bool (decide ((dV r.d).sign>0))=.bool true:=by rw[zu hp];rfl
   have heq:∀ w,cA prog (aa.at w) (aA f55 53) [(bt ((fJ r).g:Int)).v,(bt 1).v] [] (.bool (decide ((fJ r).g=1))) []:=λw=>zD (neg:=true) k_ (bt ((fJ r).g:Int)) (bt 1) sm one (by simp only[qS,r6];exact⟨λh=>by rw[h];rfl,λh=>by have:=vR h;omega⟩)
   exact eF mixed func55 200 (λw=>[Gs.at 9,va.at 30,g1.at 37,vb.at 30,g2.at 37,vc.at 30,g3.at 37,ve.at 30,g4.at 37,vd.at 40,aD.at 44,.rw 45 _ b_ WL,g5.at 51,Bw.at 52,.step 53 (aA f55 53) _ _ _ _ (heq w)]) (λ_=>k_) k_ k_
  ·rw[aO hp];have WL:Value.bool (decide ((dV r.d).sign>0))=.bool false:=by
    rw[aO];have h0:dV r.d<=0:=by omega
    rcases Int.lt_or_eq_of_le h0 with h|h
    ·rw[Fu h];decide
    ·rw[h];decide
   exact eF mixed func55 200 (λw=>[Gs.at 9,va.at 30,g1.at 37,vb.at 30,g2.at 37,vc.at 30,g3.at 37,ve.at 30,g4.at 37,vd.at 40,aD.at 44,.rw 45 _ a_ WL]) (λ_=>k_) k_ k_
theorem WM(f:Fr):fJ (rm f)=f:=by show Fr.mk (dV (bt f.a)) (dV (bt f.b)) (dV (bt f.c)) (dV (bt f.e)) (dV (bt f.d))=f;rw[ye,ye,ye,ye,ye]
theorem aEj{f:Fr}(h:f.pL):kK (rm f)=true:=by unfold kK;rw[WM,h.one];show(ft (bt f.a)&&(ft (bt f.b)&&(ft (bt f.c)&&(ft (bt f.e)&&(ft (bt f.d)&&(decide (0<dV (bt f.d))&&decide (1=1)))))))=true;rw[LV,LV,LV,LV,LV,ye,aE h.pos];rfl
theorem aWL{f:Fr}{n:Nat}(hf:f.pL)(h:dL n f)(hn:n<=az):aB prog 55 [gH f] b_:=by have:=LX (r:=rm f) (n:=n) (by rw[WM];exact h) hn;rw[aEj hf]at this;exact this
theorem aXd{n:Nat}(h:Sz n x)(hn:n<=az):aB prog 55 [bK x] b_:=aWL (kF x) h hn
theorem Qp(h:kK r=true):r=cO (fJ r).val:=by unfold kK at h;simp only[cZ,r6]at h;obtain⟨h1,h2,h3,h4,h5,h6,h7⟩:=h;unfold cO;rw[FF ⟨h6,h7⟩];obtain⟨a,b,c,e,d⟩:=r;show RN.mk a b c e d=RN.mk (bt (dV a)) (bt (dV b)) (bt (dV c)) (bt (dV e)) (bt (dV d));rw[wo h1,wo h2,wo h3,wo h4,wo h5]
theorem aW6{n:Nat}(h:Sz n x)(hn:n<=az):aB prog 161 [bK x] (bK (-x)):=by
 have hv:=aXd h hn;have e:bK (-x)=gH (zC (bN x)):=by unfold bK cO;rw[Uo];rfl
 rw[e];exact bo func161 (λ_=>[hv.at 6,(aWV (bN x).a).at 19,(aWV (bN x).b).at 19,(aWV (bN x).c).at 19,(aWV (bN x).e).at 19])
theorem aPY(f:Fr):w5 (wv (rm f) 5)=w5 (cw f):=by show[Value.int .i64 (dV (bt f.a)),.int .i64 (dV (bt f.b)),.int .i64 (dV (bt f.c)),.int .i64 (dV (bt f.e)),.int .i64 (dV (bt f.d))]=_;rw[ye,ye,ye,ye,ye];rfl
def Cg(f:Fr):Prop:=∀ i,i<5->qP (gi (rm f) i)=true
theorem Qq{f:Fr}(h:Cg f):∀ i,(cw f i).natAbs<16777216:=by
 have key:∀ z:Int,qP (bt z)=true->z.natAbs<16777216:=λz hz=>by
  unfold qP at hz;simp at hz;have h1:nd 256 z.natAbs<=3:=by have:=hz.1;show _<=3;rw[<-tS];exact this
  have h2:=ek (B:=256) d_ z.natAbs;have h3:(256:Nat)^nd 256 z.natAbs<=256^3:=df d_ h1;exact cF h2 (di h3 d_)
 intro i;rcases i with _|_|_|_|i
 ·exact key _ (h 0 o_)
 ·exact key _ (h 1 o_)
 ·exact key _ (h 2 o_)
 ·exact key _ (h 3 o_)
 ·exact key _ (h 4 o_)
theorem IU{f:Fr}(h:Cg f):aB prog 100 [gH f] (.tuple #[.agg (w5 (cw f)).toArray,.bool true]):=by have:=aEf h;rw[aPY]at this;exact this
theorem Qr{f:Fr}(h:¬Cg f):∃ n,aB prog 100 [gH f] (.tuple #[.agg (w5 (wv (rm f) n)).toArray,.bool false]):=aEg h
theorem WN{x y:Int}(hx:x.natAbs<16777216)(hy:y.natAbs<16777216):-281474976710656<=x*y/\x*y<=281474976710656:=by have h:=qk hx hy;rw[<-xA]at h;generalize x*y=p at *;have h2:p.natAbs<281474976710656:=h;omega
abbrev W(x:Int):Int:=IntKind.i64.wrap x
theorem aPZ(x k:Int):W (x+18446744073709551616*k)=W x:=by simp only[dX];omega
theorem aP0(x:Int):∃ k,W x=x+18446744073709551616*k:=⟨(W x-x)/18446744073709551616,by simp only[dX];omega⟩
theorem D5(a b:Int):W (W a+b)=W (a+b):=by simp only[dX];omega
theorem D6(a b:Int):W (a+W b)=W (a+b):=by simp only[dX];omega
theorem WO(a b:Int):W (W a*b)=W (a*b):=by obtain⟨k,h⟩:=aP0 a;rw[h,Int.add_mul,LN,aPZ]
theorem Ao{u:Int}(h:W u=W z)(hz:z.natAbs<4611686018427387904):Value.int .i64 (W u)=.int .i64 z:=by rw[h];congr 1;simp only[dX];omega
theorem aWI{y:K}{n:Nat}(hx:Sz m x)(hy:Sz n y)(cN:m+n<az):aB prog 49 [bK x,bK y] (bK (x+y)):=by
 have v1:=aXd hx o_;have v2:=aXd hy o_;have nK:az<=1099511627776:=by decide
 have xC:=(kF x).pos;have vP:=(kF y).pos;have hl:=aWw (c:=co (qB (bN x) (bN y))) (d:=(qB (bN x) (bN y)).d) (n:=m+n+1) (Dl o_ o_) (dL.add hx hy) o_;have e:bK (x+y)=gH (qB (bN x) (bN y)).low:=by unfold bK cO;rw[Um];rfl
 rw[e];by_cases hw:Cg (bN x)/\Cg (bN y)
 ·obtain⟨w1,w2⟩:=hw;have q1:=IU w1;have q2:=IU w2;have b1:=Qq w1;have b2:=Qq w2;change aB _ _ [gH (bN x)] _ at v1;change aB _ _ [gH (bN y)] _ at v2;show aB _ _ [gH (bN x),gH (bN y)] _;clear hl hx hy e;generalize bN x=f at *;generalize bN y=g at *;have P:=λi j=>WN (b1 i) (b2 j);have Q:=λi j=>WN (b2 i) (b1 j);have hb:∀ i,(cw (qB f g) i).natAbs<4611686018427387904:=by
   intro i;rcases i with _|_|_|_|i
   ·have h1:=P 0 4;have h2:=Q 0 4;show(f.a*g.d+g.a*f.d).natAbs<_;simp only[cw]at h1 h2;omega
   ·have h1:=P 1 4;have h2:=Q 1 4;show(f.b*g.d+g.b*f.d).natAbs<_;simp only[cw]at h1 h2;omega
   ·have h1:=P 2 4;have h2:=Q 2 4;show(f.c*g.d+g.c*f.d).natAbs<_;simp only[cw]at h1 h2;omega
   ·have h1:=P 3 4;have h2:=Q 3 4;show(f.e*g.d+g.e*f.d).natAbs<_;simp only[cw]at h1 h2;omega
   ·have h1:=P 4 4;show(f.d*g.d).natAbs<_;simp only[cw]at h1;omega
  have nm:=aEi (f:=qB f g) (Ur xC vP) hb;exact eF mixed func49 200 (λ_=>[v1.at 13,v2.at 17,q1.at 23,q2.at 29,.rw 50 (.int .i64 (W (W (f.a*g.d)+W (g.a*f.d)))) (.int .i64 (qB f g).a) (Ao (by rw[D5,D6];rfl) (hb 0)),.rw 50 (.int .i64 (W (W (f.b*g.d)+W (g.b*f.d)))) (.int .i64 (qB f g).b) (Ao (by rw[D5,D6];rfl) (hb 1)),.rw 50 (.int .i64 (W (W (f.c*g.d)+W (g.c*f.d)))) (.int .i64 (qB f g).c) (Ao (by rw[D5,D6];rfl) (hb 2)),.rw 50 (.int .i64 (W (W (f.e*g.d)+W (g.e*f.d)))) (.int .i64 (qB f g).e) (Ao (by rw[D5,D6];rfl) (hb 3)),.rw 56 (.int .i64 (W (f.d*g.d))) (.int .i64 (qB f g).d) (Ao rfl (hb 4)),nm.at 59]) (λ_=>k_) k_ k_
 ·obtain⟨x1,x2,x3,x4,x5⟩:=hx;obtain⟨y1,y2,y3,y4,y5⟩:=hy;have mu:∀{u v:Int} {p q:Nat},u.natAbs<2^p->v.natAbs<2^q->p+q<=az->aB prog 65 [aV u,aV v] (aV (u*v)):=λh1 h2 h3=>aW7 h1 h2 o_ o_;have ad:∀{u v:Int},u.natAbs<2^m->v.natAbs<2^n->aB prog 102 [aV (u*(bN y).d),aV (v*(bN x).d)] (aV (u*(bN y).d+v*(bN x).d)):=λh1 h2=>
   aWK (eQ h1 y5) (eQ h2 x5) o_ o_
  by_cases w1:Cg (bN x)
  ·obtain⟨k,q2⟩:=Qr (f:=bN y) (λh=>hw ⟨w1,h⟩);have q1:=IU w1;exact eF mixed func49 200 (λ_=>[v1.at 13,v2.at 17,q1.at 23,q2.at 29,(mu x1 y5 o_).at 71,(mu y1 x5 o_).at 78,(ad x1 y1).at 79,(mu x2 y5 o_).at 71,(mu y2 x5 o_).at 78,(ad x2 y2).at 79,(mu x3 y5 o_).at 71,(mu y3 x5 o_).at 78,(ad x3 y3).at 79,(mu x4 y5 o_).at 71,(mu y4 x5 o_).at 78,(ad x4 y4).at 79,(mu x5 y5 o_).at 86,hl.at 87]) (λ_=>k_) k_ k_
  ·obtain⟨k,q1⟩:=Qr (f:=bN x) w1;exact eF mixed func49 200 (λ_=>[v1.at 13,v2.at 17,q1.at 23,(mu x1 y5 o_).at 71,(mu y1 x5 o_).at 78,(ad x1 y1).at 79,(mu x2 y5 o_).at 71,(mu y2 x5 o_).at 78,(ad x2 y2).at 79,(mu x3 y5 o_).at 71,(mu y3 x5 o_).at 78,(ad x3 y3).at 79,(mu x4 y5 o_).at 71,(mu y4 x5 o_).at 78,(ad x4 y4).at 79,(mu x5 y5 o_).at 86,hl.at 87]) (λ_=>k_) k_ k_
theorem aWN{y:K}{n:Nat}(hx:Sz m x)(hy:Sz n y)(cN:m+n<az):aB prog 115 [bK x,bK y] (bK (x-y)):=by rw[CR.sub_def];exact bo func115 (λ_=>[(aW6 hy o_).at 7,(aWI hx hy.neg cN).at 8])
section
variable{Bs:aa}{a b:Nat->Int}
def WQ(n:Nat):aN:=[(6,vI (n/4)),(7,vI (n%4)),(2,ptr 0),(3,ptr 1),(5,ptr 3)]
def IV(a b c:Nat->Int):aH:=[(0,.aI (ic a) 31),(1,.aI (ic b) 31),(3,.aI (ic c) 31)]
theorem aP1(n:Nat)(hn:n<16){c:Nat->Int}{p r:Nat}(ha:∀ i,(a i).natAbs<2^p)(hb:∀ i,(b i).natAbs<2^q)(hc:∀ i,(c i).natAbs<2^r)(OR:p+q+3<=az)(hr:r<=az):
  af prog Bs 66 (.block 3 (ag f62 3)) (WQ n) (IV a b c) (4+n) ⟨.normal,[],IV a b (xG n a b c),5+n⟩:=by
 have nK:az<=1099511627776:=by decide
 have rz:∀ m,(sq m).natAbs<2^3:=λm=>by unfold sq;split<;>decide
 have m1:=aW7 (ha (n/4)) (hb (n%4)) o_ o_;have m2:=aW7 (rz ((n/4)&&& (n%4))) (eQ (ha (n/4)) (hb (n%4))) o_ o_;have ad:=aWK (hc ((n/4) ^^^ (n%4))) (eQ (rz ((n/4)&&& (n%4))) (eQ (ha (n/4)) (hb (n%4)))) o_ o_;have so:=aXm (z:=sq ((n/4)&&& (n%4))) (by have:=rz ((n/4)&&& (n%4));omega) (by have:=rz ((n/4)&&& (n%4));omega);have sa:=aWF (a (n/4));have sb:=aWF (b (n%4));have z1:∀ z:Int,z=0->Value.bool (z.sign==0)=.bool true:=λz h=>by rw[h];rfl
 have z2:∀ z:Int,z≠0->Value.bool (z.sign==0)=.bool false:=λz h=>by congr 1;simp;exact h
 by_cases h1:a (n/4)=0
 ·rw[OQ (.inl h1)];have e:=z1 _ h1;rcases n with _|_|_|_|_|_|_|_|_|_|_|_|_|_|_|_|n
  all_goals first|omega|exact aC [sa.at 21,.rw 22 _ b_ e]
 ·have e:=z2 _ h1;by_cases h2:b (n%4)=0
  ·rw[OQ (.inr h2)];have e':=z1 _ h2;rcases n with _|_|_|_|_|_|_|_|_|_|_|_|_|_|_|_|n
   all_goals first|omega|exact aC [sa.at 21,.rw 22 _ a_ e,sb.at 27,.rw 28 _ b_ e']
  ·have e':=z2 _ h2;rcases n with _|_|_|_|_|_|_|_|_|_|_|_|_|_|_|_|n
   all_goals first|omega|exact aC [sa.at 21,.rw 22 _ a_ e,sb.at 27,.rw 28 _ a_ e',so.at 45,m1.at 52,m2.at 53,ad.at 63]
end
theorem aEk{a b:Nat->Int}{n:Nat}(ca:∀ i,(a i).natAbs<2^m)(cb:∀ i,(b i).natAbs<2^n)(cN:m+n+8<=az):aB prog 62 [ou a,ou b] (ou (jW a b 16)):=by
 have nK:az<=1099511627776:=by decide
 have hs:∀ i,i<=16->∀ k,(jW a b i k).natAbs<2^(m+n+8):=λi hi k=>by
  have h1:=UE ca cb i hi k;have h2:i*2^(m+n+3)<=16*2^(m+n+3):=eh _ hi;have h3:2^(m+n+8)=32*2^(m+n+3):=by rw[show m+n+8=5+(m+n+3)by omega,eP]
  have h4:0<2^(m+n+3):=cI d_;omega
 have go:∀(w:h_) (i:Nat),i<16->af prog (aa.at w) 66 (.block 3 (ag f62 3)) (WQ i) (IV a b (jW a b i)) (4+i) ⟨.normal,[],IV a b (jW a b (i+1)),5+i⟩:=λw i hi=>
  aP1 i hi ca cb (hs i o_) o_ o_
 have UF:∀(w:h_),af prog (aa.at w) 66 (.block 3 (ag f62 3)) (WQ 0) [(0,.aI (ic a) 31),(1,.aI (ic b) 31),(3,.aI [.bool false,.string ⟨#[]⟩,.bool false,.string ⟨#[]⟩,.bool false,.string ⟨#[]⟩,.bool false,.string ⟨#[]⟩] 31)] 4
   ⟨.normal,[],IV a b (jW a b 1),5⟩:=λw=>by
  have h:=go w 0 o_;have e:IV a b (jW a b 0)=[(0,.aI (ic a) 31),(1,.aI (ic b) 31),(3,.aI [.bool false,.string ⟨#[]⟩,.bool false,.string ⟨#[]⟩,.bool false,.string ⟨#[]⟩,.bool false,.string ⟨#[]⟩] 31)]:=by show[(0,Obj.aI (ic a) 31),(1,.aI (ic b) 31),(3,.aI (ic (λ_=>0)) 31)]=_;rw[aBw]
  rw[e]at h;exact h
 generalize jW a b=c at *;exact eF mixed func62 300 (λw=>[.code 3 _ _ _ _ _ (UF w),.code 3 _ _ _ _ _ (go w 1 o_),.code 3 _ _ _ _ _ (go w 2 o_),.code 3 _ _ _ _ _ (go w 3 o_),.code 3 _ _ _ _ _ (go w 4 o_),.code 3 _ _ _ _ _ (go w 5 o_),.code 3 _ _ _ _ _ (go w 6 o_),.code 3 _ _ _ _ _ (go w 7 o_),.code 3 _ _ _ _ _ (go w 8 o_),.code 3 _ _ _ _ _ (go w 9 o_),.code 3 _ _ _ _ _ (go w 10 o_),.code 3 _ _ _ _ _ (go w 11 o_),.code 3 _ _ _ _ _ (go w 12 o_),.code 3 _ _ _ _ _ (go w 13 o_),.code 3 _ _ _ _ _ (go w 14 o_),.code 3 _ _ _ _ _ (go w 15 o_)]) (λ_=>k_) k_ k_
theorem aXl{y:K}{n:Nat}(hx:Sz m x)(hy:Sz n y)(cN:m+n+8<=az):aB prog 53 [bK x,bK y] (bK (x*y)):=by
 have v1:=aXd hx o_;have v2:=aXd hy o_;have nK:az<=1099511627776:=by decide
 have xC:=(kF x).pos;have vP:=(kF y).pos;have e:bK (x*y)=gH (dY (bN x) (bN y)).low:=by unfold bK cO;rw[Un];rfl
 rw[e];by_cases hw:Cg (bN x)/\Cg (bN y)
 ·obtain⟨w1,w2⟩:=hw;have q1:=IU w1;have q2:=IU w2;have b1:=Qq w1;have b2:=Qq w2;change aB _ _ [gH (bN x)] _ at v1;change aB _ _ [gH (bN y)] _ at v2;show aB _ _ [gH (bN x),gH (bN y)] _;clear hx hy e;generalize bN x=f at *;generalize bN y=g at *;have P:=λi j=>WN (b1 i) (b2 j);have hb:∀ i,(cw (dY f g) i).natAbs<4611686018427387904:=by have h00:=P 0 0;have uQ:=P 0 1;have C1:=P 0 2;have h03:=P 0 3;have h10:=P 1 0;have h11:=P 1 1;have Pt:=P 1 2;have Ta:=P 1 3;have h20:=P 2 0;have h21:=P 2 1;have Z2:=P 2 2;have h23:=P 2 3;have h30:=P 3 0;have h31:=P 3 1;have h32:=P 3 2;have h33:=P 3 3;have h44:=P 4 4;simp only[cw]at *;intro i;rcases i with _|_|_|_|i<;>(simp only[cw,dY];omega)
  have nm:=aEi (f:=dY f g) (Ur xC vP) hb;exact eF mixed func53 300 (λ_=>[v1.at 10,v2.at 14,q1.at 20,q2.at 26,.rw 55 (.int .i64 (W (W (W (W (f.a*g.a)+W (W (2*f.b)*g.b))+W (W (3*f.c)*g.c))+W (W (6*f.e)*g.e)))) (.int .i64 (dY f g).a) (Ao (by simp only[D5,D6,WO];congr 1;unfold dY;simp only[LN]) (hb 0)),.rw 80 (.int .i64 (W (W (W (W (f.a*g.b)+W (f.b*g.a))+W (W (3*f.c)*g.e))+W (W (3*f.e)*g.c)))) (.int .i64 (dY f g).b) (Ao (by simp only[D5,D6,WO];congr 1;unfold dY;simp only[LN]) (hb 1)),.rw 105 (.int .i64 (W (W (W (W (f.a*g.c)+W (f.c*g.a))+W (W (2*f.b)*g.e))+W (W (2*f.e)*g.b)))) (.int .i64 (dY f g).c) (Ao (by simp only[D5,D6,WO];congr 1;unfold dY;simp only[LN];omega) (hb 2)),.rw 128 (.int .i64 (W (W (W (W (f.a*g.e)+W (f.e*g.a))+W (f.b*g.c))+W (f.c*g.b)))) (.int .i64 (dY f g).e) (Ao (by simp only[D5,D6];congr 1;unfold dY;simp only[];omega) (hb 3)),.rw 133 (.int .i64 (W (f.d*g.d))) (.int .i64 (dY f g).d) (Ao rfl (hb 4)),nm.at 135]) (λ_=>k_) k_ k_
 ·have ca:=Ib hx;have cb:=Ib hy;have tm:=aEk ca cb cN;have hl:=aWw (c:=jW (co (bN x)) (co (bN y)) 16) (d:=(bN x).d*(bN y).d) (n:=m+n+4) (Dl o_ o_) (by rw[KM];exact dL.mul hx hy) o_;rw[KM]at hl;have md:=aW7 hx.2.2.2.2 hy.2.2.2.2 o_ o_;generalize jW (co (bN x)) (co (bN y)) 16=c at *;by_cases w1:Cg (bN x)
  ·obtain⟨k,q2⟩:=Qr (f:=bN y) (λh=>hw ⟨w1,h⟩);have q1:=IU w1;exact eF mixed func53 200 (λ_=>[v1.at 10,v2.at 14,q1.at 20,q2.at 26,tm.at 140,md.at 145,hl.at 146]) (λ_=>k_) k_ k_
  ·obtain⟨k,q1⟩:=Qr (f:=bN x) w1;exact eF mixed func53 200 (λ_=>[v1.at 10,v2.at 14,q1.at 20,tm.at 140,md.at 145,hl.at 146]) (λ_=>k_) k_ k_
theorem aEl{a s:Int}(ha:a.natAbs<=1)(hs:s.natAbs<=1):IntKind.i64.wrap (a*s)=a*s:=by
 have h1:a=-1\/a=0\/a=1:=by omega
 rcases h1 with h1|h1|h1<;>rw[h1,dX]<;>omega
theorem yf{a b:Int}(h:a=b):Value.bool (a==b)=.bool true:=by rw[h];simp
theorem pS{a b:Int}(h:a≠b):Value.bool (a==b)=.bool false:=by congr 1;simpa using h
theorem WR{x y:Int}{p:Nat}(h1:x.natAbs<2^p)(h2:y.natAbs<2^q)(hp:p+p+3<=az)(hq:q+q+3<=az):aB prog 61 [aV x,aV y] (.int .i64 (pM x y)):=by
 have nK:az<=1099511627776:=by decide
 have s1:=aWF x;have s2:=aWF y;have l1:=Dp x;have l3:=Dp (x*x-2*(y*y));have m1:=aW7 h1 h1 o_ o_;have o2:=aXm (z:=2) d_ d_;have m2:=aW7 h2 h2 o_ o_;have m3:=aW7 (x:=2) (y:=y*y) (p:=2) d_ (eQ h2 h2) d_ o_;have cm:=aWu (x:=x*x) (y:=2*(y*y)) (eQ h1 h1) (eQ (m:=2) (u:=2) d_ (eQ h2 h2)) o_ o_;have hw:=aEl l1 l3;unfold pM tU;generalize (x*x-2*(y*y)).sign=t at *;generalize x.sign=a at *;generalize y.sign=b at *;by_cases h1:a=b
 ·rw[ax (.inl h1)];exact bo func61 (λ_=>[s1.at 8,s2.at 10,.rw 13 _ b_ (yf h1)])
 ·by_cases h2:b=0
  ·rw[ax (.inr h2)];exact bo func61 (λ_=>[s1.at 8,s2.at 10,.rw 13 _ a_ (pS h1),.rw 16 _ b_ (yf h2)])
  ·rw[ao (λh=>h.elim h1 h2)];by_cases h3:a=0
   ·rw[ax h3];exact bo func61 (λ_=>[s1.at 8,s2.at 10,.rw 13 _ a_ (pS h1),.rw 16 _ a_ (pS h2),.rw 20 _ b_ (yf h3)])
   ·rw[ao h3];exact bo func61 (λ_=>[s1.at 8,s2.at 10,.rw 13 _ a_ (pS h1),.rw 16 _ a_ (pS h2),.rw 20 _ a_ (pS h3),m1.at 25,o2.at 26,m2.at 29,m3.at 30,cm.at 31,.wr 32 .i64 (a*t) (a*t) hw])
theorem IW{f g:Fr}{n:Nat}(hf:dL m f)(hg:dL n g)(cN:m+n+8<=az):aB prog 62 [ou (co f),ou (co g)] (ou (co (dY f g))):=by
 have h:=aEk (Ib hf) (Ib hg) cN;have e:ou (jW (co f) (co g) 16)=ou (co (dY f g)):=by rw[<-KM f g];rfl
 rw[e]at h;exact h
def f2(a b:Int):Fr:=⟨a,b,0,0,1⟩
theorem aP2(a b:Int):dY (f2 a b) (f2 a b)=⟨a*a+2*(b*b),2*(a*b),0,0,1⟩:=by
 unfold dY f2;simp only[Fr.mk.injEq];refine⟨?_,?_,?_,?_,?_⟩
 ·simp
 ·rw[TW b a];simp;omega
 ·simp
 ·simp
 ·rfl
theorem aP3(a b:Int):ou (co (f2 a b))=.agg #[.bool (bt a).neg,.string (BA (bt a).aW),.bool (bt b).neg,.string (BA (bt b).aW),.bool false,.string ⟨#[]⟩,.bool false,.string ⟨#[]⟩]:=by show Value.agg #[.bool (bt a).neg,.string (BA (bt a).aW),.bool (bt b).neg,.string (BA (bt b).aW),.bool (bt 0).neg,.string (BA (bt 0).aW),.bool (bt 0).neg,.string (BA (bt 0).aW)]=_;rw[Bz];rfl
theorem aEm{a b:Int}{n:Nat}(ha:a.natAbs<2^n)(hb:b.natAbs<2^n)(hn:2*n+10<=az):
  aB prog 62 [.agg #[.bool (bt a).neg,.string (BA (bt a).aW),.bool (bt b).neg,.string (BA (bt b).aW),.bool false,.string ⟨#[]⟩,.bool false,.string ⟨#[]⟩],.agg #[.bool (bt a).neg,.string (BA (bt a).aW),.bool (bt b).neg,.string (BA (bt b).aW),.bool false,.string ⟨#[]⟩,.bool false,.string ⟨#[]⟩]]
   (ou (co ⟨a*a+2*(b*b),2*(a*b),0,0,1⟩)):=by
 have hp:0<2^n:=cI d_;have h:dL (n+1) (f2 a b):=by have h2:2^n*2=2^(n+1):=(dD ..).symm;refine⟨?_,?_,?_,?_,?_⟩<;>unfold f2<;>dsimp only<;>omega
 have:=IW h h o_;rw[aP2,aP3]at this;exact this
theorem aWE{n:Nat}(hx:Sz n x)(hn:4*n+30<=az):aB prog 23 [bK x] (.int .i64 (OF.aD x)):=by
 have nK:az<=1099511627776:=by decide
 have hv:=aXd hx o_;rw[aBm];obtain⟨x1,x2,x3,x4,x5⟩:=hx;unfold bK cO at *;generalize bN x=f at *;have s1:=WR x1 x2 o_ o_;have s2:=WR x3 x4 o_ o_;have t1:=aEm x1 x2 o_;have t2:=aEm x3 x4 o_;have o3:=aXm (z:=3) d_ d_;have z1:(f.a*f.a).natAbs<2^(n+n+2):=cF (eQ x1 x1) (df d_ o_);have z2:(2*(f.b*f.b)).natAbs<2^(n+n+2):=by have:=eQ (m:=2) (u:=2) d_ (eQ x2 x2);rwa[show 2+(n+n)=n+n+2 by omega]at this
 have z3:(f.c*f.c).natAbs<2^(n+n+2):=cF (eQ x3 x3) (df d_ o_);have z4:(2*(f.e*f.e)).natAbs<2^(n+n+2):=by have:=eQ (m:=2) (u:=2) d_ (eQ x4 x4);rwa[show 2+(n+n)=n+n+2 by omega]at this
 have z12:=Ih z1 z2;have z34:=Ih z3 z4;have y1:(2*(f.a*f.b)).natAbs<2^(n+n+2):=by have:=eQ (m:=2) (u:=2) d_ (eQ x1 x2);rwa[show 2+(n+n)=n+n+2 by omega]at this
 have y2:(2*(f.c*f.e)).natAbs<2^(n+n+2):=by have:=eQ (m:=2) (u:=2) d_ (eQ x3 x4);rwa[show 2+(n+n)=n+n+2 by omega]at this
 have m34:=aW7 (x:=3) (p:=2) d_ z34 d_ o_;have zm:(3*(f.c*f.c+2*(f.e*f.e))).natAbs<2^(n+n+5):=by have:=eQ (m:=2) (u:=3) d_ z34;rwa[show 2+(n+n+2+1)=n+n+5 by omega]at this
 have aEn:(f.a*f.a+2*(f.b*f.b)).natAbs<2^(n+n+5):=cF z12 (df d_ o_);have d1:=aXf aEn zm o_ o_;have my:=aW7 (x:=3) (p:=2) d_ y2 d_ o_;have ym:(3*(2*(f.c*f.e))).natAbs<2^(n+n+4):=by have:=eQ (m:=2) (u:=3) d_ y2;rwa[show 2+(n+n+2)=n+n+4 by omega]at this
 have y1':(2*(f.a*f.b)).natAbs<2^(n+n+4):=cF y1 (df d_ o_);have d2:=aXf y1' ym o_ o_;have s3:=WR (OS aEn zm) (OS y1' ym) o_ o_;have e1:(f.a*f.a+2*(f.b*f.b))-3*(f.c*f.c+2*(f.e*f.e))=(f.a*f.a+2*(f.b*f.b))-(3*(f.c*f.c)+6*(f.e*f.e)):=by omega
 have e2:2*(f.a*f.b)-3*(2*(f.c*f.e))=2*(f.a*f.b)-6*(f.c*f.e):=by omega
 have xH:=OT f.a f.b;have UI:=OT ((f.a*f.a+2*(f.b*f.b))-(3*(f.c*f.c)+6*(f.e*f.e))) (2*(f.a*f.b)-6*(f.c*f.e));have hw:=aEl xH UI;rw[<-e1,<-e2]at hw;unfold OJ tU;rw[<-e1,<-e2];generalize pM ((f.a*f.a+2*(f.b*f.b))-3*(f.c*f.c+2*(f.e*f.e))) (2*(f.a*f.b)-3*(2*(f.c*f.e)))=t at *;generalize pM f.a f.b=p at *;generalize pM f.c f.e=q at *;by_cases h1:p=q
 ·rw[ax (.inl h1)];exact bo func23 (λ_=>[hv.at 9,s1.at 17,s2.at 24,.rw 27 _ b_ (yf h1)])
 ·by_cases h2:q=0
  ·rw[ax (.inr h2)];exact bo func23 (λ_=>[hv.at 9,s1.at 17,s2.at 24,.rw 27 _ a_ (pS h1),.rw 30 _ b_ (yf h2)])
  ·rw[ao (λh=>h.elim h1 h2)];by_cases h3:p=0
   ·rw[ax h3];exact bo func23 (λ_=>[hv.at 9,s1.at 17,s2.at 24,.rw 27 _ a_ (pS h1),.rw 30 _ a_ (pS h2),.rw 34 _ b_ (yf h3)])
   ·rw[ao h3];exact eF mixed func23 200 (λ_=>[hv.at 9,s1.at 17,s2.at 24,.rw 27 _ a_ (pS h1),.rw 30 _ a_ (pS h2),.rw 34 _ a_ (pS h3),t1.at 50,t2.at 65,o3.at 66,m34.at 73,d1.at 74,my.at 80,d2.at 81,s3.at 82,.wr 83 .i64 (p*t) (p*t) hw]) (λ_=>k_) k_ k_
theorem aWs{y:K}{n:Nat}(hx:Sz m x)(hy:Sz n y)(cN:4*(m+n)+40<=az):aB prog 124 [bK x,bK y] (.int .i64 (OF.aD (x-y))):=
 bo func124 (λ_=>[(aXd hx o_).at 6,(aXd hy o_).at 10,(aWN hx hy o_).at 15,(aWE (hx.sub hy) o_).at 16])
theorem aWP{n:Nat}(hx:Sz n x)(hn:4*n+30<=az):aB prog 226 [bK x] (bK (iS x)):=by
 unfold iS;have n1:=aW6 hx o_;have n2:=aW6 hx.neg o_;rw[CR.neg_neg]at n2;by_cases h:OF.aD x<0
 ·rw[ax h];exact bo func226 (λ_=>[(aWE hx hn).at 4,.rw 5 (.bool (decide (OF.aD x<0))) b_ (by rw[aE h]),n1.at 7])
 ·rw[ao h];exact bo func226 (λ_=>[(aWE hx hn).at 4,.rw 5 (.bool (decide (OF.aD x<0))) a_ (by rw[aO h]),n1.at 9,n2.at 10])
def tf(q:RI):Nat:=q.aW.length
def tg(r:RN)(k:Nat):Bool:=decide (tf r.a<=k)&&(decide (tf r.b<=k)&&(decide (tf r.c<=k)&&(decide (tf r.e<=k)&&decide (tf r.d<=k))))
theorem Ap(l:List UInt8):Value.int .i64 ((BA l).size:Int)=vI l.length:=by rw[oV];rfl
theorem um(h:decide (a<=b)=!t):Value.bool (decide ((a:Int)>(b:Int)))=.bool t:=by
 congr 1
 cases t
 ·have:=jz h;exact aO o_
 ·have:=Df h;exact aE o_
theorem Qs(r:RN)(k:Nat):aB prog 66 [r.v,vI k] (.bool (tg r k)):=by
 unfold tg tf;have la:=Ap r.a.aW;have lb:=Ap r.b.aW;have lc:=Ap r.c.aW;have le:=Ap r.e.aW;have ld:=Ap r.d.aW;rcases ha:decide (r.a.aW.length<=k)with _|_
 ·exact bo func66 (λ_=>[.rw 15 _ (vI r.a.aW.length) la,.rw 17 _ b_ (um (t:=true) ha)])
 rcases hb:decide (r.b.aW.length<=k)with _|_
 ·exact bo func66 (λ_=>[.rw 15 _ (vI r.a.aW.length) la,.rw 17 _ a_ (um (t:=false) ha),.rw 15 _ (vI r.b.aW.length) lb,.rw 17 _ b_ (um (t:=true) hb)])
 rcases hc:decide (r.c.aW.length<=k)with _|_
 ·exact bo func66 (λ_=>[.rw 15 _ (vI r.a.aW.length) la,.rw 17 _ a_ (um (t:=false) ha),.rw 15 _ (vI r.b.aW.length) lb,.rw 17 _ a_ (um (t:=false) hb),.rw 15 _ (vI r.c.aW.length) lc,.rw 17 _ b_ (um (t:=true) hc)])
 rcases he:decide (r.e.aW.length<=k)with _|_
 ·exact bo func66 (λ_=>[.rw 15 _ (vI r.a.aW.length) la,.rw 17 _ a_ (um (t:=false) ha),.rw 15 _ (vI r.b.aW.length) lb,.rw 17 _ a_ (um (t:=false) hb),.rw 15 _ (vI r.c.aW.length) lc,.rw 17 _ a_ (um (t:=false) hc),.rw 15 _ (vI r.e.aW.length) le,.rw 17 _ b_ (um (t:=true) he)])
 have hd:Value.bool (decide ((r.d.aW.length:Int)<=(k:Int)))=.bool (decide (r.d.aW.length<=k)):=by congr 1;rw[pD];omega
 exact bo func66 (λ_=>[.rw 15 _ (vI r.a.aW.length) la,.rw 17 _ a_ (um (t:=false) ha),.rw 15 _ (vI r.b.aW.length) lb,.rw 17 _ a_ (um (t:=false) hb),.rw 15 _ (vI r.c.aW.length) lc,.rw 17 _ a_ (um (t:=false) hc),.rw 15 _ (vI r.e.aW.length) le,.rw 17 _ a_ (um (t:=false) he),.rw 21 _ (vI r.d.aW.length) ld,.rw 23 _ (.bool (decide (r.d.aW.length<=k))) hd])
def wN(r:RN):Nat:=tf r.d+tf r.a+tf r.b+tf r.c+tf r.e
theorem Qt(h:wN r<9223372036854775808):aB prog 82 [r.v] (vI (wN r)):=by unfold wN tf at *;have la:=Ap r.a.aW;have lb:=Ap r.b.aW;have lc:=Ap r.c.aW;have le:=Ap r.e.aW;have ld:=Ap r.d.aW;exact bo func82 (λ_=>[.rw 8 _ (vI r.d.aW.length) ld,.rw 19 _ (vI r.a.aW.length) la,.sum 20 r.d.aW.length r.a.aW.length (r.d.aW.length+r.a.aW.length) rfl o_,.rw 19 _ (vI r.b.aW.length) lb,.sum 20 (r.d.aW.length+r.a.aW.length) r.b.aW.length (r.d.aW.length+r.a.aW.length+r.b.aW.length) rfl o_,.rw 19 _ (vI r.c.aW.length) lc,.sum 20 (r.d.aW.length+r.a.aW.length+r.b.aW.length) r.c.aW.length (r.d.aW.length+r.a.aW.length+r.b.aW.length+r.c.aW.length) rfl o_,.rw 19 _ (vI r.e.aW.length) le,.sum 20 (r.d.aW.length+r.a.aW.length+r.b.aW.length+r.c.aW.length) r.e.aW.length (r.d.aW.length+r.a.aW.length+r.b.aW.length+r.c.aW.length+r.e.aW.length) rfl o_])
theorem WS(p q r t:Rat)(k:Rat):(⟨⟨p,q⟩,⟨r,t⟩⟩:K)*⟨⟨k,0⟩,⟨0,0⟩⟩=⟨⟨p*k,q*k⟩,⟨r*k,t*k⟩⟩:=by
 apply bJ.ext
 ·apply bJ.ext
  ·show(p*k+2*(q*0))+(3*(r*0+2*(t*0))+2*(0*(r*0+t*0)))=p*k
   grind
  ·show(p*0+q*k)+(3*(r*0+t*0)+0*(r*0+2*(t*0)))=q*k
   grind
 ·apply bJ.ext
  ·show(p*0+2*(q*0))+(r*k+2*(t*0))=r*k
   grind
  ·show(p*0+q*0)+(r*0+t*k)=t*k
   grind
theorem Qu(u d k:Int):Rat.divInt (u*k) d=Rat.divInt u d*(k:Rat):=by
 rw[Bu,Bu,FI,FI];have:((u*k:Int):Rat)=(u:Rat)*(k:Rat):=by simp
 rw[this]
 grind
theorem aP4(a b c e d k:Int):Fr.val ⟨a*k,b*k,c*k,e*k,d⟩=Fr.val ⟨a,b,c,e,d⟩*kI k:=by unfold Fr.val kI;dsimp only;rw[WS,Qu,Qu,Qu,Qu]
theorem Qv{a b c e d:Int}(hd:d≠0):Fr.val ⟨a,b,c,e,d⟩*kI d=Fr.val ⟨a,b,c,e,1⟩:=by
 unfold Fr.val kI;dsimp only;have h1:∀ u:Int,Rat.divInt u 1=(u:Rat):=λu=>by rw[Bu,FI];grind
 rw[WS,o8 hd,o8 hd,o8 hd,o8 hd,h1,h1,h1,h1]
theorem aP5(a b:Int):kI (a*b)=kI a*kI b:=by
 unfold kI;rw[WS];have:((a*b:Int):Rat)=(a:Rat)*(b:Rat):=by simp
 rw[this];apply bJ.ext<;>apply bJ.ext<;>simp
theorem aP6:kI 1=1:=rfl
theorem Qw{a:Int}(h:a≠0):kI a≠0:=λe=>by have h1:=cL (λx:K=>x.re.re) e;have h2:((a:Int):Rat)=0:=h1;exact h (by simpa using h2)
theorem WT(f:Fr)(h:f.d=1):f.val=⟨⟨f.a,f.b⟩,⟨f.c,f.e⟩⟩:=by
 have h1:∀ u:Int,Rat.divInt u 1=(u:Rat):=λu=>by rw[Bu,FI];grind
 unfold Fr.val;rw[h,h1,h1,h1,h1]
theorem aP7(u v:K):lV (u*v)=lV u*lV v:=by
 obtain⟨⟨a,b⟩,⟨c,d⟩⟩:=u;obtain⟨⟨p,q⟩,⟨r,s⟩⟩:=v;apply bJ.ext
 ·apply bJ.ext
  ·show(a*p+2*(b*q))+(3*(c*r+2*(d*s))+2*(0*(c*s+d*r)))=(a*p+2*(-b*-q))+(3*(c*r+2*(-d*-s))+2*(0*(c*-s+-d*r)))
   grind
  ·show -((a*q+b*p)+(3*(c*s+d*r)+0*(c*r+2*(d*s))))=(a*-q+-b*p)+(3*(c*-s+-d*r)+0*(c*r+2*(-d*-s)))
   grind
 ·apply bJ.ext
  ·show(a*r+2*(b*s))+(c*p+2*(d*q))=(a*r+2*(-b*-s))+(c*p+2*(-d*-q))
   grind
  ·show -((a*s+b*r)+(c*q+d*p))=(a*-s+-b*r)+(c*-q+-d*p)
   grind
def nf(f:Fr):Fr:=⟨f.a,f.b,f.c,f.e,1⟩
def Qx(f:Fr):Fr:=⟨f.a,-f.b,-f.c,f.e,1⟩
def Qy:Fr:=⟨1,0,0,0,1⟩
def iw(f:Fr):Fr:=dY (dY (dY Qy (xF (nf f))) (xE (nf f))) (Qx f)
theorem aEo(f:Fr):(iw f).d=1:=rfl
theorem aP8(f:Fr):(nf f).val*(iw f).val=ry (nf f).val:=by
 have h1:∀ g h:Fr,g.d=1->h.d=1->(dY g h).val=g.val*h.val:=λg h e1 e2=>KF (by rw[e1];decide) (by rw[e2];decide);have e3:Qx f=xF (xE (nf f)):=by unfold Qx xF xE nf;simp
 unfold iw;rw[h1 _ _ rfl rfl,h1 _ _ rfl rfl,h1 _ _ rfl rfl,e3,UB,UB,aBr];have eo:Qy.val=1:=by rw[WT _ rfl];rfl
 rw[eo];unfold ry two;rw[aP7];generalize (nf f).val=y;rw[CR.one_mul];exact OF.FC y (lV y) (mZ y) (lV (mZ y)) (λy c b i=>y*(c*b*i)) (λy c b i=>y*b*(c*i)) d_
def nu(f g:Fr):Fr:=⟨(dY (nf f) (iw g)).a*g.d,(dY (nf f) (iw g)).b*g.d,(dY (nf f) (iw g)).c*g.d,(dY (nf f) (iw g)).e*g.d,(dY (nf g) (iw g)).a*f.d⟩
theorem aP9{g:Fr}(hg:g.d≠0)(h:g.val≠0):(dY (nf g) (iw g)).a≠0/\kI (dY (nf g) (iw g)).a=(nf g).val*(iw g).val:=by
 have hv:(dY (nf g) (iw g)).val=(nf g).val*(iw g).val:=KF (show(1:Int)≠0 by decide) (by rw[aEo];decide);have hy:(nf g).val≠0:=λe=>h (by
  have h1:=Qv (a:=g.a) (b:=g.b) (c:=g.c) (e:=g.e) hg;have h2:Fr.val ⟨g.a,g.b,g.c,g.e,g.d⟩*kI g.d=0:=by rw[h1];exact e
  exact jI λh3=>OF.mul_ne_zero (a:=Fr.val ⟨g.a,g.b,g.c,g.e,g.d⟩) h3 (Qw hg) h2)
 have hn:=aP8 g;rw[OO]at hn;have hq:=UC hy;rw[<-hv,WT _ (by rfl)]at hn;have e1:(((dY (nf g) (iw g)).a:Int):Rat)=bJ.nm (bJ.nm (nf g).val):=cL (λx:K=>x.re.re) hn;have e2:(((dY (nf g) (iw g)).b:Int):Rat)=0:=cL (λx:K=>x.re.im) hn;have e3:(((dY (nf g) (iw g)).c:Int):Rat)=0:=cL (λx:K=>x.im.re) hn;have e4:(((dY (nf g) (iw g)).e:Int):Rat)=0:=cL (λx:K=>x.im.im) hn;refine⟨λe=>hq (by rw[<-e1,e];rfl),?_⟩;rw[<-hv,WT _ (by rfl),e2,e3,e4];rfl
theorem aQa{f g:Fr}(hf:f.d≠0)(hg:g.d≠0)(h:g.val≠0):(nu f g).d≠0/\(nu f g).val=f.val*(g.val)⁻¹:=by
 obtain⟨ha,hk⟩:=aP9 hg h;have hd:(nu f g).d≠0:=Dl ha hf;refine⟨hd,?_⟩;have h1:=Qv (a:=(nu f g).a) (b:=(nu f g).b) (c:=(nu f g).c) (e:=(nu f g).e) hd;have h2:=aP4 (dY (nf f) (iw g)).a (dY (nf f) (iw g)).b (dY (nf f) (iw g)).c (dY (nf f) (iw g)).e 1 g.d;have h3:(dY (nf f) (iw g)).val=(nf f).val*(iw g).val:=KF (show(1:Int)≠0 by decide) (by rw[aEo];decide);have h4:=Qv (a:=f.a) (b:=f.b) (c:=f.c) (e:=f.e) hf;have h5:=Qv (a:=g.a) (b:=g.b) (c:=g.c) (e:=g.e) hg;have h6:kI (nu f g).d=(nf g).val*(iw g).val*kI f.d:=by show kI ((dY (nf g) (iw g)).a*f.d)=_;rw[aP5,hk]
 have e1:(nu f g).val*((nf g).val*(iw g).val*kI f.d)=(nf f).val*(iw g).val*kI g.d:=by rw[<-h6,<-h3];exact h1.trans h2
 replace h4:f.val*kI f.d=(nf f).val:=h4
 replace h5:g.val*kI g.d=(nf g).val:=h5
 rw[<-h4,<-h5]at e1;have hc:(iw g).val≠0:=λe=>by rw[e,CR.mul_zero]at hk;exact Qw ha hk
 have hm:kI g.d*((iw g).val*kI f.d)≠0:=OF.mul_ne_zero (Qw hg) (OF.mul_ne_zero hc (Qw hf));have e2:(nu f g).val*g.val*(kI g.d*((iw g).val*kI f.d))=f.val*(kI g.d*((iw g).val*kI f.d)):=by
  rw[show(nu f g).val*g.val*(kI g.d*((iw g).val*kI f.d))=(nu f g).val*(g.val*kI g.d*(iw g).val*kI f.d)from
   OF.Kx (nu f g).val g.val (kI g.d) (iw g).val (kI f.d) (λd g k c l=>d*g*(k*(c*l))) (λd g k c l=>d*(g*k*c*l)) d_,e1]
  exact OF.FC f.val (kI f.d) (iw g).val (kI g.d) (λf l c k=>f*l*c*k) (λf l c k=>f*(k*(c*l))) d_
 have e3:(nu f g).val*g.val=f.val:=by have h7:=cL (λt=>t*(kI g.d*((iw g).val*kI f.d))⁻¹) e2;rw[CR.mul_assoc ((nu f g).val*g.val),CR.mul_assoc f.val,OF.lS _ hm,CR.mul_one,CR.mul_one]at h7;exact h7
 rw[<-e3,CR.mul_assoc,OF.lS _ h,CR.mul_one]
theorem aQb:ou (co Qy)=.agg #[.bool (bt 1).neg,.string (BA (bt 1).aW),.bool false,.string ⟨#[]⟩,.bool false,.string ⟨#[]⟩,.bool false,.string ⟨#[]⟩]:=by show Value.agg #[.bool (bt 1).neg,.string (BA (bt 1).aW),.bool (bt 0).neg,.string (BA (bt 0).aW),.bool (bt 0).neg,.string (BA (bt 0).aW),.bool (bt 0).neg,.string (BA (bt 0).aW)]=_;rw[Bz];rfl
theorem aEp{n:Nat}{f:Fr}(h:dL n f)(hd:f.d≠0):dL n (nf f):=by
 obtain⟨h1,h2,h3,h4,h5⟩:=h;refine⟨h1,h2,h3,h4,?_⟩;show(1:Int).natAbs<2^n;have:f.d.natAbs≠0:=by omega
 show 1<2^n;omega
theorem aQc{n:Nat}{f:Fr}(h:dL n (nf f)):dL n (xF (nf f))/\dL n (xE (nf f))/\dL n (Qx f):=by
 obtain⟨h1,h2,h3,h4,h5⟩:=h;have e:∀ z:Int,z.natAbs<2^n->(-z).natAbs<2^n:=λz hz=>by rw[Kj];exact hz
 exact⟨⟨h1,e _ h2,h3,e _ h4,h5⟩,⟨h1,h2,e _ h3,e _ h4,h5⟩,⟨h1,e _ h2,e _ h3,h4,h5⟩⟩
theorem aWy{y:K}{n:Nat}(h:y≠0)(hx:Sz m x)(hy:Sz n y)(cN:m+4*n+60<=az):aB prog 50 [bK x,bK y] (.tuple #[bK (x*y⁻¹),.int .i64 0]):=by
 have nK:az<=1099511627776:=by decide
 have v1:=aXd hx o_;have v2:=aXd hy o_;have sy:=aWE hy o_;have h26:Value.bool (OF.aD y==0)=.bool false:=pS (λe=>h ((OF.fp y).1 e));have vD:(bN x).d≠0:=by have:=(kF x).pos;omega
 have ob:(bN y).d≠0:=by have:=(kF y).pos;omega
 obtain⟨hd,hv⟩:=aQa vD ob (by rw[o7];exact h);rw[o7,o7]at hv;have e:bK (x*y⁻¹)=gH (nu (bN x) (bN y)).low:=by unfold bK cO;rw[<-hv,FG hd];rfl
 rw[e];have so1:dL 1 Qy:=⟨by decide,by decide,by decide,by decide,by decide⟩;have sg:=aEp hy ob;have sf:=aEp hx vD;obtain⟨c1,c2,c3⟩:=aQc sg;have s1:=dL.mul so1 c1;have s2:=dL.mul s1 c2;have s3:=dL.mul s2 c3;have sN:=dL.mul sg s3;have sM:=dL.mul sf s3;have t1:=IW so1 c1 o_;rw[aQb]at t1;have t2:=IW s1 c2 o_;have t3:=IW s2 c3 o_;have tN:=IW sg s3 o_;have tM:=IW sf s3 o_;have gd:=hy.2.2.2.2;have fd:=hx.2.2.2.2;have ma:=aW7 sM.1 gd o_ o_;have mb:=aW7 sM.2.1 gd o_ o_;have mc:=aW7 sM.2.2.1 gd o_ o_;have me:=aW7 sM.2.2.2.1 gd o_ o_;have md:=aW7 sN.1 fd o_ o_;have za:=eQ sM.1 gd;have zb:=eQ sM.2.1 gd;have zc:=eQ sM.2.2.1 gd;have ze:=eQ sM.2.2.2.1 gd;have zd:=eQ sN.1 fd;have xH:2^(m+(1+n+4+n+4+n+4)+4+n)<=2^(m+4*n+20):=df d_ o_;have WG:2^(n+(1+n+4+n+4+n+4)+4+m)<=2^(m+4*n+20):=df d_ o_;have hl:=aWw (c:=co (nu (bN x) (bN y))) (d:=(nu (bN x) (bN y)).d) (n:=m+4*n+20) hd ⟨cF za xH,cF zb xH,cF zc xH,cF ze xH,cF zd WG⟩ o_;have dE:mY (co (nu (bN x) (bN y))) (nu (bN x) (bN y)).d=nu (bN x) (bN y):=rfl;rw[dE]at hl;have nb:=aWV (bN y).b;have nc:=aWV (bN y).c;have ne:=aWV (bN y).e;have one:=aXm (z:=1) d_ d_;generalize hD:(nu (bN x) (bN y)).low=D at *;exact eF mixed func50 300 (λ_=>[v1.at 15,v2.at 19,sy.at 25,.rw 26 _ a_ h26,one.at 28,nb.at 54,ne.at 54,t1.at 58,nc.at 54,ne.at 54,t2.at 58,nb.at 54,nc.at 54,t3.at 58,tN.at 62,tM.at 66,ma.at 77,mb.at 77,mc.at 77,me.at 77,md.at 84,hl.at 85]) (λ_=>k_) k_ k_
section
open V3 (dot av cE smul)
def IX(n:Nat)(r:RV):Prop:=dL n (fJ r.x)/\dL n (fJ r.y)/\dL n (fJ r.z)
def rM(r:RV):Bool:=kK r.x&&(kK r.y&&kK r.z)
theorem aWq{r:RV}{n:Nat}(h:IX n r)(hn:n<=az):aB prog 59 [r.v] (.bool (rM r)):=by
 have hx:=LX h.1 hn;have hy:=LX h.2.1 hn;have hz:=LX h.2.2 hn;unfold rM;generalize kK r.x=bb at *;rcases bb with _|_
 ·exact bo func59 (λ_=>[hx.at 5])
 generalize kK r.y=bb at *;rcases bb with _|_
 ·exact bo func59 (λ_=>[hx.at 5,hy.at 9])
 exact bo func59 (λ_=>[hx.at 5,hy.at 9,hz.at 14])
theorem Qz(x:K):kK (cO x)=true:=aEj (kF x)
theorem Gt(x:K):fJ (cO x)=bN x:=WM (bN x)
theorem aEq{n:Nat}{v:V3 K}(h:aw n v):IX n (cr v):=by
 refine⟨?_,?_,?_⟩
 ·show dL n (fJ (cO v.x));rw[Gt];exact h.1
 ·show dL n (fJ (cO v.y));rw[Gt];exact h.2.1
 ·show dL n (fJ (cO v.z));rw[Gt];exact h.2.2
theorem aEr(v:V3 K):rM (cr v)=true:=by show(kK (cO v.x)&&(kK (cO v.y)&&kK (cO v.z)))=true;rw[Qz,Qz,Qz];rfl
theorem aXp{v:V3 K}{n:Nat}(h:aw n v)(hn:n<=az):aB prog 59 [aZ v] b_:=by have:=aWq (aEq h) hn;rw[aEr]at this;exact this
def vZ(r:RV):V3 K:=⟨(fJ r.x).val,(fJ r.y).val,(fJ r.z).val⟩
theorem LY{r:RV}(h:rM r=true):r=cr (vZ r):=by unfold rM at h;simp only[cZ]at h;obtain⟨x,y,z⟩:=r;show RV.mk x y z=RV.mk (cO (fJ x).val) (cO (fJ y).val) (cO (fJ z).val);rw[<-Qp h.1,<-Qp h.2.1,<-Qp h.2.2]
theorem aWH{a b c:Int}(ha:a.natAbs<9223372036854775808)(hb:b.natAbs<9223372036854775808)(hc:c.natAbs<9223372036854775808):aB prog 17 [.int .i64 a,.int .i64 b,.int .i64 c] (aZ ⟨kI a,kI b,kI c⟩):=
 bo func17 (λ_=>[(aXr ha).at 8,(aXr hb).at 10,(aXr hc).at 12])
theorem aW0{u v:V3 K}{n:Nat}(hu:aw m u)(hv:aw n v)(cN:m+n<az):aB prog 24 [aZ u,aZ v] (aZ (u+v)):=
 bo func24 (λ_=>[(aXp hu o_).at 6,(aXp hv o_).at 10,(aWI hu.1 hv.1 cN).at 18,(aWI hu.2.1 hv.2.1 cN).at 23,(aWI hu.2.2 hv.2.2 cN).at 28])
theorem aWr{v:V3 K}{n:Nat}(hv:aw n v)(hn:n<=az):aB prog 170 [aZ v] (aZ (-v)):=
 bo func170 (λ_=>[(aXp hv hn).at 4,(aW6 hv.1 hn).at 9,(aW6 hv.2.1 hn).at 12,(aW6 hv.2.2 hn).at 15])
theorem aW1{u v:V3 K}{n:Nat}(hu:aw m u)(hv:aw n v)(cN:m+n<az):aB prog 126 [aZ u,aZ v] (aZ (u-v)):=by have e:u-v=u+-v:=V3.ext (CR.sub_def _ _) (CR.sub_def _ _) (CR.sub_def _ _);rw[e];exact bo func126 (λ_=>[(aWr hv o_).at 7,(aW0 hu hv.neg cN).at 8])
theorem aWO{v:V3 K}{k:K}{n:Nat}(hv:aw m v)(hk:Sz n k)(cN:m+n+8<=az):aB prog 48 [aZ v,bK k] (aZ (smul v k)):=
 bo func48 (λ_=>[(aXp hv o_).at 6,(aXd hk o_).at 10,(aXl hv.1 hk cN).at 17,(aXl hv.2.1 hk cN).at 21,(aXl hv.2.2 hk cN).at 25])
theorem aWQ{u v:V3 K}{n:Nat}(hu:aw m u)(hv:aw n v)(cN:3*(m+n)+16<az):aB prog 20 [aZ u,aZ v] (bK (dot u v)):=
 bo func20 (λ_=>[(aXp hu o_).at 6,(aXp hv o_).at 10,(aXl hu.1 hv.1 o_).at 18,(aXl hu.2.1 hv.2.1 o_).at 23,(aWI (hu.1.mul hv.1) (hu.2.1.mul hv.2.1) o_).at 24,(aXl hu.2.2 hv.2.2 o_).at 29,(aWI ((hu.1.mul hv.1).add (hu.2.1.mul hv.2.1)) (hu.2.2.mul hv.2.2) o_).at 30])
theorem aXi{a b c d:K}{n:Nat}(ha:Sz m a)(hb:Sz m b)(hc:Sz n c)(hd:Sz n d)(cN:2*(m+n)+16<az):aB prog 60 [bK a,bK b,bK c,bK d] (bK (a*d-b*c)):=
 bo func60 (λ_=>[(aXl ha hd o_).at 11,(aXl hb hc o_).at 14,(aWN (ha.mul hd) (hb.mul hc) o_).at 15])
theorem aWv{u v:V3 K}{n:Nat}(hu:aw m u)(hv:aw n v)(cN:2*(m+n)+16<az):aB prog 22 [aZ u,aZ v] (aZ (av u v)):=
 bo func22 (λ_=>[(aXp hu o_).at 6,(aXp hv o_).at 10,(aXi hu.2.1 hu.2.2 hv.2.1 hv.2.2 cN).at 22,(aXi hu.2.2 hu.1 hv.2.2 hv.1 cN).at 31,(aXi hu.1 hu.2.1 hv.1 hv.2.1 cN).at 40])
theorem aXs{v:V3 K}{n:Nat}(hv:aw n v)(hn:n<=az):aB prog 21 [aZ v] (.bool (decide (v=0))):=by have hz:(⟨kI 0,kI 0,kI 0⟩:V3 K)=0:=rfl;exact bo func21 (λ_=>[(aWH (a:=0) (b:=0) (c:=0) d_ d_ d_).at 4,.step 5 (aA Tryz.f21 5) _ _ _ _ (Dm (neg:=true) k_ (cr v) (cr ⟨kI 0,kI 0,kI 0⟩) (hv.sm hn) (Ir.sm d_) (b:=decide (v=0)) (by rw[ax rfl,zW];exact⟨λh=>by rw[h,hz],λh=>PC h⟩))])
theorem aWW{u v w:V3 K}{l n:Nat}(hu:aw l u)(hv:aw m v)(hw:aw n w)(cN:3*(l+(2*(m+n)+9))+16<az):aB prog 47 [aZ u,aZ v,aZ w] (bK (cE u v w)):=
 bo func47 (λ_=>[(aXp hu o_).at 8,(aXp hv o_).at 12,(aXp hw o_).at 17,(aWv hv hw o_).at 24,(aWQ hu (hv.av hw) o_).at 25])
theorem LZ(h:decide (z≠0)=t):Value.bool (z !=0)=.bool t:=by
 rw[<-h];congr 1
 by_cases e:z=0
 ·subst e;rfl
 ·rw[aE e,rh];exact e
theorem aXq{u v:V3 K}{n:Nat}(hu:aw m u)(hv:aw n v)(cN:4*(m+n)+40<=az):aB prog 203 [aZ u,aZ v] (.int .i64 (eB u v)):=by
 rw[<-aCK];have h1:=aXp hu (show m<=az by omega);have h2:=aXp hv (show n<=az by omega);have c1:=aWs hu.1 hv.1 cN;have c2:=aWs hu.2.1 hv.2.1 cN;have c3:=aWs hu.2.2 hv.2.2 cN;generalize OF.aD (u.x-v.x)=a at *;generalize OF.aD (u.y-v.y)=b at *;generalize OF.aD (u.z-v.z)=c at *;unfold PD;by_cases ha:a=0
 ·rw[ao (λh=>h ha)];by_cases hb:b=0
  ·rw[ao (λh=>h hb)];exact bo func203 (λ_=>[h1.at 8,h2.at 12,c1.at 19,.rw 21 _ a_ (LZ (aO (λh=>h ha))),c2.at 27,.rw 29 _ a_ (LZ (aO (λh=>h hb))),c3.at 35])
  ·rw[ax hb];exact bo func203 (λ_=>[h1.at 8,h2.at 12,c1.at 19,.rw 21 _ a_ (LZ (aO (λh=>h ha))),c2.at 27,.rw 29 _ b_ (LZ (aE hb))])
 ·rw[ax ha];exact bo func203 (λ_=>[h1.at 8,h2.at 12,c1.at 19,.rw 21 _ b_ (LZ (aE ha))])
def oF(r:RV)(k:Nat):Bool:=tg r.x k&&(tg r.y k&&tg r.z k)
theorem QB(r:RV)(k:Nat):aB prog 25 [r.v,vI k] (.bool (oF r k)):=by
 have hx:=Qs r.x k;have hy:=Qs r.y k;have hz:=Qs r.z k;unfold oF;generalize tg r.x k=bb at *;rcases bb with _|_
 ·exact bo func25 (λ_=>[hx.at 8])
 generalize tg r.y k=bb at *;rcases bb with _|_
 ·exact bo func25 (λ_=>[hx.at 8,hy.at 13])
 exact bo func25 (λ_=>[hx.at 8,hy.at 13,hz.at 19])
def wV(r:RV):Nat:=wN r.x+wN r.y+wN r.z
theorem aQd{r:RV}(h:wV r<9223372036854775808):aB prog 81 [r.v] (vI (wV r)):=by unfold wV at *;exact bo func81 (λ_=>[(Qt (r:=r.x) o_).at 5,(Qt (r:=r.y) o_).at 8,.sum 9 (wN r.x) (wN r.y) (wN r.x+wN r.y) rfl o_,(Qt (r:=r.z) o_).at 12,.sum 13 (wN r.x+wN r.y) (wN r.z) (wN r.x+wN r.y+wN r.z) rfl o_])
theorem QC{n:Nat}(h:tg r k=true)(hn:8*k<=n):dL n (fJ r):=by
 unfold tg tf at h;simp only[cZ,r6]at h;have key:∀ q:RI,q.aW.length<=k->(dV q).natAbs<2^n:=λq hq=>by
  unfold dV;rw[qA];have h1:=A6 q.aW;have h2:(256:Nat)^q.aW.length<=256^k:=df d_ hq;have h3:(256:Nat)^k=2^(8*k):=by rw[sD]
  have h4:2^(8*k)<=2^n:=df d_ hn;omega
 exact⟨key _ h.1,key _ h.2.1,key _ h.2.2.1,key _ h.2.2.2.1,key _ h.2.2.2.2⟩
theorem WU{r:RV}{n:Nat}(h:oF r k=true)(hn:8*k<=n):IX n r:=by unfold oF at h;simp only[cZ]at h;exact⟨QC h.1 hn,QC h.2.1 hn,QC h.2.2 hn⟩
def vt(n:Nat)(r:RP):Prop:=IX n r.n/\dL n (fJ r.d)
def mF(r:RP):Bool:=rM r.n&&(decide (vZ r.n≠0)&&kK r.d)
def pZ(r:RP):HS K:=⟨vZ r.n,(fJ r.d).val⟩
theorem aQe(h:kK r=true):bN (fJ r).val=fJ r:=by unfold kK at h;simp only[cZ,r6]at h;obtain⟨h1,h2,h3,h4,h5,h6,h7⟩:=h;exact FF ⟨h6,h7⟩
theorem QD{n:Nat}(h:kK r=true)(hs:dL n (fJ r)):Sz n (fJ r).val:=by unfold Sz;rw[aQe h];exact hs
theorem L0{r:RV}{n:Nat}(h:rM r=true)(hs:IX n r):aw n (vZ r):=by unfold rM at h;simp only[cZ]at h;exact⟨QD h.1 hs.1,QD h.2.1 hs.2.1,QD h.2.2 hs.2.2⟩
theorem WV{r:RP}{n:Nat}(h:vt n r)(hn:n<=az):aB prog 171 [r.v] (.bool (mF r)):=by
 have hv:=aWq h.1 hn;have hd:=LX h.2 hn;unfold mF;rcases hb:rM r.n with _|_
 ·rw[hb]at hv;exact bo func171 (λ_=>[hv.at 5])
 ·rw[hb]at hv;have hz:=aXs (L0 hb h.1) hn;unfold aZ at hz;rw[<-LY hb]at hz;by_cases h0:vZ r.n=0
  ·rw[aE h0]at hz;rw[aO (λe=>e h0)];exact bo func171 (λ_=>[hv.at 5,hz.at 9])
  ·rw[aO h0]at hz;rw[aE h0];exact bo func171 (λ_=>[hv.at 5,hz.at 9,hd.at 15])
theorem aQf(v:V3 K):vZ (cr v)=v:=by show V3.mk (fJ (cO v.x)).val (fJ (cO v.y)).val (fJ (cO v.z)).val=v;rw[Gt,Gt,Gt,o7,o7,o7]
theorem aEs(p:HS K):mF (db p)=decide (p.n≠0):=by show(rM (cr p.n)&&(decide (vZ (cr p.n)≠0)&&kK (cO p.d)))=_;rw[aEr,aQf,Qz,jy,gp]
theorem aEt{n:Nat}(h:bM n p):vt n (db p):=⟨aEq h.1,by show dL n (fJ (cO p.d));rw[Gt];exact h.2⟩
theorem aW3{n:Nat}(hp:bM n p)(hn:n<=az):aB prog 171 [dH p] (.bool (decide (p.n≠0))):=by have:=WV (aEt hp) hn;rw[aEs]at this;exact this
theorem aEu{r:RP}(h:mF r=true):r=db (pZ r)/\(pZ r).n≠0:=by unfold mF at h;simp only[cZ,r6]at h;obtain⟨n,d⟩:=r;refine⟨?_,h.2.1⟩;show RP.mk n d=RP.mk (cr (vZ n)) (cO (fJ d).val);rw[<-LY h.1,<-Qp h.2.2]
theorem aQg{r:RP}{n:Nat}(h:mF r=true)(hs:vt n r):bM n (pZ r):=by unfold mF at h;simp only[cZ]at h;exact⟨L0 h.1 hs.1,QD h.2.2 hs.2⟩
def Ch(r:RP)(k:Nat):Bool:=oF r.n k&&tg r.d k
theorem aEv(r:RP)(k:Nat):aB prog 80 [r.v,vI k] (.bool (Ch r k)):=by
 have hx:=QB r.n k;have hd:=Qs r.d k;unfold Ch;generalize oF r.n k=bb at *;rcases bb with _|_
 ·exact bo func80 (λ_=>[hx.at 8])
 exact bo func80 (λ_=>[hx.at 8,hd.at 13])
theorem aQh{r:RP}{n:Nat}(h:Ch r k=true)(hn:8*k<=n):vt n r:=by unfold Ch at h;simp only[cZ]at h;exact⟨WU h.1 hn,QC h.2 hn⟩
theorem aWz{v:V3 K}{n:Nat}(hp:bM m p)(hv:aw n v)(cN:4*(3*(m+n)+14+m)+50<=az)(h:p.n≠0):aB prog 174 [dH p,aZ v] (.int .i64 (OF.aD (dot p.n v-p.d))):=by have h1:=aW3 hp o_;rw[aE h]at h1;exact bo func174 (λ_=>[h1.at 6,(aXp hv o_).at 10,(aWQ hp.1 hv o_).at 16,(aWs (hp.1.dot hv) hp.2 o_).at 19])
def IY(p q r:HS K):V3 K:=smul (av q.n r.n) p.d+smul (av r.n p.n) q.d+smul (av p.n q.n) r.d
def lf(p q r:HS K):V3 K:=smul (IY p q r) (kI 1*(cE p.n q.n r.n)⁻¹)
theorem Sz.cE{n:Nat}{u v w:V3 K}(hu:aw n u)(hv:aw n v)(hw:aw n w):Sz (15*n+41) (V3.cE u v w):=(hu.dot (hv.av hw)).mono o_
theorem aw.IY{n:Nat}{q r:HS K}(hp:bM n p)(hq:bM n q)(hr:bM n r):aw (15*n+41) (Go.Proofs.YthjhinbiabcfiaaGreatDoor.IY p q r):=
 (((hq.1.av hr.1).smul hp.2).add ((hr.1.av hp.1).smul hq.2)).add ((hp.1.av hq.1).smul hr.2) |>.mono o_
theorem aw.lf{n:Nat}{q r:HS K}(hp:bM n p)(hq:bM n q)(hr:bM n r)(h:V3.cE p.n q.n r.n≠0):aw (120*n+365) (Go.Proofs.YthjhinbiabcfiaaGreatDoor.lf p q r):=
 (aw.IY hp hq hr).smul (Sz.div (m:=1) h (o9 d_ d_) (Sz.cE hp.1 hq.1 hr.1)) |>.mono o_
theorem aQi(n:Nat):1+7*(15*n+41)+28<=105*n+316:=by omega
theorem aQj(n:Nat):15*n+41+(105*n+316)+8<=200*n+1000:=by omega
theorem aQk{n:Nat}(h:200*n+1000<=az):15*n+41+(105*n+316)+8<=az:=di (aQj n) h
theorem aQl{q r:HS K}{n:Nat}(hp:bM n p)(hq:bM n q)(hr:bM n r)(hn:200*n+1000<=az)(pn:p.n≠0)(qn:q.n≠0)(rn:r.n≠0):
  aB prog 173 [dH p,dH q,dH r] (if cE p.n q.n r.n=0 then .tuple #[zV.v,.int .i64 11]else .tuple #[aZ (lf p q r),.int .i64 0]):=by
 have h1:=aW3 hp o_;have h2:=aW3 hq o_;have h3:=aW3 hr o_;rw[aE pn]at h1;rw[aE qn]at h2;rw[aE rn]at h3;have dt:=aWW hp.1 hq.1 hr.1 o_;have sd:=Sz.cE hp.1 hq.1 hr.1;have sg:=aWE sd o_;have rz:=aQi n;have nK:=aQk hn;by_cases h:cE p.n q.n r.n=0
 ·rw[ax h];have WW:Value.bool (OF.aD (cE p.n q.n r.n)==0)=.bool true:=yf ((OF.fp _).2 h);exact eF mixed func173 200 (λ_=>[h1.at 13,h2.at 17,h3.at 22,dt.at 32,sg.at 34,.rw 35 _ b_ WW]) (λ_=>k_) k_ k_
 ·rw[ao h];have WW:Value.bool (OF.aD (cE p.n q.n r.n)==0)=.bool false:=pS (λe=>h ((OF.fp _).1 e));have c1:=aWv hq.1 hr.1 o_;have c2:=aWv hr.1 hp.1 o_;have c3:=aWv hp.1 hq.1 o_;have s1:=aWO (hq.1.av hr.1) hp.2 o_;have s2:=aWO (hr.1.av hp.1) hq.2 o_;have s3:=aWO (hp.1.av hq.1) hr.2 o_;have a1:=aW0 ((hq.1.av hr.1).smul hp.2) ((hr.1.av hp.1).smul hq.2) o_;have zA:aw (10*n+27) (smul (av q.n r.n) p.d+smul (av r.n p.n) q.d):=aw.mono o_ (((hq.1.av hr.1).smul hp.2).add ((hr.1.av hp.1).smul hq.2));have zB:aw (5*n+13) (smul (av p.n q.n) r.d):=aw.mono o_ ((hp.1.av hq.1).smul hr.2);have a2:=aW0 zA zB o_;have o1:=aXr (z:=1) d_;have so:Sz 1 (kI 1):=o9 d_ d_;have dv:=aWy h so sd o_;have sq:Sz (105*n+316) (kI 1*(cE p.n q.n r.n)⁻¹):=Sz.mono rz (Sz.div h so sd);have fs:=aWO (aw.IY hp hq hr) sq nK;exact eF mixed func173 200 (λ_=>[h1.at 13,h2.at 17,h3.at 22,dt.at 32,sg.at 34,.rw 35 _ a_ WW,c1.at 41,s1.at 44,c2.at 50,s2.at 53,a1.at 54,c3.at 60,s3.at 63,a2.at 64,o1.at 66,dv.at 68,fs.at 73]) (λ_=>k_) k_ k_
theorem aXg{n:Nat}(hp:bM n p)(hn:16*n+100<=az)(bj:p.n≠0):aB prog 204 [dH p] (.tuple #[dH (canon p),.int .i64 0]):=by
 have hv:=aW3 hp o_;rw[aE bj]at hv;have sx:=aWE hp.1.1 o_;have sy:=aWE hp.1.2.1 o_;have o1:=aXr (z:=1) d_;have so:Sz 1 (kI 1):=o9 d_ d_;have fin:∀ x:K,x≠0->Sz n x->aB prog 226 [bK x] (bK (iS x))/\aB prog 50 [bK (kI 1),bK (iS x)] (.tuple #[bK (mz x),.int .i64 0])/\
   aB prog 48 [aZ p.n,bK (mz x)] (aZ (smul p.n (mz x)))/\aB prog 53 [bK p.d,bK (mz x)] (bK (p.d*mz x)):=λx hx hs=>
  ⟨aWP hs o_,aWy (PF hx) so hs.iS o_,aWO hp.1 (hs.mz hx) o_,aXl hp.2 (hs.mz hx) o_⟩
 have hc:canon p=DD p (qH p.n):=rfl;unfold qH at hc;by_cases hx:p.n.x=0
 ·have ex:Value.bool (OF.aD p.n.x==0)=.bool true:=yf ((OF.fp _).2 hx);rw[ao (λe=>e hx)]at hc;by_cases hy:p.n.y=0
  ·have ey:Value.bool (OF.aD p.n.y==0)=.bool true:=yf ((OF.fp _).2 hy);rw[ao (λe=>e hy)]at hc;have hz:p.n.z≠0:=λhz=>bj (V3.ext hx hy hz);obtain⟨f1,f2,f3,f4⟩:=fin p.n.z hz hp.1.2.2;rw[hc];exact eF mixed func204 200 (λ_=>[hv.at 8,sx.at 15,.rw 16 _ b_ ex,sy.at 21,.rw 22 _ b_ ey,o1.at 27,f1.at 29,f2.at 30,f3.at 36,f4.at 40]) (λ_=>k_) k_ k_
  ·have ey:Value.bool (OF.aD p.n.y==0)=.bool false:=pS (λe=>hy ((OF.fp _).1 e));rw[ax hy]at hc;obtain⟨f1,f2,f3,f4⟩:=fin p.n.y hy hp.1.2.1;rw[hc];exact eF mixed func204 200 (λ_=>[hv.at 8,sx.at 15,.rw 16 _ b_ ex,sy.at 21,.rw 22 _ a_ ey,o1.at 27,f1.at 29,f2.at 30,f3.at 36,f4.at 40]) (λ_=>k_) k_ k_
 ·have ex:Value.bool (OF.aD p.n.x==0)=.bool false:=pS (λe=>hx ((OF.fp _).1 e));rw[ax hx]at hc;obtain⟨f1,f2,f3,f4⟩:=fin p.n.x hx hp.1.1;rw[hc];exact eF mixed func204 200 (λ_=>[hv.at 8,sx.at 15,.rw 16 _ a_ ex,sx.at 21,.rw 22 _ a_ ex,o1.at 27,f1.at 29,f2.at 30,f3.at 36,f4.at 40]) (λ_=>k_) k_ k_
theorem aWU{q:HS K}{n:Nat}(hp:bM m p)(hq:bM n q)(hm:16*m+100<=az)(hn:16*n+100<=az)(jL:p.n≠0)(zX:q.n≠0):aB prog 176 [dH p,dH q] (.bool (decide (canon p=canon q))):=
 bo func176 (λ_=>[(aXg hp hm jL).at 11,(aXg hq hn zX).at 16,.step 28 (aA f176 28) _ _ _ _ (Uv (neg:=true) k_ (db (canon p)) (db (canon q)) ((hp.canon jL).sm o_) ((hq.canon zX).sm o_) (b:=decide (canon p=canon q)) (by rw[ax rfl,zW];exact⟨λh=>by rw[h],λh=>PE h⟩))])
theorem aEw{g o a b:V3 K}{n:Nat}(hg:aw n g)(ho:aw n o)(ha:aw n a)(hb:aw n b)(hn:200*n+400<=az):aB prog 206 [aZ g,aZ o,aZ a,aZ b] (.int .i64 (OF.aD (cE g (a-o) (b-o)))):=
 bo func206 (λ_=>[(aW1 ha ho o_).at 12,(aW1 hb ho o_).at 15,(aWW hg (ha.sub ho) (hb.sub ho) o_).at 16,(aWE (hg.dot ((ha.sub ho).av (hb.sub ho))) o_).at 17])
end
section
variable{Bs:aa}{a b:List RV}
def D7(n i:Nat):aN:=[(5,vI i),(0,sl 0 n),(1,sl 1 n)]
def wx(a b:List RV):aH:=[(0,.view (cV a)),(1,.view (cV b))]
noncomputable def svS{n:Nat}{x y:RV}(hi:i<n)(hx:a[i]?=some x)(hy:b[i]?=some y)(nO:x.Sm)(xR:y.Sm)(ht:(!t)=true↔x=y)(more:bL prog Bs 26):bL prog Bs 26:=
 .lt 14 i n true (aE hi)::.cM f149 19 0 n i 30 hi k_::.ld f149 20 38 0 (i*30) (.view (cV a)) x.v rfl (sV hx) k_::.cM f149 23 1 n i 30 hi k_::.ld f149 24 38 1 (i*30) (.view (cV b)) y.v rfl (sV hy) k_::
  .step 25 (aA f149 25) [x.v,y.v] [] (.bool t) [] (Dm (neg:=false) k_ x y nO xR ht)::more
theorem aEx{n:Nat}{x:RV}(hi:i<n)(hx:a[i]?=some x)(hy:b[i]?=some x)(nO:x.Sm)(h63:n<9223372036854775807):
  af prog Bs 26 (aF (ag f149 0)) (D7 n i) (wx a b) 2 ⟨.normal,D7 n (i+1),wx a b,2⟩:=
 aC (svS (t:=false) hi hx hy nO nO s_ [.sum 16 i 1 (i+1) rfl o_])
theorem aQm{n:Nat}{x y:RV}(hi:i<n)(hx:a[i]?=some x)(hy:b[i]?=some y)(nO:x.Sm)(xR:y.Sm)(bj:x≠y):
  af prog Bs 26 (aF (ag f149 0)) (D7 n i) (wx a b) 2 ⟨.ret,[(4,.bool false)],wx a b,2⟩:=
 aC (svS (t:=true) hi hx hy nO xR (by simp[bj]) [])
theorem aQn{n:Nat}:af prog Bs 26 (aF (ag f149 0)) (D7 n n) (wx a b) 2 ⟨.exit 0,[],wx a b,2⟩:=
 aC [.lt 14 n n false s_]
theorem aQo(ha:∀ x∈a,x.Sm)(hb:∀ x∈b,x.Sm)(h63:a.length<9223372036854775807):bw prog 149 [.r a.length (cV a),.r b.length (cV b)] (.bool (decide (a=b))):=by
 have au:([aL.r a.length (cV a),.r b.length (cV b)].all aL.ok)=true:=by simp only[dT,eC,aL.ok,gK fD,gp]
 by_cases hl:a.length=b.length
 ·rcases DK a b hl with h|⟨e,x,y,h1,h2,h3,h4⟩
  ·rw[aE h];subst h;have lo:∀ B:aa,af prog B 26 (.block 0 (ag f149 0)) (D7 a.length 0) (wx a a) 2 ⟨.normal,[],wx a a,2⟩:=λB=>
    bO (id:=0) (ch a.length (λi=>D7 a.length i) (λ_=>wx a a) (λi k _=>Iff.rfl) (λi hi=>by have hx:a[i]?=some a[i]:=aT hi;exact aEx hi hx hx (ha _ (cY hi)) h63) aQn n_)
   exact cC func149 au 26 (λw=>[.rw 10 _ a_ (uj (x:=a.length) (y:=a.length) s_),.code 0 _ _ _ _ _ (lo _)])
  ·have bZ:a≠b:=λh=>by subst h;rw[h1]at h2;injection h2 with h2;exact h3 h2
   rw[aO bZ];have ak:=(eA.1 h1).1;have lo:∀ B:aa,af prog B 26 (.block 0 (ag f149 0)) (D7 a.length 0) (wx a b) 2 ⟨.ret,[(4,.bool false)],wx a b,2⟩:=λB=>
    bO (id:=0) (ch e (λi=>D7 a.length i) (λ_=>wx a b) (λi k _=>Iff.rfl) (λi hi=>by have hx:a[i]?=some a[i]:=aT o_;have hy:b[i]?=some b[i]:=aT o_;have:=h4 i _ _ hi hx hy;rw[<-this]at hy;exact aEx o_ hx hy (ha _ (cY _)) h63) (aQm ak h1 h2 (ha _ (cH h1)) (hb _ (cH h2)) h3) n_)
   have BL:([aL.r a.length (cV a),.r a.length (cV b)].all aL.ok)=true:=by simp only[dT,eC,aL.ok,gK fD,gp]
   rw[<-hl];exact cC func149 BL 26 (λw=>[.rw 10 _ a_ (uj (x:=a.length) (y:=a.length) s_),.code 0 _ _ _ _ _ (lo _)])
 ·have bZ:a≠b:=λh=>hl (by rw[h]);rw[aO bZ];exact cC func149 au 26 (λw=>[.rw 10 _ b_ (uj (x:=a.length) (y:=b.length) (aE hl))])
end
section
variable{Bs:aa}{a b:List Int}
def D8(n i:Nat):aN:=[(5,vI i),(0,sl 0 n),(1,sl 1 n)]
def wy(a b:List Int):aH:=[(0,.view (fE a)),(1,.view (fE b))]
theorem neZ{x y:Int}(h:decide (x≠y)=t):Value.bool (x !=y)=.bool t:=by
 rw[<-h];congr 1
 by_cases e:x=y
 ·subst e;simp
 ·rw[aE e,rh];exact e
noncomputable def siS{n:Nat}{x y:Int}(hi:i<n)(hx:a[i]?=some x)(hy:b[i]?=some y)(ht:decide (x≠y)=t)(more:bL prog Bs 26):bL prog Bs 26:=
 .lt 14 i n true (aE hi)::.ix f150 19 0 n i hi k_::.ld f150 20 3 0 i (.view (fE a)) (iV x) rfl (P5 hx) k_::.ix f150 23 1 n i hi k_::.ld f150 24 3 1 i (.view (fE b)) (iV y) rfl (P5 hy) k_::.rw 25 _ (.bool t) (neZ ht)::more
theorem aEy{n:Nat}{x:Int}(hi:i<n)(hx:a[i]?=some x)(hy:b[i]?=some x)(h63:n<9223372036854775807):
  af prog Bs 26 (aF (ag f150 0)) (D8 n i) (wy a b) 2 ⟨.normal,D8 n (i+1),wy a b,2⟩:=
 aC (siS (t:=false) hi hx hy s_ [.sum 16 i 1 (i+1) rfl o_])
theorem aQp{n:Nat}{x y:Int}(hi:i<n)(hx:a[i]?=some x)(hy:b[i]?=some y)(bj:x≠y):
  af prog Bs 26 (aF (ag f150 0)) (D8 n i) (wy a b) 2 ⟨.ret,[(4,.bool false)],wy a b,2⟩:=
 aC (siS (t:=true) hi hx hy (aE bj) [])
theorem aQq{n:Nat}:af prog Bs 26 (aF (ag f150 0)) (D8 n n) (wy a b) 2 ⟨.exit 0,[],wy a b,2⟩:=
 aC [.lt 14 n n false s_]
theorem aEz(l:List Int):(fE l).all flat=true:=bd.2 λu hu=>by obtain⟨x,_,rfl⟩:=dj.1 hu;rfl
theorem aQr(h63:a.length<9223372036854775807):bw prog 150 [.r a.length (fE a),.r b.length (fE b)] (.bool (decide (a=b))):=by
 have au:([aL.r a.length (fE a),.r b.length (fE b)].all aL.ok)=true:=by simp only[dT,eC,aL.ok,aEz,gp]
 by_cases hl:a.length=b.length
 ·rcases DK a b hl with h|⟨e,x,y,h1,h2,h3,h4⟩
  ·rw[aE h];subst h;have lo:∀ B:aa,af prog B 26 (.block 0 (ag f150 0)) (D8 a.length 0) (wy a a) 2 ⟨.normal,[],wy a a,2⟩:=λB=>
    bO (id:=0) (ch a.length (λi=>D8 a.length i) (λ_=>wy a a) (λi k _=>Iff.rfl) (λi hi=>by have hx:a[i]?=some a[i]:=aT hi;exact aEy hi hx hx h63) aQq n_)
   exact cC func150 au 26 (λw=>[.rw 10 _ a_ (uj (x:=a.length) (y:=a.length) s_),.code 0 _ _ _ _ _ (lo _)])
  ·have bZ:a≠b:=λh=>by subst h;rw[h1]at h2;injection h2 with h2;exact h3 h2
   rw[aO bZ];have ak:=(eA.1 h1).1;have lo:∀ B:aa,af prog B 26 (.block 0 (ag f150 0)) (D8 a.length 0) (wy a b) 2 ⟨.ret,[(4,.bool false)],wy a b,2⟩:=λB=>
    bO (id:=0) (ch e (λi=>D8 a.length i) (λ_=>wy a b) (λi k _=>Iff.rfl) (λi hi=>by have hx:a[i]?=some a[i]:=aT o_;have hy:b[i]?=some b[i]:=aT o_;have:=h4 i _ _ hi hx hy;rw[<-this]at hy;exact aEy o_ hx hy h63) (aQp ak h1 h2 h3) n_)
   have BL:([aL.r a.length (fE a),.r a.length (fE b)].all aL.ok)=true:=by simp only[dT,eC,aL.ok,aEz,gp]
   rw[<-hl];exact cC func150 BL 26 (λw=>[.rw 10 _ a_ (uj (x:=a.length) (y:=a.length) s_),.code 0 _ _ _ _ _ (lo _)])
 ·have bZ:a≠b:=λh=>hl (by rw[h]);rw[aO bZ];exact cC func150 au 26 (λw=>[.rw 10 _ b_ (uj (x:=a.length) (y:=b.length) (aE hl))])
end
section
variable{α:Type}[DecidableEq α]
def dd:List α->List α
 |a::b::l=>if a=b then dd (b::l)else a::dd (b::l)
 |l=>l
theorem L3(a b:α)(l:List α):dd (a::b::l)=if a=b then dd (b::l)else a::dd (b::l):=rfl
theorem aEA:∀(l:List α) (a b:α),dd (l++[a,b])=if a=b then dd (l++[a])else dd (l++[a])++[b]
 |[],a,b=>by
  show(if a=b then[b]else[a,b])=if a=b then[a]else[a]++[b]
  split
  ·rename_i h;rw[h]
  ·rfl
 |[c],a,b=>by
  show(if c=a then(if a=b then[b]else[a,b])else c::(if a=b then[b]else[a,b]))=if a=b then(if c=a then[a]else[c,a])else(if c=a then[a]else[c,a])++[b]
  by_cases h:a=b<;>by_cases k:c=a<;>simp[h,k]
 |c::d::l,a,b=>by
  show(if c=d then dd (d::(l++[a,b]))else c::dd (d::(l++[a,b])))=if a=b then(if c=d then dd (d::(l++[a]))else c::dd (d::(l++[a])))else(if c=d then dd (d::(l++[a]))else c::dd (d::(l++[a])))++[b]
  have ih:=aEA (d::l) a b;rw[C3,C3]at ih;rw[ih];by_cases h:a=b<;>by_cases k:c=d<;>simp[h,k]
theorem QE{l:List α}{x y:α}(hj:l[j]?=some y)(hx:l[j+1]?=some x):dd (l.take (j+2))=if y=x then dd (l.take (j+1))else dd (l.take (j+1))++[x]:=by
 have e1:l.take (j+1)=l.take j++[y]:=by rw[sY,hj];rfl
 have e2:l.take (j+2)=l.take j++[y,x]:=by rw[sY,hx,e1,EU];rfl
 rw[e1,e2,aEA]
theorem aEB{x:α}:∀{l:List α},x∈dd l↔x∈l
 |[]=>Iff.rfl
 |[a]=>Iff.rfl
 |a::b::l=>by
  rw[L3];have ih:=aEB (x:=x) (l:=b::l);split
  ·rename_i h;subst h;rw[ih];simp
  ·rw[ct,ih];simp
def kh(l:List α)(j:Nat):List α:=dd (l.take j)++l.drop (dd (l.take j)).length
def jq(l:List α)(j:Nat):Nat:=(dd (l.take j)).length
theorem QF(l:List α):∀ j,jq l j<=j/\jq l j<=l.length
 |0=>by simp[jq,dd]
 |1=>by
  cases l with
  |nil=>simp[jq,dd]
  |cons a l=>simp[jq,dd]
 |j+2=>by
  have ih:=QF l (j+1);rcases fm (j+1) l.length with h|h
  ·have hy:l[j]?=some l[j]:=aT o_;have hx:l[j+1]?=some l[j+1]:=aT h;have:=QE hy hx;unfold jq at ih ⊢;rw[this];split
   ·omega
   ·rw[kP,PJ];omega
  ·have:l.take (j+2)=l.take (j+1):=by rw[j8 h,j8 o_]
   unfold jq at ih ⊢;rw[this];omega
theorem aEC(l:List α)(j:Nat):(kh l j).length=l.length:=by have:=(QF l j).2;unfold jq at this;unfold kh;rw[kP,vE];omega
theorem aED{l:List α}(h:jq l j<=i):(kh l j)[i]?=l[i]?:=by
 unfold jq at h;unfold kh;rw[EL h,EC]
 congr 1;omega
theorem QG{l:List α}{x:α}(hj:l[j]?=some x)(hx:l[j+1]?=some x):kh l (j+2)=kh l (j+1)/\jq l (j+2)=jq l (j+1):=by unfold kh jq;rw[QE hj hx,ax rfl];exact⟨rfl,rfl⟩
theorem aEE{l:List α}{x y:α}(hj:l[j]?=some y)(hx:l[j+1]?=some x)(bj:y≠x)(hd:jq l (j+1)<l.length):(kh l (j+1)).set (jq l (j+1)) x=kh l (j+2)/\jq l (j+2)=jq l (j+1)+1:=by
 unfold kh jq at *;rw[QE hj hx,ao bj];refine⟨?_,by rw[kP];rfl⟩;rw[VH _ _ (bA _),vL,kP,PJ,EU]
 congr 1
 rw[aCO hd];rfl
theorem WX{l:List α}:∀(j:Nat),(∀ i x,i+1<j->l[i]?=some x->l[i+1]?≠some x)->j<=l.length->dd (l.take j)=l.take j
 |0,_,_=>rfl
 |1,_,_=>by
  cases l with
  |nil=>rfl
  |cons a l=>rfl
 |j+2,h,hl=>by
  have ih:=WX (j+1) (λi x hi=>h i x o_) o_;have hy:l[j]?=some l[j]:=aT o_;have hx:l[j+1]?=some l[j+1]:=aT o_;rw[QE hy hx,ao (λe=>h j _ o_ hy (by rw[hx,e])),ih];have e:l.take (j+2)=l.take (j+1)++[l[j+1]]:=by rw[sY,hx];rfl
  exact e.symm
theorem aEF(l:List α):∀ n,n<=l.length->(∀ i x,i+1<n->l[i]?=some x->l[i+1]?≠some x)\/∃ e x,e+1<n/\l[e]?=some x/\l[e+1]?=some x/\∀ i x,i+1<e+1->l[i]?=some x->l[i+1]?≠some x
 |0,_=>.inl λi x h=>by omega
 |1,_=>.inl λi x h=>by omega
 |n+2,hn=>by
  rcases aEF l (n+1) o_ with h|⟨e,x,h1,h2,h3,h4⟩
  ·have hy:l[n]?=some l[n]:=aT o_;have hx:l[n+1]?=some l[n+1]:=aT o_;by_cases he:l[n]=l[n+1]
   ·exact .inr ⟨n,l[n],by omega,hy,by rw[hx,he],h⟩
   ·refine .inl λi x hi AR=>?_;rcases fm (i+1) (n+1)with h1|h1
    ·exact h i x h1 AR
    ·have:i=n:=by omega
     subst this;rw[hy]at AR;injection AR with AR;rw[hx,<-AR];intro e;injection e with e;exact he e.symm
  ·exact .inr ⟨e,x,by omega,h2,h3,h4⟩
theorem aEG{β:Type}[DecidableEq β]{f:α->β}(hf:∀ a b,f a=f b->a=b):∀ l:List α,dd (l.map f)=(dd l).map f
 |[]=>rfl
 |[a]=>rfl
 |a::b::l=>by
  have ih:=aEG hf (b::l);rw[sk,sk,L3,L3];rw[sk]at ih;by_cases h:a=b
  ·subst h;rw[ax rfl,ax rfl,ih]
  ·rw[ao h,ao (λe=>h (hf _ _ e)),ih];rfl
end
section
variable{Bs:aa}{l:List RV}
def L4:RI:=⟨false,[]⟩
def gL:RN:=⟨L4,L4,L4,L4,L4⟩
def lX:RV:=⟨gL,gL,gL⟩
def Gu(n i:Nat):aN:=[(3,vI i),(0,sl 1 n)]
def lF(l:List RV):aH:=[(1,.row (cV l) 38 30)]
def aQs(k a n:Nat):Value:=.slice (some ⟨k,a*30,some 7⟩) n a
def L5(n e d k:Nat):aN:=[(5,vI k),(4,aQs 1 e (n-e)),(3,vI d),(0,sl 1 n)]
theorem stV{l:List RV}{y:RV}(hi:i<l.length):e9 prog 38 (cV l) (i*30) y.v=some (cV (l.set i y)):=aMz fD k_ hi
theorem aEH{n:Nat}{x y:RV}(hi:i+1<n)(h63:n<4611686018427387904)(hy:l[i]?=some y)(hx:l[i+1]?=some x)(xR:y.Sm)(nO:x.Sm)(bj:x≠y):
  af prog Bs 61 (aF (ag f185 0)) (Gu n (i+1)) (lF l) 2 ⟨.normal,Gu n (i+1+1),lF l,2⟩:=
 aC [.lt 13 (i+1) n true (aE hi),.cM f185 18 1 n (i+1) 30 hi k_,.ld f185 19 38 1 ((i+1)*30) (.row (cV l) 38 30) x.v rfl (sV hx) k_,.fh 22 (i+1) 1 i rfl o_,.cM f185 23 1 n i 30 o_ k_,.ld f185 24 38 1 (i*30) (.row (cV l) 38 30) y.v rfl (sV hy) k_,.step 25 (aA f185 25) [x.v,y.v] [] a_ [] (Dm (neg:=true) k_ x y nO xR (by simp[bj])),.sum 15 (i+1) 1 (i+1+1) rfl o_]
theorem aQt{n:Nat}:af prog Bs 61 (aF (ag f185 0)) (Gu n n) (lF l) 2 ⟨.exit 0,[(0,sl 1 n)],lF l,2⟩:=
 aC [.lt 13 n n false s_]
noncomputable def aEI{n:Nat}{r:List RV}{x y:RV}(hk:k+1<n-e)(hj:e+k=j)(h63:n<4611686018427387904)(hy:r[j]?=some y)(hx:r[j+1]?=some x)(xR:y.Sm)(nO:x.Sm)(ht:(!t)=true↔x=y)(more:bL prog Bs 61):bL prog Bs 61:=
 .lt 32 (k+1) (n-e) true (aE hk)::.pQ f185 37 1 e (n-e) e (k+1) (j+1) 30 hk o_ k_::.ld f185 38 38 1 ((j+1)*30) (.row (cV r) 38 30) x.v rfl (sV hx) k_::.fh 41 (k+1) 1 k rfl o_::
  .pQ f185 42 1 e (n-e) e k j 30 o_ hj k_::.ld f185 43 38 1 (j*30) (.row (cV r) 38 30) y.v rfl (sV hy) k_::.step 44 (aA f185 44) [x.v,y.v] [] (.bool t) [] (Dm (neg:=false) k_ x y nO xR ht)::more
theorem aQu{n:Nat}(hl:l.length=n)(hk:e+1+k+1<n)(h63:n<4611686018427387904)(qN:∀ x∈l,x.Sm)(hd:d=jq l (e+1+k+1))(hde:d<=e+1+k):
  af prog Bs 61 (aF (ag f185 2)) (L5 n (e+1) d (k+1)) (lF (kh l (e+1+k+1))) 2 ⟨.normal,L5 n (e+1) (jq l (e+1+k+2)) (k+1+1),lF (kh l (e+1+k+2)),2⟩:=by
 have hy:l[e+1+k]?=some l[e+1+k]:=aT o_;have hx:l[e+1+k+1]?=some l[e+1+k+1]:=aT o_;have OG:(kh l (e+1+k+1))[e+1+k]?=some l[e+1+k]:=by rw[aED o_];exact hy
 have xl:(kh l (e+1+k+1))[e+1+k+1]?=some l[e+1+k+1]:=by rw[aED o_];exact hx
 have sy:=qN _ (cH hy);have sx:=qN _ (cH hx);by_cases h:l[e+1+k]=l[e+1+k+1]
 ·obtain⟨q1,q2⟩:=QG hy (by rw[hx,h]);rw[q1,q2,<-hd];exact aC (aEI (t:=false) o_ rfl h63 OG xl sy sx (by simp[h]) [.sum 34 (k+1) 1 (k+1+1) rfl o_])
 ·have ak:jq l (e+1+k+1)<l.length:=by omega
  obtain⟨q1,q2⟩:=aEE hy hx h ak;rw[<-hd]at q1 q2 ak;have bT:=stV (l:=kh l (e+1+k+1)) (i:=d) (y:=l[e+1+k+1]) (by rw[aEC];exact ak);rw[q1]at bT;rw[q2];generalize l[e+1+k+1]=x at *;generalize l[e+1+k]=y at *;generalize kh l (e+1+k+1)=r at *;generalize kh l (e+1+k+2)=r' at *;exact aC (aEI (t:=true) o_ rfl h63 OG xl sy sx (by simp;exact λe=>h e.symm) [.pQ f185 49 1 (e+1) (n-(e+1)) (e+1) (k+1) (e+1+k+1) 30 o_ o_ k_,.ld f185 50 38 1 ((e+1+k+1)*30) (.row (cV r) 38 30) x.v rfl (sV xl) k_,.cM f185 51 1 n d 30 o_ k_,.st f185 100051 38 1 (d*30) (.row (cV r) 38 30) x.v (.row (cV r') 38 30) rfl bT rfl k_,.sum 53 d 1 (d+1) rfl o_,.sum 34 (k+1) 1 (k+1+1) rfl o_])
theorem aQv{n:Nat}{r:List RV}(he:e<=n):af prog Bs 61 (aF (ag f185 2)) (L5 n e d (n-e)) (lF r) 2 ⟨.exit 2,[(3,vI d),(0,sl 1 n)],lF r,2⟩:=
 aC [.lt 32 (n-e) (n-e) false s_]
theorem aQw{n:Nat}{x:RV}(hl:l.length=n)(he:e+1<n)(h63:n<4611686018427387904)(qN:∀ x∈l,x.Sm)(hy:l[e]?=some x)(hx:l[e+1]?=some x)(fT:dd (l.take (e+1))=l.take (e+1)):
  af prog Bs 61 (.block 2 (ag f185 2)) (L5 n (e+1) (e+1) 1) (lF l) 2 ⟨.normal,[(3,vI (dd l).length),(0,sl 1 n)],lF (kh l n),2⟩/\(dd l).length<n:=by
 have h0:jq l (e+1)=e+1:=by unfold jq;rw[fT,jr];omega
 have h1:jq l (e+2)=e+1:=by rw[(QG hy hx).2,h0]
 have gw:kh l (e+2)=l:=by rw[(QG hy hx).1];unfold kh;rw[fT];rw[jr,nZ o_,LB]
 have tD:∀ k,e+1+k+1<n->jq l (e+1+k+2)<=jq l (e+1+k+1)+1:=λk hk=>by
  have a:l[e+1+k]?=some l[e+1+k]:=aT o_;have b:l[e+1+k+1]?=some l[e+1+k+1]:=aT o_;by_cases h:l[e+1+k]=l[e+1+k+1]
  ·have:=(QG a (by rw[b,h])).2;omega
  ·have:=(aEE a b h (by have:=(QF l (e+1+k+1)).1;omega)).2;omega
 have EP:∀ k,e+1+k<n->jq l (e+1+k+1)<=e+1+k:=by
  intro k;induction k with
  |zero=>intro _;show jq l (e+2)<=_;omega
  |succ k ih=>
   intro hk;have a:=ih o_;have b:=tD k o_;show jq l (e+1+k+2)<=_;omega
 have aY:jq l n=(dd l).length:=by unfold jq;rw[j8 o_]
 refine⟨?_,?_⟩
 ·have:=ch (P:=prog) (B:=Bs) (N:=61) (b:=aF (ag f185 2)) (next:=2) (n-(e+1)-1) (λk=>L5 n (e+1) (jq l (e+1+k+1)) (k+1)) (λk=>lF (kh l (e+1+k+1)))
   (r:=⟨.exit 2,[(3,vI (dd l).length),(0,sl 1 n)],lF (kh l n),2⟩) (λi k _=>j6 (l:=lF (kh l (e+1+i+1))) (m:=lF (kh l (e+1+0+1))) rfl k)
   (λk hk=>aQu hl o_ h63 qN rfl (EP k o_))
   (by
    have e1:e+1+(n-(e+1)-1)+1=n:=by omega
    have e2:n-(e+1)-1+1=n-(e+1):=by omega
    simp only[e1,e2,aY];exact aQv o_) n_
  have h2:=bO (id:=2) this;simp only[ko,jd,h1,gw]at h2;exact h2
 ·have:=EP (n-(e+1)-1) o_;rw[show e+1+(n-(e+1)-1)+1=n by omega,aY]at this;omega
def IZ(l:List RV):List RV:=dd l++List.replicate (l.length-(dd l).length) lX
theorem aEJ{l:List RV}(h:dd l=l):IZ l=l:=by unfold IZ;rw[h];simp
theorem aQx(qN:∀ x∈l,x.Sm)(h63:l.length<4611686018427387904):xO prog 185 2 [sl 1 l.length] (lF l) [] (sl 1 (dd l).length) (lF (IZ l)):=by
 by_cases h2:l.length<2
 ·have hd:dd l=l:=by
   cases l with
   |nil=>rfl
   |cons a l=>cases l with
    |nil=>rfl
    |cons b l=>simp at h2;omega
  rw[aEJ hd,hd];exact oA mixed func185 100 (N:=61) k_ (λ_=>[.lt 8 l.length 2 true (aE h2)]) (λ_=>k_)
 ·have ak:(Value.bool (decide ((l.length:Int)<(2:Int))))=.bool false:=by simp;omega
  rcases aEF l l.length (bA _)with h|⟨e,x,h3,h4,h5,h6⟩
  ·have hd:dd l=l:=by have:=WX l.length h (bA _);rwa[ox]at this
   rw[aEJ hd,hd];generalize hn:l.length=n at *;have lo:∀ B:aa,af prog B 61 (.block 0 (ag f185 0)) (Gu n 1) (lF l) 2 ⟨.normal,[(0,sl 1 n)],lF l,2⟩:=λB=>by
    have:=ch (P:=prog) (B:=B) (N:=61) (b:=aF (ag f185 0)) (next:=2) (n-1) (λi=>Gu n (i+1)) (λ_=>lF l) (r:=⟨.exit 0,[(0,sl 1 n)],lF l,2⟩) (λi k _=>Iff.rfl)
     (λi hi=>by have hy:l[i]?=some l[i]:=aT o_;have hx:l[i+1]?=some l[i+1]:=aT o_;exact aEH o_ h63 hy hx (qN _ (cH hy)) (qN _ (cH hx)) λe=>h i _ o_ hy (by rw[hx,e]))
     (by rw[show n-1+1=n by omega];exact aQt) n_
    exact bO (id:=0) this
   exact oA mixed func185 100 (N:=61) k_ (λB=>[.rw 8 _ _ ak,.code 0 _ _ _ _ _ (lo B)]) (λ_=>k_)
  ·have fT:dd (l.take (e+1))=l.take (e+1):=WX (e+1) h6 o_;have sx:=qN _ (cH h4);generalize hn:l.length=n at *;have hz:dy RV.cs (List.replicate (n-(dd l).length) lX)=(Builtin.zeroCells (lX.v).cells (n-(dd l).length)).toList:=(aNB fD rfl d_ _).symm;unfold IZ;rw[hn];have cv:=λB=>aQw (Bs:=B) hn h3 h63 qN h4 h5 fT;have N8:=(cv (aa.at default)).2;have F2:kh l n=dd l++l.drop (dd l).length:=by unfold kh;rw[j8 o_]
   have aQy:jc (cV (kh l n)) ((dd l).length*30) (Builtin.zeroCells (lX.v).cells (n-(dd l).length)).toList=cV (dd l++List.replicate (n-(dd l).length) lX):=by rw[<-hz,F2];show jc (dy RV.cs (dd l++l.drop (dd l).length)) _ _=dy RV.cs _;rw[Lh,Lh];have:=PI (dy RV.cs (List.replicate (n-(dd l).length) lX)) (dy RV.cs (dd l)) (dy RV.cs (l.drop (dd l).length)) 0;rw[uc fD,jd]at this;rw[this];have h2:=VI (dy RV.cs (List.replicate (n-(dd l).length) lX)) (dy RV.cs (l.drop (dd l).length)) [] (by rw[uc fD,uc fD,vE,II,hn]);rw[jh,jh]at h2;rw[h2]
   have hlen:(dd l).length*30+(n-(dd l).length)*(lX.v).cells.size<=(cV (kh l n)).length:=by rw[uc fD,aEC,hn,show(lX.v).cells.size=30 from rfl,<-fF];exact eh _ o_
   generalize kh l n=r at *;generalize (dd l++List.replicate (n-(dd l).length) lX)=r' at *;generalize (dd l).length=d at *;have lo:∀ B:aa,af prog B 61 (.block 0 (ag f185 0)) (Gu n 1) (lF l) 2 ⟨.ret,[(2,sl 1 d)],lF r',2⟩:=λB=>by
    have:=ch (P:=prog) (B:=B) (N:=61) (b:=aF (ag f185 0)) (next:=2) e (λi=>Gu n (i+1)) (λ_=>lF l) (r:=⟨.ret,[(2,sl 1 d)],lF r',2⟩) (λi k _=>Iff.rfl)
     (λi hi=>by have hy:l[i]?=some l[i]:=aT o_;have hx:l[i+1]?=some l[i+1]:=aT o_;exact aEH o_ h63 hy hx (qN _ (cH hy)) (qN _ (cH hx)) λe=>h6 i _ o_ hy (by rw[hx,e]))
     (aC [.lt 13 (e+1) n true (aE h3),.cM f185 18 1 n (e+1) 30 h3 k_,.ld f185 19 38 1 ((e+1)*30) (.row (cV l) 38 30) x.v rfl (sV h5) k_,.fh 22 (e+1) 1 e rfl o_,.cM f185 23 1 n e 30 o_ k_,.ld f185 24 38 1 (e*30) (.row (cV l) 38 30) x.v rfl (sV h4) k_,.step 25 (aA f185 25) [x.v,x.v] [] b_ [] (Dm (neg:=true) k_ x x sx sx s_),.behind f185 28 1 n (e+1) (n-(e+1)) 30 o_ o_ k_,.code 2 _ _ _ _ _ (cv B).1,.behind f185 56 1 n d (n-d) 30 o_ o_ k_,.clear f185 99999 1 (d*30) (n-d) d 38 30 lX.v (cV r) (cV r') d_ o_ hlen aQy k_,.upto f185 59 1 n d 30 o_ k_]) n_
    exact bO (id:=0) this
   exact oA mixed func185 100 (N:=61) k_ (λB=>[.rw 8 _ _ ak,.code 0 _ _ _ _ _ (lo B)]) (λ_=>k_)
end
section
open Go.Shelf
def aEK:Go.Shelf.Ren:=⟨λ| 6=>183|15=>212|14=>211|28=>235|29=>236|20=>227|21=>228|22=>229|23=>230|24=>231|25=>232|26=>233|27=>234|46=>246|47=>247|48=>248|49=>249|50=>250|57=>255|n=>n,λ| 22=>23|24=>38|25=>170|3=>3|39=>145|0=>0|53=>179|55=>119|4=>4|46=>210|45=>209|50=>122|5=>5|9=>9|66=>227|70=>231|76=>239|77=>240|n=>n,λ| n=>n⟩
theorem aQz:Go.Proofs.SlLaysF0.n6 prog aEK:={
 mixed:=by kernel_rfl
 f6:=⟨f183.name,by decide,func183.trans (cL some k_)⟩
 f14:=⟨f211.name,by decide,func211.trans (cL some k_)⟩
 f15:=func212.trans (cL some k_)
 f20:=⟨f227.name,by decide,func227.trans (cL some k_)⟩
 f21:=⟨f228.name,by decide,func228.trans (cL some k_)⟩
 f22:=⟨f229.name,by decide,func229.trans (cL some k_)⟩
 f23:=⟨f230.name,by decide,func230.trans (cL some k_)⟩
 f24:=⟨f231.name,by decide,func231.trans (cL some k_)⟩
 f25:=⟨f232.name,by decide,func232.trans (cL some k_)⟩
 f26:=⟨f233.name,by decide,func233.trans (cL some k_)⟩
 f27:=⟨f234.name,by decide,func234.trans (cL some k_)⟩
 f28:=func235.trans (cL some k_)
 f29:=func236.trans (cL some k_)
 f46:=⟨f246.name,by decide,func246.trans (cL some k_)⟩
 f47:=func247.trans (cL some k_)
 f48:=func248.trans (cL some k_)
 f49:=⟨f249.name,by decide,func249.trans (cL some k_)⟩
 f50:=⟨f250.name,by decide,func250.trans (cL some k_)⟩
 f57:=⟨f255.name,by decide,func255.trans (cL some k_)⟩
 t0:=Tryz.underlying0
 a0:=isAgg0
 z0:=sizeOf0
 v0:=Tryz.zeroValue0
 t3:=Tryz.underlying3
 a3:=isAgg3
 z3:=sizeOf3
 v3:=Tryz.zeroValue3
 t4:=Tryz.underlying4
 a4:=isAgg4
 z4:=sizeOf4
 v4:=Tryz.zeroValue4
 t5:=Tryz.underlying5
 a5:=isAgg5
 z5:=sizeOf5
 v5:=Tryz.zeroValue5
 t9:=Tryz.underlying9
 a9:=isAgg9
 z9:=sizeOf9
 v9:=Tryz.zeroValue9
 t22:=Tryz.underlying23
 a22:=isAgg23
 z22:=sizeOf23
 v22:=Tryz.zeroValue23
 t25:=Tryz.underlying170
 a25:=isAgg170
 z25:=sizeOf170
 v25:=Tryz.zeroValue170
 t39:=Tryz.underlying145
 a39:=isAgg145
 z39:=sizeOf145
 v39:=Tryz.zeroValue145
 t45:=Tryz.underlying209
 a45:=isAgg209
 z45:=sizeOf209
 v45:=Tryz.zeroValue209
 t46:=Tryz.underlying210
 a46:=isAgg210
 z46:=sizeOf210
 v46:=Tryz.zeroValue210
 t50:=Tryz.underlying122
 a50:=isAgg122
 z50:=sizeOf122
 v50:=Tryz.zeroValue122
 t53:=Tryz.underlying179
 a53:=isAgg179
 z53:=sizeOf179
 v53:=Tryz.zeroValue179
 t55:=Tryz.underlying119
 a55:=isAgg119
 z55:=sizeOf119
 v55:=Tryz.zeroValue119
 t66:=Tryz.underlying227
 a66:=isAgg227
 z66:=sizeOf227
 v66:=Tryz.zeroValue227
 t70:=Tryz.underlying231
 a70:=isAgg231
 z70:=sizeOf231
 v70:=Tryz.zeroValue231
 t76:=Tryz.underlying239
 a76:=isAgg239
 z76:=sizeOf239
 v76:=Tryz.zeroValue239
 t77:=Tryz.underlying240
 a77:=isAgg240
 z77:=sizeOf240
 v77:=Tryz.zeroValue240 }
end
section
open CR OF
section
variable{F:Type}[OF F]
def th(u v:V3 F):Bool:=decide (eB u v≠1)
theorem I0{u v:V3 F}:th u v=true↔jX u v\/u=v:=by unfold th jX;rw[zW,<-La];rcases Iq u v with h|h|h<;>rw[h]<;>decide
theorem aEL(u v w:V3 F)(h:th u v=true)(k:th v w=true):th u w=true:=by
 rw[I0]at *;rcases h with h|rfl
 ·rcases k with k|rfl
  ·exact .inl (Lb h k)
  ·exact .inl h
 ·exact k
theorem aQA(u v:V3 F):(th u v||th v u)=true:=by
 rw[tE,I0,I0];rcases Iq u v with h|h|h
 ·exact .inl (.inl h)
 ·exact .inl (.inr (La.1 h))
 ·exact .inr (.inl (Lc h))
theorem aQB{u v:V3 F}(h:th u v=true)(k:th v u=true):u=v:=by
 rw[I0]at h k;rcases h with h|h
 ·rcases k with k|k
  ·exact absurd (PA h k) id
  ·exact k.symm
 ·exact h
def rN(l:List (V3 F)):List (V3 F):=l.mergeSort th
theorem L6(l:List (V3 F)):(rN l).Perm l:=List.mergeSort_perm l th
theorem aEM(l:List (V3 F)):(rN l).Pairwise λu v=>th u v=true:=List.pairwise_mergeSort aEL aQA l
theorem aQC{l d:List (V3 F)}(hp:d.Perm l)(hs:d.Pairwise λu v=>th u v=true):d=rN l:=
 List.Perm.eq_of_pairwise (λ_ _ _ _=>aQB) hs (aEM l) (hp.trans (L6 l).symm)
theorem aEN{α:Type}[DecidableEq α]:∀(a:α) (l:List α),∃ m,dd (a::l)=a::m
 |a,[]=>⟨[],rfl⟩
 |a,b::l=>by
  rw[L3];by_cases h:a=b
  ·subst h;rw[ax rfl];exact aEN a l
  ·rw[ao h];exact⟨_,rfl⟩
theorem aEO[DecidableEq (V3 F)]:∀{l:List (V3 F)},(l.Pairwise λu v=>th u v=true)->(dd l).Pairwise jX
 |[],_=>aCI
 |[a],_=>aCk ..
 |a::b::l,h=>by
  have h':=(sT.1 h).2;have ih:=aEO h';rw[L3];by_cases bZ:a=b
  ·rw[ax bZ];exact ih
  ·rw[ao bZ];refine sT.2 ⟨λx hx=>?_,ih⟩;have ak:jX a b:=(I0.1 ((sT.1 h).1 b (aP ..))).resolve_right bZ;obtain⟨m,hm⟩:=aEN b l;rw[hm]at hx ih;rcases ct.1 hx with rfl|hx
   ·exact ak
   ·exact Lb ak ((sT.1 ih).1 x hx)
theorem aEP[DecidableEq (V3 F)](l:List (V3 F)):dd (rN l)=Ld l:=
 Vx (aEO (aEM l)) (Vz l) λx=>by rw[aEB,Vy,(L6 l).mem_iff]
end
end
section
open V3 (dot av cE smul)
open Go.Sort (SWO)
theorem aQD{q:HS K}(cd:∀ p∈ps,bM m p)(hp:bM m p)(hq:bM m q)(lR:eD p q≠0->dot (eD p q) (eD p q)≠0):∀ v∈rI ps p q,aw (10000*(m+10)) v:=by
 intro v hv;unfold rI F9 at hv;have hD:=VP hp hq;by_cases h0:eD p q=0
 ·rw[ax h0]at hv;cases hv
 ·rw[ao h0]at hv;obtain⟨r,hr⟩:∃ r,r=300*m+1000:=⟨_,rfl⟩;have hB:aw r (wb p q):=hr▸aCX hp hq h0 (lR h0);have Ga:aw r (eD p q):=hD.mono o_;obtain⟨zl,zh⟩:=PS (m:=m) (q:=r) (z:=24*(m+r)+m+200) hB Ga o_ ps ⟨none,none⟩ cd n_ n_;have key:∀ t,Sz (24*(m+r)+m+200) t->aw (10000*(m+10)) (wb p q+smul (eD p q) t):=λt ht=>(hB.add (Ga.smul ht)).mono o_;unfold Ll at hv;split at hv
  ·rename_i x y he;split at he
   ·split at he
    ·rename_i l h e1 e2;injection he with he;injection he with f1 f2;subst f1;subst f2;simp only[ct,iX,iY]at hv;rcases hv with rfl|rfl
     ·exact key _ (zl _ e1)
     ·exact key _ (zh _ e2)
    ·cases he
   ·cases he
  ·cases hv
theorem aEQ(cd:∀ p∈ps,bM m p)(lR:∀ p q:HS K,eD p q≠0->dot (eD p q) (eD p q)≠0)(n:Nat):∀ v∈nq ps n,aw (10000*(m+10)) v:=by
 intro v hv;unfold nq at hv;rw[zY]at hv;obtain⟨i,_,hv⟩:=hv;unfold Lr at hv;split at hv
 ·rename_i p hp;unfold lD at hv;rw[zY]at hv;obtain⟨q,hq,hv⟩:=hv;exact aQD cd (cd p (cH hp)) (cd q (Iw hq)) (lR p q) v hv
 ·cases hv
structure VS(m:Nat) where
 v:V3 K
 sz:aw m v
theorem VS.ext'{m:Nat}{a b:VS m}(h:a.v=b.v):a=b:=by cases a;cases b;cases h;rfl
def QH(v:VS m):ah:=(cr v.v).cs
theorem WY:rE (QH (m:=m)) 30:=⟨λ_=>fD.len _,λ_=>fD.flat _,λ_=>fD.one _⟩
theorem WZ(h:1<=m):aw m (⟨kI 0,kI 0,kI 0⟩:V3 K):=Ir.mono h
def L7(u v:VS m):Bool:=Go.Proofs.ltOf (λa b:VS m=>eB a.v b.v) u v
theorem W0{u v:VS m}:L7 u v=true↔jX u.v v.v:=by show decide (eB u.v v.v<0)=true↔eB u.v v.v=-1;rw[zW];rcases Iq u.v v.v with h|h|h<;>rw[h]<;>decide
theorem aER{u v:VS m}:L7 u v=false↔th v.v u.v=true:=by
 rw[Ql,ne_eq,W0,I0];rcases Iq u.v v.v with h|h|h
 ·exact⟨λk=>absurd h k,λk _=>by
   rcases k with k|k
   ·exact PA h k
   ·rw[k]at h;exact DC _ h⟩
 ·have:=La.1 h;exact⟨λ_=>.inr this.symm,λ_ k=>by rw[this]at k;exact DC _ k⟩
 ·exact⟨λ_=>.inl (Lc h),λ_ k=>PA k (Lc h)⟩
theorem aQE:SWO (L7 (m:=m)) where
 irrefl x:=by rw[Ql,ne_eq,W0];exact DC _
 trans x y z h k:=by rw[W0]at *;exact Lb h k
 ntrans x y z h k:=by rw[aER]at *;exact aEL _ _ _ k h
theorem aQF(h:fN prog f=true):∀ args w,(callFunc f args).run prog w=.ok (.enter f args) w:=λargs w=>MW h args w
def I1:Value:=.func (.func 184) #[] #[]
theorem aQG(c7:1<=m)(hm:8*m+24<=az)(l:List (VS m))(h63:l.length<4611686018427387904):
  letI:Inhabited (VS m):=⟨⟨_,WZ c7⟩⟩
  aDi prog 183 I1 QH 30 L7 l:=by
 letI:Inhabited (VS m):=⟨⟨_,WZ c7⟩⟩
 intro aI cap w hH hblk
 have:=Go.Proofs.AnyQ.slices_SortFunc (P:=prog) (ρ:=aEK) aQz 30 isAgg38 sizeOf38 (QH (m:=m)) WY.len WY.one (λa b=>eB a.v b.v) aQE 184 #[] aI 0 cap l.toArray w
  (aQF k_) (aNu (λx y=>VB x.sz y.sz o_) aI _ _ w) hH hblk (by simpa using h63)
 have e:l.toArray.size=l.length:=by simp
 rw[e]at this;exact this
theorem aQH:aB prog 227 [.slice none 0 0,vI 0,vI 0,I1] (.tuple #[]):=bo func227 (λ_=>[])
theorem aQI:aB prog 211 [.slice none 0 0,vI 0,vI 0,vI 0,I1] (.tuple #[]):=bo func211 (λ_=>[aQH.at 30])
theorem aQJ:aB prog 236 [.int .u64 0] (vI 0):=bo func236 (λ_=>[])
theorem aQK:aB prog 212 [.int .u64 0] (vI 0):=bo func212 (λ_=>[aQJ.at 7])
theorem aQL:aB prog 183 [.slice none 0 0,I1] (.tuple #[]):=bo func183 (λ_=>[aQK.at 11,aQI.at 13])
theorem aQM{l:e_}(c7:1<=m)(hm:8*m+24<=az)(hl:∀ v∈l,aw m v)(h63:l.length<4611686018427387904){x:m_}(ho:dC o.op=some x)(k:Nat):
  cA prog Bs o [.func (.func 183) #[] #[],sl k l.length,I1] [(k,some (.row (aG l) 38 30))] (.tuple #[]) [(k,.row (aG (rN l)) 38 30)]:=by
 letI:Inhabited (VS m):=⟨⟨_,WZ c7⟩⟩
 have hex:∀ l:e_,(∀ v∈l,aw m v)->∃ l2:List (VS m),l2.map VS.v=l:=by
  intro l;induction l with
  |nil=>exact λ_=>⟨[],rfl⟩
  |cons a l ih=>
   intro h;obtain⟨l2,h2⟩:=ih λv hv=>h v (bH _ hv);exact⟨⟨a,h a (aP ..)⟩::l2,by rw[sk,h2]⟩
 obtain⟨l2,h2⟩:=hex l hl;obtain⟨l3,h3⟩:=hex (rN l) λv hv=>hl v ((L6 l).mem_iff.1 hv);have Vo:∀ a b:VS m,a.v=b.v->a=b:=λa b h=>VS.ext' h;have jE:∀ l2:List (VS m),dy QH l2=aG (l2.map VS.v):=by intro l2;unfold aG cV dy;rw[List.map_map,List.flatMap_map];rfl
 have hlen:l2.length=l.length:=by rw[<-h2,dr]
 have:=aNw (P:=prog) (B:=Bs) (l:=l2) (l':=l3) (o:=o) (x:=x) (ty:=38) (lt:=L7) (g:=I1) WY d_ (aQG c7 hm l2 o_) k_ ho k_ k (λ_=>aQL) λd hd hs=>by
  have aQN:∀ a b:List (VS m),a.map VS.v=b.map VS.v->a=b:=by intro a b h;exact List.map_inj_right (λx y=>Vo x y) |>.1 h
  refine aQN _ _ ?_;rw[h3];refine aQC ?_ ?_
  ·rw[<-h2];exact hd.map _
  ·rw[List.pairwise_map,QI];intro i j hi hj pz;have:=hs i j pz hj _ _ (aT hi) (aT hj);exact aER.1 this
 rw[jE,jE,h2,h3,hlen]at this;exact this
theorem W4(hm:10000000*(m+10)<=az):1<=10000*(m+10)/\8*(10000*(m+10))+24<=az/\10000*(m+10)<=az:=by omega
def bf(ps:c_):e_:=Ld (nq ps ps.length)
theorem aES(l:e_):dd (l.map cr)=(dd l).map cr:=aEG (λ_ _ h=>PC h) l
theorem aQO(cd:∀ p∈ps,bM m p)(hm:10000000*(m+10)<=az)(h63:ps.length<=500)(lR:∀ p q:HS K,eD p q≠0->dot (eD p q) (eD p q)≠0):
  kY prog 143 [fO ps] 38 30 (bf ps).length (aG (bf ps)):=by
 have au:([fO ps].all aL.ok)=true:=by simp only[dT,eC,fO,aL.ok,dx,gp]
 have bC:=aEQ cd lR ps.length;have hl:=PY ps.length (bA _) (ps:=ps);have lH:ps.length*(2*ps.length)<=500*1000:=xi o_ o_;have lE:(nq ps ps.length).length<=500000:=di hl lH;clear hl lH;have lo:=λBs=>aNi (Bs:=Bs) cd hm h63 lR;have hv:bf ps=dd (rN (nq ps ps.length)):=(aEP _).symm;rw[hv];generalize nq ps ps.length=l at *;obtain⟨b1,b2,b3⟩:=W4 hm;have st:=λBs (o:Oper) x ho=>aQM (Bs:=Bs) (o:=o) (x:=x) (l:=l) (m:=10000*(m+10)) b1 b2 bC (eV lE d_) ho 1;have hp:=L6 l;have Gn:(rN l).length=l.length:=hp.length_eq;have dP:=aQx (l:=(rN l).map cr) (λx hx=>by obtain⟨v,hv,rfl⟩:=dj.1 hx;exact(bC v (hp.mem_iff.1 hv)).sm b3) (by rw[dr,Gn];exact eV lE d_)
 rw[dr,Gn,aES,dr]at dP;have hz:∃ t,cV (IZ ((rN l).map cr))=aG (dd (rN l))++cV t:=⟨_,by unfold IZ;rw[aES];exact Lh _ _⟩;obtain⟨t,hz⟩:=hz;unfold lF at dP;rw[hz]at dP;change xO prog _ 2 _ [(1,.row (aG (rN l)) 38 30)] _ _ _ at dP;have hlen:(aG (dd (rN l))).length=(dd (rN l)).length*30:=nN _;generalize dd (rN l)=d at *;generalize hS:rN l=s at *;intro w vs cv;obtain⟨ι,c,h1,h2,h3,h4,h5,h6,h7⟩:=xJ cv (bd.1 au) 0 _ _ (tH w) n_ (λ_ _=>rfl);refine uO (ms:=[(1,.row (aG d++cV t) 38 30)]) (v:=sl 1 d.length) mixed func143 (N:=42) k_ 100 (rs:=[.code 0 _ _ _ _ _ (lo _),.step 39 (aA f143 39) _ _ _ _ (st _ _ (.func 183) k_),.step 41 (aA f143 41) _ _ _ _ (Lg (args:=[sl 1 l.length]) (ca:=[]) (x:=.func 185) dP k_ k_ k_ k_ ?_ ?_ k_ k_ k_ k_)]) k_ h6 h2 h4 h3 λay b9 v' w' hle hc hm dQ=>⟨v',rfl,?_,hm.base⟩
 ·show((Nat.blt 1 2&&ni 2 (1,.row (aG s) 38 30))&&true)=true;rw[xP (x:=.row (aG s) 38 30) λv hv=>bd.1 (cW s) v hv];rfl
 ·show(ni 2 (1,.row (aG d++cV t) 38 30)&&true)=true;rw[xP (x:=.row (aG d++cV t) 38 30) λv hv=>(fo.1 hv).elim (λh=>bd.1 (cW d) v h) λh=>Li fD t v h];rfl
 ·have:=wZ hm (dQ (1,_) (aP ..)) hc (by rw[kP];omega) λv hv=>by
   rcases fo.1 hv with h|h
   ·exact bd.1 (cW d) v h
   ·exact Li fD t v h
  rwa[<-hlen,RZ]at this;rfl
end
section
open V3 (dot av cE smul)
theorem L8(l:l_):∀ v∈al l,v.oneCell'=true:=λv hv=>by obtain⟨x,_,rfl⟩:=dj.1 hv;rfl
theorem aQP(l m:l_):al l++al m=al (l++m):=by simp[al]
theorem QJ{l:l_}(h:l.length=0):al l=[]:=by rw[kO h];rfl
def Gv(l:l_):aL:=.r l.length (al l)
theorem W5(l:l_):(Gv l).ok=true:=iv l
theorem aQQ{l:l_}(hl:0<l.length)(h63:l.length<=1000000):kY prog 216 [Gv l] 3 1 l.length (al l):=
 vT (k:=2) mixed func216 (by simp only[dT,eC,W5,gp]) 100 (N:=8) k_ (λ_=>[.step 4 (aA f216 4) [sl 0 l.length,.slice none 0 0] [] a_ [] (aDd k_ hl),.Lz f216 5 1 3 1 (vI 0) k_,.oX f216 7 2 1 0 l.length l.length 3 1 8 [] 0 (.view (al l)) (al l) o_ rfl (by rw[gC];exact nP l) rfl rfl (L8 l) d_ (by simp[maxLen];omega) o_ k_]) (λ_=>k_) (iv l) (by rw[nP];omega)
theorem D9(ps:c_):(bB ps).length=ps.length*40:=by unfold bB;rw[uc ja,dr]
theorem aET(ps:c_):∀ v∈bB ps,v.oneCell'=true:=λv hv=>by unfold bB dw dy at hv;rw[zY]at hv;obtain⟨x,_,hx⟩:=hv;exact ja.one x v hx
theorem aQR(hl:0<ps.length)(h63:ps.length<=1000000):kY prog 145 [fO ps] 50 40 ps.length (bB ps):=
 vT (k:=2) mixed func145 (by simp only[dT,eC,fO,aL.ok,dx,gp]) 100 (N:=8) k_ (λ_=>[.step 4 (aA f145 4) [sl 0 ps.length,.slice none 0 0] [] a_ [] (aDd k_ hl),.Lz f145 5 1 50 40 (RP.v ⟨lX,gL⟩) k_,.oX f145 7 2 1 0 ps.length ps.length 50 40 480 [] 0 (.view (bB ps)) (bB ps) o_ rfl (D9 ps) rfl rfl (aET ps) d_ (by simp[maxLen];omega) o_ k_]) (λ_=>k_) (dx ps) (D9 ps)
def nR(l:l_)(i:Nat):List Nat:=(List.range l.length).map λt=>if t<i\/l.length<=t+i then l.getD (l.length-1-t) 0 else l.getD t 0
theorem W6(l:l_)(i:Nat):(nR l i).length=l.length:=by simp[nR]
theorem aQS(l:l_):nR l 0=l:=by
 apply xa
 ·simp[nR]
 ·intro t h1 h2;have:¬(l.length<=t):=by omega
  simp[nR,this,h2]
theorem aEU{l:l_}{t:Nat}(h1:i<=t)(h2:t+i<l.length):(nR l i)[t]?=some (l.getD t 0):=by
 have:¬(t<i\/l.length<=t+i):=by omega
 simp[nR,show t<l.length by omega,this]
theorem aQT{l:l_}(h:i+(i+1)<l.length):((nR l i).set i (l.getD (l.length-1-i) 0)).set (l.length-1-i) (l.getD i 0)=nR l (i+1):=by
 apply xa
 ·simp[nR]
 ·intro t h1 h2;rw[W6]at h2;rw[Hg,Hg];simp only[nR,CJ,CK];by_cases e1:l.length-1-i=t
  ·subst e1;rw[ax rfl,ax o_]
   congr 1;omega
  ·rw[ao e1];by_cases e2:i=t
   ·subst e2;rw[ax rfl,ax o_]
   ·rw[ao e2];by_cases e3:t<i\/l.length<=t+i
    ·rw[ax e3,ax o_]
    ·rw[ao e3,ao o_]
theorem aQU{l:l_}(h:l.length<=i+(i+1))(h2:i+i<=l.length):nR l i=l.reverse:=by
 apply xa
 ·simp[nR]
 ·intro t h1 h3;rw[W6]at h1;rw[List.getElem_reverse];simp only[nR,CJ,CK];split
  ·rw[EK,aT o_];rfl
  ·have:t=l.length-1-t:=by omega
   rw[EK,aT o_];simp only[Option.getD_some]
   congr 1
section
variable{Bs:aa}{l:l_}
def QK(n i:Nat):aN:=[(2,vI i),(3,vI (n-1-i)),(0,sl 5 n)]
def yg(l:l_):aH:=[(5,.row (al l) 3 1)]
theorem aQV{n:Nat}(hn:l.length=n)(hi:i+(i+1)<n)(h63:n<4611686018427387904):
  af prog Bs 28 (aF (ag f217 0)) (QK n i) (yg (nR l i)) 6 ⟨.normal,QK n (i+1),yg (nR l (i+1)),6⟩:=by
 have g1:=aEU (l:=l) (i:=i) (t:=n-1-i) o_ o_;have g2:=aEU (l:=l) (i:=i) (t:=i) o_ o_;have hlen:=W6 l i;have tD:=aQT (l:=l) (i:=i) o_;rw[hn]at tD hlen;generalize l.getD (n-1-i) 0=y at *;generalize l.getD i 0=x at *;generalize nR l i=r at *;rw[<-tD];have s1:=wj (l:=r) (i:=i) (d:=y) o_;have s2:=wj (l:=r.set i y) (i:=n-1-i) (d:=x) (by rw[Wo];omega);exact aC [.lt 9 i (n-1-i) true (by simp;omega),.ix f217 20 5 n (n-1-i) o_ k_,.ld f217 21 3 5 (n-1-i) (.row (al r) 3 1) (vI y) rfl (dZ g1) k_,.ix f217 24 5 n i o_ k_,.ld f217 25 3 5 i (.row (al r) 3 1) (vI x) rfl (dZ g2) k_,.ix f217 26 5 n i o_ k_,.st f217 100026 3 5 i (.row (al r) 3 1) (vI y) (.row (al (r.set i y)) 3 1) rfl s1 rfl k_,.ix f217 27 5 n (n-1-i) o_ k_,.st f217 100027 3 5 (n-1-i) (.row (al (r.set i y)) 3 1) (vI x) (.row (al ((r.set i y).set (n-1-i) x)) 3 1) rfl s2 rfl k_,.sum 11 i 1 (i+1) rfl o_,.fh 13 (n-1-i) 1 (n-1-(i+1)) o_ o_]
theorem aQW{n:Nat}(hn:l.length=n)(h0:0<n)(h63:n<4611686018427387904):
  af prog Bs 28 (.block 0 (ag f217 0)) (QK n 0) (yg l) 6 ⟨.normal,[],yg l.reverse,6⟩:=by
 have u7:l.reverse=nR l (n/2):=(aQU o_ o_).symm
 have:=ch (P:=prog) (B:=Bs) (N:=28) (b:=aF (ag f217 0)) (next:=6) (n/2) (λi=>QK n i) (λi=>yg (nR l i)) (r:=⟨.exit 0,[],yg l.reverse,6⟩) (λi k _=>j6 (l:=yg (nR l i)) (m:=yg (nR l 0)) rfl k)
  (λi hi=>aQV hn o_ h63)
  (by rw[<-u7];generalize l.reverse=r;exact aC [.lt 9 (n/2) (n-1-n/2) false (by simp;omega)]) n_
 rw[aQS]at this;exact bO (id:=0) this
theorem aQX{l:l_}(h0:0<l.length)(h63:l.length<=1000000):xO prog 217 6 [sl 5 l.length] (yg l) [] (.tuple #[]) (yg l.reverse):=
 oA mixed func217 100 (N:=28) k_ (λB=>[.fh 6 l.length 1 (l.length-1) o_ o_,.code 0 _ _ _ _ _ (aQW rfl h0 o_)]) (λ_=>k_)
end
theorem W7(ps:c_):(fO ps).ok=true:=dx ps
theorem L9(vs:e_):(k6 vs).ok=true:=cW vs
theorem aQY(vs:e_):(aL.b vs.length (aG vs)).ok=true:=cW vs
theorem aQZ(v:V3 K):(aL.q (cr v).cs).ok=true:=bd.2 (RV.nJ _)
theorem aQ0(v:V3 K):(aL.p (aZ v)).ok=true:=rfl
theorem aWi(p:HS K):(aL.p (dH p)).ok=true:=rfl
def aJ(vs:e_)(i:Nat):V3 K:=(vs[i]?).getD 0
theorem iy{vs:e_}(h:i<vs.length):vs[i]?=some (aJ vs i):=by unfold aJ;rw[aT h];rfl
theorem aEV:0<x↔OF.aD x>0:=by rw[OF.iJ];rcases OF.iR x with h|h|h<;>rw[h]<;>decide
def yi(n:V3 K)(pt:Nat->V3 K)(p:Nat):List Nat->Nat
 |b::a::st=>if 0<turn n (pt a) (pt b) (pt p)then 0 else yi n pt p (a::st)+1
 |_=>0
theorem QL(n:V3 K)(pt:Nat->V3 K)(p:Nat):∀ st:List Nat,pop n pt p st=st.drop (yi n pt p st)
 |[]=>rfl
 |[a]=>rfl
 |b::a::st=>by
  unfold pop yi;split
  ·rfl
  ·exact QL n pt p (a::st)
theorem aEW(n:V3 K)(pt:Nat->V3 K)(p:Nat):∀(st:l_) (d:Nat),d<yi n pt p st->∃ b a fq,st.drop d=b::a::fq/\¬0<turn n (pt a) (pt b) (pt p)
 |[],d,h=>by simp[yi]at h
 |[a],d,h=>by simp[yi]at h
 |b::a::st,d,h=>by
  unfold yi at h;split at h
  ·omega
  ·rename_i ht;cases d with
   |zero=>exact⟨b,a,st,rfl,ht⟩
   |succ d=>exact aEW n pt p (a::st) d o_
theorem aEX(n:V3 K)(pt:Nat->V3 K)(p:Nat):∀(st:l_),(∃ b a fq,st.drop (yi n pt p st)=b::a::fq/\0<turn n (pt a) (pt b) (pt p))\/(st.drop (yi n pt p st)).length<=1
 |[]=>.inr (jH _)
 |[a]=>.inr (bA _)
 |b::a::st=>by
  unfold yi;split
  ·rename_i ht;exact .inl ⟨b,a,st,rfl,ht⟩
  ·exact aEX n pt p (a::st)
section
variable{Bs:aa}{vs:e_}{nn:V3 K}{l:l_}
def pf(l:l_)(vs:e_)(nn:V3 K):aH:=[(0,.view (al l)),(1,.view (aG vs)),(2,.view [sl 1 vs.length]),(3,.view (cr nn).cs)]
def lY(st:l_):List Obj:=[.row (al st.reverse) 3 1]
def Ea(p L:Nat):aN:=[(7,vI p),(5,sl 4 L),(1,aX 2),(2,aX 3)]
def QM(n i L:Nat):aN:=[(12,vI i),(10,sl 0 n),(11,vI n),(5,sl 4 L),(1,aX 2),(2,aX 3)]
theorem aEY(hm:4<=m):∀ x∈pf l vs nn,fe m x.2:=λx hx=>by
 simp only[pf,ct,iX,iY]at hx;rcases hx with rfl|rfl|rfl|rfl
 ·exact λv hv=>gB (mD l v hv)
 ·exact λv hv=>gB (bd.1 (cW vs) v hv)
 ·intro v hv;have:v=sl 1 vs.length:=by simpa[Obj.cells]using hv
  subst this;show Hb m ⟨1,0,some 7⟩=true;unfold Hb;simp;omega
 ·exact λv hv=>gB (RV.nJ _ v hv)
theorem aQ1{st:l_}:∀ x∈lY st,fe m x:=λx hx=>by simp only[lY,ct,iX,iY]at hx;subst hx;exact λv hv=>gB (mD _ v hv)
theorem aEZ(hm:5<=m){st:l_}:∀ x∈pf l vs nn++marks 4 (lY st),fe m x.2:=λx hx=>by
 rcases fo.1 hx with h|h
 ·exact aEY o_ x h
 ·simp only[lY,marks,ct,iX,iY]at h;subst h;exact λv hv=>gB (mD _ v hv)
noncomputable def hiS{p L:Nat}{r:l_}(hL:r.length=L+2)(ha:r[L]?=some a)(hb:r[L+1]?=some b)(k9:a<vs.length)(lp:b<vs.length)(rO:p<vs.length)(aQ:∀ v∈vs,aw q v)(hn:aw m nn)(hm:100*(m+q)+1000<=az)(h63:L<1000000)
  (ht:decide (OF.aD (turn nn (aJ vs a) (aJ vs b) (aJ vs p))>0)=t) (more:bL prog Bs 66):bL prog Bs 66:=
 have sa:=aQ _ (cH (iy k9));have sb:=aQ _ (cH (iy lp));have sp:=aQ _ (cH (iy rO))
 .gt 18 (L+2) 1 true s_::.fh 23 (L+2) 2 L rfl o_::.ix f215 24 4 (L+2) L o_ k_::.ld f215 25 3 4 L (.row (al r) 3 1) (vI a) rfl (dZ ha) k_::
  .cM f215 26 1 vs.length a 30 k9 k_::.ld f215 27 38 1 (a*30) (.view (aG vs)) (aZ (aJ vs a)) rfl (gD (iy k9)) k_::.fh 32 (L+2) 1 (L+1) rfl o_::.ix f215 33 4 (L+2) (L+1) o_ k_::
  .ld f215 34 3 4 (L+1) (.row (al r) 3 1) (vI b) rfl (dZ hb) k_::.cM f215 35 1 vs.length b 30 lp k_::.ld f215 36 38 1 (b*30) (.view (aG vs)) (aZ (aJ vs b)) rfl (gD (iy lp)) k_::
  (vk sb sa o_).at 40::.cM f215 43 1 vs.length p 30 rO k_::.ld f215 44 38 1 (p*30) (.view (aG vs)) (aZ (aJ vs p)) rfl (gD (iy rO)) k_::(vk sp sa o_).at 46::
  (sU (sb.sub sa) (sp.sub sa) o_).at 47::(oz hn ((sb.sub sa).av (sp.sub sa)) o_).at 48::(nL (hn.dot ((sb.sub sa).av (sp.sub sa))) o_).at 49::
  .rw 50 (.bool (decide (OF.aD (dot nn (av (aJ vs b-aJ vs a) (aJ vs p-aJ vs a)))>0))) (.bool t) (by rw[<-ht];rfl)::more
theorem aE0{st fq:l_}(h:st=b::a::fq):st.reverse.length=fq.length+2/\st.reverse[fq.length]?=some a/\st.reverse[fq.length+1]?=some b/\st.reverse.take (fq.length+1)=(a::fq).reverse:=by
 subst h;have e:(b::a::fq).reverse=fq.reverse++[a,b]:=by simp
 rw[e];refine⟨by simp,?_,?_,?_⟩
 ·rw[EL s_];simp
 ·rw[EL s_];simp
 ·rw[aCN];simp[j8]
theorem aE1(l:l_)(m:Nat):(al l).take (m*1)=al (l.take m):=by rw[gC];simp[al,CI]
theorem aQ2{st fq:l_}{p:Nat}(bT:st=b::a::fq)(aY:∀ x∈st,x<vs.length)(rO:p<vs.length)(aQ:∀ v∈vs,aw q v)(hn:aw m nn)(hm:100*(m+q)+1000<=az)(h63:st.length<1000000)
  (ht:¬0<turn nn (aJ vs a) (aJ vs b) (aJ vs p)):af prog Bs 66 (aF (ag f215 2)) (Ea p st.length) (pf l vs nn++marks 4 (lY st)) 5 ⟨.normal,Ea p (a::fq).length,pf l vs nn++marks 4 (lY (a::fq)),5⟩:=by
 obtain⟨r1,r2,r3,r4⟩:=aE0 bT;have k9:=aY a (by rw[bT];simp);have lp:=aY b (by rw[bT];simp);have hl:st.length=fq.length+2:=by rw[bT];rfl
 have hd:decide (OF.aD (turn nn (aJ vs a) (aJ vs b) (aJ vs p))>0)=false:=aO λh=>ht (aEV.2 h);have Gp:(al st.reverse).take ((fq.length+1)*1)=al (a::fq).reverse:=by rw[aE1,r4]
 have dE:=aEZ (l:=l) (vs:=vs) (nn:=nn) (m:=5) (bA _) (st:=a::fq);unfold lY at *;rw[hl]at h63 ⊢;rw[show(a::fq).length=fq.length+1 from rfl];generalize st.reverse=r at *;generalize (a::fq).reverse=r' at *;exact qZ mixed 100 (fC:=7) (hiS r1 r2 r3 k9 lp rO aQ hn hm o_ hd [.fh 54 (fq.length+2) 1 (fq.length+1) rfl o_,.cut f215 55 4 (fq.length+2) (fq.length+1) ((fq.length+1)*1) 1 1 3 (al r) (al r') o_ Gp k_]) k_ rfl k_ dE k_
theorem aQ3{st:l_}{p:Nat}(aY:∀ x∈st,x<vs.length)(rO:p<vs.length)(aQ:∀ v∈vs,aw q v)(hn:aw m nn)(hm:100*(m+q)+1000<=az)(h63:st.length<1000000)
  (h:(∃ b a fq,st=b::a::fq/\0<turn nn (aJ vs a) (aJ vs b) (aJ vs p))\/st.length<=1):af prog Bs 66 (aF (ag f215 2)) (Ea p st.length) (pf l vs nn++marks 4 (lY st)) 5 ⟨.exit 2,Ea p st.length,pf l vs nn++marks 4 (lY st),5⟩:=by
 have dE:=aEZ (l:=l) (vs:=vs) (nn:=nn) (m:=5) (bA _) (st:=st);rcases h with ⟨b,a,fq,bT,ht⟩|h
 ·obtain⟨r1,r2,r3,r4⟩:=aE0 bT;have k9:=aY a (by rw[bT];simp);have lp:=aY b (by rw[bT];simp);have hl:st.length=fq.length+2:=by rw[bT];rfl
  have hd:decide (OF.aD (turn nn (aJ vs a) (aJ vs b) (aJ vs p))>0)=true:=aE (aEV.1 ht);unfold lY at *;rw[hl]at h63 ⊢;generalize st.reverse=r at *;exact qZ mixed 100 (fC:=7) (hiS r1 r2 r3 k9 lp rO aQ hn hm o_ hd []) k_ rfl k_ dE k_
 ·exact aC [.gt 18 st.length 1 false (by simp;omega)]
theorem aE2{st:l_}{n:Nat}(h:∀ x∈st,x<n):∀ x∈st.drop d,x<n:=λx hx=>h x (W8 hx)
theorem aQ4{st:l_}{p:Nat}(aY:∀ x∈st,x<vs.length)(rO:p<vs.length)(aQ:∀ v∈vs,aw q v)(hn:aw m nn)(hm:100*(m+q)+1000<=az)(h63:st.length<1000000):
  af prog Bs 66 (.block 2 (ag f215 2)) (Ea p st.length) (pf l vs nn++marks 4 (lY st)) 5 ⟨.normal,Ea p (pop nn (aJ vs) p st).length,pf l vs nn++marks 4 (lY (pop nn (aJ vs) p st)),5⟩:=by
 have hlen:∀ d,(st.drop d).length<1000000:=λd=>by rw[vE];omega
 have:=ch (P:=prog) (B:=Bs) (N:=66) (b:=aF (ag f215 2)) (next:=5) (yi nn (aJ vs) p st) (λd=>Ea p (st.drop d).length) (λd=>pf l vs nn++marks 4 (lY (st.drop d)))
  (r:=⟨.exit 2,Ea p (pop nn (aJ vs) p st).length,pf l vs nn++marks 4 (lY (pop nn (aJ vs) p st)),5⟩) (λi k _=>j6 (l:=pf l vs nn++marks 4 (lY (st.drop i))) (m:=pf l vs nn++marks 4 (lY (st.drop 0))) rfl k)
  (λd hd=>by
   obtain⟨b,a,fq,h1,h2⟩:=aEW nn (aJ vs) p st d hd;have h3:st.drop (d+1)=a::fq:=by rw[<-NK,h1];rfl
   rw[h3];exact aQ2 h1 (aE2 aY) rO aQ hn hm (hlen d) h2)
  (by rw[QL];exact aQ3 (aE2 aY) rO aQ hn hm (hlen _) (aEX nn (aJ vs) p st)) n_
 exact bO (id:=2) this
def bT(nn:V3 K)(vs:e_)(l:l_)(i:Nat):List Nat:=half nn (aJ vs) (l.take i)
theorem aE3{p:Nat}(h:l[i]?=some p):bT nn vs l (i+1)=p::pop nn (aJ vs) p (bT nn vs l i):=by unfold bT half;rw[sY,h,Option.toList,aC1];rfl
theorem aQ5(n:V3 K)(pt:Nat->V3 K)(p:Nat)(st:l_):∀ x∈pop n pt p st,x∈st:=λx hx=>by rw[QL]at hx;exact W8 hx
theorem aE4(n:V3 K)(pt:Nat->V3 K)(p:Nat)(st:l_):(pop n pt p st).length<=st.length:=by rw[QL,vE];omega
theorem Ma:∀ i,i<=l.length->(∀ x∈bT nn vs l i,x∈l)/\(bT nn vs l i).length<=i
 |0,_=>⟨λx hx=>by simp[bT,half]at hx,bA _⟩
 |i+1,h=>by
  obtain⟨h1,h2⟩:=Ma i o_;have hp:l[i]?=some l[i]:=aT o_;rw[aE3 hp];refine⟨λx hx=>?_,?_⟩
  ·rcases ct.1 hx with rfl|hx
   ·exact cY o_
   ·exact h1 x (aQ5 _ _ _ _ x hx)
  ·have:=aE4 nn (aJ vs) l[i] (bT nn vs l i);rw[oL];omega
theorem aQ6{p:Nat}{st:l_}(hi:i<l.length)(hp:l[i]?=some p)(aY:∀ x∈st,x<vs.length)(rO:p<vs.length)(aQ:∀ v∈vs,aw q v)(hn:aw m nn)(hm:100*(m+q)+1000<=az)(h63:st.length<900000)(pT:l.length<1000000):
  af prog Bs 66 (aF (ag f215 0)) (QM l.length i st.length) (pf l vs nn++marks 4 (lY st)) 5
   ⟨.normal,fj 4 [some 6] (QM l.length (i+1) (p::pop nn (aJ vs) p st).length),pf l vs nn++dB [some 6] (lY (p::pop nn (aJ vs) p st)),7⟩:=by
 have lo:=aQ4 (Bs:=Bs) (l:=l) aY rO aQ hn hm (show st.length<1000000 by omega);have Gn:=aE4 nn (aJ vs) p st;generalize pop nn (aJ vs) p st=r at *;have hr:al r.reverse++[vI p]=al (p::r).reverse:=by simp[al]
 have Eb:(al r.reverse).length=r.length*1:=by rw[nP,Gw,gC]
 have h1:=L8 r.reverse;unfold lY at *;rw[show(p::r).length=r.length+1 from rfl];generalize st.reverse=s0 at *;generalize al r.reverse=c0 at *;generalize al (p::r).reverse=c1 at *;exact aC [.lt 13 i l.length true (aE hi),.ix f215 14 0 l.length i hi k_,.ld f215 15 3 0 i (.view (al l)) (vI p) rfl (dZ hp) k_,.code 2 _ _ _ _ _ lo,.bs f215 58 5 1 3 1 [0] (vI 0) [vI p] #[vI p] (.row [vI p] 3 1) rfl (λv hv=>by simp at hv;subst hv;rfl) (λv hv=>by simp at hv;subst hv;rfl) k_ rfl d_ d_ k_,.oX f215 59 6 4 r.length 1 (r.length+1) 3 1 8 c0 5 (.row [vI p] 3 1) c1 rfl rfl rfl Eb hr (λv hv=>by simp[Obj.cells]at hv;subst hv;rfl) d_ (by simp[maxLen];omega) o_ k_,.sum 60 i 1 (i+1) rfl o_]
theorem aQ7(aY:∀ x∈l,x<vs.length)(aQ:∀ v∈vs,aw q v)(hn:aw m nn)(hm:100*(m+q)+1000<=az)(h63:l.length<900000):
  af prog Bs 66 (.block 0 (ag f215 0)) (fj 4 [none] (QM l.length 0 0)) (pf l vs nn++dB [none] (lY [])) 4 ⟨.normal,[(5,sl 4 (half nn (aJ vs) l).length)],pf l vs nn++marks 4 (lY (half nn (aJ vs) l)),5⟩:=by
 have DW:bT nn vs l l.length=half nn (aJ vs) l:=by unfold bT;rw[ox]
 have:=pH (P:=prog) (B:=Bs) (N:=66) (b:=aF (ag f215 0)) (next:=4) (p:=1) (r:=⟨.exit 0,[(5,sl 4 (half nn (aJ vs) l).length)],pf l vs nn++marks 4 (lY (half nn (aJ vs) l)),5⟩) l.length
  (λi=>QM l.length i (bT nn vs l i).length) (λ_=>pf l vs nn) (λi=>lY (bT nn vs l i)) [none] (λ_ _=>rfl) (λj _=>⟨aEY (bA _),aQ1⟩) k_ k_
  (λi hi=>by have hp:l[i]?=some l[i]:=aT hi;obtain⟨f1,f2⟩:=Ma (nn:=nn) (vs:=vs) (l:=l) i o_;refine⟨[some 6],7,k_,?_⟩;rw[aE3 hp];exact aQ6 hi hp (λx hx=>aY x (f1 x hx)) (aY _ (cY hi)) aQ hn hm o_ o_)
  (by rw[DW];generalize half nn (aJ vs) l=a;exact aC [.lt 13 l.length l.length false s_]) n_
 exact bO (id:=0) this
theorem aQ8(nn:V3 K)(pt:Nat->V3 K){l:l_}(h:l≠[]):half nn pt l≠[]:=by
 have:∀(l st:l_),st≠[]->l.foldl (λst p=>p::pop nn pt p st) st≠[]:=by
  intro l;induction l with
  |nil=>exact λ_ h=>h
  |cons a l ih=>exact λst _=>ih _ n_
 cases l with
 |nil=>exact absurd rfl h
 |cons a l=>exact this l _ n_
def kx(nn:V3 K)(vs:e_)(l:l_):List Nat:=(half nn (aJ vs) l).tail.reverse
theorem aE5(tC:0<l.length)(aY:∀ x∈l,x<vs.length)(aQ:∀ v∈vs,aw q v)(hn:aw m nn)(hm:100*(m+q)+1000<=az)(h63:l.length<900000):
  kY prog 215 [Gv l,.b vs.length (aG vs),.q (cr nn).cs] 3 1 (kx nn vs l).length (al (kx nn vs l)):=by
 have au:([Gv l,.b vs.length (aG vs),.q (cr nn).cs].all aL.ok)=true:=by simp only[dT,eC,W5,aQY,aQZ,z7]
 have lo:=λBs=>aQ7 (Bs:=Bs) aY aQ hn hm h63;have bj:=aQ8 nn (aJ vs) (l:=l) (λe=>by rw[e]at tC;cases tC);have hlen:(half nn (aJ vs) l).length<=l.length:=by have:=(Ma (nn:=nn) (vs:=vs) (l:=l) l.length (bA _)).2;unfold bT at this;rwa[ox]at this
 unfold kx;cases hh:half nn (aJ vs) l with
 |nil=>exact absurd hh bj
 |cons a st=>
  rw[hh]at lo hlen;simp only[List.tail_cons,Gw];have Gp:(al (a::st).reverse).take (st.length*1)=al st.reverse:=by rw[aE1,vW,RZ s_]
  unfold lY at lo;rw[show(a::st).length=st.length+1 from rfl]at lo hlen;have hx:=iv st.reverse;have W9:(al st.reverse).length=st.length*1:=by rw[nP,Gw,gC]
  generalize al (a::st).reverse=c0 at *;generalize al st.reverse=c1 at *;exact vT (k:=4) mixed func215 au 100 (N:=66) k_ (λ_=>[.code 0 _ _ _ _ _ (lo _),.fh 64 (st.length+1) 1 st.length rfl o_,.cut f215 65 4 (st.length+1) st.length (st.length*1) 1 1 3 c0 c1 o_ Gp k_]) (λ_=>k_) hx W9
end
theorem aE6(nn:V3 K)(vs:e_)(l:l_):order nn (aJ vs) l=kx nn vs l++kx nn vs l.reverse:=rfl
theorem Xa{vs:e_}{nn:V3 K}{l:l_}(tC:0<l.length)(aY:∀ x∈l,x<vs.length)(aQ:∀ v∈vs,aw q v)(hn:aw m nn)(hm:100*(m+q)+1000<=az)(h63:l.length<900000):
  kY prog 190 [k6 vs,Gv l,.p (aZ nn)] 3 1 (order nn (aJ vs) l).length (al (order nn (aJ vs) l)):=by
 have au:([k6 vs,Gv l,.p (aZ nn)].all aL.ok)=true:=by simp only[dT,eC,W5,L9,aQ0,z7]
 have h1:=aE5 tC aY aQ hn hm h63;have h2:=aE5 (l:=l.reverse) (by simpa using tC) (λx hx=>aY x (K5.1 hx)) aQ hn hm (by simpa using h63);have hc:=aQQ tC o_;have hr:=aQX tC o_;rw[aE6];have e1:al (kx nn vs l)++al (kx nn vs l.reverse)=al (kx nn vs l++kx nn vs l.reverse):=aQP _ _;have bC:∀ l:List Nat,(∀ x∈l,x∈l)->(kx nn vs l).length<=l.length:=λl _=>by have:=(Ma (nn:=nn) (vs:=vs) (l:=l) l.length (bA _)).2;unfold bT at this;rw[ox]at this;unfold kx;rw[Gw,List.length_tail];omega
 have s1:=bC l λ_ h=>h;have s2:=bC l.reverse λ_ h=>h;have g1:=nP (kx nn vs l);have g2:=nP (kx nn vs l.reverse);have o2:=L8 (kx nn vs l.reverse);have f3:=iv (kx nn vs l++kx nn vs l.reverse);have g3:=nP (kx nn vs l++kx nn vs l.reverse);have f1:=iv (kx nn vs l);have f2:=iv (kx nn vs l.reverse);rw[kP]at g3 ⊢;rw[Gw]at s2;have hb:∀{l:l_},l.length=0->(Obj.view (al l)).cells=[]:=λh=>QJ h;unfold yg at hr;have aE7:l.reverse.length=l.length:=Gw ..;unfold Gv at h2;rw[aE7]at h2;have ir:l.length=0->al l.reverse=[]:=λh=>QJ (by rw[aE7];exact h);have irf:=iv l.reverse;generalize (kx nn vs l).length=a1 at *;generalize (kx nn vs l.reverse).length=a2 at *;generalize al (kx nn vs l++kx nn vs l.reverse)=i3 at *;generalize al (kx nn vs l)=i1 at *;generalize al (kx nn vs l.reverse)=i2 at *;generalize al l.reverse=lr at *;exact vT (k:=7) mixed func190 au 100 (N:=23) k_ (λ_=>[
  .step 13 (aA f190 13) [.func (.func 215) #[] #[aX 2,aX 3],sl 1 l.length] [(4,none),(1,some (.view (al l))),(2,some (.aI [sl 0 vs.length] 23)),(0,some (.view (aG vs))),(3,some (.aI (cr nn).cs 38))] (sl 4 a1) [(4,.row i1 3 1)]
   (aDv (vs:=[sl 1 l.length]) (ca:=[aX 2,aX 3]) h1 (.w (x:=.view (al l)) rfl (iv l) hb (.b (x:=.view (aG vs)) (y:=.aI [sl 0 vs.length] 23) (cc:=0) rfl rfl rfl (cW vs) oB (.q (x:=.aI (cr nn).cs 38) rfl (bd.2 (RV.nJ _)) .nil))) (x:=.tmp 11) k_ k_ f1 4),
  .step 15 (aA f190 15) [.func (.func 216) #[] #[],sl 1 l.length] [(5,none),(1,some (.view (al l)))] (sl 5 l.length) [(5,.row (al l) 3 1)]
   (qF hc (.w (x:=.view (al l)) rfl (iv l) hb .nil) (x:=.func 216) k_ k_ (iv l) 5),
  .step 17 (aA f190 17) [.func (.func 217) #[] #[],sl 5 l.length] [(5,some (.row (al l) 3 1))] (.tuple #[]) [(5,.row lr 3 1)]
   (Lg (args:=[sl 5 l.length]) (ca:=[]) (x:=.func 217) hr k_ k_ k_ k_ (by
    show((Nat.blt 5 6&&ni 6 (5,.row (al l) 3 1))&&true)=true;rw[xP (x:=.row (al l) 3 1) λv hv=>mD l v hv];rfl) (by
    show(ni 6 (5,.row lr 3 1)&&true)=true;rw[xP (x:=.row lr 3 1) λv hv=>bd.1 irf v hv];rfl) k_ k_ k_ k_),.step 21 (aA f190 21) [.func (.func 215) #[] #[aX 2,aX 3],sl 5 l.length] [(6,none),(5,some (.row lr 3 1)),(2,some (.aI [sl 0 vs.length] 23)),(0,some (.view (aG vs))),(3,some (.aI (cr nn).cs 38))] (sl 6 a2) [(6,.row i2 3 1)]
   (aDv (vs:=[sl 5 l.length]) (ca:=[aX 2,aX 3]) h2 (.w (x:=.row lr 3 1) rfl irf ir (.b (x:=.view (aG vs)) (y:=.aI [sl 0 vs.length] 23) (cc:=0) rfl rfl rfl (cW vs) oB (.q (x:=.aI (cr nn).cs 38) rfl (bd.2 (RV.nJ _)) .nil))) (x:=.tmp 19) k_ k_ f2 6),
  .oX f190 22 7 4 a1 a2 (a1+a2) 3 1 8 i1 6 (.row i2 3 1) i3 rfl rfl (by rw[gC];exact g2) (by rw[gC];exact g1) e1 o2 d_ (by simp[maxLen];omega) o_ k_]) (λ_=>k_) f3 (by rw[gC];exact g3)
end
end Go.Proofs.YthjhinbiabcfiaaGreatDoor
