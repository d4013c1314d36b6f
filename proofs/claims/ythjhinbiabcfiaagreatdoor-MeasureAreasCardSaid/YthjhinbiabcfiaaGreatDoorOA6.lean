/- Ends and areas: the proof of MeasureAreasCardSaid (the law's function answers true at every solid, direction and number; theorem measureAreas_card, last part), part 6 of 7; no condition. -/
import Derived.Test.YthjhinbiabcfiaaGreatDoorOA5
namespace Go.Proofs.YthjhinbiabcfiaaGreatDoor
open Go Go.RowKit Tryz
variable{m k q j d N np n2 U a1 nv nl:Nat}{o:Oper}{Bs:aa}{x:K}{ps:c_}{xs eT xp:ah}{l:List aL}{r:RN}{acc:e_}
section
open CR OF
open V3 (dot av cE smul)
section
variable{F:Type}[OF F]
def GS(l:List F):F:=l.foldr (·+·) 0
theorem aGT(a:F)(l:List F):GS (a::l)=a+GS l:=rfl
theorem aGU:∀ l m:List F,GS (l++m)=GS l+GS m
 |[],m=>(CR.zero_add _).symm
 |a::l,m=>by rw[C3,aGT,aGT,aGU l m,CR.add_assoc]
end
section
variable{ps:c_}{vs:e_}{r s:HS K}{i j a b:Nat}
theorem aUq(hp:jl ps)(hv:pk ps vs){f:Nat×List Nat}(h:f∈cT ps vs ps.length):∃ r,ps[f.1]?=some r/\kL ps vs f.1=[f]/\¬(ck r vs vs.length).length<3/\
  ∃ a m,f.2=a::m/\(a::m).Nodup/\(∀ x,x∈a::m↔x∈ck r vs vs.length)/\pP (oy r.n (aJ vs) (ck r vs vs.length)) (a::m++[a]):=by
 unfold cT at h;rw[zY]at h;obtain⟨i,hi,hf⟩:=h;have lC:=j4.1 hi;have hr:=aT lC;have IC:=hp _ (cY lC);generalize ps[i]=r at *;have e:kL ps vs i=if oG ps i r then[]else if(ck r vs vs.length).length<3 then[]else[(i,order r.n (aJ vs) (ck r vs vs.length))]:=by unfold kL;rw[hr];exact hv.GL IC i
 by_cases hm:oG ps i r=true
 ·rw[e,ax hm]at hf;cases hf
 rw[ao hm]at e;by_cases h3:(ck r vs vs.length).length<3
 ·rw[e,ax h3]at hf;cases hf
 rw[ao h3]at e;rw[e,Pr]at hf;subst hf;refine⟨r,hr,e,h3,?_⟩;have hc:=hv.conv (p:=r);have hs:=hv.sort (p:=r);clear e;generalize ck r vs vs.length=on at *
 match on,h3,hc,hs with
 |a::b::l,_,hc,hs=>
  obtain⟨m,e1,e2,e3,e4⟩:=aCl IC hc hs;exact⟨a,m,e1,e2,e3,e4⟩
 |[],h3,_,_=>exact(h3 s_).elim
 |[_],h3,_,_=>exact(h3 s_).elim
end
section
variable{F:Type}[OF F]
def RA(φ:Nat->Nat->F):List Nat->F
 |x::y::t=>φ x y+RA φ (y::t)
 |_=>0
end
section
variable{ps:c_}{vs:e_}
def Yb(g:Nat->Nat->Nat->K):List Nat->K
 |[]=>0
 |a::m=>RA (g a) m
def aGV(ps:c_)(vs:e_)(g:Nat->Nat->Nat->K):K:=GS ((cT ps vs ps.length).map λf=>Yb g f.2)
def aGW(ps:c_)(vs:e_):K:=aGV ps vs λa x y=>cE (aJ vs a) (aJ vs x) (aJ vs y)
end
section
variable{vs:e_}{ps:c_}{σ:Type}{f:σ->V3 K->V3 K->V3 K->σ}{L:σ->K}{φ:V3 K->V3 K->V3 K->K}
theorem aGX(s:σ)(a x:V3 K)(m:e_):∀ t,kk f s (a::x::m) (t+1)=kk f (f s a x ((m[0]?).getD 0)) (a::m) t
 |0=>rfl
 |t+1=>by have ih:=aGX s a x m t;show f (kk f s (a::x::m) (t+1)) _ _ _=f (kk f (f s a x ((m[0]?).getD 0)) (a::m) t) _ _ _;rw[ih];rfl
theorem aGY(h:∀ s p q r,L (f s p q r)=L s+φ p q r)(a:Nat):∀(s:σ) (m:l_),L (kk f s (c8 vs (a::m)) (m.length-1))=L s+RA (λx y=>φ (aJ vs a) (aJ vs x) (aJ vs y)) m
 |_,[]=>(CR.add_zero _).symm
 |_,[_]=>(CR.add_zero _).symm
 |s,x::y::t=>by have ih:=aGY h a (f s (aJ vs a) (aJ vs x) (aJ vs y)) (y::t);show L (kk f s (aJ vs a::aJ vs x::c8 vs (y::t)) (t.length+1))=L s+(φ (aJ vs a) (aJ vs x) (aJ vs y)+RA _ (y::t));rw[aGX,<-CR.add_assoc,<-h,<-ih];rfl
theorem aUr(h:∀ s p q r,L (f s p q r)=L s+φ p q r)(s:σ){l:l_}(hl:2<=l.length):L (kk f s (c8 vs l) (l.length-2))=L s+Yb (λa x y=>φ (aJ vs a) (aJ vs x) (aJ vs y)) l:=by
 match l,hl with
 |a::x::m,_=>exact aGY h a s (x::m)
 |[],h=>exact absurd h s_
 |[_],h=>exact absurd h s_
theorem aGZ(h:∀ s p q r,L (f s p q r)=L s+φ p q r)(s:σ)(Fs:List (Nat×List Nat))(hl:∀ f∈Fs,2<=f.2.length):∀ i,i<=Fs.length->L (wH f s vs (Fs.map (·.2)) i)=L s+GS ((Fs.take i).map λg=>Yb (λa x y=>φ (aJ vs a) (aJ vs x) (aJ vs y)) g.2)
 |0,_=>(CR.add_zero _).symm
 |i+1,hi=>by have hf:Fs[i]?=some Fs[i]:=aT o_;have hm:=cY (l:=Fs) (n:=i) o_;generalize Fs[i]=g at *;rw[X8 _ _ vs Fs i g hf,aUr h _ (hl _ hm),aGZ h s Fs hl i o_,sY,hf,rW,aGU,CR.add_assoc];show _=_+(_+(_+0));rw[CR.add_zero]
theorem aUs(h:∀ s p q r,L (f s p q r)=L s+φ p q r)(s:σ)(hl:∀ f∈cT ps vs ps.length,2<=f.2.length):L (wH f s vs ((cT ps vs ps.length).map (·.2)) ((cT ps vs ps.length).map eR).length)=L s+aGV ps vs λa x y=>φ (aJ vs a) (aJ vs x) (aJ vs y):=by rw[aGZ h s _ hl _ (by rw[dr];exact bA _),dr,ox];rfl
theorem aUt(h:∀ f∈cT ps vs ps.length,2<=f.2.length):Jp vs (cT ps vs ps.length)=aGW ps vs:=by have:=aUs (L:=λs:K=>s) (f:=Cr) (φ:=cE) (vs:=vs) (λ_ _ _ _=>rfl) 0 h;rw[CR.zero_add]at this;exact this
theorem GV(hp:jl ps)(hv:pk ps vs){f:Nat×List Nat}(h:f∈cT ps vs ps.length):3<=f.2.length/\f.2.length<=vs.length/\∀ x∈f.2,x<vs.length:=by obtain⟨r,_,_,h3,a,m,e1,jK,hm,_⟩:=aUq hp hv h;have h1:=Ri (aGf r vs) (J:=a::m) λx hx=>(hm x).2 hx;have h2:=Ri jK (J:=List.range vs.length) λx hx=>j4.2 (AB.1 ((hm x).1 hx)).1;rw[yY]at h2;rw[e1];exact⟨by omega,h2,λx hx=>(AB.1 ((hm x).1 hx)).1⟩
theorem aUu(hp:jl ps)(hv:pk ps vs)(h9:ps.length<=20)(hq:∀ p∈vs,aw q p)(hn:vs.length<=1000)(hb:q<=100000):Eo vs (cT ps vs ps.length) q (18*q+50) 1000 2:=by
 have hl:(cT ps vs ps.length).length<=20:=di (I3 ps vs _) h9;refine⟨λf hf=>?_,λf hf=>(GV hp hv hf).2.2,hq,?_,by omega,by decide⟩
 ·have:=GV hp hv hf;omega
 ·have h1:((cT ps vs ps.length).length+2)*((1000+1)*(18*q+50))<=22*(1001*1800050):=xi o_ (xi o_ o_);exact eV (Nx h1 2) d_
end
end
section
open V3 (dot av cE smul)
def gT(ps:c_):aL:=.s ps.length (bB ps) (bf ps).length (aG (bf ps)) (iu (eH ps))
structure gu(ps:c_):Prop where
 len:ps.length<=9
 sz:∀ p∈ps,bM 24 p/\p.n≠0
 cl:Cl ps
 full:pc ps
section
variable{ps:c_}
theorem gu.proper(h:gu ps):jl ps:=λq hq=>(h.sz q hq).2
theorem gu.aUv(h:gu ps):wz ps 24:=⟨by have:=h.len;omega,λq hq=>(h.sz q hq).1,h.proper,by decide⟩
theorem gu.Jq(h:gu ps):pk ps (bf ps):=XS h.cl h.proper h.full
theorem gu.yA(h:gu ps):(∀ v∈bf ps,aw 4000 v)/\(bf ps).length<=81*9:=by rw[yu h.cl h.proper h.full];exact rT.sz (m:=24) (M:=4000) ⟨h.len,h.sz,by decide,by decide⟩
theorem gu.aCs(h:gu ps):GM ps=true:=(aGx h.proper).2 ⟨h.cl,h.full⟩
theorem gu.valid(h:gu ps):bw prog 35 [gT ps] b_:=by have:=aTb h.aUv h.aCs;unfold aGl XL at this;rw[dr]at this;exact this
def wA(np nv:Nat):Value:=.agg #[sl 0 np,sl 1 nv,cy 2]
def RB(ps:c_):q_:=[(0,some (.view (bB ps))),(1,some (.view (aG (bf ps)))),(2,some (.fact (iu (eH ps))))]
theorem vy(h:fW Bs l xs []):fW Bs (gT ps::l) (wA ps.length (bf ps).length::xs) (RB ps):=
 .s (x1:=.view (bB ps)) (x2:=.view (aG (bf ps))) rfl (dx ps) jm rfl (cW _) oB h
theorem Jr(ps:c_):(gT ps).ok=true:=by show((bB ps).all flat&&((aG (bf ps)).all flat&&true))=true;rw[dx,cW];rfl
end
theorem aG0:gu pX:=⟨by decide,λp h=>⟨(aGD (tY _ h)).mono d_,XX (tY _ h)⟩,XZ,XY⟩

noncomputable def Er(ps:c_):K:=aGW ps (bf ps)*gE 1 6
section
variable{ps:c_}
theorem gu.loops(h:gu ps):Eo (bf ps) (cT ps (bf ps) ps.length) 4000 (18*4000+50) 1000 2:=
 aUu h.proper h.Jq (by have:=h.len;omega) h.yA.1 (by have:=h.yA.2;omega) d_
theorem gu.aUw(h:gu ps):∀ f∈cT ps (bf ps) ps.length,2<=f.2.length:=λf hf=>by have:=GV h.proper h.Jq hf;omega
theorem gu.aG1(h:gu ps):MC (bf ps) (cT ps (bf ps) ps.length)=Er ps:=by unfold MC;rw[aUt h.aUw];rfl
theorem gu.many(h:gu ps):2+((cT ps (bf ps) ps.length).map eR).length*((1000+1)*(18*4000+50))<=700000000:=by rw[dr];have hl:(cT ps (bf ps) ps.length).length<=9:=di (I3 ps _ _) h.len;have h2:(cT ps (bf ps) ps.length).length*((1000+1)*(18*4000+50))<=9*(1001*72050):=xi hl (bA _);exact di (Nx h2 2) d_
theorem gu.aG2(h:gu ps):Sz 700000000 (Jp (bf ps) (cT ps (bf ps) ps.length)):=by have h1:=X9 (B:=GR 4000 ps.length (bf ps).length) (s0:=(0:K)) (np:=ps.length) (xp:=bB ps) h.loops (aGS (dx ps)) (o9 (z:=0) (n:=2) d_ d_) ((cT ps (bf ps) ps.length).map eR).length (by rw[dr];exact bA _);have h1:Sz (2+((cT ps (bf ps) ps.length).map eR).length*((1000+1)*(18*4000+50))) (Jp (bf ps) (cT ps (bf ps) ps.length)):=h1;exact h1.mono h.many
theorem gu.aUx(h:gu ps):Sz 800000000 (Er ps):=by rw[<-h.aG1];exact(h.aG2.mul (B0 (p:=1) (q:=6) (n:=3) d_ d_ d_)).mono d_
theorem aG3(h:gu ps):bw prog 8 [gT ps] (.tuple #[bK (Er ps),de 0]):=by
 have au:([gT ps].all aL.ok)=true:=by simp only[dT,eC,Jr,gp]
 have hv:=aUp (np:=ps.length) (xp:=bB ps) h.loops (dx ps) jm h.aG2 d_;rw[h.aG1]at hv;have gP:=h.valid;generalize Er ps=x at *;exact cC func8 au 10 (λw=>[.cR f8 5 _ gP (vy .nil),.cR f8 9 _ hv (vy .nil)])
theorem aUy(h:gu ps)(h1:1<=d)(h2:d<=30000):bw prog 12 [gT ps,.p (vI d)] (.tuple #[bK (Er ps*gE d 1000),de 0]):=by
 have au:([gT ps,.p (vI d)].all aL.ok)=true:=by simp only[dT,eC,Jr,jy,gp];rfl
 have hv:=aG3 h;have bC:=h.aUx;have hr:Sz 16 (gE (d:Int) 1000):=B0 d_ (by rw[xB];omega) d_;have mr:=Ya (p:=(d:Int)) (q:=1000) (n:=16) d_ (by rw[xB];omega) d_ d_;have ml:=nh bC hr d_;generalize Er ps=x at *;generalize gE (d:Int) 1000=y at *;exact cC func12 au 30 (λw=>[.cR f12 10 _ hv (vy .nil),.lt 20 d 1 false (aO o_),.gt 23 d 30000 false (aO o_),mr.at 28,ml.at 29])
theorem aUz{n:Nat}(hx:Sz n x)(hn:n+30<=az):aB prog 14 [bK x] (.tuple #[bK (x*gE 1 200),de 0]):=by have hr:Sz 8 (gE 1 200):=B0 d_ d_ d_;have mr:=Ya (p:=1) (q:=200) (n:=8) d_ d_ d_ d_;have ml:=nh hx hr o_;generalize gE 1 200=y at *;exact bo func14 (λ_=>[(kG hx o_).at 5,mr.at 9,ml.at 10])
end
end
section
open CR OF
open V3 (dot av cE smul)
section
variable{Bs:aa}{vs:e_}{d v:V3 K}{m q i:Nat}{lo hi:K}
def tw(d:V3 K)(vs:e_):Nat->K
 |0=>0
 |i+1=>if i=0 then dot (aJ vs i) d else if decide (OF.aD (dot (aJ vs i) d-tw d vs i)<0)then dot (aJ vs i) d else tw d vs i
def tx(d:V3 K)(vs:e_):Nat->K
 |0=>0
 |i+1=>if i=0 then dot (aJ vs i) d else if decide (OF.aD (dot (aJ vs i) d-tx d vs i)>0)then dot (aJ vs i) d else tx d vs i
def Cs(n i:Nat):aN:=[(27,vI i),(25,sl 1 n),(26,vI n),(3,aX 4),(4,aX 5),(5,aX 6)]
def uA(vs:e_)(d:V3 K)(lo hi:ah):aH:=[(1,.view (aG vs)),(4,.aI (cr d).cs 38),(5,.aI lo 33),(6,.aI hi 33)]
theorem aG4{lo hi:ah}(h1:lo.all flat=true)(h2:hi.all flat=true):∀ x∈uA vs d lo hi,fe 7 x.2:=λx hx=>by
 simp only[uA,ct,iX,iY]at hx;rcases hx with rfl|rfl|rfl|rfl
 ·exact λv hv=>gB (bd.1 (cW vs) v hv)
 ·exact λx hx=>gB (bd.1 (show((cr d).cs.all flat)=true from k_) x hx)
 ·exact λv hv=>gB (bd.1 h1 v hv)
 ·exact λv hv=>gB (bd.1 h2 v hv)
theorem aUA(hl:0<vs.length)(hv:vs[0]?=some v)(sv:aw q v)(sd:aw m d)(hm:3*(q+m)+16<az)(h63:vs.length<1000000):
  af prog Bs 56 (aF (ag Tryz.f26 0)) (Cs vs.length 0) (uA vs d zN.cs zN.cs) 7 ⟨.normal,Cs vs.length 1,uA vs d (cO (dot v d)).cs (cO (dot v d)).cs,7⟩:=by
 have hd:=oz sv sd hm;generalize dot v d=x at *;exact qZ mixed 100 (fC:=9) [.lt 28 0 vs.length true (aE hl),.cM Tryz.f26 30 1 vs.length 0 30 hl k_,.ld Tryz.f26 31 38 1 (0*30) (.view (aG vs)) (aZ v) rfl (gD hv) k_,hd.at 34,.sum 53 0 1 1 rfl d_] k_ rfl k_ (aG4 k_ k_) k_
theorem aUB{b1 b2:Bool}(h0:i≠0)(gy:i<vs.length)(hv:vs[i]?=some v)(sv:aw q v)(sd:aw m d)(hm:3*(q+m)+16<az)(h63:vs.length<1000000)(pq:Sz nl lo)(sh:Sz nl hi)(hn:4*(3*(q+m)+14+nl)+24<=az)(h1:decide (OF.aD (dot v d-lo)<0)=b1)(h2:decide (OF.aD (dot v d-hi)>0)=b2):
  af prog Bs 56 (aF (ag Tryz.f26 0)) (Cs vs.length i) (uA vs d (cO lo).cs (cO hi).cs) 7 ⟨.normal,Cs vs.length (i+1),uA vs d (cO (if b1 then dot v d else lo)).cs (cO (if b2 then dot v d else hi)).cs,7⟩:=by
 have hd:=oz sv sd hm;have sx:Sz (3*(q+m)+14) (dot v d):=(sv.dot sd).mono o_;have c1:=kH sx pq hn;have c2:=kH sx sh hn;generalize dot v d=x at *;generalize OF.aD (x-lo)=z1 at *;generalize OF.aD (x-hi)=z2 at *;cases b1<;>cases b2<;>
  exact qZ mixed 100 (fC:=9) [.lt 28 i vs.length true (aE gy),.cM Tryz.f26 30 1 vs.length i 30 gy k_,.ld Tryz.f26 31 38 1 (i*30) (.view (aG vs)) (aZ v) rfl (gD hv) k_,hd.at 34,.fZ 36 i 0 false (aO h0),c1.at 40,.rw 41 (.bool (decide (z1<0))) (.bool _) (by rw[h1]),.fZ 45 i 0 false (aO h0),c2.at 49,.rw 50 (.bool (decide (z2>0))) (.bool _) (by rw[h2]),.sum 53 i 1 (i+1) rfl o_] k_ rfl k_ (aG4 k_ k_) k_
theorem RC(sv:∀ v∈vs,aw q v)(sd:aw m d):∀ i,i<=vs.length->i≠0->Sz (3*(q+m)+14) (tw d vs i)/\Sz (3*(q+m)+14) (tx d vs i)
 |0,_,h=>absurd rfl h
 |i+1,hi,_=>by
  have sx:Sz (3*(q+m)+14) (dot (aJ vs i) d):=((sv _ (cH (iy (show i<vs.length by omega)))).dot sd).mono o_;unfold tw tx;by_cases h0:i=0
  ·rw[ax h0,ax h0];exact⟨sx,sx⟩
  ·obtain⟨h1,h2⟩:=RC sv sd i o_ h0;rw[ao h0,ao h0];constructor<;>split<;>assumption
def Es(i:Nat)(x:K):ah:=if i=0 then zN.cs else(cO x).cs
theorem aUC{zl zh:Nat->K}(hl:0<vs.length)(sv:∀ v∈vs,aw q v)(sd:aw m d)(hm:3*(q+m)+16<az)(hn:4*(3*(q+m)+14+nl)+24<=az)(h63:vs.length<1000000)
  (B6:zl 1=dot (aJ vs 0) d/\zh 1=dot (aJ vs 0) d) (bC:∀ i,i<=vs.length->i≠0->Sz nl (zl i)/\Sz nl (zh i))
  (hs:∀ i,i<vs.length->i≠0->zl (i+1)=(if decide (OF.aD (dot (aJ vs i) d-zl i)<0)then dot (aJ vs i) d else zl i)/\zh (i+1)=(if decide (OF.aD (dot (aJ vs i) d-zh i)>0)then dot (aJ vs i) d else zh i)) :
  af prog Bs 56 (.block 0 (ag Tryz.f26 0)) (Cs vs.length 0) (uA vs d zN.cs zN.cs) 7 ⟨.normal,[(4,aX 5),(5,aX 6)],uA vs d (cO (zl vs.length)).cs (cO (zh vs.length)).cs,7⟩:=by
 have mU:∀ a b:K,af prog Bs 56 (aF (ag Tryz.f26 0)) (Cs vs.length vs.length) (uA vs d (cO a).cs (cO b).cs) 7 ⟨.exit 0,[(4,aX 5),(5,aX 6)],uA vs d (cO a).cs (cO b).cs,7⟩:=λa b=>aC [.lt 28 vs.length vs.length false s_];have bj:vs.length≠0:=by omega
 have tD:∀ i,i<vs.length->af prog Bs 56 (aF (ag Tryz.f26 0)) (Cs vs.length i) (uA vs d (Es i (zl i)) (Es i (zh i))) 7 ⟨.normal,Cs vs.length (i+1),uA vs d (Es (i+1) (zl (i+1))) (Es (i+1) (zh (i+1))),7⟩:=λi hi=>by
  have hv:=iy hi;have RD:=sv _ (cH hv);unfold Es;rw[ao (Nat.succ_ne_zero i),ao (Nat.succ_ne_zero i)];by_cases h0:i=0
  ·subst h0;rw[ax rfl,ax rfl,B6.1,B6.2];exact aUA hl hv RD sd hm h63
  ·obtain⟨s1,s2⟩:=bC i o_ h0;rw[(hs i hi h0).1,(hs i hi h0).2,ao h0,ao h0];exact aUB (v:=aJ vs i) (lo:=zl i) (hi:=zh i) (i:=i) h0 hi hv RD sd hm h63 s1 s2 hn rfl rfl
 have:=ch (P:=prog) (B:=Bs) (N:=56) vs.length (λi=>Cs vs.length i) (λi=>uA vs d (Es i (zl i)) (Es i (zh i))) (λi k _=>Ds (by rfl) k) tD (r:=⟨.exit 0,[(4,aX 5),(5,aX 6)],uA vs d (cO (zl vs.length)).cs (cO (zh vs.length)).cs,7⟩) (by have:=mU (zl vs.length) (zh vs.length);unfold Es;rw[ao bj,ao bj];exact this) n_
 exact bO (id:=0) this
end
theorem aUD{d:V3 K}(h:gu ps)(hl:0<(bf ps).length)(sd:aw m d)(hd:d≠0)(hm:m<=1000):bw prog 26 [gT ps,.p (aZ d)] (.tuple #[bK (tw d (bf ps) (bf ps).length),bK (tx d (bf ps) (bf ps).length),de 0]):=by
 have au:([gT ps,.p (aZ d)].all aL.ok)=true:=by simp only[dT,eC,Jr,jy,gp];rfl
 have nK:(10000000:Nat)<=az:=by decide
 have gP:=h.valid;have vd:=iZ sd o_;have zd:=ub sd o_;rw[aO hd]at zd
 have lo:=λBs=>aUC (Bs:=Bs) (vs:=bf ps) (d:=d) (m:=m) (q:=4000) (nl:=3*(4000+m)+14) (zl:=tw d (bf ps)) (zh:=tx d (bf ps)) hl h.yA.1 sd o_ o_ (by have:=h.yA.2;omega) ⟨rfl,rfl⟩
  (λi hi h0=>RC h.yA.1 sd i hi h0) (λi hi h0=>⟨by rw[tw,ao h0],by rw[tx,ao h0]⟩)
 generalize tw d (bf ps) (bf ps).length=a at *;generalize tx d (bf ps) (bf ps).length=b at *;exact cC func26 au 56 (λw=>[.cR Tryz.f26 11 _ gP (vy .nil),vd.at 15,zd.at 20,.code 0 _ _ _ _ _ (lo _)])
section
variable{F:Type}[OF F]
end
section
variable{ps:c_}{vs:e_}
end
end
section
open V3 (dot av cE smul)
section
variable{vs:e_}{fs:f_}{xp:ah}{np:Nat}{s:V3 K}{p q r:V3 K}
end
section
variable{vs:e_}{xp:ah}{np:Nat}{Fs:List (Nat×List Nat)}{Q M:Nat}
end
end
section
open CR OF
open V3 (dot av cE smul)
section
variable{ps:c_}{m:V3 K}{d:K}
end
def vz(s p q r:V3 K):V3 K:=s+av (q-p) (r-p)
def Et(l:e_):V3 K:=kk vz 0 l (l.length-2)
section
variable{F:Type}[OF F]
end
section
variable{ps:c_}{vs:e_}
end
section
variable{F:Type}[OF F]
end
def pr(l:e_):V3 K:=smul (Et l) (gE 1 2)
section
variable{ps:c_}{vs:e_}
theorem RE{q:Nat}{l:e_}(hl:∀ v∈l,aw q v):∀ t,t+2<=l.length->aw (1+t*(8*q+14)) (kk vz 0 l t)
 |0,_=>by rw[kS];exact Ir
 |t+1,h=>by have ih:=RE hl t o_;unfold kk vz;rw[aT (l:=l) (i:=0) o_,aT (l:=l) (i:=t+1) o_,aT (l:=l) (i:=t+2) o_];have h0:=hl _ (cY (l:=l) (n:=0) o_);exact(ih.add (((hl _ (cY (l:=l) (n:=t+1) o_)).sub h0).av ((hl _ (cY (l:=l) (n:=t+2) o_)).sub h0))).mono (by rw[sA t];omega)
end
end
theorem aXb{c:Nat->Int}{d:Int}{n:Nat}(hd:d≠0)(h:dL n (mY c d))(hn:n<=az):aB prog 155 [ou c,aV d] (.tuple #[gH (mY c d).low,.int .i64 0]):=by
 have hl:=aWw hd h hn;have hs:(d.sign==0)=false:=by simp;exact hd
 exact eF mixed func155 200 (λ_=>[(aW9 (c 0)).at 14,(aW9 (c 1)).at 14,(aW9 (c 2)).at 14,(aW9 (c 3)).at 14,(aW9 d).at 19,(aWF d).at 24,.rw 25 (.bool (d.sign==0)) a_ (by rw[hs]),hl.at 29]) (λ_=>k_) k_ k_
theorem aWB{p q:Int}{n:Nat}(hq:q≠0)(h1:p.natAbs<2^n)(h2:q.natAbs<2^n)(hn:n<=63):aB prog 105 [.int .i64 p,.int .i64 q] (.tuple #[gH (Fr.mk p 0 0 0 q).low,.int .i64 0]):=by
 have h63:2^n<=9223372036854775808:=di (df d_ hn) d_;have hp:0<2^n:=cI d_;have hm:=aXb (c:=λi=>match i with|0=>p|_=>0) (d:=q) (n:=n) hq ⟨h1,hp,hp,hp,h2⟩ (by unfold az;omega);have e:ou (λi=>match i with|0=>p|_=>0)=.agg #[.bool (bt p).neg,.string (BA (bt p).aW),.bool false,.string ⟨#[]⟩,.bool false,.string ⟨#[]⟩,.bool false,.string ⟨#[]⟩]:=by show Value.agg #[.bool (bt p).neg,.string (BA (bt p).aW),.bool (bt 0).neg,.string (BA (bt 0).aW),.bool (bt 0).neg,.string (BA (bt 0).aW),.bool (bt 0).neg,.string (BA (bt 0).aW)]=_;rw[Bz];rfl
 rw[e]at hm;exact bo func105 (λ_=>[(aXm (z:=p) o_ o_).at 7,(aXm (z:=q) o_ o_).at 10,hm.at 11])
section
open CR OF
open V3 (dot av cE smul)
section
variable{Bs:aa}{l vs:e_}{ps:c_}{a x y v s:V3 K}{i t n q np:Nat}{L:l_}{f:Nat×List Nat}
theorem aWD(l:e_):([k6 l].all aL.ok)=true:=by show((aG l).all flat&&true)=true;rw[cW];rfl
theorem aUE(hi:i<l.length)(hv:l[i]?=some v)(sv:aw q v)(hq:q<=az)(h63:l.length<1000000):
  af prog Bs 16 (aF (ag f125 0)) [(3,vI i),(0,sl 0 l.length)] [(0,.view (aG l))] 1 ⟨.normal,[(3,vI (i+1)),(0,sl 0 l.length)],[(0,.view (aG l))],1⟩:=
 aC [.lt 7 i l.length true (aE hi),.cM f125 12 0 l.length i 30 hi k_,.ld f125 13 38 0 (i*30) (.view (aG l)) (aZ v) rfl (gD hv) k_,(aXp sv hq).at 14,.sum 9 i 1 (i+1) rfl o_]
theorem aUF(hl:∀ v∈l,aw q v)(hq:q<=az)(h63:l.length<1000000):bw prog 125 [k6 l] b_:=by
 have lo:∀ B:aa,af prog B 16 (.block 0 (ag f125 0)) [(3,vI 0),(0,sl 0 l.length)] [(0,.view (aG l))] 1 ⟨.normal,[],[(0,.view (aG l))],1⟩:=λB=>
  bO (id:=0) (ch (r:=⟨.exit 0,[],[(0,.view (aG l))],1⟩) l.length (λi=>[(3,vI i),(0,sl 0 l.length)]) (λ_=>[(0,.view (aG l))]) (λi k _=>Iff.rfl) (λi hi=>aUE hi (aT hi) (hl _ (cY hi)) hq h63) (aC [.lt 7 l.length l.length false s_]) n_)
 exact cC func125 (aWD l) 16 (λw=>[.code 0 _ _ _ _ _ (lo _)])
def Js(n i:Nat):aN:=[(5,vI i),(0,sl 0 n),(2,aX 1),(4,aX 2)]
def yB(l:e_)(s:V3 K):aH:=[(0,.view (aG l)),(1,.aI lX.cs 38),(2,.aI (cr s).cs 38)]
theorem aUG(hl:t+2<l.length)(h0:l[0]?=some a)(h1:l[t+1]?=some x)(h2:l[t+2]?=some y)(sa:aw q a)(sx:aw q x)(sy:aw q y)(ss:aw n s)(hn:n+(8*q+50)<az)(h63:l.length<1000000):
  af prog Bs 47 (aF (ag f72 0)) (Js l.length (t+1)) (yB l s) 3 ⟨.normal,Js l.length (t+1+1),yB l (vz s a x y),3⟩:=by
 have c1:=aW1 sx sa o_;have c2:=aW1 sy sa o_;have z1:=sx.sub sa;have z2:=sy.sub sa;have c3:=aWv z1 z2 o_;have c4:=aW0 ss (z1.av z2) o_;unfold vz;generalize s+av (x-a) (y-a)=s' at *;generalize av (x-a) (y-a)=e at *;generalize x-a=e1 at *;generalize y-a=e2 at *;exact aC [.sum 14 (t+1) 1 (t+2) rfl o_,.lt 17 (t+2) l.length true (aE hl),.cM f72 23 0 l.length (t+1) 30 o_ k_,.ld f72 24 38 0 ((t+1)*30) (.view (aG l)) (aZ x) rfl (gD h1) k_,.cM f72 26 0 l.length 0 30 o_ k_,.ld f72 27 38 0 (0*30) (.view (aG l)) (aZ a) rfl (gD h0) k_,c1.at 28,.sum 31 (t+1) 1 (t+2) rfl o_,.cM f72 32 0 l.length (t+2) 30 hl k_,.ld f72 33 38 0 ((t+2)*30) (.view (aG l)) (aZ y) rfl (gD h2) k_,.cM f72 35 0 l.length 0 30 o_ k_,.ld f72 36 38 0 (0*30) (.view (aG l)) (aZ a) rfl (gD h0) k_,c2.at 37,c3.at 38,c4.at 39,.sum 19 (t+1) 1 (t+1+1) rfl o_]
theorem aUH{z:Nat->V3 K}(pq:∀ v∈l,aw q v)(h2:2<=l.length)(hz:∀ t,t+2<l.length->z (t+1)=vz (z t) ((l[0]?).getD 0) ((l[t+1]?).getD 0) ((l[t+2]?).getD 0))(hs:∀ t,t+2<=l.length->aw n (z t))(hn:n+(8*q+50)<az)(h63:l.length<1000000):
  af prog Bs 47 (.block 0 (ag f72 0)) (Js l.length 1) (yB l (z 0)) 3 ⟨.normal,[(2,aX 1),(4,aX 2)],yB l (z (l.length-2)),3⟩:=by
 obtain⟨c,hc⟩:∃ c,l.length=c+2:=⟨l.length-2,by omega⟩;rw[show l.length-2=c by omega];have mU:∀ s:V3 K,af prog Bs 47 (aF (ag f72 0)) (Js l.length (c+1)) (yB l s) 3 ⟨.exit 0,[(2,aX 1),(4,aX 2)],yB l s,3⟩:=λs=>aC [.sum 14 (c+1) 1 (c+2) rfl o_,.lt 17 (c+2) l.length false (aO o_)];refine bO (id:=0) (ch (r:=⟨.exit 0,[(2,aX 1),(4,aX 2)],yB l (z c),3⟩) c (λt=>Js l.length (t+1)) (λt=>yB l (z t)) (λi k _=>Ds (by rfl) k) (λt ht=>?_) (mU _) n_);have g0:=aT (l:=l) (i:=0) o_;have g1:=aT (l:=l) (i:=t+1) o_;have g2:=aT (l:=l) (i:=t+2) o_;have s0:=pq _ (cY (l:=l) (n:=0) o_);have s1:=pq _ (cY (l:=l) (n:=t+1) o_);have s2:=pq _ (cY (l:=l) (n:=t+2) o_);show af _ _ _ _ _ _ _ ⟨_,_,yB l (z (t+1)),_⟩;rw[hz t o_,g0,g1,g2];exact aUG o_ g0 g1 g2 s0 s1 s2 (hs t o_) hn h63
theorem aUI(pq:∀ v∈l,aw q v)(h2:2<=l.length)(hn:1+l.length*(8*q+14)+(8*q+100)<az)(h63:l.length<1000000):bw prog 72 [k6 l] (.tuple #[aZ (pr l),de 0]):=by
 have bC:∀ t,t+2<=l.length->aw (1+l.length*(8*q+14)) (kk vz 0 l t):=λt ht=>(RE pq t ht).mono (by have:=eh (8*q+14) (show t<=l.length by omega);omega)
 have lo:=λBs=>aUH (Bs:=Bs) (z:=kk vz 0 l) pq h2 (λt _=>rfl) bC o_ h63;have hk:=bC (l.length-2) o_;have hr:Sz 4 (gE 1 2):=B0 (p:=1) (q:=2) (n:=4) d_ d_ d_;have sc:=aWO hk hr o_;have h0:aB prog 17 [.int .i64 0,.int .i64 0,.int .i64 0] (aZ 0):=aWH (a:=0) (b:=0) (c:=0) d_ d_ d_;have rt:aB prog 105 [.int .i64 1,.int .i64 2] (.tuple #[bK (gE 1 2),.int .i64 0]):=aWB (n:=4) d_ d_ d_ d_;have pp:=aUF pq o_ h63;have lo:∀ Bs,af prog Bs 47 (.block 0 (ag f72 0)) (Js l.length 1) (yB l 0) 3 ⟨.normal,[(2,aX 1),(4,aX 2)],yB l (Et l),3⟩:=lo;have sc:aB prog 48 [aZ (Et l),bK (gE 1 2)] (aZ (pr l)):=sc;generalize pr l=r at *;generalize Et l=z at *;generalize gE 1 2=k at *;exact cC func72 (aWD l) 47 (λw=>[.cR f72 9 [sl 0 l.length] pp (.w (x:=.view (aG l)) rfl (cW _) oB .nil),h0.at 12,.code 0 _ _ _ _ _ (lo _),rt.at 41,sc.at 46])
def RF(j:Nat):aN:=[(7,vI j),(6,cy 5),(2,aX 3),(5,sl 6 j)]
def Eu(np:Nat)(vs:e_)(L:l_):aH:=[(1,.view (aG vs)),(5,.fact (eg (cU L))),(3,.aI [sl 0 np,sl 1 vs.length,cy 2] 26)]
theorem aUJ:∀ x∈Eu np vs L,fe 6 x.2:=λx hx=>by
 simp only[Eu,ct,iX,iY]at hx;rcases hx with rfl|rfl|rfl
 ·exact λv hv=>gB (bd.1 (cW vs) v hv)
 ·exact n_
 ·intro v hv;have hv:v∈[sl 0 np,sl 1 vs.length,cy 2]:=hv;simp at hv;rcases hv with rfl|rfl|rfl<;>rfl
theorem aUK{z:Nat}{v:V3 K}(hj:j<(cU L).length)(hz:(cU L)[j]?=some (z:Int))(hv:vs[z]?=some v)(hl:acc.length=j)(h63:(cU L).length<1000000):
  af prog Bs 32 (aF (ag Tryz.f46 0)) (RF j) (Eu np vs L++marks 6 (jb acc)) 7 ⟨.normal,fj 6 [some 9] (RF (j+1)),Eu np vs L++dB [some 9] (jb (acc++[v])),10⟩:=by
 have ak:=(eA.1 hv).1;have hc:(aG acc).length=j*30:=by rw[nN,hl]
 exact aC [.step 16 (aA Tryz.f46 16) [cy 5] [(5,some (.fact (eg (cU L))))] (vI (cU L).length) [] (tt k_),.lt 17 j (cU L).length true (aE hj),.step 25 (aA Tryz.f46 25) [cy 5,vI j] [(7,none),(5,some (.fact (eg (cU L))))] (aX 7) [(7,.view [iV z])] (X6 k_ hz),.cM Tryz.f46 27 1 vs.length z 30 ak k_,.ld Tryz.f46 28 38 1 (z*30) (.view (aG vs)) (aZ v) rfl (gD hv) k_,.bs Tryz.f46 29 8 1 38 30 [0] (RV.v lX) [aZ v] (cr v).cs.toArray (.row (cr v).cs 38 30) rfl (λv hv=>by simp at hv;subst hv;rfl) (λv hv=>fD.flat _ v hv) k_ rfl d_ d_ k_,.oX Tryz.f46 30 9 6 j 1 (j+1) 38 30 360 (aG acc) 8 (.row (cr v).cs 38 30) (aG (acc++[v])) rfl rfl rfl hc (by rw[<-Ix];congr 1) (fD.one _) d_ (by simp[maxLen];omega) o_ k_,.sum 19 j 1 (j+1) rfl o_]
theorem aUL(hL:∀ x∈L,x<vs.length)(h63:L.length<1000000):
  af prog Bs 32 (.block 0 (ag Tryz.f46 0)) (fj 6 [none] (RF 0)) (Eu np vs L++dB [none] (jb [])) 6 ⟨.normal,[(5,sl 6 (cU L).length)],Eu np vs L++marks 6 (jb (c8 vs L)),7⟩:=by
 have hlen:(cU L).length=L.length:=dr ..
 have:=pH (P:=prog) (B:=Bs) (N:=32) (b:=aF (ag Tryz.f46 0)) (next:=6) (p:=1) (r:=⟨.exit 0,[(5,sl 6 (cU L).length)],Eu np vs L++marks 6 (jb (c8 vs L)),7⟩) (cU L).length
  (λj=>RF j) (λ_=>Eu np vs L) (λj=>jb (c8 vs (L.take j))) [none] (λ_ _=>rfl) (λj _=>⟨aUJ,Lq⟩) k_ k_
  (λj hj=>by
   have fK:j<L.length:=by omega
   have hq:L[j]?=some L[j]:=aT fK;have hz:(cU L)[j]?=some ((L[j]:Nat):Int):=by unfold cU;rw[qW,hq];rfl
   have e:c8 vs (L.take (j+1))=c8 vs (L.take j)++[aJ vs L[j]]:=by unfold c8;rw[sY,hq,rW];rfl
   rw[e];exact⟨[some 9],10,k_,aUK (Bs:=Bs) hj hz (iy (hL _ (cY fK))) (by unfold c8;rw[dr,jr];omega) o_⟩)
  (by rw[show L.take (cU L).length=L from j8 o_];generalize c8 vs L=a;exact aC [.step 16 (aA Tryz.f46 16) [cy 5] [(5,some (.fact (eg (cU L))))] (vI (cU L).length) [] (tt k_),.lt 17 (cU L).length (cU L).length false s_]) n_
 exact bO (id:=0) this
theorem RG(ps:c_)(i:Nat):([gT ps,.p (vI i)].all aL.ok)=true:=by simp only[dT,eC,Jr,jy,gp];rfl
theorem aG5(hf:(cT ps (bf ps) ps.length)[i]?=some f):(eH ps)[i]?=some ((f.1:Int),cU f.2):=by unfold eH;rw[qW,hf];rfl
theorem aUM(h:gu ps)(hf:(cT ps (bf ps) ps.length)[i]?=some f):kY prog 46 [gT ps,.p (vI i)] 38 30 f.2.length (aG (c8 (bf ps) f.2)):=by
 have hm:=GV h.proper h.Jq (cH hf);have hz:=h.yA.2;have hlen:(cU f.2).length=f.2.length:=dr ..;have lo:=λBs=>aUL (Bs:=Bs) (np:=ps.length) (vs:=bf ps) (L:=f.2) hm.2.2 o_;have Dq:=aG5 hf;have MD:(aG (c8 (bf ps) f.2)).length=(cU f.2).length*30:=by rw[nN];unfold c8 cU;rw[dr,dr]
 rw[<-hlen];generalize c8 (bf ps) f.2=a at *;exact vT (k:=6) mixed func46 (RG ps i) 100 (N:=32) k_ (λ_=>[.step 11 (aA Tryz.f46 11) [cy 2,vI i] [(4,none),(5,none),(2,some (.fact (iu (eH ps))))] (aX 4) [(4,.view [iV f.1,cy 5]),(5,.fact (eg (cU f.2)))] (GA k_ (pU.full _) Dq d_),.code 0 _ _ _ _ _ (lo _)]) (λ_=>k_) (cW a) MD
end
section
variable{Bs:aa}{l vs:e_}{ps:c_}{a x y v s:V3 K}{i t n q np:Nat}{L:l_}{f:Nat×List Nat}
theorem ME{c:ah}{t:TypeId}(h:c.all flat=true):fe m (.aI c t):=λv hv=>gB (bd.1 h v hv)
theorem aG6(h:gu ps)(hf:f∈cT ps (bf ps) ps.length):∃ a l,c8 (bf ps) f.2=a::l/\2<=(a::l).length/\(a::l).length<=1000/\∀ v∈a::l,aw 4000 v:=by
 have hm:=GV h.proper h.Jq hf;have hz:=h.yA;have hlen:(c8 (bf ps) f.2).length=f.2.length:=dr ..;have hs:∀ v∈c8 (bf ps) f.2,aw 4000 v:=λv hv=>by obtain⟨x,hx,rfl⟩:=dj.1 hv;exact hz.1 _ (cH (iy (hm.2.2 x hx)))
 generalize c8 (bf ps) f.2=dM at *
 match dM with
 |[]=>exfalso;simp at hlen;omega
 |a::l=>exact⟨a,l,rfl,by omega,by omega,hs⟩
theorem aUN{l:e_}(hl:∀ v∈l,aw 4000 v)(h2:2<=l.length)(h3:l.length<=1000):aw 33000000 (pr l):=by
 have k2:aw 32100000 (Et l):=(RE hl (l.length-2) o_).mono (by have:=eh (8*4000+14) (show l.length-2<=1000 by omega);omega)
 exact(k2.smul (B0 (p:=1) (q:=2) (n:=4) d_ d_ d_)).mono d_
theorem aUO{l:e_}(hl:∀ v∈l,aw 4000 v)(h2:2<=l.length)(h3:l.length<=1000):bw prog 72 [k6 l] (.tuple #[aZ (pr l),de 0]):=
 aUI hl h2 (by have:=eh (8*4000+14) h3;exact eV (Gy (Nx this 1) _) d_) o_
end
section
variable{Bs:aa}{vs:e_}{ps:c_}{d v:V3 K}{m q i:Nat}{lo hi:K}
def MF(n i:Nat):aN:=[(8,vI i),(0,sl 0 n),(3,aX 1),(4,aX 2),(5,aX 3),(6,aX 4),(7,aX 5)]
def yC(vs:e_)(d:V3 K)(lo hi:K):aH:=[(0,.view (aG vs)),(1,.aI (cr d).cs 38),(2,.aI gL.cs 33),(3,.aI gL.cs 33),(4,.aI (cO lo).cs 33),(5,.aI (cO hi).cs 33)]
theorem aUP:∀ x∈yC vs d lo hi,fe 6 x.2:=λx hx=>by
 simp only[yC,ct,iX,iY]at hx;rcases hx with rfl|rfl|rfl|rfl|rfl|rfl
 ·exact λv hv=>gB (bd.1 (cW vs) v hv)
 ·exact ME k_
 ·exact ME k_
 ·exact ME k_
 ·exact ME k_
 ·exact ME k_
theorem aUQ{b1 b2:Bool}(gy:i<vs.length)(hv:vs[i]?=some v)(sv:aw q v)(sd:aw m d)(hm:3*(q+m)+16<az)(h63:vs.length<1000000)(pq:Sz nl lo)(sh:Sz nl hi)(hn:4*(3*(q+m)+14+nl)+40<=az)(h1:decide (OF.aD (dot v d-lo)<0)=b1)(h2:decide (OF.aD (dot v d-hi)>0)=b2):
  af prog Bs 40 (aF (ag f70 0)) (MF vs.length i) (yC vs d lo hi) 6 ⟨.normal,MF vs.length (i+1),yC vs d (if b1 then dot v d else lo) (if b2 then dot v d else hi),6⟩:=by
 have hd:=aWQ sv sd hm;have sx:Sz (3*(q+m)+14) (dot v d):=(sv.dot sd).mono o_;have c1:=aWs sx pq hn;have c2:=aWs sx sh hn;generalize dot v d=x at *;generalize OF.aD (x-lo)=z1 at *;generalize OF.aD (x-hi)=z2 at *;cases b1<;>cases b2<;>
  exact qZ mixed 100 (fC:=7) [.lt 19 i vs.length true (aE gy),.cM f70 24 0 vs.length i 30 gy k_,.ld f70 25 38 0 (i*30) (.view (aG vs)) (aZ v) rfl (gD hv) k_,hd.at 27,c1.at 30,.rw 31 (.bool (decide (z1<0))) (.bool _) (by rw[h1]),c2.at 35,.rw 36 (.bool (decide (z2>0))) (.bool _) (by rw[h2]),.sum 21 i 1 (i+1) rfl o_] k_ rfl k_ aUP k_
theorem aUR{zl zh:Nat->K}(hl:0<vs.length)(sv:∀ v∈vs,aw q v)(sd:aw m d)(hm:3*(q+m)+16<az)(hn:4*(3*(q+m)+14+nl)+40<=az)(h63:vs.length<1000000)
  (bC:∀ i,i<=vs.length->i≠0->Sz nl (zl i)/\Sz nl (zh i))
  (hs:∀ i,i<vs.length->i≠0->zl (i+1)=(if decide (OF.aD (dot (aJ vs i) d-zl i)<0)then dot (aJ vs i) d else zl i)/\zh (i+1)=(if decide (OF.aD (dot (aJ vs i) d-zh i)>0)then dot (aJ vs i) d else zh i)) :
  af prog Bs 40 (.block 0 (ag f70 0)) (MF vs.length 1) (yC vs d (zl 1) (zh 1)) 6 ⟨.normal,[(4,aX 2),(5,aX 3),(6,aX 4),(7,aX 5)],yC vs d (zl vs.length) (zh vs.length),6⟩:=by
 obtain⟨c,hc⟩:∃ c,vs.length=c+1:=⟨vs.length-1,by omega⟩;have mU:∀ a b:K,af prog Bs 40 (aF (ag f70 0)) (MF vs.length vs.length) (yC vs d a b) 6 ⟨.exit 0,[(4,aX 2),(5,aX 3),(6,aX 4),(7,aX 5)],yC vs d a b,6⟩:=λa b=>aC [.lt 19 vs.length vs.length false s_];refine bO (id:=0) (ch (r:=⟨.exit 0,[(4,aX 2),(5,aX 3),(6,aX 4),(7,aX 5)],yC vs d (zl vs.length) (zh vs.length),6⟩) c (λt=>MF vs.length (t+1)) (λt=>yC vs d (zl (t+1)) (zh (t+1))) (λi k _=>Ds (by rfl) k) (λt ht=>?_) (by have:=mU (zl vs.length) (zh vs.length);rwa[hc]at this ⊢) n_);have hv:=iy (vs:=vs) (i:=t+1) o_;have RD:=sv _ (cH hv);obtain⟨s1,s2⟩:=bC (t+1) o_ o_;obtain⟨e1,e2⟩:=hs (t+1) o_ o_;show af _ _ _ _ _ _ _ ⟨_,_,yC vs d (zl (t+1+1)) (zh (t+1+1)),_⟩;rw[e1,e2];exact aUQ o_ hv RD sd hm h63 s1 s2 hn rfl rfl
theorem aUS(hl:0<vs.length)(sv:∀ v∈vs,aw 4000 v)(sd:aw m d)(hm:m<=1000)(h63:vs.length<1000000):bw prog 70 [k6 vs,.p (aZ d)] (.tuple #[bK (tw d vs vs.length),bK (tx d vs vs.length)]):=by
 have au:([k6 vs,.p (aZ d)].all aL.ok)=true:=by show((aG vs).all flat&&(true&&true))=true;rw[cW];rfl
 have nK:(10000000:Nat)<=az:=by decide
 have lo:=λBs=>aUR (Bs:=Bs) (vs:=vs) (d:=d) (m:=m) (q:=4000) (nl:=3*(4000+m)+14) (zl:=tw d vs) (zh:=tx d vs) hl sv sd o_ o_ h63 (λi hi h0=>RC sv sd i hi h0) (λi hi h0=>⟨by rw[tw,ao h0],by rw[tx,ao h0]⟩);have hv:=iy hl;have dt:=aWQ (sv _ (cH hv)) sd o_;have e1:tw d vs 1=dot (aJ vs 0) d:=rfl;have e2:tx d vs 1=dot (aJ vs 0) d:=rfl;rw[e1,e2]at lo;clear e1 e2;have iI:=gD hv;generalize tw d vs vs.length=a at *;generalize tx d vs vs.length=b at *;generalize dot (aJ vs 0) d=x at *;exact cC func70 au 40 (λw=>[.cM f70 11 0 vs.length 0 30 hl k_,.ld f70 12 38 0 (0*30) (.view (aG vs)) (aZ (aJ vs 0)) rfl iI k_,dt.at 14,.code 0 _ _ _ _ _ (lo _)])
theorem aUT(h:gu ps)(gP:bw prog 37 [gT ps] b_)(sd:aw m d)(hd:d≠0)(hm:m<=1000):bw prog 27 [gT ps,.p (aZ d)] (.tuple #[bK (tw d (bf ps) (bf ps).length),bK (tx d (bf ps) (bf ps).length),de 0]):=by
 have au:([gT ps,.p (aZ d)].all aL.ok)=true:=by simp only[dT,eC,Jr,jy,gp];rfl
 have nK:(10000000:Nat)<=az:=by decide
 have vd:=aXp sd o_;have zd:=aXs sd o_;rw[aO hd]at zd;have hz:=h.yA;have pe:=aUS (by have:=aGB h.cl h.proper h.full;omega) hz.1 sd hm o_;generalize tw d (bf ps) (bf ps).length=a at *;generalize tx d (bf ps) (bf ps).length=b at *;exact cC func27 au 32 (λw=>[vd.at 10,zd.at 14,.cR Tryz.f27 18 _ gP (vy .nil),.cR Tryz.f27 27 [sl 1 (bf ps).length,aZ d] pe (.w (x:=.view (aG (bf ps))) rfl (cW _) oB (.p k_ .nil))])
end
end
section
open V3 (dot av cE smul)
theorem RH{n:Nat}(bC:dL n (fJ r))(hn:n<=az):aB prog 54 [r.v] (.bool (kK r)):=by
 have va:=sJ r.a.neg r.a.aW;have vb:=sJ r.b.neg r.b.aW;have vc:=sJ r.c.neg r.c.aW;have ve:=sJ r.e.neg r.e.aW;have vd:=sJ r.d.neg r.d.aW;change aB _ _ _ (.bool (ft r.a))at va;change aB _ _ _ (.bool (ft r.b))at vb;change aB _ _ _ (.bool (ft r.c))at vc;change aB _ _ _ (.bool (ft r.e))at ve;change aB _ _ _ (.bool (ft r.d))at vd;by_cases aY:(ft r.a&&(ft r.b&&(ft r.c&&(ft r.e&&ft r.d))))=true
 ·simp only[cZ]at aY;obtain⟨ha,hb,hc,he,hd⟩:=aY;have er:r=rm (fJ r):=by obtain⟨a,b,c,e,d⟩:=r;show RN.mk a b c e d=RN.mk (bt (dV a)) (bt (dV b)) (bt (dV c)) (bt (dV e)) (bt (dV d));rw[wo ha,wo hb,wo hc,wo he,wo hd]
  have e2:kK r=(decide (0<(fJ r).d)&&decide ((fJ r).g=1)):=by unfold kK;rw[ha,hb,hc,he,hd];rfl
  rw[e2];clear e2 va vb vc ve vd ha hb hc he hd;generalize fJ r=f at *;subst er;have hc:=Ux (c:=co f) (d:=f.d) bC hn;have e:mY (co f) f.d=f:=rfl;rw[e]at hc;have hs:decide (f.d.sign>0)=decide (0<f.d):=pD.2 ⟨λh=>aA9.1 (by have:=Dp f.d;omega),λh=>by rw[zu h];decide⟩;have one:(bt 1).Sm:=rp (n:=1) d_ d_;have hgs:f.g<2^n:=tV (tV (tV (tV bC.2.2.2.2 bC.1) bC.2.1) bC.2.2.1) bC.2.2.2.1;have sg':(bt (f.g:Int)).Sm:=rp (n:=n) (by rw[xB];exact hgs) hn;generalize hP:decide (0<f.d)=t at *;generalize hG:decide (f.g=1)=u at *;have heq:(if(true:Bool)then u else !u)=true↔bt (f.g:Int)=bt 1:=by rw[ax rfl,<-hG,zW];exact⟨λh=>by rw[h];rfl,λh=>by have:=vR h;omega⟩
  refine eF mixed func54 100 (λ_=>[(kf f.a).at 11,(kf f.b).at 11,(kf f.c).at 11,(kf f.e).at 11,(kf f.d).at 16,(om f.d).at 20,.rw 21 (.bool (decide (f.d.sign>0))) (.bool t) (by rw[hs]),hc.at 28,(ke (z:=1) d_).at 29,.step 30 (aA f54 30) _ _ _ _ (zD (neg:=true) k_ (bt f.g) (bt 1) sg' one (b:=u) heq)]) (λ_=>?_) k_ ?_<;>cases t<;>kernel_rfl
 ·have e2:kK r=false:=Ql.2 λh=>aY (by unfold kK at h;simp only[cZ]at h ⊢;exact⟨h.1,h.2.1,h.2.2.1,h.2.2.2.1,h.2.2.2.2.1⟩);rw[e2];generalize ft r.a=a at *;generalize ft r.b=b at *;generalize ft r.c=c at *;generalize ft r.e=e at *;generalize ft r.d=d at *;refine eF mixed func54 100 (λ_=>[va.at 11,vb.at 11,vc.at 11,ve.at 11,vd.at 16]) (λ_=>?_) k_ k_;cases a<;>cases b<;>cases c<;>cases e<;>cases d<;>first|exact absurd rfl aY|kernel_rfl
theorem aG7{r:RV}{n:Nat}(h:IX n r)(hn:n<=az):aB prog 67 [r.v] (.bool (rM r)):=by have:=FV (RH h.1 hn) (RH h.2.1 hn) (RH h.2.2 hn);rw[Bool.and_assoc]at this;exact this
theorem aUU{r:RP}{n:Nat}(h:vt n r)(hn:n<=az):aB prog 141 [r.v] (.bool (mF r)):=by
 have hv:=aG7 h.1 hn;have hd:=RH h.2 hn;unfold mF;rcases hb:rM r.n with _|_
 ·rw[hb]at hv;exact bo func141 (λ_=>[hv.at 5])
 ·rw[hb]at hv;have hz:=ub (L0 hb h.1) hn;unfold aZ at hz;rw[<-LY hb]at hz;by_cases h0:vZ r.n=0
  ·rw[aE h0]at hz;rw[aO (λe=>e h0)];exact bo func141 (λ_=>[hv.at 5,hz.at 9])
  ·rw[aO h0]at hz;rw[aE h0];exact bo func141 (λ_=>[hv.at 5,hz.at 9,hd.at 15])
section
variable{rs:List RP}{vs:List RV}{fs:f_}{m:Nat}
theorem aUV(hs:∀ x∈rs,vt m x)(hm:m<=az)(h63:rs.length<9223372036854775807)(hb:rs.all mF=false):bw prog 83 [.r rs.length (dw rs)] (.tuple #[Ec,de 1]):=by
 have hc:=aFd (g:=140) (ps:=rs) (b:=λx=>!mF x) k_ h63 (λr hr=>aFe (aUU (hs r hr) hm));have e:rs.any (λx=>!mF x)=true:=by rw[<-List.not_all_eq_any_not,hb];rfl
 rw[e]at hc;have au:([aL.r rs.length (dw rs)].all aL.ok)=true:=by simp only[dT,eC,Xf,gp]
 exact cC func83 au 33 (λ_=>[.cR f83 7 [sl 0 rs.length,qQ 140] hc (.w (x:=.view (dw rs)) rfl (gK ja rs) Xg (.p rfl .nil))])
theorem aUW(hs:∀ x∈rs,vt m x)(hm:m<=az)(h63:rs.length<9223372036854775807)(hb:rs.all mF=false):bw prog 35 [.s rs.length (dw rs) vs.length (cV vs) (iA fs)] a_:=by
 have oJ:=aUV hs hm h63 hb;have au:([aL.s rs.length (dw rs) vs.length (cV vs) (iA fs)].all aL.ok)=true:=by show(((dw rs).all flat&&((cV vs).all flat&&true))&&true)=true;rw[gK ja,gK fD];rfl
 exact cC func35 au 29 (λw=>[.cR f35 9 [sl 0 rs.length] oJ (.w (x:=.view (dw rs)) rfl (gK ja rs) Xg .nil)])
end
end
section
open CR OF
open V3 (dot av cE smul)
section
variable{rs:List RP}{vs:List RV}{fs:f_}
theorem aUX(kR:Jl rs vs fs=true)(GP:rs.length<9223372036854775807)(iz:vs.length<9223372036854775807)(pW:fs.length<9223372036854775807):
  (bw prog 37 [kj rs vs fs] a_/\bw prog 35 [kj rs vs fs] a_)\/
  ∃ ps:c_,gu ps/\rs=ps.map db/\vs=(bf ps).map cr/\fs=eH ps/\bw prog 37 [kj rs vs fs] b_:=by
 unfold Jl Mj at kR;simp only[cZ]at kR;obtain⟨cK,⟨hrp,_,h9⟩,⟨hvw,aWk⟩,aWl⟩:=kR;rw[bd]at cK hrp hvw;have bC:∀ x∈rs,vt 24 x:=λx hx=>aQh (hrp x hx) d_;have aQ:∀ x∈vs,x.Sm:=λx hx=>aTO (hvw x hx) d_;have pT:∀ f∈fs,f.2.length<9223372036854775807:=λf hf=>eV (jz (cK f hf)) d_;by_cases aY:rs.all mF=true;rotate_left
 ·have aY:rs.all mF=false:=by simpa using aY
  exact .inl ⟨aTx bC d_ GP aY,aUW bC d_ GP aY⟩
 obtain⟨ers,jL⟩:=aTP aY;have cd:∀ q∈rs.map pZ,bM 24 q/\q.n≠0:=λq hq=>by refine⟨?_,jL q hq⟩;obtain⟨x,hx,rfl⟩:=dj.1 hq;exact aQg (bd.1 aY x hx) (bC x hx)
 have hlen:(rs.map pZ).length=rs.length:=dr ..;generalize hP:rs.map pZ=ps at *;subst ers;have GW:jl ps:=λq hq=>(cd q hq).2;have h9:ps.length<=9:=by rw[hlen];simpa using h9
 have aUY:rT ps 24 4000:=⟨h9,cd,by decide,by decide⟩;have gP:=aTy (vs:=vs) (fs:=fs) aUY (λhc hs=>by have hc:=Rf.1 hc;have hf:=aGz GW hs;have:=aGy hc GW hf;rw[yu hc GW hf]at this;exact this) aQ iz pW pT
 by_cases hvalid:Ek ps vs fs=true
 ·rw[hvalid]at gP;obtain⟨hc,hf,e1,e2⟩:=aTF GW hvalid;exact .inr ⟨ps,⟨h9,cd,hc,hf⟩,rfl,e1,e2,gP⟩
 have hvalid:Ek ps vs fs=false:=by simpa using hvalid
 rw[hvalid]at gP;have Gn:wz ps 24:=⟨by omega,λq hq=>(cd q hq).1,GW,by decide⟩;have hs:=aGk Gn aQ iz pW pT;have hB:Jf ps vs fs=false:=Ql.2 λh=>by unfold Jf at h;simp only[cZ,r6]at h;obtain⟨h1,h2,h3,h4⟩:=h;obtain⟨hc,hf⟩:=(aGx GW).1 (show GM ps=true by unfold GM;rw[h1,h2];rfl);have:=aTG hc GW hf;rw[<-h3,<-h4,hvalid]at this;cases this
 rw[hB]at hs;refine .inl ⟨gP,?_⟩;unfold Mt at hs;unfold kj;rw[dr];exact hs
end
section
variable{ps:c_}{rs:List RP}{vs:List RV}{fs:f_}{d:Int}
end
section
variable{rs:List RP}{vs:List RV}{fs:f_}{n:Nat}
end
section
theorem aUZ(ps:c_):kj (ps.map db) ((bf ps).map cr) (eH ps)=.s ps.length (bB ps) (bf ps).length (aG (bf ps)) (iA (eH ps)):=by unfold kj;rw[dr,dr];rfl
end
section
variable{Bs:aa}{g:FuncId}{l vs:e_}{a x y v s:V3 K}{i t n q:Nat}{L:l_}
theorem aU0(hc:fN prog g=true)(hi:i<l.length)(hv:l[i]?=some v)(h:aB prog g [aZ v] a_)(h63:l.length<1000000):
  af prog Bs 19 (aF (ag f201 0)) (ur g l.length i) [(0,.view (aG l))] 1 ⟨.normal,ur g l.length (i+1),[(0,.view (aG l))],1⟩:=
 aC [.lt 9 i l.length true (aE hi),.cM f201 14 0 l.length i 30 hi k_,.ld f201 15 38 0 (i*30) (.view (aG l)) (aZ v) rfl (gD hv) k_,.step 16 (aA f201 16) [qQ g,aZ v] [] a_ [] (pb (l:=[.p (aZ v)]) (x:=.tmp 11) (λw vs cv=>by
   cases cv with
   |cons h1 h2=>
    cases h2;cases h1;exact h w) (.p rfl .nil) k_ hc rfl),.sum 18 i 1 (i+1) rfl o_]
theorem aG8(l:e_)(g:FuncId):([k6 l,.p (qQ g)].all aL.ok)=true:=by show((aG l).all flat&&(true&&true))=true;rw[cW];rfl
theorem aU1(hc:fN prog g=true)(h63:l.length<1000000)(h:∀ v∈l,aB prog g [aZ v] a_):bw prog 201 [k6 l,.p (qQ g)] (.int .i64 (-1)):=by
 have lo:∀ B:aa,af prog B 19 (.block 0 (ag f201 0)) (ur g l.length 0) [(0,.view (aG l))] 1 ⟨.normal,[],[(0,.view (aG l))],1⟩:=λB=>
  bO (id:=0) (ch (r:=⟨.exit 0,[],[(0,.view (aG l))],1⟩) l.length (λi=>ur g l.length i) (λ_=>[(0,.view (aG l))]) (λi k _=>Iff.rfl) (λi hi=>by have hv:=aT hi;exact aU0 hc hi hv (h _ (cY hi)) h63) (aC [.lt 9 l.length l.length false s_]) n_)
 exact cC func201 (aG8 l g) 19 (λw=>[.code 0 _ _ _ _ _ (lo _)])
theorem aU2(hc:fN prog g=true)(h63:l.length<1000000)(h:∀ v∈l,aB prog g [aZ v] a_):bw prog 159 [k6 l,.p (qQ g)] a_:=
 cC func159 (aG8 l g) 9 (λw=>[.cR f159 7 [sl 0 l.length,qQ g] (aU1 hc h63 h) (.w (x:=.view (aG l)) rfl (cW _) oB (.p rfl .nil))])
theorem aU3(hv:aw q v)(hq:q<=az):aB prog 160 [aZ v] a_:=bo func160 (λ_=>[(iZ hv hq).at 4])
theorem aU4(hl:∀ v∈l,aw q v)(hq:q<=az)(h63:l.length<1000000):bw prog 113 [k6 l] b_:=by
 have au:([k6 l].all aL.ok)=true:=by show((aG l).all flat&&true)=true;rw[cW];rfl
 exact cC func113 au 6 (λw=>[.cR f113 4 [sl 0 l.length,qQ 160] (aU2 k_ h63 λv hv=>aU3 (hl v hv) hq) (.w (x:=.view (aG l)) rfl (cW _) oB (.p rfl .nil))])
def Ev(n i:Nat):aN:=[(5,vI i),(0,sl 0 n),(2,aX 1),(4,aX 2)]
def yD(l:e_)(s:V3 K):aH:=[(0,.view (aG l)),(1,.aI lX.cs 38),(2,.aI (cr s).cs 38)]
theorem aU5(hl:t+2<l.length)(h0:l[0]?=some a)(h1:l[t+1]?=some x)(h2:l[t+2]?=some y)(sa:aw q a)(sx:aw q x)(sy:aw q y)(ss:aw n s)(hn:n+(8*q+50)<az)(h63:l.length<1000000):
  af prog Bs 46 (aF (ag Tryz.f57 0)) (Ev l.length (t+2)) (yD l s) 3 ⟨.normal,Ev l.length (t+1+2),yD l (vz s a x y),3⟩:=by
 have c1:=vk sx sa o_;have c2:=vk sy sa o_;have z1:=sx.sub sa;have z2:=sy.sub sa;have c3:=sU z1 z2 o_;have c4:=BV ss (z1.av z2) o_;have w1:IntKind.i64.wrap (((t+2:Nat):Int)-1)=((t+1:Nat):Int):=by rw[dX];omega
 unfold vz;generalize s+av (x-a) (y-a)=s' at *;generalize av (x-a) (y-a)=e at *;generalize x-a=e1 at *;generalize y-a=e2 at *;exact aC [.lt 16 (t+2) l.length true (aE hl),.wr 22 .i64 (((t+2:Nat):Int)-1) ((t+1:Nat):Int) w1,.cM Tryz.f57 23 0 l.length (t+1) 30 o_ k_,.ld Tryz.f57 24 38 0 ((t+1)*30) (.view (aG l)) (aZ x) rfl (gD h1) k_,.cM Tryz.f57 26 0 l.length 0 30 o_ k_,.ld Tryz.f57 27 38 0 (0*30) (.view (aG l)) (aZ a) rfl (gD h0) k_,c1.at 28,.cM Tryz.f57 31 0 l.length (t+2) 30 hl k_,.ld Tryz.f57 32 38 0 ((t+2)*30) (.view (aG l)) (aZ y) rfl (gD h2) k_,.cM Tryz.f57 34 0 l.length 0 30 o_ k_,.ld Tryz.f57 35 38 0 (0*30) (.view (aG l)) (aZ a) rfl (gD h0) k_,c2.at 36,c3.at 37,c4.at 38,.sum 18 (t+2) 1 (t+1+2) o_ o_]
theorem aU6{z:Nat->V3 K}(pq:∀ v∈l,aw q v)(h2:2<=l.length)(hz:∀ t,t+2<l.length->z (t+1)=vz (z t) ((l[0]?).getD 0) ((l[t+1]?).getD 0) ((l[t+2]?).getD 0))(hs:∀ t,t+2<=l.length->aw n (z t))(hn:n+(8*q+50)<az)(h63:l.length<1000000):
  af prog Bs 46 (.block 0 (ag Tryz.f57 0)) (Ev l.length 2) (yD l (z 0)) 3 ⟨.normal,[(2,aX 1),(4,aX 2)],yD l (z (l.length-2)),3⟩:=by
 obtain⟨c,hc⟩:∃ c,l.length=c+2:=⟨l.length-2,by omega⟩;rw[show l.length-2=c by omega];have mU:∀ s:V3 K,af prog Bs 46 (aF (ag Tryz.f57 0)) (Ev l.length l.length) (yD l s) 3 ⟨.exit 0,[(2,aX 1),(4,aX 2)],yD l s,3⟩:=λs=>aC [.lt 16 l.length l.length false s_];refine bO (id:=0) (ch (r:=⟨.exit 0,[(2,aX 1),(4,aX 2)],yD l (z c),3⟩) c (λt=>Ev l.length (t+2)) (λt=>yD l (z t)) (λi k _=>Ds (by rfl) k) (λt ht=>?_) ?_ n_)
 ·have g0:=aT (l:=l) (i:=0) o_;have g1:=aT (l:=l) (i:=t+1) o_;have g2:=aT (l:=l) (i:=t+2) o_;have s0:=pq _ (cY (l:=l) (n:=0) o_);have s1:=pq _ (cY (l:=l) (n:=t+1) o_);have s2:=pq _ (cY (l:=l) (n:=t+2) o_);show af _ _ _ _ _ _ _ ⟨_,_,yD l (z (t+1)),_⟩;rw[hz t o_,g0,g1,g2];exact aU5 o_ g0 g1 g2 s0 s1 s2 (hs t o_) hn h63
 ·have:=mU (z c);rw[show Ev l.length (c+2)=Ev l.length l.length by rw[hc]];exact this
theorem aU7(pq:∀ v∈l,aw q v)(h2:2<=l.length)(hn:1+l.length*(8*q+14)+(8*q+100)<az)(h63:l.length<1000000):bw prog 57 [k6 l] (.tuple #[aZ (pr l),de 0]):=by
 have au:([k6 l].all aL.ok)=true:=by show((aG l).all flat&&true)=true;rw[cW];rfl
 have bC:∀ t,t+2<=l.length->aw (1+l.length*(8*q+14)) (kk vz 0 l t):=λt ht=>(RE pq t ht).mono (by have:=eh (8*q+14) (show t<=l.length by omega);omega)
 have lo:=λBs=>aU6 (Bs:=Bs) (z:=kk vz 0 l) pq h2 (λt _=>rfl) bC o_ h63;have hk:=bC (l.length-2) o_;have hr:Sz 4 (gE 1 2):=B0 (p:=1) (q:=2) (n:=4) d_ d_ d_;have sc:=ua hk hr o_;have h0:aB prog 39 [.int .i64 0,.int .i64 0,.int .i64 0] (aZ 0):=vj (a:=0) (b:=0) (c:=0) d_ d_ d_;have rt:aB prog 99 [.int .i64 1,.int .i64 2] (.tuple #[bK (gE 1 2),.int .i64 0]):=KJ (n:=4) d_ d_ d_ d_;have pp:=aU4 pq o_ h63;have lo:∀ Bs,af prog Bs 46 (.block 0 (ag Tryz.f57 0)) (Ev l.length 2) (yD l 0) 3 ⟨.normal,[(2,aX 1),(4,aX 2)],yD l (Et l),3⟩:=lo;have sc:aB prog 42 [aZ (Et l),bK (gE 1 2)] (aZ (pr l)):=sc;generalize pr l=r at *;generalize Et l=z at *;generalize gE 1 2=k at *;exact cC func57 au 46 (λw=>[.cR Tryz.f57 9 [sl 0 l.length] pp (.w (x:=.view (aG l)) rfl (cW _) oB .nil),h0.at 12,.code 0 _ _ _ _ _ (lo _),rt.at 40,sc.at 45])
end
section
variable{Bs:aa}{ps:c_}{vs:e_}{np i:Nat}{f:Nat×List Nat}{L:l_}
theorem aU8(hf:(cT ps (bf ps) ps.length)[i]?=some f):(eH ps)[i]?=some ((f.1:Int),cU f.2):=by unfold eH;rw[qW,hf];rfl
theorem RJ(ps:c_)(i:Nat):([gT ps,.p (vI i)].all aL.ok)=true:=by simp only[dT,eC,Jr,jy,gp];rfl
theorem aU9(h:gu ps)(hi:i<(eH ps).length):bw prog 112 [gT ps,.p (vI i)] (de 0):=
 cC func112 (RJ ps i) 19 (λw=>[.cR f112 7 _ h.valid (vy .nil),.lt 11 i 0 false s_,.step 16 (aA f112 16) [cy 2] [(2,some (.fact (iu (eH ps))))] (vI (eH ps).length) [] (tn k_ (pU.full _)),.ge 17 i (eH ps).length false (aO o_)])
def RK(n j:Nat):aN:=[(23,vI j),(21,cy 5),(22,vI n),(2,aX 3),(7,sl 6 j)]
def Ew(np:Nat)(vs:e_)(L:l_):aH:=[(1,.view (aG vs)),(5,.fact (eg (cU L))),(3,.aI [sl 0 np,sl 1 vs.length,cy 2] 26)]
theorem aVa:∀ x∈Ew np vs L,fe 6 x.2:=λx hx=>by
 simp only[Ew,ct,iX,iY]at hx;rcases hx with rfl|rfl|rfl
 ·exact λv hv=>gB (bd.1 (cW vs) v hv)
 ·exact n_
 ·intro v hv;have hv:v∈[sl 0 np,sl 1 vs.length,cy 2]:=hv;simp at hv;rcases hv with rfl|rfl|rfl<;>rfl
theorem aVb{z:Nat}{v:V3 K}(hj:j<(cU L).length)(hz:(cU L)[j]?=some (z:Int))(hv:vs[z]?=some v)(hl:acc.length=j)(h63:(cU L).length<1000000):
  af prog Bs 37 (aF (ag f56 0)) (RK (cU L).length j) (Ew np vs L++marks 6 (jb acc)) 7 ⟨.normal,fj 6 [some 9] (RK (cU L).length (j+1)),Ew np vs L++dB [some 9] (jb (acc++[v])),10⟩:=by
 have ak:=(eA.1 hv).1;have hc:(aG acc).length=j*30:=by rw[nN,hl]
 exact aC [.lt 24 j (cU L).length true (aE hj),.step 25 (aA f56 25) [cy 5,vI j] [(7,none),(5,some (.fact (eg (cU L))))] (aX 7) [(7,.view [iV z])] (X6 k_ hz),.cM f56 31 1 vs.length z 30 ak k_,.ld f56 32 38 1 (z*30) (.view (aG vs)) (aZ v) rfl (gD hv) k_,.bs f56 33 8 1 38 30 [0] (RV.v lX) [aZ v] (cr v).cs.toArray (.row (cr v).cs 38 30) rfl (λv hv=>by simp at hv;subst hv;rfl) (λv hv=>fD.flat _ v hv) k_ rfl d_ d_ k_,.oX f56 34 9 6 j 1 (j+1) 38 30 360 (aG acc) 8 (.row (cr v).cs 38 30) (aG (acc++[v])) rfl rfl rfl hc (by rw[<-Ix];congr 1) (fD.one _) d_ (by simp[maxLen];omega) o_ k_,.sum 35 j 1 (j+1) rfl o_]
theorem aVc(hL:∀ x∈L,x<vs.length)(h63:L.length<1000000):
  af prog Bs 37 (.block 0 (ag f56 0)) (fj 6 [none] (RK (cU L).length 0)) (Ew np vs L++dB [none] (jb [])) 6 ⟨.normal,[(7,sl 6 (cU L).length)],Ew np vs L++marks 6 (jb (c8 vs L)),7⟩:=by
 have hlen:(cU L).length=L.length:=dr ..
 have:=pH (P:=prog) (B:=Bs) (N:=37) (b:=aF (ag f56 0)) (next:=6) (p:=1) (r:=⟨.exit 0,[(7,sl 6 (cU L).length)],Ew np vs L++marks 6 (jb (c8 vs L)),7⟩) (cU L).length
  (λj=>RK (cU L).length j) (λ_=>Ew np vs L) (λj=>jb (c8 vs (L.take j))) [none] (λ_ _=>rfl) (λj _=>⟨aVa,Lq⟩) k_ k_
  (λj hj=>by
   have fK:j<L.length:=by omega
   have hq:L[j]?=some L[j]:=aT fK;have hz:(cU L)[j]?=some ((L[j]:Nat):Int):=by unfold cU;rw[qW,hq];rfl
   have e:c8 vs (L.take (j+1))=c8 vs (L.take j)++[aJ vs L[j]]:=by unfold c8;rw[sY,hq,rW];rfl
   rw[e];exact⟨[some 9],10,k_,aVb (Bs:=Bs) hj hz (iy (hL _ (cY fK))) (by unfold c8;rw[dr,jr];omega) o_⟩)
  (by rw[show L.take (cU L).length=L from j8 o_];generalize c8 vs L=a;exact aC [.lt 24 (cU L).length (cU L).length false s_]) n_
 exact bO (id:=0) this
theorem aVd(h:gu ps)(hf:(cT ps (bf ps) ps.length)[i]?=some f):DH prog 56 [gT ps,.p (vI i)] 38 30 f.2.length (aG (c8 (bf ps) f.2)) (de 0):=by
 have hm:=GV h.proper h.Jq (cH hf);have hz:=h.yA.2;have hlen:(cU f.2).length=f.2.length:=dr ..;have lo:=λBs=>aVc (Bs:=Bs) (np:=ps.length) (vs:=bf ps) (L:=f.2) hm.2.2 o_;have Dq:=aU8 hf;have hi:=(eA.1 Dq).1;have rg:=aU9 h hi;have MD:(aG (c8 (bf ps) f.2)).length=(cU f.2).length*30:=by rw[nN];unfold c8 cU;rw[dr,dr]
 rw[<-hlen];generalize c8 (bf ps) f.2=a at *;exact VO (k:=6) mixed func56 (RJ ps i) 100 (N:=37) k_ (λ_=>[.cR f56 12 _ rg (vy (.p rfl .nil)),.step 19 (aA f56 19) [cy 2,vI i] [(4,none),(5,none),(2,some (.fact (iu (eH ps))))] (aX 4) [(4,.view [iV f.1,cy 5]),(5,.fact (eg (cU f.2)))] (GA k_ (pU.full _) Dq d_),.step 22 (aA f56 22) [cy 5] [(5,some (.fact (eg (cU f.2))))] (vI (cU f.2).length) [] (tt k_),.code 0 _ _ _ _ _ (lo _)]) (λ_=>k_) (cW a) MD rfl
theorem aG9(h:gu ps)(hf:(cT ps (bf ps) ps.length)[i]?=some f):bw prog 18 [gT ps,.p (vI i)] (.tuple #[aZ (pr (c8 (bf ps) f.2)),de 0]):=by
 have hm:=GV h.proper h.Jq (cH hf);have hz:=h.yA;have pg:=aVd h hf;have hlen:(c8 (bf ps) f.2).length=f.2.length:=dr ..;have ar:=aU7 (l:=c8 (bf ps) f.2) (q:=4000) (λv hv=>by obtain⟨x,hx,rfl⟩:=dj.1 hv;exact hz.1 _ (cH (iy (hm.2.2 x hx)))) o_ (by have:=eh (8*4000+14) (show(c8 (bf ps) f.2).length<=1000 by omega);exact eV (Gy (Nx this 1) _) d_) o_
 rw[<-hlen]at pg;generalize pr (c8 (bf ps) f.2)=r at *;generalize c8 (bf ps) f.2=a at *;exact cC func18 (RJ ps i) 22 (λw=>[.step 11 (aA f18 11) [.func (.func 56) #[] #[],wA ps.length (bf ps).length,vI i] ((5,none)::RB ps) (.tuple #[.slice (some ⟨5,0,some 7⟩) a.length 0,de 0]) [(5,.row (aG a) 38 30)] (Lk pg (vy (.p rfl .nil)) (x:=.func 56) k_ k_ (cW a) rfl 5),.cR f18 19 [sl 5 a.length] ar (.w (x:=.row (aG a) 38 30) rfl (cW _) oB .nil)])
theorem aVe(h:gu ps)(hf:(cT ps (bf ps) ps.length)[i]?=some f){n:Nat}(hs:aw n (pr (c8 (bf ps) f.2)))(hn:3*(n+n)+16<az):bw prog 19 [gT ps,.p (vI i)] (.tuple #[bK (dot (pr (c8 (bf ps) f.2)) (pr (c8 (bf ps) f.2))),de 0]):=by have ar:=aG9 h hf;have dt:=oz hs hs hn;generalize dot (pr (c8 (bf ps) f.2)) (pr (c8 (bf ps) f.2))=x at *;generalize pr (c8 (bf ps) f.2)=r at *;exact cC func19 (RJ ps i) 21 (λw=>[.cR f19 11 _ ar (vy (.p rfl .nil)),dt.at 20])
end
section
variable{ps:c_}{rs:List RP}{vs:List RV}{fs:f_}{j:Int}{r:RV}{e:Nat}{n nv:Nat}{xp xv:ah}{F:Fact}{d:V3 K}{m:Nat}
structure jZ(n nv:Nat)(xp xv:ah)(F:Fact):Prop where
 f1:xp.all flat=true
 n1:n=0->xp=[]
 f2:xv.all flat=true
 n2:nv=0->xv=[]
 rc:F.rc=false
theorem Yc(rs:List RP)(vs:List RV)(fs:f_):jZ rs.length vs.length (dw rs) (cV vs) (iA fs):=⟨gK ja rs,XN,gK fD vs,AD,rfl⟩
theorem yE(ps:c_):jZ ps.length (bf ps).length (bB ps) (aG (bf ps)) (iu (eH ps)):=⟨dx ps,jm,cW _,oB,rfl⟩
def anN(xp xv:ah)(F:Fact):q_:=[(0,some (.view xp)),(1,some (.view xv)),(2,some (.fact F))]
theorem jZ.src(h:jZ n nv xp xv F)(k:fW Bs l xs []):fW Bs (.s n xp nv xv F::l) (wA n nv::xs) (anN xp xv F):=.s (x1:=.view xp) (x2:=.view xv) rfl h.f1 h.n1 rfl h.f2 h.n2 k
theorem jZ.ok(h:jZ n nv xp xv F):(aL.s n xp nv xv F).ok=true:=by show(xp.all flat&&(xv.all flat&&!F.rc))=true;rw[h.f1,h.f2,h.rc];rfl
theorem jZ.yF(h:jZ n nv xp xv F)(j:Int):([.s n xp nv xv F,.p (iV j)].all aL.ok)=true:=by simp only[dT,eC,h.ok,jy,gp];rfl
theorem jZ.qw(h:jZ n nv xp xv F)(r:RV):([.s n xp nv xv F,.p r.v].all aL.ok)=true:=by simp only[dT,eC,h.ok,jy,gp];rfl
theorem aVf(a:jZ n nv xp xv F)(h:bw prog 35 [.s n xp nv xv F] a_):bw prog 112 [.s n xp nv xv F,.p (iV j)] (de 1):=
 cC func112 (a.yF j) 19 (λw=>[.cR f112 7 _ h (a.src .nil)])
theorem aVg(h:gu ps)(hj:j<0\/((eH ps).length:Int)<=j):bw prog 112 [gT ps,.p (iV j)] (de 2):=by
 have a:=yE ps;have hv:=h.valid;unfold gT at *;by_cases h0:j<0
 ·exact cC func112 (a.yF j) 19 (λw=>[.cR f112 7 _ hv (a.src .nil),.rw 11 (.bool (decide (j<0))) b_ (by rw[aE h0])])
 ·have h1:=hj.resolve_left h0;exact cC func112 (a.yF j) 19 (λw=>[.cR f112 7 _ hv (a.src .nil),.rw 11 (.bool (decide (j<0))) a_ (by rw[aO h0]),.step 16 (aA f112 16) [cy 2] [(2,some (.fact (iu (eH ps))))] (vI (eH ps).length) [] (tn k_ (pU.full _)),.rw 17 (.bool (decide (((eH ps).length:Int)<=j))) b_ (by rw[aE h1])])
theorem aVh(a:jZ n nv xp xv F)(he:e=1\/e=2)(h:bw prog 112 [.s n xp nv xv F,.p (iV j)] (de e)):bw prog 56 [.s n xp nv xv F,.p (iV j)] (.tuple #[.slice none 0 0,de e]):=by
 rcases he with rfl|rfl<;>
  exact cC func56 (a.yF j) 37 (λw=>[.cR f56 12 _ h (a.src (.p rfl .nil))])
theorem Yd(a:jZ n nv xp xv F)(he:e=1\/e=2)(h:bw prog 112 [.s n xp nv xv F,.p (iV j)] (de e)):bw prog 18 [.s n xp nv xv F,.p (iV j)] (.tuple #[lX.v,de e]):=by
 have h:=aVh a he h;rcases he with rfl|rfl<;>
  exact cC func18 (a.yF j) 22 (λw=>[.cR f18 11 _ h (a.src (.p rfl .nil))])
theorem aHa(a:jZ n nv xp xv F)(he:e=1\/e=2)(h:bw prog 112 [.s n xp nv xv F,.p (iV j)] (de e)):bw prog 19 [.s n xp nv xv F,.p (iV j)] (.tuple #[gL.v,de e]):=by
 have h:=Yd a he h;rcases he with rfl|rfl<;>
  exact cC func19 (a.yF j) 21 (λw=>[.cR f19 11 _ h (a.src (.p rfl .nil))])
theorem aVi(a:jZ n nv xp xv F)(h:bw prog 35 [.s n xp nv xv F] a_):bw prog 26 [.s n xp nv xv F,.p r.v] (.tuple #[gL.v,gL.v,de 1]):=
 cC func26 (a.qw r) 56 (λw=>[.cR Tryz.f26 11 _ h (a.src .nil)])
theorem aVj(a:jZ n nv xp xv F)(h:bw prog 35 [.s n xp nv xv F] b_)(hv:aB prog 67 [r.v] a_):bw prog 26 [.s n xp nv xv F,.p r.v] (.tuple #[gL.v,gL.v,de 1]):=
 cC func26 (a.qw r) 56 (λw=>[.cR Tryz.f26 11 _ h (a.src .nil),hv.at 15])
theorem aVk(a:jZ n nv xp xv F)(h:bw prog 35 [.s n xp nv xv F] b_)(hv:aB prog 67 [r.v] b_)(hz:aB prog 68 [r.v] b_):bw prog 26 [.s n xp nv xv F,.p r.v] (.tuple #[gL.v,gL.v,de 1]):=
 cC func26 (a.qw r) 56 (λw=>[.cR Tryz.f26 11 _ h (a.src .nil),hv.at 15,hz.at 20])
end
section
variable{Bs:aa}{l vs:e_}{ps:c_}{a x y s:V3 K}{w:K}{i t n q np:Nat}{f:Nat×List Nat}
end
section
variable{ps:c_}{rs:List RP}{vs:List RV}{fs:f_}{d:Int}
theorem yG:gL.Sm:=⟨jH _,jH _,jH _,jH _,jH _⟩
theorem aHb:lX.Sm:=⟨yG,yG,yG⟩
end
section
variable{ps:c_}{rs:List RP}{vs:List RV}{fs:f_}{i:Nat}{j:Int}{r:RV}{e:Nat}{n nv:Nat}{xp xv:ah}{F:Fact}{d:V3 K}{m:Nat}{f:Nat×List Nat}
theorem aVl(a:jZ n nv xp xv F)(h:bw prog 37 [.s n xp nv xv F] a_):bw prog 71 [.s n xp nv xv F,.p (iV j)] (.tuple #[.slice none 0 0,de 1]):=
 cC func71 (a.yF j) 23 (λw=>[.cR f71 8 _ h (a.src .nil)])
theorem aVm(hv:bw prog 37 [gT ps] b_)(hj:j<0\/((eH ps).length:Int)<=j):bw prog 71 [gT ps,.p (iV j)] (.tuple #[.slice none 0 0,de 2]):=by
 have a:=yE ps;unfold gT at *;by_cases h0:j<0
 ·exact cC func71 (a.yF j) 23 (λw=>[.cR f71 8 _ hv (a.src .nil),.rw 12 (.bool (decide (j<0))) b_ (by rw[aE h0])])
 ·have h1:=hj.resolve_left h0;exact cC func71 (a.yF j) 23 (λw=>[.cR f71 8 _ hv (a.src .nil),.rw 12 (.bool (decide (j<0))) a_ (by rw[aO h0]),.step 17 (aA f71 17) [cy 2] [(2,some (.fact (iu (eH ps))))] (vI (eH ps).length) [] (tn k_ (pU.full _)),.rw 18 (.bool (decide (((eH ps).length:Int)<=j))) b_ (by rw[aE h1])])
theorem aVn(h:gu ps)(hv:bw prog 37 [gT ps] b_)(hf:(cT ps (bf ps) ps.length)[i]?=some f):DH prog 71 [gT ps,.p (vI i)] 38 30 f.2.length (aG (c8 (bf ps) f.2)) (de 0):=by
 have hi:=(eA.1 (aG5 hf)).1;have vV:=aUM h hf;have MD:(aG (c8 (bf ps) f.2)).length=f.2.length*30:=by rw[nN];unfold c8;rw[dr]
 generalize f.2.length=n at *;generalize c8 (bf ps) f.2=a at *;exact VO (k:=4) mixed func71 (RG ps i) 100 (N:=23) k_ (λ_=>[.cR f71 8 _ hv (vy .nil),.lt 12 i 0 false s_,.step 17 (aA f71 17) [cy 2] [(2,some (.fact (iu (eH ps))))] (vI (eH ps).length) [] (tn k_ (pU.full _)),.ge 18 i (eH ps).length false (aO o_),.step 22 (aA f71 22) [.func (.func 46) #[] #[],wA ps.length (bf ps).length,vI i] ((4,none)::RB ps) (sl 4 n) [(4,.row (aG a) 38 30)] (qF vV (vy (.p rfl .nil)) (x:=.func 46) k_ k_ (cW a) 4)]) (λ_=>k_) (cW a) MD rfl
theorem aHc(a:jZ n nv xp xv F)(he:e=1\/e=2)(h:bw prog 71 [.s n xp nv xv F,.p (iV j)] (.tuple #[.slice none 0 0,de e])):bw prog 28 [.s n xp nv xv F,.p (iV j)] (.tuple #[lX.v,de e]):=by
 rcases he with rfl|rfl<;>
  exact cC func28 (a.yF j) 22 (λw=>[.cR Tryz.f28 11 _ h (a.src (.p rfl .nil))])
theorem aVo(h:gu ps)(hv:bw prog 37 [gT ps] b_)(hf:(cT ps (bf ps) ps.length)[i]?=some f):bw prog 28 [gT ps,.p (vI i)] (.tuple #[aZ (pr (c8 (bf ps) f.2)),de 0]):=by have pg:=aVn h hv hf;obtain⟨a0,l0,e0,h2,h3,hs⟩:=aG6 h (cH hf);have hlen:(c8 (bf ps) f.2).length=f.2.length:=dr ..;rw[<-e0]at h2 h3 hs;have ar:=aUO hs h2 h3;rw[<-hlen]at pg;clear e0;generalize pr (c8 (bf ps) f.2)=r at *;generalize c8 (bf ps) f.2=a at *;exact cC func28 (RG ps i) 22 (λw=>[.step 11 (aA Tryz.f28 11) [.func (.func 71) #[] #[],wA ps.length (bf ps).length,vI i] ((5,none)::RB ps) (.tuple #[.slice (some ⟨5,0,some 7⟩) a.length 0,de 0]) [(5,.row (aG a) 38 30)] (Lk pg (vy (.p rfl .nil)) (x:=.func 71) k_ k_ (cW a) rfl 5),.cR Tryz.f28 19 [sl 5 a.length] ar (.w (x:=.row (aG a) 38 30) rfl (cW _) oB .nil)])
theorem aHd(a:jZ n nv xp xv F)(he:e=1\/e=2)(h:bw prog 28 [.s n xp nv xv F,.p (iV j)] (.tuple #[lX.v,de e])):bw prog 29 [.s n xp nv xv F,.p (iV j)] (.tuple #[gL.v,de e]):=by
 rcases he with rfl|rfl<;>
  exact cC func29 (a.yF j) 21 (λw=>[.cR Tryz.f29 11 _ h (a.src (.p rfl .nil))])
theorem aVp(ar:bw prog 28 [gT ps,.p (vI i)] (.tuple #[aZ d,de 0]))(sd:aw m d)(hm:3*(m+m)+16<az):bw prog 29 [gT ps,.p (vI i)] (.tuple #[bK (dot d d),de 0]):=by have dt:=aWQ sd sd hm;generalize dot d d=x at *;exact cC func29 (RG ps i) 21 (λw=>[.cR Tryz.f29 11 _ ar (vy (.p rfl .nil)),dt.at 20])
theorem aHe(a:jZ n nv xp xv F)(hv:aB prog 59 [r.v] a_):bw prog 27 [.s n xp nv xv F,.p r.v] (.tuple #[gL.v,gL.v,de 1]):=
 cC func27 (a.qw r) 32 (λw=>[hv.at 10])
theorem aHf(a:jZ n nv xp xv F)(hv:aB prog 59 [r.v] b_)(hz:aB prog 21 [r.v] b_):bw prog 27 [.s n xp nv xv F,.p r.v] (.tuple #[gL.v,gL.v,de 1]):=
 cC func27 (a.qw r) 32 (λw=>[hv.at 10,hz.at 14])
theorem aVq(a:jZ n nv xp xv F)(hv:aB prog 59 [r.v] b_)(hz:aB prog 21 [r.v] a_)(h:bw prog 37 [.s n xp nv xv F] a_):bw prog 27 [.s n xp nv xv F,.p r.v] (.tuple #[gL.v,gL.v,de 1]):=
 cC func27 (a.qw r) 32 (λw=>[hv.at 10,hz.at 14,.cR Tryz.f27 18 _ h (a.src .nil)])
theorem jZ.Ye(h:jZ n nv xp xv F)(r:RV)(j:Int):([.s n xp nv xv F,.p r.v,.p (iV j)].all aL.ok)=true:=by simp only[dT,eC,h.ok,jy,gp];rfl
theorem aHg{t1 t2:Bool}(a:jZ n nv xp xv F)(Ct:bw prog 6 [] b_)(uB:bw prog 7 [.s n xp nv xv F] (.bool t1))(hr:aB prog 25 [r.v,vI 4] (.bool t2))(ht:¬(t1=true/\t2=true)):bw prog 5 [.s n xp nv xv F,.p r.v,.p (iV j)] b_:=by
 cases t1
 ·exact iT mixed func5 (jZ.Ye a r j) 400 (N:=102) k_ (λw=>[.cR Tryz.f5 21 _ Ct .nil,.cR Tryz.f5 24 _ uB (a.src .nil)]) (λ_=>k_) k_
 cases t2
 ·exact iT mixed func5 (jZ.Ye a r j) 400 (N:=102) k_ (λw=>[.cR Tryz.f5 21 _ Ct .nil,.cR Tryz.f5 24 _ uB (a.src .nil),hr.at 28]) (λ_=>k_) k_
 ·exact absurd ⟨rfl,rfl⟩ ht
theorem aHh{A B C:RN}{V:RV}(a:jZ n nv xp xv F)(Ct:bw prog 6 [] b_)(uB:bw prog 7 [.s n xp nv xv F] b_)(hr:aB prog 25 [r.v,vI 4] b_)
  (h1:bw prog 26 [.s n xp nv xv F,.p r.v] (.tuple #[A.v,B.v,de n2])) (h2:bw prog 27 [.s n xp nv xv F,.p r.v] (.tuple #[A.v,B.v,de n2]))
  (h3:bw prog 18 [.s n xp nv xv F,.p (iV j)] (.tuple #[V.v,de U])) (h4:bw prog 28 [.s n xp nv xv F,.p (iV j)] (.tuple #[V.v,de U]))
  (h5:bw prog 19 [.s n xp nv xv F,.p (iV j)] (.tuple #[C.v,de a1])) (h6:bw prog 29 [.s n xp nv xv F,.p (iV j)] (.tuple #[C.v,de a1]))
  (mA:A.Sm) (mB:B.Sm) (mV:V.Sm) (mC:C.Sm):bw prog 5 [.s n xp nv xv F,.p r.v,.p (iV j)] b_:=by
 have ee:∀ e:Nat,Value.bool ((e:Int)==(e:Int))=.bool true:=λe=>by simp
 exact iT mixed func5 (jZ.Ye a r j) 400 (N:=102) k_ (λw=>[.cR Tryz.f5 21 _ Ct .nil,.cR Tryz.f5 24 _ uB (a.src .nil),hr.at 28,.cR Tryz.f5 34 _ h1 (a.src (.p k_ .nil)),.cR Tryz.f5 41 _ h2 (a.src (.p k_ .nil)),.cR Tryz.f5 48 _ h3 (a.src (.p rfl .nil)),.cR Tryz.f5 54 _ h4 (a.src (.p rfl .nil)),.cR Tryz.f5 60 _ h5 (a.src (.p rfl .nil)),.cR Tryz.f5 66 _ h6 (a.src (.p rfl .nil)),.step 71 (aA Tryz.f5 71) [A.v,A.v] [] b_ [] (H9 (neg:=true) k_ A A mA mA s_),.step 75 (aA Tryz.f5 75) [B.v,B.v] [] b_ [] (H9 (neg:=true) k_ B B mB mB s_),.rw 80 (.bool ((n2:Int)==(n2:Int))) b_ (ee n2),.step 85 (aA Tryz.f5 85) [V.v,V.v] [] b_ [] (Dm (neg:=true) k_ V V mV mV s_),.rw 90 (.bool ((U:Int)==(U:Int))) b_ (ee U),.step 95 (aA Tryz.f5 95) [C.v,C.v] [] b_ [] (H9 (neg:=true) k_ C C mC mC s_),.rw 100 (.bool ((a1:Int)==(a1:Int))) b_ (ee a1)]) (λ_=>k_) k_
end
section
variable{r:RV}{d:V3 K}
theorem aVr(sd:aw 32 d):aB prog 68 [aZ d] (.bool (decide (d=0))):=ub sd d_
end
section
variable{ps:c_}{rs:List RP}{vs:List RV}{fs:f_}{j:Int}{r:RV}{d:V3 K}
theorem aVs(h:gu ps)(gP:bw prog 37 [gT ps] b_)(hw:oF r 4=true):∃(A B:RN) (e:Nat),bw prog 26 [gT ps,.p r.v] (.tuple #[A.v,B.v,de e])/\bw prog 27 [gT ps,.p r.v] (.tuple #[A.v,B.v,de e])/\A.Sm/\B.Sm:=by
 have sz:=WU (n:=32) hw d_;have hv:=aWq sz d_;have hp:=aG7 sz d_;by_cases hb:rM r=true;rotate_left
 ·have hb:rM r=false:=by simpa using hb
  rw[hb]at hv hp;exact⟨gL,gL,1,aVj (yE ps) h.valid hp,aHe (yE ps) hv,yG,yG⟩
 rw[hb]at hv hp;have sd:=L0 hb sz;have er:=LY hb;generalize vZ r=d at *;subst er;have hz:=aXs sd d_;have zp:=aVr sd;by_cases h0:d=0
 ·rw[aE h0]at hz zp;exact⟨gL,gL,1,aVk (yE ps) h.valid hp zp,aHf (yE ps) hv hz,yG,yG⟩
 ·have hl:0<(bf ps).length:=by have:=aGB h.cl h.proper h.full;omega
  obtain⟨s1,s2⟩:=RC (q:=4000) (m:=32) h.yA.1 sd (bf ps).length (bA _) o_;exact⟨_,_,0,aUD h hl sd h0 d_,aUT h gP sd h0 d_,uY s1 d_,uY s2 d_⟩
theorem aVt(h:gu ps)(gP:bw prog 37 [gT ps] b_)(j:Int):∃(V:RV) (C:RN) (e:Nat),bw prog 18 [gT ps,.p (iV j)] (.tuple #[V.v,de e])/\bw prog 28 [gT ps,.p (iV j)] (.tuple #[V.v,de e])/\
  bw prog 19 [gT ps,.p (iV j)] (.tuple #[C.v,de e])/\bw prog 29 [gT ps,.p (iV j)] (.tuple #[C.v,de e])/\V.Sm/\C.Sm:=by
 by_cases hj:j<0\/((eH ps).length:Int)<=j
 ·have rg:=aVg h hj;have pg:=aVm gP hj;have ra:=aHc (yE ps) (.inr rfl) pg;exact⟨lX,gL,2,Yd (yE ps) (.inr rfl) rg,ra,aHa (yE ps) (.inr rfl) rg,aHd (yE ps) (.inr rfl) ra,aHb,yG⟩
 ·obtain⟨i,rfl⟩:∃ i:Nat,j=i:=⟨j.toNat,by omega⟩;have hlf:(eH ps).length=(cT ps (bf ps) ps.length).length:=dr ..;have hf:(cT ps (bf ps) ps.length)[i]?=some (cT ps (bf ps) ps.length)[i]:=aT o_;have hm:=cY (l:=cT ps (bf ps) ps.length) (n:=i) o_;generalize (cT ps (bf ps) ps.length)[i]=f at *;obtain⟨a0,l0,e0,h2,h3,hs⟩:=aG6 h hm;rw[<-e0]at h2 h3 hs;have sa:=aUN hs h2 h3;have ra:=aVo h gP hf;exact⟨cr (pr (c8 (bf ps) f.2)),_,0,aG9 h hf,ra,aVe h hf sa d_,aVp ra sa d_,sa.sm d_,uY (sa.dot sa) d_⟩
theorem aVu(Ct:bw prog 6 [] b_)(GP:rs.length<9223372036854775807)(iz:vs.length<9223372036854775807)(pW:fs.length<9223372036854775807):bw prog 5 [kj rs vs fs,.p r.v,.p (iV j)] b_:=by
 have uB:=aTB (rs:=rs) (vs:=vs) (fs:=fs) GP iz pW;have hr:=QB r 4;by_cases hb:Jl rs vs fs=true;rotate_left
 ·have hb:Jl rs vs fs=false:=by simpa using hb
  rw[hb]at uB;exact aHg (Yc rs vs fs) Ct uB hr (λh=>by cases h.1)
 rw[hb]at uB;by_cases hw:oF r 4=true;rotate_left
 ·have hw:oF r 4=false:=by simpa using hw
  rw[hw]at hr;exact aHg (Yc rs vs fs) Ct uB hr (λh=>by cases h.2)
 rw[hw]at hr;rcases aUX hb GP iz pW with ⟨h1,h2⟩|⟨ps,h,rfl,rfl,rfl,gP⟩
 ·have a:=Yc rs vs fs;have rg:=aVf (j:=j) a h2;have pg:=aVl (j:=j) a h1;have ra:=aHc a (.inl rfl) pg;have ext:bw prog 27 [kj rs vs fs,.p r.v] (.tuple #[gL.v,gL.v,de 1]):=by
   have sz:=WU (n:=32) hw d_;have hv:=aWq sz d_;by_cases hb:rM r=true;rotate_left
   ·have hb:rM r=false:=by simpa using hb
    rw[hb]at hv;exact aHe a hv
   rw[hb]at hv;have sd:=L0 hb sz;have er:=LY hb;generalize vZ r=d at *;subst er;have hz:=aXs sd d_;by_cases h0:d=0
   ·rw[aE h0]at hz;exact aHf a hv hz
   ·rw[aO h0]at hz;exact aVq a hv hz h1
  exact aHh a Ct uB hr (aVi a h2) ext (Yd a (.inl rfl) rg) ra (aHa a (.inl rfl) rg) (aHd a (.inl rfl) ra) yG yG aHb yG
 rw[aUZ]at uB gP ⊢;have gP:=bw.QX gP (pU.full _).G;have uB:=bw.QX uB (pU.full _).G;obtain⟨A,B,e1,x1,x2,mA,mB⟩:=aVs h gP hw;obtain⟨V,C,e2,y1,y2,y3,y4,mV,mC⟩:=aVt h gP j;exact bw.aTR (aHh (yE ps) Ct uB hr x1 x2 y1 y2 y3 y4 mA mB mV mC) (aTQ ps)
end
end
theorem aVv:aB prog 79 [vI 0] (.string (ByteArray.mk #[])):=bo func79 (λ_=>[])
section
variable{Bs:aa}{N:Nat}
noncomputable def AF(a n':Nat)(ha:a<bz)(hn:nd bz a=n'):aU prog Bs N:=
 .step 43 (aA f78 43) [.func (.func 138) #[] #[],sl 2 1] [(2,some (.row [vI a] 3 1))] (sl 2 n') [] (hn▸aDf (y:=.func 138) (n:=1) (a:=a) (k:=2) (off:=0) (x:=.row [vI a] 3 1) k_ rfl rfl (by rw[Ce ha];rfl) (by rw[Bb];exact ha) d_ (λ_=>.inr trivial))
noncomputable def AG(m q:Nat):List (aU prog Bs N):=[.ix f78 32 2 1 0 d_ k_,.ld f78 33 3 2 0 (.row [vI m] 3 1) (vI m) rfl k_ k_,.ix f78 39 2 1 0 d_ k_,.st f78 100039 3 2 0 (.row [vI m] 3 1) (vI q) (.row [vI q] 3 1) rfl k_ rfl k_]
end
noncomputable def RL(m:Nat)(dg:kY prog 119 [.p (oh m)] 3 1 1 [vI m])(more:bL prog Bs N):bL prog Bs N:=
 (aWJ false (m:=m) n_).at 9::.rw 14 (.bool ((BA (cG m)).toList==(ByteArray.mk #[]).toList)) (.bool (decide (m=0))) (by rw[qy])::
  .step 17 (aA f78 17) [.func (.func 119) #[] #[],oh m] [(2,none)] (sl 2 1) [(2,.row [vI m] 3 1)] (qF dg (.p rfl .nil) (x:=.func 119) k_ k_ rfl 2)::more
theorem aVw:aB prog 78 [aV 25] (.string (ByteArray.mk #[50,53])):=by
 have hd:nd bz 25=1:=vp d_ d_;have hc:cD 25=[vI 25]:=by unfold cD;rw[hd,Ce d_];rfl
 have dg:=IJ (m:=25) (by rw[show nd 256 25=1 from by kernel_rfl];decide);rw[hd,hc]at dg;exact eF mixed func78 200 (λ_=>RL 25 dg (AG 25 2++[AF 2 1 d_ (vp d_ d_)]++AG 2 0++[AF 0 0 d_ od])) (λ_=>k_) k_ k_
theorem aVx:aB prog 78 [aV 88] (.string (ByteArray.mk #[56,56])):=by
 have hd:nd bz 88=1:=vp d_ d_;have hc:cD 88=[vI 88]:=by unfold cD;rw[hd,Ce d_];rfl
 have dg:=IJ (m:=88) (by rw[show nd 256 88=1 from by kernel_rfl];decide);rw[hd,hc]at dg;exact eF mixed func78 200 (λ_=>RL 88 dg (AG 88 8++[AF 8 1 d_ (vp d_ d_)]++AG 8 0++[AF 0 0 d_ od])) (λ_=>k_) k_ k_
theorem aVy:aB prog 78 [aV 625] (.string (ByteArray.mk #[54,50,53])):=by
 have hd:nd bz 625=1:=vp d_ d_;have hc:cD 625=[vI 625]:=by unfold cD;rw[hd,Ce d_];rfl
 have dg:=IJ (m:=625) (by rw[show nd 256 625=2 from by kernel_rfl];decide);rw[hd,hc]at dg;exact eF mixed func78 200 (λ_=>RL 625 dg (AG 625 62++[AF 62 1 d_ (vp d_ d_)]++AG 62 6++[AF 6 1 d_ (vp d_ d_)]++AG 6 0++[AF 0 0 d_ od])) (λ_=>k_) k_ k_
theorem aVz:aB prog 78 [aV 704] (.string (ByteArray.mk #[55,48,52])):=by
 have hd:nd bz 704=1:=vp d_ d_;have hc:cD 704=[vI 704]:=by unfold cD;rw[hd,Ce d_];rfl
 have dg:=IJ (m:=704) (by rw[show nd 256 704=2 from by kernel_rfl];decide);rw[hd,hc]at dg;exact eF mixed func78 200 (λ_=>RL 704 dg (AG 704 70++[AF 70 1 d_ (vp d_ d_)]++AG 70 7++[AF 7 1 d_ (vp d_ d_)]++AG 7 0++[AF 0 0 d_ od])) (λ_=>k_) k_ k_
section
open CR OF
open V3 (dot av cE smul)
section
variable{m n:Nat}{a b c:ByteArray}
def yH(m n:Nat):Value:=gH ⟨(m:Int),0,0,0,(n:Int)⟩
theorem Yf:aB prog 74 [aV 0] (.int .i64 0):=aWF 0
theorem aHi{x y:Int}(h1:x.natAbs<2^k)(h2:y.natAbs<2^k)(hk:k<=az)(bj:x≠y)(ho:FA o=some (false,30)):cA prog Bs o [aV x,aV y] [] b_ []:=by
 have:=zD (Bs:=Bs) (neg:=false) ho (bt x) (bt y) (rp h1 hk) (rp h2 hk) (b:=true) (by simp;exact λh=>bj (vR h))
 exact this
noncomputable def pfS(hv:aB prog 55 [yH m n] b_)(hs:aB prog 74 [aV m] (.int .i64 1))(hg:aB prog 75 [aV m,aV n] (aV 1))(bZ:aB prog 77 [aV m] (aV m))
  (o1:aB prog 76 [aV m,aV 1] (aV m)) (o2:aB prog 76 [aV n,aV 1] (aV n)) (h1:aB prog 63 [.int .i64 1] (aV 1)) (pm:aB prog 78 [aV m] (.string a)) (pn:aB prog 78 [aV n] (.string b))
  (bj:cA prog Bs (aA f32 66) [aV n,aV 1] [] b_ []):bL prog Bs N:=
 [hv.at 11,hs.at 22,hg.at 27,bZ.at 29,o1.at 31,o2.at 35,hs.at 38,h1.at 47,pm.at 62,.step 66 (aA f32 66) [aV n,aV 1] [] b_ [] bj,pn.at 69,aVv.at 74,Yf.at 22,Yf.at 22,Yf.at 22]
end
theorem aVA:aB prog 32 [yH 704 25] (.string (ByteArray.mk #[55,48,52,47,50,53])):=by have hv:aB prog 55 [yH 704 25] b_:=aWL (n:=10) (f:=⟨704,0,0,0,25⟩) ⟨by decide,by decide⟩ ⟨by decide,by decide,by decide,by decide,by decide⟩ d_;have hg:aB prog 75 [aV (704:Nat),aV (25:Nat)] (aV 1):=aXt (p:=10) (q:=10) d_ d_ d_ d_;have o1:aB prog 76 [aV (704:Nat),aV 1] (aV (704:Nat)):=aXo (n:=10) d_ d_ d_ d_;have o2:aB prog 76 [aV (25:Nat),aV 1] (aV (25:Nat)):=aXo (n:=10) d_ d_ d_ d_;exact eF mixed func32 300 (λ_=>pfS hv (aWF 704) hg (Wb 704) o1 o2 (aXm (z:=1) d_ d_) aVz aVw (aHi (k:=10) d_ d_ d_ d_ k_)) (λ_=>k_) k_ k_
theorem aVB:aB prog 32 [yH 88 625] (.string (ByteArray.mk #[56,56,47,54,50,53])):=by have hv:aB prog 55 [yH 88 625] b_:=aWL (n:=10) (f:=⟨88,0,0,0,625⟩) ⟨by decide,by decide⟩ ⟨by decide,by decide,by decide,by decide,by decide⟩ d_;have hg:aB prog 75 [aV (88:Nat),aV (625:Nat)] (aV 1):=aXt (p:=10) (q:=10) d_ d_ d_ d_;have o1:aB prog 76 [aV (88:Nat),aV 1] (aV (88:Nat)):=aXo (n:=10) d_ d_ d_ d_;have o2:aB prog 76 [aV (625:Nat),aV 1] (aV (625:Nat)):=aXo (n:=10) d_ d_ d_ d_;exact eF mixed func32 300 (λ_=>pfS hv (aWF 88) hg (Wb 88) o1 o2 (aXm (z:=1) d_ d_) aVx aVy (aHi (k:=10) d_ d_ d_ d_ k_)) (λ_=>k_) k_ k_
theorem aVC:Er pX=kI 8:=by unfold Er;rw[aTN];kernel_rfl
theorem aVD:kI 8*gE ((3520:Nat):Int) 1000=gE 704 25:=by kernel_rfl
theorem aVE:gE 704 25*gE 1 200=gE 88 625:=by kernel_rfl
theorem aHj:bK (gE 704 25)=yH 704 25:=by rw[PW d_];kernel_rfl
theorem aVF:bK (gE 88 625)=yH 88 625:=by rw[PW d_];kernel_rfl
theorem aVG{F:Fact}{v:K}(hF:F.rc=false)(f1:xp.all flat=true)(f2:eT.all flat=true)(z1:np=0->xp=[])(z2:nv=0->eT=[])
  (hB:B8 prog 30 [.p (vI 1)] 50 40 np xp 38 30 nv eT F [de 0]) (hV:bw prog 8 [.s np xp nv eT F] (.tuple #[bK v,de 0])) (hW:bw prog 12 [.s np xp nv eT F,.p (vI 3520)] (.tuple #[yH 704 25,de 0]))
  (hC:aB prog 14 [yH 704 25] (.tuple #[yH 88 625,de 0])) (h8:aB prog 31 [.int .i64 8] (bK v)) (sv:Sz 20 v) :
  bw prog 6 [] b_:=
 iT mixed func6 rfl 300 (N:=53) k_ (λw=>[
  .step 10 (aA Tryz.f6 10) [.func (.func 30) #[] #[],vI 1] [(0,none),(1,none),(2,none)] (.tuple #[.agg #[sl 0 np,sl 1 nv,cy 2],de 0]) [(2,.fact (F.mE w.heap.size)),(1,.row eT 38 30),(0,.row xp 50 40)]
   (LD (B:=aa.at w) (S:=w.heap.size) hB (.p rfl .nil) (x:=.func 30) k_ k_ hF f1 f2 rfl (λw' hb=>Below.size hb) 0),
  .step 15 (aA Tryz.f6 15) [.func (.func 8) #[] #[],.agg #[sl 0 np,sl 1 nv,cy 2]] [(0,some (.row xp 50 40)),(1,some (.row eT 38 30)),(2,some (.fact (F.mE w.heap.size)))] (.tuple #[bK v,de 0]) []
   (pb hV (.si (aGj _ _) (x1:=.row xp 50 40) (x2:=.row eT 38 30) rfl f1 z1 rfl f2 z2 .nil) (x:=.func 8) k_ k_ k_),
  .step 20 (aA Tryz.f6 20) [.func (.func 12) #[] #[],.agg #[sl 0 np,sl 1 nv,cy 2],vI 3520] [(0,some (.row xp 50 40)),(1,some (.row eT 38 30)),(2,some (.fact (F.mE w.heap.size)))] (.tuple #[yH 704 25,de 0]) []
   (pb hW (.si (aGj _ _) (x1:=.row xp 50 40) (x2:=.row eT 38 30) rfl f1 z1 rfl f2 z2 (.p rfl .nil)) (x:=.func 12) k_ k_ k_),
  hC.at 25,h8.at 40,.step 41 (aA Tryz.f6 41) [bK v,bK v] [] b_ [] (H9 (neg:=true) k_ (cO v) (cO v) (uY sv d_) (uY sv d_) s_),aVA.at 45,aVB.at 50]) (λw=>k_) k_
theorem aVH:bw prog 6 [] b_:=by have hV:=aG3 aG0;have hW:=aUy aG0 (d:=3520) d_ d_;rw[aVC]at hV hW;rw[aVD,aHj]at hW;have hC:=aUz (x:=gE 704 25) (n:=10) (B0 d_ d_ d_) d_;rw[aVE,aHj,aVF]at hC;exact aVG rfl (dx _) (cW _) n_ oB aTM hV hW hC (aXr (z:=8) d_) (o9 d_ d_)
end
end Go.Proofs.YthjhinbiabcfiaaGreatDoor
