/- Valid records and points: the proof of SolidValidCardSaid (the law's function answers true at every record and vector; theorem solidValid_card, last part), part 6 of 7; no condition. -/
import Derived.Test.YthccllenbnhogaaGreatDoorZA5
namespace Go.Proofs.YthccllenbnhogaaGreatDoor
open Go Go.RowKit Tryz
variable{i k q n1 A:Nat}{Bs:ae}{z:Int}{xs ew:ah}{fs:f_}{F:Fact}{σ:List (Option Nat)}
section
variable{np nv:Nat}{xp xv:ah}{F:Fact}{l:List (Nat×Nat)}{fs:f_}{m:Map}{S:Nat->Prop}{T:p_}{W1:h_}{y D:Nat}{cB:FuncId}
noncomputable def mq(y:Nat)(cB:FuncId)(T:p_)(D:Nat):Obj:=.fact (ft y (gy cB T #[11,12] (A9 (pf Tryz.f20)) (Ba (pf Tryz.f20)) D))
def LQ(n t i y:Nat):aM:=[(18,vI t),(16,cr 10),(17,vI n),(4,bZ 11),(3,vI i),(0,.func (.yield y) #[] #[])]
def uU(np nv:Nat)(xp xv:ah)(F:Fact)(k:Int)(L:l_)(r:Obj)(n:Nat):aE:=
 [(3,.aI [sl 0 np,sl 1 nv,cr 2] 28),(4,.aI [sl 12 n] 51),(6,.aI [sl 0 np,sl 1 nv,cr 2] 28),(7,r),(11,.aI [iV k,cr 10] 50),(10,.fact (dM (rm L)))]++kg xp xv F
def lk(l:List (Nat×Nat)):List Obj:=[.row (ct eE l) 88 2]
theorem aGg{m:Nat}(l:List (Nat×Nat)):∀ x∈lk l,fH m x:=λx hx=>by rw[lk,xu]at hx;subst hx;exact λv hv=>iF (QF l v hv)
theorem BU{next:Nat}{x:Obj}(h:l4 next (0,x)=true):wU next σ x:=((GB (σ:=σ) (F:=[(0,x)]) λp hp=>by rw[xu]at hp;subst hp;exact N7 h).2 (0,x) (aL ..))
theorem aGh{next:Nat}(jE:xp.all flat=true)(iG:xv.all flat=true):∀ p∈kg xp xv F,wU next σ p.2:=λp hp=>BU (QG jE iG p hp)
theorem aGi{k:Int}{L:l_}{n:Nat}(jE:xp.all flat=true)(iG:xv.all flat=true):∀ p∈uU np nv xp xv F k L (mq y cB T D) n,wU 12 [some q] p.2:=λp hp=>by
 unfold uU at hp;rcases eA.1 hp with hp|hp
 ·simp only[b9,fv,fA]at hp;rcases hp with rfl|rfl|rfl|rfl|rfl|rfl
  ·exact BU rfl
  ·exact λv hv=>by rw[xu]at hv;subst hv;rfl
  ·exact BU rfl
  ·exact BU rfl
  ·exact BU rfl
  ·exact BU rfl
 ·exact aGh jE iG p hp
def IF(x y:Nat):Nat:=if x<y then 17 else 12
theorem aTL{k:Int}{L:l_}{t x z:Nat}(jE:xp.all flat=true)(iG:xv.all flat=true)(hF:F.rc=false)(oI:A6 7 25 wh m T)(hx:L[t]?=some x)(hz:L[(t+1)%L.length]?=some z)(h63:l.length<1000000)(hL:L.length<1000000):
  af prog (oH W1 y S m) 41 (aF (ag f112 2)) (LQ L.length t i y) (uU np nv xp xv F k L (mq y cB T D) l.length++marks 12 (lk l)) 13
   ⟨.normal,fm 12 [some (IF x z)] (LQ L.length (t+1) i y),pO 12 [some (IF x z)] (uU np nv xp xv F k L (mq y cB T D) (if x<z then l++[(x,z)]else l).length)++dj [some (IF x z)] (lk (if x<z then l++[(x,z)]else l)),if x<z then 18 else 15⟩:=by
 have ht:=(eB.1 hx).1;have gS:(rm L).length=L.length:=fk ..;have th:(rm L)[t]?=some (x:Int):=by unfold rm;rw[u9,hx];rfl
 have lQ:(rm L)[(t+1)%L.length]?=some (z:Int):=by unfold rm;rw[u9,hz];rfl
 have st:=TV (S:=S) (W1:=W1) (l:=y) (D:=D) (cB:=cB) (x:=.tmp 23) (o:=ay f112 37) (aTK (np:=np) (nv:=nv) (e:=(x,z)) (i:=(i:Int)) (l:=l) jE iG hF h63) k_ oI;have ln:=oN (P:=prog) (B:=oH W1 y S m) (o:=ay f112 32) k_ (k:=10) (l:=rm L);rw[gS]at ln;generalize hr:(t+1)%L.length=r at *;unfold Xe Xf at st;unfold IF uU mq lk;by_cases h:x<z
 ·rw[au h,au h]at st;rw[au h,au h,au h,jM,KA];unfold rz at st;generalize ct eE (l++[(x,z)])=r' at *;generalize ct eE l=r0 at *;exact az [.lt 19 t L.length true (aC ht),.step 21 (ay f112 21) [cr 10,vI t] [(13,none),(10,some (.fact (dM (rm L))))] (bZ 13) [(13,.view [iV x])] (DT k_ th),.sum 29 t 1 (t+1) rfl o_,.step 32 _ _ _ _ _ ln,.Aw f112 33 .i64 ((t+1:Nat):Int) (L.length:Int) (r:Int) o_ (by rw[<-hr];exact(Int.ofNat_tmod _ _).symm) k_,.step 34 (ay f112 34) [cr 10,vI r] [(14,none),(10,some (.fact (dM (rm L))))] (bZ 14) [(14,.view [iV z])] (DT k_ lQ),.step 37 _ _ _ _ _ st,.sum 39 t 1 (t+1) rfl o_]
 ·rw[al h,al h]at st;rw[al h,al h,al h];unfold rz at st;generalize ct eE l=r0 at *;exact az [.lt 19 t L.length true (aC ht),.step 21 (ay f112 21) [cr 10,vI t] [(13,none),(10,some (.fact (dM (rm L))))] (bZ 13) [(13,.view [iV x])] (DT k_ th),.sum 29 t 1 (t+1) rfl o_,.step 32 _ _ _ _ _ ln,.Aw f112 33 .i64 ((t+1:Nat):Int) (L.length:Int) (r:Int) o_ (by rw[<-hr];exact(Int.ofNat_tmod _ _).symm) k_,.step 34 (ay f112 34) [cr 10,vI r] [(14,none),(10,some (.fact (dM (rm L))))] (bZ 14) [(14,.view [iV z])] (DT k_ lQ),.step 37 _ _ _ _ _ st,.sum 39 t 1 (t+1) rfl o_]
end
section
variable{np nv:Nat}{xp xv:ah}{F:Fact}{l:List (Nat×Nat)}{Fs:List (Nat×List Nat)}{m:Map}{S:Nat->Prop}{T:p_}{W1:h_}{y D:Nat}{cB:FuncId}
theorem aTM{L:l_}{t x z:Nat}(hx:L[t]?=some x)(hz:L[(t+1)%L.length]?=some z)(l:List (Nat×Nat)):
  l++kR ((lO L).take (t+1))=if x<z then(l++kR ((lO L).take t))++[(x,z)]else l++kR ((lO L).take t):=by
 rw[sA,aTH hx hz];show l++kR (_++[(x,z)])=_;rw[aTI];dsimp only;split
 ·rw[B8]
 ·rfl
theorem aGj{k:Int}{L:l_}{t:Nat}{a b:List (Nat×Nat)}(h:q=8\/q=17\/q=12):
  vp (pO 12 [some 8] (uU np nv xp xv F k L (mq y cB T D) A)++dj [some 8] (lk a)) 12 [some q] (LQ L.length t i y) (uU np nv xp xv F k L (mq y cB T D) n1) (lk b)=true:=by
 unfold lk;generalize ct eE a=r0;generalize ct eE b=r1;rcases h with rfl|rfl|rfl<;>kernel_rfl
theorem aTN{k:Int}{L:l_}(jE:xp.all flat=true)(iG:xv.all flat=true)(hF:F.rc=false)(oI:A6 7 25 wh m T)(h63:l.length+L.length<1000000):
  af prog (oH W1 y S m) 41 (.block 2 (ag f112 2)) (fm 12 [some 8] (LQ L.length 0 i y)) (pO 12 [some 8] (uU np nv xp xv F k L (mq y cB T D) l.length)++dj [some 8] (lk l)) 12
   ⟨.normal,[],uU np nv xp xv F k L (mq y cB T D) (l++kR (lO L)).length++marks 12 (lk (l++kR (lO L))),13⟩:=by
 have hb:∀ t,(l++kR ((lO L).take t)).length<1000000:=λt=>by have h1:=aGe ((lO L).take t);rw[jn,Xc]at h1;rw[jM];omega
 have e0:l++kR ((lO L).take 0)=l:=by rw[Sb];exact gY l
 have:=Sd (P:=prog) (B:=oH W1 y S m) (N:=41) (b:=aF (ag f112 2)) (next:=12) (p:=1) (r:=⟨.exit 2,[],uU np nv xp xv F k L (mq y cB T D) (l++kR (lO L)).length++marks 12 (lk (l++kR (lO L))),13⟩) L.length
  (λt=>LQ L.length t i y) (λt=>uU np nv xp xv F k L (mq y cB T D) (l++kR ((lO L).take t)).length) (λt=>lk (l++kR ((lO L).take t))) [some 8] (λ_ _=>rfl) (aGi jE iG) (λ_ _=>aGg _)
  (aGj (.inl rfl)) rfl (λt ht=>by
   have hx:=aW ht;obtain⟨z,hz⟩:∃ z,L[(t+1)%L.length]?=some z:=⟨_,aW (cE _ o_)⟩;refine⟨[some (IF L[t] z)],if L[t]<z then 18 else 15,aGj ?_,aGi jE iG,?_⟩
   ·unfold IF;split
    ·exact .inr (.inl rfl)
    ·exact .inr (.inr rfl)
   ·have h:=aTL (np:=np) (nv:=nv) (W1:=W1) (S:=S) (y:=y) (D:=D) (cB:=cB) (k:=k) (i:=i) jE iG hF oI hx hz (hb t) o_;rw[<-aTM hx hz l]at h;exact h)
  (by rw[show(lO L).take L.length=lO L from j0 (by rw[Xc];exact bh _)];unfold uU mq lk;generalize (l++kR (lO L)).length=n;generalize ct eE (l++kR (lO L))=r;exact az [.lt 19 L.length L.length false s_]) n_
 rw[e0]at this;exact bO (id:=2) this
def LR(n i y:Nat):aM:=[(10,vI i),(8,cr 2),(9,vI n),(0,.func (.yield y) #[] #[]),(1,bZ 6)]
def uV(np nv:Nat)(xp xv:ah)(F:Fact)(r:Obj)(n:Nat):aE:=
 [(3,.aI [sl 0 np,sl 1 nv,cr 2] 28),(4,.aI [sl 8 n] 51),(6,.aI [sl 0 np,sl 1 nv,cr 2] 28),(7,r)]++kg xp xv F
theorem aGk{n:Nat}(jE:xp.all flat=true)(iG:xv.all flat=true):∀ p∈uV np nv xp xv F (mq y cB T D) n,wU 8 [some q] p.2:=λp hp=>by
 unfold uV at hp;rcases eA.1 hp with hp|hp
 ·simp only[b9,fv,fA]at hp;rcases hp with rfl|rfl|rfl|rfl
  ·exact BU rfl
  ·exact λv hv=>by rw[xu]at hv;subst hv;rfl
  ·exact BU rfl
  ·exact BU rfl
 ·exact aGh jE iG p hp
theorem aTO{k:Int}{L:l_}(jE:xp.all flat=true)(iG:xv.all flat=true)(hF:F.rc=false)(yf:ob fs F)(oI:A6 7 25 wh m T)(hi:i<fs.length)(hf:fs[i]?=some (k,rm L))(h63:l.length+L.length<1000000)(mo:fs.length<1000000):
  af prog (oH W1 y S m) 41 (aF (ag f112 0)) (LR fs.length i y) (uV np nv xp xv F (mq y cB T D) l.length++marks 8 (lk l)) 9
   ⟨.normal,fm 8 [some 12] (LR fs.length (i+1) y),pO 8 [some 12] (uV np nv xp xv F (mq y cB T D) (l++kR (lO L)).length)++dj [some 12] (lk (l++kR (lO L))),13⟩:=by
 have lo:=aTN (np:=np) (nv:=nv) (W1:=W1) (S:=S) (y:=y) (D:=D) (cB:=cB) (k:=k) (i:=i) jE iG hF oI h63;have ln:=oN (P:=prog) (B:=oH W1 y S m) (o:=ay f112 17) k_ (k:=10) (l:=rm L);rw[show(rm L).length=L.length from fk ..]at ln;unfold uV;unfold uU mq lk at *;generalize (l++kR (lO L)).length=n1 at *;generalize ct eE (l++kR (lO L))=r1 at *;generalize ct eE l=r0 at *;exact az [.lt 11 i fs.length true (aC hi),.step 13 (ay f112 13) [cr 2,vI i] [(9,none),(9+1,none),(2,some (.fact F))] (bZ 9) [(9,.view [iV k,cr 10]),(9+1,.fact (dM (rm L)))] (Ih k_ yf hf d_),.step 17 _ _ _ _ _ ln,.code 2 _ _ _ _ _ lo,.sum 40 i 1 (i+1) rfl o_]
def gB(Fs:List (Nat×List Nat)):List (Nat×Nat):=kR (Fs.flatMap λf=>lO f.2)
theorem aTP{f:Nat×List Nat}(hf:Fs[i]?=some f):gB (Fs.take (i+1))=gB (Fs.take i)++kR (lO f.2):=by unfold gB kR;rw[sA,hf,Kz,Wa];simp
theorem aGl{M:Nat}(h:∀ f∈Fs,f.2.length<=M):(gB Fs).length<=Fs.length*M:=by
 unfold gB;refine dc (aGe _) ?_;induction Fs with
 |nil=>simp
 |cons f l ih=>
  rw[List.flatMap_cons,jM,Xc,nL,ug];have:=ih λg hg=>h g (bw _ hg);have:=h f (aL ..);omega
theorem aGm{a b:List (Nat×Nat)}(h:q=5\/q=12):
  vp (pO 8 [some 5] (uV np nv xp xv F (mq y cB T D) A)++dj [some 5] (lk a)) 8 [some q] (LR k i y) (uV np nv xp xv F (mq y cB T D) n1) (lk b)=true:=by
 unfold lk;generalize ct eE a=r0;generalize ct eE b=r1;rcases h with rfl|rfl<;>kernel_rfl
theorem aTQ{M:Nat}(jE:xp.all flat=true)(iG:xv.all flat=true)(hF:F.rc=false)(yf:ob (Fs.map j9) F)(oI:A6 7 25 wh m T)(hM:∀ f∈Fs,f.2.length<=M)(h63:(Fs.length+1)*M<1000000)(mo:Fs.length<1000000):
  af prog (oH W1 y S m) 41 (.block 0 (ag f112 0)) (fm 8 [some 5] (LR (Fs.map j9).length 0 y)) (pO 8 [some 5] (uV np nv xp xv F (mq y cB T D) 0)++dj [some 5] (lk [])) 8
   ⟨.normal,[],uV np nv xp xv F (mq y cB T D) (gB Fs).length++marks 8 (lk (gB Fs)),9⟩:=by
 have hlen:(Fs.map j9).length=Fs.length:=fk ..;have hb:∀ i,i<=Fs.length->(gB (Fs.take i)).length+M<1000000:=λi hi=>by have h1:=aGl (Fs:=Fs.take i) (M:=M) λf hf=>hM f (Fo hf);rw[jn,nh hi]at h1;have h2:i*M<=Fs.length*M:=eZ _ hi;rw[ug]at h63;omega
 have:=Sd (P:=prog) (B:=oH W1 y S m) (N:=41) (b:=aF (ag f112 0)) (next:=8) (p:=1) (r:=⟨.exit 0,[],uV np nv xp xv F (mq y cB T D) (gB Fs).length++marks 8 (lk (gB Fs)),9⟩) (Fs.map j9).length
  (λi=>LR (Fs.map j9).length i y) (λi=>uV np nv xp xv F (mq y cB T D) (gB (Fs.take i)).length) (λi=>lk (gB (Fs.take i))) [some 5] (λ_ _=>rfl) (aGk jE iG) (λ_ _=>aGg _)
  (aGm (.inl rfl)) rfl (λi hi=>by
   have il:i<Fs.length:=by omega
   have hq:=aW il;have hm:=dK il;have hc:(Fs.map j9)[i]?=some ((Fs[i].1:Int),rm Fs[i].2):=by rw[u9,hq];rfl
   refine⟨[some 12],13,aGm (.inr rfl),aGk jE iG,?_⟩;have h:=aTO (np:=np) (nv:=nv) (W1:=W1) (S:=S) (y:=y) (D:=D) (cB:=cB) (l:=gB (Fs.take i)) jE iG hF yf oI hi hc (by have:=hb i o_;have:=hM _ hm;omega) o_;rw[<-aTP hq]at h;exact h)
  (by rw[show Fs.take (Fs.map j9).length=Fs from j0 o_];unfold uV mq lk;generalize (gB Fs).length=n;generalize ct eE (gB Fs)=r;exact az [.lt 11 (Fs.map j9).length (Fs.map j9).length false s_]) n_
 exact bO (id:=0) this
def F9(np nv:Nat)(l:List (Nat×Nat)):aE:=[(3,.aI [sl 0 np,sl 1 nv,cr 2] 28),(4,.aI [sl 8 l.length] 51),(6,.aI [sl 0 np,sl 1 nv,cr 2] 28),(8,.row (ct eE l) 88 2)]
theorem aTR{M:Nat}(jE:xp.all flat=true)(iG:xv.all flat=true)(hF:F.rc=false)(yf:ob (Fs.map j9) F)(hM:∀ f∈Fs,f.2.length<=M)(h63:(Fs.length+1)*M<1000000)(mo:Fs.length<1000000):
  J8 prog 7 25 #[11,12] (A9 (pf Tryz.f20)) (Ba (pf Tryz.f20)) wh (rz np nv 5 []) (kg xp xv F) (F9 np nv (gB Fs)) m T 112 [bZ 6] none:=by
 refine Kf (Nc:=41) (ca:=[bZ 6]) mixed func112 k_ 100 (v:=.tuple #[]) λoI cB y D W1 S=>?_;have lo:=aTQ (np:=np) (nv:=nv) (W1:=W1) (S:=S) (y:=y) (D:=D) (cB:=cB) jE iG hF yf oI hM h63 mo;unfold F9;unfold uV mq lk at lo;generalize Fs.map j9=fs at *;generalize (gB Fs).length=n at *;generalize ct eE (gB Fs)=r at *;exact⟨[.step 9 (ay f112 9) [cr 2] [(2,some (.fact F))] (vI fs.length) [] (vW k_ yf),.code 0 _ _ _ _ _ lo],k_⟩
theorem aTS:zk prog 64 6 ([.agg #[sl 0 np,sl 1 nv,cr 2]]++[]) [] (kg xp xv F) (.func (.func 112) #[] #[bZ 6]) [(6,.aI [sl 0 np,sl 1 nv,cr 2] 28)]:=
 oK mixed func64 100 (N:=4) k_ (λ_=>[]) (λ_=>k_)
theorem aTT{M:Nat}(jE:xp.all flat=true)(hnp:np=0->xp=[])(iG:xv.all flat=true)(hnv:nv=0->xv=[])(hF:F.rc=false)(yf:ob (Fs.map j9) F)(hM:∀ f∈Fs,f.2.length<=M)(h63:(Fs.length+1)*M<1000000)(mo:Fs.length<1000000)(bd:gB Fs≠[])
  (mI:cg prog 15 [.s np xp nv xv F] b_):kL prog 20 [.s np xp nv xv F] 88 2 (gB Fs).length (ct eE (ye (gB Fs))):=by
 have ax:([aK.s np xp nv xv F].all aK.ok)=true:=by show((xp.all flat&&(xv.all flat&&!F.rc))&&true)=true;rw[jE,iG,hF];rfl
 intro w vs cx;refine aLE (N:=25) (c:=(Tryz.f20).body.getD .skip) func20 k_ k_ ax (λι cc a hf hm ha hu=>?_) cx;have vv:=λB (o:Oper) (ho:di o.op=some (.func 15))=>pg (P:=prog) (B:=B) (o:=o) (vs:=[.agg #[sl 0 np,sl 1 nv,cr 2]]) (nd:=[(0,some (.view xp)),(1,some (.view xv)),(2,some (.fact F))]) mI (.s (x1:=.view xp) (x2:=.view xv) rfl jE hnp rfl iG hnv .nil) ho k_ rfl
 have Wl:(gB Fs).length<4611686018427387904:=by have:=aGl hM;rw[ug]at h63;omega
 have vj:=λm T=>aTR (np:=np) (nv:=nv) (m:=m) (T:=T) jE iG hF yf hM h63 mo;have jV:((kg xp xv F).all λp=>p.2.soft)=true:=by show(true&&(true&&(!F.rc&&true)))=true;rw[hF];rfl
 have hlen:=aGf (ye (gB Fs));rw[(aGa _).length_eq]at hlen;have cG:=QF (ye (gB Fs));have st:=λBs (o:Oper) (ho:di o.op=some (.func 65))=>aTG (Bs:=Bs) (o:=o) Wl bd ho 8
 have SI:∀ p∈F9 np nv (gB Fs)++kg xp xv F,∀ v∈p.2.cells,pW 7 [8] v=true:=λp hp=>by
  rcases eA.1 hp with hp|hp
  ·simp only[F9,b9,fv,fA]at hp;rcases hp with rfl|rfl|rfl|rfl
   ·exact BT rfl
   ·exact λv hv=>by have hv:v∈[sl 8 (gB Fs).length]:=hv;rw[xu]at hv;subst hv;rfl
   ·exact BT rfl
   ·exact BT (Xd _)
  ·exact BT (QG jE iG p hp)
 have g0:af prog (ae.at w) 25 (C0 Tryz.f20 0) (jZ 0 (eM 0 [.s np xp nv xv F])) (jr 0 [.s np xp nv xv F]) 3 ⟨.normal,[(1,bZ 3),(2,.slice none 0 0)],(3,.aI [sl 0 np,sl 1 nv,cr 2] 28)::kg xp xv F,4⟩:=az [];have g1:af prog (ae.at w) 25 (xD (qi ((Tryz.f20).body.getD .skip))) [(1,bZ 3),(2,.slice none 0 0)] ((3,.aI [sl 0 np,sl 1 nv,cr 2] 28)::kg xp xv F) 4 ⟨.normal,[(1,bZ 3),(2,.slice none 0 0)],(3,.aI [sl 0 np,sl 1 nv,cr 2] 28)::kg xp xv F,4⟩:=
  az [.step 7 _ _ _ _ _ (vv _ (ay Tryz.f20 7) k_)]
 have g2:af prog (ae.at w) 25 (C0 Tryz.f20 3) [(1,bZ 3),(2,.slice none 0 0)] ((3,.aI [sl 0 np,sl 1 nv,cr 2] 28)::kg xp xv F) 4 ⟨.normal,[(1,bZ 3),(2,.slice none 0 0),(3,bZ 4)],(4,.aI [.slice none 0 0] 51)::(3,.aI [sl 0 np,sl 1 nv,cr 2] 28)::kg xp xv F,5⟩:=az [];have g3:af prog (ae.at w) 25 (C0 Tryz.f20 4) [(1,bZ 3),(2,.slice none 0 0),(3,bZ 4)] ((4,.aI [sl 5 0] 51)::(5,.row [] 88 2)::(4,.aI [.slice none 0 0] 51)::(3,.aI [sl 0 np,sl 1 nv,cr 2] 28)::kg xp xv F) 6 ⟨.normal,wh,rz np nv 5 []++kg xp xv F,7⟩:=az [
  .step 10 _ _ _ _ _ (aBP (K:=6) (args:=[.agg #[sl 0 np,sl 1 nv,cr 2]]) (ca:=[]) (ns:=[6]) (Os:=[]) (Vs:=kg xp xv F) (x:=.func 64) (o:=ay Tryz.f20 10) aTS k_ k_ k_ k_ (aY.2 λp hp=>by
   rw[jy]at hp;rw[QG jE iG p hp,iM];simp only[kg,b9,fv,fA]at hp;rcases hp with rfl|rfl|rfl<;>rfl) (λp hp=>by
   rw[xu]at hp;subst hp;exact BT rfl) k_ (λp hp=>by rw[xu]at hp;subst hp;exact .inl rfl) jV (TQ rfl))]
 have ge:∀ B,af prog B 25 (qi (qi (qi (qi ((Tryz.f20).body.getD .skip))))) wh (F9 np nv (gB Fs)++kg xp xv F) 9 ⟨.ret,[(2,sl 8 (gB Fs).length)],[(8,.row (ct eE (ye (gB Fs))) 88 2)],9⟩:=λB=>by have st:=st B (ay Tryz.f20 23) k_;unfold F9;generalize ct eE (ye (gB Fs))=r1 at *;generalize ct eE (gB Fs)=r0 at *;generalize (gB Fs).length=n at *;exact az [.step 23 _ _ _ _ _ st]
 refine lT (g0 none _ _ a w _ hf hm ha hu λtg cc0 a0 w0 aA5 Ao jX nj yM Bd _=>?_);refine lT (g1 none _ _ a0 w0 _ Ao jX nj yM λbJ gk a1 w1 jc gW cS dY dy gN _=>?_);refine lT (g2 none _ _ a1 w1 _ gW cS dY dy λdq qC a2 w2 kC jm dx fX eF gi _=>?_);obtain⟨Ol,cc3,UD,uY,A7,T1⟩:=St.aEz (k:=4) (pre:=[]) (post:=[]) (tb:=51) ⟨dq,qC,jm,dx,fX,eF⟩ rfl 88 2;refine lT (lT (g3 none _ _ a2 w2 _ UD uY A7 T1 λaUF cc4 a4 w4 aUG hf4 hm4 ha4 hu4 hk4 _=>I5 ?_));refine T3 (next:=7) (next':=9) (ns:=[8]) (Os:=rz np nv 5 []) (Vs:=kg xp xv F) (cy:=F9 np nv (gB Fs)) (gf:=112) (ca:=[bZ 6]) (j:=none) hf4 hm4 ha4 hu4 k_ jV k_ k_ k_ k_ k_ k_ d_ k_ SI (vj _ _) λD κ bX w' CZ hDw _ hf5 T2 ha5 hu5=>?_;refine aA0 (B:=ae.at w) (v:=sl 8 (gB Fs).length) ge rfl k_ hf5 T2 ha5 hu5 rfl (λF h=>h) CZ λav cc v' w' hc bo gV=>⟨v',rfl,?_,bo.base⟩;have:=vk bo (gV 8 _ rfl) hc o_ cG;rwa[<-hlen,mN]at this
end
section
open V3 (dot aw cI smul)
section
noncomputable def IG(k:Nat)(p:HS K):aQ prog Bs 38:=
 .bs f16 31 k 1 66 40 [0] (RP.v ⟨sJ,H9⟩) [dp p] (cV p).cs.toArray (.row (cV p).cs 66 40) rfl (λv hv=>by simp at hv;subst hv;rfl) (λv hv=>iL.flat _ v hv) k_ rfl d_ d_ k_
noncomputable def LS(k n:Nat)(l l':c_)(p:HS K)(hl:l.length=n)(hn:n<=6)(cZ:l'=l++[p]):aQ prog Bs 38:=
 .pP f16 32 (k+2) (k-1) n 1 (n+1) 66 40 480 (bf l) (k+1) (.row (cV p).cs 66 40) (bf l') rfl rfl rfl (by rw[DC,hl]) (by subst cZ;exact aFJ l p) (iL.one _) d_ (by simp[maxLen];omega) o_ k_
noncomputable def bk6(n1 n2 n3 n4 n5 n6:V3 K):aQ prog Bs 38:=
 .bs f16 20 1 6 42 30 [0,1,2,3,4,5] (RV.v sJ) [bN n1,bN n2,bN n3,bN n4,bN n5,bN n6] (aX [n1,n2,n3,n4,n5,n6]).toArray (.row (aX [n1,n2,n3,n4,n5,n6]) 42 30) k_ (λv hv=>by simp only[b9,fv,fA]at hv;rcases hv with rfl|rfl|rfl|rfl|rfl|rfl<;>rfl) (λv hv=>aY.1 (eD _) v hv) k_ k_ d_ d_ k_
variable{n1 n2 n3 n4 n5 n6:V3 K}{q:K}{z:Int}
structure aGn(n1 n2 n3 n4 n5 n6:V3 K)(q:K)(z:Int):Prop where
 c1:aD prog 59 [.int .i64 1,.int .i64 0,.int .i64 0] (bN n1)
 c2:aD prog 59 [.int .i64 (-1),.int .i64 0,.int .i64 0] (bN n2)
 c3:aD prog 59 [.int .i64 0,.int .i64 1,.int .i64 0] (bN n3)
 c4:aD prog 59 [.int .i64 0,.int .i64 (-1),.int .i64 0] (bN n4)
 c5:aD prog 59 [.int .i64 0,.int .i64 0,.int .i64 1] (bN n5)
 c6:aD prog 59 [.int .i64 0,.int .i64 0,.int .i64 (-1)] (bN n6)
 d:aD prog 60 [.int .i64 z] (cd q)
set_option maxRecDepth 100000 in
theorem aTU{n:Nat}(h:aGn n1 n2 n3 n4 n5 n6 q z)(h1:1<=z)(h2:z<=1000000)(hx:xs.all flat=true)(hl:xs.length=n*30)(wi:F.rc=false)
  (mX:Di prog 12 [fF (BQ n1 n2 n3 n4 n5 n6 q)] 66 40 6 (bf (BQ n1 n2 n3 n4 n5 n6 q)) 42 30 n xs F [qp 0]) :
  Di prog 16 [.p (.int .i64 z)] 66 40 6 (bf (BQ n1 n2 n3 n4 n5 n6 q)) 42 30 n xs F [qp 0]:=by
 refine U6 (k1:=20) (k2:=21) (k3:=22) mixed func16 rfl 300 (N:=38) k_ (λw=>[
  .rw 8 (.bool (decide (z<1))) a_ (by rw[aO o_]),.rw 11 (.bool (decide (z>1000000))) a_ (by rw[aO o_]),
  h.c1.at 14,h.c2.at 15,h.c3.at 16,h.c4.at 17,h.c5.at 18,h.c6.at 19,
  bk6 n1 n2 n3 n4 n5 n6,
  h.d.at 29,IG 3 ⟨n1,q⟩,.ap0 f16 32 4 1 66 40 480 3 (.row (cV ⟨n1,q⟩).cs 66 40) (bf [⟨n1,q⟩]) rfl rfl (aSM _) d_ d_ d_ k_,
  h.d.at 29,IG 6 ⟨n2,q⟩,LS 5 1 [⟨n1,q⟩] [⟨n1,q⟩,⟨n2,q⟩] ⟨n2,q⟩ rfl d_ rfl,
  h.d.at 29,IG 9 ⟨n3,q⟩,LS 8 2 [⟨n1,q⟩,⟨n2,q⟩] [⟨n1,q⟩,⟨n2,q⟩,⟨n3,q⟩] ⟨n3,q⟩ rfl d_ rfl,
  h.d.at 29,IG 12 ⟨n4,q⟩,LS 11 3 [⟨n1,q⟩,⟨n2,q⟩,⟨n3,q⟩] [⟨n1,q⟩,⟨n2,q⟩,⟨n3,q⟩,⟨n4,q⟩] ⟨n4,q⟩ rfl d_ rfl,
  h.d.at 29,IG 15 ⟨n5,q⟩,LS 14 4 [⟨n1,q⟩,⟨n2,q⟩,⟨n3,q⟩,⟨n4,q⟩] [⟨n1,q⟩,⟨n2,q⟩,⟨n3,q⟩,⟨n4,q⟩,⟨n5,q⟩] ⟨n5,q⟩ rfl d_ rfl,
  h.d.at 29,IG 18 ⟨n6,q⟩,LS 17 5 [⟨n1,q⟩,⟨n2,q⟩,⟨n3,q⟩,⟨n4,q⟩,⟨n5,q⟩] (BQ n1 n2 n3 n4 n5 n6 q) ⟨n6,q⟩ rfl d_ rfl,
  .step 35 (ay f16 35) [.func (.func 12) #[] #[],sl 19 6] [(20,none),(21,none),(22,none),(19,some (.row (bf (BQ n1 n2 n3 n4 n5 n6 q)) 66 40))] (.tuple #[.agg #[sl 20 6,sl 21 n,cr 22],qp 0]) [(22,.fact (F.j7 w.heap.size)),(21,.row xs 42 30),(20,.row (bf (BQ n1 n2 n3 n4 n5 n6 q)) 66 40)]
   (KS (B:=ae.at w) (S:=w.heap.size) mX (.w (x:=.row (bf (BQ n1 n2 n3 n4 n5 n6 q)) 66 40) rfl (dh _) jk .nil) (x:=.func 12) k_ k_ wi (dh _) hx rfl (λw' hb=>Below.size hb) 20)]) (λw=>?_) d_ (dh _) (DC _) hx hl rfl
 kernel_rfl
end
theorem aTV(hz:z.natAbs<9223372036854775808):aGn ⟨kI 1,kI 0,kI 0⟩ ⟨kI (-1),kI 0,kI 0⟩ ⟨kI 0,kI 1,kI 0⟩ ⟨kI 0,kI (-1),kI 0⟩ ⟨kI 0,kI 0,kI 1⟩ ⟨kI 0,kI 0,kI (-1)⟩ (kI z) z:=
 ⟨xx d_ d_ d_,xx d_ d_ d_,xx d_ d_ d_,xx d_ d_ d_,xx d_ d_ d_,xx d_ d_ d_,tw hz⟩
theorem aTW:cg prog 39 [.o (dM [4,6,7,5]),.r 4 (eQ [4,6,7,5])] b_:=
 xy func39 26 (λw=>[.step 7 (ay f39 7) [cr 0] [(0,some (.fact (dM [4,6,7,5])))] (vI 4) [] (oN k_),.step 13 (ay f39 13) [cr 0] [(0,some (.fact (dM [4,6,7,5])))] (vI 4) [] (oN k_),.step 19 (ay f39 19) [cr 0,vI 0] [(2,none),(0,some (.fact (dM [4,6,7,5])))] (bZ 2) [(2,.view [iV 4])] (DT k_ rfl),.step 13 (ay f39 13) [cr 0] [(0,some (.fact (dM [4,6,7,5])))] (vI 4) [] (oN k_),.step 19 (ay f39 19) [cr 0,vI 1] [(3,none),(0,some (.fact (dM [4,6,7,5])))] (bZ 3) [(3,.view [iV 6])] (DT k_ rfl),.step 13 (ay f39 13) [cr 0] [(0,some (.fact (dM [4,6,7,5])))] (vI 4) [] (oN k_),.step 19 (ay f39 19) [cr 0,vI 2] [(4,none),(0,some (.fact (dM [4,6,7,5])))] (bZ 4) [(4,.view [iV 7])] (DT k_ rfl),.step 13 (ay f39 13) [cr 0] [(0,some (.fact (dM [4,6,7,5])))] (vI 4) [] (oN k_),.step 19 (ay f39 19) [cr 0,vI 3] [(5,none),(0,some (.fact (dM [4,6,7,5])))] (bZ 5) [(5,.view [iV 5])] (DT k_ rfl),.step 13 (ay f39 13) [cr 0] [(0,some (.fact (dM [4,6,7,5])))] (vI 4) [] (oN k_)])
section
variable{ps:c_}
theorem qt.both(h:qt ps):sB ps=true/\vN ps (cQ ps)=true:=by have:=h.Ut;unfold DO at this;rwa[cY]at this
theorem qt.made(h:qt ps):Di prog 12 [fF ps] 66 40 ps.length (bf ps) 42 30 (cQ ps).length (aX (cQ ps)) (n9 (jJ ps)) [qp 0]:=aEx h.aF4 h.both.1 h.both.2
theorem qt.aTX(h:qt ps)(bd:gB (ev ps (cQ ps) ps.length)≠[]):
  kL prog 20 [LN ps] 88 2 (gB (ev ps (cQ ps) ps.length)).length (ct eE (ye (gB (ev ps (cQ ps) ps.length)))):=by
 have hl:=Ll ps (cQ ps) ps.length;have h9:=h.len;exact aTT (Fs:=ev ps (cQ ps) ps.length) (M:=1600) (dh ps) jk (eD _) xz rfl (ob.full _) (λf hf=>by have:=aFz (ps:=ps) o_ (j9 f) (de.2 ⟨f,hf,rfl⟩);simpa[j9]using this) o_ o_ bd h.valid
end
theorem aTY{xv es:ah}{k:Int}(yf:ob fs F)(hF:F.rc=false)(f1:ew.all flat=true)(f2:xv.all flat=true)(he:es.all flat=true)(h6:fs.length=6)(h0:fs[0]?=some (k,[4,6,7,5]))
  (hB:Di prog 16 [.p (vI 1)] 66 40 6 ew 42 30 8 xv F [qp 0]) (hV:cg prog 15 [.s 6 ew 8 xv F] b_) (hE:kL prog 20 [.s 6 ew 8 xv F] 88 2 12 es) :
  cg prog 10 [] b_:=by
 have ln:=λ(B:ae) (S:Nat)=>vW (P:=prog) (B:=B) (o:=ay f10 18) k_ (k:=2) (yf.j7 S)
 rw[h6]at ln;exact gg mixed func10 rfl 300 (N:=40) k_ (λw=>[
  .step 4 (ay f10 4) [.func (.func 16) #[] #[],vI 1] [(0,none),(1,none),(2,none)] (.tuple #[.agg #[sl 0 6,sl 1 8,cr 2],qp 0]) [(2,.fact (F.j7 w.heap.size)),(1,.row xv 42 30),(0,.row ew 66 40)]
   (KS (B:=ae.at w) (S:=w.heap.size) hB (.p rfl .nil) (x:=.func 16) k_ k_ hF f1 f2 rfl (λw' hb=>Below.size hb) 0),
  .step 18 _ _ _ _ _ (ln _ w.heap.size),
  .step 24 (ay f10 24) [cr 2,vI 0] [(4,none),(4+1,none),(2,some (.fact (F.j7 w.heap.size)))] (bZ 4) [(4,.view [iV k,cr 5]),(4+1,.fact (dM [4,6,7,5]))] (Ih k_ (yf.j7 _) h0 d_),
  .bs f10 27 6 4 3 1 [0,1,2,3] (vI 0) [vI 4,vI 6,vI 7,vI 5] #[vI 4,vI 6,vI 7,vI 5] (.row (eQ [4,6,7,5]) 3 1) rfl (λv hv=>by
   simp only[b9,fv,fA]at hv;rcases hv with rfl|rfl|rfl|rfl<;>rfl) (λv hv=>by
   simp only[b9,fv,fA]at hv;rcases hv with rfl|rfl|rfl|rfl<;>rfl) k_ rfl d_ d_ k_,.cR f10 28 [cr 5,sl 6 4] aTW (.o (k:=5) (.w (k:=6) (x:=.row (eQ [4,6,7,5]) 3 1) rfl rfl n_ .nil)),.step 32 (ay f10 32) [.func (.func 15) #[] #[],.agg #[sl 0 6,sl 1 8,cr 2]] [(0,some (.row ew 66 40)),(1,some (.row xv 42 30)),(2,some (.fact (F.j7 w.heap.size)))] b_ []
   (pg hV (.si (aFw _ _) (x1:=.row ew 66 40) (x2:=.row xv 42 30) rfl f1 n_ rfl f2 n_ .nil) (x:=.func 15) k_ k_ k_),
  .step 36 (ay f10 36) [.func (.func 20) #[] #[],.agg #[sl 0 6,sl 1 8,cr 2]] [(7,none),(0,some (.row ew 66 40)),(1,some (.row xv 42 30)),(2,some (.fact (F.j7 w.heap.size)))] (sl 7 12) [(7,.row es 88 2)]
   (r8 hE (.si (aFw _ _) (x1:=.row ew 66 40) (x2:=.row xv 42 30) rfl f1 n_ rfl f2 n_ .nil) (x:=.func 20) k_ k_ he 7)]) (λw=>k_) k_
theorem aTZ:ev lN WX 6=[(0,[4,6,7,5]),(1,[0,1,3,2]),(2,[2,3,7,6]),(3,[0,4,5,1]),(4,[1,5,7,3]),(5,[0,2,6,4])]:=by kernel_rfl
theorem Xg:cg prog 10 [] b_:=by
 have mX:=W9.made;have hV:=W9.valid;have hF:ev lN (cQ lN) lN.length=[(0,[4,6,7,5]),(1,[0,1,3,2]),(2,[2,3,7,6]),(3,[0,4,5,1]),(4,[1,5,7,3]),(5,[0,2,6,4])]:=by rw[aFR];exact aTZ
 have hE:=W9.aTX (by rw[hF];decide);have hfs:jJ lN=[(0,[4,6,7,5]),(1,[0,1,3,2]),(2,[2,3,7,6]),(3,[0,4,5,1]),(4,[1,5,7,3]),(5,[0,2,6,4])]:=by unfold jJ;rw[hF];rfl
 have hl:(gB (ev lN (cQ lN) lN.length)).length=12:=by rw[hF];decide
 have hv:(cQ lN).length=8:=by rw[aFR];rfl
 have he:=aY.2 (QF (ye (gB (ev lN (cQ lN) lN.length))));rw[hl]at hE;unfold LN at hE hV;rw[hfs]at hE hV mX;rw[hv]at hE hV mX;exact aTY (ob.full _) rfl (dh _) (eD _) he rfl rfl (aTU (z:=1) (aTV d_)
  d_ d_ (eD _) (by rw[tC,hv]) rfl mX) hV hE

end
section
open CR OF
open V3 (dot aw cI smul)
section
variable{ps:c_}{rs:List RP}{vs:List RV}{fs:f_}{r:RV}{n nv:Nat}{xp xv:ah}{F:Fact}{t t1 t2:Bool}{z:Int}
theorem aT0(a:uR n nv xp xv F)(uW:cg prog 21 [.s n xp nv xv F] (.bool t1))(hr:aD prog 22 [r.v,vI 12] (.bool t2))(ht:¬(t1=true/\t2=true)):cg prog 6 [.s n xp nv xv F,.p r.v] b_:=by
 cases t1
 ·exact gg mixed func6 (a.nQ r) 200 (N:=29) k_ (λw=>[.cR Tryz.f6 5 [] Xg .nil,.cR Tryz.f6 8 _ uW (a.src .nil)]) (λ_=>k_) k_
 cases t2
 ·exact gg mixed func6 (a.nQ r) 200 (N:=29) k_ (λw=>[.cR Tryz.f6 5 [] Xg .nil,.cR Tryz.f6 8 _ uW (a.src .nil),hr.at 12]) (λ_=>k_) k_
 ·exact absurd ⟨rfl,rfl⟩ ht
theorem Xh(a:uR n nv xp xv F)(uW:cg prog 21 [.s n xp nv xv F] b_)(hr:aD prog 22 [r.v,vI 12] b_)(h1:cg prog 15 [.s n xp nv xv F] (.bool t))(h2:cg prog 23 [.s n xp nv xv F] (.bool t))
  (h3:cg prog 24 [.s n xp nv xv F,.p r.v] (.int .i64 z)) (h4:cg prog 25 [.s n xp nv xv F,.p r.v] (.int .i64 z)):cg prog 6 [.s n xp nv xv F,.p r.v] b_:=by
 have ez:Value.bool (z==z)=.bool true:=by simp
 cases t<;>
 exact gg mixed func6 (a.nQ r) 200 (N:=29) k_ (λw=>[.cR Tryz.f6 5 [] Xg .nil,.cR Tryz.f6 8 _ uW (a.src .nil),hr.at 12,.cR Tryz.f6 16 _ h1 (a.src .nil),.cR Tryz.f6 18 _ h2 (a.src .nil),.cR Tryz.f6 23 _ h3 (a.src (.p rfl .nil)),.cR Tryz.f6 26 _ h4 (a.src (.p rfl .nil)),.rw 27 _ b_ ez]) (λ_=>k_) k_
end
section
variable{rs:List RP}{vs:List RV}{fs:f_}
theorem aT1(r:RV)(F6:rs.length<9223372036854775807)(ig:vs.length<9223372036854775807)(mo:fs.length<9223372036854775807):cg prog 6 [kf rs vs fs,.p r.v] b_:=by
 have a:=aTg rs vs fs;have uW:=aSL (rs:=rs) (vs:=vs) (fs:=fs) F6 ig mo;have LU:=PN (r:=r) 12;by_cases hb:LI rs vs fs=true/\po r 12=true;rotate_left
 ·exact aT0 a uW LU hb
 obtain⟨hb,hw⟩:=hb;rw[hb]at uW;rw[hw]at LU;have sz:FK 96 r:=aDy hw d_;have q1:=aF8 sz d_;have q2:=aUK sz d_;rcases aTt hb F6 ig mo with ⟨h2,h1⟩|⟨ps,h,rfl,rfl,rfl,h2⟩
 ·exact Xh a uW LU h1 h2 (aF6 a h1 n_) (aF7 a q2 λ_=>h2)
 ·rw[aTh]at uW h2 ⊢;have h2:=cg.Qa h2 (ob.full _).G;have uW:=cg.Qa uW (ob.full _).G;refine cg.aS0 ?_ (aSZ ps);have h1:=h.valid;have a:=aF5 ps;by_cases hv:tH r=true;rotate_left
  ·have hv:tH r=false:=by simpa using hv
   rw[hv]at q1 q2;exact Xh a uW LU h1 h2 (aF6 a h1 λ_=>q1) (aF7 a q2 n_)
  ·rw[hv]at q2;have sv:=PR hv sz;have e:=PM hv;generalize vZ r=v at *;subst e;exact Xh a uW LU h1 h2 (aTo h sv d_) (aTp a q2 h2 (aTk (m:=24) (eD _) rfl h.sz sv d_ (by have:=h.len;omega)))
end
end
end Go.Proofs.YthccllenbnhogaaGreatDoor
