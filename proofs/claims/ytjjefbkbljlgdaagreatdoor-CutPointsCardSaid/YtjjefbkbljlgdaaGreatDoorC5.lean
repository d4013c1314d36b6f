/- Points of a cut set: the proof of CutPointsCardSaid (the law's function answers true at every set it can be given; theorem cutPoints_card, last part), part 5 of 7; no condition. -/
import Derived.Test.YtjjefbkbljlgdaaGreatDoorC4
namespace Go.Proofs.YtjjefbkbljlgdaaGreatDoor
open Go Go.RowKit Tryz
section
open V3 (dot ax cL smul)
theorem Wr(ps:List (HS K)):(fC ps).ok=true:=cU ps
theorem aEd(vs:List (V3 K)):(uX vs).ok=true:=dJ vs
theorem aQE(vs:List (V3 K)):(aR.b vs.length (aL vs)).ok=true:=dJ vs
theorem aQF(v:V3 K):(aR.q (cD v).cs).ok=true:=bh.2 (RV.nH _)
theorem aQG(v:V3 K):(aR.p (bB v)).ok=true:=rfl
theorem Ws(p:HS K):(aR.p (cC p)).ok=true:=rfl
def aJ(vs:List (V3 K))(i:Nat):V3 K:=(vs[i]?).getD 0
theorem jV{vs:List (V3 K)}{i:Nat}(h:i<vs.length):vs[i]?=some (aJ vs i):=by unfold aJ;rw[bf h];rfl
theorem aEe{x:K}:0<x↔OF.az x>0:=by rw[OF.iz];rcases OF.iy x with h|h|h<;>rw[h]<;>decide
def xZ(n:V3 K)(pt:Nat->V3 K)(p:Nat):List Nat->Nat
 |b::a::st=>if 0<turn n (pt a) (pt b) (pt p)then 0 else xZ n pt p (a::st)+1
 |_=>0
theorem Qa(n:V3 K)(pt:Nat->V3 K)(p:Nat):∀ st:List Nat,pop n pt p st=st.drop (xZ n pt p st)
 |[]=>rfl
 |[a]=>rfl
 |b::a::st=>by
  unfold pop xZ;split
  ·rfl
  ·exact Qa n pt p (a::st)
theorem aEf(n:V3 K)(pt:Nat->V3 K)(p:Nat):∀(st:List Nat) (d:Nat),d<xZ n pt p st->∃ b a fe,st.drop d=b::a::fe/\¬0<turn n (pt a) (pt b) (pt p)
 |[],d,h=>by simp[xZ]at h
 |[a],d,h=>by simp[xZ]at h
 |b::a::st,d,h=>by
  unfold xZ at h;split at h
  ·omega
  ·rename_i ht;cases d with
   |zero=>exact⟨b,a,st,rfl,ht⟩
   |succ d=>exact aEf n pt p (a::st) d o_
theorem aEg(n:V3 K)(pt:Nat->V3 K)(p:Nat):∀(st:List Nat),(∃ b a fe,st.drop (xZ n pt p st)=b::a::fe/\0<turn n (pt a) (pt b) (pt p))\/(st.drop (xZ n pt p st)).length<=1
 |[]=>.inr (kT _)
 |[a]=>.inr (bj _)
 |b::a::st=>by
  unfold xZ;split
  ·rename_i ht;exact .inl ⟨b,a,st,rfl,ht⟩
  ·exact aEg n pt p (a::st)
section
variable{Bs:aa}{vs:List (V3 K)}{nn:V3 K}{l:List Nat}
def oT(l:List Nat)(vs:List (V3 K))(nn:V3 K):aH:=[(0,.view (ai l)),(1,.view (aL vs)),(2,.view [sl 1 vs.length]),(3,.view (cD nn).cs)]
def lP(st:List Nat):List Obj:=[.row (ai st.reverse) 3 1]
def DT(p L:Nat):aW:=[(7,vI p),(5,sl 4 L),(1,bX 2),(2,bX 3)]
def Qb(n i L:Nat):aW:=[(12,vI i),(10,sl 0 n),(11,vI n),(5,sl 4 L),(1,bX 2),(2,bX 3)]
theorem aEh{m:Nat}(hm:4<=m):∀ x∈oT l vs nn,fN m x.2:=λx hx=>by
 simp only[oT,cx,jg,jh]at hx;rcases hx with rfl|rfl|rfl|rfl
 ·exact λv hv=>iI (kv l v hv)
 ·exact λv hv=>iI (bh.1 (dJ vs) v hv)
 ·intro v hv;have:v=sl 1 vs.length:=by simpa[Obj.cells]using hv
  subst this;show GA m ⟨1,0,some 7⟩=true;unfold GA;simp;omega
 ·exact λv hv=>iI (RV.nH _ v hv)
theorem aQH{m:Nat}{st:List Nat}:∀ x∈lP st,fN m x:=λx hx=>by simp only[lP,cx,jg,jh]at hx;subst hx;exact λv hv=>iI (kv _ v hv)
theorem aEi{m:Nat}(hm:5<=m){st:List Nat}:∀ x∈oT l vs nn++marks 4 (lP st),fN m x.2:=λx hx=>by
 rcases ee.1 hx with h|h
 ·exact aEh o_ x h
 ·simp only[lP,marks,cx,jg,jh]at h;subst h;exact λv hv=>iI (kv _ v hv)
noncomputable def hiS{p a b L m q:Nat}{r:List Nat}{t:Bool}(hL:r.length=L+2)(ha:r[L]?=some a)(hb:r[L+1]?=some b)(kO:a<vs.length)(kY:b<vs.length)(qV:p<vs.length)(aO:∀ v∈vs,aD q v)(hn:aD m nn)(hm:100*(m+q)+1000<=aB)(h63:L<1000000)
  (ht:decide (OF.az (turn nn (aJ vs a) (aJ vs b) (aJ vs p))>0)=t) (more:bA prog Bs 66):bA prog Bs 66:=
 have sa:=aO _ (cQ (jV kO));have sb:=aO _ (cQ (jV kY));have sp:=aO _ (cQ (jV qV))
 .gt 18 (L+2) 1 true s_::.eX 23 (L+2) 2 L rfl o_::.ix f165 24 4 (L+2) L o_ k_::.ld f165 25 3 4 L (.row (ai r) 3 1) (vI a) rfl (dO ha) k_::
  .cY f165 26 1 vs.length a 30 kO k_::.ld f165 27 33 1 (a*30) (.view (aL vs)) (bB (aJ vs a)) rfl (lf (jV kO)) k_::.eX 32 (L+2) 1 (L+1) rfl o_::.ix f165 33 4 (L+2) (L+1) o_ k_::
  .ld f165 34 3 4 (L+1) (.row (ai r) 3 1) (vI b) rfl (dO hb) k_::.cY f165 35 1 vs.length b 30 kY k_::.ld f165 36 33 1 (b*30) (.view (aL vs)) (bB (aJ vs b)) rfl (lf (jV kY)) k_::
  (zx sb sa o_).at 40::.cY f165 43 1 vs.length p 30 qV k_::.ld f165 44 33 1 (p*30) (.view (aL vs)) (bB (aJ vs p)) rfl (lf (jV qV)) k_::(zx sp sa o_).at 46::
  (vS (sb.sub sa) (sp.sub sa) o_).at 47::(uV hn ((sb.sub sa).ax (sp.sub sa)) o_).at 48::(nJ (hn.dot ((sb.sub sa).ax (sp.sub sa))) o_).at 49::
  .rw 50 (.bool (decide (OF.az (dot nn (ax (aJ vs b-aJ vs a) (aJ vs p-aJ vs a)))>0))) (.bool t) (by rw[<-ht];rfl)::more
theorem aEj{st fe:List Nat}{a b:Nat}(h:st=b::a::fe):st.reverse.length=fe.length+2/\st.reverse[fe.length]?=some a/\st.reverse[fe.length+1]?=some b/\st.reverse.take (fe.length+1)=(a::fe).reverse:=by
 subst h;have e:(b::a::fe).reverse=fe.reverse++[a,b]:=by simp
 rw[e];refine⟨by simp,?_,?_,?_⟩
 ·rw[Eh s_];simp
 ·rw[Eh s_];simp
 ·rw[aB7];simp[ki]
theorem aEk(l:List Nat)(m:Nat):(ai l).take (m*1)=ai (l.take m):=by rw[fX];simp[ai,Co]
theorem aQI{st fe:List Nat}{p a b m q:Nat}(bL:st=b::a::fe)(bd:∀ x∈st,x<vs.length)(qV:p<vs.length)(aO:∀ v∈vs,aD q v)(hn:aD m nn)(hm:100*(m+q)+1000<=aB)(h63:st.length<1000000)
  (ht:¬0<turn nn (aJ vs a) (aJ vs b) (aJ vs p)):ag prog Bs 66 (aF (af f165 2)) (DT p st.length) (oT l vs nn++marks 4 (lP st)) 5 ⟨.normal,DT p (a::fe).length,oT l vs nn++marks 4 (lP (a::fe)),5⟩:=by
 obtain⟨r1,r2,r3,r4⟩:=aEj bL;have kO:=bd a (by rw[bL];simp);have kY:=bd b (by rw[bL];simp);have hl:st.length=fe.length+2:=by rw[bL];rfl
 have hd:decide (OF.az (turn nn (aJ vs a) (aJ vs b) (aJ vs p))>0)=false:=aN λh=>ht (aEe.2 h);have oR:(ai st.reverse).take ((fe.length+1)*1)=ai (a::fe).reverse:=by rw[aEk,r4]
 have dp:=aEi (l:=l) (vs:=vs) (nn:=nn) (m:=5) (bj _) (st:=a::fe);unfold lP at *;rw[hl]at h63 ⊢;rw[show(a::fe).length=fe.length+1 from rfl];generalize st.reverse=r at *;generalize (a::fe).reverse=r' at *;exact vu mixed 100 (hZ:=7) (hiS r1 r2 r3 kO kY qV aO hn hm o_ hd [.eX 54 (fe.length+2) 1 (fe.length+1) rfl o_,.cut f165 55 4 (fe.length+2) (fe.length+1) ((fe.length+1)*1) 1 1 3 (ai r) (ai r') o_ oR k_]) k_ rfl k_ dp k_
theorem aQJ{st:List Nat}{p m q:Nat}(bd:∀ x∈st,x<vs.length)(qV:p<vs.length)(aO:∀ v∈vs,aD q v)(hn:aD m nn)(hm:100*(m+q)+1000<=aB)(h63:st.length<1000000)
  (h:(∃ b a fe,st=b::a::fe/\0<turn nn (aJ vs a) (aJ vs b) (aJ vs p))\/st.length<=1):ag prog Bs 66 (aF (af f165 2)) (DT p st.length) (oT l vs nn++marks 4 (lP st)) 5 ⟨.exit 2,DT p st.length,oT l vs nn++marks 4 (lP st),5⟩:=by
 have dp:=aEi (l:=l) (vs:=vs) (nn:=nn) (m:=5) (bj _) (st:=st);rcases h with ⟨b,a,fe,bL,ht⟩|h
 ·obtain⟨r1,r2,r3,r4⟩:=aEj bL;have kO:=bd a (by rw[bL];simp);have kY:=bd b (by rw[bL];simp);have hl:st.length=fe.length+2:=by rw[bL];rfl
  have hd:decide (OF.az (turn nn (aJ vs a) (aJ vs b) (aJ vs p))>0)=true:=aC (aEe.1 ht);unfold lP at *;rw[hl]at h63 ⊢;generalize st.reverse=r at *;exact vu mixed 100 (hZ:=7) (hiS r1 r2 r3 kO kY qV aO hn hm o_ hd []) k_ rfl k_ dp k_
 ·exact aA [.gt 18 st.length 1 false (by simp;omega)]
theorem aEl{st:List Nat}{n d:Nat}(h:∀ x∈st,x<n):∀ x∈st.drop d,x<n:=λx hx=>h x (Wt hx)
theorem aQK{st:List Nat}{p m q:Nat}(bd:∀ x∈st,x<vs.length)(qV:p<vs.length)(aO:∀ v∈vs,aD q v)(hn:aD m nn)(hm:100*(m+q)+1000<=aB)(h63:st.length<1000000):
  ag prog Bs 66 (.block 2 (af f165 2)) (DT p st.length) (oT l vs nn++marks 4 (lP st)) 5 ⟨.normal,DT p (pop nn (aJ vs) p st).length,oT l vs nn++marks 4 (lP (pop nn (aJ vs) p st)),5⟩:=by
 have hlen:∀ d,(st.drop d).length<1000000:=λd=>by rw[vl];omega
 have:=cd (P:=prog) (B:=Bs) (N:=66) (b:=aF (af f165 2)) (next:=5) (xZ nn (aJ vs) p st) (λd=>DT p (st.drop d).length) (λd=>oT l vs nn++marks 4 (lP (st.drop d)))
  (r:=⟨.exit 2,DT p (pop nn (aJ vs) p st).length,oT l vs nn++marks 4 (lP (pop nn (aJ vs) p st)),5⟩) (λi k _=>jN (l:=oT l vs nn++marks 4 (lP (st.drop i))) (m:=oT l vs nn++marks 4 (lP (st.drop 0))) rfl k)
  (λd hd=>by
   obtain⟨b,a,fe,h1,h2⟩:=aEf nn (aJ vs) p st d hd;have h3:st.drop (d+1)=a::fe:=by rw[<-M7,h1];rfl
   rw[h3];exact aQI h1 (aEl bd) qV aO hn hm (hlen d) h2)
  (by rw[Qa];exact aQJ (aEl bd) qV aO hn hm (hlen _) (aEg nn (aJ vs) p st)) n_
 exact bT (id:=2) this
def bL(nn:V3 K)(vs:List (V3 K))(l:List Nat)(i:Nat):List Nat:=half nn (aJ vs) (l.take i)
theorem aEm{i p:Nat}(h:l[i]?=some p):bL nn vs l (i+1)=p::pop nn (aJ vs) p (bL nn vs l i):=by unfold bL half;rw[tK,h,Option.toList,UX];rfl
theorem aQL(n:V3 K)(pt:Nat->V3 K)(p:Nat)(st:List Nat):∀ x∈pop n pt p st,x∈st:=λx hx=>by rw[Qa]at hx;exact Wt hx
theorem aEn(n:V3 K)(pt:Nat->V3 K)(p:Nat)(st:List Nat):(pop n pt p st).length<=st.length:=by rw[Qa,vl];omega
theorem Lr:∀ i,i<=l.length->(∀ x∈bL nn vs l i,x∈l)/\(bL nn vs l i).length<=i
 |0,_=>⟨λx hx=>by simp[bL,half]at hx,bj _⟩
 |i+1,h=>by
  obtain⟨h1,h2⟩:=Lr i o_;have hp:l[i]?=some l[i]:=bf o_;rw[aEm hp];refine⟨λx hx=>?_,?_⟩
  ·rcases cx.1 hx with rfl|hx
   ·exact dM o_
   ·exact h1 x (aQL _ _ _ _ x hx)
  ·have:=aEn nn (aJ vs) l[i] (bL nn vs l i);rw[oA];omega
theorem aQM{i p m q:Nat}{st:List Nat}(hi:i<l.length)(hp:l[i]?=some p)(bd:∀ x∈st,x<vs.length)(qV:p<vs.length)(aO:∀ v∈vs,aD q v)(hn:aD m nn)(hm:100*(m+q)+1000<=aB)(h63:st.length<900000)(qW:l.length<1000000):
  ag prog Bs 66 (aF (af f165 0)) (Qb l.length i st.length) (oT l vs nn++marks 4 (lP st)) 5
   ⟨.normal,gQ 4 [some 6] (Qb l.length (i+1) (p::pop nn (aJ vs) p st).length),oT l vs nn++dT [some 6] (lP (p::pop nn (aJ vs) p st)),7⟩:=by
 have lo:=aQK (Bs:=Bs) (l:=l) bd qV aO hn hm (show st.length<1000000 by omega);have xP:=aEn nn (aJ vs) p st;generalize pop nn (aJ vs) p st=r at *;have hr:ai r.reverse++[vI p]=ai (p::r).reverse:=by simp[ai]
 have Ag:(ai r.reverse).length=r.length*1:=by rw[lN,F8,fX]
 have h1:=It r.reverse;unfold lP at *;rw[show(p::r).length=r.length+1 from rfl];generalize st.reverse=s0 at *;generalize ai r.reverse=c0 at *;generalize ai (p::r).reverse=c1 at *;exact aA [.lt 13 i l.length true (aC hi),.ix f165 14 0 l.length i hi k_,.ld f165 15 3 0 i (.view (ai l)) (vI p) rfl (dO hp) k_,.code 2 _ _ _ _ _ lo,.bs f165 58 5 1 3 1 [0] (vI 0) [vI p] #[vI p] (.row [vI p] 3 1) rfl (λv hv=>by simp at hv;subst hv;rfl) (λv hv=>by simp at hv;subst hv;rfl) k_ rfl d_ d_ k_,.pa f165 59 6 4 r.length 1 (r.length+1) 3 1 8 c0 5 (.row [vI p] 3 1) c1 rfl rfl rfl Ag hr (λv hv=>by simp[Obj.cells]at hv;subst hv;rfl) d_ (by simp[maxLen];omega) o_ k_,.sum 60 i 1 (i+1) rfl o_]
theorem aQN{m q:Nat}(bd:∀ x∈l,x<vs.length)(aO:∀ v∈vs,aD q v)(hn:aD m nn)(hm:100*(m+q)+1000<=aB)(h63:l.length<900000):
  ag prog Bs 66 (.block 0 (af f165 0)) (gQ 4 [none] (Qb l.length 0 0)) (oT l vs nn++dT [none] (lP [])) 4 ⟨.normal,[(5,sl 4 (half nn (aJ vs) l).length)],oT l vs nn++marks 4 (lP (half nn (aJ vs) l)),5⟩:=by
 have DE:bL nn vs l l.length=half nn (aJ vs) l:=by unfold bL;rw[mQ]
 have:=rQ (P:=prog) (B:=Bs) (N:=66) (b:=aF (af f165 0)) (next:=4) (p:=1) (r:=⟨.exit 0,[(5,sl 4 (half nn (aJ vs) l).length)],oT l vs nn++marks 4 (lP (half nn (aJ vs) l)),5⟩) l.length
  (λi=>Qb l.length i (bL nn vs l i).length) (λ_=>oT l vs nn) (λi=>lP (bL nn vs l i)) [none] (λ_ _=>rfl) (λj _=>⟨aEh (bj _),aQH⟩) k_ k_
  (λi hi=>by have hp:l[i]?=some l[i]:=bf hi;obtain⟨f1,f2⟩:=Lr (nn:=nn) (vs:=vs) (l:=l) i o_;refine⟨[some 6],7,k_,?_⟩;rw[aEm hp];exact aQM hi hp (λx hx=>bd x (f1 x hx)) (bd _ (dM hi)) aO hn hm o_ o_)
  (by rw[DE];generalize half nn (aJ vs) l=a;exact aA [.lt 13 l.length l.length false s_]) n_
 exact bT (id:=0) this
theorem aQO(nn:V3 K)(pt:Nat->V3 K){l:List Nat}(h:l≠[]):half nn pt l≠[]:=by
 have:∀(l st:List Nat),st≠[]->l.foldl (λst p=>p::pop nn pt p st) st≠[]:=by
  intro l;induction l with
  |nil=>exact λ_ h=>h
  |cons a l ih=>exact λst _=>ih _ n_
 cases l with
 |nil=>exact absurd rfl h
 |cons a l=>exact this l _ n_
def j7(nn:V3 K)(vs:List (V3 K))(l:List Nat):List Nat:=(half nn (aJ vs) l).tail.reverse
theorem aEo{m q:Nat}(qp:0<l.length)(bd:∀ x∈l,x<vs.length)(aO:∀ v∈vs,aD q v)(hn:aD m nn)(hm:100*(m+q)+1000<=aB)(h63:l.length<900000):
  lM prog 165 [F7 l,.b vs.length (aL vs),.q (cD nn).cs] 3 1 (j7 nn vs l).length (ai (j7 nn vs l)):=by
 have ay:([F7 l,.b vs.length (aL vs),.q (cD nn).cs].all aR.ok)=true:=by simp only[dH,fp,Wp,aQE,aQF,vU]
 have lo:=λBs=>aQN (Bs:=Bs) bd aO hn hm h63;have aU:=aQO nn (aJ vs) (l:=l) (λe=>by rw[e]at qp;cases qp);have hlen:(half nn (aJ vs) l).length<=l.length:=by have:=(Lr (nn:=nn) (vs:=vs) (l:=l) l.length (bj _)).2;unfold bL at this;rwa[mQ]at this
 unfold j7;cases hh:half nn (aJ vs) l with
 |nil=>exact absurd hh aU
 |cons a st=>
  rw[hh]at lo hlen;simp only[List.tail_cons,F8];have oR:(ai (a::st).reverse).take (st.length*1)=ai st.reverse:=by rw[aEk,vP,Rb s_]
  unfold lP at lo;rw[show(a::st).length=st.length+1 from rfl]at lo hlen;have hx:=gU st.reverse;have Wu:(ai st.reverse).length=st.length*1:=by rw[lN,F8,fX]
  generalize ai (a::st).reverse=c0 at *;generalize ai st.reverse=c1 at *;exact zn (k:=4) mixed func165 ay 100 (N:=66) k_ (λ_=>[.code 0 _ _ _ _ _ (lo _),.eX 64 (st.length+1) 1 st.length rfl o_,.cut f165 65 4 (st.length+1) st.length (st.length*1) 1 1 3 c0 c1 o_ oR k_]) (λ_=>k_) hx Wu
end
theorem aEp(nn:V3 K)(vs:List (V3 K))(l:List Nat):order nn (aJ vs) l=j7 nn vs l++j7 nn vs l.reverse:=rfl
theorem Wv{vs:List (V3 K)}{nn:V3 K}{l:List Nat}{m q:Nat}(qp:0<l.length)(bd:∀ x∈l,x<vs.length)(aO:∀ v∈vs,aD q v)(hn:aD m nn)(hm:100*(m+q)+1000<=aB)(h63:l.length<900000):
  lM prog 125 [uX vs,F7 l,.p (bB nn)] 3 1 (order nn (aJ vs) l).length (ai (order nn (aJ vs) l)):=by
 have ay:([uX vs,F7 l,.p (bB nn)].all aR.ok)=true:=by simp only[dH,fp,Wp,aEd,aQG,vU]
 have h1:=aEo qp bd aO hn hm h63;have h2:=aEo (l:=l.reverse) (by simpa using qp) (λx hx=>bd x (Kz.1 hx)) aO hn hm (by simpa using h63);have hc:=aQx qp o_;have hr:=aQD qp o_;rw[aEp];have e1:ai (j7 nn vs l)++ai (j7 nn vs l.reverse)=ai (j7 nn vs l++j7 nn vs l.reverse):=aQw _ _;have bH:∀ l:List Nat,(∀ x∈l,x∈l)->(j7 nn vs l).length<=l.length:=λl _=>by have:=(Lr (nn:=nn) (vs:=vs) (l:=l) l.length (bj _)).2;unfold bL at this;rw[mQ]at this;unfold j7;rw[F8,List.length_tail];omega
 have s1:=bH l λ_ h=>h;have s2:=bH l.reverse λ_ h=>h;have g1:=lN (j7 nn vs l);have g2:=lN (j7 nn vs l.reverse);have o2:=It (j7 nn vs l.reverse);have f3:=gU (j7 nn vs l++j7 nn vs l.reverse);have g3:=lN (j7 nn vs l++j7 nn vs l.reverse);have f1:=gU (j7 nn vs l);have f2:=gU (j7 nn vs l.reverse);rw[iZ]at g3 ⊢;rw[F8]at s2;have hb:∀{l:List Nat},l.length=0->(Obj.view (ai l)).cells=[]:=λh=>P8 h;unfold xY at hr;have aEq:l.reverse.length=l.length:=F8 ..;unfold F7 at h2;rw[aEq]at h2;have ir:l.length=0->ai l.reverse=[]:=λh=>P8 (by rw[aEq];exact h);have irf:=gU l.reverse;generalize (j7 nn vs l).length=a1 at *;generalize (j7 nn vs l.reverse).length=a2 at *;generalize ai (j7 nn vs l++j7 nn vs l.reverse)=i3 at *;generalize ai (j7 nn vs l)=i1 at *;generalize ai (j7 nn vs l.reverse)=i2 at *;generalize ai l.reverse=lr at *;exact zn (k:=7) mixed func125 ay 100 (N:=23) k_ (λ_=>[
  .step 13 (av f125 13) [.func (.func 165) #[] #[bX 2,bX 3],sl 1 l.length] [(4,none),(1,some (.view (ai l))),(2,some (.aI [sl 0 vs.length] 23)),(0,some (.view (aL vs))),(3,some (.aI (cD nn).cs 33))] (sl 4 a1) [(4,.row i1 3 1)]
   (aCK (vs:=[sl 1 l.length]) (ca:=[bX 2,bX 3]) h1 (.w (x:=.view (ai l)) rfl (gU l) hb (.b (x:=.view (aL vs)) (y:=.aI [sl 0 vs.length] 23) (cc:=0) rfl rfl rfl (dJ vs) vV (.q (x:=.aI (cD nn).cs 33) rfl (bh.2 (RV.nH _)) .nil))) (x:=.tmp 11) k_ k_ f1 4),
  .step 15 (av f125 15) [.func (.func 166) #[] #[],sl 1 l.length] [(5,none),(1,some (.view (ai l)))] (sl 5 l.length) [(5,.row (ai l) 3 1)]
   (qI hc (.w (x:=.view (ai l)) rfl (gU l) hb .nil) (x:=.func 166) k_ k_ (gU l) 5),
  .step 17 (av f125 17) [.func (.func 167) #[] #[],sl 5 l.length] [(5,some (.row (ai l) 3 1))] (.tuple #[]) [(5,.row lr 3 1)]
   (OZ (args:=[sl 5 l.length]) (ca:=[]) (x:=.func 167) hr k_ k_ k_ k_ (by
    show((Nat.blt 5 6&&om 6 (5,.row (ai l) 3 1))&&true)=true;rw[zF (x:=.row (ai l) 3 1) λv hv=>kv l v hv];rfl) (by
    show(om 6 (5,.row lr 3 1)&&true)=true;rw[zF (x:=.row lr 3 1) λv hv=>bh.1 irf v hv];rfl) k_ k_ k_ k_),.step 21 (av f125 21) [.func (.func 165) #[] #[bX 2,bX 3],sl 5 l.length] [(6,none),(5,some (.row lr 3 1)),(2,some (.aI [sl 0 vs.length] 23)),(0,some (.view (aL vs))),(3,some (.aI (cD nn).cs 33))] (sl 6 a2) [(6,.row i2 3 1)]
   (aCK (vs:=[sl 5 l.length]) (ca:=[bX 2,bX 3]) h2 (.w (x:=.row lr 3 1) rfl irf ir (.b (x:=.view (aL vs)) (y:=.aI [sl 0 vs.length] 23) (cc:=0) rfl rfl rfl (dJ vs) vV (.q (x:=.aI (cD nn).cs 33) rfl (bh.2 (RV.nH _)) .nil))) (x:=.tmp 19) k_ k_ f2 6),
  .pa f125 22 7 4 a1 a2 (a1+a2) 3 1 8 i1 6 (.row i2 3 1) i3 rfl rfl (by rw[fX];exact g2) (by rw[fX];exact g1) e1 o2 d_ (by simp[maxLen];omega) o_ k_]) (λ_=>k_) f3 (by rw[fX];exact g3)
def cz(p:HS K)(vs:List (V3 K))(j:Nat):List Nat:=(List.range j).filter λk=>decide (dot p.n (aJ vs k)-p.d=0)
theorem aEr(p:HS K)(vs:List (V3 K))(j:Nat):cz p vs (j+1)=cz p vs j++(if dot p.n (aJ vs j)-p.d=0 then[j]else[]):=by
 unfold cz;rw[HB,aEs]
 congr 1
 by_cases h:dot p.n (aJ vs j)-p.d=0<;>simp[h]
theorem Ww{p:HS K}{vs:List (V3 K)}{j x:Nat}(h:x∈cz p vs j):x<j:=by unfold cz at h;rw[aEt,kh]at h;exact h.1
theorem Iu(p:HS K)(vs:List (V3 K))(j:Nat):(cz p vs j).length<=j:=by have:=aEu (λk=>decide (dot p.n (aJ vs k)-p.d=0)) (List.range j);rw[yG]at this;exact this
def qX(ps:List (HS K))(vs:List (V3 K))(i:Nat)(p:HS K):List (Nat×List Nat):=
 if(ps.take i).any (λq=>decide (canon p=canon q))then[]
 else if(cz p vs vs.length).length<3 then[]
 else if(order p.n (aJ vs) (cz p vs vs.length)).length>2 then[(i,order p.n (aJ vs) (cz p vs vs.length))]else[]
def lQ(ps:List (HS K))(vs:List (V3 K))(i:Nat):List (Nat×List Nat):=match ps[i]? with|some p=>qX ps vs i p|none=>[]
def ft(ps:List (HS K))(vs:List (V3 K))(n:Nat):List (Nat×List Nat):=(List.range n).flatMap (lQ ps vs)
theorem Ls(ps:List (HS K))(vs:List (V3 K))(n:Nat):ft ps vs (n+1)=ft ps vs n++lQ ps vs n:=by unfold ft;rw[HB,UI];simp
theorem aQP(ps:List (HS K))(vs:List (V3 K))(i:Nat)(p:HS K):(qX ps vs i p).length<=1:=by
 unfold qX;split
 ·exact kT _
 ·split
  ·exact kT _
  ·split
   ·exact bj _
   ·exact kT _
theorem Qc(ps:List (HS K))(vs:List (V3 K)):∀ n,(ft ps vs n).length<=n
 |0=>bj _
 |n+1=>by
  rw[Ls,iZ];have h1:=Qc ps vs n;have h2:(lQ ps vs n).length<=1:=by
   unfold lQ;split
   ·exact aQP _ _ _ _
   ·exact kT _
  omega
def qY(f:Nat×List Nat):Int×List Int:=((f.1:Int),f.2.map λx:Nat=>(x:Int))
section
variable{Bs:aa}{ps:List (HS K)}{vs:List (V3 K)}
def Lt(nv j L:Nat):aW:=[(26,vI j),(24,sl 1 nv),(25,vI nv),(7,bX 3),(8,sl 4 L)]
def Ah(vs:List (V3 K))(p:HS K):aH:=[(1,.view (aL vs)),(3,.aI (cH p).cs 35)]
def jW(l:List Nat):List Obj:=[.row (ai l) 3 1]
theorem aQQ{p:HS K}{m:Nat}:∀ x∈Ah vs p,fN m x.2:=λx hx=>by
 simp only[Ah,cx,jg,jh]at hx;rcases hx with rfl|rfl
 ·exact λv hv=>iI (bh.1 (dJ vs) v hv)
 ·exact λv hv=>iI (iC.flat _ v hv)
theorem Wx{m:Nat}{l:List Nat}:∀ x∈jW l,fN m x:=λx hx=>by simp only[jW,cx,jg,jh]at hx;subst hx;exact λv hv=>iI (kv _ v hv)
theorem aQR{j m q:Nat}{p:HS K}{l:List Nat}(hj:j<vs.length)(hp:bt m p)(fT:p.n≠0)(aO:∀ v∈vs,aD q v)(hm:100*(m+q)+1000<=aB)(h63:l.length<900000)(qW:vs.length<1000000):
  ∃ σ hZ,(∀ l0:List Nat,CL (Ah vs p++dT [none] (jW l0)) 4 σ (Lt vs.length (j+1) (l++if dot p.n (aJ vs j)-p.d=0 then[j]else[]).length) (Ah vs p) (jW (l++if dot p.n (aJ vs j)-p.d=0 then[j]else[]))=true)/\
   ag prog Bs 59 (aF (af f75 2)) (Lt vs.length j l.length) (Ah vs p++marks 4 (jW l)) 5 ⟨.normal,gQ 4 σ (Lt vs.length (j+1) (l++if dot p.n (aJ vs j)-p.d=0 then[j]else[]).length),Ah vs p++dT σ (jW (l++if dot p.n (aJ vs j)-p.d=0 then[j]else[])),hZ⟩:=by
 have hv:=jV hj;have hs:=zy hp (aO _ (cQ hv)) o_ fT;by_cases h:dot p.n (aJ vs j)-p.d=0
 ·rw[aw h];have e:(Value.bool (OF.az (dot p.n (aJ vs j)-p.d)==0))=.bool true:=by rw[OF.NK.1 h];rfl
  have hr:ai l++[vI j]=ai (l++[j]):=by simp[ai]
  have Ag:(ai l).length=l.length*1:=by rw[lN,fX]
  have h1:=It l;rw[show(l++[j]).length=l.length+1 by simp];unfold jW;refine⟨[some 7],8,λl0=>k_,?_⟩;generalize OF.az (dot p.n (aJ vs j)-p.d)=z at *;generalize aJ vs j=v at *;generalize ai l=c0 at *;generalize ai (l++[j])=c1 at *;exact aA [.lt 27 j vs.length true (aC hj),.cY f75 29 1 vs.length j 30 hj k_,.ld f75 30 33 1 (j*30) (.view (aL vs)) (bB v) rfl (lf hv) k_,hs.at 33,.rw 34 (.bool (z==0)) (.bool true) e,.bs f75 37 6 1 3 1 [0] (vI 0) [vI j] #[vI j] (.row [vI j] 3 1) rfl (λv hv=>by simp at hv;subst hv;rfl) (λv hv=>by simp at hv;subst hv;rfl) k_ rfl d_ d_ k_,.pa f75 38 7 4 l.length 1 (l.length+1) 3 1 8 c0 6 (.row [vI j] 3 1) c1 rfl rfl rfl Ag hr (λv hv=>by simp[Obj.cells]at hv;subst hv;rfl) d_ (by simp[maxLen];omega) o_ k_,.sum 39 j 1 (j+1) rfl o_]
 ·rw[ao h,je];have e:(Value.bool (OF.az (dot p.n (aJ vs j)-p.d)==0))=.bool false:=by
   congr 1
   have:OF.az (dot p.n (aJ vs j)-p.d)≠0:=λe=>h (OF.NK.2 e);simpa using this
  refine⟨[some 4],6,λl0=>k_,?_⟩;generalize OF.az (dot p.n (aJ vs j)-p.d)=z at *;generalize aJ vs j=v at *;exact aA [.lt 27 j vs.length true (aC hj),.cY f75 29 1 vs.length j 30 hj k_,.ld f75 30 33 1 (j*30) (.view (aL vs)) (bB v) rfl (lf hv) k_,hs.at 33,.rw 34 (.bool (z==0)) (.bool false) e,.sum 39 j 1 (j+1) rfl o_]
theorem Wy{m q:Nat}{p:HS K}(hp:bt m p)(fT:p.n≠0)(aO:∀ v∈vs,aD q v)(hm:100*(m+q)+1000<=aB)(h63:vs.length<900000):
  ag prog Bs 59 (.block 2 (af f75 2)) (gQ 4 [none] (Lt vs.length 0 0)) (Ah vs p++dT [none] (jW [])) 4 ⟨.normal,[(8,sl 4 (cz p vs vs.length).length),(7,bX 3)],Ah vs p++marks 4 (jW (cz p vs vs.length)),5⟩:=by
 have:=rQ (P:=prog) (B:=Bs) (N:=59) (b:=aF (af f75 2)) (next:=4) (p:=1) (r:=⟨.exit 2,[(8,sl 4 (cz p vs vs.length).length),(7,bX 3)],Ah vs p++marks 4 (jW (cz p vs vs.length)),5⟩) vs.length
  (λj=>Lt vs.length j (cz p vs j).length) (λ_=>Ah vs p) (λj=>jW (cz p vs j)) [none] (λ_ _=>rfl) (λj _=>⟨aQQ,Wx⟩) k_ k_
  (λj hj=>by have hl:=Iu p vs j;obtain⟨σ,hZ,h1,h2⟩:=aQR (Bs:=Bs) (l:=cz p vs j) hj hp fT aO hm o_ o_;rw[aEr];exact⟨σ,hZ,h1 _,h2⟩)
  (by generalize cz p vs vs.length=a;exact aA [.lt 27 vs.length vs.length false s_]) n_
 exact bT (id:=2) this
def fI(n nv i c:Nat):aW:=[(14,vI i),(12,sl 0 n),(13,vI n),(0,sl 0 n),(1,sl 1 nv),(5,sl 2 c)]
def fM(ps:List (HS K))(vs:List (V3 K))(cells:aj):aH:=[(0,.view (aK ps)),(1,.view (aL vs)),(2,.row cells 63 2)]
def pA(ps:List (HS K))(i:Nat)(p:HS K):Bool:=(ps.take i).any λq=>decide (canon p=canon q)
noncomputable def fS{i m:Nat}{p:HS K}{t:Bool}(hi:i<ps.length)(iW:ps[i]?=some p)(bW:∀ p∈ps,bt m p/\p.n≠0)(hm:100*m+1000<=aB)(h63:ps.length<=500)(ht:pA ps i p=t)(more:bA prog Bs 59):bA prog Bs 59:=
 .lt 15 i ps.length true (aC hi)::.cY f75 17 0 ps.length i 40 hi k_::.ld f75 18 35 0 (i*40) (.view (aK ps)) (cC p) rfl (xE iW) k_::.upto f75 21 0 ps.length i 40 o_ k_::
  .step 23 (av f75 23) [.func (.func 70) #[] #[],sl 0 i,.func (.func 123) #[] #[bX 3]] [(0,some (.view (aK ps))),(3,some (.aI (cH p).cs 35))] (.bool t) [] (by
   have hp:=bW p (cQ iW);have hc:=UO (g:=123) (caps:=(cH p).cs) (ps:=ps.take i) (b:=λq=>decide (canon p=canon q)) k_ (bh.2 (iC.flat _)) (by rw[jw];omega) λq hq=>
    aLR hp.1 (bW q (FD hq)).1 o_ o_ hp.2 (bW q (FD hq)).2
   rw[show(ps.take i).any (λq=>decide (canon p=canon q))=t from ht]at hc;have hl:(ps.take i).length=i:=by rw[jw];omega
   have e:aK (ps.take i)=((Obj.view (aK ps)).cells.drop 0).take (i*40):=by show _=((aK ps).drop 0).take (i*40);rw[l9];unfold aK;rw[UK iC,<-Co]
   unfold fC at hc;rw[hl,e]at hc;exact dz hc (.r (x:=.view (aK ps)) rfl (cU ps) (λh=>by rw[h]) (.f (x:=.aI (cH p).cs 35) rfl (bh.2 (iC.flat _)) .nil)) (x:=.func 70) k_ k_ rfl)::more
theorem aQS{i c m:Nat}{p:HS K}{cells:aj}(hi:i<ps.length)(iW:ps[i]?=some p)(bW:∀ p∈ps,bt m p/\p.n≠0)(hm:100*m+1000<=aB)(h63:ps.length<=500)(ht:pA ps i p=true):
  ag prog Bs 59 (aF (af f75 0)) (fI ps.length vs.length i c) (fM ps vs cells) 3 ⟨.normal,fI ps.length vs.length (i+1) c,fM ps vs cells,4⟩:=
 aA (fS hi iW bW hm h63 ht [.sum 57 i 1 (i+1) rfl o_])
theorem aQT{i c m q:Nat}{p:HS K}{cells:aj}(hi:i<ps.length)(iW:ps[i]?=some p)(bW:∀ p∈ps,bt m p/\p.n≠0)(aO:∀ v∈vs,aD q v)(hm:100*(m+q)+1000<=aB)(h63:ps.length<=500)(ik:vs.length<900000)(ht:pA ps i p=false)(ho:(cz p vs vs.length).length<3):
  ag prog Bs 59 (aF (af f75 0)) (fI ps.length vs.length i c) (fM ps vs cells) 3 ⟨.normal,fI ps.length vs.length (i+1) c,fM ps vs cells,5⟩:=by
 have hp:=bW p (cQ iW);have lo:=Wy (Bs:=Bs) hp.1 hp.2 aO hm ik;generalize cz p vs vs.length=on at *;exact aA (fS hi iW bW o_ h63 ht [.code 2 _ _ _ _ _ lo,.lt 42 on.length 3 true (aC ho),.sum 57 i 1 (i+1) rfl o_])
noncomputable def fL{m q:Nat}{p:HS K}{on l:List Nat}(hl:order p.n (aJ vs) on=l)(hp:bt m p)(aO:∀ v∈vs,aD q v)(hm:100*(m+q)+1000<=aB)(gJ:∀ x∈on,x<vs.length)(h3:0<on.length)(h63:on.length<900000):aY prog Bs 59:=
 .step 47 (av f75 47) [.func (.func 125) #[] #[],sl 1 vs.length,sl 4 on.length,bB p.n] [(5,none),(1,some (.view (aL vs))),(4,some (.row (ai on) 3 1))] (sl 5 l.length) [(5,.row (ai l) 3 1)]
  (qI (hl▸Wv h3 gJ aO hp.1 hm h63) (.w (x:=.view (aL vs)) rfl (dJ vs) vV (.w (x:=.row (ai on) 3 1) rfl (gU on) (λh=>P8 h) (.p k_ .nil))) (x:=.func 125) k_ k_ (gU l) 5)
theorem aQU{i c m q:Nat}{p:HS K}{cells:aj}(hi:i<ps.length)(iW:ps[i]?=some p)(bW:∀ p∈ps,bt m p/\p.n≠0)(aO:∀ v∈vs,aD q v)(hm:100*(m+q)+1000<=aB)(h63:ps.length<=500)(ik:vs.length<900000)(ht:pA ps i p=false)(ho:¬(cz p vs vs.length).length<3)
  (hl:¬(order p.n (aJ vs) (cz p vs vs.length)).length>2):ag prog Bs 59 (aF (af f75 0)) (fI ps.length vs.length i c) (fM ps vs cells) 3 ⟨.normal,fI ps.length vs.length (i+1) c,fM ps vs cells,6⟩:=by
 have hp:=bW p (cQ iW);have lo:=Wy (Bs:=Bs) hp.1 hp.2 aO hm ik;have gJ:∀ x∈cz p vs vs.length,x<vs.length:=λx hx=>Ww hx;have hol:=Iu p vs vs.length;obtain⟨l,ch⟩:∃ l,order p.n (aJ vs) (cz p vs vs.length)=l:=⟨_,rfl⟩;rw[ch]at hl;generalize cz p vs vs.length=on at *;exact aA (fS hi iW bW o_ h63 ht [.code 2 _ _ _ _ _ lo,.lt 42 on.length 3 false (aN ho),fL ch hp.1 aO hm gJ o_ o_,.gt 50 l.length 2 false (aN o_),.sum 57 i 1 (i+1) rfl o_])
theorem aEv{it:TypeInfo}{z:Value}(h1:prog.info? 63=some it)(h2:it.zero=some z):∀ v∈z.cells.toList,flat v=true:=by have e:(prog.info? 63).bind (·.zero)=some (.agg #[vI 0,.slice none 0 0]):=k_;rw[h1]at e;have e:it.zero=some (.agg #[vI 0,.slice none 0 0]):=e;rw[h2]at e;injection e with e;subst e;intro v hv;have hv:v∈[vI 0,.slice none 0 0]:=hv;simp at hv;rcases hv with rfl|rfl<;>rfl
theorem aQV{i c m q:Nat}{p:HS K}{cells:aj}(hi:i<ps.length)(iW:ps[i]?=some p)(bW:∀ p∈ps,bt m p/\p.n≠0)(aO:∀ v∈vs,aD q v)(hm:100*(m+q)+1000<=aB)(h63:ps.length<=500)(ik:vs.length<900000)(ht:pA ps i p=false)(ho:¬(cz p vs vs.length).length<3)
  (hl:(order p.n (aJ vs) (cz p vs vs.length)).length>2) (hc:cells.length=c*2) (Lu:c<=500) (D9:∀ v∈cells,v.oneCell'=true) :
  ag prog Bs 59 (aF (af f75 0)) (fI ps.length vs.length i c) (fM ps vs cells) 3
   ⟨.normal,[(14,vI (i+1)),(12,sl 0 ps.length),(13,vI ps.length),(0,sl 0 ps.length),(1,sl 1 vs.length),(5,sl 7 (c+1))],[(0,.view (aK ps)),(1,.view (aL vs)),(5,.row (ai (order p.n (aJ vs) (cz p vs vs.length))) 3 1),(7,.row (cells++[vI i,sl 5 (ai (order p.n (aJ vs) (cz p vs vs.length))).length]) 63 2)],8⟩:=by
 have hp:=bW p (cQ iW);have lo:=Wy (Bs:=Bs) hp.1 hp.2 aO hm ik;have gJ:∀ x∈cz p vs vs.length,x<vs.length:=λx hx=>Ww hx;have hol:=Iu p vs vs.length;obtain⟨l,ch⟩:∃ l,order p.n (aJ vs) (cz p vs vs.length)=l:=⟨_,rfl⟩;rw[ch]at hl ⊢;rw[lN];generalize cz p vs vs.length=on at *;generalize mC:cells++[vI i,sl 5 l.length]=cells' at *;exact aA (fS hi iW bW o_ h63 ht [.code 2 _ _ _ _ _ lo,.lt 42 on.length 3 false (aN ho),fL ch hp.1 aO hm gJ o_ o_,.gt 50 l.length 2 true (aC hl),.step 54 (av f75 54) [vI i,sl 5 l.length] [] (.agg #[vI i,sl 5 l.length]) [] (Pk (t:=63) (idx:=[0,1]) k_ (λit z h1 h2=>aEv h1 h2) k_),.bsM f75 55 6 1 63 2 [0] (.agg #[vI 0,.slice none 0 0]) [.agg #[vI i,sl 5 l.length]] #[vI i,sl 5 l.length] (.row [vI i,sl 5 l.length] 63 2) rfl (λv hv=>by
   have hv:v∈[vI 0,.slice none 0 0]:=hv;simp at hv;rcases hv with rfl|rfl<;>rfl) d_ k_ rfl d_ d_ k_,.pa f75 56 7 2 c 1 (c+1) 63 2 32 cells 6 (.row [vI i,sl 5 l.length] 63 2) cells' rfl rfl rfl hc mC (λv hv=>by
   simp[Obj.cells]at hv;rcases hv with rfl|rfl<;>rfl) d_ (by simp[maxLen];omega) o_ k_,.sum 57 i 1 (i+1) rfl o_])
end
end
theorem ku.one{w:World}{fs:List (Int×List Int)}{cs:aj}(h:ku w fs cs):∀ v∈cs,v.oneCell'=true:=by
 induction h with
 |nil=>intro v hv;cases hv
 |cons h1 _ _ ih=>
  intro v hv;rcases cx.1 hv with rfl|hv
  ·rfl
  rcases cx.1 hv with rfl|hv
  ·rcases h1 with ⟨e,_⟩|⟨_,_,_,e,_⟩<;>rw[e]<;>rfl
  ·exact ih v hv
structure Ai(B:aa)(fs:List (Int×List Int))(ks:List (Value×aj))(cs:aj):Prop where
 flat:∀ v∈cs,Go.Proofs.YtjjefbkbljlgdaaGreatDoor.flat v=true
 cells:∀ w,(∀ p∈ks,cK w p.1 p.2.length p.2)->ku w fs cs
 slice:∀ v∈cs,∀ b,iE v=some b->¬B.cO b
theorem Ai.nil{B:aa}:Ai B [] [] []:=⟨λv h=>(by cases h),λw _=>.nil,λv h=>(by cases h)⟩
theorem Ai.snoc{B:aa}{fs:List (Int×List Int)}{ks:List (Value×aj)}{cells:aj}(h:Ai B fs ks cells){i:Nat}{l:List Nat}{u:Value}(hu:Go.Proofs.YtjjefbkbljlgdaaGreatDoor.flat u=true)(hb:∀ b,iE u=some b->¬B.cO b):
  Ai B (fs++[qY (i,l)]) ((u,ai l)::ks) (cells++[vI i,u]):=by
 refine⟨λv hv=>?_,λw hw=>?_,λv hv b sI=>?_⟩
 ·rcases ee.1 hv with hv|hv
  ·exact h.flat v hv
  ·simp at hv;rcases hv with rfl|rfl
   ·rfl
   ·exact hu
 ·have h1:=h.cells w λp hp=>hw p (bF _ hp);have h2:=hw (u,ai l) (aV ..);have h2:cK w u (ai l).length (ai l):=h2;rw[aMY]at h2;have e:(eD (l.map λx:Nat=>(x:Int))).length=(l.map λx:Nat=>(x:Int)).length:=by simp[eD]
  rw[e]at h2;exact h1.snoc (i:=(i:Int)) h2 hu
 ·rcases ee.1 hv with hv|hv
  ·exact h.slice v hv b sI
  ·simp at hv;rcases hv with rfl|rfl
   ·cases sI
   ·exact hb b sI
theorem Ai.out{B:aa}{fs:List (Int×List Int)}{ks:List (Value×aj)}{cells:aj}(h:Ai B fs ks cells){ι:Map}{c:Nat->Option Obj}{w:World}{k:Nat}{ty:TypeId}{v:Value}(hm:aQ (B.gB ks) ι c w)(hk:c k=some (.row cells ty 2))(hc:aG ι (.slice (some ⟨k,0,some 7⟩) fs.length 0) v):
  Dc w v (dq fs)/\∀ b,(dq fs).cO v w b->¬B.cO b:=by
 have hf:=h.cells w hm.base.2;have hl:=hf.length;have hr:=oD (len:=fs.length*2) hm hk rfl h.flat (λe=>by rw[e]) hc;have hr:cK w v fs.length cells:=by
  have e:((Obj.row cells ty 2).cells.drop 0).take (fs.length*2)=cells:=by rw[l9];exact ki (vj hl)
  rwa[e]at hr
 have j6:KX w v fs:=⟨cells,hr,hf⟩;have own:∀ b,iE v=some b->¬B.cO b:=by
  intro b hb hF;rcases hc.gV rfl with ⟨_,_,_,_,q5⟩|⟨b',oo,cap,c',q1,_,_,q5⟩
  ·rw[q5]at hb;cases hb
  ·rw[q5]at hb;injection hb with hb;subst hb;exact(hm.own k _ b' oo cap hk rfl q1).2 (.inl hF)
 refine⟨⟨j6,?_,?_⟩,λb hF=>?_⟩
 ·rcases hr with ⟨e,_⟩|⟨_,_,_,e,_⟩<;>rw[e]<;>rfl
 ·rcases hr with ⟨e,_⟩|⟨_,_,_,e,_⟩<;>rw[e]<;>rfl
 ·rcases hF with hF|⟨b',o,c',j,u,e,hj,lX,hb⟩
  ·exact own b hF
  ·have hu:=Pm hr hf e hj lX;exact h.slice u hu b hb
section
variable{ps:List (HS K)}{vs:List (V3 K)}
noncomputable def fC0:Code:=qR (eO f75)
noncomputable def fC1:Code:=qR (mV (eO f75))
noncomputable def fC2:Code:=qR (qR (mV (mV (eO f75))))
noncomputable def fC3:Code:=qR (mV (mV (mV (eO f75))))
theorem aQW:(f75).body=some (.seq fC0 (.seq fC1 (.seq (.seq fC2 (.block 0 (.loop (aF (af f75 0))))) (.seq fC3 .ret)))):=k_
theorem Wz{cells:aj}(cN:∀ v∈cells,flat v=true)(r:List (Nat×Nat)):∀ p∈fM ps vs cells,FI r p.2:=λp hp=>by
 simp only[fM,cx,jg,jh]at hp;rcases hp with rfl|rfl|rfl
 ·exact λv hv=>bh.1 (cU ps) v hv
 ·exact λv hv=>bh.1 (dJ vs) v hv
 ·exact cN
def Qd(B:aa)(ps:List (HS K))(vs:List (V3 K))(i:Nat)(a:Act)(w:World):Prop:=
 ∃ ks cells,Ai B ((ft ps vs i).map qY) ks cells/\St (B.gB ks) 59 (fI ps.length vs.length i (ft ps vs i).length) (fM ps vs cells) 3 a w
theorem aEw{B:aa}{ks:List (Value×aj)}{cells:aj}{fs:List (Nat×List Nat)}{N next:Nat}{fr:aW}{M:aH}{a:Act}{w:World}(h:Ai B (fs.map qY) ks cells)(hs:St (B.gB ks) N fr M next a w):cells.length=fs.length*2/\∀ v∈cells,v.oneCell'=true:=by obtain⟨ι,cc,_,h2,_,_⟩:=hs;have:=h.cells w h2.base.2;exact⟨by rw[this.length,eY],this.one⟩
theorem aQX{B:aa}{m q i:Nat}(pc:∀ k,B.mp k=none)(hi:i<ps.length)(bW:∀ p∈ps,bt m p/\p.n≠0)(aO:∀ v∈vs,aD q v)(hm:100*(m+q)+1000<=aB)(h63:ps.length<=500)(ik:vs.length<900000){a:Act}{w:World}(h:Qd B ps vs i a w)
  (K:Act->World->Prop) (Q:Exit->Act->World->Prop) (hK:∀ a' w',Qd B ps vs (i+1) a' w'->K a' w'):(aF (af f75 0)).wpIn (FW none) 0 prog (Exit.then K Q) a w:=by
 obtain⟨ks,cells,hF,hS⟩:=h;have iW:ps[i]?=some ps[i]:=bf hi;have mE:lQ ps vs i=qX ps vs i ps[i]:=by unfold lQ;rw[iW]
 obtain⟨iF,D9⟩:=aEw hF hS;have Lu:(ft ps vs i).length<=500:=by have:=Qc ps vs i;omega
 have stay:lQ ps vs i=[]->∀ next a' w',St (B.gB ks) 59 (fI ps.length vs.length (i+1) (ft ps vs i).length) (fM ps vs cells) next a' w'->K a' w':=by
  intro he next a' w' h';have e:ft ps vs (i+1)=ft ps vs i:=by rw[Ls,he,je]
  refine hK a' w' ⟨ks,cells,by rw[e];exact hF,?_⟩;rw[e];exact h'.H4 pc [(0,0),(1,1),(2,2)] k_ rfl (Wz hF.flat _) k_ k_ k_ k_ k_
 by_cases tX:pA ps i ps[i]=true
 ·have he:lQ ps vs i=[]:=by rw[mE];unfold qX;rw[aw (show(ps.take i).any (λq=>decide (canon ps[i]=canon q))=true from tX)]
  exact lh (aQS hi iW bW o_ h63 tX) hS λa' w' h'=>stay he _ a' w' h'
 ·have Iv:pA ps i ps[i]=false:=by simpa using tX
  by_cases ho:(cz ps[i] vs vs.length).length<3
  ·have he:lQ ps vs i=[]:=by rw[mE];unfold qX;rw[ao (show ¬(ps.take i).any (λq=>decide (canon ps[i]=canon q))=true from tX),aw ho]
   exact lh (aQT hi iW bW aO hm h63 ik Iv ho) hS λa' w' h'=>stay he _ a' w' h'
  ·by_cases hl:(order ps[i].n (aJ vs) (cz ps[i] vs vs.length)).length>2
   ·have he:lQ ps vs i=[(i,order ps[i].n (aJ vs) (cz ps[i] vs vs.length))]:=by rw[mE];unfold qX;rw[ao (show ¬(ps.take i).any (λq=>decide (canon ps[i]=canon q))=true from tX),ao ho,aw hl]
    refine lh (aQV hi iW bW aO hm h63 ik Iv ho hl iF Lu D9) hS λa' w' h'=>?_;show K a' w';obtain⟨u,hu,uN,h2⟩:=h'.Pu (m:=5) (k:=7) rfl (gU _) rfl d_;have e:ft ps vs (i+1)=ft ps vs i++[(i,order ps[i].n (aJ vs) (cz ps[i] vs vs.length))]:=by rw[Ls,he]
    have vL:=hF.snoc (i:=i) (l:=order ps[i].n (aJ vs) (cz ps[i] vs vs.length)) hu uN;refine hK a' w' ⟨_,cells++[vI i,u],by rw[e,sW];exact vL,?_⟩;rw[e,iZ];have cN:=vL.flat;generalize cells++[vI i,u]=cells' at *;exact h2.H4 pc [(0,0),(1,1),(2,7)] k_ rfl (Wz cN _) k_ k_ k_ k_ k_
   ·have he:lQ ps vs i=[]:=by rw[mE];unfold qX;rw[ao (show ¬(ps.take i).any (λq=>decide (canon ps[i]=canon q))=true from tX),ao ho,ao hl]
    exact lh (aQU hi iW bW aO hm h63 ik Iv ho hl) hS λa' w' h'=>stay he _ a' w' h'
theorem aQY{m q:Nat}(bW:∀ p∈ps,bt m p/\p.n≠0)(aO:∀ v∈vs,aD q v)(hm:100*(m+q)+1000<=aB)(h63:ps.length<=500)(ik:vs.length<900000):
  aCL prog 75 [fC ps,uX vs] (dq ((ft ps vs ps.length).map qY)):=by
 intro w args ct;have ay:([fC ps,uX vs].all aR.ok)=true:=by simp only[dH,fp,Wr,aEd,vU]
 obtain⟨ι,c,h1,h2,h3,h4,h5,h6,h7⟩:=vN ct (bh.1 ay) 0 _ _ (qx w) n_ (λ_ _=>rfl);have pc:∀ k,(aa.at w).mp k=none:=λ_=>rfl;refine U9 (N:=59) (B:=(aa.at w).gB []) func75 aQW k_ h6 (aCD h2) h4 h3 rfl λa bL=>?_;have g0:∀ B:aa,ag prog B 59 fC0 (jA 0 (eP 0 [fC ps,uX vs])) (js 0 [fC ps,uX vs]) 2 ⟨.normal,[(0,sl 0 ps.length),(1,sl 1 vs.length)],[(0,.view (aK ps)),(1,.view (aL vs))],2⟩:=λB=>aA [];have g1:∀ B:aa,ag prog B 59 fC1 [(0,sl 0 ps.length),(1,sl 1 vs.length)] [(0,.view (aK ps)),(1,.view (aL vs))] 2 ⟨.normal,[(5,.slice none 0 0),(0,sl 0 ps.length),(1,sl 1 vs.length)],[(0,.view (aK ps)),(1,.view (aL vs))],2⟩:=λB=>aA []
 have g2:∀ B:aa,ag prog B 59 fC2 [(5,.slice none 0 0),(0,sl 0 ps.length),(1,sl 1 vs.length)] [(0,.view (aK ps)),(1,.view (aL vs))] 2
   ⟨.normal,[(14,vI 0),(12,sl 0 ps.length),(13,vI ps.length),(0,sl 0 ps.length),(1,sl 1 vs.length),(5,.slice none 0 0)],[(0,.view (aK ps)),(1,.view (aL vs))],2⟩:=λB=>aA []
 refine lB (lh (g0 _) bL λa1 w1 s1=>?_);refine lB (lh (g1 _) s1 λa2 w2 s2=>?_);refine lB (lB (lh (g2 _) s2 λa3 w3 s3=>?_));refine Jm ?_;have i0:Qd (aa.at w) ps vs 0 a3 w3:=⟨[],[],.nil,(s3.nil 5 rfl 63 2).H4 pc [(0,0),(1,1),(2,2)] k_ rfl (Wz n_ _) k_ k_ k_ k_ k_⟩;refine U8 ps.length (Qd (aa.at w) ps vs) i0 (λi hi a' w' h' K hK=>aQX pc hi bW aO hm h63 ik h' K _ hK) λa' w' h'=>?_;obtain⟨ks,cells,hF,hS⟩:=h';refine lh (r:=⟨.exit 0,[(5,sl 2 (ft ps vs ps.length).length)],[(2,.row cells 63 2)],3⟩) (aA [.lt 15 ps.length ps.length false s_]) hS λa4 w4 s4=>?_;show Code.wpIn _ _ _ _ _ _ _;refine lB (lh (r:=⟨.normal,[(4,sl 2 (ft ps vs ps.length).length)],[(2,.row cells 63 2)],3⟩) (aA []) s4 λa5 w5 s5=>?_);refine Jn ?_;refine(Va s5 rfl (v:=sl 2 (ft ps vs ps.length).length) k_ λau bY v' bo x6 hc=>⟨v',rfl,?_,?_,bo.base.1⟩).1
 ·rw[show(ft ps vs ps.length).length=((ft ps vs ps.length).map qY).length by rw[eY]]at hc;exact(hF.out bo (x6 2 _ rfl) hc).1
 ·rw[show(ft ps vs ps.length).length=((ft ps vs ps.length).map qY).length by rw[eY]]at hc;intro b hb;have:=(hF.out bo (x6 2 _ rfl) hc).2 b hb;exact Ot this
end
section
open V3 (dot ax cL smul)
section
variable{Bs:aa}{g:FuncId}{ps:List RP}{b:RP->Bool}
def Aj(g:FuncId):Value:=.func (.func g) #[] #[]
def Ak(g:FuncId)(n i:Nat):aW:=[(8,vI i),(6,sl 0 n),(7,vI n),(0,sl 0 n),(1,Aj g)]
def tY(ps:List RP):aH:=[(0,.view (db ps))]
noncomputable def igS{i:Nat}{p:RP}{b:Bool}(hc:gi prog g=true)(hi:i<ps.length)(hp:ps[i]?=some p)(h:aE prog g [p.v] (.bool b))(more:bA prog Bs 19):bA prog Bs 19:=
 .lt 9 i ps.length true (aC hi)::.cY f111 14 0 ps.length i 40 hi k_::.ld f111 15 35 0 (i*40) (.view (db ps)) p.v rfl (vT hp) k_::
  .step 16 (av f111 16) [Aj g,p.v] [] (.bool b) [] (dz (l:=[.p p.v]) (x:=.tmp 11) (λw vs ct=>by
   cases ct with
   |cons h1 h2=>
    cases h2;cases h1;exact h w) (.p rfl .nil) k_ hc rfl)::more
theorem aQZ{i:Nat}{p:RP}(hc:gi prog g=true)(hi:i<ps.length)(hp:ps[i]?=some p)(h:aE prog g [p.v] (.bool false))(h63:ps.length<9223372036854775807):
  ag prog Bs 19 (aF (af f111 0)) (Ak g ps.length i) (tY ps) 1 ⟨.normal,Ak g ps.length (i+1),tY ps,1⟩:=
 aA (igS hc hi hp h [.sum 18 i 1 (i+1) rfl o_])
theorem aQ0{i:Nat}{p:RP}(hc:gi prog g=true)(hi:i<ps.length)(hp:ps[i]?=some p)(h:aE prog g [p.v] (.bool true)):
  ag prog Bs 19 (aF (af f111 0)) (Ak g ps.length i) (tY ps) 1 ⟨.ret,[(4,vI i)],tY ps,1⟩:=
 aA (igS hc hi hp h [])
theorem aQ1:ag prog Bs 19 (aF (af f111 0)) (Ak g ps.length ps.length) (tY ps) 1 ⟨.exit 0,[],tY ps,1⟩:=
 aA [.lt 9 ps.length ps.length false s_]
theorem aEx(ps:List RP):(aR.r ps.length (db ps)).ok=true:=gT iC ps
theorem aEy(g:FuncId):(aR.p (Aj g)).ok=true:=rfl
theorem aQ2{ps:List RP}(h:ps.length=0):db ps=[]:=by rw[lv h];rfl
theorem aQ3(hc:gi prog g=true)(h63:ps.length<9223372036854775807)(h:∀ p∈ps,aE prog g [p.v] (.bool (b p))):cy prog 111 [.r ps.length (db ps),.p (Aj g)] (.int .i64 (xD b ps 0)):=by
 have ay:([aR.r ps.length (db ps),.p (Aj g)].all aR.ok)=true:=by simp only[dH,fp,aEx,aEy,vU]
 have tH:∀(B:aa) e,e<=ps.length->(∀ j y,j<e->ps[j]?=some y->b y=false)->∀ i,i<e->ag prog B 19 (aF (af f111 0)) (Ak g ps.length i) (tY ps) 1 ⟨.normal,Ak g ps.length (i+1),tY ps,1⟩:=λB e he hb i hi=>by
  have ak:i<ps.length:=by omega
  have hp:ps[i]?=some ps[i]:=bf ak;have hh:=h ps[i] (dM ak);rw[hb i ps[i] hi hp]at hh;exact aQZ hc ak hp hh h63
 rcases FA b ps with hn|⟨e,x,h1,h2,h3⟩
 ·rw[O3 0 hn];have lo:∀ B:aa,ag prog B 19 (.block 0 (af f111 0)) (Ak g ps.length 0) (tY ps) 1 ⟨.normal,[],tY ps,1⟩:=λB=>
   bT (id:=0) (cd ps.length (λi=>Ak g ps.length i) (λ_=>tY ps) (λi k _=>Iff.rfl) (tH B ps.length (bj _) λj y _ hy=>hn y (cQ hy)) aQ1 n_)
  exact dW func111 ay 19 (λw=>[.code 0 _ _ _ _ _ (lo _)])
 ·have ak:=(ew.1 h1).1;have hh:=h x (cQ h1);rw[h2]at hh;rw[O4 0 h1 h2 h3,jY];have lo:∀ B:aa,ag prog B 19 (.block 0 (af f111 0)) (Ak g ps.length 0) (tY ps) 1 ⟨.ret,[(4,vI e)],tY ps,1⟩:=λB=>
   bT (id:=0) (cd e (λi=>Ak g ps.length i) (λ_=>tY ps) (λi k _=>Iff.rfl) (tH B e o_ h3) (aQ0 hc ak h1 hh) n_)
  exact dW func111 ay 19 (λw=>[.code 0 _ _ _ _ _ (lo _)])
theorem aQ4(hc:gi prog g=true)(h63:ps.length<9223372036854775807)(h:∀ p∈ps,aE prog g [p.v] (.bool (b p))):cy prog 70 [.r ps.length (db ps),.p (Aj g)] (.bool (ps.any b)):=by
 have ay:([aR.r ps.length (db ps),.p (Aj g)].all aR.ok)=true:=by simp only[dH,fp,aEx,aEy,vU]
 rw[<-aCa];exact dW func70 ay 9 (λw=>[.step 7 (av f70 7) [.func (.func 111) #[] #[],sl 0 ps.length,Aj g] [(0,some (.view (db ps)))] (.int .i64 (xD b ps 0)) []
  (dz (aQ3 hc h63 h) (.w (x:=.view (db ps)) rfl (gT iC ps) aQ2 (.p rfl .nil)) (x:=.func 111) k_ k_ rfl)])
end
theorem aQ5{r:RP}{b:Bool}(h:aE prog 39 [r.v] (.bool b)):aE prog 71 [r.v] (.bool (!b)):=aP func71 (λ_=>[h.at 4])
section
variable{F:Type}[OF F]
open OF
def Lv(s:eR F)(a b:F):eR F:=
 if OF.az a=0 then s
 else if OF.az a>0 then(match s.hi with|some h=>if OF.az (b*a⁻¹-h)<0 then⟨s.lo,some (b*a⁻¹)⟩else s|none=>⟨s.lo,some (b*a⁻¹)⟩)
 else(match s.lo with|some l=>if OF.az (b*a⁻¹-l)>0 then⟨some (b*a⁻¹),s.hi⟩else s|none=>⟨some (b*a⁻¹),s.hi⟩)
def Qe(s:eR F):Bool:=match s.lo,s.hi with
 |some l,some h=>decide (OF.az (l-h)<0)
 |_,_=>true
def Qf(s:eR F)(a b:F):Bool:=if OF.az a=0 then decide (OF.az b>=0)else Qe (Lv s a b)
theorem aEz{x:F}:OF.az x>0↔OF.az x=1:=by rcases OF.iy x with h|h|h<;>rw[h]<;>decide
theorem aEA{x:F}:OF.az x<0↔OF.az x=-1:=by rcases OF.iy x with h|h|h<;>rw[h]<;>decide
theorem aQ6{x:F}:OF.az x>=0↔OF.az x≠-1:=by rcases OF.iy x with h|h|h<;>rw[h]<;>decide
theorem Qg{x y:F}:OF.az (x-y)<0↔x<y:=by rw[aEA,OF.CY,OF.lt_def];omega
theorem aEB{x y:F}:OF.az (x-y)>0↔y<x:=by rw[aEz,OF.lt_def]
theorem Qh{x:F}:OF.az x>0↔0<x:=by rw[aEz,OF.iz]
theorem Qi{x:F}:OF.az x>=0↔0<=x:=by rw[aQ6,OF.Kb]
theorem aQ7(s:eR F)(a b:F):BI s a b=if Qf s a b then some (Lv s a b)else none:=by
 unfold BI Qf Lv;by_cases ha:OF.az a=0
 ·rw[aw ha,aw ha,aw ha];by_cases hb:0<=b
  ·rw[aw hb,aC (Qi.2 hb)];rfl
  ·rw[ao hb,aN (λh=>hb (Qi.1 h))];rfl
 ·rw[ao ha,ao ha,ao ha];obtain⟨lo,hi⟩:=s;dsimp only;generalize b*a⁻¹=t;have fin:∀ s':eR F,(match s'.lo,s'.hi with|some l,some h=>if l<h then some s' else none|_,_=>some s')=if Qe s'=true then some s' else none:=by
   rintro⟨l,h⟩
   unfold Qe;cases l with
   |none=>rfl
   |some l=>
    cases h with
    |none=>rfl
    |some h=>
     dsimp only;by_cases ak:l<h
     ·exact(aw ak).trans (aw (aC (Qg.2 ak))).symm
     ·exact(ao ak).trans (ao (λh=>ak (Qg.1 (kH h)))).symm
  by_cases hp:0<a
  ·rw[aw hp,aw (Qh.2 hp)];cases hi with
   |none=>exact fin ⟨lo,some t⟩
   |some h=>
    dsimp only;by_cases ak:t<h
    ·simp only[aw ak,aw (Qg.2 ak)];exact fin ⟨lo,some t⟩
    ·simp only[ao ak,ao (λe=>ak (Qg.1 e))];exact fin ⟨lo,some h⟩
  ·rw[ao hp,ao (λe=>hp (Qh.1 e))];cases lo with
   |none=>exact fin ⟨some t,hi⟩
   |some l=>
    dsimp only;by_cases ak:l<t
    ·simp only[aw ak,aw (aEB.2 ak)];exact fin ⟨some t,hi⟩
    ·simp only[ao ak,ao (λe=>ak (aEB.1 e))];exact fin ⟨some l,hi⟩
end
theorem aQ8(s:eR K)(a b:K):BI s a b=if r8 s a b then some (qN s a b)else none:=by
 have h1:∀ s:eR K,aCe s=Qe s:=λs=>by obtain⟨lo,hi⟩:=s;cases lo<;>cases hi<;>rfl
 have h2:qN s a b=Lv s a b:=by unfold qN Lv;obtain⟨lo,hi⟩:=s;cases lo<;>cases hi<;>rfl
 have h3:r8 s a b=Qf s a b:=by unfold r8 Qf;rw[h2,h1]
 rw[h2,h3];exact aQ7 s a b
theorem aEC(b d:V3 K):∀(l:List (HS K)) (s:eR K),Fx s (l.map λp=>(dot p.n d,p.d-dot p.n b))=if vX s b d l then some (ow s b d l)else none
 |[],s=>rfl
 |p::l,s=>by
  show(BI s (dot p.n d) (p.d-dot p.n b)).bind _=_;rw[aQ8];unfold vX ow;by_cases h:r8 s (dot p.n d) (p.d-dot p.n b)=true
  ·rw[aw h,h,kD];exact aEC b d l _
  ·rw[ao h];have:r8 s (dot p.n d) (p.d-dot p.n b)=false:=by simpa using h
   rw[this,yO];rfl
theorem aED(p q:HS K):vW p q=mo p q:=by unfold vW mo dZ;rw[show kI 1*(dot (ax p.n q.n) (ax p.n q.n))⁻¹=(dot (ax p.n q.n) (ax p.n q.n))⁻¹ from CR.one_mul _]
theorem aEE(p q:HS K):dZ p q≠0->dot (dZ p q) (dZ p q)≠0:=λh=>V3.BD h
theorem aQ9(ps:List (HS K))(p q:HS K):FC ps p q=zw ps p q:=by
 unfold FC zw;have hd:dZ p q=ax p.n q.n:=rfl;rw[aED];dsimp only;by_cases h0:dZ p q=0
 ·rw[aw h0,aw ((OM (ax p.n q.n)).2 h0)]
 ·rw[ao h0,ao (λh=>h0 ((OM (ax p.n q.n)).1 h))];rw[aEC];unfold KP;rw[aED,hd];by_cases hs:vX ⟨none,none⟩ (mo p q) (ax p.n q.n) ps=true
  ·rw[aw hs,aw hs];generalize ow ⟨none,none⟩ (mo p q) (ax p.n q.n) ps=s;obtain⟨lo,hi⟩:=s;cases lo<;>cases hi<;>rfl
  ·rw[ao hs,ao hs]
theorem WA{ps:List (HS K)}{p q:HS K}{v:V3 K}:v∈qO ps p q↔∃ u w,zw ps p q=some (u,w)/\(v=u\/v=w):=by
 unfold qO;rw[aQ9];cases h:zw ps p q with
 |none=>simp
 |some uw=>
  obtain⟨u,w⟩:=uw;simp only[cx,jg,jh];exact⟨λhv=>⟨u,w,rfl,hv⟩,λ⟨u',w',e,hv⟩=>by injection e with e;injection e with e1 e2;subst e1;subst e2;exact hv⟩
theorem aRa{ps:List (HS K)}{v:V3 K}:v∈mU ps ps.length↔∃(i j:Nat) (p q:HS K),j<i/\ps[i]?=some p/\ps[j]?=some q/\v∈qO ps p q:=by
 unfold mU;rw[BM];constructor
 ·rintro⟨i,hi,hv⟩
  have ak:=kh.1 hi;have hp:ps[i]?=some ps[i]:=bf ak;rw[Pf hp]at hv;unfold lg at hv;obtain⟨q,hq,hv⟩:=BM.1 hv;obtain⟨j,hj,rfl⟩:=kM hq;rw[jw]at hj;refine⟨i,j,_,_,by omega,hp,?_,hv⟩;rw[WB];exact bf o_
 ·rintro⟨i,j,p,q,o5,hp,hq,hv⟩
  have ak:=(ew.1 hp).1;refine⟨i,kh.2 ak,?_⟩;rw[Pf hp];refine BM.2 ⟨q,?_,hv⟩;exact cQ (i:=j) (by rw[ui,aw o5];exact hq)
theorem aRb{ps:List (HS K)}(hc:Cl ps)(hp:gA ps)(hf:∀ v:V3 K,∃ x,ig ps x/\x≠v)(v:V3 K):v∈mU ps ps.length↔mn ps v:=by
 rw[aRa];constructor
 ·rintro⟨i,j,p,q,_,h1,h2,hv⟩
  obtain⟨u,w,he,hv⟩:=WA.1 hv;have:=aLl (cQ h1) (cQ h2) he;rcases hv with rfl|rfl
  ·exact this.1
  ·exact this.2
 ·intro hv;obtain⟨x,hx,aU⟩:=hf v;obtain⟨p,gY,q,tt,hd,h1,h2⟩:=aLn hc hp hv hx aU;obtain⟨i,hi,rfl⟩:=kM gY;obtain⟨j,hj,rfl⟩:=kM tt;rcases sJ i j with h|h|h
  ·exact⟨j,i,_,_,h,bf hj,bf hi,WA.2 h2⟩
  ·subst h;exfalso;apply hd;exact V3.Kv _
  ·exact⟨i,j,_,_,h,bf hi,bf hj,WA.2 h1⟩
def qZ:Value:=.agg #[.slice none 0 0,.slice none 0 0,.slice none 0 0]
def iN(n:Int):Value:=.int .i64 n
def dE(ps:List (HS K)):List (Int×List Int):=(ft ps (aM ps) ps.length).map qY
structure pB(ps:List (HS K))(m:Nat):Prop where
 len:ps.length<=20
 sz:∀ p∈ps,bt m p
 ne:∀ p∈ps,p.n≠0
 bound:1000000000*(m+10)<=aB
theorem Iw(ps:List (HS K))(h:ps.length<=20):(aM ps).length<=800:=by
 have h1:(aM ps).length<=(mU ps ps.length).length:=by
  unfold aM;rw[<-aD6];have:∀ l:List (V3 K),(dd l).length<=l.length:=λl=>by have:=(P4 l l.length).2;unfold iX at this;rwa[mQ]at this
  exact de (this _) (vj (Lp _).length_eq)
 have h2:=Pg ps.length (bj _) (ps:=ps);have h3:ps.length*(2*ps.length)<=20*40:=wY h o_;omega
theorem Lw{ps:List (HS K)}{m:Nat}(bW:∀ p∈ps,bt m p):∀ v∈aM ps,aD (10000*(m+10)) v:=λv hv=>by unfold aM at hv;rw[UC]at hv;exact aD7 bW aEE ps.length v hv
theorem BZ{m n:Nat}(hm:1000000000*(m+10)<=aB)(hn:n<=800):100*(m+n*(10000*(m+10)+1))+10000<=aB/\10000000*(m+10)<=aB/\100*(m+10000*(m+10))+1000<=aB/\m<=aB/\100*m+1000<=aB:=by
 have h0:m<=1089:=by
  rcases eF m 1090 with h|h
  ·exact Nat.le_of_lt_succ h
  ·have h2:1000000000*(1090+10)<=1000000000*(m+10):=jc _ (Ix h 10);exact absurd (de h2 hm) d_
 clear hm;have q:10000*(m+10)+1<=10990001:=by omega
 obtain⟨x,hx⟩:∃ x,x=n*(10000*(m+10)+1):=⟨_,rfl⟩;have h1:x<=8792000800:=by rw[hx];exact wY hn q
 rw[<-hx];clear hx;have h2:100*(m+x)+10000<=100*(1089+8792000800)+10000:=Ix (jc _ (Kl h0 h1)) _;have h6:m+10<=1099:=Ix h0 10;have h3:10000000*(m+10)<=10000000*1099:=jc _ h6;have h4:100*(m+10000*(m+10))+1000<=100*(1089+10000*1099)+1000:=Ix (jc _ (Kl h0 (jc _ h6))) _;have h5:100*m+1000<=100*1089+1000:=Ix (jc _ h0) _;exact⟨de h2 (rl rfl),de h3 (rl rfl),de h4 (rl rfl),de h0 (rl rfl),de h5 (rl rfl)⟩
theorem aEF{it:TypeInfo}{z:Value}(h1:prog.info? 26=some it)(h2:it.zero=some z):∀ v∈z.cells.toList,flat v=true:=by have e:(prog.info? 26).bind (·.zero)=some qZ:=k_;rw[h1]at e;have e:it.zero=some qZ:=e;rw[h2]at e;injection e with e;subst e;intro v hv;have hv:v∈[.slice none 0 0,.slice none 0 0,.slice none 0 0]:=hv;simp at hv;subst hv;rfl
section
variable{ps:List (HS K)}{m:Nat}
theorem aRc(h:pB ps m):cy prog 70 [fC ps,.p (Aj 71)] (.bool false):=by
 obtain⟨_,_,_,b4,_⟩:=BZ (n:=0) h.bound o_;have hc:=aQ4 (g:=71) (ps:=ps.map cH) (b:=λ_=>false) k_ (by rw[eY];have:=h.len;omega) (λr hr=>by obtain⟨p,hp,rfl⟩:=dj.1 hr;have hv:=xB (h.sz p hp) b4;rw[aC (h.ne p hp)]at hv;exact aQ5 hv)
 rw[eY,show(ps.map cH).any (λ_=>false)=false by simp]at hc;exact hc
theorem DU(ps:List (HS K)):([fC ps].all aR.ok)=true:=by simp only[dH,fp,Wr,vU]
noncomputable def WC{Bs:aa}{t:Bool}(h:pB ps m)(ht:qK ps=t)(more:bA prog Bs 33):bA prog Bs 33:=
 .step 7 (av f40 7) [.func (.func 70) #[] #[],sl 0 ps.length,Aj 71] [(0,some (.view (aK ps)))] (.bool false) []
  (dz (aRc h) (.w (x:=.view (aK ps)) rfl (cU ps) iD (.p rfl .nil)) (x:=.func 70) k_ k_ rfl)::
 .gt 12 ps.length 100 false (aN (by have:=h.len;omega))::
 .step 16 (av f40 16) [.func (.func 72) #[] #[],sl 0 ps.length] [(0,some (.view (aK ps)))] (.bool t) []
  (dz (ht▸aL1 h.sz (BZ (n:=0) h.bound o_).2.2.2.2 (by have:=h.len;omega)) (.w (x:=.view (aK ps)) rfl (cU ps) iD .nil) (x:=.func 72) k_ k_ rfl)::more
noncomputable def aEG{Bs:aa}{t:Bool}(h:pB ps m)(ht:qc ps (aM ps)=t)(more:bA prog Bs 33):bA prog Bs 33:=
 .step 20 (av f40 20) [.func (.func 73) #[] #[],sl 0 ps.length] [(2,none),(0,some (.view (aK ps)))] (sl 2 (aM ps).length) [(2,.row (aL (aM ps)) 33 30)]
  (qI (aQv h.sz (BZ (n:=0) h.bound o_).2.1 (by have:=h.len;omega) aEE) (.w (x:=.view (aK ps)) rfl (cU ps) iD .nil) (x:=.func 73) k_ k_ (dJ _) 2)::
 .step 23 (av f40 23) [.func (.func 74) #[] #[],sl 0 ps.length,sl 2 (aM ps).length] [(0,some (.view (aK ps))),(2,some (.row (aL (aM ps)) 33 30))] (.bool t) []
  (dz (ht▸aMj (λp hp=>⟨h.sz p hp,h.ne p hp⟩) (Lw h.sz) (BZ h.bound (Iw ps h.len)).1 (by have:=Iw ps h.len;omega) (by have:=h.len;omega))
   (.w (x:=.view (aK ps)) rfl (cU ps) iD (.w (x:=.row (aL (aM ps)) 33 30) rfl (dJ _) vV .nil)) (x:=.func 74) k_ k_ rfl)::more
theorem aRd(h:pB ps m)(hc:qK ps=false):cy prog 40 [fC ps] (.tuple #[qZ,iN 13]):=
 dW func40 (DU ps) 33 (λ_=>WC h hc [])
theorem aEH(h:pB ps m)(hc:qK ps=true)(hi:qc ps (aM ps)=false):cy prog 40 [fC ps] (.tuple #[qZ,iN 12]):=
 dW func40 (DU ps) 33 (λ_=>WC h hc (aEG h hi []))
theorem aEI(hc:qK ps=true):0<ps.length:=by
 cases ps with
 |nil=>exact absurd hc d_
 |cons p l=>simp
theorem aEJ(h:pB ps m)(hc:qK ps=true)(hi:qc ps (aM ps)=true):
  tQ prog 40 [fC ps] 35 40 ps.length (aK ps) 33 30 (aM ps).length (aL (aM ps)) (dq (dE ps)) [iN 0]:=by
 have hf:=aQY (ps:=ps) (vs:=aM ps) (λp hp=>⟨h.sz p hp,h.ne p hp⟩) (Lw h.sz) (BZ (n:=0) h.bound o_).2.2.1 (by have:=h.len;omega) (by have:=Iw ps h.len;omega);have iF:=aEb (aEI hc) (by have:=h.len;omega);refine Px (k1:=3) (k2:=2) (k3:=4) mixed func40 (DU ps) 100 (N:=33) k_ (λw=>WC h hc (aEG h hi [
  .step 27 (av f40 27) [.func (.func 41) #[] #[],sl 0 ps.length] [(3,none),(0,some (.view (aK ps)))] (sl 3 ps.length) [(3,.row (aK ps) 35 40)]
   (qI iF (.w (x:=.view (aK ps)) rfl (cU ps) iD .nil) (x:=.func 41) k_ k_ (cU ps) 3),
  .step 31 (av f40 31) [.func (.func 75) #[] #[],sl 0 ps.length,sl 2 (aM ps).length] [(4,none),(0,some (.view (aK ps))),(2,some (.row (aL (aM ps)) 33 30))] (.pointer (some ⟨4,0,some 9⟩)) [(4,.fact ((dq (dE ps)).jT w.heap.size))]
   (aM1 (B:=aa.at w) (S:=w.heap.size) hf (.w (x:=.view (aK ps)) rfl (cU ps) iD (.w (x:=.row (aL (aM ps)) 33 30) rfl (dJ _) vV .nil)) (x:=.func 75) k_ k_ rfl (λw' hb=>Below.size hb) 4),
  .step 32 (av f40 32) [sl 3 ps.length,sl 2 (aM ps).length,.pointer (some ⟨4,0,some 9⟩)] [] (.agg #[sl 3 ps.length,sl 2 (aM ps).length,.pointer (some ⟨4,0,some 9⟩)]) [] (Pk (t:=26) (idx:=[0,1,2]) k_ (λit z h1 h2=>aEF h1 h2) k_)])) (λw=>?_) d_ (cU ps) (Af ps) (dJ _) (sk _) k_
 kernel_rfl
end
theorem Lx{P:Program}{f:FuncId}{fn:Func}{args:aj}{v:Value}{w:World}(gn:P.follows .mixedOrders=true)(hf:P.funcs[f]?=some fn)(n:Nat){N:Nat}(hN:N=args.length+(fn.ntmps-args.length))(rs:bA P (aa.at w) N)
  (h:nA (fO (P:=P) fn n args [] 0 rs) []=nB (fO fn n args [] 0 rs) v []) (df:args.all flat=true) (hv:flat v=true):Calls P f args.toArray w λe w'=>e=.returned v/\Below w.heap.size w w':=
 rG gn hf hN n h (ke λv hv=>bh.1 df v hv) (qx w) n_ (λ_ _=>rfl) λau bY v' w' _ hc hm _=>⟨by rw[hc.eU hv],hm.base⟩
theorem Qj{P:Program}{f:FuncId}{fn:Func}{l:List aR}{vs:aj}{v:Value}{w:World}(gn:P.follows .mixedOrders=true)(hf:P.funcs[f]?=some fn)(ct:rZ w l vs)(hl:(l.all aR.ok)=true)(n:Nat){N:Nat}(hN:N=(eP 0 l).length+(fn.ntmps-(eP 0 l).length))(rs:bA P (aa.at w) N)
  (h:nA (fO (P:=P) fn n (eP 0 l) (js 0 l) (jG 0 l) rs) []=nB (fO fn n (eP 0 l) (js 0 l) (jG 0 l) rs) v []) (hv:flat v=true):Calls P f vs.toArray w λe w'=>e=.returned v/\Below w.heap.size w w':=by
 obtain⟨ι,c,h1,h2,h3,h4,h5,h6,h7⟩:=vN ct (bh.1 hl) 0 _ _ (qx w) n_ (λ_ _=>rfl);exact rG gn hf hN n h h6 h2 h4 h3 λau bY v' w' hle hc hm _=>⟨by rw[hc.eU hv],hm.base⟩
theorem aRe{w:World}{u u':Value}{i j:Int}{l l':List Int}(hu:lR u=true)(jK:lR u'=true)(h:cK w u l.length (eD l))(h':cK w u' l'.length (eD l'))(h63:l.length<9223372036854775807):
  Calls prog 63 #[.agg #[iV i,u],.agg #[iV j,u']] w λe w'=>e=.returned (.bool (decide ((i,l)=(j,l'))))/\Below w.heap.size w w':=by
 have fl:∀{i:Int} {u:Value},lR u=true->flat (.agg #[iV i,u])=true:=λ{i u} hu=>by have h0:nS u=true:=L6 hu;show([iV i,u].all nS)=true;rw[dH,dH,h0];rfl
 have fu:∀{u:Value},lR u=true->flat u=true:=λhu=>L5 (L6 hu);have aU6:∀{u:Value} {n:Nat} {xs:aj},cK w u n xs->lS u=false:=λh=>by rcases h with ⟨e,_⟩|⟨_,_,_,e,_⟩<;>rw[e]<;>rfl
 have df:([.agg #[iV i,u],.agg #[iV j,u']].all flat)=true:=by rw[dH,dH,fl hu,fl jK];rfl
 have he:=aMy (a:=l) (b:=l') h63;by_cases mB:i=j
 ·subst mB;have e0:(Value.bool (i==i))=.bool true:=by simp
  have e1:decide ((i,l)=(i,l'))=decide (l=l'):=by simp
  rw[e1];generalize decide (l=l')=t at *;rcases h with ⟨rfl,hn,hx⟩|⟨b,o,c,rfl,hr⟩<;>rcases h' with ⟨rfl,l4,rP⟩|⟨b',o',c',rfl,sU⟩
  ·exact Lx mixed func63 100 (N:=17) k_ [.rw 9 _ _ e0,.step 15 (av f63 15) [.func (.func 64) #[] #[],.slice none 0 0,.slice none 0 0] [] (.bool t) [] (dz he (.e rfl (λ_ _=>.inl ⟨rfl,hn,hx⟩) (.e rfl (λ_ _=>.inl ⟨rfl,l4,rP⟩) .nil)) (x:=.func 64) k_ k_ rfl)] k_ df rfl
  ·exact Lx mixed func63 100 (N:=17) k_ [.rw 9 _ _ e0,.step 15 (av f63 15) [.func (.func 64) #[] #[],.slice none 0 0,.slice (some ⟨b',o',none⟩) l'.length c'] [] (.bool t) []
    (dz he (.e rfl (λ_ _=>.inl ⟨rfl,hn,hx⟩) (.e rfl (λ_ hb=>cK.gB (.inr ⟨b',o',c',rfl,sU⟩) hb) .nil)) (x:=.func 64) k_ k_ rfl)] k_ df rfl
  ·exact Lx mixed func63 100 (N:=17) k_ [.rw 9 _ _ e0,.step 15 (av f63 15) [.func (.func 64) #[] #[],.slice (some ⟨b,o,none⟩) l.length c,.slice none 0 0] [] (.bool t) []
    (dz he (.e rfl (λ_ hb=>cK.gB (.inr ⟨b,o,c,rfl,hr⟩) hb) (.e rfl (λ_ _=>.inl ⟨rfl,l4,rP⟩) .nil)) (x:=.func 64) k_ k_ rfl)] k_ df rfl
  ·exact Lx mixed func63 100 (N:=17) k_ [.rw 9 _ _ e0,.step 15 (av f63 15) [.func (.func 64) #[] #[],.slice (some ⟨b,o,none⟩) l.length c,.slice (some ⟨b',o',none⟩) l'.length c'] [] (.bool t) []
    (dz he (.e rfl (λ_ hb=>cK.gB (.inr ⟨b,o,c,rfl,hr⟩) hb) (.e rfl (λ_ hb=>cK.gB (.inr ⟨b',o',c',rfl,sU⟩) hb) .nil)) (x:=.func 64) k_ k_ rfl)] k_ df rfl
 ·have e0:(Value.bool (i==j))=.bool false:=by simp[mB]
  have e1:decide ((i,l)=(j,l'))=false:=by simp[mB]
  rw[e1];rcases h with ⟨rfl,hn,hx⟩|⟨b,o,c,rfl,hr⟩<;>rcases h' with ⟨rfl,l4,rP⟩|⟨b',o',c',rfl,sU⟩<;>exact Lx mixed func63 100 (N:=17) k_ [.rw 9 _ _ e0] k_ df rfl
theorem DW{w:World}:∀{fs:List (Int×List Int)} {cs:aj},ku w fs cs->∀{i:Nat} {f:Int×List Int},fs[i]?=some f->∃ u,cs[i*2]?=some (iV f.1)/\cs[i*2+1]?=some u/\cK w u f.2.length (eD f.2)/\flat u=true
 |_,_,.nil,i,f,h=>by simp at h
 |_,_,.cons (u:=u) h1 h2 h3,0,f,h=>by simp at h;subst h;exact⟨u,rfl,rfl,h1,h2⟩
 |_,_,.cons h1 h2 h3,i+1,f,h=>by
  obtain⟨u,q1,q2,q3,q4⟩:=DW h3 (i:=i) (by simpa using h);refine⟨u,?_,?_,q3,q4⟩
  ·rw[show(i+1)*2=i*2+2 by omega];exact q1
  ·rw[show(i+1)*2+1=i*2+1+2 by omega];exact q2
theorem aEK{w:World}{u:Value}{n:Nat}{xs:aj}(h:cK w u n xs):lR u=true:=by rcases h with ⟨e,_⟩|⟨_,_,_,e,_⟩<;>rw[e]<;>rfl
theorem aRf{cs:aj}{m:Nat}{a b:Value}(ha:cs[m]?=some a)(hb:cs[m+1]?=some b):(cs.drop m).take 2=[a,b]/\m+2<=cs.length:=by obtain⟨qp,ha⟩:=ew.1 ha;obtain⟨hl,hb⟩:=ew.1 hb;refine⟨?_,hl⟩;rw[O1 qp,ha,O1 hl,hb];rfl
theorem aEL{cs:aj}{i:Nat}{a b:Value}(ha:cs[i*2]?=some a)(hb:cs[i*2+1]?=some b):du prog 63 cs (i*2)=some (.agg #[a,b]):=by
 have e:du prog 63 cs (i*2)=if Nat.ble (i*2+2) cs.length then some (.agg ((cs.drop (i*2)).take 2).toArray)else none:=k_
 obtain⟨h1,h2⟩:=aRf ha hb;rw[e,aw (Mp h2),h1]
section
variable{w:World}{fs fs':List (Int×List Int)}{cs bC:aj}
def Ly:Value:=.func (.func 63) #[] #[]
def DX(n n' i:Nat):aW:=[(17,vI i),(15,sl 0 n),(16,vI n),(1,sl 1 n'),(2,Ly)]
def tZ(cs bC:aj):aH:=[(0,.view cs),(1,.view bC)]
theorem aRg(h:ku w fs cs)(h':ku w fs' bC):∀ x∈tZ cs bC,fN 2 x.2:=λx hx=>by
 simp only[tZ,cx,jg,jh]at hx;rcases hx with rfl|rfl
 ·exact λv hv=>iI (h.flat v hv)
 ·exact λv hv=>iI (h'.flat v hv)
noncomputable def efS{i n n':Nat}{f f':Int×List Int}{u u':Value}{t:Bool}(hi:i<n)(hJ:i<n')(hu:cK w u f.2.length (eD f.2))(jK:cK w u' f'.2.length (eD f'.2))(c1:cs[i*2]?=some (iV f.1))(c2:cs[i*2+1]?=some u)(Be:bC[i*2]?=some (iV f'.1))(Bd:bC[i*2+1]?=some u')(h63:f.2.length<9223372036854775807)
  (ht:decide (f=f')=t) (more:bA prog (aa.at w) 32):bA prog (aa.at w) 32:=
 .lt 18 i n true (aC hi)::.cY f66 20 0 n i 2 hi k_::.ld f66 21 63 0 (i*2) (.view cs) (.agg #[iV f.1,u]) rfl (aEL c1 c2) k_::.cY f66 24 1 n' i 2 hJ k_::.ld f66 25 63 1 (i*2) (.view bC) (.agg #[iV f'.1,u']) rfl (aEL Be Bd) k_::
  .call 29 63 [.agg #[iV f.1,u],.agg #[iV f'.1,u']] (.bool t) (λw' hb=>ht▸aRe (aEK hu) (aEK jK) (hu.gB hb) (jK.gB hb) h63)::more
theorem aEM{i n n':Nat}{f f':Int×List Int}{u u':Value}(h:ku w fs cs)(h':ku w fs' bC)(hi:i<n)(hJ:i<n')(hu:cK w u f.2.length (eD f.2))(jK:cK w u' f'.2.length (eD f'.2))(c1:cs[i*2]?=some (iV f.1))(c2:cs[i*2+1]?=some u)(Be:bC[i*2]?=some (iV f'.1))(Bd:bC[i*2+1]?=some u')
  (h63:f.2.length<9223372036854775807) (aRh:n<9223372036854775807) (ht:f=f'):ag prog (aa.at w) 32 (aF (af f66 0)) (DX n n' i) (tZ cs bC) 2 ⟨.normal,DX n n' (i+1),tZ cs bC,2⟩:=by
 have hl:=aRg h h';have wO:decide (f=f')=true:=aC ht;have k1:=hu;have k2:=jK;rcases k1 with ⟨rfl,_⟩|⟨b,o,c,rfl,_⟩<;>rcases k2 with ⟨rfl,_⟩|⟨b',o',c',rfl,_⟩<;>
  exact vu mixed 100 (hZ:=4) (efS hi hJ hu jK c1 c2 Be Bd h63 wO [.sum 31 i 1 (i+1) rfl o_]) k_ rfl k_ hl k_
theorem aRi{i n n':Nat}{f f':Int×List Int}{u u':Value}(hi:i<n)(hJ:i<n')(hu:cK w u f.2.length (eD f.2))(jK:cK w u' f'.2.length (eD f'.2))(c1:cs[i*2]?=some (iV f.1))(c2:cs[i*2+1]?=some u)(Be:bC[i*2]?=some (iV f'.1))(Bd:bC[i*2+1]?=some u')
  (h63:f.2.length<9223372036854775807) (ht:f≠f'):ag prog (aa.at w) 32 (aF (af f66 0)) (DX n n' i) (tZ cs bC) 2 ⟨.ret,[(6,.bool false)],tZ cs bC,4⟩:=by
 have wO:decide (f=f')=false:=aN ht;have k1:=hu;have k2:=jK;rcases k1 with ⟨rfl,_⟩|⟨b,o,c,rfl,_⟩<;>rcases k2 with ⟨rfl,_⟩|⟨b',o',c',rfl,_⟩<;>
  exact aA (efS hi hJ hu jK c1 c2 Be Bd h63 wO [])
theorem aRj{n n':Nat}{B:aa}:ag prog B 32 (aF (af f66 0)) (DX n n' n) (tZ cs bC) 2 ⟨.exit 0,[],tZ cs bC,2⟩:=
 aA [.lt 18 n n false s_]
theorem aRk(h63:fs.length<9223372036854775807)(qW:∀ f∈fs,f.2.length<9223372036854775807):cy prog 66 [.o (dq fs),.o (dq fs'),.p Ly] (.bool (decide (fs=fs'))):=by
 intro w vs ct;cases ct with
 |@cons _ v1 _ _ h1 ct=>
 cases ct with
 |@cons _ v2 _ _ h2 ct=>
 obtain⟨⟨cs,r1,f1⟩,_⟩:=h1;obtain⟨⟨bC,r2,f2⟩,_⟩:=h2;have BV:rZ w [.r fs.length cs,.r fs'.length bC,.p Ly] (v1::v2::_):=.cons r1 (.cons r2 ct);have ay:([aR.r fs.length cs,.r fs'.length bC,.p Ly].all aR.ok)=true:=by rw[dH,dH,dH];rw[show(aR.r fs.length cs).ok=true from bh.2 f1.flat,show(aR.r fs'.length bC).ok=true from bh.2 f2.flat];rfl
 by_cases hl:fs.length=fs'.length
 ·have aU:(Value.bool (!((fs.length:Int)==(fs'.length:Int))))=.bool false:=by rw[hl];simp
  rcases Dp fs fs' hl with h|⟨e,x,y,q1,q2,q3,q4⟩
  ·rw[aC h];subst h;have lo:ag prog (aa.at w) 32 (.block 0 (af f66 0)) (DX fs.length fs.length 0) (tZ cs bC) 2 ⟨.normal,[],tZ cs bC,2⟩:=
    bT (id:=0) (cd fs.length (λi=>DX fs.length fs.length i) (λ_=>tZ cs bC) (λi k _=>Iff.rfl) (λi hi=>by have hx:fs[i]?=some fs[i]:=bf hi;obtain⟨u,a1,a2,a3,_⟩:=DW f1 hx;obtain⟨u',b1,b2,b3,_⟩:=DW f2 hx;exact aEM f1 f2 hi hi a3 b3 a1 a2 b1 b2 (qW _ (dM hi)) h63 rfl) aRj n_)
   exact Qj mixed func66 BV ay 100 (N:=32) k_ [.rw 14 _ _ aU,.code 0 _ _ _ _ _ lo] k_ rfl
  ·have b9:fs≠fs':=λh=>by subst h;rw[q1]at q2;injection q2 with q2;exact q3 q2
   rw[aN b9];have ak:=(ew.1 q1).1;have lo:ag prog (aa.at w) 32 (.block 0 (af f66 0)) (DX fs.length fs'.length 0) (tZ cs bC) 2 ⟨.ret,[(6,.bool false)],tZ cs bC,4⟩:=
    bT (id:=0) (cd e (λi=>DX fs.length fs'.length i) (λ_=>tZ cs bC) (λi k _=>Iff.rfl) (λi hi=>by
     have hx:fs[i]?=some fs[i]:=bf o_;have hy:fs'[i]?=some fs'[i]:=bf o_;have:=q4 i _ _ hi hx hy;obtain⟨u,a1,a2,a3,_⟩:=DW f1 hx;obtain⟨u',b1,b2,b3,_⟩:=DW f2 hy;exact aEM f1 f2 o_ o_ a3 b3 a1 a2 b1 b2 (qW _ (dM _)) h63 this) (by
     obtain⟨u,a1,a2,a3,_⟩:=DW f1 q1;obtain⟨u',b1,b2,b3,_⟩:=DW f2 q2;exact aRi ak o_ a3 b3 a1 a2 b1 b2 (qW _ (cQ q1)) q3) n_)
   exact Qj mixed func66 BV ay 100 (N:=32) k_ [.rw 14 _ _ aU,.code 0 _ _ _ _ _ lo] k_ rfl
 ·have b9:fs≠fs':=λh=>hl (by rw[h]);rw[aN b9];exact Qj mixed func66 BV ay 100 (N:=32) k_ [.rw 14 (.bool (!((fs.length:Int)==(fs'.length:Int)))) (.bool true) (by congr 1;simp;omega)] k_ rfl
end
end
theorem aEN{P:Program}{t:TypeId}{s:Nat}(ht:HU P t=some s){cells:aj}{off:Nat}(hl:off+s<=cells.length):du P t cells off=some (.agg ((cells.drop off).take s).toArray):=by
 unfold HU at ht;split at ht
 ·rename_i d inf h1 h2;split at ht
  ·rename_i hr;injection ht with ht;unfold du;rw[h1,h2];dsimp only;rw[aw hr,ht,aw (by rw[Nat.ble_eq];exact hl)]
  ·cases ht
 ·cases ht
theorem aEO{l:List RP}{i:Nat}{p:RP}(h:l[i]?=some p):i*40+40<=(db l).length:=by rw[tF iC];have ak:=(ew.1 h).1;have:=e6 40 ak;omega
theorem Qk{l:List RP}{i:Nat}{p:RP}(h:l[i]?=some p):du prog 33 (db l) (i*40)=some p.n.v:=by
 rw[aEN (s:=30) k_ (by have:=aEO h;omega)];have e:=O0 iC h;have e2:((db l).drop (i*40)).take 30=p.n.cs:=by
  have:((db l).drop (i*40)).take 30=(((db l).drop (i*40)).take 40).take 30:=by rw[Mf];rfl
  rw[this,e];rfl
 rw[e2];rfl
theorem aEP{l:List RP}{i:Nat}{p:RP}(h:l[i]?=some p):du prog 31 (db l) (i*40+30)=some p.d.v:=by
 rw[aEN (s:=10) k_ (by have:=aEO h;omega)];have e:=O0 iC h;have e2:((db l).drop (i*40+30)).take 10=p.d.cs:=by
  rw[<-M7];have:(((db l).drop (i*40)).drop 30).take 10=(((db l).drop (i*40)).take 40).drop 30:=by rw[List.drop_take]
  rw[this,e];rfl
 rw[e2];rfl
theorem B0{α:Type}(b:α->Bool)(l:List α):l.all b=true\/∃(n:Nat) (x:α),l[n]?=some x/\b x=false/\(∀(i:Nat) (y:α),i<n->l[i]?=some y->b y=true)/\l.all b=false:=by
 induction l with
 |nil=>exact .inl rfl
 |cons x l ih=>
  rcases hb:b x with _|_
  ·exact .inr ⟨0,x,rfl,hb,λi y hi=>by omega,by simp[hb]⟩
  ·rcases ih with h|⟨n,y,h1,h2,h3,h4⟩
   ·exact .inl (by rw[dH,hb,h];rfl)
   ·refine .inr ⟨n+1,y,by simpa using h1,h2,λi z hi hz=>?_,by rw[dH,h4,M3]⟩;cases i with
    |zero=>simp at hz;rw[<-hz];exact hb
    |succ i=>exact h3 i z o_ (by simpa using hz)
theorem DY{α:Type}{b:α->Bool}{l:List α}(h:l.all b=true){i:Nat}{x:α}(hx:l[i]?=some x):b x=true:=bh.1 h x (cQ hx)
theorem Lz{a b:Nat}{t:Bool}(h:decide (a<=b)=t):Value.bool (decide ((a:Int)<=(b:Int)))=.bool t:=by rw[<-h];congr 1;rw[rI];omega
section
variable{Bs:aa}{vs:List RV}{k:Nat}
def F9(n k i:Nat):aW:=[(7,vI i),(0,sl 0 n),(2,vI k)]
def x7(vs:List RV):aH:=[(0,.view (cF vs))]
theorem aEQ{n i:Nat}{x:RV}(hi:i<n)(hx:vs[i]?=some x)(hb:qi x k=true)(h63:n<9223372036854775807):
  ag prog Bs 25 (aF (af f31 0)) (F9 n k i) (x7 vs) 1 ⟨.normal,F9 n k (i+1),x7 vs,1⟩:=by
 have hr:=Wf x k;rw[hb]at hr;exact aA [.lt 11 i n true (aC hi),.cY f31 16 0 n i 30 hi k_,.ld f31 17 33 0 (i*30) (.view (cF vs)) x.v rfl (r6 hx) k_,hr.at 19,.sum 13 i 1 (i+1) rfl o_]
theorem aRl{n i:Nat}{x:RV}(hi:i<n)(hx:vs[i]?=some x)(hb:qi x k=false):
  ag prog Bs 25 (aF (af f31 0)) (F9 n k i) (x7 vs) 1 ⟨.ret,[(6,.bool false)],x7 vs,1⟩:=by
 have hr:=Wf x k;rw[hb]at hr;exact aA [.lt 11 i n true (aC hi),.cY f31 16 0 n i 30 hi k_,.ld f31 17 33 0 (i*30) (.view (cF vs)) x.v rfl (r6 hx) k_,hr.at 19]
theorem aRm(m:Nat)(h63:vs.length<9223372036854775807):cy prog 31 [.r vs.length (cF vs),.p (vI m),.p (vI k)] (.bool (vs.all (λx=>qi x k)&&decide (vs.length<=m))):=by
 have ay:([aR.r vs.length (cF vs),.p (vI m),.p (vI k)].all aR.ok)=true:=by simp only[dH,fp,aR.ok,gT ga,iU];rfl
 rcases B0 (λx=>qi x k) vs with h|⟨n,x,h1,h2,h3,h4⟩
 ·rw[h,kD];have lo:∀ B:aa,ag prog B 25 (.block 0 (af f31 0)) (F9 vs.length k 0) (x7 vs) 1 ⟨.normal,[(0,sl 0 vs.length)],x7 vs,1⟩:=λB=>
   bT (id:=0) (cd vs.length (λi=>F9 vs.length k i) (λ_=>x7 vs) (λi k _=>Iff.rfl) (r:=⟨.exit 0,[(0,sl 0 vs.length)],x7 vs,1⟩) (λi hi=>by have hx:vs[i]?=some vs[i]:=bf hi;exact aEQ hi hx (DY h hx) h63) (aA [.lt 11 vs.length vs.length false s_]) n_)
  exact dW func31 ay 25 (λw=>[.code 0 _ _ _ _ _ (lo _),.rw 24 _ (.bool (decide (vs.length<=m))) (Lz rfl)])
 ·rw[h4,yO];have ak:=(ew.1 h1).1;have lo:∀ B:aa,ag prog B 25 (.block 0 (af f31 0)) (F9 vs.length k 0) (x7 vs) 1 ⟨.ret,[(6,.bool false)],x7 vs,1⟩:=λB=>
   bT (id:=0) (cd n (λi=>F9 vs.length k i) (λ_=>x7 vs) (λi k _=>Iff.rfl) (λi hi=>by have hx:vs[i]?=some vs[i]:=bf o_;exact aEQ o_ hx (h3 i _ hi hx) h63) (aRl ak h1 h2) n_)
  exact dW func31 ay 25 (λw=>[.code 0 _ _ _ _ _ (lo _)])
end
def Ql(p:RP):Bool:=decide (24<wV p.n)||decide (15<wN p.d)
def sK(ps:List RP)(i:Nat):Nat:=((ps.take i).filter Ql).length
theorem aRn{ps:List RP}{i:Nat}{p:RP}(h:ps[i]?=some p):sK ps (i+1)=sK ps i+if Ql p then 1 else 0:=by unfold sK;rw[tK,h];simp only[Option.toList,aEs,iZ];rcases hb:Ql p with _|_<;>simp[hb]
theorem aRo(ps:List RP)(i:Nat):sK ps i<=i:=by unfold sK;refine de (aEu _ _) ?_;rw[jw];omega
theorem Qm{r:RN}{k:Nat}(h:sF r k=true):wN r<=5*k:=by unfold sF at h;simp only[da,sZ]at h;unfold wN;omega
theorem aRp{r:RV}{k:Nat}(h:qi r k=true):wV r<=15*k:=by unfold qi at h;simp only[da]at h;have h1:=Qm h.1;have h2:=Qm h.2.1;have h3:=Qm h.2.2;unfold wV;omega
section
variable{Bs:aa}{ps:List RP}
def Al(ps:List RP)(n i:Nat):aW:=[(6,vI i),(0,sl 0 n),(5,vI (sK ps i))]
def x8(ps:List RP):aH:=[(0,.view (db ps))]
theorem aER{n i:Nat}{x:RP}(hi:i<n)(hx:ps[i]?=some x)(hb:xX x 3=true)(h63:n<9223372036854775807):
  ag prog Bs 45 (aF (af f30 0)) (Al ps n i) (x8 ps) 1 ⟨.normal,Al ps n (i+1),x8 ps,1⟩:=by
 have hr:=Wh x 3;rw[hb]at hr;have gp:qi x.n 3=true/\sF x.d 3=true:=by unfold xX at hb;simpa using hb
 have w1:=aRp gp.1;have w2:=Qm gp.2;have q1:=aPV (r:=x.n) o_;have q2:=PT (r:=x.d) o_;have hs:=aRn hx;have hle:=aRo ps i;unfold Al;rw[hs];generalize sK ps i=c at *;unfold Ql;by_cases g1:24<wV x.n
 ·rw[aC g1];exact aA [.lt 10 i n true (aC hi),.cY f30 15 0 n i 40 hi k_,.ld f30 16 35 0 (i*40) (.view (db ps)) x.v rfl (vT hx) k_,hr.at 17,.cY f30 21 0 n i 40 hi k_,.ld f30 23 33 0 (i*40) (.view (db ps)) x.n.v rfl (Qk hx) k_,q1.at 24,.gt 25 (wV x.n) 24 true (aC g1),.sum 36 c 1 (c+1) rfl o_,.sum 12 i 1 (i+1) rfl o_]
 ·rw[aN g1];by_cases g2:15<wN x.d
  ·rw[aC g2];exact aA [.lt 10 i n true (aC hi),.cY f30 15 0 n i 40 hi k_,.ld f30 16 35 0 (i*40) (.view (db ps)) x.v rfl (vT hx) k_,hr.at 17,.cY f30 21 0 n i 40 hi k_,.ld f30 23 33 0 (i*40) (.view (db ps)) x.n.v rfl (Qk hx) k_,q1.at 24,.gt 25 (wV x.n) 24 false (aN g1),.cY f30 29 0 n i 40 hi k_,.ld f30 31 31 0 (i*40+30) (.view (db ps)) x.d.v rfl (aEP hx) k_,q2.at 32,.gt 33 (wN x.d) 15 true (aC g2),.sum 36 c 1 (c+1) rfl o_,.sum 12 i 1 (i+1) rfl o_]
  ·rw[aN g2];exact aA [.lt 10 i n true (aC hi),.cY f30 15 0 n i 40 hi k_,.ld f30 16 35 0 (i*40) (.view (db ps)) x.v rfl (vT hx) k_,hr.at 17,.cY f30 21 0 n i 40 hi k_,.ld f30 23 33 0 (i*40) (.view (db ps)) x.n.v rfl (Qk hx) k_,q1.at 24,.gt 25 (wV x.n) 24 false (aN g1),.cY f30 29 0 n i 40 hi k_,.ld f30 31 31 0 (i*40+30) (.view (db ps)) x.d.v rfl (aEP hx) k_,q2.at 32,.gt 33 (wN x.d) 15 false (aN g2),.sum 12 i 1 (i+1) rfl o_]
theorem aRq{n i:Nat}{x:RP}(hi:i<n)(hx:ps[i]?=some x)(hb:xX x 3=false):
  ag prog Bs 45 (aF (af f30 0)) (Al ps n i) (x8 ps) 1 ⟨.ret,[(4,.bool false)],x8 ps,1⟩:=by
 have hr:=Wh x 3;rw[hb]at hr;exact aA [.lt 10 i n true (aC hi),.cY f30 15 0 n i 40 hi k_,.ld f30 16 35 0 (i*40) (.view (db ps)) x.v rfl (vT hx) k_,hr.at 17]
def LA(ps:List RP)(k:Nat):Bool:=ps.all (λx=>xX x 3)&&(decide (sK ps ps.length<=1)&&decide (ps.length<=k))
theorem aRr(k:Nat)(h63:ps.length<9223372036854775807):cy prog 30 [.r ps.length (db ps),.p (vI k)] (.bool (LA ps k)):=by
 have ay:([aR.r ps.length (db ps),.p (vI k)].all aR.ok)=true:=by simp only[dH,fp,aR.ok,gT iC,iU];rfl
 unfold LA;rcases B0 (λx=>xX x 3) ps with h|⟨n,x,h1,h2,h3,h4⟩
 ·rw[h,kD];have lo:∀ B:aa,ag prog B 45 (.block 0 (af f30 0)) (Al ps ps.length 0) (x8 ps) 1 ⟨.normal,[(0,sl 0 ps.length),(5,vI (sK ps ps.length))],x8 ps,1⟩:=λB=>
   bT (id:=0) (cd ps.length (λi=>Al ps ps.length i) (λ_=>x8 ps) (λi k _=>Iff.rfl) (r:=⟨.exit 0,[(0,sl 0 ps.length),(5,vI (sK ps ps.length))],x8 ps,1⟩) (λi hi=>by have hx:ps[i]?=some ps[i]:=bf hi;exact aER hi hx (DY h hx) h63) (aA [.lt 10 ps.length ps.length false s_]) n_)
  unfold Al at lo;have e0:sK ps 0=0:=by unfold sK;simp
  rw[e0]at lo;generalize sK ps ps.length=c at *;by_cases hc:c<=1
  ·rw[aC hc,kD];exact dW func30 ay 45 (λw=>[.code 0 _ _ _ _ _ (lo _),.rw 38 _ (.bool true) (Lz (a:=c) (b:=1) (aC hc)),.rw 43 _ (.bool (decide (ps.length<=k))) (Lz rfl)])
  ·rw[aN hc,yO];exact dW func30 ay 45 (λw=>[.code 0 _ _ _ _ _ (lo _),.rw 38 _ (.bool false) (Lz (a:=c) (b:=1) (aN hc))])
 ·rw[h4,yO];have ak:=(ew.1 h1).1;have lo:∀ B:aa,ag prog B 45 (.block 0 (af f30 0)) (Al ps ps.length 0) (x8 ps) 1 ⟨.ret,[(4,.bool false)],x8 ps,1⟩:=λB=>
   bT (id:=0) (cd n (λi=>Al ps ps.length i) (λ_=>x8 ps) (λi k _=>Iff.rfl) (λi hi=>by have hx:ps[i]?=some ps[i]:=bf o_;exact aER o_ hx (h3 i _ hi hx) h63) (aRq ak h1 h2) n_)
  have e0:sK ps 0=0:=by unfold sK;simp
  unfold Al at lo;rw[e0]at lo;exact dW func30 ay 45 (λw=>[.code 0 _ _ _ _ _ (lo _)])
end
section
open V3 (dot ax cL smul)
theorem aES{ps:List (HS K)}{i:Nat}{p:HS K}(h:ps[i]?=some p):(ps.map cH)[i]?=some (cH p):=by rw[Ce,h];rfl
theorem LB{ps:List (HS K)}{i:Nat}{p:HS K}(h:ps[i]?=some p):du prog 33 (aK ps) (i*40)=some (bB p.n):=Qk (aES h)
theorem Qn{ps:List (HS K)}{i:Nat}{p:HS K}(h:ps[i]?=some p):du prog 35 (aK ps) (i*40)=some (cC p):=vT (aES h)
section
variable{Bs:aa}{ps:List RP}{m:Nat}
def Ga(n i:Nat):aW:=[(3,vI i),(0,sl 0 n)]
def wk(ps:List RP):aH:=[(0,.view (db ps))]
theorem aET{n i:Nat}{x:RP}(hi:i<n)(hx:ps[i]?=some x)(hs:Ae m x)(hm:m<=aB)(hb:pz x=true)(h63:n<9223372036854775807):
  ag prog Bs 16 (aF (af f58 0)) (Ga n i) (wk ps) 1 ⟨.normal,Ga n (i+1),wk ps,1⟩:=by
 have hv:=P2 hs hm;rw[hb]at hv;exact aA [.lt 7 i n true (aC hi),.cY f58 12 0 n i 40 hi k_,.ld f58 13 35 0 (i*40) (.view (db ps)) x.v rfl (vT hx) k_,hv.at 14,.sum 9 i 1 (i+1) rfl o_]
theorem aRs{n i:Nat}{x:RP}(hi:i<n)(hx:ps[i]?=some x)(hs:Ae m x)(hm:m<=aB)(hb:pz x=false):
  ag prog Bs 16 (aF (af f58 0)) (Ga n i) (wk ps) 1 ⟨.ret,[(2,.bool false)],wk ps,1⟩:=by
 have hv:=P2 hs hm;rw[hb]at hv;exact aA [.lt 7 i n true (aC hi),.cY f58 12 0 n i 40 hi k_,.ld f58 13 35 0 (i*40) (.view (db ps)) x.v rfl (vT hx) k_,hv.at 14]
theorem aEU(hs:∀ x∈ps,Ae m x)(hm:m<=aB)(h63:ps.length<9223372036854775807):cy prog 58 [.r ps.length (db ps)] (.bool (ps.all pz)):=by
 have ay:([aR.r ps.length (db ps)].all aR.ok)=true:=by simp only[dH,fp,aR.ok,gT iC,iU]
 rcases B0 pz ps with h|⟨n,x,h1,h2,h3,h4⟩
 ·rw[h];have lo:∀ B:aa,ag prog B 16 (.block 0 (af f58 0)) (Ga ps.length 0) (wk ps) 1 ⟨.normal,[],wk ps,1⟩:=λB=>
   bT (id:=0) (cd ps.length (λi=>Ga ps.length i) (λ_=>wk ps) (λi k _=>Iff.rfl) (r:=⟨.exit 0,[],wk ps,1⟩) (λi hi=>by have hx:ps[i]?=some ps[i]:=bf hi;exact aET hi hx (hs _ (dM hi)) hm (DY h hx) h63) (aA [.lt 7 ps.length ps.length false s_]) n_)
  exact dW func58 ay 16 (λw=>[.code 0 _ _ _ _ _ (lo _)])
 ·rw[h4];have ak:=(ew.1 h1).1;have lo:∀ B:aa,ag prog B 16 (.block 0 (af f58 0)) (Ga ps.length 0) (wk ps) 1 ⟨.ret,[(2,.bool false)],wk ps,1⟩:=λB=>
   bT (id:=0) (cd n (λi=>Ga ps.length i) (λ_=>wk ps) (λi k _=>Iff.rfl) (r:=⟨.ret,[(2,.bool false)],wk ps,1⟩) (λi hi=>by
    have mT:i<ps.length:=by omega
    have hx:ps[i]?=some ps[i]:=bf mT;exact aET mT hx (hs _ (dM mT)) hm (h3 i _ hi hx) h63) (aRs ak h1 (hs x (cQ h1)) hm h2) n_)
  exact dW func58 ay 16 (λw=>[.code 0 _ _ _ _ _ (lo _)])
end
section
variable{Bs:aa}{ps:List (HS K)}{m:Nat}{d:V3 K}
def x9(ps:List (HS K))(d:V3 K):Bool:=ps.all λp=>decide (OF.az (dot p.n d)<=0)
def Gb(n i:Nat):aW:=[(5,vI i),(0,sl 0 n),(3,ptr 1)]
def ya(ps:List (HS K))(d:V3 K):aH:=[(0,.view (aK ps)),(1,.aI (cD d).cs 33)]
theorem Qo{z:Int}{t:Bool}(h:decide (z<=0)=!t):Value.bool (decide (z>0))=.bool t:=by
 congr 1
 cases t
 ·have:=kH h;exact aN o_
 ·have:=Hh h;exact aC o_
theorem aEV{n i:Nat}{p:HS K}(hi:i<n)(hx:ps[i]?=some p)(hp:bt m p)(hd:aD m d)(hm:100*m+1000<=aB)(hb:decide (OF.az (dot p.n d)<=0)=true)(h63:n<9223372036854775807):
  ag prog Bs 21 (aF (af f100 0)) (Gb n i) (ya ps d) 2 ⟨.normal,Gb n (i+1),ya ps d,2⟩:=
 aA [.lt 9 i n true (aC hi),.cY f100 14 0 n i 40 hi k_,.ld f100 16 33 0 (i*40) (.view (aK ps)) (bB p.n) rfl (LB hx) k_,(aWa hp.1 hd o_).at 18,(aVA (hp.1.dot hd) o_).at 19,.rw 20 _ (.bool false) (Qo (t:=false) hb),.sum 11 i 1 (i+1) rfl o_]
theorem aRt{n i:Nat}{p:HS K}(hi:i<n)(hx:ps[i]?=some p)(hp:bt m p)(hd:aD m d)(hm:100*m+1000<=aB)(hb:decide (OF.az (dot p.n d)<=0)=false):
  ag prog Bs 21 (aF (af f100 0)) (Gb n i) (ya ps d) 2 ⟨.ret,[(4,.bool false)],ya ps d,2⟩:=
 aA [.lt 9 i n true (aC hi),.cY f100 14 0 n i 40 hi k_,.ld f100 16 33 0 (i*40) (.view (aK ps)) (bB p.n) rfl (LB hx) k_,(aWa hp.1 hd o_).at 18,(aVA (hp.1.dot hd) o_).at 19,.rw 20 _ (.bool true) (Qo (t:=true) hb)]
theorem Qp(hs:∀ p∈ps,bt m p)(hd:aD m d)(hm:100*m+1000<=aB)(h63:ps.length<9223372036854775807):cy prog 100 [.r ps.length (aK ps),.p (bB d)] (.bool (x9 ps d)):=by
 have ay:([aR.r ps.length (aK ps),.p (bB d)].all aR.ok)=true:=by simp only[dH,fp,aR.ok,iU];rw[show(aK ps).all flat=true from cU ps];rfl
 unfold x9;rcases B0 (λp=>decide (OF.az (dot p.n d)<=0)) ps with h|⟨n,x,h1,h2,h3,h4⟩
 ·rw[h];have lo:∀ B:aa,ag prog B 21 (.block 0 (af f100 0)) (Gb ps.length 0) (ya ps d) 2 ⟨.normal,[],ya ps d,2⟩:=λB=>
   bT (id:=0) (cd ps.length (λi=>Gb ps.length i) (λ_=>ya ps d) (λi k _=>Iff.rfl) (r:=⟨.exit 0,[],ya ps d,2⟩) (λi hi=>by have hx:ps[i]?=some ps[i]:=bf hi;exact aEV hi hx (hs _ (dM hi)) hd hm (DY h hx) h63) (aA [.lt 9 ps.length ps.length false s_]) n_)
  exact dW func100 ay 21 (λw=>[.code 0 _ _ _ _ _ (lo _)])
 ·rw[h4];have ak:=(ew.1 h1).1;have lo:∀ B:aa,ag prog B 21 (.block 0 (af f100 0)) (Gb ps.length 0) (ya ps d) 2 ⟨.ret,[(4,.bool false)],ya ps d,2⟩:=λB=>
   bT (id:=0) (cd n (λi=>Gb ps.length i) (λ_=>ya ps d) (λi k _=>Iff.rfl) (λi hi=>by
    have mT:i<ps.length:=by omega
    have hx:ps[i]?=some ps[i]:=bf mT;exact aEV mT hx (hs _ (dM mT)) hd hm (h3 i _ hi hx) h63) (aRt ak h1 (hs x (cQ h1)) hd hm h2) n_)
  exact dW func100 ay 21 (λw=>[.code 0 _ _ _ _ _ (lo _)])
end
def B3(ps:List (HS K))(d:V3 K):Bool:=ps.all λp=>decide (dot p.n d=0)
def Qq(ps:List (HS K))(i:Nat):V3 K:=match ps[i]? with|some p=>p.n|none=>0
def nh(ps:List (HS K))(i j:Nat):V3 K:=ax (Qq ps i) (Qq ps j)
def Am(ps:List (HS K))(i j:Nat):Bool:=decide (nh ps i j≠0)&&(x9 ps (nh ps i j)||x9 ps (-nh ps i j))
def oU(ps:List (HS K))(f:Bool)(i:Nat):Nat->Bool
 |0=>f
 |j+1=>if nh ps i j=0 then oU ps f i j else oU ps f i j&&B3 ps (nh ps i j)
def mw(ps:List (HS K)):Nat->Bool
 |0=>true
 |i+1=>oU ps (mw ps i) i i
def DZ(ps:List (HS K))(i:Nat):Bool:=(List.range i).all λj=>!Am ps i j
def wm(ps:List (HS K)):Bool:=(List.range ps.length).all (DZ ps)&&!mw ps ps.length
theorem Iy(b:Nat->Bool)(n:Nat):(List.range n).all b=true\/∃ e,e<n/\b e=false/\(∀ i,i<e->b i=true)/\(List.range n).all b=false:=by
 rcases B0 b (List.range n)with h|⟨e,x,h1,h2,h3,h4⟩
 ·exact .inl h
 ·have ak:=(ew.1 h1).1;rw[yG]at ak;rw[KO ak]at h1;injection h1 with h1;subst h1;exact .inr ⟨e,ak,h2,λi hi=>h3 i i hi (KO o_),h4⟩
theorem Iz{b:Nat->Bool}{n:Nat}(h:(List.range n).all b=true){i:Nat}(hi:i<n):b i=true:=bh.1 h i (kh.2 hi)
section
variable{Bs:aa}{ps:List (HS K)}{m:Nat}{d:V3 K}
def Gc(n k:Nat)(f:Bool):aW:=[(7,vI k),(0,sl 0 n),(3,.bool f),(6,ptr 1)]
def wo(ps:List (HS K))(d:V3 K):aH:=[(0,.view (aK ps)),(1,.aI (cD d).cs 33)]
theorem aEW{n k:Nat}{p:HS K}{t:Bool}(hk:k<n)(hx:ps[k]?=some p)(hp:bt m p)(hd:aD m d)(hm:100*m+1000<=aB)(ht:decide (dot p.n d=0)=t)(h63:n<9223372036854775807):
  ag prog Bs 61 (aF (af f59 4)) (Gc n k true) (wo ps d) 2 ⟨.normal,Gc n (k+1) t,wo ps d,2⟩:=by
 have h49:Value.bool (OF.az (dot p.n d)==0)=.bool t:=by
  by_cases h:dot p.n d=0
  ·rw[aC h]at ht;subst ht;exact xW ((OF.e8 _).2 h)
  ·rw[aN h]at ht;subst ht;exact pw (λe=>h ((OF.e8 _).1 e))
 exact aA [.lt 35 k n true (aC hk),.cY f59 43 0 n k 40 hk k_,.ld f59 45 33 0 (k*40) (.view (aK ps)) (bB p.n) rfl (LB hx) k_,(aWa hp.1 hd o_).at 47,(aVA (hp.1.dot hd) o_).at 48,.rw 49 _ (.bool t) h49,.sum 40 k 1 (k+1) rfl o_]
theorem aEX{n k:Nat}:ag prog Bs 61 (aF (af f59 4)) (Gc n k false) (wo ps d) 2 ⟨.exit 4,[(0,sl 0 n),(3,.bool false),(6,ptr 1)],wo ps d,2⟩:=by
 by_cases h:k<n
 ·exact aA [.lt 35 k n true (aC h)]
 ·exact aA [.lt 35 k n false (aN h)]
theorem aEY(hs:∀ p∈ps,bt m p)(hd:aD m d)(hm:100*m+1000<=aB)(h63:ps.length<9223372036854775807)(f:Bool):
  ag prog Bs 61 (.block 4 (af f59 4)) (Gc ps.length 0 f) (wo ps d) 2 ⟨.normal,[(0,sl 0 ps.length),(3,.bool (f&&B3 ps d)),(6,ptr 1)],wo ps d,2⟩:=by
 cases f with
 |false=>exact bT (id:=4) (cd 0 (λ_=>Gc ps.length 0 false) (λ_=>wo ps d) (λ_ _ _=>Iff.rfl) (r:=⟨.exit 4,[(0,sl 0 ps.length),(3,.bool false),(6,ptr 1)],wo ps d,2⟩) (λi hi=>by omega) aEX n_)
 |true=>
  unfold B3;rcases B0 (λp=>decide (dot p.n d=0)) ps with h|⟨n,x,h1,h2,h3,h4⟩
  ·rw[h];exact bT (id:=4) (cd ps.length (λi=>Gc ps.length i true) (λ_=>wo ps d) (λ_ _ _=>Iff.rfl) (r:=⟨.exit 4,[(0,sl 0 ps.length),(3,.bool true),(6,ptr 1)],wo ps d,2⟩) (λi hi=>by have hx:ps[i]?=some ps[i]:=bf hi;exact aEW hi hx (hs _ (dM hi)) hd hm (DY h hx) h63) (aA [.lt 35 ps.length ps.length false s_]) n_)
  ·rw[h4];have ak:=(ew.1 h1).1;exact bT (id:=4) (cd (n+1) (λi=>Gc ps.length i (decide (i<=n))) (λ_=>wo ps d) (λ_ _ _=>Iff.rfl) (r:=⟨.exit 4,[(0,sl 0 ps.length),(3,.bool false),(6,ptr 1)],wo ps d,2⟩) (λi hi=>by
    have mT:i<ps.length:=by omega
    have hx:ps[i]?=some ps[i]:=bf mT;simp only[aC (show i<=n by omega)];refine aEW mT hx (hs _ (dM mT)) hd hm ?_ h63;by_cases he:i=n
    ·subst he;rw[hx]at h1;injection h1 with h1;rw[h1,h2];exact(aN o_).symm
    ·have:=h3 i _ o_ hx;rw[this];exact(aC o_).symm) (by
    simp only[aN (show ¬n+1<=n by omega)];exact aEX) n_)
def yb(ps:List (HS K))(f:Bool)(n i j:Nat):aW:=[(5,vI j),(4,vI i),(0,sl 0 n),(3,.bool (oU ps f i j))]
def nO(ps:List (HS K)):aH:=[(0,.view (aK ps))]
theorem IA{i:Nat}{p:HS K}(h:ps[i]?=some p):Qq ps i=p.n:=by unfold Qq;rw[h]
noncomputable def Qr{n i j:Nat}{p q:HS K}{t:Bool}(hi:i<n)(mB:j<i)(hp:ps[i]?=some p)(hq:ps[j]?=some q)(sp:bt m p)(sq:bt m q)(hm:1000*m+10000<=aB)(ht:decide (ax p.n q.n=0)=t)(more:bA prog Bs 61):bA prog Bs 61:=
 .lt 16 j i true (aC mB)::.cY f59 21 0 n i 40 hi k_::.ld f59 23 33 0 (i*40) (.view (aK ps)) (bB p.n) rfl (LB hp) k_::.cY f59 26 0 n j 40 o_ k_::.ld f59 28 33 0 (j*40) (.view (aK ps)) (bB q.n) rfl (LB hq) k_::
 (aV7 sp.1 sq.1 o_).at 29::(ht▸aV5 (sp.1.ax sq.1) o_:aE prog 35 [bB (ax p.n q.n)] (.bool t)).at 31::more
theorem aEZ(hs:∀ p∈ps,bt m p)(hm:1000*m+10000<=aB){f:Bool}{i j:Nat}(hi:i<ps.length)(mB:j<i)(hb:Am ps i j=false)(h63:ps.length<9223372036854775807):
  ag prog Bs 61 (aF (af f59 2)) (yb ps f ps.length i j) (nO ps++marks 1 []) 1 ⟨.normal,gQ 1 [] (yb ps f ps.length i (j+1)),nO ps++dT [] [],2⟩:=by
 have hj:j<ps.length:=by omega
 have hp:ps[i]?=some ps[i]:=bf hi;have hq:ps[j]?=some ps[j]:=bf hj;have sp:=hs _ (dM hi);have sq:=hs _ (dM hj);generalize ps[i]=p at *;generalize ps[j]=q at *;have hd:nh ps i j=ax p.n q.n:=by unfold nh;rw[IA hp,IA hq]
 have o6:∀ r∈ps,bt (4*m+9) r:=λr hr=>(hs r hr).mono o_;have B4:aD (4*m+9) (ax p.n q.n):=(sp.1.ax sq.1).mono o_;unfold Am at hb;have er:oU ps f i (j+1)=if nh ps i j=0 then oU ps f i j else oU ps f i j&&B3 ps (nh ps i j):=rfl
 unfold yb;rw[er];rw[hd]at hb ⊢;by_cases hz:ax p.n q.n=0
 ·rw[aw hz];exact aA (Qr hi mB hp hq sp sq hm (aC hz) [.sum 18 j 1 (j+1) rfl o_])
 ·rw[ao hz];rw[aC hz,kD]at hb;have pL:x9 ps (ax p.n q.n)=false:=by revert hb;cases x9 ps (ax p.n q.n)<;>simp
  have gp:x9 ps (-ax p.n q.n)=false:=by revert hb;cases x9 ps (-ax p.n q.n)<;>simp
  have l1:=Qp o6 B4 o_ h63;have l2:=Qp o6 B4.neg o_ h63;rw[pL]at l1;rw[gp]at l2;have c4:=aEY (Bs:=Bs) o6 B4 o_ h63 (oU ps f i j);generalize oU ps f i j=ff at *;generalize (ff&&B3 ps (ax p.n q.n))=fg at *;exact aA (Qr hi mB hp hq sp sq hm (aN hz) [.code 4 _ _ _ _ _ c4,.step 52 (av f59 52) [.func (.func 100) #[] #[],sl 0 ps.length,bB (ax p.n q.n)] [(0,some (.view (aK ps)))] (.bool false) [] (dz l1 (.w (x:=.view (aK ps)) rfl (cU ps) iD (.p rfl .nil)) (x:=.func 100) k_ k_ rfl),(aV2 B4 o_).at 56,.step 57 (av f59 57) [.func (.func 100) #[] #[],sl 0 ps.length,bB (-ax p.n q.n)] [(0,some (.view (aK ps)))] (.bool false) [] (dz l2 (.w (x:=.view (aK ps)) rfl (cU ps) iD (.p rfl .nil)) (x:=.func 100) k_ k_ rfl),.sum 18 j 1 (j+1) rfl o_])
theorem aRu(hs:∀ p∈ps,bt m p)(hm:1000*m+10000<=aB){f:Bool}{i j:Nat}(hi:i<ps.length)(mB:j<i)(hb:Am ps i j=true)(h63:ps.length<9223372036854775807):
  ag prog Bs 61 (aF (af f59 2)) (yb ps f ps.length i j) (nO ps++marks 1 []) 1 ⟨.ret,[(2,.bool false)],[],2⟩:=by
 have hj:j<ps.length:=by omega
 have hp:ps[i]?=some ps[i]:=bf hi;have hq:ps[j]?=some ps[j]:=bf hj;have sp:=hs _ (dM hi);have sq:=hs _ (dM hj);generalize ps[i]=p at *;generalize ps[j]=q at *;have hd:nh ps i j=ax p.n q.n:=by unfold nh;rw[IA hp,IA hq]
 have o6:∀ r∈ps,bt (4*m+9) r:=λr hr=>(hs r hr).mono o_;have B4:aD (4*m+9) (ax p.n q.n):=(sp.1.ax sq.1).mono o_;unfold Am at hb;unfold yb;rw[hd]at hb;have hz:ax p.n q.n≠0:=by intro e;rw[aN (λh=>h e)]at hb;cases hb
 rw[aC hz,kD]at hb;have l1:=Qp o6 B4 o_ h63;have l2:=Qp o6 B4.neg o_ h63;have c4:=aEY (Bs:=Bs) o6 B4 o_ h63 (oU ps f i j);generalize oU ps f i j=ff at *;generalize (ff&&B3 ps (ax p.n q.n))=fg at *;rcases pL:x9 ps (ax p.n q.n)with _|_
 ·rw[pL]at l1 hb;rw[yP]at hb;rw[hb]at l2;exact aA (Qr hi mB hp hq sp sq hm (aN hz) [.code 4 _ _ _ _ _ c4,.step 52 (av f59 52) [.func (.func 100) #[] #[],sl 0 ps.length,bB (ax p.n q.n)] [(0,some (.view (aK ps)))] (.bool false) [] (dz l1 (.w (x:=.view (aK ps)) rfl (cU ps) iD (.p rfl .nil)) (x:=.func 100) k_ k_ rfl),(aV2 B4 o_).at 56,.step 57 (av f59 57) [.func (.func 100) #[] #[],sl 0 ps.length,bB (-ax p.n q.n)] [(0,some (.view (aK ps)))] (.bool true) [] (dz l2 (.w (x:=.view (aK ps)) rfl (cU ps) iD (.p rfl .nil)) (x:=.func 100) k_ k_ rfl)])
 ·rw[pL]at l1;exact aA (Qr hi mB hp hq sp sq hm (aN hz) [.code 4 _ _ _ _ _ c4,.step 52 (av f59 52) [.func (.func 100) #[] #[],sl 0 ps.length,bB (ax p.n q.n)] [(0,some (.view (aK ps)))] (.bool true) [] (dz l1 (.w (x:=.view (aK ps)) rfl (cU ps) iD (.p rfl .nil)) (x:=.func 100) k_ k_ rfl)])
theorem aE0(q:Nat×Obj)(hq:q∈nO ps):fN 1 q.2:=by unfold nO at hq;simp at hq;subst hq;exact GV (bh.1 (cU ps))
theorem aRv(hs:∀ p∈ps,bt m p)(hm:1000*m+10000<=aB){f:Bool}{i:Nat}(hi:i<ps.length)(hb:DZ ps i=true)(h63:ps.length<9223372036854775807):
  ag prog Bs 61 (.block 2 (af f59 2)) (yb ps f ps.length i 0) (nO ps) 1 ⟨.normal,[(4,vI i),(0,sl 0 ps.length),(3,.bool (oU ps f i i))],nO ps,1⟩:=by
 have:=rQ (P:=prog) (B:=Bs) (N:=61) (b:=aF (af f59 2)) (next:=1) (p:=0) (r:=⟨.exit 2,[(4,vI i),(0,sl 0 ps.length),(3,.bool (oU ps f i i))],nO ps,1⟩) i (yb ps f ps.length i) (λ_=>nO ps) (λ_=>[]) [] (λ_ _=>rfl)
  (λj _=>⟨aE0,λz hz=>by cases hz⟩) k_ k_
  (λj hj=>⟨[],2,k_,aEZ hs hm hi hj (by have:=Iz hb hj;simpa using this) h63⟩)
  (aA [.lt 16 i i false s_]) n_
 exact bT (id:=2) this
theorem aRw(hs:∀ p∈ps,bt m p)(hm:1000*m+10000<=aB){f:Bool}{i:Nat}(hi:i<ps.length)(hb:DZ ps i=false)(h63:ps.length<9223372036854775807):
  ag prog Bs 61 (.block 2 (af f59 2)) (yb ps f ps.length i 0) (nO ps) 1 ⟨.ret,[(2,.bool false)],[],2⟩:=by
 rcases Iy (λj=>!Am ps i j) i with h|⟨e,h1,h2,h3,_⟩
 ·unfold DZ at hb;rw[h]at hb;cases hb
 ·have:=rQ (P:=prog) (B:=Bs) (N:=61) (b:=aF (af f59 2)) (next:=1) (p:=0) (r:=⟨.ret,[(2,.bool false)],[],2⟩) e (yb ps f ps.length i) (λ_=>nO ps) (λ_=>[]) [] (λ_ _=>rfl)
   (λj _=>⟨aE0,λz hz=>by cases hz⟩) k_ k_
   (λj hj=>⟨[],2,k_,aEZ hs hm hi o_ (by have:=h3 j hj;simpa using this) h63⟩)
   (aRu hs hm hi h1 (by simpa using h2) h63) n_
  exact bT (id:=2) this
def yc(ps:List (HS K))(n i:Nat):aW:=[(4,vI i),(0,sl 0 n),(3,.bool (mw ps i))]
theorem aE1(hs:∀ p∈ps,bt m p)(hm:1000*m+10000<=aB){i:Nat}(hi:i<ps.length)(hb:DZ ps i=true)(h63:ps.length<9223372036854775807):
  ag prog Bs 61 (aF (af f59 0)) (yc ps ps.length i) (nO ps) 1 ⟨.normal,yc ps ps.length (i+1),nO ps,1⟩:=by
 have lo:=aRv (Bs:=Bs) (f:=mw ps i) hs hm hi hb h63;unfold yb at lo;unfold yc;show ag _ _ _ _ _ _ _ ⟨.normal,[(4,vI (i+1)),(0,sl 0 ps.length),(3,.bool (oU ps (mw ps i) i i))],nO ps,1⟩;have e0:oU ps (mw ps i) i 0=mw ps i:=rfl;rw[e0]at lo;generalize oU ps (mw ps i) i i=g at *;generalize mw ps i=f at *;exact aA [.lt 11 i ps.length true (aC hi),.code 2 _ _ _ _ _ lo,.sum 13 i 1 (i+1) rfl o_]
theorem aRx(hs:∀ p∈ps,bt m p)(hm:1000*m+10000<=aB){i:Nat}(hi:i<ps.length)(hb:DZ ps i=false)(h63:ps.length<9223372036854775807):
  ag prog Bs 61 (aF (af f59 0)) (yc ps ps.length i) (nO ps) 1 ⟨.ret,[(2,.bool false)],[],2⟩:=by
 have lo:=aRw (Bs:=Bs) (f:=mw ps i) hs hm hi hb h63;unfold yb at lo;unfold yc;have e0:oU ps (mw ps i) i 0=mw ps i:=rfl;rw[e0]at lo;generalize mw ps i=f at *;exact aA [.lt 11 i ps.length true (aC hi),.code 2 _ _ _ _ _ lo]
theorem aRy(hs:∀ p∈ps,bt m p)(hm:1000*m+10000<=aB)(h63:ps.length<9223372036854775807):cy prog 59 [fC ps] (.bool (wm ps)):=by
 unfold wm;rcases Iy (DZ ps) ps.length with h|⟨e,h1,h2,h3,h4⟩
 ·rw[h,kD];have lo:∀ B:aa,ag prog B 61 (.block 0 (af f59 0)) (yc ps ps.length 0) (nO ps) 1 ⟨.normal,[(3,.bool (mw ps ps.length))],nO ps,1⟩:=λB=>
   bT (id:=0) (cd ps.length (yc ps ps.length) (λ_=>nO ps) (λ_ _ _=>Iff.rfl) (r:=⟨.exit 0,[(3,.bool (mw ps ps.length))],nO ps,1⟩) (λi hi=>aE1 hs hm hi (Iz h hi) h63) (aA [.lt 11 ps.length ps.length false s_]) n_)
  unfold yc at lo;have e0:mw ps 0=true:=rfl;rw[e0]at lo;generalize mw ps ps.length=g at *;cases g<;>exact dW func59 (DU ps) 61 (λw=>[.code 0 _ _ _ _ _ (lo _)])
 ·rw[h4,yO];have lo:∀ B:aa,ag prog B 61 (.block 0 (af f59 0)) (yc ps ps.length 0) (nO ps) 1 ⟨.ret,[(2,.bool false)],[],2⟩:=λB=>
   bT (id:=0) (cd e (yc ps ps.length) (λ_=>nO ps) (λ_ _ _=>Iff.rfl) (r:=⟨.ret,[(2,.bool false)],[],2⟩) (λi hi=>aE1 hs hm o_ (h3 i hi) h63) (aRx hs hm h1 h2 h63) n_)
  unfold yc at lo;have e0:mw ps 0=true:=rfl;rw[e0]at lo;exact dW func59 (DU ps) 61 (λw=>[.code 0 _ _ _ _ _ (lo _)])
end
end
section
variable{P:Program}{B:aa}{N:Nat}
def aY.Qs(fn:Func)(key k j n m nm e size bytes off cc:Nat)(cells:aj)(q:Nat)(x:Obj)(new:aj)(lA:n+m=nm)(hx:x.reads=true)(hlen:((x.cells.drop off).take (m*size)).length=m*size)(iY:cells.length=n*size)(kS:cells++(x.cells.drop off).take (m*size)=new)
  (h1:∀ v∈x.cells,v.oneCell'=true) (bH:0<size) (h63:nm<=maxLen) (hb:nm*bytes<=140737488355328) (ho:EL P (av fn key)=some (e,size,bytes,size,true)):aY P B N:=
 .step key (av fn key) [.slice (some ⟨j,0,some 7⟩) n 0,.slice (some ⟨q,off,some 7⟩) m cc] [(k,none),(j,some (.row cells e size)),(q,some x)] (.slice (some ⟨k,0,some 7⟩) nm 0) [(k,.row new e size),(j,.dead)] (by subst lA;have hs:Cb B (.slice (some ⟨q,off,some 7⟩) m cc) m ((x.cells.drop off).take (m*size)) [(q,some x)]:=Mb (B:=B) (k:=q) (off:=off) (m:=m) (cc:=cc) hx (len:=m*size) (λh=>by rw[h,lC]);have:=Zt (B:=B) ho bH hs hlen (λv hv=>h1 v (Wt (FD hv))) (j:=j) (n:=n) (cells:=cells) (vj iY.symm) h63 hb k;rw[ki (vj iY),kS]at this;exact this)
def aY.aRz(fn:Func)(key k n s:Nat)(ho:rJ P (av fn key)=some (true,false,s)):aY P B N:=
 .step key (av fn key) [.slice (some ⟨k,0,some 7⟩) n 0,vI 0] [] (.slice (some ⟨k,0,some 7⟩) n 0) [] (by have:=GC (B:=B) ho (k:=k) (off:=0) (n:=n) (cc:=0) (l:=0) (h:=n) n_ (λ_=>rfl) (kT _) (bj _) (.inr rfl);simpa using this)
theorem aRA{o:Oper}{s:Nat}(ho:rJ P o=some (true,false,s)){k off n cc:Nat}{x:Obj}(hx:x.gh=true)(j:Nat):
  cB P B o [.slice (some ⟨k,off,some 7⟩) n cc,vI n] [(j,none),(k,some x)] (.slice (some ⟨j,0,some 7⟩) 0 0) [(j,.view [])]:=by
 unfold rJ at ho;split at ho
 ·rename_i t y lo hi bP;split at ho
  ·rename_i e ht;split at ho
   ·rename_i i hJ;injection ho with ho;injection ho with h1 ho;injection ho with h2 h3;cases lo with
    |none=>cases h1
    |some yl=>
    cases hi with
    |some yh=>cases h2
    |none=>
    refine gW.step λι c ρ w aO hm hn=>?_;have hj:c j=none:=hn (j,none) s_;have hk:c k=some x:=hn (k,some x) s_;rw[bP]at aO;obtain⟨u,u2,hu,hc,di⟩:=jx aO;have dP:ρ y=u:=by simp[Op.operands]at hu;exact hu.1
    have fv:ρ yl=u2:=by simp[Op.operands]at hu;exact hu.2
    have di:=di.eU rfl;have K8:∀ y code,n<=y->(Instr.sliceBound (.int .i64 n) y code).run P w=.ok n w:=by intro y code hq;have:(0:Int)<=n/\(n:Int)<=y:=⟨by omega,by omega⟩;simp[Instr.sliceBound,asIntOf,this]
    rcases hc.gV rfl with ⟨hb,kf,pJ,yu,he⟩|⟨b,oo,cap,c',hb,lq,mC,he⟩
    ·refine⟨dF ι j .nil,.slice none 0 0,w,gC (hm.dr j hj),.slcN (fD _ _ _),hm.add hj (.inl ⟨rfl,rfl⟩) n_ n_ n_,.inl ?_⟩;subst kf;have kG:∀ code,(Instr.sliceBound (.int .i64 0) 0 code).run P w=.ok 0 w:=λcode=>by simp[Instr.sliceBound,asIntOf]
     simp only[execOp,bP];simp[Instr.sliceAt,iG ht,Instr.slice,dP,fv,di,he,vI,Instr.sliceBounds,kG,sizeOf,typeInfo,hJ]
    ·dsimp only at hb he;obtain⟨o1,xa⟩:∃ o1,o1=(if c'=n then oo+off else oo+off+n*i.size):=⟨_,rfl⟩;have hsn:=hm.seen k x b oo cap hk hx hb;refine⟨dF ι j (.at b o1 (c'-n)),.slice (some ⟨b,o1+0,none⟩) 0 (c'-n),w,gC (hm.dr j hj),.slc (fD _ _ _) (kT _) (jY _),hm.add hj (.inr ⟨b,o1,c'-n,[],rfl,.nil,λj u h=>by simp at h⟩) n_ n_ (λb1 o2 lV _ e=>?_),.inl ?_⟩
     ·injection e with e1 e2 e3;subst e1;exact hsn
     ·simp only[execOp,bP];by_cases iF:c'=n
      ·rw[aw iF]at xa;subst xa;subst iF;simp[Instr.sliceAt,iG ht,Instr.slice,dP,fv,di,he,vI,Instr.sliceBounds,K8 c' _ (bj _),sizeOf,typeInfo,hJ]
      ·rw[ao iF]at xa;subst xa;simp[Instr.sliceAt,iG ht,Instr.slice,dP,fv,di,he,vI,Instr.sliceBounds,K8 n _ (bj _),sizeOf,typeInfo,hJ,iF,Az]
   ·cases ho
  ·cases ho
 ·cases ho
def aY.aRB(fn:Func)(key k off n cc s j:Nat)(x:Obj)(hx:x.gh=true)(ho:rJ P (av fn key)=some (true,false,s)):aY P B N:=
 .step key (av fn key) [.slice (some ⟨k,off,some 7⟩) n cc,vI n] [(j,none),(k,some x)] (.slice (some ⟨j,0,some 7⟩) 0 0) [(j,.view [])] (aRA ho hx j)
end
section
open V3 (dot ax cL smul)
def aVW:List (V3 K)->V3 K->List (V3 K)
 |[],v=>[v]
 |p::l,v=>if dY p v=0 then p::l else if 0<dY p v then v::p::l else p::aVW l v
theorem Qt(v:V3 K):∀ vs:List (V3 K),(∃(i:Nat) (p:V3 K),vs[i]?=some p/\dY p v=0/\(∀(j:Nat) (q:V3 K),j<i->vs[j]?=some q->dY q v<0)/\aVW vs v=vs)\/
  ∃ i:Nat,i<=vs.length/\(∀(j:Nat) (q:V3 K),j<i->vs[j]?=some q->dY q v<0)/\(i=vs.length\/∃ p,vs[i]?=some p/\0<dY p v)/\aVW vs v=vs.take i++[v]++vs.drop i
 |[]=>.inr ⟨0,bj _,λj q hj=>by omega,.inl rfl,rfl⟩
 |p::l=>by
  unfold aVW;by_cases h0:dY p v=0
  ·rw[aw h0];exact .inl ⟨0,p,rfl,h0,λj q hj=>by omega,rfl⟩
  ·rw[ao h0];by_cases h1:0<dY p v
   ·rw[aw h1];exact .inr ⟨0,kT _,λj q hj=>by omega,.inr ⟨p,rfl,h1⟩,rfl⟩
   ·rw[ao h1];have dp:∀{i:Nat} (H:∀(j:Nat) (q:V3 K),j<i->l[j]?=some q->dY q v<0) (j:Nat) (q:V3 K),j<i+1->(p::l)[j]?=some q->dY q v<0:=λ{i} H j q hj hq=>by
     cases j with
     |zero=>simp at hq;subst hq;omega
     |succ j=>exact H j q o_ (by simpa using hq)
    rcases Qt v l with ⟨i,q,q1,q2,q3,q4⟩|⟨i,q1,q2,q3,q4⟩
    ·exact .inl ⟨i+1,q,by simpa using q1,q2,dp q3,by rw[q4]⟩
    ·refine .inr ⟨i+1,by simpa using q1,dp q2,?_,by rw[q4];rfl⟩;rcases q3 with h|⟨q,h,h2⟩
     ·exact .inl (by rw[h];rfl)
     ·exact .inr ⟨q,by simpa using h,h2⟩
theorem aRC{a b:Int}{t:Bool}(h:decide (a=b)=t):Value.bool (a==b)=.bool t:=by
 by_cases e:a=b
 ·rw[aC e]at h;subst h;exact xW e
 ·rw[aN e]at h;subst h;exact pw e
theorem aRD{vs:List (V3 K)}{i:Nat}{p:V3 K}(h:vs[i]?=some p):du prog 33 (aL vs) (i*30)=some (bB p):=r6 (by rw[Ce,h];rfl)
theorem aE2(vs:List (V3 K))(i:Nat):(aL vs).drop (i*30)=aL (vs.drop i):=by unfold aL;rw[UJ ga,List.map_drop]
theorem Qu(vs:List (V3 K))(i:Nat):(aL vs).take (i*30)=aL (vs.take i):=by unfold aL;rw[UK ga,Co]
section
variable{Bs:aa}{vs:List (V3 K)}{v:V3 K}{m:Nat}
def yd(n i:Nat):aW:=[(5,vI i),(0,sl 0 n),(3,ptr 1)]
def ua(vs:List (V3 K))(v:V3 K):aH:=[(0,.view (aL vs)),(1,.aI (cD v).cs 33)]
noncomputable def WD{n i:Nat}{p:V3 K}{t:Bool}(hi:i<n)(hp:vs[i]?=some p)(sp:aD m p)(sv:aD m v)(hm:8*m+100<=aB)(ht:decide (dY p v=0)=t)(more:bA prog Bs 36):bA prog Bs 36:=
 .lt 10 i n true (aC hi)::.cY f102 13 0 n i 30 hi k_::.ld f102 14 33 0 (i*30) (.view (aL vs)) (bB p) rfl (aRD hp) k_::(aVY sp sv o_).at 16::.rw 18 _ (.bool t) (aRC ht)::more
theorem aE3{n i:Nat}{p:V3 K}(hi:i<n)(hp:vs[i]?=some p)(sp:aD m p)(sv:aD m v)(hm:8*m+100<=aB)(hb:dY p v<0)(h63:n<1000):
  ag prog Bs 36 (aF (af f102 0)) (yd n i) (ua vs v) 2 ⟨.normal,yd n (i+1),ua vs v,2⟩:=
 aA (WD hi hp sp sv hm (aN o_) [.rw 21 _ (.bool false) (Qo (z:=dY p v) (t:=false) (aC o_)),.sum 23 i 1 (i+1) rfl o_])
theorem aRE{n i:Nat}{p:V3 K}(hi:i<n)(hp:vs[i]?=some p)(sp:aD m p)(sv:aD m v)(hm:8*m+100<=aB)(hb:dY p v=0):
  ag prog Bs 36 (aF (af f102 0)) (yd n i) (ua vs v) 2 ⟨.ret,[(4,sl 0 n)],ua vs v,2⟩:=
 aA (WD hi hp sp sv hm (aC hb) [])
theorem aRF{n i:Nat}{p:V3 K}(hi:i<n)(hp:vs[i]?=some p)(sp:aD m p)(sv:aD m v)(hm:8*m+100<=aB)(hb:0<dY p v):
  ag prog Bs 36 (aF (af f102 0)) (yd n i) (ua vs v) 2 ⟨.exit 0,yd n i,ua vs v,2⟩:=
 aA (WD hi hp sp sv hm (aN o_) [.rw 21 _ (.bool true) (Qo (z:=dY p v) (t:=true) (aN o_))])
theorem aRG(hs:∀ p∈vs,aD m p)(sv:aD m v)(hm:8*m+100<=aB)(h63:vs.length<1000){i:Nat}(hi:i<=vs.length)(h1:∀(j:Nat) (q:V3 K),j<i->vs[j]?=some q->dY q v<0)(h2:i=vs.length\/∃ p,vs[i]?=some p/\0<dY p v):
  ag prog Bs 36 (.block 0 (af f102 0)) (yd vs.length 0) (ua vs v) 2 ⟨.normal,yd vs.length i,ua vs v,2⟩:=
 bT (id:=0) (cd i (yd vs.length) (λ_=>ua vs v) (λ_ _ _=>Iff.rfl) (r:=⟨.exit 0,yd vs.length i,ua vs v,2⟩) (λj hj=>by
  have hx:vs[j]?=some vs[j]:=bf o_;exact aE3 o_ hx (hs _ (dM _)) sv hm (h1 j _ hj hx) h63) (by
  rcases h2 with rfl|⟨p,h2,h3⟩
  ·exact aA [.lt 10 vs.length vs.length false s_]
  ·exact aRF (ew.1 h2).1 h2 (hs p (cQ h2)) sv hm h3) n_)
theorem aRH(hs:∀ p∈vs,aD m p)(sv:aD m v)(hm:8*m+100<=aB)(h63:vs.length<1000){i:Nat}{p:V3 K}(hp:vs[i]?=some p)(h0:dY p v=0)(h1:∀(j:Nat) (q:V3 K),j<i->vs[j]?=some q->dY q v<0){w:World}{va:Value}(fY:cK w va vs.length (aL vs)):
  Calls prog 102 #[va,bB v] w λe w'=>e=.returned va/\Below w.heap.size w w':=by
 have hl:∀ s∈[cA.row va vs.length (aL vs),cA.plain (bB v)],s.OK w:=by
  intro s hs;simp at hs;rcases hs with rfl|rfl
  ·exact⟨fY,bh.1 (dJ _)⟩
  ·rfl
 have ak:=(ew.1 hp).1;have lo:ag prog (aa.at w) 36 (.block 0 (af f102 0)) (yd vs.length 0) (ua vs v) 2 ⟨.ret,[(4,sl 0 vs.length)],ua vs v,2⟩:=
  bT (id:=0) (cd i (yd vs.length) (λ_=>ua vs v) (λ_ _ _=>Iff.rfl) (r:=⟨.ret,[(4,sl 0 vs.length)],ua vs v,2⟩) (λj hj=>by have hx:vs[j]?=some vs[j]:=bf o_;exact aE3 o_ hx (hs _ (dM _)) sv hm (h1 j _ hj hx) h63) (aRE ak hp (hs p (cQ hp)) sv hm h0) n_)
 refine lD (Q:=λe w'=>e=.returned va/\Below w.heap.size w w') mixed func102 [cA.row va vs.length (aL vs),cA.plain (bB v)] hl 100 (N:=36) k_
  (rs:=[(.code 0 _ _ _ _ _ lo:aY prog (aa.at w) 36)]) (v:=sl 0 vs.length) (ms:=[]) k_ λau bY v' w' jX bo _ df=>⟨?_,bo.base⟩
 cases df with
 |cons h5 _=>rw[Jo jX h5];rfl
end
section
variable{vs:List (V3 K)}{v:V3 K}{m:Nat}
noncomputable def WE(Bs:aa)(vs:List (V3 K))(v:V3 K)(i:Nat)(hi:i<=vs.length)(h63:vs.length<1000)(more:bA prog Bs 36):bA prog Bs 36:=
 .K3 f102 24 2 33 30 zV.v k_::.upto f102 27 0 vs.length i 30 hi k_::
 .Qs f102 28 3 2 0 i i 33 30 360 0 0 [] 0 (.view (aL vs)) (aL (vs.take i)) (jY i) rfl (by
   show((aL vs).drop 0 |>.take (i*30)).length=i*30;rw[l9,Qu,sk,jw,nX hi]) rfl (by
   show[]++(((aL vs).drop 0).take (i*30))=_;rw[l9,Qu];rfl) (KU vs) d_ (by simp[maxLen];omega) o_ k_::
 .bs f102 30 4 1 33 30 [0] zV.v [bB v] (aL [v]).toArray (.row (aL [v]) 33 30) rfl (bh.1 k_) (bh.1 (dJ _)) k_ k_ d_ d_ k_::
 .pa f102 31 5 3 i 1 (i+1) 33 30 360 (aL (vs.take i)) 4 (.row (aL [v]) 33 30) (aL (vs.take i++[v])) rfl rfl (sk _) (by rw[sk,jw,nX hi]) (UZ _ _) (KU _) d_ (by simp[maxLen];omega) o_ k_::more
theorem aRI(hs:∀ p∈vs,aD m p)(sv:aD m v)(hm:8*m+100<=aB)(h63:vs.length<1000){i:Nat}(hi:i<=vs.length)(h1:∀(j:Nat) (q:V3 K),j<i->vs[j]?=some q->dY q v<0)(h2:i=vs.length\/∃ p,vs[i]?=some p/\0<dY p v):
  lM prog 102 [uX vs,.p (bB v)] 33 30 (vs.length+1) (aL (vs.take i++[v]++vs.drop i)):=by
 have ay:([uX vs,aR.p (bB v)].all aR.ok)=true:=by simp only[dH,fp,iU];rw[show(uX vs).ok=true from dJ vs];rfl
 have lo:=λBs=>aRG (Bs:=Bs) hs sv hm h63 hi h1 h2;have hlen:(aL (vs.take i++[v]++vs.drop i)).length=(vs.length+1)*30:=by
  rw[sk];congr 1
  simp[jw];omega
 have fJ:(aL (vs.take i++[v])).length=(i+1)*30:=by
  rw[sk];congr 1
  simp[jw];omega
 rcases eF i vs.length with ak|dR
 ·refine zn (k:=6) mixed func102 ay 200 (N:=36) k_ (λw=>.code 0 _ _ _ _ _ (lo _)::WE _ vs v i hi h63 [.behind f102 34 0 vs.length i (vs.length-i) 30 o_ o_ k_,.Qs f102 35 6 5 (i+1) (vs.length-i) (vs.length+1) 33 30 360 (i*30) i (aL (vs.take i++[v])) 0 (.view (aL vs)) (aL (vs.take i++[v]++vs.drop i)) o_ rfl (by
    show(((aL vs).drop (i*30)).take ((vs.length-i)*30)).length=(vs.length-i)*30;rw[aE2,Qu,sk,jw,vl,Nat.min_self]) fJ (by
    show _++(((aL vs).drop (i*30)).take ((vs.length-i)*30))=_;rw[aE2,Qu,show(vs.drop i).take (vs.length-i)=vs.drop i from ki (by rw[vl];exact bj _),UZ]) (KU vs) d_ (by simp[maxLen];omega) o_ k_]) (λw=>k_) (dJ _) hlen
 ·have ct:i=vs.length:=by omega
  subst ct;have e:vs.take vs.length++[v]++vs.drop vs.length=vs.take vs.length++[v]:=by rw[List.drop_length,je]
  rw[e]at hlen ⊢;by_cases h0:vs.length=0
  ·refine zn (k:=6) mixed func102 ay 200 (N:=36) k_ (λw=>.code 0 _ _ _ _ _ (lo _)::WE _ vs v vs.length hi h63 [.rw 33 (vI vs.length) (vI 0) (by rw[h0]),.aRz f102 34 0 vs.length 30 k_,.Qs f102 35 6 5 (vs.length+1) vs.length (vs.length+1) 33 30 360 0 0 (aL (vs.take vs.length++[v])) 0 (.view (aL vs)) (aL (vs.take vs.length++[v])) o_ rfl (by
     show(((aL vs).drop 0).take (vs.length*30)).length=vs.length*30;rw[h0];rfl) fJ (by
     show _++(((aL vs).drop 0).take (vs.length*30))=_;rw[show((aL vs).drop 0).take (vs.length*30)=[]by rw[h0,lC,ZI]];exact je _) (KU vs) d_ (by simp[maxLen];omega) o_ k_]) (λw=>k_) (dJ _) hlen
  ·refine zn (k:=7) mixed func102 ay 200 (N:=36) k_ (λw=>.code 0 _ _ _ _ _ (lo _)::WE _ vs v vs.length hi h63 [.aRB f102 34 0 0 vs.length 0 30 6 (.view (aL vs)) rfl k_,.pa f102 35 7 5 (vs.length+1) 0 (vs.length+1) 33 30 360 (aL (vs.take vs.length++[v])) 6 (.view []) (aL (vs.take vs.length++[v])) rfl rfl rfl fJ (je _) n_ d_ (by simp[maxLen];omega) o_ k_]) (λw=>k_) (dJ _) hlen
end
def eh(ps:List (HS K))(i:Nat):HS K:=match ps[i]? with|some p=>p|none=>⟨0,0⟩
theorem pC{ps:List (HS K)}{i:Nat}{p:HS K}(h:ps[i]?=some p):eh ps i=p:=by unfold eh;rw[h]
def IB(i j k:Nat)(x:V3 K)(l:Nat)(p:HS K):Bool:=decide (l=i)||(decide (l=j)||(decide (l=k)||decide (OF.az (dot p.n x-p.d)<=0)))
def An(ps:List (HS K))(i j k:Nat)(x:V3 K):Bool:=(List.range ps.length).all λl=>IB i j k x l (eh ps l)
def ub(ps:List (HS K))(acc:List (V3 K))(i j k:Nat):List (V3 K):=
 if cL (eh ps i).n (eh ps j).n (eh ps k).n=0 then acc else if An ps i j k (kQ (eh ps i) (eh ps j) (eh ps k))then aVW acc (kQ (eh ps i) (eh ps j) (eh ps k))else acc
theorem aRJ{Bs:aa}{vs:List (V3 K)}{v:V3 K}{m:Nat}(hs:∀ p∈vs,aD m p)(sv:aD m v)(hm:8*m+100<=aB)(h63:vs.length<1000){i:Nat}{p:V3 K}(hp:vs[i]?=some p)(h0:dY p v=0)(h1:∀(j:Nat) (q:V3 K),j<i->vs[j]?=some q->dY q v<0)
  {o:Oper} {y:Operand} (ho:dw o.op=some y) (k:Nat):cB prog Bs o [.func (.func 102) #[] #[],sl k vs.length,bB v] [(k,some (.row (aL vs) 33 30))] (sl k vs.length) []:=by
 refine jB (fi:=[]) (ca:=[]) ho k_ λι c w bo hn args' bd=>?_;rw[jo,je]at bd;obtain⟨va,vb,rfl,hv,iu⟩:=jx bd;rw[iu.eU rfl];have hk:c k=some _:=hn _ (aV ..);have hr:=oD (len:=vs.length*30) bo hk rfl (bh.1 (dJ vs)) (λh=>by rw[h]) hv;have e:(((Obj.row (aL vs) 33 30).cells.drop 0).take (vs.length*30))=aL vs:=by show((aL vs).drop 0).take (vs.length*30)=_;rw[l9,ki (by rw[sk];exact bj _)]
 rw[e]at hr;refine(aRH hs sv hm h63 hp h0 h1 hr).mono ?_
 rintro e w' ⟨rfl,hb⟩
 exact⟨ι,_,rfl,Map.le.refl _,hv,bo.call hb⟩
section
variable{Bs:aa}{ps:List (HS K)}{m:Nat}
def IC(n i j k l:Nat)(f:Bool):aW:=[(10,vI l),(9,.bool f),(0,sl 0 n),(4,vI i),(5,vI j),(6,vI k),(7,ptr 4)]
def Ao(ps:List (HS K))(x:V3 K):aH:=[(0,.view (aK ps)),(4,.aI (cD x).cs 33)]
theorem aE4{i j k l:Nat}{p:HS K}{x:V3 K}{t:Bool}(hl:l<ps.length)(hp:ps[l]?=some p)(sp:bt m p)(sx:aD m x)(pn:p.n≠0)(hm:100*m+1000<=aB)(ht:IB i j k x l p=t)(h63:ps.length<1000):
  ag prog Bs 81 (aF (af f60 6)) (IC ps.length i j k l true) (Ao ps x) 5 ⟨.normal,IC ps.length i j k (l+1) t,Ao ps x,5⟩:=by
 unfold IB at ht;have sd:=aVm sp sx o_ pn;by_cases h1:l=i
 ·rw[aC h1,Gz]at ht;subst ht;exact aA [.lt 48 l ps.length true (aC hl),.fk 56 l i true (aC h1),.sum 53 l 1 (l+1) rfl o_]
 rw[aN h1,yP]at ht;by_cases h2:l=j
 ·rw[aC h2,Gz]at ht;subst ht;exact aA [.lt 48 l ps.length true (aC hl),.fk 56 l i false (aN h1),.fk 60 l j true (aC h2),.sum 53 l 1 (l+1) rfl o_]
 rw[aN h2,yP]at ht;by_cases h3:l=k
 ·rw[aC h3,Gz]at ht;subst ht;exact aA [.lt 48 l ps.length true (aC hl),.fk 56 l i false (aN h1),.fk 60 l j false (aN h2),.fk 65 l k true (aC h3),.sum 53 l 1 (l+1) rfl o_]
 rw[aN h3,yP]at ht;exact aA [.lt 48 l ps.length true (aC hl),.fk 56 l i false (aN h1),.fk 60 l j false (aN h2),.fk 65 l k false (aN h3),.cY f60 70 0 ps.length l 40 hl k_,.ld f60 71 35 0 (l*40) (.view (aK ps)) (cC p) rfl (Qn hp) k_,sd.at 73,.rw 74 (.bool (decide (OF.az (dot p.n x-p.d)<=0))) (.bool t) (by rw[ht]),.sum 53 l 1 (l+1) rfl o_]
theorem aRK{i j k l:Nat}{x:V3 K}:ag prog Bs 81 (aF (af f60 6)) (IC ps.length i j k l false) (Ao ps x) 5 ⟨.exit 6,[(9,.bool false)],Ao ps x,5⟩:=by
 by_cases h:l<ps.length
 ·exact aA [.lt 48 l ps.length true (aC h)]
 ·exact aA [.lt 48 l ps.length false (aN h)]
theorem aRL{i j k:Nat}{x:V3 K}(hs:∀ p∈ps,bt m p/\p.n≠0)(sx:aD m x)(hm:100*m+1000<=aB)(h63:ps.length<1000):
  ag prog Bs 81 (.block 6 (af f60 6)) (IC ps.length i j k 0 true) (Ao ps x) 5 ⟨.normal,[(9,.bool (An ps i j k x))],Ao ps x,5⟩:=by
 unfold An;rcases Iy (λl=>IB i j k x l (eh ps l)) ps.length with h|⟨n,hn,h2,h3,h4⟩
 ·rw[h];exact bT (id:=6) (cd ps.length (λl=>IC ps.length i j k l true) (λ_=>Ao ps x) (λ_ _ _=>Iff.rfl) (r:=⟨.exit 6,[(9,.bool true)],Ao ps x,5⟩) (λl hl=>by have hx:ps[l]?=some ps[l]:=bf hl;have:=Iz h hl;rw[pC hx]at this;exact aE4 hl hx (hs _ (dM hl)).1 sx (hs _ (dM hl)).2 hm this h63) (aA [.lt 48 ps.length ps.length false s_]) n_)
 ·rw[h4];exact bT (id:=6) (cd (n+1) (λl=>IC ps.length i j k l (decide (l<=n))) (λ_=>Ao ps x) (λ_ _ _=>Iff.rfl) (r:=⟨.exit 6,[(9,.bool false)],Ao ps x,5⟩) (λl hl=>by
   have mT:l<ps.length:=by omega
   have hx:ps[l]?=some ps[l]:=bf mT;simp only[aC (show l<=n by omega)];refine aE4 mT hx (hs _ (dM mT)).1 sx (hs _ (dM mT)).2 hm ?_ h63;by_cases he:l=n
   ·subst he;rw[pC hx]at h2;rw[h2];exact(aN o_).symm
   ·have:=h3 l o_;rw[pC hx]at this;rw[this];exact(aC o_).symm) (by
   simp only[aN (show ¬n+1<=n by omega)];exact aRK) n_)
def LC(n i j k L:Nat):aW:=[(6,vI k),(5,vI j),(4,vI i),(0,sl 0 n),(3,sl 3 L)]
def ox(ps:List (HS K)):aH:=[(0,.view (aK ps))]
def oy(acc:List (V3 K)):List Obj:=[.row (aL acc) 33 30]
noncomputable def Qv{i j k:Nat}{p q r:HS K}(hi:i<ps.length)(hj:j<i)(hk:k<j)(hp:ps[i]?=some p)(hq:ps[j]?=some q)(hr:ps[k]?=some r)(sp:bt m p)(sq:bt m q)(sr:bt m r)(pn:p.n≠0)(qn:q.n≠0)(rn:r.n≠0)(hm:200*m+1000<=aB){u:Value}
  (hu:(if cL p.n q.n r.n=0 then Value.tuple #[zV.v,.int .i64 11]else .tuple #[bB (kQ p q r),.int .i64 0])=u) (more:bA prog Bs 81):bA prog Bs 81:=
 .lt 24 k j true (aC hk)::.cY f60 30 0 ps.length i 40 hi k_::.ld f60 31 35 0 (i*40) (.view (aK ps)) (cC p) rfl (Qn hp) k_::.cY f60 34 0 ps.length j 40 o_ k_::.ld f60 35 35 0 (j*40) (.view (aK ps)) (cC q) rfl (Qn hq) k_::
 .cY f60 38 0 ps.length k 40 o_ k_::.ld f60 39 35 0 (k*40) (.view (aK ps)) (cC r) rfl (Qn hr) k_::(hu▸aP2 sp sq sr hm pn qn rn:aE prog 101 [cC p,cC q,cC r] u).at 40::more
theorem aRM{i j k M:Nat}{acc:List (V3 K)}(hs:∀ p∈ps,bt m p/\p.n≠0)(hm:200*m+1000<=aB)(hM:120*m+365<=M)(Ap:100*M+1000<=aB)(ha:∀ v∈acc,aD M v)(hL:acc.length<1000)(hi:i<ps.length)(hj:j<i)(hk:k<j)(h63:ps.length<1000):
  ∃ σ hZ,(∀ BO:List (V3 K),CL (ox ps++dT [some 2] (oy BO)) 3 σ (LC ps.length i j (k+1) (ub ps acc i j k).length) (ox ps) (oy (ub ps acc i j k))=true)/\
   ag prog Bs 81 (aF (af f60 4)) (LC ps.length i j k acc.length) (ox ps++marks 3 (oy acc)) 4 ⟨.normal,gQ 3 σ (LC ps.length i j (k+1) (ub ps acc i j k).length),ox ps++dT σ (oy (ub ps acc i j k)),hZ⟩:=by
 have hp:ps[i]?=some ps[i]:=bf hi;have hq:ps[j]?=some ps[j]:=bf o_;have hr:ps[k]?=some ps[k]:=bf o_;obtain⟨sp,pn⟩:=hs _ (dM hi);obtain⟨sq,qn⟩:=hs _ (dM (show j<ps.length by omega));obtain⟨sr,rn⟩:=hs _ (dM (show k<ps.length by omega));unfold ub;rw[pC hp,pC hq,pC hr];generalize ps[i]=p at *;generalize ps[j]=q at *;generalize ps[k]=r at *;by_cases hd:cL p.n q.n r.n=0
 ·rw[aw hd];refine⟨[some 3],5,λBO=>k_,?_⟩;exact fj mixed 200 (Qv hi hj hk hp hq hr sp sq sr pn qn rn hm (aw hd) [.sum 26 k 1 (k+1) rfl o_]) k_
 ·rw[ao hd];have sx:aD M (kQ p q r):=(aD.kQ sp sq sr hd).mono hM;have mM:m<=M:=by clear hm Ap;omega
  have o6:∀ p∈ps,bt M p/\p.n≠0:=λt ht=>⟨(hs t ht).1.mono mM,(hs t ht).2⟩;have lo:=aRL (Bs:=Bs) (i:=i) (j:=j) (k:=k) o6 sx Ap h63;generalize kQ p q r=x at *;by_cases hb:An ps i j k x=true
  ·rw[aw hb];rw[hb]at lo;rcases Qt x acc with ⟨t,y,h1,h2,h3,h4⟩|⟨t,h1,h2,h3,h4⟩
   ·rw[h4];refine⟨[some 3],5,λBO=>k_,?_⟩;exact fj mixed 200 (Qv hi hj hk hp hq hr sp sq sr pn qn rn hm (ao hd) [.code 6 _ _ _ _ _ lo,.step 79 (av f60 79) [.func (.func 102) #[] #[],sl 3 acc.length,bB x] [(3,some (.row (aL acc) 33 30))] (sl 3 acc.length) [] (aRJ ha sx (by clear hm;omega) hL h1 h2 h3 (y:=.func 102) k_ 3),.sum 26 k 1 (k+1) rfl o_]) k_
   ·have hlen:(aVW acc x).length=acc.length+1:=by rw[h4];simp only[iZ,jw,vl,zC];omega
    have hc:=aRI ha sx (by clear hm;omega) hL h1 h2 h3;rw[<-h4]at hc;rw[hlen];generalize aVW acc x=aE5 at *;refine⟨[some 5],6,λBO=>k_,?_⟩;exact fj mixed 200 (Qv hi hj hk hp hq hr sp sq sr pn qn rn hm (ao hd) [.code 6 _ _ _ _ _ lo,.step 79 (av f60 79) [.func (.func 102) #[] #[],sl 3 acc.length,bB x] [(5,none),(3,some (.row (aL acc) 33 30))] (sl 5 (acc.length+1)) [(5,.row (aL aE5) 33 30)]
      (qI hc (.w (x:=.row (aL acc) 33 30) rfl (dJ acc) vV (.p k_ .nil)) (x:=.func 102) k_ k_ (dJ aE5) 5),
     .sum 26 k 1 (k+1) rfl o_]) k_
  ·have jz:An ps i j k x=false:=by cases h:An ps i j k x<;>first|rfl|exact absurd h hb
   rw[ao hb];rw[jz]at lo;refine⟨[some 3],5,λBO=>k_,?_⟩;exact fj mixed 200 (Qv hi hj hk hp hq hr sp sq sr pn qn rn hm (ao hd) [.code 6 _ _ _ _ _ lo,.sum 26 k 1 (k+1) rfl o_]) k_
end
def oV(ps:List (HS K))(acc:List (V3 K))(i j:Nat):Nat->List (V3 K)
 |0=>acc
 |k+1=>ub ps (oV ps acc i j k) i j k
def nP(ps:List (HS K))(acc:List (V3 K))(i:Nat):Nat->List (V3 K)
 |0=>acc
 |j+1=>oV ps (nP ps acc i j) i j j
def rf(ps:List (HS K)):Nat->List (V3 K)
 |0=>[]
 |i+1=>nP ps (rf ps i) i i
def eT(ps:List (HS K)):List (V3 K):=rf ps ps.length
theorem aRN{v x:V3 K}:∀{vs:List (V3 K)},x∈aVW vs v->x∈vs\/x=v:=λ{vs} h=>by
 rcases Qt v vs with ⟨_,_,_,_,_,h4⟩|⟨t,_,_,_,h4⟩
 ·rw[h4]at h;exact .inl h
 ·rw[h4]at h;simp only[ee,Um]at h;rcases h with (h|h)|h
  ·exact .inl (FD h)
  ·exact .inr h
  ·exact .inl (Wt h)
theorem aRO(v:V3 K)(vs:List (V3 K)):(aVW vs v).length<=vs.length+1:=by
 rcases Qt v vs with ⟨_,_,_,_,_,h4⟩|⟨t,_,_,_,h4⟩
 ·rw[h4];omega
 ·rw[h4];simp only[iZ,jw,vl,zC];omega
theorem aRP(ps:List (HS K))(acc:List (V3 K))(i j k:Nat):(ub ps acc i j k).length<=acc.length+1:=by
 unfold ub;by_cases h:cL (eh ps i).n (eh ps j).n (eh ps k).n=0
 ·rw[aw h];omega
 ·rw[ao h];split
  ·exact aRO _ _
  ·omega
theorem WG{ps:List (HS K)}{m:Nat}(hs:∀ p∈ps,bt m p/\p.n≠0){i:Nat}(hi:i<ps.length):bt m (eh ps i):=by rw[pC (bf hi)];exact(hs _ (dM hi)).1
theorem aRQ{ps:List (HS K)}{m M:Nat}(hs:∀ p∈ps,bt m p/\p.n≠0)(hM:120*m+365<=M){acc:List (V3 K)}(ha:∀ v∈acc,aD M v){i j k:Nat}(hi:i<ps.length)(hj:j<ps.length)(hk:k<ps.length):∀ v∈ub ps acc i j k,aD M v:=by
 unfold ub;by_cases h:cL (eh ps i).n (eh ps j).n (eh ps k).n=0
 ·rw[aw h];exact ha
 ·rw[ao h];split
  ·intro v hv;rcases aRN hv with hv|hv
   ·exact ha v hv
   ·rw[hv];exact(aD.kQ (WG hs hi) (WG hs hj) (WG hs hk) h).mono hM
  ·exact ha
section
variable{ps:List (HS K)}{m M:Nat}
theorem WH(hs:∀ p∈ps,bt m p/\p.n≠0)(hM:120*m+365<=M){acc:List (V3 K)}(ha:∀ v∈acc,aD M v){i j:Nat}(hi:i<ps.length)(hj:j<i):∀ k,k<=j->(∀ v∈oV ps acc i j k,aD M v)/\(oV ps acc i j k).length<=acc.length+k
 |0,_=>⟨ha,bj _⟩
 |k+1,h=>by obtain⟨h1,h2⟩:=WH hs hM ha hi hj k o_;have:=aRP ps (oV ps acc i j k) i j k;exact⟨aRQ hs hM h1 hi o_ o_,by unfold oV;omega⟩
theorem WI(hs:∀ p∈ps,bt m p/\p.n≠0)(hM:120*m+365<=M)(h9:ps.length<=9){acc:List (V3 K)}(ha:∀ v∈acc,aD M v){i:Nat}(hi:i<ps.length):∀ j,j<=i->(∀ v∈nP ps acc i j,aD M v)/\(nP ps acc i j).length<=acc.length+9*j
 |0,_=>⟨ha,bj _⟩
 |j+1,h=>by obtain⟨h1,h2⟩:=WI hs hM h9 ha hi j o_;obtain⟨h3,h4⟩:=WH hs hM h1 hi (show j<i by omega) j (bj _);exact⟨h3,by unfold nP;omega⟩
theorem WJ(hs:∀ p∈ps,bt m p/\p.n≠0)(hM:120*m+365<=M)(h9:ps.length<=9):∀ i,i<=ps.length->(∀ v∈rf ps i,aD M v)/\(rf ps i).length<=81*i
 |0,_=>⟨λv hv=>(by cases hv),bj _⟩
 |i+1,h=>by obtain⟨h1,h2⟩:=WJ hs hM h9 i o_;obtain⟨h3,h4⟩:=WI hs hM h9 h1 (show i<ps.length by omega) i (bj _);exact⟨h3,by unfold rf;omega⟩
theorem WK{m:Nat}:∀ x∈ox ps,fN m x.2:=λx hx=>by simp only[ox,cx,jg,jh]at hx;subst hx;exact λv hv=>iI (bh.1 (cU ps) v hv)
theorem WL{m:Nat}{acc:List (V3 K)}:∀ x∈oy acc,fN m x:=λx hx=>by simp only[oy,cx,jg,jh]at hx;subst hx;exact λv hv=>iI (bh.1 (dJ acc) v hv)
variable{Bs:aa}
theorem aRR{i j:Nat}{acc:List (V3 K)}(hs:∀ p∈ps,bt m p/\p.n≠0)(hm:200*m+1000<=aB)(hM:120*m+365<=M)(Ap:100*M+1000<=aB)(ha:∀ v∈acc,aD M v)(hi:i<ps.length)(hj:j<i)(h9:ps.length<=9)(hL:acc.length+j<1000):
  ag prog Bs 81 (.block 4 (af f60 4)) (gQ 3 [some 2] (LC ps.length i j 0 acc.length)) (ox ps++dT [some 2] (oy acc)) 3 ⟨.normal,[(3,sl 3 (oV ps acc i j j).length)],ox ps++marks 3 (oy (oV ps acc i j j)),4⟩:=by
 have:=rQ (P:=prog) (B:=Bs) (N:=81) (b:=aF (af f60 4)) (next:=3) (p:=1) (r:=⟨.exit 4,[(3,sl 3 (oV ps acc i j j).length)],ox ps++marks 3 (oy (oV ps acc i j j)),4⟩) j
  (λk=>LC ps.length i j k (oV ps acc i j k).length) (λ_=>ox ps) (λk=>oy (oV ps acc i j k)) [some 2] (λ_ _=>rfl) (λ_ _=>⟨WK,WL⟩) k_ k_
  (λk hk=>by obtain⟨h1,h2⟩:=WH hs hM ha hi hj k o_;obtain⟨σ,hZ,e1,e2⟩:=aRM (Bs:=Bs) hs hm hM Ap h1 o_ hi hj hk o_;exact⟨σ,hZ,e1 _,e2⟩)
  (by generalize oV ps acc i j j=a;exact aA [.lt 24 j j false s_]) n_
 exact bT (id:=4) this
def WM(n i j L:Nat):aW:=[(5,vI j),(4,vI i),(0,sl 0 n),(3,sl 2 L)]
theorem aRS{i:Nat}{acc:List (V3 K)}(hs:∀ p∈ps,bt m p/\p.n≠0)(hm:200*m+1000<=aB)(hM:120*m+365<=M)(Ap:100*M+1000<=aB)(ha:∀ v∈acc,aD M v)(hi:i<ps.length)(h9:ps.length<=9)(hL:acc.length+9*i<1000):
  ag prog Bs 81 (.block 2 (af f60 2)) (gQ 2 [some 1] (WM ps.length i 0 acc.length)) (ox ps++dT [some 1] (oy acc)) 2 ⟨.normal,[(3,sl 2 (nP ps acc i i).length)],ox ps++marks 2 (oy (nP ps acc i i)),3⟩:=by
 have:=rQ (P:=prog) (B:=Bs) (N:=81) (b:=aF (af f60 2)) (next:=2) (p:=1) (r:=⟨.exit 2,[(3,sl 2 (nP ps acc i i).length)],ox ps++marks 2 (oy (nP ps acc i i)),3⟩) i
  (λj=>WM ps.length i j (nP ps acc i j).length) (λ_=>ox ps) (λj=>oy (nP ps acc i j)) [some 1] (λ_ _=>rfl) (λ_ _=>⟨WK,WL⟩) k_ k_
  (λj hj=>by obtain⟨h1,h2⟩:=WI hs hM h9 ha hi j o_;have lo:=aRR (Bs:=Bs) hs hm hM Ap h1 hi hj h9 o_;refine⟨[some 3],4,k_,?_⟩;show ag _ _ _ _ _ _ _ ⟨.normal,gQ 2 [some 3] (WM ps.length i (j+1) (oV ps (nP ps acc i j) i j j).length),ox ps++dT [some 3] (oy (oV ps (nP ps acc i j) i j j)),4⟩;generalize nP ps acc i j=a at *;generalize oV ps a i j j=b at *;exact aA [.lt 19 j i true (aC hj),.code 4 _ _ _ _ _ lo,.sum 21 j 1 (j+1) rfl o_])
  (by generalize nP ps acc i i=a;exact aA [.lt 19 i i false s_]) n_
 exact bT (id:=2) this
def WN(n i L:Nat):aW:=[(4,vI i),(0,sl 0 n),(3,sl 1 L)]
theorem aRT(hs:∀ p∈ps,bt m p/\p.n≠0)(hm:200*m+1000<=aB)(hM:120*m+365<=M)(Ap:100*M+1000<=aB)(h9:ps.length<=9):
  ag prog Bs 81 (.block 0 (af f60 0)) (gQ 1 [none] (WN ps.length 0 0)) (ox ps++dT [none] (oy [])) 1 ⟨.normal,[(3,sl 1 (eT ps).length)],ox ps++marks 1 (oy (eT ps)),2⟩:=by
 have:=rQ (P:=prog) (B:=Bs) (N:=81) (b:=aF (af f60 0)) (next:=1) (p:=1) (r:=⟨.exit 0,[(3,sl 1 (rf ps ps.length).length)],ox ps++marks 1 (oy (rf ps ps.length)),2⟩) ps.length
  (λi=>WN ps.length i (rf ps i).length) (λ_=>ox ps) (λi=>oy (rf ps i)) [none] (λ_ _=>rfl) (λ_ _=>⟨WK,WL⟩) k_ k_
  (λi hi=>by obtain⟨h1,h2⟩:=WJ hs hM h9 i o_;have lo:=aRS (Bs:=Bs) hs hm hM Ap h1 hi h9 o_;refine⟨[some 2],3,k_,?_⟩;show ag _ _ _ _ _ _ _ ⟨.normal,gQ 1 [some 2] (WN ps.length (i+1) (nP ps (rf ps i) i i).length),ox ps++dT [some 2] (oy (nP ps (rf ps i) i i)),3⟩;generalize rf ps i=a at *;generalize nP ps a i i=b at *;exact aA [.lt 14 i ps.length true (aC hi),.code 2 _ _ _ _ _ lo,.sum 16 i 1 (i+1) rfl o_])
  (by generalize rf ps ps.length=a;exact aA [.lt 14 ps.length ps.length false s_]) n_
 exact bT (id:=0) this
theorem aRU(hs:∀ p∈ps,bt m p/\p.n≠0)(hm:200*m+1000<=aB)(hM:120*m+365<=M)(Ap:100*M+1000<=aB)(h9:ps.length<=9):lM prog 60 [fC ps] 33 30 (eT ps).length (aL (eT ps)):=by
 have ay:([fC ps].all aR.ok)=true:=by simp only[dH,fp,fC,aR.ok,cU,iU]
 have lo:=λBs=>aRT (Bs:=Bs) hs hm hM Ap h9;generalize eT ps=c at *;exact zn (k:=1) mixed func60 ay 100 (N:=81) k_ (λ_=>[.code 0 _ _ _ _ _ (lo _)]) (λ_=>k_) (dJ c) (sk c)
end
def Qw(g:V3 K)(vs:List (V3 K))(o a b:Nat):Int:=OF.az (cL g (aJ vs a-aJ vs o) (aJ vs b-aJ vs o))
def B5(g:V3 K)(vs:List (V3 K))(o a:Nat)(b:Nat):Bool:=decide (Qw g vs o a b=0)
section
variable{Bs:aa}{vs:List (V3 K)}{p:HS K}{o a:Nat}{l:List Nat}{m:Nat}
def Gd(n r i:Nat):aW:=[(7,vI (i+2)),(1,sl 0 n),(2,sl 1 r),(3,ptr 2)]
def wx(vs:List (V3 K))(p:HS K)(on:List Nat):aH:=[(0,.view (aL vs)),(1,.view (ai on)),(2,.aI (cH p).cs 35)]
theorem neB{z:Int}{t:Bool}(h:decide (z=0)=!t):Value.bool (z !=0)=.bool t:=by
 congr 1
 cases t
 ·have:=kH h;subst this;rfl
 ·have:=Hh h;exact uC.2 this
theorem j8(hs:∀ v∈vs,aD m v){i:Nat}(hi:i<vs.length):aD m (aJ vs i):=hs _ (cQ (jV hi))
noncomputable def flS{i b:Nat}{t:Bool}(hb:l[i]?=some b)(hn:aD m p.n)(hs:∀ v∈vs,aD m v)(ho:o<vs.length)(ha:a<vs.length)(sI:b<vs.length)(hm:200*m+400<=aB)(ht:B5 p.n vs o a b=!t)(more:bA prog Bs 37):bA prog Bs 37:=
 .lt 11 (i+2) (l.length+2) true (aC (by have:=(ew.1 hb).1;omega))::.ix f143 18 1 (l.length+2) 0 o_ k_::.ld f143 19 3 1 0 (.view (ai (o::a::l))) (vI o) rfl (dO (l:=o::a::l) (i:=0) rfl) k_::
 .cY f143 20 0 vs.length o 30 ho k_::.ld f143 21 33 0 (o*30) (.view (aL vs)) (bB (aJ vs o)) rfl (lf (jV ho)) k_::.ix f143 24 1 (l.length+2) 1 o_ k_::.ld f143 25 3 1 1 (.view (ai (o::a::l))) (vI a) rfl (dO (l:=o::a::l) (i:=1) rfl) k_::
 .cY f143 26 0 vs.length a 30 ha k_::.ld f143 27 33 0 (a*30) (.view (aL vs)) (bB (aJ vs a)) rfl (lf (jV ha)) k_::.ix f143 31 1 (l.length+2) (i+2) (by have:=(ew.1 hb).1;omega) k_::
 .ld f143 32 3 1 (i+2) (.view (ai (o::a::l))) (vI b) rfl (dO (l:=o::a::l) (i:=i+2) hb) k_::.cY f143 33 0 vs.length b 30 sI k_::.ld f143 34 33 0 (b*30) (.view (aL vs)) (bB (aJ vs b)) rfl (lf (jV sI)) k_::
 (aDN hn (j8 hs ho) (j8 hs ha) (j8 hs sI) hm).at 35::.rw 36 _ (.bool t) (neB ht)::more
theorem aE6{i b:Nat}(hb:l[i]?=some b)(hn:aD m p.n)(hs:∀ v∈vs,aD m v)(ho:o<vs.length)(ha:a<vs.length)(sI:b<vs.length)(hm:200*m+400<=aB)(ht:B5 p.n vs o a b=true)(h63:l.length<900000):
  ag prog Bs 37 (aF (af f143 0)) (Gd vs.length (l.length+2) i) (wx vs p (o::a::l)) 3 ⟨.normal,Gd vs.length (l.length+2) (i+1),wx vs p (o::a::l),3⟩:=by
 have hi:=(ew.1 hb).1;exact fj mixed 200 (flS (t:=false) hb hn hs ho ha sI hm ht [.sum 13 (i+2) 1 (i+1+2) o_ o_]) k_
theorem aRV{i b:Nat}(hb:l[i]?=some b)(hn:aD m p.n)(hs:∀ v∈vs,aD m v)(ho:o<vs.length)(ha:a<vs.length)(sI:b<vs.length)(hm:200*m+400<=aB)(ht:B5 p.n vs o a b=false):
  ag prog Bs 37 (aF (af f143 0)) (Gd vs.length (l.length+2) i) (wx vs p (o::a::l)) 3 ⟨.ret,[(6,.bool false)],wx vs p (o::a::l),3⟩:=
 fj mixed 200 (flS (t:=true) hb hn hs ho ha sI hm ht []) k_
theorem aRW(hn:aD m p.n)(hs:∀ v∈vs,aD m v)(gJ:∀ x∈o::a::l,x<vs.length)(hm:200*m+400<=aB)(h63:l.length<900000):cy prog 143 [.p (cC p),.r vs.length (aL vs),.r (l.length+2) (ai (o::a::l))] (.bool (l.all (B5 p.n vs o a))):=by
 have ay:([aR.p (cC p),.r vs.length (aL vs),.r (l.length+2) (ai (o::a::l))].all aR.ok)=true:=by simp only[dH,fp,aR.ok,iU];rw[show(aL vs).all flat=true from dJ vs,show(ai (o::a::l)).all flat=true from gU _];rfl
 have ho:=gJ o (aV ..);have ha:=gJ a (bF _ (aV ..));have hl:∀{i b:Nat},l[i]?=some b->b<vs.length:=λh=>gJ _ (bF _ (bF _ (cQ h)));rcases B0 (B5 p.n vs o a) l with h|⟨n,x,h1,h2,h3,h4⟩
 ·rw[h];have lo:∀ B:aa,ag prog B 37 (.block 0 (af f143 0)) (Gd vs.length (l.length+2) 0) (wx vs p (o::a::l)) 3 ⟨.normal,[],wx vs p (o::a::l),3⟩:=λB=>
   bT (id:=0) (cd l.length (λi=>Gd vs.length (l.length+2) i) (λ_=>wx vs p (o::a::l)) (λi k _=>Iff.rfl) (r:=⟨.exit 0,[],wx vs p (o::a::l),3⟩) (λi hi=>by have hx:l[i]?=some l[i]:=bf hi;exact aE6 hx hn hs ho ha (hl hx) hm (DY h hx) h63) (aA [.lt 11 (l.length+2) (l.length+2) false s_]) n_)
  exact dW func143 ay 37 (λw=>[.code 0 _ _ _ _ _ (lo _)])
 ·rw[h4];have lo:∀ B:aa,ag prog B 37 (.block 0 (af f143 0)) (Gd vs.length (l.length+2) 0) (wx vs p (o::a::l)) 3 ⟨.ret,[(6,.bool false)],wx vs p (o::a::l),3⟩:=λB=>
   bT (id:=0) (cd n (λi=>Gd vs.length (l.length+2) i) (λ_=>wx vs p (o::a::l)) (λi k _=>Iff.rfl) (r:=⟨.ret,[(6,.bool false)],wx vs p (o::a::l),3⟩) (λi hi=>by have ak:=(ew.1 h1).1;have hx:l[i]?=some l[i]:=bf o_;exact aE6 hx hn hs ho ha (hl hx) hm (h3 i _ hi hx) h63) (aRV h1 hn hs ho ha (hl h1) hm h2) n_)
  exact dW func143 ay 37 (λw=>[.code 0 _ _ _ _ _ (lo _)])
end
def LD(vs:List (V3 K))(i k j:Nat):Bool:=decide (OF.az (dot (ax (aJ vs (i+1)-aJ vs 0) (aJ vs (k+1)-aJ vs 0)) (aJ vs (j+1)-aJ vs 0))=0)
def Ge(vs:List (V3 K))(i k:Nat):Bool:=(List.range k).all (LD vs i k)
def D0(vs:List (V3 K))(i:Nat):Bool:=(List.range i).all (Ge vs i)
def vf(vs:List (V3 K)):Bool:=(List.range (vs.length-1)).all (D0 vs)
section
variable{Bs:aa}{vs:List (V3 K)}{m:Nat}
def WO(n i k j:Nat):aW:=[(7,vI (j+1)),(5,vI (k+1)),(0,sl 0 n),(6,ptr 2)]
def sjM(vs:List (V3 K))(a c:V3 K):aH:=[(0,.view (aL vs)),(1,.aI (cD a).cs 33),(2,.aI (cD c).cs 33)]
noncomputable def WQ{i k j:Nat}{t:Bool}(hs:∀ v∈vs,aD m v)(hi:i+1<vs.length)(hk:k<i)(hj:j<k)(hm:300*m+1000<=aB)(ht:LD vs i k j=!t)(more:bA prog Bs 54):bA prog Bs 54:=
 .lt 39 (j+1) (k+1) true (aC o_)::.cY f61 45 0 vs.length (j+1) 30 o_ k_::.ld f61 46 33 0 ((j+1)*30) (.view (aL vs)) (bB (aJ vs (j+1))) rfl (lf (jV o_)) k_::
 .cY f61 48 0 vs.length 0 30 o_ k_::.ld f61 49 33 0 (0*30) (.view (aL vs)) (bB (aJ vs 0)) rfl (lf (jV o_)) k_::
 (aVy (j8 hs (show j+1<vs.length by omega)) (j8 hs (show 0<vs.length by omega)) o_).at 50::
 (aWa (((j8 hs hi).sub (j8 hs (show 0<vs.length by omega))).ax ((j8 hs (show k+1<vs.length by omega)).sub (j8 hs (show 0<vs.length by omega)))) ((j8 hs (show j+1<vs.length by omega)).sub (j8 hs (show 0<vs.length by omega))) o_).at 51::
 (aVA ((((j8 hs hi).sub (j8 hs (show 0<vs.length by omega))).ax ((j8 hs (show k+1<vs.length by omega)).sub (j8 hs (show 0<vs.length by omega)))).dot ((j8 hs (show j+1<vs.length by omega)).sub (j8 hs (show 0<vs.length by omega)))) o_).at 52::
 .rw 53 _ (.bool t) (neB ht)::more
def Gf(vs:List (V3 K))(i k:Nat):aH:=sjM vs (aJ vs (i+1)-aJ vs 0) (ax (aJ vs (i+1)-aJ vs 0) (aJ vs (k+1)-aJ vs 0))
theorem aE7{i k:Nat}(hs:∀ v∈vs,aD m v)(hi:i+1<vs.length)(hk:k<i)(hm:300*m+1000<=aB)(h63:vs.length<900000):
  ag prog Bs 54 (.block 4 (af f61 4)) (WO vs.length i k 0) (Gf vs i k) 3 (if Ge vs i k then⟨.normal,[],Gf vs i k,3⟩else⟨.ret,[(2,.bool true)],Gf vs i k,3⟩):=by
 unfold Ge;rcases Iy (LD vs i k) k with h|⟨n,hn,h2,h3,h4⟩
 ·rw[h];exact bT (id:=4) (cd k (λj=>WO vs.length i k j) (λ_=>Gf vs i k) (λ_ _ _=>Iff.rfl) (r:=⟨.exit 4,[],Gf vs i k,3⟩) (λj hj=>
   fj mixed 200 (WQ (t:=false) hs hi hk hj hm (Iz h hj) [.sum 41 (j+1) 1 (j+1+1) rfl o_]) k_) (aA [.lt 39 (k+1) (k+1) false s_]) n_)
 ·rw[h4];exact bT (id:=4) (cd n (λj=>WO vs.length i k j) (λ_=>Gf vs i k) (λ_ _ _=>Iff.rfl) (r:=⟨.ret,[(2,.bool true)],Gf vs i k,3⟩) (λj hj=>
   fj mixed 200 (WQ (t:=false) hs hi hk o_ hm (h3 j hj) [.sum 41 (j+1) 1 (j+1+1) rfl o_]) k_) (fj mixed 200 (WQ (t:=true) hs hi hk hn hm h2 []) k_) n_)
def LF(n i k:Nat):aW:=[(5,vI (k+1)),(3,vI (i+1)),(0,sl 0 n),(4,ptr 1)]
def ye(vs:List (V3 K))(i:Nat):aH:=[(0,.view (aL vs)),(1,.aI (cD (aJ vs (i+1)-aJ vs 0)).cs 33)]
theorem aRX{i n:Nat}:∀ x∈ye vs i,fN n x.2:=λx hx=>by
 simp only[ye,cx,jg,jh]at hx;rcases hx with rfl|rfl
 ·exact λv hv=>iI (bh.1 (dJ vs) v hv)
 ·exact λv hv=>iI (RV.nH _ v hv)
noncomputable def skS{i k:Nat}(hs:∀ v∈vs,aD m v)(hi:i+1<vs.length)(hk:k<i)(hm:300*m+1000<=aB)(more:bA prog Bs 54):bA prog Bs 54:=
 .lt 24 (k+1) (i+1) true (aC o_)::.cY f61 30 0 vs.length (k+1) 30 o_ k_::.ld f61 31 33 0 ((k+1)*30) (.view (aL vs)) (bB (aJ vs (k+1))) rfl (lf (jV o_)) k_::
 .cY f61 33 0 vs.length 0 30 o_ k_::.ld f61 34 33 0 (0*30) (.view (aL vs)) (bB (aJ vs 0)) rfl (lf (jV o_)) k_::
 (aVy (j8 hs (show k+1<vs.length by omega)) (j8 hs (show 0<vs.length by omega)) o_).at 35::
 (aV7 ((j8 hs hi).sub (j8 hs (show 0<vs.length by omega))) ((j8 hs (show k+1<vs.length by omega)).sub (j8 hs (show 0<vs.length by omega))) o_).at 36::more
theorem aE8{i:Nat}(hs:∀ v∈vs,aD m v)(hi:i+1<vs.length)(hm:300*m+1000<=aB)(h63:vs.length<900000):
  ag prog Bs 54 (.block 2 (af f61 2)) (LF vs.length i 0) (ye vs i) 2 (if D0 vs i then⟨.normal,[],ye vs i,2⟩else⟨.ret,[(2,.bool true)],ye vs i,3⟩):=by
 have LG:∀ k,k<i->Ge vs i k=true->ag prog Bs 54 (aF (af f61 2)) (LF vs.length i k) (ye vs i) 2 ⟨.normal,LF vs.length i (k+1),ye vs i,2⟩:=λk hk h=>by have lo:=aE7 (Bs:=Bs) hs hi hk hm h63;rw[aw h]at lo;exact vu mixed 200 (hZ:=3) (skS hs hi hk hm [.code 4 _ _ _ _ _ lo,.sum 26 (k+1) 1 (k+1+1) rfl o_]) k_ rfl k_ aRX k_
 unfold D0;rcases Iy (Ge vs i) i with h|⟨n,hn,h2,h3,h4⟩
 ·rw[h];exact bT (id:=2) (cd i (λk=>LF vs.length i k) (λ_=>ye vs i) (λ_ _ _=>Iff.rfl) (r:=⟨.exit 2,[],ye vs i,2⟩) (λk hk=>LG k hk (Iz h hk)) (aA [.lt 24 (i+1) (i+1) false s_]) n_)
 ·rw[h4];exact bT (id:=2) (cd n (λk=>LF vs.length i k) (λ_=>ye vs i) (λ_ _ _=>Iff.rfl) (r:=⟨.ret,[(2,.bool true)],ye vs i,3⟩) (λk hk=>LG k o_ (h3 k hk)) (by have lo:=aE7 (Bs:=Bs) hs hi hn hm h63;rw[ao (by rw[h2];decide)]at lo;exact fj mixed 200 (skS hs hi hn hm [.code 4 _ _ _ _ _ lo]) k_) n_)
def ID(n i:Nat):aW:=[(3,vI (i+1)),(0,sl 0 n)]
def wy(vs:List (V3 K)):aH:=[(0,.view (aL vs))]
theorem aRY{n:Nat}:∀ x∈wy vs,fN n x.2:=λx hx=>by simp only[wy,cx,jg,jh]at hx;subst hx;exact λv hv=>iI (bh.1 (dJ vs) v hv)
noncomputable def stS{i:Nat}(hs:∀ v∈vs,aD m v)(hi:i+1<vs.length)(hm:300*m+1000<=aB)(more:bA prog Bs 54):bA prog Bs 54:=
 .lt 11 (i+1) vs.length true (aC hi)::.cY f61 16 0 vs.length (i+1) 30 hi k_::.ld f61 17 33 0 ((i+1)*30) (.view (aL vs)) (bB (aJ vs (i+1))) rfl (lf (jV hi)) k_::
 .cY f61 19 0 vs.length 0 30 o_ k_::.ld f61 20 33 0 (0*30) (.view (aL vs)) (bB (aJ vs 0)) rfl (lf (jV o_)) k_::
 (aVy (j8 hs hi) (j8 hs (show 0<vs.length by omega)) o_).at 21::more
theorem aRZ(hs:∀ v∈vs,aD m v)(hm:300*m+1000<=aB)(h63:vs.length<900000):cy prog 61 [.r vs.length (aL vs)] (.bool (!vf vs)):=by
 have ay:([aR.r vs.length (aL vs)].all aR.ok)=true:=by simp only[dH,fp,aR.ok,iU];exact dJ vs
 have LG:∀(B:aa) i,i<vs.length-1->D0 vs i=true->ag prog B 54 (aF (af f61 0)) (ID vs.length i) (wy vs) 1 ⟨.normal,ID vs.length (i+1),wy vs,1⟩:=λB i hi h=>by have lo:=aE8 (Bs:=B) hs (show i+1<vs.length by omega) hm h63;rw[aw h]at lo;exact vu mixed 200 (hZ:=2) (stS (i:=i) hs o_ hm [.code 2 _ _ _ _ _ lo,.sum 13 (i+1) 1 (i+1+1) rfl o_]) k_ rfl k_ aRY k_
 unfold vf;rcases Iy (D0 vs) (vs.length-1)with h|⟨n,hn,h2,h3,h4⟩
 ·rw[h];have lo:∀ B:aa,ag prog B 54 (.block 0 (af f61 0)) (ID vs.length 0) (wy vs) 1 ⟨.normal,[],wy vs,1⟩:=λB=>
   bT (id:=0) (cd (vs.length-1) (λi=>ID vs.length i) (λ_=>wy vs) (λ_ _ _=>Iff.rfl) (r:=⟨.exit 0,[],wy vs,1⟩) (λi hi=>LG B i hi (Iz h hi)) (aA [.lt 11 (vs.length-1+1) vs.length false (aN o_)]) n_)
  exact dW func61 ay 54 (λw=>[.code 0 _ _ _ _ _ (lo _)])
 ·rw[h4];have lo:∀ B:aa,ag prog B 54 (.block 0 (af f61 0)) (ID vs.length 0) (wy vs) 1 ⟨.ret,[(2,.bool true)],wy vs,3⟩:=λB=>
   bT (id:=0) (cd n (λi=>ID vs.length i) (λ_=>wy vs) (λ_ _ _=>Iff.rfl) (r:=⟨.ret,[(2,.bool true)],wy vs,3⟩) (λi hi=>LG B i o_ (h3 i hi)) (by have lo:=aE8 (Bs:=B) hs (show n+1<vs.length by omega) hm h63;rw[ao (by rw[h2];decide)]at lo;exact fj mixed 200 (stS (i:=n) hs o_ hm [.code 2 _ _ _ _ _ lo]) k_) n_)
  exact dW func61 ay 54 (λw=>[.code 0 _ _ _ _ _ (lo _)])
end
section
variable{Bs:aa}{vs:List (V3 K)}
def LH(n j L:Nat):aW:=[(6,vI j),(1,sl 0 n),(5,sl 2 L),(2,ptr 1)]
def Aq(vs:List (V3 K))(p:HS K):aH:=[(0,.view (aL vs)),(1,.aI (cH p).cs 35)]
theorem aR0{m:Nat}{p:HS K}:∀ x∈Aq vs p,fN m x.2:=λx hx=>by
 simp only[Aq,cx,jg,jh]at hx;rcases hx with rfl|rfl
 ·exact λv hv=>iI (bh.1 (dJ vs) v hv)
 ·exact λv hv=>iI (iC.flat _ v hv)
theorem aR1{j m q:Nat}{p:HS K}{l:List Nat}(hj:j<vs.length)(hp:bt m p)(fT:p.n≠0)(aO:∀ v∈vs,aD q v)(hm:100*(m+q)+1000<=aB)(h63:l.length<900000)(qW:vs.length<1000000):
  ∃ σ hZ,(∀ l0:List Nat,CL (Aq vs p++dT [none] (jW l0)) 2 σ (LH vs.length (j+1) (l++if dot p.n (aJ vs j)-p.d=0 then[j]else[]).length) (Aq vs p) (jW (l++if dot p.n (aJ vs j)-p.d=0 then[j]else[]))=true)/\
   ag prog Bs 124 (aF (af f104 0)) (LH vs.length j l.length) (Aq vs p++marks 2 (jW l)) 3 ⟨.normal,gQ 2 σ (LH vs.length (j+1) (l++if dot p.n (aJ vs j)-p.d=0 then[j]else[]).length),Aq vs p++dT σ (jW (l++if dot p.n (aJ vs j)-p.d=0 then[j]else[])),hZ⟩:=by
 have hv:=jV hj;have hs:=aVm hp (aO _ (cQ hv)) o_ fT;by_cases h:dot p.n (aJ vs j)-p.d=0
 ·rw[aw h];have e:(Value.bool (OF.az (dot p.n (aJ vs j)-p.d)==0))=.bool true:=by rw[OF.NK.1 h];rfl
  have hr:ai l++[vI j]=ai (l++[j]):=by simp[ai]
  have Ag:(ai l).length=l.length*1:=by rw[lN,fX]
  have h1:=It l;rw[show(l++[j]).length=l.length+1 by simp];unfold jW;refine⟨[some 4],5,λl0=>k_,?_⟩;generalize OF.az (dot p.n (aJ vs j)-p.d)=z at *;generalize aJ vs j=v at *;generalize ai l=c0 at *;generalize ai (l++[j])=c1 at *;exact aA [.lt 15 j vs.length true (aC hj),.cY f104 21 0 vs.length j 30 hj k_,.ld f104 22 33 0 (j*30) (.view (aL vs)) (bB v) rfl (lf hv) k_,hs.at 23,.rw 24 (.bool (z==0)) (.bool true) e,.bs f104 27 3 1 3 1 [0] (vI 0) [vI j] #[vI j] (.row [vI j] 3 1) rfl (λv hv=>by simp at hv;subst hv;rfl) (λv hv=>by simp at hv;subst hv;rfl) k_ rfl d_ d_ k_,.pa f104 28 4 2 l.length 1 (l.length+1) 3 1 8 c0 3 (.row [vI j] 3 1) c1 rfl rfl rfl Ag hr (λv hv=>by simp[Obj.cells]at hv;subst hv;rfl) d_ (by simp[maxLen];omega) o_ k_,.sum 17 j 1 (j+1) rfl o_]
 ·rw[ao h,je];have e:(Value.bool (OF.az (dot p.n (aJ vs j)-p.d)==0))=.bool false:=by
   congr 1
   have:OF.az (dot p.n (aJ vs j)-p.d)≠0:=λe=>h (OF.NK.2 e);simpa using this
  refine⟨[some 2],3,λl0=>k_,?_⟩;generalize OF.az (dot p.n (aJ vs j)-p.d)=z at *;generalize aJ vs j=v at *;exact aA [.lt 15 j vs.length true (aC hj),.cY f104 21 0 vs.length j 30 hj k_,.ld f104 22 33 0 (j*30) (.view (aL vs)) (bB v) rfl (lf hv) k_,hs.at 23,.rw 24 (.bool (z==0)) (.bool false) e,.sum 17 j 1 (j+1) rfl o_]
theorem aE9{m q:Nat}{p:HS K}(hp:bt m p)(fT:p.n≠0)(aO:∀ v∈vs,aD q v)(hm:100*(m+q)+1000<=aB)(h63:vs.length<900000):
  ag prog Bs 124 (.block 0 (af f104 0)) (gQ 2 [none] (LH vs.length 0 0)) (Aq vs p++dT [none] (jW [])) 2 ⟨.normal,[(5,sl 2 (cz p vs vs.length).length)],Aq vs p++marks 2 (jW (cz p vs vs.length)),3⟩:=by
 have:=rQ (P:=prog) (B:=Bs) (N:=124) (b:=aF (af f104 0)) (next:=2) (p:=1) (r:=⟨.exit 0,[(5,sl 2 (cz p vs vs.length).length)],Aq vs p++marks 2 (jW (cz p vs vs.length)),3⟩) vs.length
  (λj=>LH vs.length j (cz p vs j).length) (λ_=>Aq vs p) (λj=>jW (cz p vs j)) [none] (λ_ _=>rfl) (λj _=>⟨aR0,Wx⟩) k_ k_
  (λj hj=>by have hl:=Iu p vs j;obtain⟨σ,hZ,h1,h2⟩:=aR1 (Bs:=Bs) (l:=cz p vs j) hj hp fT aO hm o_ o_;rw[aEr];exact⟨σ,hZ,h1 _,h2⟩)
  (by generalize cz p vs vs.length=a;exact aA [.lt 15 vs.length vs.length false s_]) n_
 exact bT (id:=0) this
end
def IE(g:V3 K)(vs:List (V3 K))(a c b:Nat):Bool:=decide (b=a)||(decide (b=c)||decide (0<Qw g vs a c b))
section
variable{Bs:aa}{vs:List (V3 K)}{on:List Nat}{p:HS K}{m:Nat}
def IF(n L a k j:Nat)(f:Bool):aW:=[(11,vI j),(10,.bool f),(5,sl 2 L),(8,vI a),(9,vI k),(1,sl 0 n),(2,ptr 1)]
def ni(vs:List (V3 K))(p:HS K)(on:List Nat):aH:=[(0,.view (aL vs)),(1,.aI (cH p).cs 35),(2,.row (ai on) 3 1)]
theorem gtB{z:Int}{t:Bool}(h:decide (0<z)=t):Value.bool (decide (z>0))=.bool t:=by rw[<-h]
theorem aFa{a c b k j:Nat}{t:Bool}(hb:on[j]?=some b)(hc:on[k]?=some c)(gJ:∀ x∈on,x<vs.length)(ha:a<vs.length)(hn:aD m p.n)(hs:∀ v∈vs,aD m v)(hm:200*m+400<=aB)(ht:IE p.n vs a c b=t)(h63:on.length<900000):
  ag prog Bs 124 (aF (af f104 6)) (IF vs.length on.length a k j true) (ni vs p on) 5 ⟨.normal,IF vs.length on.length a k (j+1) t,ni vs p on,5⟩:=by
 have hj:=(ew.1 hb).1;have hk:=(ew.1 hc).1;have sI:=gJ b (cQ hb);have jX:=gJ c (cQ hc);unfold IE at ht;by_cases h1:b=a
 ·rw[aC h1,Gz]at ht;subst ht;exact fj mixed 200 [.lt 68 j on.length true (aC hj),.ix f104 76 2 on.length j hj k_,.ld f104 77 3 2 j (.row (ai on) 3 1) (vI b) rfl (dO hb) k_,.fk 79 b a true (aC h1),.sum 73 j 1 (j+1) rfl o_] k_
 rw[aN h1,yP]at ht;by_cases h2:b=c
 ·rw[aC h2,Gz]at ht;subst ht;exact fj mixed 200 [.lt 68 j on.length true (aC hj),.ix f104 76 2 on.length j hj k_,.ld f104 77 3 2 j (.row (ai on) 3 1) (vI b) rfl (dO hb) k_,.fk 79 b a false (aN h1),.ix f104 83 2 on.length j hj k_,.ld f104 84 3 2 j (.row (ai on) 3 1) (vI b) rfl (dO hb) k_,.ix f104 87 2 on.length k hk k_,.ld f104 88 3 2 k (.row (ai on) 3 1) (vI c) rfl (dO hc) k_,.fk 89 b c true (aC h2),.sum 73 j 1 (j+1) rfl o_] k_
 rw[aN h2,yP]at ht;exact fj mixed 200 [.lt 68 j on.length true (aC hj),.ix f104 76 2 on.length j hj k_,.ld f104 77 3 2 j (.row (ai on) 3 1) (vI b) rfl (dO hb) k_,.fk 79 b a false (aN h1),.ix f104 83 2 on.length j hj k_,.ld f104 84 3 2 j (.row (ai on) 3 1) (vI b) rfl (dO hb) k_,.ix f104 87 2 on.length k hk k_,.ld f104 88 3 2 k (.row (ai on) 3 1) (vI c) rfl (dO hc) k_,.fk 89 b c false (aN h2),.cY f104 96 0 vs.length a 30 ha k_,.ld f104 97 33 0 (a*30) (.view (aL vs)) (bB (aJ vs a)) rfl (lf (jV ha)) k_,.ix f104 101 2 on.length k hk k_,.ld f104 102 3 2 k (.row (ai on) 3 1) (vI c) rfl (dO hc) k_,.cY f104 103 0 vs.length c 30 jX k_,.ld f104 104 33 0 (c*30) (.view (aL vs)) (bB (aJ vs c)) rfl (lf (jV jX)) k_,.ix f104 108 2 on.length j hj k_,.ld f104 109 3 2 j (.row (ai on) 3 1) (vI b) rfl (dO hb) k_,.cY f104 110 0 vs.length b 30 sI k_,.ld f104 111 33 0 (b*30) (.view (aL vs)) (bB (aJ vs b)) rfl (lf (jV sI)) k_,(aDN hn (j8 hs ha) (j8 hs jX) (j8 hs sI) hm).at 112,.rw 113 _ (.bool t) (gtB ht),.sum 73 j 1 (j+1) rfl o_] k_
theorem aR2{a k j:Nat}:ag prog Bs 124 (aF (af f104 6)) (IF vs.length on.length a k j false) (ni vs p on) 5 ⟨.exit 6,[(10,.bool false)],ni vs p on,5⟩:=by
 by_cases h:j<on.length
 ·exact aA [.lt 68 j on.length true (aC h)]
 ·exact aA [.lt 68 j on.length false (aN h)]
def LI(g:V3 K)(vs:List (V3 K))(on:List Nat)(a c:Nat):Bool:=on.all (IE g vs a c)
theorem aFb{a c k:Nat}(hc:on[k]?=some c)(gJ:∀ x∈on,x<vs.length)(ha:a<vs.length)(hn:aD m p.n)(hs:∀ v∈vs,aD m v)(hm:200*m+400<=aB)(h63:on.length<900000):
  ag prog Bs 124 (.block 6 (af f104 6)) (IF vs.length on.length a k 0 true) (ni vs p on) 5 ⟨.normal,[(10,.bool (LI p.n vs on a c))],ni vs p on,5⟩:=by
 unfold LI;rcases B0 (IE p.n vs a c) on with h|⟨n,x,h1,h2,h3,h4⟩
 ·rw[h];exact bT (id:=6) (cd on.length (λj=>IF vs.length on.length a k j true) (λ_=>ni vs p on) (λ_ _ _=>Iff.rfl) (r:=⟨.exit 6,[(10,.bool true)],ni vs p on,5⟩) (λj hj=>by have hx:on[j]?=some on[j]:=bf hj;exact aFa hx hc gJ ha hn hs hm (DY h hx) h63) (aA [.lt 68 on.length on.length false s_]) n_)
 ·rw[h4];have ak:=(ew.1 h1).1;exact bT (id:=6) (cd (n+1) (λj=>IF vs.length on.length a k j (decide (j<=n))) (λ_=>ni vs p on) (λ_ _ _=>Iff.rfl) (r:=⟨.exit 6,[(10,.bool false)],ni vs p on,5⟩) (λj hj=>by
   have Qx:j<on.length:=by omega
   have hx:on[j]?=some on[j]:=bf Qx;simp only[aC (show j<=n by omega)];refine aFa hx hc gJ ha hn hs hm ?_ h63;by_cases he:j=n
   ·subst he;rw[h1]at hx;injection hx with hx;rw[<-hx,h2];exact(aN o_).symm
   ·rw[h3 j _ o_ hx];exact(aC o_).symm) (by
   simp only[aN (show ¬n+1<=n by omega)];exact aR2) n_)
end
def vg(g:V3 K)(vs:List (V3 K))(on:List Nat)(a c:Nat):Bool:=!decide (c=a)&&LI g vs on a c
section
variable{Bs:aa}{vs:List (V3 K)}{on:List Nat}{p:HS K}{m:Nat}
def LJ(n L R a k:Nat):aW:=[(9,vI k),(5,sl 2 L),(7,sl 4 R),(8,vI a),(1,sl 0 n),(2,ptr 1)]
def Gg(vs:List (V3 K))(p:HS K)(on out:List Nat):aH:=ni vs p on++marks 4 (jW out)
theorem aR3{a c k:Nat}{out:List Nat}(hc:on[k]?=some c)(gJ:∀ x∈on,x<vs.length)(ha:a<vs.length)(hn:aD m p.n)(hs:∀ v∈vs,aD m v)(hm:200*m+400<=aB)(h63:on.length<900000)(hf:vg p.n vs on a c=false):
  ag prog Bs 124 (aF (af f104 4)) (LJ vs.length on.length out.length a k) (Gg vs p on out) 5 ⟨.normal,LJ vs.length on.length out.length a (k+1),Gg vs p on out,5⟩:=by
 have hk:=(ew.1 hc).1;by_cases h:c=a
 ·exact fj mixed 200 [.lt 56 k on.length true (aC hk),.ix f104 61 2 on.length k hk k_,.ld f104 62 3 2 k (.row (ai on) 3 1) (vI c) rfl (dO hc) k_,.fk 64 c a true (aC h),.sum 58 k 1 (k+1) rfl o_] k_
 ·have lo:=aFb (Bs:=Bs) hc gJ ha hn hs hm h63;unfold vg at hf;rw[aN h]at hf;have hf:LI p.n vs on a c=false:=hf;rw[hf]at lo;exact fj mixed 200 [.lt 56 k on.length true (aC hk),.ix f104 61 2 on.length k hk k_,.ld f104 62 3 2 k (.row (ai on) 3 1) (vI c) rfl (dO hc) k_,.fk 64 c a false (aN h),.code 6 _ _ _ _ _ lo,.sum 58 k 1 (k+1) rfl o_] k_
theorem aR4{a c k:Nat}{out:List Nat}(hc:on[k]?=some c)(gJ:∀ x∈on,x<vs.length)(ha:a<vs.length)(hn:aD m p.n)(hs:∀ v∈vs,aD m v)(hm:200*m+400<=aB)(h63:on.length<900000)(ho:out.length<900000)(hf:vg p.n vs on a c=true):
  ag prog Bs 124 (aF (af f104 4)) (LJ vs.length on.length out.length a k) (Gg vs p on out) 5 ⟨.exit 4,[(7,sl 6 (out++[c]).length)],ni vs p on++[(6,.row (ai (out++[c])) 3 1)],7⟩:=by
 have hk:=(ew.1 hc).1;have lo:=aFb (Bs:=Bs) hc gJ ha hn hs hm h63;unfold vg at hf;rw[da]at hf;obtain⟨h1,h2⟩:=hf;have h:¬c=a:=by intro e;rw[aC e]at h1;cases h1
 rw[h2]at lo;have hr:ai out++[vI c]=ai (out++[c]):=by simp[ai]
 have Ag:(ai out).length=out.length*1:=by rw[lN,fX]
 rw[show(out++[c]).length=out.length+1 by simp];have iS:=dO hc;unfold Gg jW;generalize ai out=c0 at *;generalize ai (out++[c])=c1 at *;exact fj mixed 200 [.lt 56 k on.length true (aC hk),.ix f104 61 2 on.length k hk k_,.ld f104 62 3 2 k (.row (ai on) 3 1) (vI c) rfl iS k_,.fk 64 c a false (aN h),.code 6 _ _ _ _ _ lo,.ix f104 119 2 on.length k hk k_,.ld f104 120 3 2 k (.row (ai on) 3 1) (vI c) rfl iS k_,.bs f104 121 5 1 3 1 [0] (vI 0) [vI c] #[vI c] (.row [vI c] 3 1) rfl (λv hv=>by simp at hv;subst hv;rfl) (λv hv=>by simp at hv;subst hv;rfl) k_ rfl d_ d_ k_,.pa f104 122 6 4 out.length 1 (out.length+1) 3 1 8 c0 5 (.row [vI c] 3 1) c1 rfl rfl rfl Ag hr (λv hv=>by simp[Obj.cells]at hv;subst hv;rfl) d_ (by simp[maxLen];omega) o_ k_] k_
theorem aR5{a c k:Nat}{out:List Nat}(hc:on[k]?=some c)(gJ:∀ x∈on,x<vs.length)(ha:a<vs.length)(hn:aD m p.n)(hs:∀ v∈vs,aD m v)(hm:200*m+400<=aB)(h63:on.length<900000)(ho:out.length<900000)(hf:vg p.n vs on a c=true)
  (hb:∀(i:Nat) (x:Nat),i<k->on[i]?=some x->vg p.n vs on a x=false) :
  ag prog Bs 124 (.block 4 (af f104 4)) (LJ vs.length on.length out.length a 0) (Gg vs p on out) 5 ⟨.normal,[(7,sl 6 (out++[c]).length)],ni vs p on++[(6,.row (ai (out++[c])) 3 1)],7⟩:=
 bT (id:=4) (cd k (λi=>LJ vs.length on.length out.length a i) (λ_=>Gg vs p on out) (λ_ _ _=>Iff.rfl) (r:=⟨.exit 4,[(7,sl 6 (out++[c]).length)],ni vs p on++[(6,.row (ai (out++[c])) 3 1)],7⟩) (λi hi=>by have hk:=(ew.1 hc).1;have hx:on[i]?=some on[i]:=bf o_;exact aR3 hx gJ ha hn hs hm h63 (hb i _ hi hx)) (aR4 hc gJ ha hn hs hm h63 ho hf) n_)
end
section
variable{Bs:aa}{vs:List (V3 K)}{on:List Nat}{p:HS K}{m:Nat}
def Qy(n L R:Nat):aW:=[(7,sl 4 R),(5,sl 2 L),(1,sl 0 n),(2,ptr 1)]
theorem aR6{a c k R:Nat}{out:List Nat}(hR:out.length=R+1)(ak:out.length<on.length)(hl:out[R]?=some a)(hc:on[k]?=some c)(gJ:∀ x∈on,x<vs.length)(ha:a<vs.length)(hn:aD m p.n)(hs:∀ v∈vs,aD m v)(hm:200*m+400<=aB)(h63:on.length<900000)(hf:vg p.n vs on a c=true)
  (hb:∀(i:Nat) (x:Nat),i<k->on[i]?=some x->vg p.n vs on a x=false) :
  ag prog Bs 124 (aF (af f104 2)) (Qy vs.length on.length out.length) (ni vs p on++marks 4 (jW out)) 5 ⟨.normal,gQ 4 [some 6] (Qy vs.length on.length (out++[c]).length),ni vs p on++dT [some 6] (jW (out++[c])),7⟩:=by
 have lo:=aR5 (Bs:=Bs) hc gJ ha hn hs hm h63 o_ hf hb (out:=out);have iS:=dO hl;have e:(out++[c]).length=R+2:=by simp[hR]
 rw[e]at lo ⊢;unfold Gg at lo;rw[hR]at lo ⊢;unfold jW at *;generalize ai out=c0 at *;generalize ai (out++[c])=c1 at *;exact fj mixed 200 [.lt 46 (R+1) on.length true (aC o_),.eX 50 (R+1) 1 R rfl o_,.ix f104 51 4 (R+1) R o_ k_,.ld f104 52 3 4 R (.row c0 3 1) (vI a) rfl iS k_,.code 4 _ _ _ _ _ lo] k_
end
structure aV3(g:V3 K)(vs:List (V3 K))(on sq:List Nat):Prop where
 len:sq.length=on.length
 head:sq[0]?=on[0]?
 step:∀(i a c:Nat),sq[i]?=some a->sq[i+1]?=some c->∃ k:Nat,on[k]?=some c/\vg g vs on a c=true/\∀(j x:Nat),j<k->on[j]?=some x->vg g vs on a x=false
section
variable{Bs:aa}{vs:List (V3 K)}{on sq:List Nat}{p:HS K}{m:Nat}
theorem aR7{n:Nat}:∀ x∈ni vs p on,fN n x.2:=λx hx=>by
 simp only[ni,cx,jg,jh]at hx;rcases hx with rfl|rfl|rfl
 ·exact λv hv=>iI (bh.1 (dJ vs) v hv)
 ·exact λv hv=>iI (iC.flat _ v hv)
 ·exact λv hv=>iI (kv _ v hv)
theorem aR8{o:Nat}(h:aV3 p.n vs on sq)(h0:on[0]?=some o)(gJ:∀ x∈on,x<vs.length)(hn:aD m p.n)(hs:∀ v∈vs,aD m v)(hm:200*m+400<=aB)(h63:on.length<900000):
  ag prog Bs 124 (.block 2 (af f104 2)) (gQ 4 [some 3] (Qy vs.length on.length 1)) (ni vs p on++dT [some 3] (jW [o])) 4 ⟨.normal,[(7,sl 4 sq.length)],ni vs p on++marks 4 (jW sq),5⟩:=by
 have qp:=(ew.1 h0).1;have hlen:=h.len;have qG:∀ x∈sq,x<vs.length:=λx hx=>by
  obtain⟨i,hi,rfl⟩:=kM hx;cases i with
  |zero=>
   have e:=h.head;rw[bf hi,h0]at e;injection e with e;rw[e];exact gJ _ (cQ h0)
  |succ i=>
   obtain⟨k,e,_⟩:=h.step i _ _ (bf o_) (bf hi);exact gJ _ (cQ e)
 have e1:sq.take 1=[o]:=by have e:=h.head;rw[h0]at e;rw[List.take_one,List.head?_eq_getElem?,e];rfl
 have tl:∀ i,i<on.length->(sq.take (i+1)).length=i+1:=λi hi=>by rw[jw];omega
 have:=rQ (P:=prog) (B:=Bs) (N:=124) (b:=aF (af f104 2)) (next:=4) (p:=1) (r:=⟨.exit 2,[(7,sl 4 sq.length)],ni vs p on++marks 4 (jW sq),5⟩) (on.length-1)
  (λi=>Qy vs.length on.length (sq.take (i+1)).length) (λ_=>ni vs p on) (λi=>jW (sq.take (i+1))) [some 3] (λ_ _=>rfl) (λi _=>⟨aR7,Wx⟩) k_ k_
  (λi hi=>by
   have ha:sq[i]?=some sq[i]:=bf o_;have hc:sq[i+1]?=some sq[i+1]:=bf o_;obtain⟨k,q1,q2,q3⟩:=h.step i _ _ ha hc;have e:sq.take (i+1+1)=sq.take (i+1)++[sq[i+1]]:=by rw[tK,hc];rfl
   have hl:=tl i o_;have hr:=aR6 (Bs:=Bs) (R:=i) hl o_ (by rw[ui,aw o_];exact ha) q1 gJ (qG _ (cQ ha)) hn hs hm h63 q2 q3;refine⟨[some 6],7,k_,?_⟩;rw[e];exact hr)
  (by rw[show on.length-1+1=sq.length by omega,mQ];rw[hlen];exact aA [.lt 46 on.length on.length false s_]) n_
 simp only[jY,e1]at this;exact bT (id:=2) this
end
def Qz(g:V3 K)(vs:List (V3 K)):List Nat->Bool
 |o::a::l=>l.all (B5 g vs o a)
 |_=>true
section
variable{vs:List (V3 K)}{p:HS K}{m q:Nat}
noncomputable def aR9{Bs:aa}{on:List Nat}{t:Bool}(h3:3<=on.length)(ht:Qz p.n vs on=t)(hn:aD m p.n)(hs:∀ v∈vs,aD m v)(gJ:∀ x∈on,x<vs.length)(hm:200*m+400<=aB)(h63:on.length<900000):aY prog Bs 124:=
 .step 36 (av f104 36) [.func (.func 143) #[] #[],cC p,sl 0 vs.length,sl 2 on.length] [(0,some (.view (aL vs))),(2,some (.row (ai on) 3 1))] (.bool t) []
  (dz (by
   match on,h3,gJ,ht,h63 with
   |o::a::l,_,gJ,ht,h63=>
    have:=aRW hn hs gJ hm (by simp only[oA]at h63;omega);rw[show l.all (B5 p.n vs o a)=t from ht]at this;exact this) (.p rfl (.w (x:=.view (aL vs)) rfl (dJ vs) vV (.w (x:=.row (ai on) 3 1) rfl (gU on) (λh=>P8 h) .nil))) (x:=.func 143) k_ k_ rfl)
theorem aFc:([aR.p (cC p),.r vs.length (aL vs)].all aR.ok)=true:=by simp only[dH,fp,aR.ok,iU];rw[show(aL vs).all flat=true from dJ vs];rfl
theorem aSa(hp:bt m p)(fT:p.n≠0)(aO:∀ v∈vs,aD q v)(hm:100*(m+q)+1000<=aB)(h63:vs.length<900000)(h:(cz p vs vs.length).length<3):
  cy prog 104 [.p (cC p),.r vs.length (aL vs)] (.slice none 0 0):=by
 have lo:=λBs=>aE9 (Bs:=Bs) hp fT aO hm h63;generalize cz p vs vs.length=on at *;exact gz mixed func104 aFc 200 (N:=124) k_ (λw=>[.code 0 _ _ _ _ _ (lo _),.lt 31 on.length 3 true (aC h)]) (λ_=>k_) k_
theorem aVB{sq:List Nat}(hp:bt m p)(fT:p.n≠0)(aO:∀ v∈vs,aD m v)(hm:300*m+1000<=aB)(h63:vs.length<900000)(h:¬(cz p vs vs.length).length<3)(hf:Qz p.n vs (cz p vs vs.length)=false)(qG:aV3 p.n vs (cz p vs vs.length) sq):
  lM prog 104 [.p (cC p),.r vs.length (aL vs)] 3 1 sq.length (ai sq):=by
 have lo:=λBs=>aE9 (Bs:=Bs) hp fT aO o_ h63;have gJ:∀ x∈cz p vs vs.length,x<vs.length:=λx hx=>Ww hx;have hol:=Iu p vs vs.length;generalize cz p vs vs.length=on at *;obtain⟨o,h0⟩:∃ o,on[0]?=some o:=⟨_,bf o_⟩;have l2:=λBs=>aR8 (Bs:=Bs) qG h0 gJ hp.1 aO o_ o_;exact zn (k:=4) mixed func104 aFc 200 (N:=124) k_ (λw=>[.code 0 _ _ _ _ _ (lo _),.lt 31 on.length 3 false (aN h),aR9 o_ hf hp.1 aO gJ o_ o_,.ix f104 39 2 on.length 0 o_ k_,.ld f104 40 3 2 0 (.row (ai on) 3 1) (vI o) rfl (dO h0) k_,.bs f104 41 3 1 3 1 [0] (vI 0) [vI o] #[vI o] (.row [vI o] 3 1) rfl (λv hv=>by simp at hv;subst hv;rfl) (λv hv=>by simp at hv;subst hv;rfl) k_ rfl d_ d_ k_,.code 2 _ _ _ _ _ (l2 _)]) (λ_=>k_) (gU sq) (by rw[lN,fX])
end
theorem aFd{ps:List (HS K)}{v:V3 K}:Dm ps v=false↔(v=0\/∃ r∈ps,0<dot r.n v):=by
 unfold Dm;rw[Bool.and_eq_false_iff,Bool.not_eq_false',Bool.not_eq_false',BL,sY];constructor
 ·rintro(h|⟨r,hr,h⟩)
  ·exact .inl h
  ·exact .inr ⟨r,hr,Qh.1 (kH h)⟩
 ·rintro(h|⟨r,hr,h⟩)
  ·exact .inl h
  ·exact .inr ⟨r,hr,aC (Qh.2 h)⟩
theorem WR{ps:List (HS K)}{u:V3 K}:qa ps u=false↔(u≠0->(∃ r∈ps,0<dot r.n u)/\∃ r∈ps,0<dot r.n (-u)):=by
 unfold qa;rw[Mq,aFd,aFd];constructor
 ·rintro⟨h1,h2⟩ hu
  exact⟨h1.resolve_left hu,h2.resolve_left λe=>hu (V3.neg_eq_zero.1 e)⟩
 ·intro h;by_cases hu:u=0
  ·exact⟨.inl hu,.inl (V3.neg_eq_zero.2 hu)⟩
  ·exact⟨.inr (h hu).1,.inr (h hu).2⟩
theorem aFe{ps:List (HS K)}:∀ n,n<=ps.length->(tJ ps n=true↔∃(i j:Nat) (p q:HS K),i<n/\j<i/\ps[i]?=some p/\ps[j]?=some q/\ax p.n q.n≠0)
 |0,_=>by
  constructor
  ·intro h;cases h
  ·rintro⟨i,_,_,_,h,_⟩;omega
 |n+1,hn=>by
  have hp:ps[n]?=some ps[n]:=bf o_;rw[aCd hp,uy,aFe n o_];unfold qb;rw[sY];constructor
  ·rintro(⟨i,j,p,q,h1,h2,h3⟩|⟨q,hq,h⟩)
   ·exact⟨i,j,p,q,by omega,h2,h3⟩
   ·obtain⟨j,hj,rfl⟩:=kM hq;rw[jw]at hj;rw[WB]at h;exact⟨n,j,ps[n],ps[j],by omega,by omega,hp,bf o_,by simpa using h⟩
  ·rintro⟨i,j,p,q,h1,h2,h3,h4,h5⟩
   rcases eF i n with h|h
   ·exact .inl ⟨i,j,p,q,h,h2,h3,h4,h5⟩
   ·have:i=n:=by omega
    subst this;rw[hp]at h3;injection h3 with h3;subst h3;exact .inr ⟨q,cQ (i:=j) (by rw[ui,aw h2];exact h4),by simpa using h5⟩
theorem aSb{ps:List (HS K)}:O7 ps ps.length=false↔∀(i j:Nat) (p q:HS K),j<i->ps[i]?=some p->ps[j]?=some q->qa ps (ax p.n q.n)=false:=by
 unfold O7;rw[Jj];constructor
 ·intro h i j p q o5 hp hq;have ak:=(ew.1 hp).1;have:=h i (kh.2 ak);rw[O8 hp,sY]at this;cases hb:qa ps (ax p.n q.n)with
  |false=>rfl
  |true=>exact absurd ⟨q,cQ (i:=j) (by rw[ui,aw o5];exact hq),hb⟩ this
 ·intro h i hi;have ak:=kh.1 hi;have hp:ps[i]?=some ps[i]:=bf ak;rw[O8 hp,sY]
  rintro⟨q,hq,hb⟩
  obtain⟨j,hj,rfl⟩:=kM hq;rw[jw]at hj;have wF:ps[j]?=some ps[j]:=bf o_;rw[WB]at hb;rw[h i j _ _ o_ hp wF]at hb;cases hb
theorem QA{ps:List (HS K)}:qK ps=true↔Cl ps:=by
 unfold qK;rw[da,AH,aFe _ (bj _),aSb];have sw:∀ p q:HS K,ax q.n p.n=-ax p.n q.n:=λp q=>V3.HM _ _;constructor
 ·rintro⟨h1,i,j,p,q,hi,o5,hp,hq,hc⟩
  refine⟨⟨p,cQ hp,q,cQ hq,hc⟩,λp hp q hq aU=>?_⟩;obtain⟨i,hi,rfl⟩:=kM hp;obtain⟨j,hj,rfl⟩:=kM hq;rcases sJ i j with h|h|h
  ·have:=WR.1 (h1 j i _ _ h (bf hj) (bf hi)) (λe=>aU (by rw[sw,e];exact V3.neg_eq_zero.2 rfl));rw[sw ps[j] ps[i]];exact this.2
  ·subst h;exact absurd (V3.Kv _) aU
  ·exact(WR.1 (h1 i j _ _ h (bf hi) (bf hj)) aU).1
 ·rintro⟨⟨p,hp,q,hq,aU⟩,bd⟩
  refine⟨λi j p q _ hp hq=>WR.2 λhu=>?_,?_⟩
  ·have jd:=cQ hp;have BF:=cQ hq;refine⟨bd p jd q BF hu,?_⟩;rw[<-sw];exact bd q BF p jd (λe=>hu (by rw[sw q p,e];exact V3.neg_eq_zero.2 rfl))
  ·obtain⟨i,hi,rfl⟩:=kM hp;obtain⟨j,hj,rfl⟩:=kM hq;rcases sJ i j with h|h|h
   ·exact⟨j,i,_,_,hj,h,bf hj,bf hi,λe=>aU (by rw[sw,e];exact V3.neg_eq_zero.2 rfl)⟩
   ·subst h;exact absurd (V3.Kv _) aU
   ·exact⟨i,j,_,_,hi,h,bf hi,bf hj,aU⟩
theorem aFf:∀ n:Nat,(CR.ofNat n:K)=kI (n:Int)
 |0=>rfl
 |n+1=>by
  show(CR.ofNat n:K)+1=_;rw[aFf n];refine bE.ext (bE.ext ?_ ?_) (bE.ext ?_ ?_)
  ·show((n:Int):Rat)+1=(((n+1:Nat):Int):Rat)
   push_cast;rfl
  ·show(0:Rat)+0=0;exact Rat.add_zero 0
  ·show(0:Rat)+0=0;exact Rat.add_zero 0
  ·show(0:Rat)+0=0;exact Rat.add_zero 0
theorem aSc(z:Int):kI z=(Fr.mk z 0 0 0 1).val:=by have h:=TN z;have:=oL (kI z);rw[show bJ (kI z)=⟨z,0,0,0,1⟩from h]at this;exact this.symm
theorem aSd{n:Nat}(hn:n≠0):pq 1 (n:Int)*kI (n:Int)=1:=by
 rw[aSc];unfold pq;rw[<-Ki (by simpa using hn) s_];have e:e9 ⟨1,0,0,0,(n:Int)⟩ ⟨(n:Int),0,0,0,1⟩=⟨(n:Int),0,0,0,(n:Int)⟩:=by unfold e9;simp
 rw[e];unfold Fr.val;dsimp only;have h1:Rat.divInt (n:Int) (n:Int)=1:=by rw[Bo,E8];exact Hy _ (by simpa using hn)
 rw[h1,Rat.zero_divInt];rfl
theorem aSe{n:Nat}(hn:n≠0):pq 1 (n:Int)=(CR.ofNat n:K)⁻¹:=by
 have h:=aSd hn;rw[<-aFf]at h;have aU:(CR.ofNat n:K)≠0:=OF.ne_of_gt (Uz o_);have h2:=OF.lJ _ aU
 calc pq 1 (n:Int)=pq 1 (n:Int)*(CR.ofNat n*(CR.ofNat n:K)⁻¹):=by rw[h2,CR.mul_one]
  _=(CR.ofNat n:K)⁻¹:=by rw[<-CR.mul_assoc,h,CR.one_mul]
theorem WS{l:List (V3 K)}(h:l≠[]):tL l=xA l:=by have hl:l.length≠0:=λe=>h (lv e);unfold tL xA;rw[aSe hl];rfl
theorem QB{ps:List (HS K)}{vs:List (V3 K)}:qc ps vs=true↔vs≠[]/\BJ ps (xA vs):=by
 unfold qc;rw[da,AH,AH,Zr,Jj];have hl:¬vs.length=0↔vs≠[]:=⟨λh e=>h (by rw[e];rfl),λh e=>h (lv e)⟩;rw[hl];constructor
 ·rintro⟨h1,h2⟩
  refine⟨h1,λp hp=>?_⟩;have:=h2 p hp;rw[BL,Qi,WS h1,OF.sub_nonneg]at this;exact OF.not_le.1 this
 ·rintro⟨h1,h2⟩
  refine⟨h1,λp hp=>?_⟩;rw[BL,Qi,WS h1,OF.sub_nonneg];exact OF.not_le.2 (h2 p hp)
theorem aSf{x:K}(h:x≠0):0<iK x:=by
 unfold iK;by_cases hs:OF.az x<0
 ·rw[aw hs,OF.iz,OF.pd,aEA.1 hs];rfl
 ·rw[ao hs,OF.iz];rcases OF.iy x with e|e|e
  ·rw[e]at hs;exact absurd d_ hs
  ·exact absurd ((OF.e8 x).1 e) h
  ·exact e
theorem aFg{x:K}(h:x≠0):0<mr x:=by unfold mr;rw[show kI 1*(iK x)⁻¹=(iK x)⁻¹ from CR.one_mul _];exact OF.inv_pos (aSf h)
def D1(p:HS K)(k:K):HS K:=⟨smul p.n k,p.d*k⟩
theorem QC(p:HS K):canon p=D1 p (mr (pY p.n)):=rfl
theorem aSg(v:V3 K)(a b:K):smul (smul v a) b=smul v (a*b):=V3.ext (CR.mul_assoc _ _ _) (CR.mul_assoc _ _ _) (CR.mul_assoc _ _ _)
theorem aSh(v:V3 K):smul v 1=v:=V3.ext (CR.mul_one _) (CR.mul_one _) (CR.mul_one _)
theorem WT(p:HS K)(a b:K):D1 (D1 p a) b=D1 p (a*b):=HS.ext (aSg _ _ _) (CR.mul_assoc _ _ _)
theorem aSi(p:HS K):D1 p 1=p:=HS.ext (aSh _) (CR.mul_one _)
theorem aSj{v:V3 K}{k:K}(hk:k≠0):pY (smul v k)=pY v*k:=by
 have z:∀ x:K,x*k≠0↔x≠0:=λx=>⟨λh e=>h (by rw[e,CR.zero_mul]),λh=>OF.mul_ne_zero h hk⟩;unfold pY;show(if v.x*k≠0 then v.x*k else if v.y*k≠0 then v.y*k else v.z*k)=_;by_cases hx:v.x≠0
 ·rw[aw ((z _).2 hx),aw hx]
 ·rw[ao (λh=>hx ((z _).1 h)),ao hx];by_cases hy:v.y≠0
  ·rw[aw ((z _).2 hy),aw hy]
  ·rw[ao (λh=>hy ((z _).1 h)),ao hy]
theorem aSk{x k:K}(hk:0<k):iK (x*k)=iK x*k:=by
 unfold iK;have e:OF.az (x*k)=OF.az x:=by rw[CR.mul_comm,OF.aAu hk]
 rw[e];by_cases h:OF.az x<0
 ·rw[aw h,aw h,CR.neg_mul]
 ·rw[ao h,ao h]
theorem aSl{x k:K}(hx:x≠0)(hk:0<k):k*mr (x*k)=mr x:=by
 have e:∀ y:K,mr y=(iK y)⁻¹:=λy=>CR.one_mul _;have Db:k≠0:=OF.ne_of_gt hk;have h0:iK x≠0:=OX hx;rw[e,e,aSk hk];have h1:=OF.lJ _ h0;have h2:=OF.lJ (iK x*k) (OF.mul_ne_zero h0 Db)
 calc k*(iK x*k)⁻¹=(iK x*(iK x)⁻¹)*(k*(iK x*k)⁻¹):=by rw[h1,CR.one_mul]
  _=(iK x)⁻¹*(iK x*k*(iK x*k)⁻¹):=by rw[CR.mul_comm (iK x),CR.mul_assoc,CR.mul_assoc]
  _=(iK x)⁻¹:=by rw[h2,CR.mul_one]
theorem aSm{p q:HS K}(hp:p.n≠0)(hq:q.n≠0):canon p=canon q↔∃ k:K,0<k/\q=D1 p k:=by
 have ap:=aFg (OY hp);have aq:=aFg (OY hq);constructor
 ·intro h;rw[QC,QC]at h;have h1:=OF.lJ _ (OF.ne_of_gt aq);refine⟨mr (pY p.n)*(mr (pY q.n))⁻¹,OF.mul_pos ap (OF.inv_pos aq),?_⟩;rw[<-WT,h,WT,h1,aSi]
 ·rintro⟨k,hk,rfl⟩
  rw[QC,QC];have e:pY (D1 p k).n=pY p.n*k:=aSj (OF.ne_of_gt hk);rw[e,WT,aSl (OY hp) hk]
end
section
open CR OF V3
section
variable{F:Type}[OF F]
theorem aSn(a b c:V3 F)(x y z:F):dot a (smul (ax b c) x+smul (ax c a) y+smul (ax a b) z)=x*cL a b c:=
 ring [a,b,c] [x,y,z] (λV S=>dot (V 0) (smul (ax (V 1) (V 2)) (S 0)+smul (ax (V 2) (V 0)) (S 1)+smul (ax (V 0) (V 1)) (S 2))) (λV S=>S 0*cL (V 0) (V 1) (V 2)) d_
theorem aSo(a b c:V3 F)(x y z:F):dot b (smul (ax b c) x+smul (ax c a) y+smul (ax a b) z)=y*cL a b c:=
 ring [a,b,c] [x,y,z] (λV S=>dot (V 1) (smul (ax (V 1) (V 2)) (S 0)+smul (ax (V 2) (V 0)) (S 1)+smul (ax (V 0) (V 1)) (S 2))) (λV S=>S 1*cL (V 0) (V 1) (V 2)) d_
theorem aSp(a b c:V3 F)(x y z:F):dot c (smul (ax b c) x+smul (ax c a) y+smul (ax a b) z)=z*cL a b c:=
 ring [a,b,c] [x,y,z] (λV S=>dot (V 2) (smul (ax (V 1) (V 2)) (S 0)+smul (ax (V 2) (V 0)) (S 1)+smul (ax (V 0) (V 1)) (S 2))) (λV S=>S 2*cL (V 0) (V 1) (V 2)) d_
theorem WU(u w:V3 F):cL u u w=0:=ring [u,w] [] (λV _=>cL (V 0) (V 0) (V 1)) (λ_ _=>0) d_
theorem WV(u w:V3 F):cL u w w=0:=ring [u,w] [] (λV _=>cL (V 0) (V 1) (V 1)) (λ_ _=>0) d_
theorem WW(u w:V3 F):cL u w u=0:=ring [u,w] [] (λV _=>cL (V 0) (V 1) (V 0)) (λ_ _=>0) d_
theorem aFh:∀(l:List (F×F)),(∀ x∈l,0<x.2)->∃ e:F,0<e/\∀ x∈l,x.1*e<=x.2
 |[],_=>⟨1,OF.zero_lt_one,λx h=>(by cases h)⟩
 |(a,b)::l,h=>by
  obtain⟨e,he,hl⟩:=aFh l λx hx=>h x (bF _ hx);have hb:0<b:=h (a,b) (aV ..);by_cases b9:a*e<=b
  ·refine⟨e,he,λx hx=>?_⟩;rcases cx.1 hx with rfl|hx
   ·exact b9
   ·exact hl x hx
  ·have b9:=OF.not_le.1 b9;have ha:0<a:=by
    apply gN;intro EY;have EY:=OF.not_lt.1 EY;have:a*e<=0:=by rw[<-CR.neg_neg (a*e),OF.Kd,<-CR.neg_mul];exact OF.mul_nonneg (OF.neg_nonneg.2 EY) (OF.le_of_lt he)
    exact OF.lt_irrefl _ (OF.lt_of_lt_of_le (OF.lt_trans hb b9) this)
   have hi:0<b*a⁻¹:=OF.mul_pos hb (OF.inv_pos ha);have hae:a*(b*a⁻¹)=b:=by rw[CR.mul_left_comm,OF.lJ _ (OF.ne_of_gt ha),CR.mul_one]
   have ak:b*a⁻¹<e:=by rw[<-OF.mul_lt_mul_left ha,hae];exact b9
   refine⟨b*a⁻¹,hi,λx hx=>?_⟩;rcases cx.1 hx with rfl|hx
   ·exact OF.le_of_eq hae
   ·by_cases kK:0<x.1
    ·exact OF.le_trans ((OF.mul_le_mul_left kK).2 (OF.le_of_lt ak)) (hl x hx)
    ·have kK:=OF.not_lt.1 kK;have:x.1*(b*a⁻¹)<=0:=by rw[<-CR.neg_neg (x.1*(b*a⁻¹)),OF.Kd,<-CR.neg_mul];exact OF.mul_nonneg (OF.neg_nonneg.2 kK) (OF.le_of_lt hi)
     exact OF.le_trans this (OF.le_of_lt (h x (bF _ hx)))
structure sL(ps S:List (HS F)):Prop where
 sub:∀ p∈S,p∈ps
 same:∀ v,ig S v↔ig ps v
 least:∀ T:List (HS F),(∀ p∈T,p∈ps)->(∀ v,ig T v↔ig ps v)->S.length<=T.length
theorem aSq(ps:List (HS F)):∃ S,sL ps S:=by
 have key:∀ n,∀ S:List (HS F),S.length=n->(∀ p∈S,p∈ps)->(∀ v,ig S v↔ig ps v)->∃ S,sL ps S:=by
  intro n;induction n using Nat.strongRecOn with
  |ind n ih=>
   intro S hl h1 h2;by_cases h:∃ T:List (HS F),(∀ p∈T,p∈ps)/\(∀ v,ig T v↔ig ps v)/\T.length<n
   ·obtain⟨T,t1,t2,t3⟩:=h;exact ih _ t3 T rfl t1 t2
   ·refine⟨S,h1,h2,λT t1 t2=>?_⟩;rcases eF T.length S.length with ak|dR
    ·exact(h ⟨T,t1,t2,by omega⟩).elim
    ·exact dR
 exact key _ ps rfl (λ_ h=>h) (λ_=>Iff.rfl)
theorem sL.alone{ps A B:List (HS F)}{p:HS F}(h:sL ps (A++p::B)):∃ y,ig (A++B) y/\p.d<dot p.n y:=by
 apply gN;intro gE;have hT:∀ v,ig (A++B) v↔ig ps v:=by
  intro v;rw[<-h.same v];constructor
  ·intro hv q hq;rcases ee.1 hq with hq|hq
   ·exact hv q (sO _ hq)
   ·rcases cx.1 hq with rfl|hq
    ·exact OF.not_lt.1 λak=>gE ⟨v,hv,ak⟩
    ·exact hv q (yf _ hq)
  ·intro hv q hq;refine hv q ?_;rcases ee.1 hq with hq|hq
   ·exact sO _ hq
   ·exact yf _ (bF _ hq)
 have:=h.least (A++B) (λq hq=>h.sub q (by
  rcases ee.1 hq with hq|hq
  ·exact sO _ hq
  ·exact yf _ (bF _ hq))) hT
 simp at this;omega
theorem sL.KC{ps A B:List (HS F)}{p:HS F}(h:sL ps (A++p::B)){x:V3 F}(hx:BJ ps x):∃ z,dV p z/\∀ q∈A++B,dot q.n z<q.d:=by
 obtain⟨y,hy,hpy⟩:=h.alone;have hpx:dot p.n x<p.d:=hx p (h.sub p (yf _ (aV ..)));have xz:0<dot p.n y-dot p.n x:=OF.sub_pos.2 (OF.lt_trans hpx hpy);have hda:0<p.d-dot p.n x:=OF.sub_pos.2 hpx;obtain⟨t,ht⟩:∃ t,t=(p.d-dot p.n x)*(dot p.n y-dot p.n x)⁻¹:=⟨_,rfl⟩;have vR:0<t:=ht▸OF.mul_pos hda (OF.inv_pos xz);have M4:(dot p.n y-dot p.n x)*t=p.d-dot p.n x:=by rw[ht,CR.mul_left_comm,OF.lJ _ (OF.ne_of_gt xz),CR.mul_one]
 have jM:t<1:=by rw[<-OF.mul_lt_mul_left xz,M4,CR.mul_one];rw[<-OF.sub_pos,show dot p.n y-dot p.n x-(p.d-dot p.n x)=dot p.n y-p.d from kZ (dot p.n x) (dot p.n y) p.d (λa b d=>b-a-(d-a)) (λa b d=>b-d) d_];exact OF.sub_pos.2 hpy
 refine⟨x+smul (y-x) t,?_,λq hq=>?_⟩
 ·unfold dV;rw[k7,iT,k8,M4];exact km (dot p.n x) p.d (λa d=>a+(d-a)) (λa d=>d) d_
 ·rw[k7,iT,k8];have q1:dot q.n x<q.d:=hx q (h.sub q (by
   rcases ee.1 hq with hq|hq
   ·exact sO _ hq
   ·exact yf _ (bF _ hq)))
  have q2:=hy q hq;have e:q.d-(dot q.n x+(dot q.n y-dot q.n x)*t)=(1-t)*(q.d-dot q.n x)+t*(q.d-dot q.n y):=E3 (dot q.n x) (dot q.n y) q.d t (λa b d t=>d-(a+(b-a)*t)) (λa b d t=>(1-t)*(d-a)+t*(d-b)) d_;rw[<-OF.sub_pos,e];exact OF.Hq (OF.mul_pos (OF.sub_pos.2 jM) (OF.sub_pos.2 q1)) (OF.mul_nonneg (OF.le_of_lt vR) (OF.sub_nonneg.2 q2))
theorem mn.back{ps:List (HS F)}{p:HS F}(hp:p∈ps){v:V3 F}(h:mn (⟨-p.n,-p.d⟩::ps) v):mn ps v/\dV p v:=by
 obtain⟨ct,a,ha,b,hb,c,hc,hd,ta,tb,tc⟩:=h;have tp:dV p v:=by
  have h1:=ct _ (aV ..);dsimp only at h1;rw[BC]at h1;have h1:p.d<=dot p.n v:=by rw[<-OF.sub_nonneg]at h1 ⊢;rwa[show -p.d - -dot p.n v=dot p.n v-p.d from km (dot p.n v) p.d (λa d=>-d - -a) (λa d=>a-d) d_]at h1
  exact OF.le_antisymm (ct p (bF _ hp)) h1
 have aSr:ig ps v:=λq hq=>ct q (bF _ hq)
 -- a pW of the list with the same normal,vy for Up sign
 have bJ:∀ q∈(⟨-p.n,-p.d⟩::ps:List (HS F)),dV q v->∃ q'∈ps,dV q' v/\(q'.n=q.n\/q.n=-q'.n):=by
  intro q hq tq;rcases cx.1 hq with rfl|hq
  ·exact⟨p,hp,tp,.inr rfl⟩
  ·exact⟨q,hq,tq,.inl rfl⟩
 obtain⟨a',iQ,ta',ea⟩:=bJ a ha ta;obtain⟨b',jz,tb',eb⟩:=bJ b hb tb;obtain⟨c',kg,tc',ec⟩:=bJ c hc tc;refine⟨⟨aSr,a',iQ,b',jz,c',kg,λe=>hd ?_,ta',tb',tc'⟩,tp⟩;have n1:∀ u v w:V3 F,cL (-u) v w=-cL u v w:=λu v w=>ring [u,v,w] [] (λV _=>cL (-V 0) (V 1) (V 2)) (λV _=>-cL (V 0) (V 1) (V 2)) d_;have n2:∀ u v w:V3 F,cL u (-v) w=-cL u v w:=λu v w=>ring [u,v,w] [] (λV _=>cL (V 0) (-V 1) (V 2)) (λV _=>-cL (V 0) (V 1) (V 2)) d_;have n3:∀ u v w:V3 F,cL u v (-w)=-cL u v w:=λu v w=>ring [u,v,w] [] (λV _=>cL (V 0) (V 1) (-V 2)) (λV _=>-cL (V 0) (V 1) (V 2)) d_;rcases ea with ea|ea<;>rcases eb with eb|eb<;>rcases ec with ec|ec<;>
  (first|rw[<-ea]|rw[ea,n1])<;>(first|rw[<-eb]|rw[eb,n2])<;>(first|rw[<-ec]|rw[ec,n3])<;>rw[e]<;>(try simp only[CR.neg_zero])
theorem sL.IG{ps A B:List (HS F)}{p:HS F}(hc:Cl ps)(hp:gA ps)(h:sL ps (A++p::B)){x m:V3 F}(hx:BJ ps x)(hm:ax p.n m≠0):
  ∃ v w,mn ps v/\dV p v/\mn ps w/\dV p w/\dot m w<dot m v:=by
 obtain⟨z,hz,hq⟩:=h.KC hx;have iL:p∈ps:=h.sub p (yf _ (aV ..));obtain⟨e,he⟩:∃ e,e=ax (ax p.n m) p.n:=⟨_,rfl⟩;have pe:dot p.n e=0:=by rw[he];exact De _ _
 have me:0<dot m e:=by
  have:dot m e=dot (ax p.n m) (ax p.n m):=by rw[he];exact ring [p.n,m] [] (λV _=>dot (V 1) (ax (ax (V 0) (V 1)) (V 0))) (λV _=>dot (ax (V 0) (V 1)) (ax (V 0) (V 1))) d_
  rw[this];exact Ua hm
 obtain⟨t,ht,qe⟩:=aFh ((A++B).map (λq=>(dot q.n e,q.d-dot q.n z))++(A++B).map (λq=>(-dot q.n e,q.d-dot q.n z))) λy hy=>by
  rcases ee.1 hy with hy|hy
  ·obtain⟨q,k9,rfl⟩:=dj.1 hy;exact OF.sub_pos.2 (hq q k9)
  ·obtain⟨q,k9,rfl⟩:=dj.1 hy;exact OF.sub_pos.2 (hq q k9)
 have aFi:∀ s:F,(∀ q∈A++B,dot q.n e*s<=q.d-dot q.n z)->ig (⟨-p.n,-p.d⟩::ps) (z+smul e s):=by
  intro s hs;have hS:ig (A++p::B) (z+smul e s):=by
   intro q k9;rw[k7,iT];have other:q∈A++B->dot q.n z+dot q.n e*s<=q.d:=λk9=>by have:=hs q k9;rw[<-OF.sub_nonneg]at this ⊢;rwa[show q.d-dot q.n z-dot q.n e*s=q.d-(dot q.n z+dot q.n e*s)from kZ q.d (dot q.n z) (dot q.n e*s) (λa b c=>a-b-c) (λa b c=>a-(b+c)) d_]at this
   rcases ee.1 k9 with k9|k9
   ·exact other (sO _ k9)
   ·rcases cx.1 k9 with rfl|k9
    ·rw[pe,CR.zero_mul,CR.add_zero];exact OF.le_of_eq hz
    ·exact other (yf _ k9)
  have ct:=(h.same _).1 hS;intro q k9;rcases cx.1 k9 with rfl|k9
  ·dsimp only;rw[BC,k7,iT,pe,CR.zero_mul,CR.add_zero,show dot p.n z=p.d from hz];exact OF.le_refl _
  ·exact ct q k9
 have kg:Cl (⟨-p.n,-p.d⟩::ps):=Cl.more hc hp λq hq=>bF _ hq;have jd:gA (⟨-p.n,-p.d⟩::ps):=λq hq=>by
  rcases cx.1 hq with rfl|hq
  ·exact λe=>hp p iL (V3.neg_eq_zero.1 e)
  ·exact hp q hq
 have i1:=aFi t λq k9=>qe _ (sO _ (dj.2 ⟨q,k9,rfl⟩));have i2:=aFi (-t) λq k9=>by have:=qe _ (yf _ (dj.2 ⟨q,k9,rfl⟩));dsimp only at this;rwa[CR.neg_mul,<-CR.mul_neg]at this
 obtain⟨v,hv,hmv⟩:=top kg jd (m:=m) i1;obtain⟨w,hw,uZ⟩:=top kg jd (m:=-m) i2;obtain⟨v1,v2⟩:=hv.back iL;obtain⟨w1,w2⟩:=hw.back iL;refine⟨v,w,v1,v2,w1,w2,?_⟩;rw[BC,BC]at uZ;have uZ:dot m w<=dot m (z+smul e (-t)):=by rw[<-OF.sub_nonneg]at uZ ⊢;rwa[show -dot m w - -dot m (z+smul e (-t))=dot m (z+smul e (-t))-dot m w from km (dot m w) (dot m (z+smul e (-t))) (λa b=>-a - -b) (λa b=>b-a) d_]at uZ
 refine OF.lt_of_le_of_lt uZ (OF.lt_of_lt_of_le ?_ hmv);rw[k7,iT,k7,iT,<-OF.sub_pos,show dot m z+dot m e*t-(dot m z+dot m e*-t)=dot m e*t+dot m e*t from kZ (dot m z) (dot m e) t (λa b t=>a+b*t-(a+b*-t)) (λa b t=>b*t+b*t) d_];have:=OF.mul_pos me ht;exact OF.add_pos this this
theorem aSs{a b:V3 F}(ha:a≠0):∃ u:V3 F,u≠0/\dot a u=0/\dot b u=0:=by
 by_cases h:ax a b=0
 ·obtain⟨u,hu,OR⟩:=Kw ha;exact⟨u,hu,OR,OB ha h OR⟩
 ·exact⟨_,h,Fs _ _,De _ _⟩
theorem WX{a b c:V3 F}(ha:a≠0):∃ u:V3 F,u≠0/\dot a u<=0/\dot b u<=0/\dot c u<=0:=by
 obtain⟨u,hu,h1,h2⟩:=aSs (b:=b) ha;rcases OF.le_total (dot c u) 0 with h|h
 ·exact⟨u,hu,OF.le_of_eq h1,OF.le_of_eq h2,h⟩
 ·refine⟨-u,λe=>hu (V3.neg_eq_zero.1 e),?_,?_,?_⟩
  ·rw[tD,h1,CR.neg_zero];exact OF.le_refl _
  ·rw[tD,h2,CR.neg_zero];exact OF.le_refl _
  ·rw[tD];exact OF.Kd.2 h
theorem sL.four{ps S:List (HS F)}(hc:Cl ps)(hp:gA ps)(h:sL ps S){x:V3 F}(hx:BJ ps x):4<=S.length:=by
 apply gN;intro ak;have hu:∃ u:V3 F,u≠0/\∀ p∈S,dot p.n u<=0:=by
  match S,ak,h with
  |[],_,_=>
   obtain⟨⟨p,iL,_⟩,_⟩:=hc;exact⟨p.n,hp p iL,λq hq=>(by cases hq)⟩
  |[a],_,h=>
   obtain⟨u,hu,h1,_,_⟩:=WX (a:=a.n) (b:=a.n) (c:=a.n) (hp a (h.sub a s_));exact⟨u,hu,λq hq=>by simp at hq;subst hq;exact h1⟩
  |[a,b],_,h=>
   obtain⟨u,hu,h1,h2,_⟩:=WX (a:=a.n) (b:=b.n) (c:=a.n) (hp a (h.sub a s_));exact⟨u,hu,λq hq=>by simp at hq;rcases hq with rfl|rfl<;>assumption⟩
  |[a,b,c],_,h=>
   obtain⟨u,hu,h1,h2,h3⟩:=WX (a:=a.n) (b:=b.n) (c:=c.n) (hp a (h.sub a s_));exact⟨u,hu,λq hq=>by simp at hq;rcases hq with rfl|rfl|rfl<;>assumption⟩
  |_::_::_::_::_,ak,_=>simp at ak
 obtain⟨u,hu,bd⟩:=hu;obtain⟨r,hr,WY⟩:=hc.bounds hp hu;have hrx:=hx r hr;obtain⟨t,ht⟩:∃ t,t=(r.d-dot r.n x)*(dot r.n u)⁻¹+1:=⟨_,rfl⟩;have vR:0<t:=ht▸OF.add_pos (OF.mul_pos (OF.sub_pos.2 hrx) (OF.inv_pos WY)) OF.zero_lt_one;have ct:ig ps (x+smul u t):=by
  rw[<-h.same];intro q hq;rw[k7,iT];have h1:=bd q hq;have h2:dot q.n u*t<=0:=by rw[<-CR.neg_neg (dot q.n u*t),OF.Kd,<-CR.neg_mul];exact OF.mul_nonneg (OF.neg_nonneg.2 h1) (OF.le_of_lt vR)
  have h3:=OF.add_le_add (OF.le_of_lt (hx q (h.sub q hq))) h2;rwa[CR.add_zero]at h3
 have h1:=ct r hr;rw[k7,iT,ht,CR.mul_add,CR.mul_left_comm,OF.lJ _ (OF.ne_of_gt WY),CR.mul_one,CR.mul_one]at h1;rw[<-OF.sub_nonneg,show r.d-(dot r.n x+(r.d-dot r.n x+dot r.n u))=-dot r.n u from kZ r.d (dot r.n x) (dot r.n u) (λd a b=>d-(a+(d-a+b))) (λd a b=>-b) d_,OF.neg_nonneg]at h1;exact OF.lt_irrefl _ (OF.lt_of_lt_of_le WY h1)
end
end
section
open CR OF
open V3 (dot ax cL smul)
theorem aFj{x:K}:¬OF.az x<=0↔0<x:=by rw[OF.iz];rcases OF.iy x with h|h|h<;>rw[h]<;>decide
theorem aFk{x:K}:OF.az x<=0↔x<=0:=by rw[OF.Th];rcases OF.iy x with h|h|h<;>rw[h]<;>decide
theorem aFl{ps:List (HS K)}{d:V3 K}:x9 ps d=false↔∃ r∈ps,0<dot r.n d:=by
 unfold x9;rw[IH];constructor
 ·rintro⟨r,hr,h⟩
  exact⟨r,hr,aFj.1 (by simpa using h)⟩
 ·rintro⟨r,hr,h⟩
  exact⟨r,hr,by simpa using aFj.2 h⟩
theorem WZ{ps:List (HS K)}{f:Bool}{i:Nat}:∀ n,oU ps f i n=true↔f=true/\∀ j,j<n->nh ps i j=0\/B3 ps (nh ps i j)=true
 |0=>⟨λh=>⟨h,λj hj=>by omega⟩,λh=>h.1⟩
 |n+1=>by
  unfold oU;by_cases h:nh ps i n=0
  ·rw[aw h,WZ n];refine⟨λ⟨h1,h2⟩=>⟨h1,λj hj=>?_⟩,λ⟨h1,h2⟩=>⟨h1,λj hj=>h2 j o_⟩⟩;rcases eF j n with hl|hl
   ·exact h2 j hl
   ·have:j=n:=by omega
    subst this;exact .inl h
  ·rw[ao h,da,WZ n];refine⟨λ⟨⟨h1,h2⟩,h3⟩=>⟨h1,λj hj=>?_⟩,λ⟨h1,h2⟩=>⟨⟨h1,λj hj=>h2 j o_⟩,(h2 n o_).resolve_left h⟩⟩;rcases eF j n with hl|hl
   ·exact h2 j hl
   ·have:j=n:=by omega
    subst this;exact .inr h3
theorem W0{ps:List (HS K)}:∀ n,mw ps n=true↔∀ i j,i<n->j<i->nh ps i j=0\/B3 ps (nh ps i j)=true
 |0=>⟨λ_ i j hi=>by omega,λ_=>rfl⟩
 |n+1=>by
  unfold mw;rw[WZ,W0 n];refine⟨λ⟨h1,h2⟩ i j hi hj=>?_,λh=>⟨λi j hi hj=>h i j o_ hj,λj hj=>h n j o_ hj⟩⟩;rcases eF i n with hl|hl
  ·exact h1 i j hl hj
  ·have:i=n:=by omega
   subst this;exact h2 j hj
theorem QD{ps:List (HS K)}:wm ps=true↔Cl ps:=by
 unfold wm DZ;rw[da,bh];have sw:∀ p q:HS K,ax q.n p.n=-ax p.n q.n:=λp q=>V3.HM _ _;have bad:∀{i j:Nat},Am ps i j=false↔(nh ps i j≠0->(∃ r∈ps,0<dot r.n (nh ps i j))/\∃ r∈ps,0<dot r.n (-nh ps i j)):=by
  intro i j;unfold Am;rw[Bool.and_eq_false_iff,Mq,aFl,aFl,Zr];constructor
  ·rintro(h|h) h0
   ·exact absurd h0 h
   ·exact h
  ·intro h;by_cases h0:nh ps i j≠0
   ·exact .inr (h h0)
   ·exact .inl h0
 have Ar:∀{p q:HS K} {i j:Nat},ps[i]?=some p->ps[j]?=some q->nh ps i j=ax p.n q.n:=λhp hq=>by unfold nh;rw[IA hp,IA hq]
 constructor
 ·rintro⟨h1,h2⟩
  have hb:∀ i j,i<ps.length->j<i->Am ps i j=false:=λi j hi hj=>by have:=h1 i (kh.2 hi);rw[bh]at this;simpa using this j (kh.2 hj)
  have nU:¬mw ps ps.length=true:=by simpa using h2
  rw[W0]at nU;refine⟨?_,λp hp q hq aU=>?_⟩
  ·apply gN;intro gE;refine nU λi j hi hj=>.inl ?_;rw[Ar (bf hi) (bf (mf hj hi))];exact gN λh=>gE ⟨_,dM _,_,dM _,h⟩
  ·obtain⟨i,hi,rfl⟩:=kM hp;obtain⟨j,hj,rfl⟩:=kM hq;rcases sJ i j with h|h|h
   ·have:=bad.1 (hb j i hj h);rw[Ar (bf hj) (bf hi)]at this;rw[sw ps[j] ps[i]];exact(this λe=>aU (by rw[sw,e];exact V3.neg_eq_zero.2 rfl)).2
   ·subst h;exact absurd (V3.Kv _) aU
   ·have:=bad.1 (hb i j hi h);rw[Ar (bf hi) (bf hj)]at this;exact(this aU).1
 ·rintro⟨⟨p,hp,q,hq,aU⟩,bd⟩
  refine⟨λi hi=>?_,?_⟩
  ·have hi:=kh.1 hi;rw[bh];intro j hj;have hj:=kh.1 hj;have hp:=bf hi;have hq:=bf (mf hj hi);have:Am ps i j=false:=bad.2 λh0=>by rw[Ar hp hq]at h0 ⊢;refine⟨bd _ (cQ hp) _ (cQ hq) h0,?_⟩;rw[<-sw];exact bd _ (cQ hq) _ (cQ hp) λe=>h0 (by rw[sw,e];exact V3.neg_eq_zero.2 rfl)
   rw[this];rfl
  ·obtain⟨i,hi,rfl⟩:=kM hp;obtain⟨j,hj,rfl⟩:=kM hq;have key:∀ i j (hi:i<ps.length) (hj:j<ps.length),j<i->ax ps[i].n ps[j].n≠0->(!mw ps ps.length)=true:=by
    intro i j hi hj o5 aU;have:mw ps ps.length≠true:=λhf=>by
     rcases(W0 _).1 hf i j hi o5 with h|h
     ·rw[Ar (bf hi) (bf hj)]at h;exact aU h
     ·rw[Ar (bf hi) (bf hj)]at h;obtain⟨r,hr,od⟩:=bd _ (dM hi) _ (dM hj) aU;unfold B3 at h;rw[bh]at h;have:=kH (h r hr);rw[this]at od;exact OF.lt_irrefl _ od
    simpa using this
   rcases sJ i j with h|h|h
   ·exact key j i hj hi h λe=>aU (by rw[sw,e];exact V3.neg_eq_zero.2 rfl)
   ·subst h;exact absurd (V3.Kv _) aU
   ·exact key i j hi hj h aU
theorem W3(v:V3 K):∀ l:List (V3 K),aVW l v=mq v l
 |[]=>rfl
 |a::l=>by
  unfold aVW mq;rw[W3 v l];have:(0<dY a v)↔dY a v=1:=by rcases HP a v with h|h|h<;>rw[h]<;>decide
  by_cases h0:dY a v=0
  ·rw[aw h0,aw h0]
  ·rw[ao h0,ao h0];by_cases h1:dY a v=1
   ·rw[aw h1,aw (this.2 h1)]
   ·rw[ao h1,ao (λh=>h1 (this.1 h))]
theorem aFm{p q r:HS K}(h:cL p.n q.n r.n≠0):dV p (kQ p q r)/\dV q (kQ p q r)/\dV r (kQ p q r):=by unfold dV kQ Ip;rw[V3.iT,V3.iT,V3.iT,aPO,CR.one_mul];have e1:=aSn p.n q.n r.n p.d q.d r.d;have e2:=aSo p.n q.n r.n p.d q.d r.d;have e3:=aSp p.n q.n r.n p.d q.d r.d;rw[e1,e2,e3,CR.mul_assoc,CR.mul_assoc,CR.mul_assoc,OF.lJ _ h,CR.mul_one,CR.mul_one,CR.mul_one];exact⟨rfl,rfl,rfl⟩
theorem aSt{p q r:HS K}(h:cL p.n q.n r.n≠0){x:V3 K}(hp:dV p x)(hq:dV q x)(hr:dV r x):x=kQ p q r:=by
 obtain⟨h1,h2,h3⟩:=aFm h;refine V3.sub_eq_zero.1 (V3.HN h ?_ ?_ ?_)
 ·rw[V3.k8,show dot p.n x=p.d from hp,show dot p.n (kQ p q r)=p.d from h1,OF.sub_self]
 ·rw[V3.k8,show dot q.n x=q.d from hq,show dot q.n (kQ p q r)=q.d from h2,OF.sub_self]
 ·rw[V3.k8,show dot r.n x=r.d from hr,show dot r.n (kQ p q r)=r.d from h3,OF.sub_self]
def D2(ps:List (HS K))(i j k:Nat):Prop:=cL (eh ps i).n (eh ps j).n (eh ps k).n≠0/\An ps i j k (kQ (eh ps i) (eh ps j) (eh ps k))=true
theorem aSu{ps:List (HS K)}{acc:List (V3 K)}{i j k:Nat}{x:V3 K}:x∈ub ps acc i j k↔x∈acc\/(D2 ps i j k/\x=kQ (eh ps i) (eh ps j) (eh ps k)):=by
 unfold ub D2;by_cases h:cL (eh ps i).n (eh ps j).n (eh ps k).n=0
 ·rw[aw h];exact⟨.inl,λe=>e.elim id λe=>absurd h e.1.1⟩
 ·rw[ao h];by_cases h2:An ps i j k (kQ (eh ps i) (eh ps j) (eh ps k))=true
  ·rw[aw h2,W3,OT];exact⟨λe=>e.elim (λe=>.inr ⟨⟨h,h2⟩,e⟩) .inl,λe=>e.elim .inr λe=>.inl e.2⟩
  ·rw[ao h2];exact⟨.inl,λe=>e.elim id λe=>absurd e.1.2 h2⟩
theorem aSv{ps:List (HS K)}{acc:List (V3 K)}{i j k:Nat}(h:acc.Pairwise jH):(ub ps acc i j k).Pairwise jH:=by
 unfold ub;split
 ·exact h
 ·split
  ·rw[W3];exact UA h
  ·exact h
theorem aFn{ps:List (HS K)}{acc:List (V3 K)}{i j:Nat}{x:V3 K}:∀ n,x∈oV ps acc i j n↔x∈acc\/∃ k,k<n/\D2 ps i j k/\x=kQ (eh ps i) (eh ps j) (eh ps k)
 |0=>⟨.inl,λe=>e.elim id λ⟨k,h,_⟩=>by omega⟩
 |n+1=>by
  unfold oV;rw[aSu,aFn n];constructor
  ·rintro((h|⟨k,h1,h2⟩)|h)
   ·exact .inl h
   ·exact .inr ⟨k,by omega,h2⟩
   ·exact .inr ⟨n,by omega,h⟩
  ·rintro(h|⟨k,h1,h2⟩)
   ·exact .inl (.inl h)
   ·rcases eF k n with hl|hl
    ·exact .inl (.inr ⟨k,hl,h2⟩)
    ·have:k=n:=by omega
     subst this;exact .inr h2
theorem aFo{ps:List (HS K)}{acc:List (V3 K)}{i:Nat}{x:V3 K}:∀ n,x∈nP ps acc i n↔x∈acc\/∃ j k,j<n/\k<j/\D2 ps i j k/\x=kQ (eh ps i) (eh ps j) (eh ps k)
 |0=>⟨.inl,λe=>e.elim id λ⟨k,_,h,_⟩=>by omega⟩
 |n+1=>by
  unfold nP;rw[aFn,aFo n];constructor
  ·rintro((h|⟨j,k,h1,h2⟩)|⟨k,h⟩)
   ·exact .inl h
   ·exact .inr ⟨j,k,by omega,h2⟩
   ·exact .inr ⟨n,k,by omega,h⟩
  ·rintro(h|⟨j,k,h1,h2⟩)
   ·exact .inl (.inl h)
   ·rcases eF j n with hl|hl
    ·exact .inl (.inr ⟨j,k,hl,h2⟩)
    ·have:j=n:=by omega
     subst this;exact .inr ⟨k,h2⟩
theorem aFp{ps:List (HS K)}{x:V3 K}:∀ n,x∈rf ps n↔∃ i j k,i<n/\j<i/\k<j/\D2 ps i j k/\x=kQ (eh ps i) (eh ps j) (eh ps k)
 |0=>⟨λh=>(by cases h),λ⟨i,_,_,h,_⟩=>by omega⟩
 |n+1=>by
  unfold rf;rw[aFo,aFp n];constructor
  ·rintro(⟨i,j,k,h1,h2⟩|⟨j,k,h⟩)
   ·exact⟨i,j,k,by omega,h2⟩
   ·exact⟨n,j,k,by omega,h⟩
  ·rintro⟨i,j,k,h1,h2⟩
   rcases eF i n with hl|hl
   ·exact .inl ⟨i,j,k,hl,h2⟩
   ·have:i=n:=by omega
    subst this;exact .inr ⟨j,k,h2⟩
theorem aFq{ps:List (HS K)}{acc:List (V3 K)}{i j:Nat}(h:acc.Pairwise jH):∀ n,(oV ps acc i j n).Pairwise jH
 |0=>h
 |n+1=>aSv (aFq h n)
theorem aFr{ps:List (HS K)}{acc:List (V3 K)}{i:Nat}(h:acc.Pairwise jH):∀ n,(nP ps acc i n).Pairwise jH
 |0=>h
 |n+1=>aFq (aFr h n) _
theorem aFs{ps:List (HS K)}:∀ n,(rf ps n).Pairwise jH
 |0=>aB1
 |n+1=>aFr (aFs n) _
theorem aSw{ps:List (HS K)}{i j k:Nat}(hi:i<ps.length)(hj:j<ps.length)(hk:k<ps.length)(h:D2 ps i j k):mn ps (kQ (eh ps i) (eh ps j) (eh ps k)):=by
 obtain⟨hd,hb⟩:=h;obtain⟨t1,t2,t3⟩:=aFm hd;have hJ:=bf hi;have il:=bf hj;have gD:=bf hk;have mi:eh ps i∈ps:=by rw[pC hJ];exact dM hi
 have mj:eh ps j∈ps:=by rw[pC il];exact dM hj
 have mk:eh ps k∈ps:=by rw[pC gD];exact dM hk
 refine⟨λp hp=>?_,_,mi,_,mj,_,mk,hd,t1,t2,t3⟩;obtain⟨l,hl,rfl⟩:=kM hp;unfold An at hb;rw[bh]at hb;have:=hb l (kh.2 hl);unfold IB at this;rw[pC (bf hl)]at this;simp only[uy,sZ]at this;rcases this with rfl|rfl|rfl|h
 ·rw[pC hJ]at t1 ⊢;exact OF.le_of_eq t1
 ·rw[pC il]at t2 ⊢;exact OF.le_of_eq t2
 ·rw[pC gD]at t3 ⊢;exact OF.le_of_eq t3
 ·have:=aFk.1 h;rw[<-OF.sub_nonneg];rw[<-OF.neg_nonneg,OF.neg_sub]at this;exact this
theorem II{ps:List (HS K)}{i j k:Nat}{p q r:HS K}{x:V3 K}(hp:ps[i]?=some p)(hq:ps[j]?=some q)(hr:ps[k]?=some r)(hd:cL p.n q.n r.n≠0)(hx:ig ps x)(t1:dV p x)(t2:dV q x)(t3:dV r x):
  D2 ps i j k/\x=kQ (eh ps i) (eh ps j) (eh ps k):=by
 unfold D2;rw[pC hp,pC hq,pC hr];have e:=aSt hd t1 t2 t3;refine⟨⟨hd,?_⟩,e⟩;rw[<-e];unfold An;rw[bh];intro l hl;have hl:=kh.1 hl;rw[pC (bf hl)];unfold IB;simp only[uy,sZ];refine .inr (.inr (.inr (aFk.2 ?_)));have:=hx _ (dM hl);rw[<-OF.neg_nonneg,OF.neg_sub];exact OF.sub_nonneg.2 this
theorem QE{ps:List (HS K)}{x:V3 K}:x∈eT ps↔mn ps x:=by
 unfold eT;rw[aFp];constructor
 ·rintro⟨i,j,k,h1,h2,h3,h4,rfl⟩
  exact aSw h1 o_ o_ h4
 ·rintro⟨ct,p,hp,q,hq,r,hr,hd,t1,t2,t3⟩
  obtain⟨a,ha,rfl⟩:=kM hp;obtain⟨b,hb,rfl⟩:=kM hq;obtain⟨c,hc,rfl⟩:=kM hr;have iQ:=bf ha;have jz:=bf hb;have kg:=bf hc;have same:∀ u w:V3 K,cL u u w=0:=WU;have W5:∀ u w:V3 K,cL u w w=0:=WV;have W6:∀ u w:V3 K,cL u w u=0:=WW;have ab:a≠b:=λe=>by subst e;exact hd (same _ _)
  have bc:b≠c:=λe=>by subst e;exact hd (W5 _ _)
  have ac:a≠c:=λe=>by subst e;exact hd (W6 _ _)
  have s1:∀{u v w:V3 K},cL u v w≠0->cL u w v≠0:=λ{u v w} h e=>h (by rw[V3.aBo,e,CR.neg_zero]);have r1:∀{u v w:V3 K},cL u v w≠0->cL v w u≠0:=λ{u v w} h e=>h (by rw[V3.Oz];exact e);rcases sJ a b with h1|h1|h1
  ·rcases sJ b c with h2|h2|h2
   ·exact⟨c,b,a,hc,h2,h1,II kg jz iQ (r1 (s1 (r1 (r1 (r1 hd))))) ct t3 t2 t1⟩
   ·exact absurd h2 bc
   ·rcases sJ a c with h3|h3|h3
    ·exact⟨b,c,a,hb,h2,h3,II jz kg iQ (r1 hd) ct t2 t3 t1⟩
    ·exact absurd h3 ac
    ·exact⟨b,a,c,hb,h1,h3,II jz iQ kg (s1 (r1 hd)) ct t2 t1 t3⟩
  ·exact absurd h1 ab
  ·rcases sJ a c with h2|h2|h2
   ·exact⟨c,a,b,hc,h2,h1,II kg iQ jz (r1 (r1 hd)) ct t3 t1 t2⟩
   ·exact absurd h2 ac
   ·rcases sJ b c with h3|h3|h3
    ·exact⟨a,c,b,ha,h2,h3,II iQ kg jz (s1 hd) ct t1 t3 t2⟩
    ·exact absurd h3 bc
    ·exact⟨a,b,c,ha,h1,h3,II iQ jz kg hd ct t1 t2 t3⟩
theorem aSx(ps:List (HS K)):(eT ps).Pairwise jH:=aFs _
theorem sP{ps:List (HS K)}(hc:Cl ps)(hp:gA ps)(hf:kt ps):aM ps=eT ps:=by unfold aM;refine UB (UD _) (aSx ps) λx=>?_;rw[UC,QE,aRb hc hp (aLq hc hp hf)]
theorem aFt{ps:List (HS K)}(hc:Cl ps)(hp:gA ps)(hf:kt ps){x:V3 K}:x∈aM ps↔mn ps x:=by rw[sP hc hp hf,QE]
theorem QF{vs:List (V3 K)}:vf vs=false↔OQ vs:=by
 unfold vf;rw[IH];constructor
 ·rintro⟨i,hi,h⟩
  have hi:=kh.1 hi;unfold D0 at h;rw[O6,IH]at h;obtain⟨k,hk,h⟩:=h;have hk:=kh.1 hk;unfold Ge at h;rw[O6,IH]at h;obtain⟨j,hj,h⟩:=h;have hj:=kh.1 hj;unfold LD at h;cases vs with
  |nil=>simp at hi
  |cons o rest=>
   simp only[oA,Nj]at hi;have get:∀{n:Nat} (hn:n<rest.length),aJ (o::rest) (n+1)=rest[n]:=λhn=>by unfold aJ;simp[bf hn]
   rw[get hi,get o_,get o_,show aJ (o::rest) 0=o from rfl]at h;refine⟨o,rest,rfl,rest[j],dM _,rest[i],dM _,rest[k],dM _,λe=>?_⟩;refine h (aC ((OF.e8 _).2 ?_));rw[V3.zo];exact e
 ·rintro⟨o,rest,rfl,a,ha,b,hb,c,hc,hd⟩
  obtain⟨a,la,rfl⟩:=kM ha;obtain⟨b,lb,rfl⟩:=kM hb;obtain⟨c,lc,rfl⟩:=kM hc;have get:∀{n:Nat} (hn:n<rest.length),aJ (o::rest) (n+1)=rest[n]:=λhn=>by unfold aJ;simp[bf hn]
  have fin:∀(i k j:Nat) (hi:i<rest.length) (hk:k<rest.length) (hj:j<rest.length),k<i->j<k->cL (rest[j]-o) (rest[i]-o) (rest[k]-o)≠0->∃ x∈List.range ((o::rest).length-1),¬D0 (o::rest) x=true:=by intro i k j hi hk hj hki bN hd;refine⟨i,kh.2 (by simpa using hi),?_⟩;unfold D0;rw[O6,IH];refine⟨k,kh.2 hki,?_⟩;unfold Ge;rw[O6,IH];refine⟨j,kh.2 bN,?_⟩;unfold LD;rw[get hi,get hk,get hj,show aJ (o::rest) 0=o from rfl,sZ,OF.e8,V3.zo];exact hd
  have same:∀ u w:V3 K,cL u u w=0:=WU;have W5:∀ u w:V3 K,cL u w w=0:=WV;have W6:∀ u w:V3 K,cL u w u=0:=WW;have ab:a≠b:=λe=>by subst e;exact hd (same _ _)
  have bc:b≠c:=λe=>by subst e;exact hd (W5 _ _)
  have ac:a≠c:=λe=>by subst e;exact hd (W6 _ _)
  have s1:∀{u v w:V3 K},cL u v w≠0->cL u w v≠0:=λ{u v w} h e=>h (by rw[V3.aBo,e,CR.neg_zero]);have r1:∀{u v w:V3 K},cL u v w≠0->cL v w u≠0:=λ{u v w} h e=>h (by rw[V3.Oz];exact e);rcases sJ a b with h1|h1|h1
  ·rcases sJ b c with h2|h2|h2
   ·exact fin c b a lc lb la h2 h1 (s1 hd)
   ·exact absurd h2 bc
   ·rcases sJ a c with h3|h3|h3
    ·exact fin b c a lb lc la h2 h3 hd
    ·exact absurd h3 ac
    ·exact fin b a c lb la lc h1 h3 (r1 (s1 hd))
  ·exact absurd h1 ab
  ·rcases sJ a c with h2|h2|h2
   ·exact fin c a b lc la lb h2 h1 (r1 hd)
   ·exact absurd h2 ac
   ·rcases sJ b c with h3|h3|h3
    ·exact fin a c b la lc lb h2 h3 (r1 (r1 (s1 hd)))
    ·exact absurd h3 bc
    ·exact fin a b c la lb lc h1 h3 (r1 (r1 hd))
theorem aFu{ι:Type}{R:ι->ι->Prop}:∀{l:List ι},pX R l->∀(i:Nat) (x y:ι),l[i]?=some x->l[i+1]?=some y->R x y
 |[],_,i,x,y,h,_=>by simp at h
 |[a],_,i,x,y,_,h=>by simp at h
 |a::b::l,hs,0,x,y,h,k=>by simp at h k;subst h;subst k;exact hs.1
 |a::b::l,hs,i+1,x,y,h,k=>aFu hs.2 i x y (by simpa using h) (by simpa using k)
theorem aFv{g:V3 K}{vs:List (V3 K)}{on:List Nat}{a c:Nat}:vg g vs on a c=true↔c≠a/\oP g (aJ vs) on a c:=by
 unfold vg LI;rw[da,bh];have e:∀ b,IE g vs a c b=true↔(b=a\/b=c\/0<turn g (aJ vs a) (aJ vs c) (aJ vs b)):=by
  intro b;unfold IE Qw;simp only[uy,sZ];have:(0<OF.az (cL g (aJ vs c-aJ vs a) (aJ vs b-aJ vs a)))↔0<turn g (aJ vs a) (aJ vs c) (aJ vs b):=by rw[OF.iz];show 0<OF.az (turn g (aJ vs a) (aJ vs c) (aJ vs b))↔_;rcases OF.iy (turn g (aJ vs a) (aJ vs c) (aJ vs b))with h|h|h<;>rw[h]<;>decide
  rw[this]
 constructor
 ·rintro⟨h1,h2⟩
  refine⟨by simpa using h1,λb hb xz zq=>?_⟩;rcases(e b).1 (h2 b hb)with h|h|h
  ·exact absurd h xz
  ·exact absurd h zq
  ·exact h
 ·rintro⟨h1,h2⟩
  refine⟨by simpa using h1,λb hb=>(e b).2 ?_⟩;by_cases xz:b=a
  ·exact .inl xz
  ·by_cases zq:b=c
   ·exact .inr (.inl zq)
   ·exact .inr (.inr (h2 b hb xz zq))
theorem D3{p:HS K}{vs:List (V3 K)}{i:Nat}:i∈cz p vs vs.length↔i<vs.length/\dV p (aJ vs i):=by unfold cz dV;rw[aEt,kh,sZ,OF.sub_eq_zero]
theorem aFw(p:HS K)(vs:List (V3 K)):(cz p vs vs.length).Pairwise (·<·):=by unfold cz;exact List.Pairwise.filter _ List.pairwise_lt_range
theorem W7{vs:List (V3 K)}{i:Nat}(h:i<vs.length):aJ vs i∈vs:=cQ (jV h)
theorem aSy{vs:List (V3 K)}{v:V3 K}(h:v∈vs):∃ i,i<vs.length/\aJ vs i=v:=by obtain⟨i,hi,rfl⟩:=kM h;refine⟨i,hi,?_⟩;have:=jV hi;rw[bf hi]at this;injection this with this;exact this.symm
structure sQ(ps:List (HS K))(vs:List (V3 K)):Prop where
 sorted:vs.Pairwise jH
 mem:∀ v,v∈vs↔mn ps v
theorem sQ.lt{ps:List (HS K)}{vs:List (V3 K)}(h:sQ ps vs){i j:Nat}(mB:i<j)(hj:j<vs.length):jH (aJ vs i) (aJ vs j):=by have h1:=jV (vs:=vs) (i:=i) o_;have h2:=jV hj;rw[bf o_]at h1 h2;injection h1 with h1;injection h2 with h2;rw[<-h1,<-h2];exact P7.1 h.sorted i j o_ hj mB
theorem sQ.inj{ps:List (HS K)}{vs:List (V3 K)}(h:sQ ps vs){i j:Nat}(hi:i<vs.length)(hj:j<vs.length)(e:aJ vs i=aJ vs j):i=j:=by
 rcases sJ i j with hl|hl|hl
 ·have:=h.lt hl hj;rw[e]at this;exact absurd this (Di _)
 ·exact hl
 ·have:=h.lt hl hi;rw[e]at this;exact absurd this (Di _)
section
variable{ps:List (HS K)}{vs:List (V3 K)}{p:HS K}
theorem sQ.conv(h:sQ ps vs):Conv p.n (aJ vs) (cz p vs vs.length):=
 aLi (ps:=ps) (p:=p) (λi hi=>by obtain⟨h1,h2⟩:=D3.1 hi;exact⟨(h.mem _).1 (W7 h1),h2⟩) λi hi j hj e=>h.inj (D3.1 hi).1 (D3.1 hj).1 e
theorem sQ.sort(h:sQ ps vs):xx (aJ vs) aBI (cz p vs vs.length):=by unfold xx;refine List.Pairwise.imp_of_mem (λ{a b} ha hb ak=>?_) (aFw p vs);have:=h.lt ak (D3.1 hb).1;exact KD.1 this
theorem aSz(p:HS K)(vs:List (V3 K)):(cz p vs vs.length).Nodup:=(aFw p vs).imp λ{a b} h=>Nat.ne_of_lt h
theorem sQ.loop(h:sQ ps vs)(hp:p.n≠0)(hl:¬(cz p vs vs.length).length<3):
  Qz p.n vs (cz p vs vs.length)=false/\aV3 p.n vs (cz p vs vs.length) (order p.n (aJ vs) (cz p vs vs.length))/\(order p.n (aJ vs) (cz p vs vs.length)).length=(cz p vs vs.length).length:=by
 have hc:=h.conv (p:=p);have hs:=h.sort (p:=p);have jQ:=aSz p vs;have ct:∀ a∈cz p vs vs.length,∀ b∈cz p vs vs.length,aJ vs a=aJ vs b->a=b:=λa ha b hb e=>h.inj (D3.1 ha).1 (D3.1 hb).1 e;generalize gJ:cz p vs vs.length=on at *
 match on,hl,hc,hs,jQ,ct with
 |a::b::c::l,_,hc,hs,jQ,ct=>
  obtain⟨m,e1,e2,e3,e4⟩:=aKU hp hc hs;have hlen:(a::m).length=(a::b::c::l).length:=((List.perm_ext_iff_of_nodup e2 jQ).2 e3).length_eq;refine⟨?_,⟨?_,?_,λi x y hx hy=>?_⟩,?_⟩
  ·show(c::l).all (B5 p.n vs a b)=false;rw[IH];refine⟨c,aV ..,?_⟩;unfold B5 Qw;rw[sZ,OF.e8];simp only[List.nodup_cons,cx,not_or]at jQ;exact hc.aBx hp (aV ..) (bF _ (aV ..)) (bF _ (bF _ (aV ..))) jQ.1.1 jQ.1.2.1 jQ.2.1.1
  ·rw[e1,hlen]
  ·rw[e1];rfl
  ·rw[e1]at hx hy;have Gr:=(ew.1 hy).1;have kO:=aFu e4 i x y (by rw[Ji o_];exact hx) (by rw[Ji Gr];exact hy);have hym:=(e3 y).1 (cQ hy);have kj:y≠x:=by intro e;subst e;have Wu:=(ew.1 hx).1;have h1:=(ew.1 hx).2;have h2:=(ew.1 hy).2;have:=(P7.1 e2) i (i+1) Wu Gr o_;exact this (h1.trans h2.symm)
   obtain⟨k,hk,hke⟩:=kM hym;refine⟨k,by rw[bf hk,hke],aFv.2 ⟨kj,kO⟩,λj z hj hz=>?_⟩;cases hf:vg p.n vs (a::b::c::l) x z with
   |false=>rfl
   |true=>
    obtain⟨q1,q2⟩:=aFv.1 hf;have:=aBE (pt:=aJ vs) (n:=p.n) ct hym (cQ hz) kj q1 kO q2;subst this;have Qx:=(ew.1 hz).1;have hje:=(ew.1 hz).2;exact absurd (hje.trans hke.symm) (P7.1 jQ j k Qx hk hj)
  ·rw[e1,hlen]
 |[],hl,_,_,_,_=>simp at hl
 |[_],hl,_,_,_,_=>simp at hl
 |[_,_],hl,_,_,_,_=>simp at hl
theorem sQ.IG(h:sQ ps vs)(hp:p.n≠0)(i:Nat):qX ps vs i p=if pA ps i p then[]else if(cz p vs vs.length).length<3 then[]else[(i,order p.n (aJ vs) (cz p vs vs.length))]:=by
 unfold qX;by_cases h1:pA ps i p=true
 ·rw[aw h1];exact aw h1
 ·rw[ao h1];refine(ao h1).trans ?_;by_cases h2:(cz p vs vs.length).length<3
  ·rw[aw h2,aw h2]
  ·rw[ao h2,ao h2,aw (by rw[(h.loop hp h2).2.2];omega)]
theorem aFx:∀{I J:List Nat},I.Nodup->(∀ x∈I,x∈J)->I.length<=J.length
 |[],_,_,_=>kT _
 |x::I,J,hn,hs=>by
  obtain⟨A,B,rfl⟩:=List.append_of_mem (hs x (aV ..));rw[List.nodup_cons]at hn;have:=aFx (J:=A++B) hn.2 λy hy=>by
   have h1:=hs y (bF _ hy);rcases ee.1 h1 with h|h
   ·exact sO _ h
   ·rcases cx.1 h with rfl|h
    ·exact absurd hy hn.1
    ·exact yf _ h
  simp only[iZ,oA]at this ⊢;omega
theorem aFy(f:Nat->List (Nat×List Nat))(P:Nat->Bool)(h:∀ i,P i=true->f i≠[]):∀ l:List Nat,(l.filter P).length<=(l.flatMap f).length
 |[]=>bj _
 |i::l=>by
  rw[List.flatMap_cons,iZ,Mw];have:=aFy f P h l;split
  ·rename_i hp;have:=List.length_pos_iff.2 (h i hp);rw[oA];omega
  ·omega
theorem aFz{p q:HS K}(hp:p.n≠0)(hq:q.n≠0)(h:canon p=canon q)(v:V3 K):(dot p.n v<=p.d↔dot q.n v<=q.d)/\(dV p v↔dV q v):=by
 obtain⟨k,hk,rfl⟩:=(aSm hp hq).1 h;unfold dV D1
 try dsimp only
 rw[V3.aKB,CR.mul_comm (dot p.n v),CR.mul_comm p.d];refine⟨(OF.mul_le_mul_left hk).symm,λh=>by rw[h],λh=>?_⟩;have Db:k≠0:=OF.ne_of_gt hk;have:k⁻¹*(k*dot p.n v)=k⁻¹*(k*p.d):=by rw[h]
 rwa[<-CR.mul_assoc,<-CR.mul_assoc,OF.inv_mul Db,CR.one_mul,CR.one_mul]at this
theorem sL.on(hc:Cl ps)(hp:gA ps)(hv:sQ ps vs){x:V3 K}(hx:BJ ps x){A B:List (HS K)}(h:sL ps (A++p::B)):¬(cz p vs vs.length).length<3:=by
 intro ak;have fT:=hp p (h.sub p (yf _ (aV ..)));have idx:∀ v,mn ps v->dV p v->∃ i∈cz p vs vs.length,aJ vs i=v:=by intro v h1 h2;obtain⟨i,hi,e⟩:=aSy ((hv.mem v).2 h1);exact⟨i,D3.2 ⟨hi,by rw[e];exact h2⟩,e⟩
 have pl:∀ i∈cz p vs vs.length,dot p.n (aJ vs i)=p.d:=λi hi=>(D3.1 hi).2;obtain⟨u,hu,BE⟩:=Kw fT;generalize cz p vs vs.length=on at *
 match on,ak,idx,pl with
 |[],_,idx,_=>
  obtain⟨v,w,v1,v2,_⟩:=h.IG hc hp hx (Ft fT hu BE);obtain⟨i,hi,_⟩:=idx v v1 v2;cases hi
 |[o],_,idx,_=>
  obtain⟨v,w,v1,v2,w1,w2,ak⟩:=h.IG hc hp hx (Ft fT hu BE);obtain⟨i,hi,e⟩:=idx v v1 v2;obtain⟨j,hj,e'⟩:=idx w w1 w2;simp at hi hj;subst hi;subst hj;rw[<-e,<-e']at ak;exact OF.lt_irrefl _ ak
 |[o,a],_,idx,pl=>
  by_cases hd:aJ vs a-aJ vs o=0
  ·have hd:=V3.sub_eq_zero.1 hd;obtain⟨v,w,v1,v2,w1,w2,ak⟩:=h.IG hc hp hx (Ft fT hu BE);obtain⟨i,hi,e⟩:=idx v v1 v2;obtain⟨j,hj,e'⟩:=idx w w1 w2;simp at hi hj;rw[<-e,<-e']at ak;rcases hi with rfl|rfl<;>rcases hj with rfl|rfl<;>first|exact OF.lt_irrefl _ ak|(rw[hd]at ak;exact OF.lt_irrefl _ ak)
  ·have hdp:dot p.n (aJ vs a-aJ vs o)=0:=by rw[V3.k8,pl a s_,pl o s_,OF.sub_self]
   have cX:=Ft fT hd hdp;have dB:=Ft fT cX (V3.Fs _ _);obtain⟨v,w,v1,v2,w1,w2,ak⟩:=h.IG hc hp hx dB;obtain⟨i,hi,e⟩:=idx v v1 v2;obtain⟨j,hj,e'⟩:=idx w w1 w2;have heq:dot (ax p.n (aJ vs a-aJ vs o)) (aJ vs a)=dot (ax p.n (aJ vs a-aJ vs o)) (aJ vs o):=by rw[<-OF.sub_eq_zero,<-V3.k8,V3.zo];exact V3.De _ _
   simp at hi hj;rw[<-e,<-e']at ak;rcases hi with rfl|rfl<;>rcases hj with rfl|rfl<;>first|exact OF.lt_irrefl _ ak|(rw[heq]at ak;exact OF.lt_irrefl _ ak)
 |_::_::_::_,ak,_,_=>simp only[oA]at ak;omega
theorem aSA(hc:Cl ps)(hp:gA ps)(hv:sQ ps vs)(hf:kt ps):4<=(ft ps vs ps.length).length:=by
 obtain⟨x,hx⟩:=hf;obtain⟨S,hS⟩:=aSq ps;have h4:=hS.four hc hp hx;obtain⟨fi,j6⟩:∃ fi:HS K->Nat,fi=λp=>ps.findIdx λq=>decide (canon q=canon p):=⟨_,rfl⟩;have W8:∀ p∈S,fi p<ps.length:=λp hp=>by rw[j6];exact List.findIdx_lt_length_of_exists ⟨p,hS.sub p hp,by simp⟩
 have Ar:∀ p (hp:p∈S),canon (ps[fi p]'(W8 p hp))=canon p:=λp hp=>by have h1:=W8 p hp;have:=List.findIdx_getElem (xs:=ps) (p:=λq=>decide (canon q=canon p)) (w:=by rw[j6]at h1;exact h1);subst j6;simpa using this
 have split:∀ i (hi:i<S.length),S=S.take i++S[i]::S.drop (i+1):=λi hi=>by rw[<-O1 hi,H5]
 have aU:S.Pairwise λp q=>canon p≠canon q:=by
  rw[P7];intro i j hi hj mB e;have hl:sL ps (S.take i++S[i]::S.drop (i+1)):=by rw[<-split i hi];exact hS
  obtain⟨y,hy,ak⟩:=hl.alone;have hm:S[j]∈S.drop (i+1):=cQ (i:=j-(i+1)) (by rw[D8,show i+1+(j-(i+1))=j by omega,bf hj])
  have:=hy _ (yf _ hm);have hs:=(aFz (hp _ (hS.sub _ (dM hi))) (hp _ (hS.sub _ (dM hj))) e y).1;exact OF.lt_irrefl _ (OF.lt_of_lt_of_le ak (hs.2 this))
 have hI:(S.map fi).Nodup:=by
  unfold List.Nodup;rw[List.pairwise_map];refine List.Pairwise.imp_of_mem (λ{a b} ha hb b9 e=>b9 ?_) aU;have h1:=Ar a ha;have h2:=Ar b hb;rw[<-h1,<-h2]
  congr 1
  have:∀(i j:Nat) (hi:i<ps.length) (hj:j<ps.length),i=j->ps[i]=ps[j]:=λi j hi hj e=>by subst e;rfl
  exact this _ _ _ _ e
 have aSB:∀ i∈S.map fi,i<ps.length/\lQ ps vs i≠[]:=by
  intro i hi;obtain⟨p,QG,rfl⟩:=dj.1 hi;have ak:=W8 p QG;have aFA:=Ar p QG;refine⟨ak,?_⟩;unfold lQ;rw[bf ak];dsimp only;have fT:=hp _ (hS.sub p QG);have zz:=hp _ (dM ak);rw[hv.IG zz];have tX:¬pA ps (fi p) ps[fi p]=true:=by
   unfold pA;rw[sY]
   rintro⟨q,hq,hd⟩
   obtain⟨j,hj,rfl⟩:=kM hq;rw[jw]at hj;rw[WB,aFA]at hd;have hd:=kH hd;have hjf:j<fi p:=by omega
   rw[j6]at hjf;have:=List.not_of_lt_findIdx hjf;simp[hd]at this
  rw[ao tX];obtain⟨k,hk,rfl⟩:=kM QG;have hl:sL ps (S.take k++S[k]::S.drop (k+1)):=by rw[<-split k hk];exact hS
  have gJ:=sL.on hc hp hv hx hl;have heq:cz ps[fi S[k]] vs vs.length=cz S[k] vs vs.length:=by unfold cz;refine List.filter_congr λi _=>?_;have hs:=(aFz zz fT aFA (aJ vs i)).2;unfold dV at hs;rw[rI,OF.sub_eq_zero,OF.sub_eq_zero];exact hs
  rw[heq,ao gJ];exact n_
 have h1:=aFx (J:=(List.range ps.length).filter λi=>decide (lQ ps vs i≠[])) hI λi hi=>by rw[aEt,kh,sZ];exact aSB i hi
 have h2:=aFy (lQ ps vs) (λi=>decide (lQ ps vs i≠[])) (λi hi=>kH hi) (List.range ps.length);rw[eY]at h1;unfold ft;omega
end
end
theorem bK.swap{α β:Type}{R:α->β->Prop}{a a':α}(h:∀ b,R a b->R a' b):∀(pre:List α) {post:List α} {m:List β},bK R (pre++a::post) m->bK R (pre++a'::post) m
 |[],_,_,h1=>by cases h1 with|cons h2 h3=>exact .cons (h _ h2) h3
 |_::pre,_,_,h1=>by cases h1 with|cons h2 h3=>exact .cons h2 (bK.swap h pre h3)
theorem aFB{c:Nat->Option Obj}{M:aH}(h:cT c M)(k:Nat)(x:Obj):cT (ba c k x) ((k,x)::M):=λj y e=>by
 unfold ah at e;unfold ba;split at e
 ·rename_i hb;injection e with e;subst e;rw[aw (jZ hb).symm]
 ·rename_i hb;rw[ao (λe'=>hb (by rw[e'];exact Es k))];exact h j y e
theorem aSC{c:Nat->Option Obj}{n:Nat}(h:eG c n){k:Nat}(hk:k<n)(x:Obj):eG (ba c k x) n:=λj hj=>by unfold ba;rw[ao o_];exact h j hj
section
variable{P:Program}{B:aa}{N:Nat}
theorem aQ.aSD{ι:Map}{c:Nat->Option Obj}{w:World}(hm:aQ B ι c w){k:Nat}{cells cells':aj}{ty:TypeId}(hk:c k=some (.aI cells ty))(h:∀ bC,bK (aG ι) cells bC->bK (aG ι) cells' bC):aQ B ι (ba c k (.aI cells' ty)) w:=by obtain⟨l,h1,b,bC,e1,e2,e3⟩:=hm.born k _ hk;subst e1;exact hm.write hk rfl h1 (.refl w) rfl rfl (bj _) (λ_ _ _=>rfl) ⟨b,bC,rfl,h _ e2,e3⟩ n_ rfl
theorem St.aSE{fr:aW}{M:aH}{next:Nat}{a:Act}{w:World}(h:St B N fr M next a w){k:Nat}{pre post:aj}{tb:TypeId}(hk:ah M k=some (.aI (pre++.slice none 0 0::post) tb))(ty:TypeId)(s:Nat):
  St B N fr ((k,.aI (pre++.slice (some ⟨next,0,some 7⟩) 0 0::post) tb)::(next,.row [] ty s)::M) (next+1) a w:=by
 obtain⟨ι,cc,h1,h2,h3,h4⟩:=h;have hn:=h4 next (bj _);have hle:Map.le ι (dF ι next .nil):=gC (h2.dr next hn);have we:=h3 k _ hk;have mG:k≠next:=λe=>by subst e;rw[hn]at we;cases we
 have ak:k<next:=by
  rcases eF k next with h|h
  ·exact h
  ·rw[h4 k h]at we;cases we
 have m1:aQ B (dF ι next .nil) (ba cc next (.row [] ty s)) w:=h2.add hn (.inl ⟨rfl,rfl⟩) n_ n_ n_;have m2:=m1.aSD (k:=k) (cells:=pre++.slice none 0 0::post) (cells':=pre++.slice (some ⟨next,0,some 7⟩) 0 0::post) (ty:=tb) (by unfold ba;rw[ao mG];exact we) λbC hc=>
  bK.swap (λb hb=>by rw[hb.eU rfl];exact .slcN (fD _ _ _)) pre hc
 refine⟨_,_,⟨h1.defers,h1.size,λt=>(h1.slot t).mono hle⟩,m2,aFB (aFB h3 _ _) _ _,aSC (λj hj=>?_) o_ _⟩;unfold ba;rw[ao o_];exact h4 j o_
def aFC(P:Program)(f:FuncId)(kN s1 np:Nat)(xp:aj)(nv:Nat)(xv:aj)(F:Fact):Prop:=
 ∀ w v1 b o c,cK w v1 np xp->cK w (.slice (some ⟨b,o,none⟩) nv c) nv xv->Calls P f #[v1,.slice (some ⟨b,o,none⟩) nv c] w λe w'=>∃ u1 u3,e=.returned (.agg #[u1,.slice (some ⟨b,o,none⟩) nv c,u3])/\
  w'.ownsRow w.heap.size kN s1 u1 np xp/\Dc w' u3 F/\(∀ b,F.cO u3 w' b->w.heap.size<=b)/\(∀ b,iE u1=some b->¬F.cO u3 w' b)/\Below w.heap.size w w'
theorem aSF{f:FuncId}{kN s1 np nv:Nat}{xp xv:aj}{F:Fact}{a1 a2:Value}{nd:List (Nat×Option Obj)}{o:Oper}{x:Operand}{S:Nat}(h:aFC P f kN s1 np xp nv xv F)(hs:fH B [.r np xp,.r nv xv] [a1,a2] nd)(ho:dw o.op=some x)(eK:gi P f=true)(wE:F.rc=false)
  (f1:(xp.all flat)=true) (hnv:0<nv) (hS:∀ w,B.G w->S<=w.heap.size) (k:Nat) :
  cB P B o (.func (.func f) #[] #[]::[a1,a2]) ((k,none)::(k+1,none)::nd) (.agg #[.slice (some ⟨k,0,some 7⟩) np 0,a2,.pointer (some ⟨k+1,0,some 9⟩)])
   [(k+1,.fact (F.jT S)),(k,.row xp kN s1)]:=by
 have:=jB (P:=P) (B:=B) (o:=o) (x:=x) (f:=f) (fi:=[]) (args:=[a1,a2]) (ca:=[]) (need:=(k,none)::(k+1,none)::nd)
  (val:=.agg #[.slice (some ⟨k,0,some 7⟩) np 0,a2,.pointer (some ⟨k+1,0,some 9⟩)]) (cR:=[(k+1,.fact (F.jT S)),(k,.row xp kN s1)]) ho eK ?_
 ·simpa using this
 ·intro ι c w hm hn args' ha;rw[jo,je]at ha;have k0:c k=none:=hn (k,none) s_;have k1:c (k+1)=none:=hn (k+1,none) s_;have ct:=BB hs hm (λp hp=>hn p (by simp[hp])) ha;obtain⟨v1,v2,rfl,ca1,YR⟩:=jx ha;cases ct with
  |cons i1 ct=>
  cases ct with
  |cons i2 _=>
  have i1:cK w v1 np xp:=i1;have i2:cK w v2 nv xv:=i2;have i3:=i2;rcases i2 with ⟨_,e,_⟩|⟨b,o',c',rfl,_⟩
  ·omega
  refine(h w v1 b o' c' i1 i3).mono ?_
  rintro e w' ⟨u1,u3,rfl,r1,r3,f3,Pw,hb⟩
  have K4:=hS w hm.base;have uZ:=hm.call hb;have cW:∀ j y b o cap,c j=some y->ι j=some (.at b o cap)->y.owns=true\/y.gh=true->b<w.heap.size:=λj y b o cap hj hl hy=>by
   rcases hy with hy|hy
   ·exact(hm.own j y b o cap hj hy hl).1
   ·exact(hm.seen j y b o cap hj hy hl).1
  have Py:∀ j F u b,c j=some (.fact F)->ι j=some (.val u)->F.cO u w' b->b<w.heap.size:=λj F u b hj hu hF=>by have hF:=hm.B9 hj hu hb.size (λk hk _=>hb.block k hk) hF;obtain⟨l,q1,q2⟩:=hm.born j _ hj;rw[hu]at q1;injection q1 with q1;exact q2.wD q1.symm hF
  have K5:∀ b,iE u1=some b->w.heap.size<=b:=λb hb=>by
   rcases r1.2 with ⟨h1,_⟩|⟨g,cap,cur,h1,h2,_⟩
   ·rw[h1]at hb;cases hb
   ·rw[h1]at hb;injection hb with hb;subst hb;exact h2
  have Pz:∀ b,B.cO b->b<w.heap.size:=λb hF=>B.lt w b hm.base hF;obtain⟨bO,l1,m1,c1,p1⟩:=Vb uZ k0 r1 f1 Pz (λj y b o cap hj hl hy e=>by have a:=cW j y b o cap hj hl hy;have b:=K5 b e;omega) (λj F u b hj hu e hF=>by have a:=Py j F u b hj hu hF;have b:=K5 b e;omega);have back:∀ j y l,c j=some y->bO j=some l->ι j=some l:=λj y l hj hl=>by obtain⟨l',ch,_⟩:=uZ.born j y hj;have:=l1 j l' ch;rw[hl]at this;injection this with this;rw[this];exact ch
  have PA:ba c k (.row xp kN s1) (k+1)=none:=by unfold ba;rw[ao o_];exact k1
  have K6:∀ j y,ba c k (.row xp kN s1) j=some y->(j=k/\y=.row xp kN s1)\/(j≠k/\c j=some y):=λj y hj=>by
   unfold ba at hj;by_cases bN:j=k
   ·rw[aw bN]at hj;injection hj with hj;exact .inl ⟨bN,hj.symm⟩
   ·rw[ao bN]at hj;exact .inr ⟨bN,hj⟩
  have m3:aQ B (dF bO (k+1) (.val u3)) (ba (ba c k (.row xp kN s1)) (k+1) (.fact (F.jT S))) w':=
   m1.add PA ⟨u3,rfl,r3.1,λb hF=>de K4 (f3 b hF)⟩ n_ (λF' v b e1 e2 hF j y o' aT hj hy he=>by
    injection e1 with e1;subst e1;injection e2 with e2;subst e2;have hF:F.cO u3 w' b:=hF;rcases K6 j y hj with ⟨rfl,rfl⟩|⟨_,hj⟩
    ·exact Pw b (p1 b o' aT he) hF
    ·have h1:=cW j y b o' aT hj (back j y _ hj he) (.inl hy);have h2:=f3 b hF;omega) n_ λF' e hr=>by
    injection e with e;subst e;have:F.rc=true:=hr;rw[wE]at this;cases this
  have l3:Map.le bO (dF bO (k+1) (.val u3)):=gC (m1.dr _ PA);exact⟨_,_,rfl,l1.trans l3,.agg (.cons (c1.mono l3) (.cons (YR.mono (l1.trans l3)) (.cons (.opq (fD _ _ _) r3.2.1 r3.2.2) .nil))),m3⟩
end
section
open V3 (dot ax cL smul)
theorem IJ(F:Fact)(S:Nat):∀ v w,(F.jT S).G v w->F.G v w:=λ_ _ h=>h.1
def D4(ps:List (HS K))(vs:List RV)(fs:List (Int×List Int)):aR:=.s ps.length (aK ps) vs.length (cF vs) (dq fs)
theorem aFD(ps:List (HS K))(vs:List RV)(fs:List (Int×List Int)):(D4 ps vs fs).ok=true:=by show((aK ps).all flat&&((cF vs).all flat&&true))=true;rw[cU,gT ga];rfl
def W9(ps:List (HS K))(vs:List RV)(fs:List (Int×List Int)):Bool:=qK ps&&(qc ps (aM ps)&&(decide (vs=(aM ps).map cD)&&decide (fs=dE ps)))
section
variable{ps:List (HS K)}{m:Nat}{vs:List RV}{fs:List (Int×List Int)}
def eE(k:Nat):Value:=.pointer (some ⟨k,0,some 9⟩)
theorem aSG(ps:List (HS K))(vs:List RV)(fs:List (Int×List Int)):([D4 ps vs fs].all aR.ok)=true:=by simp only[dH,fp,aFD,vU]
theorem wz{vs:List RV}(h:vs.length=0):cF vs=[]:=by rw[lv h];rfl
theorem aSH(h:pB ps m)(aO:∀ x∈vs,x.Sm)(ik:vs.length<9223372036854775807)(wA:fs.length<9223372036854775807)(qW:∀ f∈fs,f.2.length<9223372036854775807):cy prog 38 [D4 ps vs fs] (.bool (W9 ps vs fs)):=by
 unfold W9;have ay:=aSG ps vs fs;unfold D4 at *;by_cases hc:qK ps=true
 ·by_cases hi:qc ps (aM ps)=true
  ·have mz:=aEJ h hc hi;rw[hc,hi];have qe:∀ x∈(aM ps).map cD,x.Sm:=λx hx=>by obtain⟨v,hv,rfl⟩:=dj.1 hx;exact(Lw h.sz v hv).sm (Wo (BZ (n:=0) h.bound o_).2.1).2.2
   have heq:=aMv (a:=vs) (b:=(aM ps).map cD) aO qe ik;have hef:=aRk (fs:=fs) (fs':=dE ps) wA qW;unfold aL at mz;have hlen:(aM ps).length=((aM ps).map cD).length:=by rw[eY]
   rw[hlen]at mz;generalize (aM ps).map cD=cM at *;have e0:decide (vs=cM)=true\/decide (vs=cM)=false:=by cases decide (vs=cM)<;>simp
   rcases e0 with e0|e0
   ·rw[e0]at heq ⊢;rw[kD,kD,kD];generalize decide (fs=dE ps)=t at *;refine gz mixed func38 ay 100 (N:=29) k_ (λw=>[
     .step 9 (av f38 9) [.func (.func 40) #[] #[],sl 0 ps.length] [(4,none),(5,none),(6,none),(0,some (.view (aK ps)))] (.tuple #[.agg #[sl 4 ps.length,sl 5 cM.length,eE 6],iN 0]) [(6,.fact ((dq (dE ps)).jT w.heap.size)),(5,.row (cF cM) 33 30),(4,.row (aK ps) 35 40)]
      (Du (B:=aa.at w) (S:=w.heap.size) mz (.w (x:=.view (aK ps)) rfl (cU ps) iD .nil) (x:=.func 40) k_ k_ rfl (cU ps) (gT ga _) rfl (λw' hb=>Below.size hb) 4),
     .step 19 (av f38 19) [.func (.func 65) #[] #[],sl 1 vs.length,sl 5 cM.length] [(1,some (.view (cF vs))),(5,some (.row (cF cM) 33 30))] (.bool true) []
      (dz heq (.w (x:=.view (cF vs)) rfl (gT ga _) wz (.w (x:=.row (cF cM) 33 30) rfl (gT ga _) wz .nil)) (x:=.func 65) k_ k_ rfl),
     .step 27 (av f38 27) [.func (.func 66) #[] #[],eE 2,eE 6,Ly] [(2,some (.fact (dq fs))),(6,some (.fact ((dq (dE ps)).jT w.heap.size)))] (.bool t) []
      (dz hef (.o (.oi (IJ _ _) (.p rfl .nil))) (x:=.func 66) k_ k_ rfl)]) (λw=>?_) k_
    kernel_rfl
   ·rw[e0]at heq ⊢;refine gz mixed func38 ay 100 (N:=29) k_ (λw=>[
     .step 9 (av f38 9) [.func (.func 40) #[] #[],sl 0 ps.length] [(4,none),(5,none),(6,none),(0,some (.view (aK ps)))] (.tuple #[.agg #[sl 4 ps.length,sl 5 cM.length,eE 6],iN 0]) [(6,.fact ((dq (dE ps)).jT w.heap.size)),(5,.row (cF cM) 33 30),(4,.row (aK ps) 35 40)]
      (Du (B:=aa.at w) (S:=w.heap.size) mz (.w (x:=.view (aK ps)) rfl (cU ps) iD .nil) (x:=.func 40) k_ k_ rfl (cU ps) (gT ga _) rfl (λw' hb=>Below.size hb) 4),
     .step 19 (av f38 19) [.func (.func 65) #[] #[],sl 1 vs.length,sl 5 cM.length] [(1,some (.view (cF vs))),(5,some (.row (cF cM) 33 30))] (.bool false) []
      (dz heq (.w (x:=.view (cF vs)) rfl (gT ga _) wz (.w (x:=.row (cF cM) 33 30) rfl (gT ga _) wz .nil)) (x:=.func 65) k_ k_ rfl)]) (λw=>?_) k_
    kernel_rfl
  ·have hi:qc ps (aM ps)=false:=by simpa using hi
   rw[hc,hi];exact gz mixed func38 ay 100 (N:=29) k_ (λw=>[.step 9 (av f38 9) [.func (.func 40) #[] #[],sl 0 ps.length] [(0,some (.view (aK ps)))] (.tuple #[qZ,iN 12]) []
    (dz (aEH h hc hi) (.w (x:=.view (aK ps)) rfl (cU ps) iD .nil) (x:=.func 40) k_ k_ k_)]) (λw=>k_) k_
 ·have hc:qK ps=false:=by simpa using hc
  rw[hc];exact gz mixed func38 ay 100 (N:=29) k_ (λw=>[.step 9 (av f38 9) [.func (.func 40) #[] #[],sl 0 ps.length] [(0,some (.view (aK ps)))] (.tuple #[qZ,iN 13]) []
   (dz (aRd h hc) (.w (x:=.view (aK ps)) rfl (cU ps) iD .nil) (x:=.func 40) k_ k_ k_)]) (λw=>k_) k_
end
theorem aSI{ns:List Nat}:∀{Os cq:aH},cq.map (·.1)=Os.map (·.1)++ns->∀ k,ah cq k=none↔(ah Os k=none/\ns.contains k=false):=by
 have look:∀(l:aH) (k:Nat),ah l k=none↔(l.map (·.1)).contains k=false:=by
  intro l k;induction l with
  |nil=>exact⟨λ_=>rfl,λ_=>rfl⟩
  |cons p l ih=>
   obtain⟨a,x⟩:=p;rw[show ah ((a,x)::l) k=if Nat.beq a k=true then some x else ah l k from rfl,rF,List.contains_cons];by_cases h:Nat.beq a k=true
   ·rw[aw h];have:=jZ h;subst this;simp
   ·rw[ao h,ih];have:(k==a)=false:=by
     cases e:k==a with
     |false=>rfl
     |true=>have:=eq_of_beq e;subst this;exact absurd (Es k) h
    rw[this,yP]
 intro Os cq h k;rw[look,look,h,List.contains_append,Mq]
theorem St.aSJ{B:aa}{N:Nat}{fr:aW}{M:aH}{next k:Nat}{a:Act}{w:World}{ty:TypeId}(h:St B N fr M next a w)(hk:ah M k=some (.aI [.slice none 0 0] ty))(FL:TypeId)(s:Nat):
  St B N fr ((k,.aI [.slice (some ⟨next,0,some 7⟩) 0 0] ty)::(next,.row [] FL s)::M) (next+1) a w:=by
 obtain⟨ι,cc,h1,h2,h3,h4⟩:=h;have hn:=h4 next (bj _);have hle:Map.le ι (dF ι next .nil):=gC (h2.dr next hn);have we:=h3 k _ hk;have mG:k≠next:=λe=>by subst e;rw[hn]at we;cases we
 have m1:=h2.add hn (x:=.row [] FL s) (l:=.nil) (.inl ⟨rfl,rfl⟩) n_ n_ n_;have aFE:ba cc next (.row [] FL s) k=some (.aI [.slice none 0 0] ty):=by unfold ba;rw[ao mG];exact we
 obtain⟨l,q1,b,bC,q2,q3,q4⟩:=m1.born k _ aFE;subst q2;have m2:=m1.write (y:=.aI [.slice (some ⟨next,0,some 7⟩) 0 0] ty) aFE rfl q1 (.refl w) rfl rfl (bj _) (λ_ _ _=>rfl) ⟨b,bC,rfl,by obtain⟨u,rfl,hu⟩:=lW q3;rw[hu.eU rfl];exact .cons (.slcN (fD _ _ _)) .nil,q4⟩ n_ rfl
 refine⟨_,_,h1.mono hle,m2,λj x e=>?_,λj hj=>?_⟩
 ·unfold ah at e;split at e
  ·rename_i hb;injection e with e;subst e;unfold ba;rw[aw (jZ hb).symm]
  ·rename_i hb;have bN:j≠k:=λe'=>hb (by rw[e'];exact Es k);unfold ah at e;split at e
   ·rename_i gp;injection e with e;subst e;unfold ba;rw[ao bN,aw (jZ gp).symm]
   ·have:=h3 j x e;have RG:j≠next:=λe'=>by subst e';rw[hn]at this;cases this
    unfold ba;rw[ao bN,ao RG];exact this
 ·have hkl:k<next:=by
   rcases eF k next with h|h
   ·exact h
   ·have:=h4 k h;rw[we]at this;cases this
  unfold ba;rw[ao o_,ao o_];exact h4 j o_
def ll(p:HS K)(vs:List (V3 K))(j:Nat):List Nat:=(List.range j).filter λk=>decide (OF.az (dot p.n (aJ vs k)-p.d)>0)
theorem aSK(p:HS K)(vs:List (V3 K))(j:Nat):ll p vs (j+1)=ll p vs j++(if OF.az (dot p.n (aJ vs j)-p.d)>0 then[j]else[]):=by
 unfold ll;rw[HB,aEs]
 congr 1
 by_cases h:OF.az (dot p.n (aJ vs j)-p.d)>0<;>simp[h]
theorem aSL(p:HS K)(vs:List (V3 K))(j:Nat):(ll p vs j).length<=j:=by have:=aEu (λk=>decide (OF.az (dot p.n (aJ vs k)-p.d)>0)) (List.range j);rw[yG]at this;exact this
section
variable{ps:List (HS K)}{vs:List (V3 K)}{p:HS K}
def uc(np:Nat)(vs:List (V3 K))(p:HS K)(L:Nat)(l:List Nat):aH:=[(3,.aI [sl 0 np,sl 1 vs.length,eE 2] 26),(4,.aI (cH p).cs 35),(5,.aI [sl 6 L] 56),(6,.row (ai l) 3 1)]
def QH(vs:List (V3 K)):aH:=[(1,.view (aL vs))]
theorem aSM{np i m q:Nat}{l:List Nat}(hi:i<vs.length)(hp:bt m p)(fT:p.n≠0)(aO:∀ v∈vs,aD q v)(hm:100*(m+q)+1000<=aB)(h63:l.length<900000)(hs:OF.az (dot p.n (aJ vs i)-p.d)>0):
  xC prog 76 7 ([vI i]++[bX 4,bX 3,bX 5]) (uc np vs p l.length l) (QH vs) (.tuple #[]) [(3,.aI [sl 0 np,sl 1 vs.length,eE 2] 26),(4,.aI (cH p).cs 35),(5,.aI [sl 8 (l.length+1)] 56),(6,.dead),(8,.row (ai (l++[i])) 3 1)]:=by
 have hv:=jV hi;have FG:=zy hp (aO _ (cQ hv)) o_ fT;have e:(Value.bool (decide (OF.az (dot p.n (aJ vs i)-p.d)>0)))=.bool true:=by rw[aC hs]
 have hr:ai l++[vI i]=ai (l++[i]):=by simp[ai]
 have Ag:(ai l).length=l.length*1:=by rw[lN,fX]
 have h1:=It l;unfold uc;generalize OF.az (dot p.n (aJ vs i)-p.d)=z at *;generalize aJ vs i=v at *;generalize ai l=c0 at *;generalize ai (l++[i])=c1 at *;exact oq mixed func76 100 (N:=17) k_ (λ_=>[.cY f76 9 1 vs.length i 30 hi k_,.ld f76 10 33 1 (i*30) (.view (aL vs)) (bB v) rfl (lf hv) k_,FG.at 11,.rw 12 (.bool (decide (z>0))) (.bool true) e,.bs f76 15 7 1 3 1 [0] (vI 0) [vI i] #[vI i] (.row [vI i] 3 1) rfl (λv hv=>by simp at hv;subst hv;rfl) (λv hv=>by simp at hv;subst hv;rfl) k_ rfl d_ d_ k_,.pa f76 16 8 6 l.length 1 (l.length+1) 3 1 8 c0 7 (.row [vI i] 3 1) c1 rfl rfl rfl Ag hr (λv hv=>by simp[Obj.cells]at hv;subst hv;rfl) d_ (by simp[maxLen];omega) o_ k_]) (λ_=>k_)
theorem aSN{np i m q:Nat}{l:List Nat}(hi:i<vs.length)(hp:bt m p)(fT:p.n≠0)(aO:∀ v∈vs,aD q v)(hm:100*(m+q)+1000<=aB)(hs:¬OF.az (dot p.n (aJ vs i)-p.d)>0):
  xC prog 76 7 ([vI i]++[bX 4,bX 3,bX 5]) (uc np vs p l.length l) (QH vs) (.tuple #[]) (uc np vs p l.length l):=by
 have hv:=jV hi;have FG:=zy hp (aO _ (cQ hv)) o_ fT;have e:(Value.bool (decide (OF.az (dot p.n (aJ vs i)-p.d)>0)))=.bool false:=by rw[aN hs]
 unfold uc;generalize OF.az (dot p.n (aJ vs i)-p.d)=z at *;generalize aJ vs i=v at *;generalize ai l=c0 at *;exact oq mixed func76 100 (N:=17) k_ (λ_=>[.cY f76 9 1 vs.length i 30 hi k_,.ld f76 10 33 1 (i*30) (.view (aL vs)) (bB v) rfl (lf hv) k_,FG.at 11,.rw 12 (.bool (decide (z>0))) (.bool false) e]) (λ_=>k_)
def IK(nv i:Nat):aW:=[(12,vI i),(11,vI nv),(6,.func (.func 76) #[] #[bX 4,bX 3,bX 5]),(5,bX 5)]
def As(xs:aj)(F:Fact)(np:Nat)(vs:List (V3 K))(p:HS K)(l:List Nat):aH:=(0,.view xs)::(2,.fact F)::(1,.view (aL vs))::uc np vs p l.length l
theorem aFF{np L:Nat}{l:List Nat}:((uc np vs p L l++QH vs).all λq=>Nat.blt q.1 7&&om 7 q)=true:=by have e1:=zF (m:=7) (k:=4) (x:=.aI (cH p).cs 35) λv hv=>iC.flat _ v hv;have e2:=zF (m:=7) (k:=6) (x:=.row (ai l) 3 1) λv hv=>kv _ v hv;have e3:=zF (m:=7) (k:=1) (x:=.view (aL vs)) λv hv=>bh.1 (dJ vs) v hv;simp only[uc,QH,EO,jo,dH,fp,e1,e2,e3];rfl
theorem aSO{Bs:aa}{xs:aj}{F:Fact}{np i m q:Nat}{l:List Nat}(hi:i<vs.length)(hp:bt m p)(fT:p.n≠0)(aO:∀ v∈vs,aD q v)(hm:100*(m+q)+1000<=aB)(h63:l.length<900000)(ik:vs.length<900000)(hs:OF.az (dot p.n (aJ vs i)-p.d)>0):
  ag prog Bs 20 (aF (af f42 0)) (IK vs.length i) (As xs F np vs p l) 7 ⟨.normal,IK vs.length (i+1),[(0,.view xs),(2,.fact F),(1,.view (aL vs)),(3,.aI [sl 0 np,sl 1 vs.length,eE 2] 26),(4,.aI (cH p).cs 35),(5,.aI [sl 8 (l.length+1)] 56),(8,.row (ai (l++[i])) 3 1)],9⟩:=by
 have Xa:=aSM (np:=np) hi hp fT aO hm h63 hs;have dp:=aFF (p:=p) (vs:=vs) (np:=np) (L:=l.length) (l:=l);have f4:∀ v∈(cH p).cs,xI 7 [8] v=true:=λv hv=>aCO (iC.flat _ v hv);have f8:∀ v∈ai (l++[i]),xI 7 [8] v=true:=λv hv=>aCO (kv _ v hv);unfold As;unfold uc at *;generalize ai l=c0 at *;generalize ai (l++[i])=c1 at *;refine aA [.lt 13 i vs.length true (aC hi),.step 17 (av f42 17) _ _ _ _ (aM6 (args:=[vI i]) (ca:=[bX 4,bX 3,bX 5]) (ns:=[8]) (x:=.tmp 15) Xa k_ k_ k_ k_ dp ?_ k_ ?_ k_ (aSI rfl)),.sum 18 i 1 (i+1) rfl o_]
 ·intro q hq;simp only[cx,jg,jh]at hq;rcases hq with rfl|rfl|rfl|rfl|rfl
  ·intro v hv;simp[Obj.cells]at hv;rcases hv with rfl|rfl|rfl<;>rfl
  ·exact f4
  ·intro v hv;simp[Obj.cells]at hv;subst hv;rfl
  ·intro v hv;cases hv
  ·exact f8
 ·intro q hq;simp only[cx,jg,jh]at hq;rcases hq with rfl|rfl|rfl|rfl|rfl
  ·exact .inl rfl
  ·exact .inl rfl
  ·exact .inl rfl
  ·exact .inr rfl
  ·exact .inl rfl
theorem aSP{Bs:aa}{xs:aj}{F:Fact}{np i m q:Nat}{l:List Nat}(hi:i<vs.length)(hp:bt m p)(fT:p.n≠0)(aO:∀ v∈vs,aD q v)(hm:100*(m+q)+1000<=aB)(ik:vs.length<900000)(hs:¬OF.az (dot p.n (aJ vs i)-p.d)>0):
  ag prog Bs 20 (aF (af f42 0)) (IK vs.length i) (As xs F np vs p l) 7 ⟨.normal,IK vs.length (i+1),As xs F np vs p l,7⟩:=by
 have Xa:=aSN (np:=np) (l:=l) hi hp fT aO hm hs;have dp:=aFF (p:=p) (vs:=vs) (np:=np) (L:=l.length) (l:=l);have Fl:((uc np vs p l.length l).all (om 7))=true:=by rw[List.all_append,da]at dp;rw[bh];intro q hq;have:=bh.1 dp.1 q hq;rw[da]at this;exact this.2
 unfold As;unfold uc at *;generalize ai l=c0 at *;exact aA [.lt 13 i vs.length true (aC hi),.step 17 (av f42 17) _ _ _ _ (aB6 (args:=[vI i]) (ca:=[bX 4,bX 3,bX 5]) (x:=.tmp 15) Xa k_ k_ k_ k_ dp Fl k_ k_),.sum 18 i 1 (i+1) rfl o_]
noncomputable def lC0:Code:=qR (eO f42)
noncomputable def lC1:Code:=qR (mV (eO f42))
noncomputable def lC2:Code:=qR (mV (mV (eO f42)))
noncomputable def lC3:Code:=qR (qR (mV (mV (mV (eO f42)))))
noncomputable def lC4:Code:=qR (mV (mV (mV (mV (eO f42)))))
theorem aSQ:(f42).body=some (.seq lC0 (.seq lC1 (.seq lC2 (.seq (.seq lC3 (.block 0 (.loop (aF (af f42 0))))) (.seq lC4 .ret))))):=k_
theorem aSR{xs:aj}{F:Fact}{np L:Nat}{l:List Nat}{r:List (Nat×Nat)}(kL:(xs.all flat)=true)(h3:([sl 0 np,sl 1 vs.length,eE 2].all (tP r))=true)(h4:((cH p).cs.all (tP r))=true)(h5:tP r (sl 6 L)=true):
  ∀ q∈(0,.view xs)::(2,.fact F)::(1,.view (aL vs))::uc np vs p L l,FI r q.2:=λq hq=>by
 simp only[uc,cx,jg,jh]at hq;rcases hq with rfl|rfl|rfl|rfl|rfl|rfl|rfl
 ·exact λv hv=>bh.1 kL v hv
 ·trivial
 ·exact λv hv=>bh.1 (dJ vs) v hv
 ·exact h3
 ·exact h4
 ·show([sl 6 L].all (tP r))=true;rw[dH,h5];rfl
 ·exact λv hv=>kv _ v hv
def Xb(B:aa)(xs:aj)(F:Fact)(np:Nat)(vs:List (V3 K))(p:HS K)(i:Nat)(a:Act)(w:World):Prop:=St B 20 (IK vs.length i) (As xs F np vs p (ll p vs i)) 7 a w
theorem aSS{xs:aj}{F:Fact}{np m q:Nat}(hp:bt m p)(fT:p.n≠0)(aO:∀ v∈vs,aD q v)(hm:100*(m+q)+1000<=aB)(ik:vs.length<900000)(kL:(xs.all flat)=true)(hF:F.rc=false):
  lM prog 42 [.s np xs vs.length (aL vs) F,.p (cC p)] 3 1 (ll p vs vs.length).length (ai (ll p vs vs.length)):=by
 intro w args ct;have ay:([.s np xs vs.length (aL vs) F,.p (cC p)].all aR.ok)=true:=by
  have e:(aR.s np xs vs.length (aL vs) F).ok=true:=by show(xs.all flat&&((aL vs).all flat&&!F.rc))=true;rw[kL,dJ,hF];rfl
  simp only[dH,fp,e,Ws,vU]
 obtain⟨ι,c,h1,h2,h3,h4,h5,h6,h7⟩:=vN ct (bh.1 ay) 0 _ _ (qx w) n_ (λ_ _=>rfl);have pc:∀ k,(aa.at w).mp k=none:=λ_=>rfl;refine U9 (N:=20) (B:=aa.at w) func42 aSQ k_ h6 h2 h4 h3 rfl λa bL=>?_
 have g0:ag prog (aa.at w) 20 lC0 (jA 0 (eP 0 [.s np xs vs.length (aL vs) F,.p (cC p)])) (js 0 [.s np xs vs.length (aL vs) F,.p (cC p)]) 3
   ⟨.normal,[(2,bX 3),(3,bX 4)],[(0,.view xs),(2,.fact F),(1,.view (aL vs)),(3,.aI [sl 0 np,sl 1 vs.length,eE 2] 26),(4,.aI (cH p).cs 35)],5⟩:=aA []
 have g1:ag prog (aa.at w) 20 lC1 [(2,bX 3),(3,bX 4)] [(0,.view xs),(2,.fact F),(1,.view (aL vs)),(3,.aI [sl 0 np,sl 1 vs.length,eE 2] 26),(4,.aI (cH p).cs 35)] 5
   ⟨.normal,[(5,bX 5),(2,bX 3),(3,bX 4)],[(0,.view xs),(2,.fact F),(1,.view (aL vs)),(3,.aI [sl 0 np,sl 1 vs.length,eE 2] 26),(4,.aI (cH p).cs 35),(5,.aI [.slice none 0 0] 56)],6⟩:=aA []
 refine lB (lh g0 bL λa1 w1 s1=>?_);refine lB (lh g1 s1 λa2 w2 s2=>?_);have s2':=s2.aSJ (k:=5) rfl 3 1;have g2:ag prog (aa.at w) 20 lC2 [(5,bX 5),(2,bX 3),(3,bX 4)] _ 7 ⟨.normal,[(6,.func (.func 76) #[] #[bX 4,bX 3,bX 5]),(5,bX 5),(2,bX 3)],As xs F np vs p [],7⟩:=fj mixed 100 (M:=(5,.aI [.slice (some ⟨6,0,some 7⟩) 0 0] 56)::(6,.row [] 3 1)::[(0,.view xs),(2,.fact F),(1,.view (aL vs)),(3,.aI [sl 0 np,sl 1 vs.length,eE 2] 26),(4,.aI (cH p).cs 35),(5,.aI [.slice none 0 0] 56)]) [] k_;refine lB (lh g2 s2' λa3 w3 s3=>?_);have g3:ag prog (aa.at w) 20 lC3 [(6,.func (.func 76) #[] #[bX 4,bX 3,bX 5]),(5,bX 5),(2,bX 3)] (As xs F np vs p []) 7 ⟨.normal,IK vs.length 0,As xs F np vs p [],7⟩:=aA [];refine lB (lB (lh g3 s3 λa4 w4 s4=>?_));refine Jm ?_;refine U8 vs.length (Xb (aa.at w) xs F np vs p) s4 (λi hi a' w' h' K hK=>?_) λa' w' h'=>?_
 ·have hl:=aSL p vs i;have e:=aSK p vs i;by_cases hs:OF.az (dot p.n (aJ vs i)-p.d)>0
  ·rw[aw hs]at e;refine lh (aSO hi hp fT aO hm o_ ik hs) h' λa5 w5 s5=>hK a5 w5 ?_;unfold Xb As;rw[e,iZ,zC];have hk:=aSR (vs:=vs) (p:=p) (F:=F) (np:=np) (L:=(ll p vs i).length+1) (l:=ll p vs i++[i]) (r:=[(0,0),(2,2),(1,1),(3,3),(4,4),(5,5),(6,8)]) kL k_ k_ k_;unfold uc at hk ⊢;generalize ai (ll p vs i++[i])=c1 at *;exact s5.H4 pc [(0,0),(2,2),(1,1),(3,3),(4,4),(5,5),(6,8)] k_ rfl hk k_ k_ k_ k_ k_
  ·rw[ao hs,je]at e;refine lh (aSP hi hp fT aO hm ik hs) h' λa5 w5 s5=>hK a5 w5 ?_;unfold Xb;rw[e];exact s5
 ·refine lh (r:=⟨.exit 0,[(5,bX 5)],[(5,.aI [sl 6 (ll p vs vs.length).length] 56),(6,.row (ai (ll p vs vs.length)) 3 1)],7⟩) (aA [.lt 13 vs.length vs.length false s_]) h' λa5 w5 s5=>?_;show Code.wpIn _ _ _ _ _ _ _;refine lB (lh (r:=⟨.normal,[(4,sl 6 (ll p vs vs.length).length)],[(6,.row (ai (ll p vs vs.length)) 3 1)],7⟩) (aA []) s5 λa6 w6 s6=>?_);refine Jn ?_;refine(Va s6 rfl (v:=sl 6 (ll p vs vs.length).length) k_ λau bY v' bo x6 hc=>⟨v',rfl,?_,bo.base⟩).1;have:=vx bo (x6 6 _ rfl) hc (by rw[lN];omega) (kv _);have e:(ai (ll p vs vs.length)).take ((ll p vs vs.length).length*1)=ai (ll p vs vs.length):=ki (by rw[lN];omega);rw[e]at this;exact this
end
def Au(ps:List (HS K)):aR:=D4 ps ((aM ps).map cD) (dE ps)
def Av(ps:List (HS K)):Bool:=qK ps&&qc ps (aM ps)
theorem aFG(ps:List (HS K)):(dE ps).length<=ps.length:=by unfold dE;rw[eY];exact Qc ps _ _
theorem aST(nn:V3 K)(vs:List (V3 K))(l:List Nat):(order nn (aJ vs) l).length<=2*l.length:=by
 have bH:∀ l:List Nat,(j7 nn vs l).length<=l.length:=λl=>by have:=(Lr (nn:=nn) (vs:=vs) (l:=l) l.length (bj _)).2;unfold bL at this;rw[mQ]at this;unfold j7;rw[F8,List.length_tail];omega
 rw[aEp,iZ];have h1:=bH l;have h2:=bH l.reverse;rw[F8]at h2;omega
theorem aFH{ps:List (HS K)}(h:ps.length<=20):∀ f∈dE ps,f.2.length<=1600:=by
 intro f hf;unfold dE at hf;obtain⟨g,hg,rfl⟩:=dj.1 hf;unfold ft at hg;rw[BM]at hg;obtain⟨i,_,hg⟩:=hg;unfold lQ at hg;split at hg
 ·rename_i p hp;unfold qX at hg;split at hg
  ·cases hg
  ·split at hg
   ·cases hg
   ·split at hg
    ·simp at hg;subst hg;show(List.map _ _).length<=_;rw[eY];show(order p.n (aJ (aM ps)) (cz p (aM ps) (aM ps).length)).length<=1600;have h1:=aST p.n (aM ps) (cz p (aM ps) (aM ps).length);have h2:=Iu p (aM ps) (aM ps).length;have h3:=Iw ps h;omega
    ·cases hg
 ·cases hg
section
variable{ps:List (HS K)}{m:Nat}{p:HS K}
theorem vsm(h:pB ps m):∀ x∈(aM ps).map cD,x.Sm:=λx hx=>by obtain⟨v,hv,rfl⟩:=dj.1 hx;exact(Lw h.sz v hv).sm (Wo (BZ (n:=0) h.bound o_).2.1).2.2
theorem aSU(h:pB ps m)(hs:Av ps=true):cy prog 38 [Au ps] (.bool true):=by have h1:=Iw ps h.len;have h2:=aFG ps;have h3:=h.len;have:=aSH (vs:=(aM ps).map cD) (fs:=dE ps) h (vsm h) (by rw[eY];omega) o_ λf hf=>eL (aFH h3 f hf) d_;unfold Av at hs;unfold W9 at this;rw[da]at hs;rw[hs.1,hs.2,aC rfl,aC rfl]at this;exact this
theorem pB.left(h:pB (ps++[p]) m):pB ps m/\bt m p/\p.n≠0/\ps.length<=19:=by have hl:=h.len;rw[iZ,zC]at hl;exact⟨⟨by omega,λq hq=>h.sz q (ee.2 (.inl hq)),λq hq=>h.ne q (ee.2 (.inl hq)),h.bound⟩,h.sz p s_,h.ne p s_,by omega⟩
def Xc(ps:List (HS K)):Value:=.agg #[sl 0 ps.length,sl 1 ((aM ps).map cD).length,eE 2]
theorem aSV{Bs:aa}{nd:List (Nat×Option Obj)}{l:List aR}{xs:aj}(h:fH Bs l xs nd):fH Bs (Au ps::l) (Xc ps::xs) ((0,some (.view (aK ps)))::(1,some (.view (cF ((aM ps).map cD))))::(2,some (.fact (dq (dE ps))))::nd):=
 .s (x1:=.view (aK ps)) (x2:=.view (cF ((aM ps).map cD))) rfl (cU ps) iD rfl (gT ga _) wz h
noncomputable def cuS{w:World}(h:pB (ps++[p]) m)(hs:Av ps=true)(more:bA prog (aa.at w) 43):bA prog (aa.at w) 43:=
 .step 9 (av f12 9) [.func (.func 38) #[] #[],Xc ps] [(0,some (.view (aK ps))),(1,some (.view (cF ((aM ps).map cD)))),(2,some (.fact (dq (dE ps))))] (.bool true) []
  (dz (aSU h.left.1 hs) (aSV .nil) (x:=.func 38) k_ k_ rfl)::
 .call 13 39 [cC p] (.bool true) (λw' _=>by have:=xB h.left.2.1 (BZ (n:=0) h.bound o_).2.2.2.1;rw[aC h.left.2.2.1]at this;exact this w')::
 .ge 21 ps.length 100 false (aN (by have:=h.left.2.2.2;omega))::
 .step 26 (av f12 26) [.func (.func 41) #[] #[],sl 0 ps.length] [(6,none),(0,some (.view (aK ps)))] (sl 6 ps.length) [(6,.row (aK ps) 35 40)]
  (qI (aEb (aEI (by unfold Av at hs;rw[da]at hs;exact hs.1)) (by have:=h.left.2.2.2;omega)) (.w (x:=.view (aK ps)) rfl (cU ps) iD .nil) (x:=.func 41) k_ k_ (cU ps) 6)::
 .bs f12 28 7 1 35 40 [0] (RP.v ⟨sG,F5⟩) [cC p] (cH p).cs.toArray (.row (cH p).cs 35 40) rfl (λv hv=>by simp at hv;subst hv;rfl) (λv hv=>iC.flat _ v hv) k_ rfl d_ d_ k_::
 .pa f12 29 8 6 ps.length 1 (ps.length+1) 35 40 480 (aK ps) 7 (.row (cH p).cs 35 40) (aK (ps++[p])) rfl rfl rfl (Af ps) (by unfold aK;rw[sW];show dc RP.cs _++_=dc RP.cs _;rw[HT];simp[dc,Obj.cells]) (iC.one _) d_ (by have:=h.left.2.2.2;simp[maxLen];omega) (by have:=h.left.2.2.2;omega) k_::more
theorem aFI(ps:List (HS K))(p:HS K):([Au ps,.p (cC p)].all aR.ok)=true:=by have e:(Au ps).ok=true:=aFD _ _ _;simp only[dH,fp,e,Ws,vU]
theorem aFJ{Bs:aa}:fH Bs [fC (ps++[p])] [sl 8 (ps.length+1)] [(8,some (.row (aK (ps++[p])) 35 40))]:=by
 have e:ps.length+1=(ps++[p]).length:=by simp
 rw[e];exact .w (x:=.row (aK (ps++[p])) 35 40) rfl (cU _) iD .nil
theorem aSW(h:pB (ps++[p]) m)(hs:Av ps=true)(hc:qK (ps++[p])=true)(hi:qc (ps++[p]) (aM (ps++[p]))=false):cy prog 12 [Au ps,.p (cC p)] (.tuple #[qZ,.bool false,iN 12]):=by
 have ay:=aFI ps p;have mz:=aEH h hc hi;refine gz mixed func12 ay 100 (N:=43) k_ (λw=>cuS h hs [.step 30 (av f12 30) [.func (.func 40) #[] #[],sl 8 (ps.length+1)] [(8,some (.row (aK (ps++[p])) 35 40))] (.tuple #[qZ,iN 12]) []
  (dz mz aFJ (x:=.func 40) k_ k_ k_)]) (λw=>?_) k_
 kernel_rfl
theorem aSX(h:pB (ps++[p]) m)(hs:Av ps=true)(hc:qK (ps++[p])=true)(hi:qc (ps++[p]) (aM (ps++[p]))=true):
  tQ prog 12 [Au ps,.p (cC p)] 35 40 (ps.length+1) (aK (ps++[p])) 33 30 (aM (ps++[p])).length (aL (aM (ps++[p]))) (dq (dE (ps++[p]))) [.bool (decide (0<(ll p (aM ps) (aM ps).length).length)),iN 0]:=by
 have ay:=aFI ps p;have mz:=aEJ h hc hi;have hl:=aSS (vs:=aM ps) (xs:=aK ps) (F:=dq (dE ps)) (np:=ps.length) h.left.2.1 h.left.2.2.1 (Lw h.left.1.sz) (BZ (n:=0) h.bound o_).2.2.1 (by have:=Iw ps h.left.1.len;omega) (cU ps) rfl;have hlen:(aM ps).length=((aM ps).map cD).length:=by rw[eY]
 have e1:(ps++[p]).length=ps.length+1:=by simp
 rw[e1]at mz;unfold aL at hl;rw[hlen]at hl ⊢;have fx:=gU (ll p (aM ps) ((aM ps).map cD).length);have xP:=Af (ps++[p]);rw[e1]at xP;generalize hL:ll p (aM ps) ((aM ps).map cD).length=l at *;generalize hb:decide (0<l.length)=t;refine Px (k1:=9) (k2:=10) (k3:=11) mixed func12 ay 100 (N:=43) k_ (λw=>cuS h hs [
  .step 30 (av f12 30) [.func (.func 40) #[] #[],sl 8 (ps.length+1)] [(9,none),(10,none),(11,none),(8,some (.row (aK (ps++[p])) 35 40))] (.tuple #[.agg #[sl 9 (ps.length+1),sl 10 (aM (ps++[p])).length,eE 11],iN 0])
   [(11,.fact ((dq (dE (ps++[p]))).jT w.heap.size)),(10,.row (aL (aM (ps++[p]))) 33 30),(9,.row (aK (ps++[p])) 35 40)]
   (Du (B:=aa.at w) (S:=w.heap.size) mz aFJ (x:=.func 40) k_ k_ rfl (cU _) (dJ _) rfl (λw' hb=>Below.size hb) 9),
  .step 40 (av f12 40) [.func (.func 42) #[] #[],Xc ps,cC p] [(12,none),(0,some (.view (aK ps))),(1,some (.view (cF ((aM ps).map cD)))),(2,some (.fact (dq (dE ps))))] (sl 12 l.length) [(12,.row (ai l) 3 1)]
   (qI hl (.s (x1:=.view (aK ps)) (x2:=.view (cF ((aM ps).map cD))) rfl (cU ps) iD rfl (gT ga _) wz (.p k_ .nil)) (x:=.func 42) k_ k_ fx 12),
  .gt 42 l.length 0 t hb]) (λw=>?_) d_ (cU _) xP (dJ _) (sk _) k_
 kernel_rfl
end
structure IL(p:HS K)(vs:List (V3 K)):Prop where
 flat:Qz p.n vs (cz p vs vs.length)=false
 seq:aV3 p.n vs (cz p vs vs.length) (order p.n (aJ vs) (cz p vs vs.length))
 len:(order p.n (aJ vs) (cz p vs vs.length)).length=(cz p vs vs.length).length
def IM(ps:List (HS K))(k:Nat)(p:HS K):Bool:=(ps.take k).any λq=>decide (canon p=canon q)
theorem aSY{ps:List (HS K)}{k:Nat}{q:HS K}(h:ps[k]?=some q)(p:HS K):IM ps (k+1) p=(IM ps k p||decide (canon p=canon q)):=by unfold IM;rw[tK,h,List.any_append];simp
section
variable{Bs:aa}{ps:List (HS K)}{vs:List (V3 K)}
def QI(n i k:Nat)(b:Bool):aW:=[(8,vI k),(7,.bool b),(6,vI i),(0,sl 0 n)]
def IP(ps:List (HS K)):aH:=[(0,.view (aK ps))]
theorem aSZ{i k m:Nat}{p q:HS K}{b t:Bool}(hk:k<i)(hi:i<ps.length)(hp:ps[i]?=some p)(hq:ps[k]?=some q)(bW:∀ p∈ps,bt m p/\p.n≠0)(hm:100*m+1000<=aB)(h63:ps.length<=500)(ht:(b||decide (canon p=canon q))=t):
  ag prog Bs 57 (aF (af f62 2)) (QI ps.length i k b) (IP ps) 5 ⟨.normal,QI ps.length i (k+1) t,IP ps,5⟩:=by
 have sp:=bW p (cQ hp);have sq:=bW q (cQ hq);have hs:=aVK sp.1 sq.1 o_ o_ sp.2 sq.2;cases b with
 |true=>
  rw[Gz]at ht;subst ht;exact aA [.lt 23 k i true (aC hk),.sum 25 k 1 (k+1) rfl o_]
 |false=>
  rw[yP]at ht;rw[ht]at hs;exact aA [.lt 23 k i true (aC hk),.cY f62 30 0 ps.length i 40 hi k_,.ld f62 31 35 0 (i*40) (.view (aK ps)) (cC p) rfl (xE hp) k_,.cY f62 34 0 ps.length k 40 o_ k_,.ld f62 35 35 0 (k*40) (.view (aK ps)) (cC q) rfl (xE hq) k_,hs.at 36,.sum 25 k 1 (k+1) rfl o_]
theorem aFK{i m:Nat}{p:HS K}(hi:i<ps.length)(hp:ps[i]?=some p)(bW:∀ p∈ps,bt m p/\p.n≠0)(hm:100*m+1000<=aB)(h63:ps.length<=500):
  ag prog Bs 57 (.block 2 (af f62 2)) (QI ps.length i 0 false) (IP ps) 5 ⟨.normal,[(7,.bool (pA ps i p))],IP ps,5⟩:=
 bT (id:=2) (cd (r:=⟨.exit 2,[(7,.bool (IM ps i p))],IP ps,5⟩) i (λk=>QI ps.length i k (IM ps k p)) (λ_=>IP ps) (λi k _=>Iff.rfl) (λk hk=>by
  have hq:=bf (l:=ps) (i:=k) o_;exact aSZ hk hi hp hq bW hm h63 (aSY hq p).symm) (by
  generalize IM ps i p=b;exact aA [.lt 23 i i false s_]) n_)
def D5(n i:Nat)(v2:Value):aW:=[(6,vI i),(0,sl 0 n),(1,v2),(4,ptr 1),(5,ptr 3)]
def yg(ps:List (HS K))(v2:Value)(cells:aj)(c:Nat):aH:=
 [(0,.view (aK ps)),(1,.aI [.slice none 0 0,.slice none 0 0,.slice none 0 0] 26),(2,.row (aK ps) 35 40),(3,.aI [sl 2 ps.length,v2,sl 4 c] 26),(4,.row cells 63 2)]
section
variable{b o c:Nat}
theorem aS0{i m cc:Nat}{p:HS K}{cells:aj}(hi:i<ps.length)(hp:ps[i]?=some p)(bW:∀ p∈ps,bt m p/\p.n≠0)(hm:300*m+1000<=aB)(h63:ps.length<=500)(ht:pA ps i p=true):
  ag prog Bs 57 (aF (af f62 0)) (D5 ps.length i (.slice (some ⟨b,o,none⟩) vs.length c)) (yg ps (.slice (some ⟨b,o,none⟩) vs.length c) cells cc) 5
   ⟨.normal,D5 ps.length (i+1) (.slice (some ⟨b,o,none⟩) vs.length c),yg ps (.slice (some ⟨b,o,none⟩) vs.length c) cells cc,5⟩:=by
 have lo:=aFK (Bs:=Bs) hi hp bW o_ h63;rw[ht]at lo;exact aA [.lt 18 i ps.length true (aC hi),.code 2 _ _ _ _ _ lo,.sum 20 i 1 (i+1) rfl o_]
noncomputable def rcS{i m:Nat}{p:HS K}(hi:i<ps.length)(hp:ps[i]?=some p)(bW:∀ p∈ps,bt m p/\p.n≠0)(hm:300*m+1000<=aB)(h63:ps.length<=500)(ht:pA ps i p=false)(more:bA prog Bs 57):bA prog Bs 57:=
 .lt 18 i ps.length true (aC hi)::.code 2 _ _ _ _ _ (ht▸aFK (Bs:=Bs) hi hp bW o_ h63)::.cY f62 41 0 ps.length i 40 hi k_::.ld f62 42 35 0 (i*40) (.view (aK ps)) (cC p) rfl (xE hp) k_::more
theorem aS1{i m cc:Nat}{p:HS K}{cells:aj}(hi:i<ps.length)(hp:ps[i]?=some p)(bW:∀ p∈ps,bt m p/\p.n≠0)(aO:∀ v∈vs,aD m v)(hm:300*m+1000<=aB)(h63:ps.length<=500)(ik:vs.length<900000)(ht:pA ps i p=false)
  (iu:∀ w,Bs.G w->cK w (.slice (some ⟨b,o,none⟩) vs.length c) vs.length (aL vs)) (ho:(cz p vs vs.length).length<3) :
  ag prog Bs 57 (aF (af f62 0)) (D5 ps.length i (.slice (some ⟨b,o,none⟩) vs.length c)) (yg ps (.slice (some ⟨b,o,none⟩) vs.length c) cells cc) 5
   ⟨.normal,D5 ps.length (i+1) (.slice (some ⟨b,o,none⟩) vs.length c),yg ps (.slice (some ⟨b,o,none⟩) vs.length c) cells cc,5⟩:=by
 have sp:=bW p (cQ hp);have hl:=aSa sp.1 sp.2 aO o_ ik ho;exact aA (rcS hi hp bW hm h63 ht [.step 44 (av f62 44) [.func (.func 104) #[] #[],cC p,.slice (some ⟨b,o,none⟩) vs.length c] [] (.slice none 0 0) []
   (dz hl (.p rfl (.e rfl iu .nil)) (x:=.func 104) k_ k_ rfl),.gt 47 0 0 false rfl,.sum 20 i 1 (i+1) rfl o_])
theorem aS2{i m cc:Nat}{p:HS K}{cells:aj}(hi:i<ps.length)(hp:ps[i]?=some p)(bW:∀ p∈ps,bt m p/\p.n≠0)(aO:∀ v∈vs,aD m v)(hm:300*m+1000<=aB)(h63:ps.length<=500)(ik:vs.length<900000)(ht:pA ps i p=false)
  (iu:∀ w,Bs.G w->cK w (.slice (some ⟨b,o,none⟩) vs.length c) vs.length (aL vs)) (ho:¬(cz p vs vs.length).length<3) (hk:IL p vs) (hc:cells.length=cc*2) (Lu:cc<=500) (D9:∀ v∈cells,v.oneCell'=true) :
  ag prog Bs 57 (aF (af f62 0)) (D5 ps.length i (.slice (some ⟨b,o,none⟩) vs.length c)) (yg ps (.slice (some ⟨b,o,none⟩) vs.length c) cells cc) 5
   ⟨.normal,D5 ps.length (i+1) (.slice (some ⟨b,o,none⟩) vs.length c),[(0,.view (aK ps)),(1,.aI [.slice none 0 0,.slice none 0 0,.slice none 0 0] 26),(2,.row (aK ps) 35 40),(3,.aI [sl 2 ps.length,.slice (some ⟨b,o,none⟩) vs.length c,sl 7 (cc+1)] 26),(5,.row (ai (order p.n (aJ vs) (cz p vs vs.length))) 3 1),(7,.row (cells++[vI i,sl 5 (ai (order p.n (aJ vs) (cz p vs vs.length))).length]) 63 2)],8⟩:=by
 have sp:=bW p (cQ hp);have hl:=aVB sp.1 sp.2 aO hm ik ho hk.flat hk.seq;have hlen:=hk.len;rw[lN];generalize order p.n (aJ vs) (cz p vs vs.length)=l at *;generalize mC:cells++[vI i,sl 5 l.length]=cells' at *;exact aA (rcS hi hp bW hm h63 ht [.step 44 (av f62 44) [.func (.func 104) #[] #[],cC p,.slice (some ⟨b,o,none⟩) vs.length c] [(5,none)] (sl 5 l.length) [(5,.row (ai l) 3 1)]
   (qI hl (.p rfl (.e rfl iu .nil)) (x:=.func 104) k_ k_ (gU l) 5),.gt 47 l.length 0 true (aC o_),
  .step 52 (av f62 52) [vI i,sl 5 l.length] [] (.agg #[vI i,sl 5 l.length]) [] (Pk (t:=63) (idx:=[0,1]) k_ (λit z h1 h2=>aEv h1 h2) k_),
  .bsM f62 53 6 1 63 2 [0] (.agg #[vI 0,.slice none 0 0]) [.agg #[vI i,sl 5 l.length]] #[vI i,sl 5 l.length] (.row [vI i,sl 5 l.length] 63 2) rfl (λv hv=>by
   have hv:v∈[vI 0,.slice none 0 0]:=hv;simp at hv;rcases hv with rfl|rfl<;>rfl) d_ k_ rfl d_ d_ k_,.pa f62 54 7 4 cc 1 (cc+1) 63 2 32 cells 6 (.row [vI i,sl 5 l.length] 63 2) cells' rfl rfl rfl hc mC (λv hv=>by
   simp[Obj.cells]at hv;rcases hv with rfl|rfl<;>rfl) d_ (by simp[maxLen];omega) o_ k_,.sum 20 i 1 (i+1) rfl o_])
end
end
end
theorem aQ.aS3{B:aa}{ks:List (Value×aj)}{ι:Map}{c:Nat->Option Obj}{w:World}(h:aQ (B.gB ks) ι c w):aQ B ι c w:=
 ⟨h.base.1,h.dr,h.born,λk x b o cap e hx hl=>⟨(h.own k x b o cap e hx hl).1,λhF=>(h.own k x b o cap e hx hl).2 (.inl hF)⟩,h.inj,h.apart,h.seen,h.fa,h.one,h.oz⟩
def Kept(ks:List (Value×aj))(cs:aj):Prop:=∀ v∈cs,∀ b,iE v=some b->∃ p∈ks,iE p.1=some b
theorem Kept.snoc{ks:List (Value×aj)}{cs:aj}(h:Kept ks cs)(i:Nat)(u:Value)(xs:aj):Kept ((u,xs)::ks) (cs++[vI i,u]):=λv hv b hb=>by
 rcases ee.1 hv with hv|hv
 ·obtain⟨p,hp,e⟩:=h v hv b hb;exact⟨p,bF _ hp,e⟩
 ·simp at hv;rcases hv with rfl|rfl
  ·cases hb
  ·exact⟨_,aV ..,hb⟩
section
open V3 (dot ax cL smul)
section
variable{ps:List (HS K)}{vs:List (V3 K)}{b o c:Nat}
noncomputable def rC0:Code:=qR (eO f62)
noncomputable def rC1:Code:=qR (mV (eO f62))
noncomputable def rC2:Code:=qR (qR (mV (mV (eO f62))))
noncomputable def rC3:Code:=qR (mV (mV (mV (eO f62))))
theorem aS4:(f62).body=some (.seq rC0 (.seq rC1 (.seq (.seq rC2 (.block 0 (.loop (aF (af f62 0))))) (.seq rC3 .ret)))):=k_
theorem aFL{cells:aj}{cc:Nat}(cN:∀ v∈cells,flat v=true){r:List (Nat×Nat)}(h1:(([.slice none 0 0,.slice none 0 0,.slice none 0 0]:aj).all (tP r))=true)(h3:([sl 2 ps.length,.slice (some ⟨b,o,none⟩) vs.length c,sl 4 cc].all (tP r))=true):∀ p∈yg ps (.slice (some ⟨b,o,none⟩) vs.length c) cells cc,FI r p.2:=λp hp=>by
 simp only[yg,cx,jg,jh]at hp;rcases hp with rfl|rfl|rfl|rfl|rfl
 ·exact λv hv=>bh.1 (cU ps) v hv
 ·exact h1
 ·exact λv hv=>bh.1 (cU ps) v hv
 ·exact h3
 ·exact cN
def QJ(B:aa)(ps:List (HS K))(vs:List (V3 K))(v2:Value)(i:Nat)(a:Act)(w:World):Prop:=
 ∃ ks cells,Ai B ((ft ps vs i).map qY) ks cells/\Kept ks cells/\St (B.gB ks) 57 (D5 ps.length i v2) (yg ps v2 cells (ft ps vs i).length) 5 a w
theorem aS5{B:aa}{m i:Nat}(pc:∀ k,B.mp k=none)(hi:i<ps.length)(bW:∀ p∈ps,bt m p/\p.n≠0)(aO:∀ v∈vs,aD m v)(hm:300*m+1000<=aB)(h63:ps.length<=500)(ik:vs.length<900000)
  (iu:∀ w,B.G w->cK w (.slice (some ⟨b,o,none⟩) vs.length c) vs.length (aL vs)) (dQ:∀ p∈ps,¬(cz p vs vs.length).length<3->IL p vs) {a:Act} {w:World} (h:QJ B ps vs (.slice (some ⟨b,o,none⟩) vs.length c) i a w)
  (K:Act->World->Prop) (Q:Exit->Act->World->Prop) (hK:∀ a' w',QJ B ps vs (.slice (some ⟨b,o,none⟩) vs.length c) (i+1) a' w'->K a' w'):(aF (af f62 0)).wpIn (FW none) 0 prog (Exit.then K Q) a w:=by
 obtain⟨ks,cells,hF,QK,hS⟩:=h;have iW:ps[i]?=some ps[i]:=bf hi;have mE:lQ ps vs i=qX ps vs i ps[i]:=by unfold lQ;rw[iW]
 obtain⟨iF,D9⟩:=aEw hF hS;have Lu:(ft ps vs i).length<=500:=by have:=Qc ps vs i;omega
 have aFM:∀ w,(B.gB ks).G w->cK w (.slice (some ⟨b,o,none⟩) vs.length c) vs.length (aL vs):=λw h=>iu w h.1;have stay:lQ ps vs i=[]->∀ a' w',St (B.gB ks) 57 (D5 ps.length (i+1) (.slice (some ⟨b,o,none⟩) vs.length c)) (yg ps (.slice (some ⟨b,o,none⟩) vs.length c) cells (ft ps vs i).length) 5 a' w'->K a' w':=by
  intro he a' w' h';have e:ft ps vs (i+1)=ft ps vs i:=by rw[Ls,he,je]
  exact hK a' w' ⟨ks,cells,by rw[e];exact hF,QK,by rw[e];exact h'⟩
 by_cases tX:pA ps i ps[i]=true
 ·have he:lQ ps vs i=[]:=by rw[mE];unfold qX;rw[aw (show(ps.take i).any (λq=>decide (canon ps[i]=canon q))=true from tX)]
  exact lh (aS0 hi iW bW hm h63 tX) hS λa' w' h'=>stay he a' w' h'
 ·have Iv:pA ps i ps[i]=false:=by simpa using tX
  by_cases ho:(cz ps[i] vs vs.length).length<3
  ·have he:lQ ps vs i=[]:=by rw[mE];unfold qX;rw[ao (show ¬(ps.take i).any (λq=>decide (canon ps[i]=canon q))=true from tX),aw ho]
   exact lh (aS1 hi iW bW aO hm h63 ik Iv aFM ho) hS λa' w' h'=>stay he a' w' h'
  ·have hlk:=dQ _ (dM hi) ho;have he:lQ ps vs i=[(i,order ps[i].n (aJ vs) (cz ps[i] vs vs.length))]:=by rw[mE];unfold qX;rw[ao (show ¬(ps.take i).any (λq=>decide (canon ps[i]=canon q))=true from tX),ao ho,aw (by rw[hlk.len];omega)]
   refine lh (aS2 hi iW bW aO hm h63 ik Iv aFM ho hlk iF Lu D9) hS λa' w' h'=>?_;show K a' w';obtain⟨u,hu,uN,h2⟩:=h'.Pu (m:=5) (k:=7) rfl (gU _) rfl d_;have e:ft ps vs (i+1)=ft ps vs i++[(i,order ps[i].n (aJ vs) (cz ps[i] vs vs.length))]:=by rw[Ls,he]
   have vL:=hF.snoc (i:=i) (l:=order ps[i].n (aJ vs) (cz ps[i] vs vs.length)) hu uN;refine hK a' w' ⟨_,cells++[vI i,u],by rw[e,sW];exact vL,QK.snoc i u _,?_⟩;rw[e,iZ];have cN:=vL.flat;generalize cells++[vI i,u]=cells' at *;exact h2.H4 pc [(0,0),(1,1),(2,2),(3,3),(4,7)] k_ rfl (aFL cN k_ k_) k_ k_ k_ k_ k_
theorem aS6(ps:List (HS K)):((aK ps).drop 0).take (ps.length*40)=aK ps:=by rw[l9,ki (by rw[Af];exact bj _)]
theorem aS7{m:Nat}(bW:∀ p∈ps,bt m p/\p.n≠0)(aO:∀ v∈vs,aD m v)(hm:300*m+1000<=aB)(h63:ps.length<=500)(ik:vs.length<900000)(dQ:∀ p∈ps,¬(cz p vs vs.length).length<3->IL p vs):
  aFC prog 62 35 40 ps.length (aK ps) vs.length (aL vs) (dq ((ft ps vs ps.length).map qY)):=by
 intro w v1 b o c tT nD;have ct:rZ w [fC ps,.p (.slice (some ⟨b,o,none⟩) vs.length c)] [v1,.slice (some ⟨b,o,none⟩) vs.length c]:=.cons tT (.cons rfl .nil);have ay:([fC ps,.p (.slice (some ⟨b,o,none⟩) vs.length c)].all aR.ok)=true:=by simp only[dH,fp,Wr,kD,iU];rfl
 obtain⟨ι,cc,h1,h2,h3,h4,h5,h6,h7⟩:=vN ct (bh.1 ay) 0 _ _ (qx w) n_ (λ_ _=>rfl);have pc:∀ k,(aa.at w).mp k=none:=λ_=>rfl;have iu:∀ w',(aa.at w).G w'->cK w' (.slice (some ⟨b,o,none⟩) vs.length c) vs.length (aL vs):=λw' hb=>nD.gB hb;refine U9 (N:=57) (B:=(aa.at w).gB []) func62 aS4 k_ h6 (aCD h2) h4 h3 rfl λa bL=>?_;have CT:=aS6 ps;have qV:=Af ps
 have g0:∀ B:aa,ag prog B 57 rC0 (jA 0 (eP 0 [fC ps,.p (.slice (some ⟨b,o,none⟩) vs.length c)])) (js 0 [fC ps,.p (.slice (some ⟨b,o,none⟩) vs.length c)]) 1
   ⟨.normal,[(4,ptr 1),(0,sl 0 ps.length),(1,.slice (some ⟨b,o,none⟩) vs.length c)],[(0,.view (aK ps)),(1,.aI [.slice none 0 0,.slice none 0 0,.slice none 0 0] 26)],2⟩:=λB=>aA []
 have g1:∀ B:aa,ag prog B 57 rC1 [(4,ptr 1),(0,sl 0 ps.length),(1,.slice (some ⟨b,o,none⟩) vs.length c)] [(0,.view (aK ps)),(1,.aI [.slice none 0 0,.slice none 0 0,.slice none 0 0] 26)] 2
   ⟨.normal,[(4,ptr 1),(5,ptr 4),(0,sl 0 ps.length),(1,.slice (some ⟨b,o,none⟩) vs.length c)],[(0,.view (aK ps)),(1,.aI [.slice none 0 0,.slice none 0 0,.slice none 0 0] 26),(3,.row (aK ps) 35 40),(4,.aI [sl 3 ps.length,.slice (some ⟨b,o,none⟩) vs.length c,.slice none 0 0] 26)],5⟩:=λB=>
  aA [.K3 f62 10 2 35 40 (RP.v ⟨sG,F5⟩) k_,.Qs f62 12 3 2 0 ps.length ps.length 35 40 480 0 0 [] 0 (.view (aK ps)) (aK ps) (jY _) rfl (by show(((aK ps).drop 0).take (ps.length*40)).length=_;rw[CT,qV]) rfl (by show[]++((aK ps).drop 0).take (ps.length*40)=_;rw[CT,jo]) (aEa ps) d_ (by simp[maxLen];omega) o_ k_,.step 14 (av f62 14) [sl 3 ps.length,.slice (some ⟨b,o,none⟩) vs.length c] [] (.agg #[sl 3 ps.length,.slice (some ⟨b,o,none⟩) vs.length c,.slice none 0 0]) [] (Pk (t:=26) (idx:=[0,1]) k_ (λit z h1 h2=>aEF h1 h2) k_)]
 have g2:∀ B:aa,ag prog B 57 rC2 [(4,ptr 1),(5,ptr 4),(0,sl 0 ps.length),(1,.slice (some ⟨b,o,none⟩) vs.length c)]
    [(0,.view (aK ps)),(1,.aI [.slice none 0 0,.slice none 0 0,.slice none 0 0] 26),(3,.row (aK ps) 35 40),(4,.aI [sl 3 ps.length,.slice (some ⟨b,o,none⟩) vs.length c,.slice none 0 0] 26)] 5
   ⟨.normal,[(6,vI 0),(0,sl 0 ps.length),(1,.slice (some ⟨b,o,none⟩) vs.length c),(4,ptr 1),(5,ptr 4)],[(0,.view (aK ps)),(1,.aI [.slice none 0 0,.slice none 0 0,.slice none 0 0] 26),(3,.row (aK ps) 35 40),(4,.aI [sl 3 ps.length,.slice (some ⟨b,o,none⟩) vs.length c,.slice none 0 0] 26)],5⟩:=λB=>aA []
 refine lB (lh (g0 _) bL λa1 w1 s1=>?_);refine lB (lh (g1 _) s1 λa2 w2 s2=>?_);refine lB (lB (lh (g2 _) s2 λa3 w3 s3=>?_));refine Jm ?_;have s4:=St.aSE (k:=4) (pre:=[sl 3 ps.length,.slice (some ⟨b,o,none⟩) vs.length c]) (post:=[]) (tb:=26) s3 rfl 63 2;have i0:QJ (aa.at w) ps vs (.slice (some ⟨b,o,none⟩) vs.length c) 0 a3 w3:=⟨[],[],.nil,λv h=>(by cases h),s4.H4 pc [(0,0),(1,1),(2,3),(3,4),(4,5)] k_ rfl (aFL n_ k_ k_) k_ k_ k_ k_ k_⟩;refine U8 ps.length (QJ (aa.at w) ps vs (.slice (some ⟨b,o,none⟩) vs.length c)) i0 (λi hi a' w' h' K hK=>aS5 pc hi bW aO hm h63 ik iu dQ h' K _ hK) λa' w' h'=>?_;obtain⟨ks,cells,hF,QK,hS⟩:=h';have fM:aH:=yg ps (.slice (some ⟨b,o,none⟩) vs.length c) cells (ft ps vs ps.length).length;refine lh (r:=⟨.exit 0,[(4,ptr 1),(5,ptr 3)],yg ps (.slice (some ⟨b,o,none⟩) vs.length c) cells (ft ps vs ps.length).length,5⟩) (aA [.lt 18 ps.length ps.length false s_]) hS λa4 w4 s4=>?_;show Code.wpIn _ _ _ _ _ _ _;refine lB (lh (r:=⟨.normal,[(4,ptr 1)],[(1,.aI [sl 2 ps.length,.slice (some ⟨b,o,none⟩) vs.length c,sl 4 (ft ps vs ps.length).length] 26),(2,.row (aK ps) 35 40),(4,.row cells 63 2)],5⟩) (aA []) s4 λa5 w5 s5=>?_);refine Jn ?_;refine(Va s5 rfl (v:=.agg #[sl 2 ps.length,.slice (some ⟨b,o,none⟩) vs.length c,sl 4 (ft ps vs ps.length).length]) k_ λau bY v' bo x6 hc=>?_).1;obtain⟨us,rfl,Ku⟩:=hc.I4;obtain⟨u1,u2,u3,e3,c1,c2,c3⟩:=Ja Ku;have e2:=c2.eU rfl;subst e2;rw[show(ft ps vs ps.length).length=((ft ps vs ps.length).map qY).length by rw[eY]]at c3;have ho:=hF.out bo (x6 4 _ rfl) c3;have jm:=vx bo.aS3 (x6 2 _ rfl) c1 (by rw[qV];exact bj _) (bh.1 (cU ps));rw[<-qV,mQ]at jm;refine⟨u1,u3,?_,jm,ho.1,λb' jz=>Ot (ho.2 b' jz),λb' jz vL=>?_,bo.base.1⟩
 ·congr 2
  rw[<-xu (xs:=us),e3]
 ·obtain⟨o1,lV,q1⟩:=H6 bo c1 jz;have Ey:=bo.own 2 _ b' o1 lV (x6 2 _ rfl) rfl q1;rcases vL with vL|⟨b2,oo,rk,j,u,e,hj,lX,gp⟩
  ·obtain⟨o4,aS8,q4⟩:=H6 bo c3 vL;have:=bo.inj 2 4 _ _ b' o1 lV o4 aS8 (x6 2 _ rfl) rfl (x6 4 _ rfl) rfl q1 q4;cases this
  ·have hf:=hF.cells _ bo.base.2;have hl:=hf.length;have hr:=oD (len:=((ft ps vs ps.length).map qY).length*2) bo (x6 4 _ rfl) rfl hF.flat (λe=>by rw[e]) c3;have hr:cK w5 u3 ((ft ps vs ps.length).map qY).length cells:=by
    have e:((Obj.row cells 63 2).cells.drop 0).take (((ft ps vs ps.length).map qY).length*2)=cells:=by rw[l9];exact ki (vj hl)
    rwa[e]at hr
   obtain⟨q,hq,e'⟩:=QK u (Pm hr hf e hj lX) b' gp;exact Ey.2 (.inr ⟨q,hq,e'⟩)
end
section
variable{ps:List (HS K)}{m M:Nat}
structure pD(ps:List (HS K))(m M:Nat):Prop where
 len:ps.length<=9
 pl:∀ p∈ps,bt m p/\p.n≠0
 low:120*m+365<=M
 lim:1000*M+10000<=aB
theorem pD.sz(h:pD ps m M):(∀ v∈eT ps,aD M v)/\(eT ps).length<=81*9:=by obtain⟨h1,h2⟩:=WJ h.pl h.low h.len ps.length (bj _);refine⟨h1,de h2 ?_⟩;have:=h.len;omega
theorem pD.rp(h:pD ps m M):m<=M/\1000*m+10000<=aB/\200*m+1000<=aB/\100*M+1000<=aB/\300*M+1000<=aB/\m<=aB/\M<=aB:=by have h1:=h.low;have h2:=h.lim;have hmM:m<=M:=de (de (Pe m (by decide:0<120)) (JI _ 365)) h1;have q1:1000*m+10000<=aB:=de (Ix (jc _ hmM) _) h2;have q2:200*m+1000<=aB:=de (Kl (e6 m (by decide:200<=1000)) d_) q1;have q3:100*M+1000<=aB:=de (Kl (e6 M (by decide:100<=1000)) d_) h2;have q4:300*M+1000<=aB:=de (Kl (e6 M (by decide:300<=1000)) d_) h2;have q5:m<=aB:=de (de (Pe m (by decide:0<200)) (JI _ 1000)) q2;have q6:M<=aB:=de (de (Pe M (by decide:0<1000)) (JI _ 10000)) h2;exact⟨hmM,q1,q2,q3,q4,q5,q6⟩
theorem pD.all(h:pD ps m M):cy prog 58 [fC ps] (.bool true):=by
 have:=aEU (ps:=ps.map cH) (m:=m) (λx hx=>by obtain⟨p,hp,rfl⟩:=dj.1 hx;exact aDL (h.pl p hp).1) h.rp.2.2.2.2.2.1 (by rw[eY];have:=h.len;omega)
 rw[eY,show(ps.map cH).all pz=true by rw[bh];intro x hx;obtain⟨p,hp,rfl⟩:=dj.1 hx;rw[aDK];exact aC (h.pl p hp).2]at this
 exact this
noncomputable def Xd{Bs:aa}{t:Bool}(h:pD ps m M)(ht:wm ps=t)(more:bA prog Bs 29):bA prog Bs 29:=
 .step 7 (av f37 7) [.func (.func 58) #[] #[],sl 0 ps.length] [(0,some (.view (aK ps)))] (.bool true) []
  (dz h.all (.w (x:=.view (aK ps)) rfl (cU ps) iD .nil) (x:=.func 58) k_ k_ rfl)::
 .gt 13 ps.length 100 false (aN (by have:=h.len;omega))::
 .step 17 (av f37 17) [.func (.func 59) #[] #[],sl 0 ps.length] [(0,some (.view (aK ps)))] (.bool t) []
  (dz (ht▸aRy (λp hp=>(h.pl p hp).1) h.rp.2.1 (by have:=h.len;omega)) (.w (x:=.view (aK ps)) rfl (cU ps) iD .nil) (x:=.func 59) k_ k_ rfl)::more
noncomputable def aFN{Bs:aa}{t:Bool}(h:pD ps m M)(ht:vf (eT ps)=!t)(more:bA prog Bs 29):bA prog Bs 29:=
 .step 21 (av f37 21) [.func (.func 60) #[] #[],sl 0 ps.length] [(2,none),(0,some (.view (aK ps)))] (sl 2 (eT ps).length) [(2,.row (aL (eT ps)) 33 30)]
  (qI (aRU h.pl h.rp.2.2.1 h.low h.rp.2.2.2.1 h.len) (.w (x:=.view (aK ps)) rfl (cU ps) iD .nil) (x:=.func 60) k_ k_ (dJ _) 2)::
 .step 23 (av f37 23) [.func (.func 61) #[] #[],sl 2 (eT ps).length] [(2,some (.row (aL (eT ps)) 33 30))] (.bool t) []
  (dz (by have:=aRZ h.sz.1 h.rp.2.2.2.2.1 (by have:=h.sz.2;omega);rw[ht,Bool.not_not]at this;exact this) (.w (x:=.row (aL (eT ps)) 33 30) rfl (dJ _) vV .nil) (x:=.func 61) k_ k_ rfl)::more
theorem aS9{rs:List RP}(hs:∀ x∈rs,Ae m x)(hm:m<=aB)(h63:rs.length<9223372036854775807)(hb:rs.all pz=false):cy prog 37 [.r rs.length (db rs)] (.tuple #[qZ,iN 1]):=by
 have ha:=aEU hs hm h63;rw[hb]at ha;have ay:([aR.r rs.length (db rs)].all aR.ok)=true:=by simp only[dH,fp,aR.ok,gT iC,iU]
 exact dW func37 ay 29 (λ_=>[.step 7 (av f37 7) [.func (.func 58) #[] #[],sl 0 rs.length] [(0,some (.view (db rs)))] (.bool false) []
  (dz ha (.w (x:=.view (db rs)) rfl (gT iC rs) (λh=>by rw[lv h];rfl) .nil) (x:=.func 58) k_ k_ rfl)])
theorem aTa(h:pD ps m M)(hc:wm ps=false):cy prog 37 [fC ps] (.tuple #[qZ,iN 13]):=
 dW func37 (DU ps) 29 (λ_=>Xd h hc [])
theorem aTb(h:pD ps m M)(hc:wm ps=true)(hi:vf (eT ps)=true):cy prog 37 [fC ps] (.tuple #[qZ,iN 12]):=
 dW func37 (DU ps) 29 (λ_=>Xd h hc (aFN (t:=false) h hi []))
def yi(ps:List (HS K)):List (Int×List Int):=(ft ps (eT ps) ps.length).map qY
theorem aFO(h:pD ps m M)(hc:wm ps=true)(hi:vf (eT ps)=false)(dQ:∀ p∈ps,¬(cz p (eT ps) (eT ps).length).length<3->IL p (eT ps)):
  tQ prog 37 [fC ps] 35 40 ps.length (aK ps) 33 30 (eT ps).length (aL (eT ps)) (dq (yi ps)) [iN 0]:=by
 have aTc:=aS7 (ps:=ps) (vs:=eT ps) (m:=M) (λp hp=>⟨(h.pl p hp).1.mono h.rp.1,(h.pl p hp).2⟩) h.sz.1 h.rp.2.2.2.2.1 (by have:=h.len;omega) (by have:=h.sz.2;omega) dQ;have yU:0<(eT ps).length:=by
  rcases ob (eT ps).length with h0|h0
  ·rw[lv h0]at hi;cases hi
  ·exact h0
 refine Px (k1:=3) (k2:=2) (k3:=4) mixed func37 (DU ps) 100 (N:=29) k_ (λw=>Xd h hc (aFN (t:=true) h hi [
  .step 28 (av f37 28) [.func (.func 62) #[] #[],sl 0 ps.length,sl 2 (eT ps).length] [(3,none),(4,none),(0,some (.view (aK ps))),(2,some (.row (aL (eT ps)) 33 30))]
   (.agg #[sl 3 ps.length,sl 2 (eT ps).length,eE 4]) [(4,.fact ((dq (yi ps)).jT w.heap.size)),(3,.row (aK ps) 35 40)]
   (aSF (B:=aa.at w) (S:=w.heap.size) aTc (.w (x:=.view (aK ps)) rfl (cU ps) iD (.w (x:=.row (aL (eT ps)) 33 30) rfl (dJ _) vV .nil)) (x:=.func 62) k_ k_ rfl (cU ps) yU (λw' hb=>Below.size hb) 3)])) (λw=>?_) d_ (cU ps) (Af ps) (dJ _) (sk _) k_
 kernel_rfl
end
end
section
variable{P:Program}{B:aa}{N:Nat}
theorem aTd{o:Oper}(ho:Ic o=true){x y r:Int}(hr:r=if x<y then y else x):cB P B o [.int .i64 x,.int .i64 y] [] (.int .i64 r) []:=by
 subst hr;unfold Ic at ho;split at ho
 ·rename_i c bP;split at ho
  ·rename_i p q h1 h2;refine(AA (λu hu=>by simp at hu;rcases hu with rfl|rfl<;>rfl) rfl λρ e7 w _=>?_).step;obtain⟨ce,ar,at'⟩:=c;dsimp only at h1 h2;subst h1;have e1:ar=#[p,q]:=by rw[<-xu (xs:=ar),h2]
   subst e1;rw[bP]at e7;simp[Op.operands,Call.operands]at e7;simp[execOp,bP,resolve,invoke,builtin,Builtin.max_,Builtin.max2,e7.1,e7.2]
  ·cases ho
 ·cases ho
def aY.aFP(fn:Func)(key:Nat)(x y r:Int)(hr:r=if x<y then y else x)(ho:Ic (av fn key)=true):aY P B N:=
 .step key (av fn key) [.int .i64 x,.int .i64 y] [] (.int .i64 r) [] (aTd ho hr)
end
section
variable{P:Program}{B:aa}{N:Nat}
theorem aTe{o:Oper}(ho:FK P o=true){k:Nat}{fs:List (Int×List Int)}{F:Fact}(hF:∀ v w,F.G v w->(dq fs).G v w):cB P B o [.pointer (some ⟨k,0,some 9⟩)] [(k,some (.fact F))] (vI fs.length) []:=by
 obtain⟨x,t,e,bP,ht⟩:=Pv ho;refine gW.step λι c ρ w aO hm oB=>?_;rw[bP]at aO;obtain⟨u,hu,hc⟩:=lW aO;have hu:ρ x=u:=by simpa[Op.operands,Call.operands]using hu
 have Gh:=Bz hm (oB (k,_) (aV ..)) hc;obtain⟨cs,hr,_⟩:=hF _ _ Gh.1;refine⟨ι,vI fs.length,w,Map.le.refl _,.same rfl,hm,.inl ?_⟩;rcases hr with ⟨q1,q2,_⟩|⟨b,o',c',q1,_⟩
 ·subst q1;simp[execOp,bP,resolve,invoke,builtin,Builtin.len_,hu,iG ht,goInt,q2,vI]
 ·subst q1;simp[execOp,bP,resolve,invoke,builtin,Builtin.len_,hu,iG ht,goInt,vI]
end
def pE(w:World)(v:Value)(n:Nat)(xs:aj):Prop:=cK w v n xs\/(n=0/\∃ a,v=.slice (some a) 0 0)
theorem Xe{w w':World}{u:Value}{l:List Int}(h:pE w u l.length (eD l))(hs:w.heap.size<=w'.heap.size)(hk:0<l.length->∀ b,iE u=some b->xG w w' b):pE w' u l.length (eD l):=by
 rcases h with h|h
 ·rcases ob l.length with h0|h0
  ·rcases h with h|⟨b,o,c,h1,h2,h3,h4⟩
   ·exact .inl (.inl h)
   ·refine .inl (.inr ⟨b,o,c,h1,h2,cv h3 hs,λj u hj=>?_⟩);rw[lv h0]at hj;simp[eD]at hj
  ·exact .inl (h.kept hs (hk h0))
 ·exact .inr h
theorem pE.lt{w:World}{u:Value}{n:Nat}{xs:aj}(h:pE w u n xs)(h0:0<n){b:Nat}(hb:iE u=some b):b<w.heap.size:=by
 rcases h with h|⟨h,_⟩
 ·exact h.lt hb
 ·omega
theorem pE.row{w:World}{u:Value}{n:Nat}{xs:aj}(h:pE w u n xs)(h0:0<n):cK w u n xs:=by
 rcases h with h|⟨h,_⟩
 ·exact h
 ·omega
theorem pE.one{w:World}{u:Value}{n:Nat}{xs:aj}(h:pE w u n xs):u.cells=#[u]/\u.oneCell'=true:=by rcases h with (⟨e,_⟩|⟨_,_,_,e,_⟩)|⟨_,_,e⟩<;>rw[e]<;>exact⟨rfl,rfl⟩
theorem pE.form{w:World}{u:Value}{n:Nat}{xs:aj}(h:pE w u n xs):(u=.slice none 0 0/\n=0)\/∃ a c,u=.slice (some a) n c:=by
 rcases h with (⟨e,e2,_⟩|⟨_,_,_,e,_⟩)|⟨e1,_,e⟩
 ·exact .inl ⟨e,e2⟩
 ·exact .inr ⟨_,_,e⟩
 ·subst e1;exact .inr ⟨_,_,e⟩
def nQ(l:List Int):Fact where
 G u w:=pE w u l.length (eD l)
 cO u w k:=0<l.length/\iE u=some k
 lt u w k h hF:=h.lt hF.1 hF.2
 dep u w w' h hs hk:=⟨Xe h hs λh0 b hb cs ty f hc=>(hk b ⟨h0,hb⟩).trans hc,λk hF=>hF⟩
 soft _ u w w' h hs hk:=⟨Xe h hs λh0 b hb=>hk b ⟨h0,hb⟩,λk hF=>hF⟩
inductive rh(w:World):List (Int×List Int)->aj->Prop
 |nil:rh w [] []
 |cons {i:Int} {l:List Int} {u:Value} {fs:List (Int×List Int)} {cs:aj}:pE w u l.length (eD l)->rh w fs cs->rh w ((i,l)::fs) (iV i::u::cs)
theorem rh.length{w:World}{fs:List (Int×List Int)}{cs:aj}(h:rh w fs cs):cs.length=fs.length*2:=by
 induction h with
 |nil=>rfl
 |cons _ _ ih=>simp only[oA,ih];omega
theorem aFQ{w:World}:∀{fs:List (Int×List Int)} {cs:aj},rh w fs cs->∀{i:Nat} {f:Int×List Int},fs[i]?=some f->∃ u,cs[i*2]?=some (iV f.1)/\cs[i*2+1]?=some u/\pE w u f.2.length (eD f.2)
 |_,_,.nil,i,f,h=>by simp at h
 |_,_,.cons (u:=u) h1 h2,0,f,h=>by simp at h;subst h;exact⟨u,rfl,rfl,h1⟩
 |_,_,.cons h1 h2,i+1,f,h=>by
  obtain⟨u,q1,q2,q3⟩:=aFQ h2 (i:=i) (by simpa using h);refine⟨u,?_,?_,q3⟩
  ·rw[show(i+1)*2=i*2+2 by omega];exact q1
  ·rw[show(i+1)*2+1=i*2+1+2 by omega];exact q2
def LK(u:Value)(k:Nat):Prop:=∃ a n c,u=.slice (some a) n c/\0<n/\a.block=k
theorem aTf{u:Value}{k:Nat}(h:LK u k):iE u=some k:=by obtain⟨a,n,c,rfl,_,e⟩:=h;show some a.block=_;rw[e]
theorem rh.kept{w w':World}{fs:List (Int×List Int)}{cs:aj}(h:rh w fs cs)(hs:w.heap.size<=w'.heap.size)(hk:∀ u∈cs,∀ b,LK u b->xG w w' b):rh w' fs cs:=by
 induction h with
 |nil=>exact .nil
 |cons h1 _ ih=>
  refine .cons (Xe h1 hs λh0 b hb=>hk _ (bF _ (aV ..)) b ?_) (ih λu hu=>hk u (bF _ (bF _ hu)));rcases h1.form with ⟨e,e2⟩|⟨a,c,e⟩
  ·omega
  ·subst e;injection hb with hb;exact⟨a,_,c,rfl,h0,hb⟩
theorem rh.lt{w:World}{fs:List (Int×List Int)}{cs:aj}(h:rh w fs cs):∀ u∈cs,∀ b,LK u b->b<w.heap.size:=by
 induction h with
 |nil=>intro u hu;cases hu
 |cons h1 _ ih=>
  intro u hu b hb;rcases cx.1 hu with rfl|hu
  ·obtain⟨a,n,c,e,_⟩:=hb;cases e
  ·rcases cx.1 hu with rfl|hu
   ·obtain⟨a,n,c,e,h0,e2⟩:=hb;rcases h1.form with ⟨e',e3⟩|⟨a',c',e'⟩
    ·rw[e']at e;cases e
    ·rw[e']at e;injection e with e1 Cw e3;subst Cw;exact h1.lt h0 (by rw[e'];injection e1 with e1;subst e1;show some a'.block=_;rw[e2])
   ·exact ih u hu b hb
def QL(w:World)(v:Value)(fs:List (Int×List Int)):Prop:=∃ cs,cK w v fs.length cs/\rh w fs cs
def QM(n:Nat)(v:Value)(w:World)(k:Nat):Prop:=
 iE v=some k\/∃ b o c j u,v=.slice (some ⟨b,o,none⟩) n c/\j<n*2/\w.cell? ⟨b,o+j,none⟩=some u/\LK u k
theorem aTg{w:World}{v:Value}{fs:List (Int×List Int)}{cs:aj}(h1:cK w v fs.length cs)(h2:rh w fs cs){b o c j:Nat}{u:Value}(hv:v=.slice (some ⟨b,o,none⟩) fs.length c)(hj:j<fs.length*2)(hu:w.cell? ⟨b,o+j,none⟩=some u):u∈cs:=by
 rcases h1 with ⟨h,_⟩|⟨b',o',c',e,_,_,h4⟩
 ·rw[h]at hv;cases hv
 ·rw[e]at hv;injection hv with hv _ _;injection hv with hv;injection hv with e1 e2 _;subst e1;subst e2;have ak:j<cs.length:=by rw[h2.length];exact hj
  have po:cs[j]?=some cs[j]:=bf ak;have:=h4 j _ po;rw[hu]at this;injection this with this;rw[this];exact dM ak
theorem aFR{w w':World}{v:Value}{fs:List (Int×List Int)}(h:QL w v fs)(hs:w.heap.size<=w'.heap.size)(hk:∀ k,QM fs.length v w k->xG w w' k):
  QL w' v fs/\∀ k,QM fs.length v w' k->QM fs.length v w k:=by
 obtain⟨cs,h1,h2⟩:=h;have HX:∀ b,iE v=some b->xG w w' b:=λb hb=>hk b (.inl hb);have Pn:∀ u∈cs,∀ b,LK u b->xG w w' b:=λu hu b hb=>by
  rcases h1 with ⟨_,_,h⟩|⟨b',o',c',e,_,_,h4⟩
  ·rw[h]at hu;cases hu
  ·obtain⟨j,hj,rfl⟩:=kM hu;refine hk b (.inr ⟨b',o',c',j,_,e,by rw[<-h2.length];exact hj,h4 j _ (bf hj),hb⟩)
 refine⟨⟨cs,h1.kept hs HX,h2.kept hs Pn⟩,λk hF=>?_⟩;rcases hF with hF|⟨b,o,c,j,u,e,hj,hc,hb⟩
 ·exact .inl hF
 ·rcases h1 with ⟨h,_⟩|⟨b',o',c',e',_,_,h4⟩
  ·rw[h]at e;cases e
  ·rw[e']at e;injection e with e1 _ e3;injection e1 with e1;injection e1 with e1 e2 _;subst e1;subst e2;subst e3;have ak:j<cs.length:=by rw[h2.length];exact hj
   have h5:=h4 j _ (bf ak);have h6:=U2 (HX b' (by rw[e'];rfl)) h5;rw[hc]at h6;injection h6 with h6;exact .inr ⟨b',o',c',j,u,e',hj,by rw[h6];exact h5,hb⟩
def nj(fs:List (Int×List Int)):Fact where
 G v w:=QL w v fs
 cO v w k:=QM fs.length v w k
 lt v w k h hF:=by
  obtain⟨cs,h1,h2⟩:=h;rcases hF with hF|⟨b,o,c,j,u,e,hj,hc,hb⟩
  ·exact h1.lt hF
  ·exact h2.lt u (aTg h1 h2 e hj hc) k hb
 dep v w w' h hs hk:=aFR h hs λk hF cs ty f hc=>(hk k hF).trans hc
 soft _ v w w' h hs hk:=aFR h hs hk
structure B6(fs:List (Int×List Int))(F:Fact):Prop where
 G:∀ v w,F.G v w->(nj fs).G v w
 cO:∀ v w k,(nj fs).cO v w k->F.cO v w k
theorem B6.self(fs:List (Int×List Int)):B6 fs (nj fs):=⟨λ_ _ h=>h,λ_ _ _ h=>h⟩
theorem ku.aTh{w:World}{fs:List (Int×List Int)}{cs:aj}(h:ku w fs cs):rh w fs cs:=by
 induction h with
 |nil=>exact .nil
 |cons h1 _ _ ih=>exact .cons (.inl h1) ih
theorem B6.full(fs:List (Int×List Int)):B6 fs (dq fs):=by
 refine⟨λv w h=>?_,λv w k h=>?_⟩
 ·obtain⟨cs,h1,h2⟩:=h;exact⟨cs,h1,h2.aTh⟩
 ·rcases h with h|⟨b,o,c,j,u,e,hj,hc,hb⟩
  ·exact .inl h
  ·exact .inr ⟨b,o,c,j,u,e,hj,hc,aTf hb⟩
theorem aTi{w:World}{v:Value}{fs:List (Int×List Int)}(h:QL w v fs)(hl:∀ f∈fs,0<f.2.length):KX w v fs:=by
 obtain⟨cs,h1,h2⟩:=h;refine⟨cs,h1,?_⟩;clear h1;induction h2 with
 |nil=>exact .nil
 |cons h3 _ ih=>
  have hr:=h3.row (hl _ (aV ..));refine .cons hr ?_ (ih λf hf=>hl f (bF _ hf));rcases hr with ⟨e,_⟩|⟨_,_,_,e,_⟩<;>rw[e]<;>rfl
section
variable{P:Program}{B:aa}{N:Nat}
theorem IQ{o:Oper}(ho:FK P o=true){k:Nat}{fs:List (Int×List Int)}{F:Fact}(hF:B6 fs F):cB P B o [.pointer (some ⟨k,0,some 9⟩)] [(k,some (.fact F))] (vI fs.length) []:=by
 obtain⟨x,t,e,bP,ht⟩:=Pv ho;refine gW.step λι c ρ w aO hm oB=>?_;rw[bP]at aO;obtain⟨u,hu,hc⟩:=lW aO;have hu:ρ x=u:=by simpa[Op.operands,Call.operands]using hu
 have Gh:=Bz hm (oB (k,_) (aV ..)) hc;obtain⟨cs,hr,_⟩:=hF.G _ _ Gh.1;refine⟨ι,vI fs.length,w,Map.le.refl _,.same rfl,hm,.inl ?_⟩;rcases hr with ⟨q1,q2,_⟩|⟨b,o',c',q1,_⟩
 ·subst q1;simp[execOp,bP,resolve,invoke,builtin,Builtin.len_,hu,iG ht,goInt,q2,vI]
 ·subst q1;simp[execOp,bP,resolve,invoke,builtin,Builtin.len_,hu,iG ht,goInt,vI]
theorem IU{o:Oper}(ho:FK P o=true){k:Nat}{l:List Int}:cB P B o [.pointer (some ⟨k,0,some 9⟩)] [(k,some (.fact (nQ l)))] (vI l.length) []:=by
 obtain⟨x,t,e,bP,ht⟩:=Pv ho;refine gW.step λι c ρ w aO hm oB=>?_;rw[bP]at aO;obtain⟨u,hu,hc⟩:=lW aO;have hu:ρ x=u:=by simpa[Op.operands,Call.operands]using hu
 have Gh:=Bz hm (oB (k,_) (aV ..)) hc;have hw:pE w u l.length (eD l):=Gh.1;refine⟨ι,vI l.length,w,Map.le.refl _,.same rfl,hm,.inl ?_⟩;rcases hw.form with ⟨q1,q2⟩|⟨a,c',q1⟩
 ·subst q1;simp[execOp,bP,resolve,invoke,builtin,Builtin.len_,hu,iG ht,goInt,q2,vI]
 ·subst q1;simp[execOp,bP,resolve,invoke,builtin,Builtin.len_,hu,iG ht,goInt,vI]
theorem aFS{o:Oper}(ho:AR P o=some 2){m i:Nat}{fs:List (Int×List Int)}{f:Int×List Int}{F:Fact}(hF:B6 fs F)(hi:fs[i]?=some f){k:Nat}(H0:m<k):
  cB P B o [.pointer (some ⟨m,0,some 9⟩),vI i] [(k,none),(k+1,none),(m,some (.fact F))] (.pointer (some ⟨k,0,some 7⟩)) [(k,.view [iV f.1,.pointer (some ⟨k+1,0,some 9⟩)]),(k+1,.fact (nQ f.2))]:=by
 unfold AR at ho;split at ho
 ·rename_i t x y bP;split at ho
  ·rename_i e ht;split at ho
   ·rename_i inf Ea;injection ho with ho;refine gW.step λι c ρ w aO hm oB=>?_;rw[bP]at aO;obtain⟨v,v2,hu,hc,di⟩:=jx aO;have dP:ρ x=v:=by simp[Op.operands]at hu;exact hu.1
    have fv:ρ y=v2:=by simp[Op.operands]at hu;exact hu.2
    have di:=di.eU rfl;have Xf:c m=some (.fact F):=oB (m,some (.fact F)) s_;have k0:c k=none:=oB (k,none) s_;have k1:c (k+1)=none:=oB (k+1,none) s_;have Gh:=Bz hm Xf hc;have loc:ι m=some (.val v):=by
     obtain⟨lc,q1,u,q2,q3⟩:=hm.born m _ Xf;subst q2;generalize hp:Value.pointer (some ⟨m,0,some 9⟩)=p at hc;cases hc with
     |same h=>subst hp;cases h
     |ptr h=>injection hp with hp;injection hp with hp;injection hp with _ _ hp;cases hp
     |slc h=>cases hp
     |slcN h=>cases hp
     |opq h4 h5 h6=>injection hp with hp;injection hp with hp;injection hp with gY;subst gY;exact h4
     |fn=>cases hp
     |agg=>cases hp
     |tup=>cases hp
    obtain⟨cs,hr,iY⟩:=hF.G _ _ Gh.1;obtain⟨u,a1,a2,a3⟩:=aFQ iY hi;have ak:=(ew.1 hi).1;rcases hr with ⟨_,q2,_⟩|⟨b,o',c',q1,q2,q3,q4⟩
    ·omega
    have own:∀ bb,F.cO v w bb->∀ j y o' aT,c j=some y->y.owns=true->ι j≠some (.at bb o' aT):=λbb hb j y o1 lV hj hy he=>hm.apart j m y F bb o1 lV v hj hy he Xf loc hb;have hFb:F.cO v w b:=hF.cO _ _ _ (.inl (by rw[q1];rfl));have hFu:∀ bb,(nQ f.2).cO u w bb->F.cO v w bb:=λbb hb=>hF.cO _ _ _ (.inr ⟨b,o',c',i*2+1,u,q1,by omega,q4 _ _ a2,by
     obtain⟨h0,hb⟩:=hb;rcases a3.form with ⟨e',e2⟩|⟨a,c2,e'⟩
     ·omega
     ·subst e';injection hb with hb;exact⟨a,_,c2,rfl,h0,hb⟩⟩)
    have m1:aQ B (dF ι (k+1) (.val u)) (ba c (k+1) (.fact (nQ f.2))) w:=hm.add k1 ⟨u,rfl,a3⟩ n_ (λF' v' b' e1 e2 hb j y o1 lV hj hy he=>by injection e1 with e1;subst e1;injection e2 with e2;subst e2;exact own b' (hFu b' hb) j y o1 lV hj hy he) n_ λF' e hr=>by injection e with e;subst e;cases hr
    have k0':ba c (k+1) (.fact (nQ f.2)) k=none:=by unfold ba;rw[ao o_];exact k0
    have l1:Map.le ι (dF ι (k+1) (.val u)):=gC (hm.dr _ k1);have cu:aG (dF ι (k+1) (.val u)) (.pointer (some ⟨k+1,0,some 9⟩)) u:=.opq (fD _ _ _) a3.one.1 a3.one.2;have l2:Map.le (dF ι (k+1) (.val u)) (dF (dF ι (k+1) (.val u)) k (.at b (o'+i*2) 0)):=gC (m1.dr _ k0');have back:∀ j y b' o1 lV,ba c (k+1) (.fact (nQ f.2)) j=some y->y.owns=true->dF ι (k+1) (.val u) j=some (.at b' o1 lV)->c j=some y/\ι j=some (.at b' o1 lV):=λj y b' o1 lV hj hy he=>by
     unfold ba at hj;unfold dF at he;by_cases bN:j=k+1
     ·rw[aw bN]at hj;injection hj with hj;subst hj;cases hy
     ·rw[ao bN]at hj he;exact⟨hj,he⟩
    have m2:aQ B (dF (dF ι (k+1) (.val u)) k (.at b (o'+i*2) 0)) (ba (ba c (k+1) (.fact (nQ f.2))) k (.view [iV f.1,.pointer (some ⟨k+1,0,some 9⟩)])) w:=
     m1.add k0' (.inr ⟨b,o'+i*2,0,[iV f.1,u],rfl,.cons (.same rfl) (.cons (cu.mono l2) .nil),λj x hj=>by
      cases j with
      |zero=>simp at hj;subst hj;have:=q4 _ _ a1;simpa using this
      |succ j=>cases j with
       |zero=>simp at hj;subst hj;have:=q4 _ _ a2;rw[uk];exact this
       |succ j=>simp at hj⟩) n_ n_ (λb1 o1 lV _ e=>by
      injection e with e1 e2 e3;subst e1;exact⟨q3,λj y o2 rk hj hy he=>by obtain⟨hj,he⟩:=back j y b o2 rk hj hy he;exact own b hFb j y o2 rk hj hy he⟩)
    refine⟨_,.pointer (some ⟨b,o'+i*2,none⟩),w,l1.trans l2,?_,m2,.inl ?_⟩
    ·have:=aG.ptr (off:=0) (fD (dF ι (k+1) (.val u)) k (.at b (o'+i*2) 0));rwa[jn]at this
    ·subst q1;simp only[execOp,bP,dP,fv,di];have h0:(0:Int)<=(i:Int):=by omega
     simp[Instr.indexAt,asIntOf,iG ht,sizeOf,typeInfo,Ea,h0,Az,vI,ho];intro dR;omega
   ·cases ho
  ·cases ho
 ·cases ho
end
section
open V3 (dot ax cL smul)
theorem cy.Xg{P:Program}{f:FuncId}{n1 n2:Nat}{x1 x2:aj}{F F':Fact}{l:List aR}{res:Value}(h:cy P f (.s n1 x1 n2 x2 F::l) res)(hF:∀ v w,F'.G v w->F.G v w):cy P f (.s n1 x1 n2 x2 F'::l) res:=by
 intro w vs ct;cases ct with
 |cons h1 h2=>
  obtain⟨u1,u2,u3,e,r1,r2,r3⟩:=h1;exact h w _ (.cons ⟨u1,u2,u3,e,r1,r2,hF _ _ r3.1,r3.2⟩ h2)
def jk(rs:List RP)(vs:List RV)(fs:List (Int×List Int)):aR:=.s rs.length (db rs) vs.length (cF vs) (nj fs)
theorem Xh(rs:List RP)(vs:List RV)(fs:List (Int×List Int)):(jk rs vs fs).ok=true:=by show((db rs).all flat&&((cF vs).all flat&&true))=true;rw[gT iC,gT ga];rfl
theorem Xi{rs:List RP}(h:rs.length=0):db rs=[]:=by rw[lv h];rfl
theorem aTj{a b:List Int}(h63:a.length<9223372036854775807):cy prog 25 [.o (nQ a),.o (nQ b)] (.bool (decide (a=b))):=by
 have ay:([aR.o (nQ a),.o (nQ b)].all aR.ok)=true:=rfl;by_cases hl:a.length=b.length
 ·rcases ob a.length with h0|h0
  ·have ha:=lv h0;have hb:=lv (hl▸h0);subst ha;subst hb;exact dW func25 ay 26 (λw=>[.step 7 (av Tryz.f25 7) [eE 0] [(0,some (.fact (nQ [])))] (vI 0) [] (IU k_),.step 9 (av Tryz.f25 9) [eE 1] [(1,some (.fact (nQ [])))] (vI 0) [] (IU k_),.step 13 (av Tryz.f25 13) [eE 0] [(0,some (.fact (nQ [])))] (vI 0) [] (IU k_)])
  ·intro w vs ct;cases ct with
   |cons h1 ct=>
   cases ct with
   |cons h2 ct=>
   cases ct;have r1:cK w _ a.length (eD a):=pE.row h1.1 h0;have r2:cK w _ b.length (eD b):=pE.row h2.1 o_;exact aP8 h63 w _ (.cons r1 (.cons r2 .nil))
 ·have b9:a≠b:=λh=>hl (by rw[h]);rw[aN b9];exact dW func25 ay 26 (λw=>[.step 7 (av Tryz.f25 7) [eE 0] [(0,some (.fact (nQ a)))] (vI a.length) [] (IU k_),.step 9 (av Tryz.f25 9) [eE 1] [(1,some (.fact (nQ b)))] (vI b.length) [] (IU k_),.rw 10 _ (.bool true) (tS (x:=a.length) (y:=b.length) (by simp[hl]))])
section
variable{Bs:aa}{ra rb:List RP}{va vb:List RV}{fa fb:List (Int×List Int)}
def LL(ra:List RP)(va:List RV)(fa:List (Int×List Int))(k:Nat):Obj:=.aI [sl k ra.length,sl (k+1) va.length,eE (k+2)] 26
def aVr(i:Nat):aW:=[(5,vI i),(2,ptr 6),(3,ptr 7)]
def wB(ra rb:List RP)(va vb:List RV)(fa fb:List (Int×List Int)):aH:=[(0,.view (db ra)),(3,.view (db rb)),(6,LL ra va fa 0),(7,LL rb vb fb 3)]
noncomputable def smS{i:Nat}{x y:RP}{t:Bool}(hi:i<ra.length)(hJ:i<rb.length)(hx:ra[i]?=some x)(hy:rb[i]?=some y)(sx:x.Sm)(sy:y.Sm)(ht:(!t)=true↔x=y)(more:bA prog Bs 85):bA prog Bs 85:=
 .lt 35 i ra.length true (aC hi)::.cY Tryz.f24 41 0 ra.length i 40 hi k_::.ld Tryz.f24 42 35 0 (i*40) (.view (db ra)) x.v rfl (vT hx) k_::.cY Tryz.f24 46 3 rb.length i 40 hJ k_::.ld Tryz.f24 47 35 3 (i*40) (.view (db rb)) y.v rfl (vT hy) k_::
  .step 48 (av Tryz.f24 48) [x.v,y.v] [] (.bool t) [] (TI (neg:=false) k_ x y sx sy ht)::more
theorem aVw{i:Nat}{x:RP}(hi:i<ra.length)(hJ:i<rb.length)(hx:ra[i]?=some x)(hy:rb[i]?=some x)(sx:x.Sm)(h63:ra.length<9223372036854775807):
  ag prog Bs 85 (aF (af Tryz.f24 0)) (aVr i) (wB ra rb va vb fa fb) 8 ⟨.normal,aVr (i+1),wB ra rb va vb fa fb,8⟩:=
 aA (smS (t:=false) hi hJ hx hy sx sx s_ [.sum 37 i 1 (i+1) rfl o_])
theorem aTk{i:Nat}{x y:RP}(hi:i<ra.length)(hJ:i<rb.length)(hx:ra[i]?=some x)(hy:rb[i]?=some y)(sx:x.Sm)(sy:y.Sm)(aU:x≠y):
  ag prog Bs 85 (aF (af Tryz.f24 0)) (aVr i) (wB ra rb va vb fa fb) 8 ⟨.ret,[(4,.bool false)],wB ra rb va vb fa fb,8⟩:=
 aA (smS (t:=true) hi hJ hx hy sx sy (by simp[aU]) [])
theorem aTl:ag prog Bs 85 (aF (af Tryz.f24 0)) (aVr ra.length) (wB ra rb va vb fa fb) 8 ⟨.exit 0,[(2,ptr 6),(3,ptr 7)],wB ra rb va vb fa fb,8⟩:=
 aA [.lt 35 ra.length ra.length false s_]
def yj(i:Nat):aW:=[(6,vI i),(2,ptr 6),(3,ptr 7)]
def oW(ra rb:List RP)(va vb:List RV)(fa fb:List (Int×List Int)):aH:=[(2,.fact (nj fa)),(5,.fact (nj fb)),(6,LL ra va fa 0),(7,LL rb vb fb 3)]
theorem aTm:∀ x∈oW ra rb va vb fa fb,fN 8 x.2:=λx hx=>by
 simp only[oW,cx,jg,jh]at hx;rcases hx with rfl|rfl|rfl|rfl
 ·exact λv hv=>(by cases hv)
 ·exact λv hv=>(by cases hv)
 ·intro v hv;have hv:v∈[sl 0 ra.length,sl 1 va.length,eE 2]:=hv;simp at hv;rcases hv with rfl|rfl|rfl<;>rfl
 ·intro v hv;have hv:v∈[sl 3 rb.length,sl 4 vb.length,eE 5]:=hv;simp at hv;rcases hv with rfl|rfl|rfl<;>rfl
def vw(f:Int×List Int)(k:Nat):Obj:=.view [iV f.1,eE (k+1)]
noncomputable def QN(key m k i:Nat){fs:List (Int×List Int)}{f:Int×List Int}(hi:fs[i]?=some f)(H0:m<k)(ho:AR prog (av Tryz.f24 key)=some 2):aY prog Bs 85:=
 .step key (av Tryz.f24 key) [eE m,vI i] [(k,none),(k+1,none),(m,some (.fact (nj fs)))] (ptr k) [(k,vw f k),(k+1,.fact (nQ f.2))] (aFS ho (.self fs) hi H0)
noncomputable def Xj{i:Nat}{f f':Int×List Int}{t:Bool}(hi:i<fa.length)(h1:fa[i]?=some f)(h2:fb[i]?=some f')(ht:decide (f.1≠f'.1)=t)(more:bA prog Bs 85):bA prog Bs 85:=
 .step 52 (av Tryz.f24 52) [eE 2] [(2,some (.fact (nj fa)))] (vI fa.length) [] (IQ k_ (.self fa))::.lt 53 i fa.length true (aC hi)::QN 59 2 8 i h1 d_ k_::QN 65 5 10 i h2 d_ k_::.rw 68 _ (.bool t) (neZ ht)::more
noncomputable def sfT{i:Nat}{f f':Int×List Int}{t:Bool}(h1:fa[i]?=some f)(h2:fb[i]?=some f')(h63:f.2.length<9223372036854775807)(ht:decide (f.2=f'.2)=t)(more:bA prog Bs 85):bA prog Bs 85:=
 QN 73 2 12 i h1 d_ k_::QN 79 5 14 i h2 d_ k_::
  .step 82 (av Tryz.f24 82) [.func (.func 25) #[] #[],eE 13,eE 15] [(13,some (.fact (nQ f.2))),(15,some (.fact (nQ f'.2)))] (.bool t) []
   (dz (ht▸aTj h63) (.o (.o .nil)) (x:=.func 25) k_ k_ rfl)::more
theorem aFT{i:Nat}{f f':Int×List Int}(hi:i<fa.length)(q1:fa[i]?=some f)(q2:fb[i]?=some f')(h63:f.2.length<9223372036854775807)(aRh:fa.length<9223372036854775807)(ht:f=f'):
  ag prog Bs 85 (aF (af Tryz.f24 2)) (yj i) (oW ra rb va vb fa fb) 8 ⟨.normal,yj (i+1),oW ra rb va vb fa fb,8⟩:=by
 have h1:decide (f.1≠f'.1)=false:=by rw[ht];simp
 have h2:decide (f.2=f'.2)=true:=by rw[ht];simp
 exact vu mixed 100 (hZ:=16) (Xj hi q1 q2 h1 (sfT q1 q2 h63 h2 [.sum 55 i 1 (i+1) rfl o_])) k_ rfl k_ aTm k_
theorem aTn:ag prog Bs 85 (aF (af Tryz.f24 2)) (yj fa.length) (oW ra rb va vb fa fb) 8 ⟨.exit 2,[],oW ra rb va vb fa fb,8⟩:=
 aA [.step 52 (av Tryz.f24 52) [eE 2] [(2,some (.fact (nj fa)))] (vI fa.length) [] (IQ k_ (.self fa)),.lt 53 fa.length fa.length false s_]
def Xk(ra rb:List RP)(va vb:List RV)(fa fb:List (Int×List Int)):Bool:=decide (ra=rb)&&(decide (va=vb)&&decide (fa=fb))
noncomputable def Gi{na:Bool}(h1:decide (ra.length≠rb.length)=na)(more:bA prog Bs 85):bA prog Bs 85:=.rw 13 _ (.bool na) (tS h1)::more
noncomputable def IV{nb:Bool}(h2:decide (fa.length≠fb.length)=nb)(more:bA prog Bs 85):bA prog Bs 85:=
 .step 17 (av Tryz.f24 17) [eE 2] [(2,some (.fact (nj fa)))] (vI fa.length) [] (IQ k_ (.self fa))::.step 20 (av Tryz.f24 20) [eE 5] [(5,some (.fact (nj fb)))] (vI fb.length) [] (IQ k_ (.self fb))::.rw 21 _ (.bool nb) (tS h2)::more
noncomputable def LM{t:Bool}(hV:cy prog 20 [.r va.length (cF va),.r vb.length (cF vb)] (.bool t))(more:bA prog Bs 85):bA prog Bs 85:=
 .step 28 (av Tryz.f24 28) [.func (.func 20) #[] #[],sl 1 va.length,sl 4 vb.length] [(1,some (.view (cF va))),(4,some (.view (cF vb)))] (.bool t) []
  (dz hV (.w (x:=.view (cF va)) rfl (gT ga _) wz (.w (x:=.view (cF vb)) rfl (gT ga _) wz .nil)) (x:=.func 20) k_ k_ rfl)::more
theorem aTo(ha:∀ x∈ra,x.Sm)(hb:∀ x∈rb,x.Sm)(fY:∀ x∈va,x.Sm)(kX:∀ x∈vb,x.Sm)(hn:ra.length<9223372036854775807)(ik:va.length<9223372036854775807)(wA:fa.length<9223372036854775807)(qW:∀ f∈fa,f.2.length<9223372036854775807):
  cy prog 24 [jk ra va fa,jk rb vb fb] (.bool (Xk ra rb va vb fa fb)):=by
 have ay:([jk ra va fa,jk rb vb fb].all aR.ok)=true:=by simp only[dH,fp,Xh,vU]
 have hV:=aP5 fY kX ik;unfold Xk;unfold jk at *;by_cases hl:ra.length=rb.length
 ·have n13:decide (ra.length≠rb.length)=false:=by simp[hl]
  by_cases hf:fa.length=fb.length
  ·have n21:decide (fa.length≠fb.length)=false:=by simp[hf]
   by_cases QO:va=vb
   ·rw[aC QO]at hV;rw[aC QO,kD];rcases Dp ra rb hl with hp|⟨e,x,y,q1,q2,q3,q4⟩
    ·rw[aC hp,kD];have lo:∀ B:aa,ag prog B 85 (.block 0 (af Tryz.f24 0)) (aVr 0) (wB ra rb va vb fa fb) 8 ⟨.normal,[(2,ptr 6),(3,ptr 7)],wB ra rb va vb fa fb,8⟩:=λB=>
      bT (id:=0) (cd ra.length (λi=>aVr i) (λ_=>wB ra rb va vb fa fb) (λi k _=>Iff.rfl) (λi hi=>by have hx:ra[i]?=some ra[i]:=bf hi;exact aVw hi o_ hx (by rw[<-hp];exact hx) (ha _ (dM hi)) hn) aTl n_)
     rcases Dp fa fb hf with OI|⟨e,x,y,q1,q2,q3,q4⟩
     ·rw[aC OI];have vQ:∀ B:aa,ag prog B 85 (.block 2 (af Tryz.f24 2)) (yj 0) (oW ra rb va vb fa fb) 8 ⟨.normal,[],oW ra rb va vb fa fb,8⟩:=λB=>
       bT (id:=2) (cd fa.length (λi=>yj i) (λ_=>oW ra rb va vb fa fb) (λi k _=>Iff.rfl) (λi hi=>by have hx:fa[i]?=some fa[i]:=bf hi;exact aFT hi hx (by rw[<-OI];exact hx) (qW _ (dM hi)) wA rfl) aTn n_)
      exact gz mixed func24 ay 200 (N:=85) k_ (λw=>Gi n13 (IV n21 (LM hV [.code 0 _ _ _ _ _ (lo _),.code 2 _ _ _ _ _ (vQ _)]))) (λ_=>k_) k_
     ·have b9:fa≠fb:=λh=>by subst h;rw[q1]at q2;injection q2 with q2;exact q3 q2
      rw[aN b9];have ak:=(ew.1 q1).1;have rounds:∀{B:aa},∀ i,i<e->ag prog B 85 (aF (af Tryz.f24 2)) (yj i) (oW ra rb va vb fa fb) 8 ⟨.normal,yj (i+1),oW ra rb va vb fa fb,8⟩:=λi hi=>by have hx:fa[i]?=some fa[i]:=bf o_;have hy:fb[i]?=some fb[i]:=bf o_;exact aFT o_ hx hy (qW _ (dM _)) wA (q4 i _ _ hi hx hy)
      by_cases he:x.1=y.1
      ·have h1:decide (x.1≠y.1)=false:=by rw[he];simp
       have h2:decide (x.2=y.2)=false:=aN λe=>q3 (Prod.ext he e);have vQ:∀ B:aa,ag prog B 85 (.block 2 (af Tryz.f24 2)) (yj 0) (oW ra rb va vb fa fb) 8 ⟨.ret,[(4,.bool false)],oW ra rb va vb fa fb,16⟩:=λB=>
        bT (id:=2) (cd (r:=⟨.ret,[(4,.bool false)],oW ra rb va vb fa fb,16⟩) e (λi=>yj i) (λ_=>oW ra rb va vb fa fb) (λi k _=>Iff.rfl) rounds (aA (Xj ak q1 q2 h1 (sfT q1 q2 (qW _ (cQ q1)) h2 []))) n_)
       exact gz mixed func24 ay 200 (N:=85) k_ (λw=>Gi n13 (IV n21 (LM hV [.code 0 _ _ _ _ _ (lo _),.code 2 _ _ _ _ _ (vQ _)]))) (λ_=>k_) k_
      ·have h1:decide (x.1≠y.1)=true:=aC he;have vQ:∀ B:aa,ag prog B 85 (.block 2 (af Tryz.f24 2)) (yj 0) (oW ra rb va vb fa fb) 8 ⟨.ret,[(4,.bool false)],oW ra rb va vb fa fb,12⟩:=λB=>
        bT (id:=2) (cd (r:=⟨.ret,[(4,.bool false)],oW ra rb va vb fa fb,12⟩) e (λi=>yj i) (λ_=>oW ra rb va vb fa fb) (λi k _=>Iff.rfl) rounds (aA (Xj ak q1 q2 h1 [])) n_)
       exact gz mixed func24 ay 200 (N:=85) k_ (λw=>Gi n13 (IV n21 (LM hV [.code 0 _ _ _ _ _ (lo _),.code 2 _ _ _ _ _ (vQ _)]))) (λ_=>k_) k_
    ·have b9:ra≠rb:=λh=>by subst h;rw[q1]at q2;injection q2 with q2;exact q3 q2
     rw[aN b9,yO];have ak:=(ew.1 q1).1;have lo:∀ B:aa,ag prog B 85 (.block 0 (af Tryz.f24 0)) (aVr 0) (wB ra rb va vb fa fb) 8 ⟨.ret,[(4,.bool false)],wB ra rb va vb fa fb,8⟩:=λB=>
      bT (id:=0) (cd e (λi=>aVr i) (λ_=>wB ra rb va vb fa fb) (λi k _=>Iff.rfl) (λi hi=>by have hx:ra[i]?=some ra[i]:=bf o_;have hy:rb[i]?=some rb[i]:=bf o_;have:=q4 i _ _ hi hx hy;exact aVw o_ o_ hx (by rw[this];exact hy) (ha _ (dM _)) hn) (aTk ak o_ q1 q2 (ha _ (cQ q1)) (hb _ (cQ q2)) q3) n_)
     exact gz mixed func24 ay 200 (N:=85) k_ (λw=>Gi n13 (IV n21 (LM hV [.code 0 _ _ _ _ _ (lo _)]))) (λ_=>k_) k_
   ·rw[aN QO]at hV;rw[aN QO,yO,M3];exact gz mixed func24 ay 200 (N:=85) k_ (λw=>Gi n13 (IV n21 (LM hV []))) (λ_=>k_) k_
  ·have n21:decide (fa.length≠fb.length)=true:=by simp[hf]
   have b9:fa≠fb:=λh=>hf (by rw[h]);rw[aN b9,M3,M3];exact gz mixed func24 ay 200 (N:=85) k_ (λw=>Gi n13 (IV n21 [])) (λ_=>k_) k_
 ·have n13:decide (ra.length≠rb.length)=true:=by simp[hl]
  have b9:ra≠rb:=λh=>hl (by rw[h]);rw[aN b9,yO];exact gz mixed func24 ay 200 (N:=85) k_ (λw=>Gi n13 []) (λ_=>k_) k_
end
theorem aTp(fs:List (Int×List Int))(S:Nat):∀ v w,((dq fs).jT S).G v w->(nj fs).G v w:=λv w h=>(B6.full fs).G v w h.1
section
variable{ps:List (HS K)}{m M:Nat}{rs:List RP}{vs:List RV}{fs:List (Int×List Int)}
def D6(ps:List (HS K))(vs:List RV)(fs:List (Int×List Int)):Bool:=
 !decide (fs.length<4)&&(!decide (vs.length<4)&&(wm ps&&(!vf (eT ps)&&(decide (vs=(eT ps).map cD)&&decide (fs=yi ps)))))
theorem LN(rs:List RP)(vs:List RV)(fs:List (Int×List Int)):([jk rs vs fs].all aR.ok)=true:=by simp only[dH,fp,Xh,vU]
noncomputable def IW{Bs:aa}(k:Nat)(fs:List (Int×List Int)):aY prog Bs 28:=.step 7 (av f11 7) [eE k] [(k,some (.fact (nj fs)))] (vI fs.length) [] (IQ k_ (.self fs))
theorem aFU(hf:fs.length<4):cy prog 11 [jk rs vs fs] (.bool false):=by have ay:=LN rs vs fs;unfold jk at *;exact gz mixed func11 ay 100 (N:=28) k_ (λw=>[IW 2 fs,.lt 8 fs.length 4 true (aC hf)]) (λw=>k_) k_
theorem aFV(hf:¬fs.length<4)(hv:vs.length<4):cy prog 11 [jk rs vs fs] (.bool false):=by have ay:=LN rs vs fs;unfold jk at *;exact gz mixed func11 ay 100 (N:=28) k_ (λw=>[IW 2 fs,.lt 8 fs.length 4 false (aN hf),.lt 13 vs.length 4 true (aC hv)]) (λw=>k_) k_
theorem aTq(hs:∀ x∈rs,Ae m x)(hm:m<=aB)(h63:rs.length<9223372036854775807)(hb:rs.all pz=false):cy prog 11 [jk rs vs fs] (.bool false):=by
 by_cases hf:fs.length<4
 ·exact aFU hf
 by_cases hv:vs.length<4
 ·exact aFV hf hv
 have ay:=LN rs vs fs;have mz:=aS9 hs hm h63 hb;unfold jk at *;exact gz mixed func11 ay 100 (N:=28) k_ (λw=>[IW 2 fs,.lt 8 fs.length 4 false (aN hf),.lt 13 vs.length 4 false (aN hv),.step 18 (av f11 18) [.func (.func 37) #[] #[],sl 0 rs.length] [(0,some (.view (db rs)))] (.tuple #[qZ,iN 1]) []
   (dz mz (.w (x:=.view (db rs)) rfl (gT iC rs) Xi .nil) (x:=.func 37) k_ k_ k_)]) (λw=>k_) k_
theorem aFW(h:pD ps m M)(dQ:wm ps=true->vf (eT ps)=false->∀ p∈ps,¬(cz p (eT ps) (eT ps).length).length<3->IL p (eT ps))(aO:∀ x∈vs,x.Sm)(ik:vs.length<9223372036854775807)(wA:fs.length<9223372036854775807)(qW:∀ f∈fs,f.2.length<9223372036854775807):
  cy prog 11 [jk (ps.map cH) vs fs] (.bool (D6 ps vs fs)):=by
 unfold D6;by_cases hf:fs.length<4
 ·rw[aC hf];exact aFU hf
 by_cases hv:vs.length<4
 ·rw[aC hv,aN hf];exact aFV hf hv
 rw[aN hf,aN hv];have ay:=LN (ps.map cH) vs fs;by_cases hc:wm ps=true
 ·rw[hc];by_cases hi:vf (eT ps)=true
  ·rw[hi];have mz:=aTb h hc hi;unfold jk at *;rw[eY,show db (ps.map cH)=aK ps from rfl]at *;exact gz mixed func11 ay 100 (N:=28) k_ (λw=>[IW 2 fs,.lt 8 fs.length 4 false (aN hf),.lt 13 vs.length 4 false (aN hv),.step 18 (av f11 18) [.func (.func 37) #[] #[],sl 0 ps.length] [(0,some (.view (aK ps)))] (.tuple #[qZ,iN 12]) []
     (dz mz (.w (x:=.view (aK ps)) rfl (cU ps) iD .nil) (x:=.func 37) k_ k_ k_)]) (λw=>k_) k_
  ·have hi:vf (eT ps)=false:=by simpa using hi
   rw[hi];have mz:=aFO h hc hi (dQ hc hi);have smv:∀ x∈(eT ps).map cD,x.Sm:=λx hx=>by obtain⟨v,hv,rfl⟩:=dj.1 hx;exact(h.sz.1 v hv).sm h.rp.2.2.2.2.2.2
   have smp:∀ x∈ps.map cH,x.Sm:=λx hx=>by obtain⟨p,hp,rfl⟩:=dj.1 hx;exact(h.pl p hp).1.sm (by have:=h.rp.2.2.2.2.2.1;exact this)
   have Ax:=aTo (ra:=ps.map cH) (rb:=ps.map cH) (va:=vs) (vb:=(eT ps).map cD) (fa:=fs) (fb:=yi ps) smp smp aO smv (by rw[eY];have:=h.len;omega) ik wA qW;unfold Xk at Ax;rw[aC rfl]at Ax;unfold aL at mz;unfold jk at *;rw[eY,show db (ps.map cH)=aK ps from rfl]at ay Ax ⊢;have hlen:(eT ps).length=((eT ps).map cD).length:=by rw[eY]
   rw[hlen]at mz;generalize (eT ps).map cD=cM at *;rw[kD]at Ax;have e0:(!false&&(!false&&(true&&(!false&&(decide (vs=cM)&&decide (fs=yi ps))))))=(decide (vs=cM)&&decide (fs=yi ps)):=by simp
   rw[e0];generalize (decide (vs=cM)&&decide (fs=yi ps))=t at *;refine gz mixed func11 ay 100 (N:=28) k_ (λw=>[IW 2 fs,.lt 8 fs.length 4 false (aN hf),.lt 13 vs.length 4 false (aN hv),.step 18 (av f11 18) [.func (.func 37) #[] #[],sl 0 ps.length] [(4,none),(5,none),(6,none),(0,some (.view (aK ps)))] (.tuple #[.agg #[sl 4 ps.length,sl 5 cM.length,eE 6],iN 0]) [(6,.fact ((dq (yi ps)).jT w.heap.size)),(5,.row (cF cM) 33 30),(4,.row (aK ps) 35 40)]
     (Du (B:=aa.at w) (S:=w.heap.size) mz (.w (x:=.view (aK ps)) rfl (cU ps) iD .nil) (x:=.func 37) k_ k_ rfl (cU ps) (gT ga _) rfl (λw' hb=>Below.size hb) 4),
    .step 26 (av f11 26) [.func (.func 24) #[] #[],.agg #[sl 0 ps.length,sl 1 vs.length,eE 2],.agg #[sl 4 ps.length,sl 5 cM.length,eE 6]] [(0,some (.view (aK ps))),(1,some (.view (cF vs))),(2,some (.fact (nj fs))),(4,some (.row (aK ps) 35 40)),(5,some (.row (cF cM) 33 30)),(6,some (.fact ((dq (yi ps)).jT w.heap.size)))] (.bool t) []
     (dz Ax (.s (x1:=.view (aK ps)) (x2:=.view (cF vs)) rfl (cU ps) iD rfl (gT ga _) wz (.si (aTp _ _) (x1:=.row (aK ps) 35 40) (x2:=.row (cF cM) 33 30) rfl (cU ps) iD rfl (gT ga _) wz .nil)) (x:=.func 24) k_ k_ rfl)]) (λw=>?_) k_
   kernel_rfl
 ·have hc:wm ps=false:=by simpa using hc
  rw[hc];have mz:=aTa h hc;unfold jk at *;rw[eY,show db (ps.map cH)=aK ps from rfl]at *;exact gz mixed func11 ay 100 (N:=28) k_ (λw=>[IW 2 fs,.lt 8 fs.length 4 false (aN hf),.lt 13 vs.length 4 false (aN hv),.step 18 (av f11 18) [.func (.func 37) #[] #[],sl 0 ps.length] [(0,some (.view (aK ps)))] (.tuple #[qZ,iN 13]) []
    (dz mz (.w (x:=.view (aK ps)) rfl (cU ps) iD .nil) (x:=.func 37) k_ k_ k_)]) (λw=>k_) k_
end
def LO(ps:List (HS K))(n2:Nat)(x2:aj)(F:Fact):aR:=.s ps.length (aK ps) n2 x2 F
theorem aTr{ps:List (HS K)}{n2:Nat}{x2:aj}{F:Fact}(h2:x2.all flat=true)(hF:F.rc=false):(LO ps n2 x2 F).ok=true:=by show((aK ps).all flat&&(x2.all flat&&!F.rc))=true;rw[cU,h2,hF];rfl
section
variable{Bs:aa}{ps:List (HS K)}{v:V3 K}{m n:Nat}
def Gj(v:V3 K)(z:Int)(p:HS K):Int:=if z<OF.az (dot p.n v-p.d)then OF.az (dot p.n v-p.d)else z
def sR(ps:List (HS K))(v:V3 K):Int:=ps.foldl (Gj v) (-1)
def LP(i:Nat)(z:Int):aW:=[(6,vI i),(5,.int .i64 z),(2,ptr 3),(3,ptr 4)]
def IX(ps:List (HS K))(v:V3 K)(n2:Nat):aH:=[(0,.view (aK ps)),(3,.aI [sl 0 ps.length,sl 1 n2,eE 2] 26),(4,.aI (cD v).cs 33)]
theorem aTs{i n2:Nat}{z:Int}{p:HS K}(hi:i<ps.length)(hp:ps[i]?=some p)(sp:bt m p)(pn:p.n≠0)(sv:aD n v)(hm:4*(3*(m+n)+14+m)+50<=aB)(h63:ps.length<9223372036854775807):
  ag prog Bs 24 (aF (af f17 0)) (LP i z) (IX ps v n2) 5 ⟨.normal,LP (i+1) (Gj v z p),IX ps v n2,5⟩:=by
 have hs:=aVm sp sv hm pn;unfold Gj;generalize OF.az (dot p.n v-p.d)=s at *;exact aA [.lt 11 i ps.length true (aC hi),.cY f17 18 0 ps.length i 40 hi k_,.ld f17 19 35 0 (i*40) (.view (aK ps)) (cC p) rfl (xE hp) k_,hs.at 21,.aFP f17 22 z s _ rfl k_,.sum 13 i 1 (i+1) rfl o_]
theorem aTt{n2:Nat}(bW:∀ p∈ps,bt m p/\p.n≠0)(sv:aD n v)(hm:4*(3*(m+n)+14+m)+50<=aB)(h63:ps.length<9223372036854775807):
  ag prog Bs 24 (.block 0 (af f17 0)) (LP 0 (-1)) (IX ps v n2) 5 ⟨.normal,[(5,.int .i64 (sR ps v))],IX ps v n2,5⟩:=
 bT (id:=0) (cd (r:=⟨.exit 0,[(5,.int .i64 (sR ps v))],IX ps v n2,5⟩) ps.length (λi=>LP i (sR (ps.take i) v)) (λ_=>IX ps v n2) (λi k _=>Iff.rfl) (λi hi=>by
  have hp:=bf hi;have e:sR (ps.take (i+1)) v=Gj v (sR (ps.take i) v) ps[i]:=by unfold sR;rw[tK,hp,UX];rfl
  show ag _ _ _ _ _ _ _ ⟨_,LP (i+1) (sR (ps.take (i+1)) v),_,_⟩;rw[e];exact aTs hi hp (bW _ (dM hi)).1 (bW _ (dM hi)).2 sv hm h63) (by
  rw[mQ];generalize sR ps v=z;exact aA [.lt 11 ps.length ps.length false s_]) n_)
theorem aFX{n2:Nat}{x2:aj}{F:Fact}(h2:x2.all flat=true)(hF:F.rc=false)(bW:∀ p∈ps,bt m p/\p.n≠0)(sv:aD n v)(hm:4*(3*(m+n)+14+m)+50<=aB)(h63:ps.length<9223372036854775807):
  cy prog 17 [LO ps n2 x2 F,.p (bB v)] (.int .i64 (sR ps v)):=by
 have ay:([LO ps n2 x2 F,.p (bB v)].all aR.ok)=true:=by simp only[dH,fp,aTr h2 hF,kD,iU];rfl
 have lo:=λBs=>aTt (Bs:=Bs) (n2:=n2) bW sv hm h63;unfold LO at *;generalize sR ps v=z at *;exact gz mixed func17 ay 100 (N:=24) k_ (λw=>[.code 0 _ _ _ _ _ (lo _)]) (λw=>k_) k_
end
section
variable{Bs:aa}{rs:List RP}{vs:List RV}{fs:List (Int×List Int)}
def Gk(i:Nat):aW:=[(3,vI i),(1,ptr 3)]
def ue(rs:List RP)(vs:List RV)(fs:List (Int×List Int)):aH:=[(2,.fact (nj fs)),(3,LL rs vs fs 0)]
theorem aTu:∀ x∈ue rs vs fs,fN 4 x.2:=λx hx=>by
 simp only[ue,cx,jg,jh]at hx;rcases hx with rfl|rfl
 ·exact λv hv=>(by cases hv)
 ·intro v hv;have hv:v∈[sl 0 rs.length,sl 1 vs.length,eE 2]:=hv;simp at hv;rcases hv with rfl|rfl|rfl<;>rfl
noncomputable def Xl(fs:List (Int×List Int))(key:Nat)(ho:FK prog (av Tryz.f8 key)=true):aY prog Bs 33:=.step key (av Tryz.f8 key) [eE 2] [(2,some (.fact (nj fs)))] (vI fs.length) [] (IQ ho (.self fs))
noncomputable def fwS{i:Nat}{f:Int×List Int}{t:Bool}(hi:i<fs.length)(h1:fs[i]?=some f)(ht:decide (f.2.length>12)=t)(more:bA prog Bs 33):bA prog Bs 33:=
 Xl fs 7 k_::.lt 8 i fs.length true (aC hi)::.step 14 (av Tryz.f8 14) [eE 2,vI i] [(4,none),(4+1,none),(2,some (.fact (nj fs)))] (ptr 4) [(4,vw f 4),(4+1,.fact (nQ f.2))] (aFS k_ (.self fs) h1 d_)::
  .step 17 (av Tryz.f8 17) [eE 5] [(5,some (.fact (nQ f.2)))] (vI f.2.length) [] (IU k_)::.gt 18 f.2.length 12 t ht::more
theorem aFY{i:Nat}{f:Int×List Int}(hi:i<fs.length)(h1:fs[i]?=some f)(h63:fs.length<9223372036854775807)(ht:f.2.length<=12):
  ag prog Bs 33 (aF (af Tryz.f8 0)) (Gk i) (ue rs vs fs) 4 ⟨.normal,Gk (i+1),ue rs vs fs,4⟩:=
 vu mixed 100 (hZ:=6) (fwS (f:=f) hi h1 (aN o_) [.sum 10 i 1 (i+1) rfl o_]) k_ rfl k_ aTu k_
theorem aTv{i:Nat}{f:Int×List Int}(hi:i<fs.length)(h1:fs[i]?=some f)(ht:¬f.2.length<=12):
  ag prog Bs 33 (aF (af Tryz.f8 0)) (Gk i) (ue rs vs fs) 4 ⟨.ret,[(2,.bool false)],ue rs vs fs,6⟩:=
 aA (fwS (f:=f) hi h1 (aC o_) [])
def LQ(rs:List RP)(vs:List RV)(fs:List (Int×List Int)):Bool:=
 fs.all (λf=>decide (f.2.length<=12))&&(LA rs 9&&((vs.all (λx=>qi x 12)&&decide (vs.length<=20))&&decide (fs.length<=12)))
noncomputable def Xm{t1:Bool}(hP:cy prog 30 [.r rs.length (db rs),.p (vI 9)] (.bool t1))(more:bA prog Bs 33):bA prog Bs 33:=
 .step 21 (av Tryz.f8 21) [.func (.func 30) #[] #[],sl 0 rs.length,vI 9] [(0,some (.view (db rs)))] (.bool t1) [] (dz hP (.w (x:=.view (db rs)) rfl (gT iC rs) Xi (.p rfl .nil)) (x:=.func 30) k_ k_ rfl)::more
noncomputable def fwV{t2:Bool}(hV:cy prog 31 [.r vs.length (cF vs),.p (vI 20),.p (vI 12)] (.bool t2))(more:bA prog Bs 33):bA prog Bs 33:=
 .step 25 (av Tryz.f8 25) [.func (.func 31) #[] #[],sl 1 vs.length,vI 20,vI 12] [(1,some (.view (cF vs)))] (.bool t2) [] (dz hV (.w (x:=.view (cF vs)) rfl (gT ga vs) wz (.p rfl (.p rfl .nil))) (x:=.func 31) k_ k_ rfl)::more
theorem aTw(QP:rs.length<9223372036854775807)(ik:vs.length<9223372036854775807)(wA:fs.length<9223372036854775807):cy prog 8 [jk rs vs fs] (.bool (LQ rs vs fs)):=by
 have ay:=LN rs vs fs;unfold LQ;unfold jk at *;have hP:=aRr (ps:=rs) 9 QP;have hV:=aRm (vs:=vs) (k:=12) 20 ik;rcases B0 (λf:Int×List Int=>decide (f.2.length<=12)) fs with h|⟨e,x,h1,h2,h3,h4⟩
 ·rw[h,kD];have lo:∀ B:aa,ag prog B 33 (.block 0 (af Tryz.f8 0)) (Gk 0) (ue rs vs fs) 4 ⟨.normal,[(1,ptr 3)],ue rs vs fs,4⟩:=λB=>
   bT (id:=0) (cd (r:=⟨.exit 0,[(1,ptr 3)],ue rs vs fs,4⟩) fs.length (λi=>Gk i) (λ_=>ue rs vs fs) (λi k _=>Iff.rfl) (λi hi=>by have hx:fs[i]?=some fs[i]:=bf hi;exact aFY hi hx wA (kH (DY h hx))) (aA [Xl fs 7 k_,.lt 8 fs.length fs.length false s_]) n_)
  generalize LA rs 9=t1 at *;generalize (vs.all (λx=>qi x 12)&&decide (vs.length<=20))=t2 at *;cases t1 with
  |false=>exact dW func8 ay 33 (λw=>.code 0 _ _ _ _ _ (lo _)::Xm hP [])
  |true=>
  cases t2 with
  |false=>exact dW func8 ay 33 (λw=>.code 0 _ _ _ _ _ (lo _)::Xm hP (fwV hV []))
  |true=>
   rw[kD,kD];exact dW func8 ay 33 (λw=>.code 0 _ _ _ _ _ (lo _)::Xm hP (fwV hV [Xl fs 30 k_,.rw 31 _ (.bool (decide (fs.length<=12))) (Lz (a:=fs.length) (b:=12) rfl)]))
 ·rw[h4,yO];have ak:=(ew.1 h1).1;have lo:∀ B:aa,ag prog B 33 (.block 0 (af Tryz.f8 0)) (Gk 0) (ue rs vs fs) 4 ⟨.ret,[(2,.bool false)],ue rs vs fs,6⟩:=λB=>
   bT (id:=0) (cd (r:=⟨.ret,[(2,.bool false)],ue rs vs fs,6⟩) e (λi=>Gk i) (λ_=>ue rs vs fs) (λi k _=>Iff.rfl) (λi hi=>by have hx:fs[i]?=some fs[i]:=bf o_;exact aFY o_ hx wA (kH (h3 i _ hi hx))) (aTv ak h1 (Hh h2)) n_)
  exact dW func8 ay 33 (λw=>[.code 0 _ _ _ _ _ (lo _)])
end
theorem aTx{n1 n2:Nat}{x1 x2:aj}{F:Fact}(h1:x1.all flat=true)(h2:x2.all flat=true)(hF:F.rc=false):([aR.s n1 x1 n2 x2 F].all aR.ok)=true:=by show((x1.all flat&&(x2.all flat&&!F.rc))&&true)=true;rw[h1,h2,hF];rfl
section
variable{Bs:aa}{vs:List (V3 K)}{m:Nat}
def QQ(i:Nat):aW:=[(4,vI i),(1,ptr 3),(3,ptr 5)]
def yk(vs:List (V3 K))(n1:Nat)(s:V3 K):aH:=[(1,.view (aL vs)),(3,.aI [sl 0 n1,sl 1 vs.length,eE 2] 26),(5,.aI (cD s).cs 33)]
theorem aTy{i n1 n:Nat}{v s:V3 K}(hi:i<vs.length)(hv:vs[i]?=some v)(hs:aD n s)(hm:aD m v)(cS:m+n<aB)(h63:vs.length<900000):
  ag prog Bs 33 (aF (af f19 0)) (QQ i) (yk vs n1 s) 6 ⟨.normal,QQ (i+1),yk vs n1 (s+v),6⟩:=
 aA [.lt 12 i vs.length true (aC hi),.cY f19 19 1 vs.length i 30 hi k_,.ld f19 20 33 1 (i*30) (.view (aL vs)) (bB v) rfl (lf hv) k_,(aVT hs hm o_).at 21,.sum 14 i 1 (i+1) rfl o_]
theorem aTz(n1:Nat)(s s':V3 K)(k:Nat):ah (yk vs n1 s) k=none↔ah (yk vs n1 s') k=none:=Fk (L':=yk vs n1 s) (L:=yk vs n1 s') rfl k
theorem aTA{n1:Nat}(aO:∀ v∈vs,aD m v)(hm:m+(1+vs.length*(m+1))<aB)(h63:vs.length<900000):
  ag prog Bs 33 (.block 0 (af f19 0)) (QQ 0) (yk vs n1 ⟨kI 0,kI 0,kI 0⟩) 6 ⟨.normal,[(1,ptr 3),(3,ptr 5)],yk vs n1 (sj vs),6⟩:=by
 have:=cd (P:=prog) (B:=Bs) (N:=33) (r:=⟨.exit 0,[(1,ptr 3),(3,ptr 5)],yk vs n1 (sj vs),6⟩) vs.length (λi=>QQ i) (λi=>yk vs n1 (sj (vs.take i))) (λi k _=>aTz _ _ _ k) (λi hi=>by
  have hv:vs[i]?=some vs[i]:=bf hi;have hs:=KS (m:=m) (vs.take i) λv hv=>aO v (FD hv);have hle:(vs.take i).length*(m+1)<=vs.length*(m+1):=e6 _ (by rw[jw];omega);rw[tK,hv];show ag _ _ _ _ _ _ _ ⟨_,_,yk vs n1 (sj (vs.take i++[vs[i]])),_⟩;rw[aCk];exact aTy hi hv hs (aO _ (dM hi)) o_ h63) (by
  rw[mQ];generalize sj vs=s;exact aA [.lt 12 vs.length vs.length false s_]) n_
 exact bT (id:=0) this
theorem aTB{n1:Nat}{x1:aj}{F:Fact}(h1:x1.all flat=true)(hF:F.rc=false)(aO:∀ v∈vs,aD m v)(hm:100*(vs.length*(m+1))+10000<=aB)(h63:vs.length<900000)(h0:0<vs.length):
  cy prog 19 [.s n1 x1 vs.length (aL vs) F] (bB (tL vs)):=by
 have ay:=aTx (n1:=n1) (n2:=vs.length) h1 (dJ vs) hF;have tt:m+1<=vs.length*(m+1):=Pe _ o_;have lo:=λBs=>aTA (Bs:=Bs) (n1:=n1) aO o_ h63;have aU:(vs.length:Int)≠0:=by omega
 have h40:(vs.length:Int).natAbs<2^40:=cv (by simpa using h63) d_;have rt:=aVk (p:=1) (q:=(vs.length:Int)) (n:=40) aU d_ h40 d_;rw[<-UW aU]at rt;have hr:=KR (p:=1) (q:=(vs.length:Int)) (n:=40) aU d_ h40;have hs:=KS vs aO;have sc:=aVx hs hr o_;have e:smul (sj vs) (pq 1 (vs.length:Int))=tL vs:=rfl;rw[e]at sc;generalize tL vs=mv at *;exact dW func19 ay 33 (λw=>[(aV6 (a:=0) (b:=0) (c:=0) d_ d_ d_).at 7,.code 0 _ _ _ _ _ (lo _),.aFP f19 26 1 (vs.length:Int) (vs.length:Int) (by split<;>omega) k_,rt.at 27,sc.at 32])
end
theorem aTC{cs:aj}{i:Nat}{v:Value}(h:cs[i]?=some v):du prog 56 cs i=some v:=by have e:du prog 56 cs i=cs[i]?:=k_;rw[e,h]
section
variable{w:World}{fs:List (Int×List Int)}{cs:aj}
def oX(fs:List (Int×List Int)):Nat:=(fs.map λf=>f.2.length).sum
def LR(i s:Nat):aW:=[(4,vI i),(3,vI s),(1,ptr 3)]
def IY(n1 n2:Nat)(fs:List (Int×List Int))(cs:aj):aH:=[(2,.view cs),(3,.aI [sl 0 n1,sl 1 n2,sl 2 fs.length] 26)]
theorem aTD{i s n1 n2:Nat}{f:Int×List Int}{u:Value}(hi:i<fs.length)(c2:cs[i*2+1]?=some u)(hu:cK w u f.2.length (eD f.2))(h63:fs.length<900000)(hs:s+f.2.length<9223372036854775807):
  ag prog (aa.at w) 23 (aF (af Tryz.f29 0)) (LR i s) (IY n1 n2 fs cs) 4 ⟨.normal,LR (i+1) (s+f.2.length),IY n1 n2 fs cs,4⟩:=by
 have k1:=hu;rcases k1 with ⟨rfl,_⟩|⟨b,o,c,rfl,_⟩<;>
  exact aA [.lt 9 i fs.length true (aC hi),.cY Tryz.f29 16 2 fs.length i 2 hi k_,.ld Tryz.f29 18 56 2 (i*2+1) (.view cs) _ rfl (aTC c2) k_,.step 19 (av Tryz.f29 19) [_] [] (vI f.2.length) [] (aMW k_ rfl (λw' hb=>hu.gB hb)),.sum 20 s f.2.length (s+f.2.length) rfl o_,.sum 11 i 1 (i+1) rfl o_]
theorem aTE{n1 n2:Nat}{x1 x2:aj}(h1:x1.all flat=true)(h2:x2.all flat=true)(h63:fs.length<900000)(hs:oX fs<9223372036854775807):cy prog 29 [.s n1 x1 n2 x2 (dq fs)] (vI (oX fs/2)):=by
 intro w vv ct;cases ct with
 |@cons _ v1 _ _ hv ct=>
 cases ct;obtain⟨u1,u2,u3,rfl,r1,r2,⟨cs,r3,f1⟩,_⟩:=hv;have BV:rZ w [.a n1 x1 n2 x2 fs.length cs] [.agg #[u1,u2,u3]]:=.cons ⟨u1,u2,u3,rfl,r1,r2,r3⟩ .nil;have ay:([aR.a n1 x1 n2 x2 fs.length cs].all aR.ok)=true:=by show((x1.all flat&&(x2.all flat&&cs.all flat))&&true)=true;rw[h1,h2,show cs.all flat=true from bh.2 f1.flat];rfl
 have le:∀ i,oX (fs.take i)<=oX fs:=λi=>by
  have:oX fs=oX (fs.take i)+oX (fs.drop i):=by unfold oX;rw[<-List.sum_append,<-sW,H5]
  omega
 have lo:ag prog (aa.at w) 23 (.block 0 (af Tryz.f29 0)) (LR 0 0) (IY n1 n2 fs cs) 4 ⟨.normal,[(3,vI (oX fs))],IY n1 n2 fs cs,4⟩:=
  bT (id:=0) (cd (r:=⟨.exit 0,[(3,vI (oX fs))],IY n1 n2 fs cs,4⟩) fs.length (λi=>LR i (oX (fs.take i))) (λ_=>IY n1 n2 fs cs) (λi k _=>Iff.rfl) (λi hi=>by
   have hx:fs[i]?=some fs[i]:=bf hi;obtain⟨u,_,a2,a3,_⟩:=DW f1 hx;have e:oX (fs.take (i+1))=oX (fs.take i)+fs[i].2.length:=by unfold oX;rw[tK,hx,sW,List.sum_append];simp
   have:=le (i+1);show ag _ _ _ _ _ _ _ ⟨_,LR (i+1) (oX (fs.take (i+1))),_,_⟩;rw[e];exact aTD hi a2 a3 h63 o_) (by
   rw[mQ];generalize oX fs=s;exact aA [.lt 9 fs.length fs.length false s_]) n_)
 generalize oX fs=s at *;have hq:IntKind.i64.wrap ((s:Int).tdiv 2)=((s/2:Nat):Int):=by rw[yS o_,c8];omega
 exact Qj mixed func29 BV ay 100 (N:=23) k_ [.code 0 _ _ _ _ _ lo,.pQ Tryz.f29 22 .i64 (s:Int) 2 ((s/2:Nat):Int) d_ hq k_] k_ rfl
end
theorem aFZ(l:List (HS K))(p:HS K):aK l++(cH p).cs=aK (l++[p]):=by unfold aK;rw[sW];show dc RP.cs _++_=dc RP.cs _;rw[HT];simp[dc]
theorem aTF(p:HS K):(cH p).cs=aK [p]:=by have:=aFZ [] p;rwa[show aK ([]:List (HS K))=[]from rfl,jo,jo]at this
section
noncomputable def IZ{Bs:aa}(k:Nat)(p:HS K):aY prog Bs 43:=
 .bs Tryz.f26 37 k 1 35 40 [0] (RP.v ⟨sG,F5⟩) [cC p] (cH p).cs.toArray (.row (cH p).cs 35 40) rfl (λv hv=>by simp at hv;subst hv;rfl) (λv hv=>iC.flat _ v hv) k_ rfl d_ d_ k_
noncomputable def LS{Bs:aa}(k n:Nat)(l l':List (HS K))(p:HS K)(hl:l.length=n)(hn:n<=6)(ch:l'=l++[p]):aY prog Bs 43:=
 .pa Tryz.f26 38 (k+2) (k-1) n 1 (n+1) 35 40 480 (aK l) (k+1) (.row (cH p).cs 35 40) (aK l') rfl rfl rfl (by rw[Af,hl]) (by subst ch;exact aFZ l p) (iC.one _) d_ (by simp[maxLen];omega) o_ k_
variable{n1 n2 n3 n4 n5 n6:V3 K}{q:K}
structure aTG(n1 n2 n3 n4 n5 n6:V3 K)(q:K):Prop where
 c1:aE prog 27 [.int .i64 1,.int .i64 0,.int .i64 0] (bB n1)
 c2:aE prog 27 [.int .i64 (-1),.int .i64 0,.int .i64 0] (bB n2)
 c3:aE prog 27 [.int .i64 0,.int .i64 1,.int .i64 0] (bB n3)
 c4:aE prog 27 [.int .i64 0,.int .i64 (-1),.int .i64 0] (bB n4)
 c5:aE prog 27 [.int .i64 0,.int .i64 0,.int .i64 1] (bB n5)
 c6:aE prog 27 [.int .i64 0,.int .i64 0,.int .i64 (-1)] (bB n6)
 d:aE prog 28 [.int .i64 1] (bZ q)
def B7(n1 n2 n3 n4 n5 n6:V3 K)(q:K):List (HS K):=[⟨n1,q⟩,⟨n2,q⟩,⟨n3,q⟩,⟨n4,q⟩,⟨n5,q⟩,⟨n6,q⟩]
theorem aTH{n:Nat}{xs:aj}{F:Fact}(h:aTG n1 n2 n3 n4 n5 n6 q)(hx:xs.all flat=true)(hl:xs.length=n*30)(wE:F.rc=false)(mz:tQ prog 37 [fC (B7 n1 n2 n3 n4 n5 n6 q)] 35 40 6 (aK (B7 n1 n2 n3 n4 n5 n6 q)) 33 30 n xs F [iN 0]):
  tQ prog 26 [.p (vI 1)] 35 40 6 (aK (B7 n1 n2 n3 n4 n5 n6 q)) 33 30 n xs F [iN 0]:=by
 refine Px (k1:=19) (k2:=20) (k3:=21) mixed func26 rfl 300 (N:=43) k_ (λw=>[
  h.c1.at 33,h.d.at 35,IZ 2 ⟨n1,q⟩,.ap0 Tryz.f26 38 3 1 35 40 480 2 (.row (cH ⟨n1,q⟩).cs 35 40) (aK [⟨n1,q⟩]) rfl rfl (aTF _) d_ d_ d_ k_,
  h.c2.at 33,h.d.at 35,IZ 5 ⟨n2,q⟩,LS 4 1 [⟨n1,q⟩] [⟨n1,q⟩,⟨n2,q⟩] ⟨n2,q⟩ rfl d_ rfl,
  h.c3.at 33,h.d.at 35,IZ 8 ⟨n3,q⟩,LS 7 2 [⟨n1,q⟩,⟨n2,q⟩] [⟨n1,q⟩,⟨n2,q⟩,⟨n3,q⟩] ⟨n3,q⟩ rfl d_ rfl,
  h.c4.at 33,h.d.at 35,IZ 11 ⟨n4,q⟩,LS 10 3 [⟨n1,q⟩,⟨n2,q⟩,⟨n3,q⟩] [⟨n1,q⟩,⟨n2,q⟩,⟨n3,q⟩,⟨n4,q⟩] ⟨n4,q⟩ rfl d_ rfl,
  h.c5.at 33,h.d.at 35,IZ 14 ⟨n5,q⟩,LS 13 4 [⟨n1,q⟩,⟨n2,q⟩,⟨n3,q⟩,⟨n4,q⟩] [⟨n1,q⟩,⟨n2,q⟩,⟨n3,q⟩,⟨n4,q⟩,⟨n5,q⟩] ⟨n5,q⟩ rfl d_ rfl,
  h.c6.at 33,h.d.at 35,IZ 17 ⟨n6,q⟩,LS 16 5 [⟨n1,q⟩,⟨n2,q⟩,⟨n3,q⟩,⟨n4,q⟩,⟨n5,q⟩] (B7 n1 n2 n3 n4 n5 n6 q) ⟨n6,q⟩ rfl d_ rfl,
  .step 40 (av Tryz.f26 40) [.func (.func 37) #[] #[],sl 18 6] [(19,none),(20,none),(21,none),(18,some (.row (aK (B7 n1 n2 n3 n4 n5 n6 q)) 35 40))] (.tuple #[.agg #[sl 19 6,sl 20 n,eE 21],iN 0]) [(21,.fact (F.jT w.heap.size)),(20,.row xs 33 30),(19,.row (aK (B7 n1 n2 n3 n4 n5 n6 q)) 35 40)]
   (Du (B:=aa.at w) (S:=w.heap.size) mz (.w (x:=.row (aK (B7 n1 n2 n3 n4 n5 n6 q)) 35 40) rfl (cU _) iD .nil) (x:=.func 37) k_ k_ wE (cU _) hx rfl (λw' hb=>Below.size hb) 19)]) (λw=>?_) d_ (cU _) (Af _) hx hl k_
 kernel_rfl
end
end
end Go.Proofs.YtjjefbkbljlgdaaGreatDoor
