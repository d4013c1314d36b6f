/- Vertices after a cut: the proof of CutVerticesCardSaid (the law's function answers true at every record and plane it can be given; theorem cutVertices_card, last part), part 5 of 7; no condition. -/
import Derived.Test.YtjjefbkbljlgdaaGreatDoorVX4
namespace Go.Proofs.YtjjefbkbljlgdaaGreatDoor
open Go Go.RowKit Tryz
section
open V3 (dot ao bC smul)
theorem WT(ps:List (HS K)):(fJ ps).ok=true:=cX ps
theorem aEF(vs:List (V3 K)):(u5 vs).ok=true:=dF vs
theorem aRj(vs:List (V3 K)):(aT.b vs.length (aL vs)).ok=true:=dF vs
theorem aRk(v:V3 K):(aT.q (cx v).cs).ok=true:=bh.2 (RV.nU _)
theorem aRl(v:V3 K):(aT.p (bF v)).ok=true:=rfl
theorem WU(p:HS K):(aT.p (cB p)).ok=true:=rfl
def aK(vs:List (V3 K))(i:Nat):V3 K:=(vs[i]?).getD 0
theorem kM{vs:List (V3 K)}{i:Nat}(h:i<vs.length):vs[i]?=some (aK vs i):=by unfold aK;rw[bd h];rfl
theorem aEG{x:K}:0<x↔OF.ay x>0:=by rw[OF.il];rcases OF.iW x with h|h|h<;>rw[h]<;>decide
def yg(n:V3 K)(pt:Nat->V3 K)(p:Nat):List Nat->Nat
 |b::a::st=>if 0<turn n (pt a) (pt b) (pt p)then 0 else yg n pt p (a::st)+1
 |_=>0
theorem Qz(n:V3 K)(pt:Nat->V3 K)(p:Nat):∀ st:List Nat,pop n pt p st=st.drop (yg n pt p st)
 |[]=>rfl
 |[a]=>rfl
 |b::a::st=>by
  unfold pop yg;split
  ·rfl
  ·exact Qz n pt p (a::st)
theorem aEH(n:V3 K)(pt:Nat->V3 K)(p:Nat):∀(st:List Nat) (d:Nat),d<yg n pt p st->∃ b a fm,st.drop d=b::a::fm/\¬0<turn n (pt a) (pt b) (pt p)
 |[],d,h=>by simp[yg]at h
 |[a],d,h=>by simp[yg]at h
 |b::a::st,d,h=>by
  unfold yg at h;split at h
  ·omega
  ·rename_i ht;cases d with
   |zero=>exact⟨b,a,st,rfl,ht⟩
   |succ d=>exact aEH n pt p (a::st) d o_
theorem aEI(n:V3 K)(pt:Nat->V3 K)(p:Nat):∀(st:List Nat),(∃ b a fm,st.drop (yg n pt p st)=b::a::fm/\0<turn n (pt a) (pt b) (pt p))\/(st.drop (yg n pt p st)).length<=1
 |[]=>.inr (lh _)
 |[a]=>.inr (bt _)
 |b::a::st=>by
  unfold yg;split
  ·rename_i ht;exact .inl ⟨b,a,st,rfl,ht⟩
  ·exact aEI n pt p (a::st)
section
variable{Bs:aa}{vs:List (V3 K)}{nn:V3 K}{l:List Nat}
def pd(l:List Nat)(vs:List (V3 K))(nn:V3 K):aH:=[(0,.view (ai l)),(1,.view (aL vs)),(2,.view [sl 1 vs.length]),(3,.view (cx nn).cs)]
def l5(st:List Nat):List Obj:=[.row (ai st.reverse) 3 1]
def Ed(p L:Nat):aR:=[(7,vI p),(5,sl 4 L),(1,bY 2),(2,bY 3)]
def QA(n i L:Nat):aR:=[(12,vI i),(10,sl 0 n),(11,vI n),(5,sl 4 L),(1,bY 2),(2,bY 3)]
theorem aEJ{m:Nat}(hm:4<=m):∀ x∈pd l vs nn,eA m x.2:=λx hx=>by
 simp only[pd,ch,iu,iv]at hx;rcases hx with rfl|rfl|rfl|rfl
 ·exact λv hv=>gQ (kJ l v hv)
 ·exact λv hv=>gQ (bh.1 (dF vs) v hv)
 ·intro v hv;have:v=sl 1 vs.length:=by simpa[Obj.cells]using hv
  subst this;show GX m ⟨1,0,some 7⟩=true;unfold GX;simp;omega
 ·exact λv hv=>gQ (RV.nU _ v hv)
theorem aRm{m:Nat}{st:List Nat}:∀ x∈l5 st,eA m x:=λx hx=>by simp only[l5,ch,iu,iv]at hx;subst hx;exact λv hv=>gQ (kJ _ v hv)
theorem aEK{m:Nat}(hm:5<=m){st:List Nat}:∀ x∈pd l vs nn++marks 4 (l5 st),eA m x.2:=λx hx=>by
 rcases dX.1 hx with h|h
 ·exact aEJ o_ x h
 ·simp only[l5,marks,ch,iu,iv]at h;subst h;exact λv hv=>gQ (kJ _ v hv)
noncomputable def hiS{p a b L m q:Nat}{r:List Nat}{t:Bool}(hL:r.length=L+2)(ha:r[L]?=some a)(hb:r[L+1]?=some b)(k7:a<vs.length)(lq:b<vs.length)(rH:p<vs.length)(aP:∀ v∈vs,aD q v)(hn:aD m nn)(hm:100*(m+q)+1000<=aA)(h63:L<1000000)
  (ht:decide (OF.ay (turn nn (aK vs a) (aK vs b) (aK vs p))>0)=t) (more:bI prog Bs 66):bI prog Bs 66:=
 have sa:=aP _ (cJ (kM k7));have sb:=aP _ (cJ (kM lq));have sp:=aP _ (cJ (kM rH))
 .gt 18 (L+2) 1 true s_::.e7 23 (L+2) 2 L rfl o_::.ix f165 24 4 (L+2) L o_ k_::.ld f165 25 3 4 L (.row (ai r) 3 1) (vI a) rfl (dQ ha) k_::
  .cT f165 26 1 vs.length a 30 k7 k_::.ld f165 27 33 1 (a*30) (.view (aL vs)) (bF (aK vs a)) rfl (jV (kM k7)) k_::.e7 32 (L+2) 1 (L+1) rfl o_::.ix f165 33 4 (L+2) (L+1) o_ k_::
  .ld f165 34 3 4 (L+1) (.row (ai r) 3 1) (vI b) rfl (dQ hb) k_::.cT f165 35 1 vs.length b 30 lq k_::.ld f165 36 33 1 (b*30) (.view (aL vs)) (bF (aK vs b)) rfl (jV (kM lq)) k_::
  (BT sb sa o_).at 40::.cT f165 43 1 vs.length p 30 rH k_::.ld f165 44 33 1 (p*30) (.view (aL vs)) (bF (aK vs p)) rfl (jV (kM rH)) k_::(BT sp sa o_).at 46::
  (wb (sb.sub sa) (sp.sub sa) o_).at 47::(uZ hn ((sb.sub sa).ao (sp.sub sa)) o_).at 48::(nV (hn.dot ((sb.sub sa).ao (sp.sub sa))) o_).at 49::
  .rw 50 (.bool (decide (OF.ay (dot nn (ao (aK vs b-aK vs a) (aK vs p-aK vs a)))>0))) (.bool t) (by rw[<-ht];rfl)::more
theorem aEL{st fm:List Nat}{a b:Nat}(h:st=b::a::fm):st.reverse.length=fm.length+2/\st.reverse[fm.length]?=some a/\st.reverse[fm.length+1]?=some b/\st.reverse.take (fm.length+1)=(a::fm).reverse:=by
 subst h;have e:(b::a::fm).reverse=fm.reverse++[a,b]:=by simp
 rw[e];refine⟨by simp,?_,?_,?_⟩
 ·rw[ED s_];simp
 ·rw[ED s_];simp
 ·rw[aCx];simp[kB]
theorem aEM(l:List Nat)(m:Nat):(ai l).take (m*1)=ai (l.take m):=by rw[fX];simp[ai,CD]
theorem aRn{st fm:List Nat}{p a b m q:Nat}(bM:st=b::a::fm)(aY:∀ x∈st,x<vs.length)(rH:p<vs.length)(aP:∀ v∈vs,aD q v)(hn:aD m nn)(hm:100*(m+q)+1000<=aA)(h63:st.length<1000000)
  (ht:¬0<turn nn (aK vs a) (aK vs b) (aK vs p)):ag prog Bs 66 (aF (af f165 2)) (Ed p st.length) (pd l vs nn++marks 4 (l5 st)) 5 ⟨.normal,Ed p (a::fm).length,pd l vs nn++marks 4 (l5 (a::fm)),5⟩:=by
 obtain⟨r1,r2,r3,r4⟩:=aEL bM;have k7:=aY a (by rw[bM];simp);have lq:=aY b (by rw[bM];simp);have hl:st.length=fm.length+2:=by rw[bM];rfl
 have hd:decide (OF.ay (turn nn (aK vs a) (aK vs b) (aK vs p))>0)=false:=aJ λh=>ht (aEG.2 h);have nA:(ai st.reverse).take ((fm.length+1)*1)=ai (a::fm).reverse:=by rw[aEM,r4]
 have dr:=aEK (l:=l) (vs:=vs) (nn:=nn) (m:=5) (bt _) (st:=a::fm);unfold l5 at *;rw[hl]at h63 ⊢;rw[show(a::fm).length=fm.length+1 from rfl];generalize st.reverse=r at *;generalize (a::fm).reverse=r' at *;exact mV mixed 100 (ft:=7) (hiS r1 r2 r3 k7 lq rH aP hn hm o_ hd [.e7 54 (fm.length+2) 1 (fm.length+1) rfl o_,.cut f165 55 4 (fm.length+2) (fm.length+1) ((fm.length+1)*1) 1 1 3 (ai r) (ai r') o_ nA k_]) k_ rfl k_ dr k_
theorem aRo{st:List Nat}{p m q:Nat}(aY:∀ x∈st,x<vs.length)(rH:p<vs.length)(aP:∀ v∈vs,aD q v)(hn:aD m nn)(hm:100*(m+q)+1000<=aA)(h63:st.length<1000000)
  (h:(∃ b a fm,st=b::a::fm/\0<turn nn (aK vs a) (aK vs b) (aK vs p))\/st.length<=1):ag prog Bs 66 (aF (af f165 2)) (Ed p st.length) (pd l vs nn++marks 4 (l5 st)) 5 ⟨.exit 2,Ed p st.length,pd l vs nn++marks 4 (l5 st),5⟩:=by
 have dr:=aEK (l:=l) (vs:=vs) (nn:=nn) (m:=5) (bt _) (st:=st);rcases h with ⟨b,a,fm,bM,ht⟩|h
 ·obtain⟨r1,r2,r3,r4⟩:=aEL bM;have k7:=aY a (by rw[bM];simp);have lq:=aY b (by rw[bM];simp);have hl:st.length=fm.length+2:=by rw[bM];rfl
  have hd:decide (OF.ay (turn nn (aK vs a) (aK vs b) (aK vs p))>0)=true:=aB (aEG.1 ht);unfold l5 at *;rw[hl]at h63 ⊢;generalize st.reverse=r at *;exact mV mixed 100 (ft:=7) (hiS r1 r2 r3 k7 lq rH aP hn hm o_ hd []) k_ rfl k_ dr k_
 ·exact aC [.gt 18 st.length 1 false (by simp;omega)]
theorem aEN{st:List Nat}{n d:Nat}(h:∀ x∈st,x<n):∀ x∈st.drop d,x<n:=λx hx=>h x (WV hx)
theorem aRp{st:List Nat}{p m q:Nat}(aY:∀ x∈st,x<vs.length)(rH:p<vs.length)(aP:∀ v∈vs,aD q v)(hn:aD m nn)(hm:100*(m+q)+1000<=aA)(h63:st.length<1000000):
  ag prog Bs 66 (.block 2 (af f165 2)) (Ed p st.length) (pd l vs nn++marks 4 (l5 st)) 5 ⟨.normal,Ed p (pop nn (aK vs) p st).length,pd l vs nn++marks 4 (l5 (pop nn (aK vs) p st)),5⟩:=by
 have hlen:∀ d,(st.drop d).length<1000000:=λd=>by rw[vt];omega
 have:=cd (P:=prog) (B:=Bs) (N:=66) (b:=aF (af f165 2)) (next:=5) (yg nn (aK vs) p st) (λd=>Ed p (st.drop d).length) (λd=>pd l vs nn++marks 4 (l5 (st.drop d)))
  (r:=⟨.exit 2,Ed p (pop nn (aK vs) p st).length,pd l vs nn++marks 4 (l5 (pop nn (aK vs) p st)),5⟩) (λi k _=>j0 (l:=pd l vs nn++marks 4 (l5 (st.drop i))) (m:=pd l vs nn++marks 4 (l5 (st.drop 0))) rfl k)
  (λd hd=>by
   obtain⟨b,a,fm,h1,h2⟩:=aEH nn (aK vs) p st d hd;have h3:st.drop (d+1)=a::fm:=by rw[<-Nx,h1];rfl
   rw[h3];exact aRn h1 (aEN aY) rH aP hn hm (hlen d) h2)
  (by rw[Qz];exact aRo (aEN aY) rH aP hn hm (hlen _) (aEI nn (aK vs) p st)) n_
 exact bT (id:=2) this
def bM(nn:V3 K)(vs:List (V3 K))(l:List Nat)(i:Nat):List Nat:=half nn (aK vs) (l.take i)
theorem aEO{i p:Nat}(h:l[i]?=some p):bM nn vs l (i+1)=p::pop nn (aK vs) p (bM nn vs l i):=by unfold bM half;rw[sQ,h,Option.toList,aCL];rfl
theorem aRq(n:V3 K)(pt:Nat->V3 K)(p:Nat)(st:List Nat):∀ x∈pop n pt p st,x∈st:=λx hx=>by rw[Qz]at hx;exact WV hx
theorem aEP(n:V3 K)(pt:Nat->V3 K)(p:Nat)(st:List Nat):(pop n pt p st).length<=st.length:=by rw[Qz,vt];omega
theorem LP:∀ i,i<=l.length->(∀ x∈bM nn vs l i,x∈l)/\(bM nn vs l i).length<=i
 |0,_=>⟨λx hx=>by simp[bM,half]at hx,bt _⟩
 |i+1,h=>by
  obtain⟨h1,h2⟩:=LP i o_;have hp:l[i]?=some l[i]:=bd o_;rw[aEO hp];refine⟨λx hx=>?_,?_⟩
  ·rcases ch.1 hx with rfl|hx
   ·exact dz o_
   ·exact h1 x (aRq _ _ _ _ x hx)
  ·have:=aEP nn (aK vs) l[i] (bM nn vs l i);rw[oM];omega
theorem aRr{i p m q:Nat}{st:List Nat}(hi:i<l.length)(hp:l[i]?=some p)(aY:∀ x∈st,x<vs.length)(rH:p<vs.length)(aP:∀ v∈vs,aD q v)(hn:aD m nn)(hm:100*(m+q)+1000<=aA)(h63:st.length<900000)(pP:l.length<1000000):
  ag prog Bs 66 (aF (af f165 0)) (QA l.length i st.length) (pd l vs nn++marks 4 (l5 st)) 5
   ⟨.normal,ij 4 [some 6] (QA l.length (i+1) (p::pop nn (aK vs) p st).length),pd l vs nn++dV [some 6] (l5 (p::pop nn (aK vs) p st)),7⟩:=by
 have lo:=aRp (Bs:=Bs) (l:=l) aY rH aP hn hm (show st.length<1000000 by omega);have x7:=aEP nn (aK vs) p st;generalize pop nn (aK vs) p st=r at *;have hr:ai r.reverse++[vI p]=ai (p::r).reverse:=by simp[ai]
 have Av:(ai r.reverse).length=r.length*1:=by rw[lC,Gu,fX]
 have h1:=IY r.reverse;unfold l5 at *;rw[show(p::r).length=r.length+1 from rfl];generalize st.reverse=s0 at *;generalize ai r.reverse=c0 at *;generalize ai (p::r).reverse=c1 at *;exact aC [.lt 13 i l.length true (aB hi),.ix f165 14 0 l.length i hi k_,.ld f165 15 3 0 i (.view (ai l)) (vI p) rfl (dQ hp) k_,.code 2 _ _ _ _ _ lo,.bs f165 58 5 1 3 1 [0] (vI 0) [vI p] #[vI p] (.row [vI p] 3 1) rfl (λv hv=>by simp at hv;subst hv;rfl) (λv hv=>by simp at hv;subst hv;rfl) k_ rfl d_ d_ k_,.pB f165 59 6 4 r.length 1 (r.length+1) 3 1 8 c0 5 (.row [vI p] 3 1) c1 rfl rfl rfl Av hr (λv hv=>by simp[Obj.cells]at hv;subst hv;rfl) d_ (by simp[maxLen];omega) o_ k_,.sum 60 i 1 (i+1) rfl o_]
theorem aRs{m q:Nat}(aY:∀ x∈l,x<vs.length)(aP:∀ v∈vs,aD q v)(hn:aD m nn)(hm:100*(m+q)+1000<=aA)(h63:l.length<900000):
  ag prog Bs 66 (.block 0 (af f165 0)) (ij 4 [none] (QA l.length 0 0)) (pd l vs nn++dV [none] (l5 [])) 4 ⟨.normal,[(5,sl 4 (half nn (aK vs) l).length)],pd l vs nn++marks 4 (l5 (half nn (aK vs) l)),5⟩:=by
 have DZ:bM nn vs l l.length=half nn (aK vs) l:=by unfold bM;rw[lY]
 have:=su (P:=prog) (B:=Bs) (N:=66) (b:=aF (af f165 0)) (next:=4) (p:=1) (r:=⟨.exit 0,[(5,sl 4 (half nn (aK vs) l).length)],pd l vs nn++marks 4 (l5 (half nn (aK vs) l)),5⟩) l.length
  (λi=>QA l.length i (bM nn vs l i).length) (λ_=>pd l vs nn) (λi=>l5 (bM nn vs l i)) [none] (λ_ _=>rfl) (λj _=>⟨aEJ (bt _),aRm⟩) k_ k_
  (λi hi=>by have hp:l[i]?=some l[i]:=bd hi;obtain⟨f1,f2⟩:=LP (nn:=nn) (vs:=vs) (l:=l) i o_;refine⟨[some 6],7,k_,?_⟩;rw[aEO hp];exact aRr hi hp (λx hx=>aY x (f1 x hx)) (aY _ (dz hi)) aP hn hm o_ o_)
  (by rw[DZ];generalize half nn (aK vs) l=a;exact aC [.lt 13 l.length l.length false s_]) n_
 exact bT (id:=0) this
theorem aRt(nn:V3 K)(pt:Nat->V3 K){l:List Nat}(h:l≠[]):half nn pt l≠[]:=by
 have:∀(l st:List Nat),st≠[]->l.foldl (λst p=>p::pop nn pt p st) st≠[]:=by
  intro l;induction l with
  |nil=>exact λ_ h=>h
  |cons a l ih=>exact λst _=>ih _ n_
 cases l with
 |nil=>exact absurd rfl h
 |cons a l=>exact this l _ n_
def kt(nn:V3 K)(vs:List (V3 K))(l:List Nat):List Nat:=(half nn (aK vs) l).tail.reverse
theorem aEQ{m q:Nat}(qJ:0<l.length)(aY:∀ x∈l,x<vs.length)(aP:∀ v∈vs,aD q v)(hn:aD m nn)(hm:100*(m+q)+1000<=aA)(h63:l.length<900000):
  lX prog 165 [Gt l,.b vs.length (aL vs),.q (cx nn).cs] 3 1 (kt nn vs l).length (ai (kt nn vs l)):=by
 have az:([Gt l,.b vs.length (aL vs),.q (cx nn).cs].all aT.ok)=true:=by simp only[dM,fH,WR,aRj,aRk,wh]
 have lo:=λBs=>aRs (Bs:=Bs) aY aP hn hm h63;have aV:=aRt nn (aK vs) (l:=l) (λe=>by rw[e]at qJ;cases qJ);have hlen:(half nn (aK vs) l).length<=l.length:=by have:=(LP (nn:=nn) (vs:=vs) (l:=l) l.length (bt _)).2;unfold bM at this;rwa[lY]at this
 unfold kt;cases hh:half nn (aK vs) l with
 |nil=>exact absurd hh aV
 |cons a st=>
  rw[hh]at lo hlen;simp only[List.tail_cons,Gu];have nA:(ai (a::st).reverse).take (st.length*1)=ai st.reverse:=by rw[aEM,vV,RK s_]
  unfold l5 at lo;rw[show(a::st).length=st.length+1 from rfl]at lo hlen;have hx:=gJ st.reverse;have WW:(ai st.reverse).length=st.length*1:=by rw[lC,Gu,fX]
  generalize ai (a::st).reverse=c0 at *;generalize ai st.reverse=c1 at *;exact zz (k:=4) mixed func165 az 100 (N:=66) k_ (λ_=>[.code 0 _ _ _ _ _ (lo _),.e7 64 (st.length+1) 1 st.length rfl o_,.cut f165 65 4 (st.length+1) st.length (st.length*1) 1 1 3 c0 c1 o_ nA k_]) (λ_=>k_) hx WW
end
theorem aER(nn:V3 K)(vs:List (V3 K))(l:List Nat):order nn (aK vs) l=kt nn vs l++kt nn vs l.reverse:=rfl
theorem WX{vs:List (V3 K)}{nn:V3 K}{l:List Nat}{m q:Nat}(qJ:0<l.length)(aY:∀ x∈l,x<vs.length)(aP:∀ v∈vs,aD q v)(hn:aD m nn)(hm:100*(m+q)+1000<=aA)(h63:l.length<900000):
  lX prog 125 [u5 vs,Gt l,.p (bF nn)] 3 1 (order nn (aK vs) l).length (ai (order nn (aK vs) l)):=by
 have az:([u5 vs,Gt l,.p (bF nn)].all aT.ok)=true:=by simp only[dM,fH,WR,aEF,aRl,wh]
 have h1:=aEQ qJ aY aP hn hm h63;have h2:=aEQ (l:=l.reverse) (by simpa using qJ) (λx hx=>aY x (KY.1 hx)) aP hn hm (by simpa using h63);have hc:=aRc qJ o_;have hr:=aRi qJ o_;rw[aER];have e1:ai (kt nn vs l)++ai (kt nn vs l.reverse)=ai (kt nn vs l++kt nn vs l.reverse):=aRb _ _;have bw:∀ l:List Nat,(∀ x∈l,x∈l)->(kt nn vs l).length<=l.length:=λl _=>by have:=(LP (nn:=nn) (vs:=vs) (l:=l) l.length (bt _)).2;unfold bM at this;rw[lY]at this;unfold kt;rw[Gu,List.length_tail];omega
 have s1:=bw l λ_ h=>h;have s2:=bw l.reverse λ_ h=>h;have g1:=lC (kt nn vs l);have g2:=lC (kt nn vs l.reverse);have o2:=IY (kt nn vs l.reverse);have f3:=gJ (kt nn vs l++kt nn vs l.reverse);have g3:=lC (kt nn vs l++kt nn vs l.reverse);have f1:=gJ (kt nn vs l);have f2:=gJ (kt nn vs l.reverse);rw[jx]at g3 ⊢;rw[Gu]at s2;have hb:∀{l:List Nat},l.length=0->(Obj.view (ai l)).cells=[]:=λh=>Qx h;unfold yf at hr;have aES:l.reverse.length=l.length:=Gu ..;unfold Gt at h2;rw[aES]at h2;have ir:l.length=0->ai l.reverse=[]:=λh=>Qx (by rw[aES];exact h);have irf:=gJ l.reverse;generalize (kt nn vs l).length=a1 at *;generalize (kt nn vs l.reverse).length=a2 at *;generalize ai (kt nn vs l++kt nn vs l.reverse)=i3 at *;generalize ai (kt nn vs l)=i1 at *;generalize ai (kt nn vs l.reverse)=i2 at *;generalize ai l.reverse=lr at *;exact zz (k:=7) mixed func125 az 100 (N:=23) k_ (λ_=>[
  .step 13 (av f125 13) [.func (.func 165) #[] #[bY 2,bY 3],sl 1 l.length] [(4,none),(1,some (.view (ai l))),(2,some (.aI [sl 0 vs.length] 23)),(0,some (.view (aL vs))),(3,some (.aI (cx nn).cs 33))] (sl 4 a1) [(4,.row i1 3 1)]
   (aDc (vs:=[sl 1 l.length]) (ca:=[bY 2,bY 3]) h1 (.w (x:=.view (ai l)) rfl (gJ l) hb (.b (x:=.view (aL vs)) (y:=.aI [sl 0 vs.length] 23) (cc:=0) rfl rfl rfl (dF vs) xP (.q (x:=.aI (cx nn).cs 33) rfl (bh.2 (RV.nU _)) .nil))) (x:=.tmp 11) k_ k_ f1 4),
  .step 15 (av f125 15) [.func (.func 166) #[] #[],sl 1 l.length] [(5,none),(1,some (.view (ai l)))] (sl 5 l.length) [(5,.row (ai l) 3 1)]
   (qo hc (.w (x:=.view (ai l)) rfl (gJ l) hb .nil) (x:=.func 166) k_ k_ (gJ l) 5),
  .step 17 (av f125 17) [.func (.func 167) #[] #[],sl 5 l.length] [(5,some (.row (ai l) 3 1))] (.tuple #[]) [(5,.row lr 3 1)]
   (Po (args:=[sl 5 l.length]) (ca:=[]) (x:=.func 167) hr k_ k_ k_ k_ (by
    show((Nat.blt 5 6&&oE 6 (5,.row (ai l) 3 1))&&true)=true;rw[zX (x:=.row (ai l) 3 1) λv hv=>kJ l v hv];rfl) (by
    show(oE 6 (5,.row lr 3 1)&&true)=true;rw[zX (x:=.row lr 3 1) λv hv=>bh.1 irf v hv];rfl) k_ k_ k_ k_),.step 21 (av f125 21) [.func (.func 165) #[] #[bY 2,bY 3],sl 5 l.length] [(6,none),(5,some (.row lr 3 1)),(2,some (.aI [sl 0 vs.length] 23)),(0,some (.view (aL vs))),(3,some (.aI (cx nn).cs 33))] (sl 6 a2) [(6,.row i2 3 1)]
   (aDc (vs:=[sl 5 l.length]) (ca:=[bY 2,bY 3]) h2 (.w (x:=.row lr 3 1) rfl irf ir (.b (x:=.view (aL vs)) (y:=.aI [sl 0 vs.length] 23) (cc:=0) rfl rfl rfl (dF vs) xP (.q (x:=.aI (cx nn).cs 33) rfl (bh.2 (RV.nU _)) .nil))) (x:=.tmp 19) k_ k_ f2 6),
  .pB f125 22 7 4 a1 a2 (a1+a2) 3 1 8 i1 6 (.row i2 3 1) i3 rfl rfl (by rw[fX];exact g2) (by rw[fX];exact g1) e1 o2 d_ (by simp[maxLen];omega) o_ k_]) (λ_=>k_) f3 (by rw[fX];exact g3)
def ck(p:HS K)(vs:List (V3 K))(j:Nat):List Nat:=(List.range j).filter λk=>decide (dot p.n (aK vs k)-p.d=0)
theorem aET(p:HS K)(vs:List (V3 K))(j:Nat):ck p vs (j+1)=ck p vs j++(if dot p.n (aK vs j)-p.d=0 then[j]else[]):=by
 unfold ck;rw[H0,aEU]
 congr 1
 by_cases h:dot p.n (aK vs j)-p.d=0<;>simp[h]
theorem WY{p:HS K}{vs:List (V3 K)}{j x:Nat}(h:x∈ck p vs j):x<j:=by unfold ck at h;rw[aEV,kA]at h;exact h.1
theorem IZ(p:HS K)(vs:List (V3 K))(j:Nat):(ck p vs j).length<=j:=by have:=aEW (λk=>decide (dot p.n (aK vs k)-p.d=0)) (List.range j);rw[xb]at this;exact this
def pQ(ps:List (HS K))(vs:List (V3 K))(i:Nat)(p:HS K):List (Nat×List Nat):=
 if(ps.take i).any (λq=>decide (canon p=canon q))then[]
 else if(ck p vs vs.length).length<3 then[]
 else if(order p.n (aK vs) (ck p vs vs.length)).length>2 then[(i,order p.n (aK vs) (ck p vs vs.length))]else[]
def gE(ps:List (HS K))(vs:List (V3 K))(i:Nat):List (Nat×List Nat):=match ps[i]? with|some p=>pQ ps vs i p|none=>[]
def e9(ps:List (HS K))(vs:List (V3 K))(n:Nat):List (Nat×List Nat):=(List.range n).flatMap (gE ps vs)
theorem I0(ps:List (HS K))(vs:List (V3 K))(n:Nat):e9 ps vs (n+1)=e9 ps vs n++gE ps vs n:=by unfold e9;rw[H0,Vb];simp
theorem aRu(ps:List (HS K))(vs:List (V3 K))(i:Nat)(p:HS K):(pQ ps vs i p).length<=1:=by
 unfold pQ;split
 ·exact lh _
 ·split
  ·exact lh _
  ·split
   ·exact bt _
   ·exact lh _
theorem QB(ps:List (HS K))(vs:List (V3 K)):∀ n,(e9 ps vs n).length<=n
 |0=>bt _
 |n+1=>by
  rw[I0,jx];have h1:=QB ps vs n;have h2:(gE ps vs n).length<=1:=by
   unfold gE;split
   ·exact aRu _ _ _ _
   ·exact lh _
  omega
def oI(f:Nat×List Nat):Int×List Int:=((f.1:Int),f.2.map λx:Nat=>(x:Int))
section
variable{Bs:aa}{ps:List (HS K)}{vs:List (V3 K)}
def LQ(nv j L:Nat):aR:=[(26,vI j),(24,sl 1 nv),(25,vI nv),(7,bY 3),(8,sl 4 L)]
def Aw(vs:List (V3 K))(p:HS K):aH:=[(1,.view (aL vs)),(3,.aI (cG p).cs 35)]
def kf(l:List Nat):List Obj:=[.row (ai l) 3 1]
theorem aRv{p:HS K}{m:Nat}:∀ x∈Aw vs p,eA m x.2:=λx hx=>by
 simp only[Aw,ch,iu,iv]at hx;rcases hx with rfl|rfl
 ·exact λv hv=>gQ (bh.1 (dF vs) v hv)
 ·exact λv hv=>gQ (iO.flat _ v hv)
theorem WZ{m:Nat}{l:List Nat}:∀ x∈kf l,eA m x:=λx hx=>by simp only[kf,ch,iu,iv]at hx;subst hx;exact λv hv=>gQ (kJ _ v hv)
theorem aRw{j m q:Nat}{p:HS K}{l:List Nat}(hj:j<vs.length)(hp:bo m p)(gg:p.n≠0)(aP:∀ v∈vs,aD q v)(hm:100*(m+q)+1000<=aA)(h63:l.length<900000)(pP:vs.length<1000000):
  ∃ σ ft,(∀ l0:List Nat,C1 (Aw vs p++dV [none] (kf l0)) 4 σ (LQ vs.length (j+1) (l++if dot p.n (aK vs j)-p.d=0 then[j]else[]).length) (Aw vs p) (kf (l++if dot p.n (aK vs j)-p.d=0 then[j]else[]))=true)/\
   ag prog Bs 59 (aF (af f75 2)) (LQ vs.length j l.length) (Aw vs p++marks 4 (kf l)) 5 ⟨.normal,ij 4 σ (LQ vs.length (j+1) (l++if dot p.n (aK vs j)-p.d=0 then[j]else[]).length),Aw vs p++dV σ (kf (l++if dot p.n (aK vs j)-p.d=0 then[j]else[])),ft⟩:=by
 have hv:=kM hj;have hs:=zO hp (aP _ (cJ hv)) o_ gg;by_cases h:dot p.n (aK vs j)-p.d=0
 ·rw[ax h];have e:(Value.bool (OF.ay (dot p.n (aK vs j)-p.d)==0))=.bool true:=by rw[OF.HM.1 h];rfl
  have hr:ai l++[vI j]=ai (l++[j]):=by simp[ai]
  have Av:(ai l).length=l.length*1:=by rw[lC,fX]
  have h1:=IY l;rw[show(l++[j]).length=l.length+1 by simp];unfold kf;refine⟨[some 7],8,λl0=>k_,?_⟩;generalize OF.ay (dot p.n (aK vs j)-p.d)=z at *;generalize aK vs j=v at *;generalize ai l=c0 at *;generalize ai (l++[j])=c1 at *;exact aC [.lt 27 j vs.length true (aB hj),.cT f75 29 1 vs.length j 30 hj k_,.ld f75 30 33 1 (j*30) (.view (aL vs)) (bF v) rfl (jV hv) k_,hs.at 33,.rw 34 (.bool (z==0)) (.bool true) e,.bs f75 37 6 1 3 1 [0] (vI 0) [vI j] #[vI j] (.row [vI j] 3 1) rfl (λv hv=>by simp at hv;subst hv;rfl) (λv hv=>by simp at hv;subst hv;rfl) k_ rfl d_ d_ k_,.pB f75 38 7 4 l.length 1 (l.length+1) 3 1 8 c0 6 (.row [vI j] 3 1) c1 rfl rfl rfl Av hr (λv hv=>by simp[Obj.cells]at hv;subst hv;rfl) d_ (by simp[maxLen];omega) o_ k_,.sum 39 j 1 (j+1) rfl o_]
 ·rw[au h,jn];have e:(Value.bool (OF.ay (dot p.n (aK vs j)-p.d)==0))=.bool false:=by
   congr 1
   have:OF.ay (dot p.n (aK vs j)-p.d)≠0:=λe=>h (OF.HM.2 e);simpa using this
  refine⟨[some 4],6,λl0=>k_,?_⟩;generalize OF.ay (dot p.n (aK vs j)-p.d)=z at *;generalize aK vs j=v at *;exact aC [.lt 27 j vs.length true (aB hj),.cT f75 29 1 vs.length j 30 hj k_,.ld f75 30 33 1 (j*30) (.view (aL vs)) (bF v) rfl (jV hv) k_,hs.at 33,.rw 34 (.bool (z==0)) (.bool false) e,.sum 39 j 1 (j+1) rfl o_]
theorem W0{m q:Nat}{p:HS K}(hp:bo m p)(gg:p.n≠0)(aP:∀ v∈vs,aD q v)(hm:100*(m+q)+1000<=aA)(h63:vs.length<900000):
  ag prog Bs 59 (.block 2 (af f75 2)) (ij 4 [none] (LQ vs.length 0 0)) (Aw vs p++dV [none] (kf [])) 4 ⟨.normal,[(8,sl 4 (ck p vs vs.length).length),(7,bY 3)],Aw vs p++marks 4 (kf (ck p vs vs.length)),5⟩:=by
 have:=su (P:=prog) (B:=Bs) (N:=59) (b:=aF (af f75 2)) (next:=4) (p:=1) (r:=⟨.exit 2,[(8,sl 4 (ck p vs vs.length).length),(7,bY 3)],Aw vs p++marks 4 (kf (ck p vs vs.length)),5⟩) vs.length
  (λj=>LQ vs.length j (ck p vs j).length) (λ_=>Aw vs p) (λj=>kf (ck p vs j)) [none] (λ_ _=>rfl) (λj _=>⟨aRv,WZ⟩) k_ k_
  (λj hj=>by have hl:=IZ p vs j;obtain⟨σ,ft,h1,h2⟩:=aRw (Bs:=Bs) (l:=ck p vs j) hj hp gg aP hm o_ o_;rw[aET];exact⟨σ,ft,h1 _,h2⟩)
  (by generalize ck p vs vs.length=a;exact aC [.lt 27 vs.length vs.length false s_]) n_
 exact bT (id:=2) this
def fI(n nv i c:Nat):aR:=[(14,vI i),(12,sl 0 n),(13,vI n),(0,sl 0 n),(1,sl 1 nv),(5,sl 2 c)]
def fM(ps:List (HS K))(vs:List (V3 K))(cells:aj):aH:=[(0,.view (aN ps)),(1,.view (aL vs)),(2,.row cells 63 2)]
def lH(ps:List (HS K))(i:Nat)(p:HS K):Bool:=(ps.take i).any λq=>decide (canon p=canon q)
noncomputable def fS{i m:Nat}{p:HS K}{t:Bool}(hi:i<ps.length)(jg:ps[i]?=some p)(bX:∀ p∈ps,bo m p/\p.n≠0)(hm:100*m+1000<=aA)(h63:ps.length<=500)(ht:lH ps i p=t)(more:bI prog Bs 59):bI prog Bs 59:=
 .lt 15 i ps.length true (aB hi)::.cT f75 17 0 ps.length i 40 hi k_::.ld f75 18 35 0 (i*40) (.view (aN ps)) (cB p) rfl (wi jg) k_::.upto f75 21 0 ps.length i 40 o_ k_::
  .step 23 (av f75 23) [.func (.func 70) #[] #[],sl 0 i,.func (.func 123) #[] #[bY 3]] [(0,some (.view (aN ps))),(3,some (.aI (cG p).cs 35))] (.bool t) [] (by
   have hp:=bX p (cJ jg);have hc:=Vh (g:=123) (caps:=(cG p).cs) (ps:=ps.take i) (b:=λq=>decide (canon p=canon q)) k_ (bh.2 (iO.flat _)) (by rw[ji];omega) λq hq=>
    aMu hp.1 (bX q (Ir hq)).1 o_ o_ hp.2 (bX q (Ir hq)).2
   rw[show(ps.take i).any (λq=>decide (canon p=canon q))=t from ht]at hc;have hl:(ps.take i).length=i:=by rw[ji];omega
   have e:aN (ps.take i)=((Obj.view (aN ps)).cells.drop 0).take (i*40):=by show _=((aN ps).drop 0).take (i*40);rw[mB];unfold aN;rw[Vd iO,<-CD]
   unfold fJ at hc;rw[hl,e]at hc;exact dL hc (.r (x:=.view (aN ps)) rfl (cX ps) (λh=>by rw[h]) (.f (x:=.aI (cG p).cs 35) rfl (bh.2 (iO.flat _)) .nil)) (x:=.func 70) k_ k_ rfl)::more
theorem aRx{i c m:Nat}{p:HS K}{cells:aj}(hi:i<ps.length)(jg:ps[i]?=some p)(bX:∀ p∈ps,bo m p/\p.n≠0)(hm:100*m+1000<=aA)(h63:ps.length<=500)(ht:lH ps i p=true):
  ag prog Bs 59 (aF (af f75 0)) (fI ps.length vs.length i c) (fM ps vs cells) 3 ⟨.normal,fI ps.length vs.length (i+1) c,fM ps vs cells,4⟩:=
 aC (fS hi jg bX hm h63 ht [.sum 57 i 1 (i+1) rfl o_])
theorem aRy{i c m q:Nat}{p:HS K}{cells:aj}(hi:i<ps.length)(jg:ps[i]?=some p)(bX:∀ p∈ps,bo m p/\p.n≠0)(aP:∀ v∈vs,aD q v)(hm:100*(m+q)+1000<=aA)(h63:ps.length<=500)(gK:vs.length<900000)(ht:lH ps i p=false)(ho:(ck p vs vs.length).length<3):
  ag prog Bs 59 (aF (af f75 0)) (fI ps.length vs.length i c) (fM ps vs cells) 3 ⟨.normal,fI ps.length vs.length (i+1) c,fM ps vs cells,5⟩:=by
 have hp:=bX p (cJ jg);have lo:=W0 (Bs:=Bs) hp.1 hp.2 aP hm gK;generalize ck p vs vs.length=on at *;exact aC (fS hi jg bX o_ h63 ht [.code 2 _ _ _ _ _ lo,.lt 42 on.length 3 true (aB ho),.sum 57 i 1 (i+1) rfl o_])
noncomputable def fL{m q:Nat}{p:HS K}{on l:List Nat}(hl:order p.n (aK vs) on=l)(hp:bo m p)(aP:∀ v∈vs,aD q v)(hm:100*(m+q)+1000<=aA)(gY:∀ x∈on,x<vs.length)(h3:0<on.length)(h63:on.length<900000):aX prog Bs 59:=
 .step 47 (av f75 47) [.func (.func 125) #[] #[],sl 1 vs.length,sl 4 on.length,bF p.n] [(5,none),(1,some (.view (aL vs))),(4,some (.row (ai on) 3 1))] (sl 5 l.length) [(5,.row (ai l) 3 1)]
  (qo (hl▸WX h3 gY aP hp.1 hm h63) (.w (x:=.view (aL vs)) rfl (dF vs) xP (.w (x:=.row (ai on) 3 1) rfl (gJ on) (λh=>Qx h) (.p k_ .nil))) (x:=.func 125) k_ k_ (gJ l) 5)
theorem aRz{i c m q:Nat}{p:HS K}{cells:aj}(hi:i<ps.length)(jg:ps[i]?=some p)(bX:∀ p∈ps,bo m p/\p.n≠0)(aP:∀ v∈vs,aD q v)(hm:100*(m+q)+1000<=aA)(h63:ps.length<=500)(gK:vs.length<900000)(ht:lH ps i p=false)(ho:¬(ck p vs vs.length).length<3)
  (hl:¬(order p.n (aK vs) (ck p vs vs.length)).length>2):ag prog Bs 59 (aF (af f75 0)) (fI ps.length vs.length i c) (fM ps vs cells) 3 ⟨.normal,fI ps.length vs.length (i+1) c,fM ps vs cells,6⟩:=by
 have hp:=bX p (cJ jg);have lo:=W0 (Bs:=Bs) hp.1 hp.2 aP hm gK;have gY:∀ x∈ck p vs vs.length,x<vs.length:=λx hx=>WY hx;have hol:=IZ p vs vs.length;obtain⟨l,cv⟩:∃ l,order p.n (aK vs) (ck p vs vs.length)=l:=⟨_,rfl⟩;rw[cv]at hl;generalize ck p vs vs.length=on at *;exact aC (fS hi jg bX o_ h63 ht [.code 2 _ _ _ _ _ lo,.lt 42 on.length 3 false (aJ ho),fL cv hp.1 aP hm gY o_ o_,.gt 50 l.length 2 false (aJ o_),.sum 57 i 1 (i+1) rfl o_])
theorem aEX{it:TypeInfo}{z:Value}(h1:prog.info? 63=some it)(h2:it.zero=some z):∀ v∈z.cells.toList,flat v=true:=by have e:(prog.info? 63).bind (·.zero)=some (.agg #[vI 0,.slice none 0 0]):=k_;rw[h1]at e;have e:it.zero=some (.agg #[vI 0,.slice none 0 0]):=e;rw[h2]at e;injection e with e;subst e;intro v hv;have hv:v∈[vI 0,.slice none 0 0]:=hv;simp at hv;rcases hv with rfl|rfl<;>rfl
theorem aRA{i c m q:Nat}{p:HS K}{cells:aj}(hi:i<ps.length)(jg:ps[i]?=some p)(bX:∀ p∈ps,bo m p/\p.n≠0)(aP:∀ v∈vs,aD q v)(hm:100*(m+q)+1000<=aA)(h63:ps.length<=500)(gK:vs.length<900000)(ht:lH ps i p=false)(ho:¬(ck p vs vs.length).length<3)
  (hl:(order p.n (aK vs) (ck p vs vs.length)).length>2) (hc:cells.length=c*2) (LR:c<=500) (Eu:∀ v∈cells,v.oneCell'=true) :
  ag prog Bs 59 (aF (af f75 0)) (fI ps.length vs.length i c) (fM ps vs cells) 3
   ⟨.normal,[(14,vI (i+1)),(12,sl 0 ps.length),(13,vI ps.length),(0,sl 0 ps.length),(1,sl 1 vs.length),(5,sl 7 (c+1))],[(0,.view (aN ps)),(1,.view (aL vs)),(5,.row (ai (order p.n (aK vs) (ck p vs vs.length))) 3 1),(7,.row (cells++[vI i,sl 5 (ai (order p.n (aK vs) (ck p vs vs.length))).length]) 63 2)],8⟩:=by
 have hp:=bX p (cJ jg);have lo:=W0 (Bs:=Bs) hp.1 hp.2 aP hm gK;have gY:∀ x∈ck p vs vs.length,x<vs.length:=λx hx=>WY hx;have hol:=IZ p vs vs.length;obtain⟨l,cv⟩:∃ l,order p.n (aK vs) (ck p vs vs.length)=l:=⟨_,rfl⟩;rw[cv]at hl ⊢;rw[lC];generalize ck p vs vs.length=on at *;generalize mO:cells++[vI i,sl 5 l.length]=cells' at *;exact aC (fS hi jg bX o_ h63 ht [.code 2 _ _ _ _ _ lo,.lt 42 on.length 3 false (aJ ho),fL cv hp.1 aP hm gY o_ o_,.gt 50 l.length 2 true (aB hl),.step 54 (av f75 54) [vI i,sl 5 l.length] [] (.agg #[vI i,sl 5 l.length]) [] (PI (t:=63) (idx:=[0,1]) k_ (λit z h1 h2=>aEX h1 h2) k_),.bsM f75 55 6 1 63 2 [0] (.agg #[vI 0,.slice none 0 0]) [.agg #[vI i,sl 5 l.length]] #[vI i,sl 5 l.length] (.row [vI i,sl 5 l.length] 63 2) rfl (λv hv=>by
   have hv:v∈[vI 0,.slice none 0 0]:=hv;simp at hv;rcases hv with rfl|rfl<;>rfl) d_ k_ rfl d_ d_ k_,.pB f75 56 7 2 c 1 (c+1) 63 2 32 cells 6 (.row [vI i,sl 5 l.length] 63 2) cells' rfl rfl rfl hc mO (λv hv=>by
   simp[Obj.cells]at hv;rcases hv with rfl|rfl<;>rfl) d_ (by simp[maxLen];omega) o_ k_,.sum 57 i 1 (i+1) rfl o_])
end
end
theorem kG.one{w:World}{fs:List (Int×List Int)}{cs:aj}(h:kG w fs cs):∀ v∈cs,v.oneCell'=true:=by
 induction h with
 |nil=>intro v hv;cases hv
 |cons h1 _ _ ih=>
  intro v hv;rcases ch.1 hv with rfl|hv
  ·rfl
  rcases ch.1 hv with rfl|hv
  ·rcases h1 with ⟨e,_⟩|⟨_,_,_,e,_⟩<;>rw[e]<;>rfl
  ·exact ih v hv
structure Ax(B:aa)(fs:List (Int×List Int))(ks:List (Value×aj))(cs:aj):Prop where
 flat:∀ v∈cs,Go.Proofs.YtjjefbkbljlgdaaGreatDoor.flat v=true
 cells:∀ w,(∀ p∈ks,cO w p.1 p.2.length p.2)->kG w fs cs
 slice:∀ v∈cs,∀ b,iP v=some b->¬B.cR b
theorem Ax.nil{B:aa}:Ax B [] [] []:=⟨λv h=>(by cases h),λw _=>.nil,λv h=>(by cases h)⟩
theorem Ax.snoc{B:aa}{fs:List (Int×List Int)}{ks:List (Value×aj)}{cells:aj}(h:Ax B fs ks cells){i:Nat}{l:List Nat}{u:Value}(hu:Go.Proofs.YtjjefbkbljlgdaaGreatDoor.flat u=true)(hb:∀ b,iP u=some b->¬B.cR b):
  Ax B (fs++[oI (i,l)]) ((u,ai l)::ks) (cells++[vI i,u]):=by
 refine⟨λv hv=>?_,λw hw=>?_,λv hv b te=>?_⟩
 ·rcases dX.1 hv with hv|hv
  ·exact h.flat v hv
  ·simp at hv;rcases hv with rfl|rfl
   ·rfl
   ·exact hu
 ·have h1:=h.cells w λp hp=>hw p (bE _ hp);have h2:=hw (u,ai l) (aU ..);have h2:cO w u (ai l).length (ai l):=h2;rw[aND]at h2;have e:(eH (l.map λx:Nat=>(x:Int))).length=(l.map λx:Nat=>(x:Int)).length:=by simp[eH]
  rw[e]at h2;exact h1.snoc (i:=(i:Int)) h2 hu
 ·rcases dX.1 hv with hv|hv
  ·exact h.slice v hv b te
  ·simp at hv;rcases hv with rfl|rfl
   ·cases te
   ·exact hb b te
theorem Ax.out{B:aa}{fs:List (Int×List Int)}{ks:List (Value×aj)}{cells:aj}(h:Ax B fs ks cells){ι:Map}{c:Nat->Option Obj}{w:World}{k:Nat}{ty:TypeId}{v:Value}(hm:aO (B.gM ks) ι c w)(hk:c k=some (.row cells ty 2))(hc:aG ι (.slice (some ⟨k,0,some 7⟩) fs.length 0) v):
  Dv w v (eK fs)/\∀ b,(eK fs).cR v w b->¬B.cR b:=by
 have hf:=h.cells w hm.base.2;have hl:=hf.length;have hr:=oP (len:=fs.length*2) hm hk rfl h.flat (λe=>by rw[e]) hc;have hr:cO w v fs.length cells:=by
  have e:((Obj.row cells ty 2).cells.drop 0).take (fs.length*2)=cells:=by rw[mB];exact kB (vn hl)
  rwa[e]at hr
 have ko:Lm w v fs:=⟨cells,hr,hf⟩;have own:∀ b,iP v=some b->¬B.cR b:=by
  intro b hb hF;rcases hc.iw rfl with ⟨_,_,_,_,q5⟩|⟨b',oo,cap,c',q1,_,_,q5⟩
  ·rw[q5]at hb;cases hb
  ·rw[q5]at hb;injection hb with hb;subst hb;exact(hm.own k _ b' oo cap hk rfl q1).2 (.inl hF)
 refine⟨⟨ko,?_,?_⟩,λb hF=>?_⟩
 ·rcases hr with ⟨e,_⟩|⟨_,_,_,e,_⟩<;>rw[e]<;>rfl
 ·rcases hr with ⟨e,_⟩|⟨_,_,_,e,_⟩<;>rw[e]<;>rfl
 ·rcases hF with hF|⟨b',o,c',j,u,e,hj,mn,hb⟩
  ·exact own b hF
  ·have hu:=PL hr hf e hj mn;exact h.slice u hu b hb
section
variable{ps:List (HS K)}{vs:List (V3 K)}
noncomputable def fC0:Code:=rD (eT f75)
noncomputable def fC1:Code:=rD (nu (eT f75))
noncomputable def fC2:Code:=rD (rD (nu (nu (eT f75))))
noncomputable def fC3:Code:=rD (nu (nu (nu (eT f75))))
theorem aRB:(f75).body=some (.seq fC0 (.seq fC1 (.seq (.seq fC2 (.block 0 (.loop (aF (af f75 0))))) (.seq fC3 .ret)))):=k_
theorem W3{cells:aj}(cQ:∀ v∈cells,flat v=true)(r:List (Nat×Nat)):∀ p∈fM ps vs cells,F5 r p.2:=λp hp=>by
 simp only[fM,ch,iu,iv]at hp;rcases hp with rfl|rfl|rfl
 ·exact λv hv=>bh.1 (cX ps) v hv
 ·exact λv hv=>bh.1 (dF vs) v hv
 ·exact cQ
def QC(B:aa)(ps:List (HS K))(vs:List (V3 K))(i:Nat)(a:Act)(w:World):Prop:=
 ∃ ks cells,Ax B ((e9 ps vs i).map oI) ks cells/\St (B.gM ks) 59 (fI ps.length vs.length i (e9 ps vs i).length) (fM ps vs cells) 3 a w
theorem aEY{B:aa}{ks:List (Value×aj)}{cells:aj}{fs:List (Nat×List Nat)}{N next:Nat}{fr:aR}{M:aH}{a:Act}{w:World}(h:Ax B (fs.map oI) ks cells)(hs:St (B.gM ks) N fr M next a w):cells.length=fs.length*2/\∀ v∈cells,v.oneCell'=true:=by obtain⟨ι,cc,_,h2,_,_⟩:=hs;have:=h.cells w h2.base.2;exact⟨by rw[this.length,eO],this.one⟩
theorem aRC{B:aa}{m q i:Nat}(pD:∀ k,B.mp k=none)(hi:i<ps.length)(bX:∀ p∈ps,bo m p/\p.n≠0)(aP:∀ v∈vs,aD q v)(hm:100*(m+q)+1000<=aA)(h63:ps.length<=500)(gK:vs.length<900000){a:Act}{w:World}(h:QC B ps vs i a w)
  (K:Act->World->Prop) (Q:Exit->Act->World->Prop) (hK:∀ a' w',QC B ps vs (i+1) a' w'->K a' w'):(aF (af f75 0)).wpIn (FW none) 0 prog (Exit.then K Q) a w:=by
 obtain⟨ks,cells,hF,hS⟩:=h;have jg:ps[i]?=some ps[i]:=bd hi;have mQ:gE ps vs i=pQ ps vs i ps[i]:=by unfold gE;rw[jg]
 obtain⟨iR,Eu⟩:=aEY hF hS;have LR:(e9 ps vs i).length<=500:=by have:=QB ps vs i;omega
 have stay:gE ps vs i=[]->∀ next a' w',St (B.gM ks) 59 (fI ps.length vs.length (i+1) (e9 ps vs i).length) (fM ps vs cells) next a' w'->K a' w':=by
  intro he next a' w' h';have e:e9 ps vs (i+1)=e9 ps vs i:=by rw[I0,he,jn]
  refine hK a' w' ⟨ks,cells,by rw[e];exact hF,?_⟩;rw[e];exact h'.Iy pD [(0,0),(1,1),(2,2)] k_ rfl (W3 hF.flat _) k_ k_ k_ k_ k_
 by_cases rI:lH ps i ps[i]=true
 ·have he:gE ps vs i=[]:=by rw[mQ];unfold pQ;rw[ax (show(ps.take i).any (λq=>decide (canon ps[i]=canon q))=true from rI)]
  exact lD (aRx hi jg bX o_ h63 rI) hS λa' w' h'=>stay he _ a' w' h'
 ·have I1:lH ps i ps[i]=false:=by simpa using rI
  by_cases ho:(ck ps[i] vs vs.length).length<3
  ·have he:gE ps vs i=[]:=by rw[mQ];unfold pQ;rw[au (show ¬(ps.take i).any (λq=>decide (canon ps[i]=canon q))=true from rI),ax ho]
   exact lD (aRy hi jg bX aP hm h63 gK I1 ho) hS λa' w' h'=>stay he _ a' w' h'
  ·by_cases hl:(order ps[i].n (aK vs) (ck ps[i] vs vs.length)).length>2
   ·have he:gE ps vs i=[(i,order ps[i].n (aK vs) (ck ps[i] vs vs.length))]:=by rw[mQ];unfold pQ;rw[au (show ¬(ps.take i).any (λq=>decide (canon ps[i]=canon q))=true from rI),au ho,ax hl]
    refine lD (aRA hi jg bX aP hm h63 gK I1 ho hl iR LR Eu) hS λa' w' h'=>?_;show K a' w';obtain⟨u,hu,uT,h2⟩:=h'.PU (m:=5) (k:=7) rfl (gJ _) rfl d_;have e:e9 ps vs (i+1)=e9 ps vs i++[(i,order ps[i].n (aK vs) (ck ps[i] vs vs.length))]:=by rw[I0,he]
    have vR:=hF.snoc (i:=i) (l:=order ps[i].n (aK vs) (ck ps[i] vs vs.length)) hu uT;refine hK a' w' ⟨_,cells++[vI i,u],by rw[e,rO];exact vR,?_⟩;rw[e,jx];have cQ:=vR.flat;generalize cells++[vI i,u]=cells' at *;exact h2.Iy pD [(0,0),(1,1),(2,7)] k_ rfl (W3 cQ _) k_ k_ k_ k_ k_
   ·have he:gE ps vs i=[]:=by rw[mQ];unfold pQ;rw[au (show ¬(ps.take i).any (λq=>decide (canon ps[i]=canon q))=true from rI),au ho,au hl]
    exact lD (aRz hi jg bX aP hm h63 gK I1 ho hl) hS λa' w' h'=>stay he _ a' w' h'
theorem aRD{m q:Nat}(bX:∀ p∈ps,bo m p/\p.n≠0)(aP:∀ v∈vs,aD q v)(hm:100*(m+q)+1000<=aA)(h63:ps.length<=500)(gK:vs.length<900000):
  aDd prog 75 [fJ ps,u5 vs] (eK ((e9 ps vs ps.length).map oI)):=by
 intro w args ct;have az:([fJ ps,u5 vs].all aT.ok)=true:=by simp only[dM,fH,WT,aEF,wh]
 obtain⟨ι,c,h1,h2,h3,h4,h5,h6,h7⟩:=vT ct (bh.1 az) 0 _ _ (qP w) n_ (λ_ _=>rfl);have pD:∀ k,(aa.at w).mp k=none:=λ_=>rfl;refine Vz (N:=59) (B:=(aa.at w).gM []) func75 aRB k_ h6 (aC5 h2) h4 h3 rfl λa bM=>?_;have g0:∀ B:aa,ag prog B 59 fC0 (jL 0 (eU 0 [fJ ps,u5 vs])) (jC 0 [fJ ps,u5 vs]) 2 ⟨.normal,[(0,sl 0 ps.length),(1,sl 1 vs.length)],[(0,.view (aN ps)),(1,.view (aL vs))],2⟩:=λB=>aC [];have g1:∀ B:aa,ag prog B 59 fC1 [(0,sl 0 ps.length),(1,sl 1 vs.length)] [(0,.view (aN ps)),(1,.view (aL vs))] 2 ⟨.normal,[(5,.slice none 0 0),(0,sl 0 ps.length),(1,sl 1 vs.length)],[(0,.view (aN ps)),(1,.view (aL vs))],2⟩:=λB=>aC []
 have g2:∀ B:aa,ag prog B 59 fC2 [(5,.slice none 0 0),(0,sl 0 ps.length),(1,sl 1 vs.length)] [(0,.view (aN ps)),(1,.view (aL vs))] 2
   ⟨.normal,[(14,vI 0),(12,sl 0 ps.length),(13,vI ps.length),(0,sl 0 ps.length),(1,sl 1 vs.length),(5,.slice none 0 0)],[(0,.view (aN ps)),(1,.view (aL vs))],2⟩:=λB=>aC []
 refine lM (lD (g0 _) bM λa1 w1 s1=>?_);refine lM (lD (g1 _) s1 λa2 w2 s2=>?_);refine lM (lM (lD (g2 _) s2 λa3 w3 s3=>?_));refine JM ?_;have i0:QC (aa.at w) ps vs 0 a3 w3:=⟨[],[],.nil,(s3.nil 5 rfl 63 2).Iy pD [(0,0),(1,1),(2,2)] k_ rfl (W3 n_ _) k_ k_ k_ k_ k_⟩;refine Vy ps.length (QC (aa.at w) ps vs) i0 (λi hi a' w' h' K hK=>aRC pD hi bX aP hm h63 gK h' K _ hK) λa' w' h'=>?_;obtain⟨ks,cells,hF,hS⟩:=h';refine lD (r:=⟨.exit 0,[(5,sl 2 (e9 ps vs ps.length).length)],[(2,.row cells 63 2)],3⟩) (aC [.lt 15 ps.length ps.length false s_]) hS λa4 w4 s4=>?_;show Code.wpIn _ _ _ _ _ _ _;refine lM (lD (r:=⟨.normal,[(4,sl 2 (e9 ps vs ps.length).length)],[(2,.row cells 63 2)],3⟩) (aC []) s4 λa5 w5 s5=>?_);refine JN ?_;refine(VA s5 rfl (v:=sl 2 (e9 ps vs ps.length).length) k_ λaw bZ v' bj yi hc=>⟨v',rfl,?_,?_,bj.base.1⟩).1
 ·rw[show(e9 ps vs ps.length).length=((e9 ps vs ps.length).map oI).length by rw[eO]]at hc;exact(hF.out bj (yi 2 _ rfl) hc).1
 ·rw[show(e9 ps vs ps.length).length=((e9 ps vs ps.length).map oI).length by rw[eO]]at hc;intro b hb;have:=(hF.out bj (yi 2 _ rfl) hc).2 b hb;exact OS this
end
section
open V3 (dot ao bC smul)
section
variable{Bs:aa}{g:FuncId}{ps:List RP}{b:RP->Bool}
def Ay(g:FuncId):Value:=.func (.func g) #[] #[]
def Az(g:FuncId)(n i:Nat):aR:=[(8,vI i),(6,sl 0 n),(7,vI n),(0,sl 0 n),(1,Ay g)]
def ue(ps:List RP):aH:=[(0,.view (dc ps))]
noncomputable def igS{i:Nat}{p:RP}{b:Bool}(hc:gz prog g=true)(hi:i<ps.length)(hp:ps[i]?=some p)(h:aE prog g [p.v] (.bool b))(more:bI prog Bs 19):bI prog Bs 19:=
 .lt 9 i ps.length true (aB hi)::.cT f111 14 0 ps.length i 40 hi k_::.ld f111 15 35 0 (i*40) (.view (dc ps)) p.v rfl (we hp) k_::
  .step 16 (av f111 16) [Ay g,p.v] [] (.bool b) [] (dL (l:=[.p p.v]) (x:=.tmp 11) (λw vs ct=>by
   cases ct with
   |cons h1 h2=>
    cases h2;cases h1;exact h w) (.p rfl .nil) k_ hc rfl)::more
theorem aRE{i:Nat}{p:RP}(hc:gz prog g=true)(hi:i<ps.length)(hp:ps[i]?=some p)(h:aE prog g [p.v] (.bool false))(h63:ps.length<9223372036854775807):
  ag prog Bs 19 (aF (af f111 0)) (Az g ps.length i) (ue ps) 1 ⟨.normal,Az g ps.length (i+1),ue ps,1⟩:=
 aC (igS hc hi hp h [.sum 18 i 1 (i+1) rfl o_])
theorem aRF{i:Nat}{p:RP}(hc:gz prog g=true)(hi:i<ps.length)(hp:ps[i]?=some p)(h:aE prog g [p.v] (.bool true)):
  ag prog Bs 19 (aF (af f111 0)) (Az g ps.length i) (ue ps) 1 ⟨.ret,[(4,vI i)],ue ps,1⟩:=
 aC (igS hc hi hp h [])
theorem aRG:ag prog Bs 19 (aF (af f111 0)) (Az g ps.length ps.length) (ue ps) 1 ⟨.exit 0,[],ue ps,1⟩:=
 aC [.lt 9 ps.length ps.length false s_]
theorem aEZ(ps:List RP):(aT.r ps.length (dc ps)).ok=true:=gV iO ps
theorem aE0(g:FuncId):(aT.p (Ay g)).ok=true:=rfl
theorem aRH{ps:List RP}(h:ps.length=0):dc ps=[]:=by rw[lK h];rfl
theorem aRI(hc:gz prog g=true)(h63:ps.length<9223372036854775807)(h:∀ p∈ps,aE prog g [p.v] (.bool (b p))):cI prog 111 [.r ps.length (dc ps),.p (Ay g)] (.int .i64 (xO b ps 0)):=by
 have az:([aT.r ps.length (dc ps),.p (Ay g)].all aT.ok)=true:=by simp only[dM,fH,aEZ,aE0,wh]
 have tS:∀(B:aa) e,e<=ps.length->(∀ j y,j<e->ps[j]?=some y->b y=false)->∀ i,i<e->ag prog B 19 (aF (af f111 0)) (Az g ps.length i) (ue ps) 1 ⟨.normal,Az g ps.length (i+1),ue ps,1⟩:=λB e he hb i hi=>by
  have ak:i<ps.length:=by omega
  have hp:ps[i]?=some ps[i]:=bd ak;have hh:=h ps[i] (dz ak);rw[hb i ps[i] hi hp]at hh;exact aRE hc ak hp hh h63
 rcases FY b ps with hn|⟨e,x,h1,h2,h3⟩
 ·rw[Ps 0 hn];have lo:∀ B:aa,ag prog B 19 (.block 0 (af f111 0)) (Az g ps.length 0) (ue ps) 1 ⟨.normal,[],ue ps,1⟩:=λB=>
   bT (id:=0) (cd ps.length (λi=>Az g ps.length i) (λ_=>ue ps) (λi k _=>Iff.rfl) (tS B ps.length (bt _) λj y _ hy=>hn y (cJ hy)) aRG n_)
  exact ee func111 az 19 (λw=>[.code 0 _ _ _ _ _ (lo _)])
 ·have ak:=(eh.1 h1).1;have hh:=h x (cJ h1);rw[h2]at hh;rw[Pt 0 h1 h2 h3,kh];have lo:∀ B:aa,ag prog B 19 (.block 0 (af f111 0)) (Az g ps.length 0) (ue ps) 1 ⟨.ret,[(4,vI e)],ue ps,1⟩:=λB=>
   bT (id:=0) (cd e (λi=>Az g ps.length i) (λ_=>ue ps) (λi k _=>Iff.rfl) (tS B e o_ h3) (aRF hc ak h1 hh) n_)
  exact ee func111 az 19 (λw=>[.code 0 _ _ _ _ _ (lo _)])
theorem aRJ(hc:gz prog g=true)(h63:ps.length<9223372036854775807)(h:∀ p∈ps,aE prog g [p.v] (.bool (b p))):cI prog 70 [.r ps.length (dc ps),.p (Ay g)] (.bool (ps.any b)):=by
 have az:([aT.r ps.length (dc ps),.p (Ay g)].all aT.ok)=true:=by simp only[dM,fH,aEZ,aE0,wh]
 rw[<-aCA];exact ee func70 az 9 (λw=>[.step 7 (av f70 7) [.func (.func 111) #[] #[],sl 0 ps.length,Ay g] [(0,some (.view (dc ps)))] (.int .i64 (xO b ps 0)) []
  (dL (aRI hc h63 h) (.w (x:=.view (dc ps)) rfl (gV iO ps) aRH (.p rfl .nil)) (x:=.func 111) k_ k_ rfl)])
end
theorem aRK{r:RP}{b:Bool}(h:aE prog 39 [r.v] (.bool b)):aE prog 71 [r.v] (.bool (!b)):=aM func71 (λ_=>[h.at 4])
section
variable{F:Type}[OF F]
open OF
def LS(s:eW F)(a b:F):eW F:=
 if OF.ay a=0 then s
 else if OF.ay a>0 then(match s.hi with|some h=>if OF.ay (b*a⁻¹-h)<0 then⟨s.lo,some (b*a⁻¹)⟩else s|none=>⟨s.lo,some (b*a⁻¹)⟩)
 else(match s.lo with|some l=>if OF.ay (b*a⁻¹-l)>0 then⟨some (b*a⁻¹),s.hi⟩else s|none=>⟨some (b*a⁻¹),s.hi⟩)
def QD(s:eW F):Bool:=match s.lo,s.hi with
 |some l,some h=>decide (OF.ay (l-h)<0)
 |_,_=>true
def QE(s:eW F)(a b:F):Bool:=if OF.ay a=0 then decide (OF.ay b>=0)else QD (LS s a b)
theorem aE1{x:F}:OF.ay x>0↔OF.ay x=1:=by rcases OF.iW x with h|h|h<;>rw[h]<;>decide
theorem aE2{x:F}:OF.ay x<0↔OF.ay x=-1:=by rcases OF.iW x with h|h|h<;>rw[h]<;>decide
theorem aRL{x:F}:OF.ay x>=0↔OF.ay x≠-1:=by rcases OF.iW x with h|h|h<;>rw[h]<;>decide
theorem QF{x y:F}:OF.ay (x-y)<0↔x<y:=by rw[aE2,OF.Fs,OF.lt_def];omega
theorem aE3{x y:F}:OF.ay (x-y)>0↔y<x:=by rw[aE1,OF.lt_def]
theorem QG{x:F}:OF.ay x>0↔0<x:=by rw[aE1,OF.il]
theorem QH{x:F}:OF.ay x>=0↔0<=x:=by rw[aRL,OF.KB]
theorem aRM(s:eW F)(a b:F):BS s a b=if QE s a b then some (LS s a b)else none:=by
 unfold BS QE LS;by_cases ha:OF.ay a=0
 ·rw[ax ha,ax ha,ax ha];by_cases hb:0<=b
  ·rw[ax hb,aB (QH.2 hb)];rfl
  ·rw[au hb,aJ (λh=>hb (QH.1 h))];rfl
 ·rw[au ha,au ha,au ha];obtain⟨lo,hi⟩:=s;dsimp only;generalize b*a⁻¹=t;have fin:∀ s':eW F,(match s'.lo,s'.hi with|some l,some h=>if l<h then some s' else none|_,_=>some s')=if QD s'=true then some s' else none:=by
   rintro⟨l,h⟩
   unfold QD;cases l with
   |none=>rfl
   |some l=>
    cases h with
    |none=>rfl
    |some h=>
     dsimp only;by_cases ak:l<h
     ·exact(ax ak).trans (ax (aB (QF.2 ak))).symm
     ·exact(au ak).trans (au (λh=>ak (QF.1 (kW h)))).symm
  by_cases hp:0<a
  ·rw[ax hp,ax (QG.2 hp)];cases hi with
   |none=>exact fin ⟨lo,some t⟩
   |some h=>
    dsimp only;by_cases ak:t<h
    ·simp only[ax ak,ax (QF.2 ak)];exact fin ⟨lo,some t⟩
    ·simp only[au ak,au (λe=>ak (QF.1 e))];exact fin ⟨lo,some h⟩
  ·rw[au hp,au (λe=>hp (QG.1 e))];cases lo with
   |none=>exact fin ⟨some t,hi⟩
   |some l=>
    dsimp only;by_cases ak:l<t
    ·simp only[ax ak,ax (aE3.2 ak)];exact fin ⟨some t,hi⟩
    ·simp only[au ak,au (λe=>ak (aE3.1 e))];exact fin ⟨some l,hi⟩
end
theorem aRN(s:eW K)(a b:K):BS s a b=if sR s a b then some (rm s a b)else none:=by
 have h1:∀ s:eW K,aCE s=QD s:=λs=>by obtain⟨lo,hi⟩:=s;cases lo<;>cases hi<;>rfl
 have h2:rm s a b=LS s a b:=by unfold rm LS;obtain⟨lo,hi⟩:=s;cases lo<;>cases hi<;>rfl
 have h3:sR s a b=QE s a b:=by unfold sR QE;rw[h2,h1]
 rw[h2,h3];exact aRM s a b
theorem aE4(b d:V3 K):∀(l:List (HS K)) (s:eW K),FT s (l.map λp=>(dot p.n d,p.d-dot p.n b))=if wk s b d l then some (oH s b d l)else none
 |[],s=>rfl
 |p::l,s=>by
  show(BS s (dot p.n d) (p.d-dot p.n b)).bind _=_;rw[aRN];unfold wk oH;by_cases h:sR s (dot p.n d) (p.d-dot p.n b)=true
  ·rw[ax h,h,lP];exact aE4 b d l _
  ·rw[au h];have:sR s (dot p.n d) (p.d-dot p.n b)=false:=by simpa using h
   rw[this,yZ];rfl
theorem aE5(p q:HS K):wj p q=mG p q:=by unfold wj mG eg;rw[show kI 1*(dot (ao p.n q.n) (ao p.n q.n))⁻¹=(dot (ao p.n q.n) (ao p.n q.n))⁻¹ from CR.one_mul _]
theorem aE6(p q:HS K):eg p q≠0->dot (eg p q) (eg p q)≠0:=λh=>V3.zF h
theorem aRO(ps:List (HS K))(p q:HS K):F0 ps p q=zM ps p q:=by
 unfold F0 zM;have hd:eg p q=ao p.n q.n:=rfl;rw[aE5];dsimp only;by_cases h0:eg p q=0
 ·rw[ax h0,ax ((Pb (ao p.n q.n)).2 h0)]
 ·rw[au h0,au (λh=>h0 ((Pb (ao p.n q.n)).1 h))];rw[aE4];unfold Lf;rw[aE5,hd];by_cases hs:wk ⟨none,none⟩ (mG p q) (ao p.n q.n) ps=true
  ·rw[ax hs,ax hs];generalize oH ⟨none,none⟩ (mG p q) (ao p.n q.n) ps=s;obtain⟨lo,hi⟩:=s;cases lo<;>cases hi<;>rfl
  ·rw[au hs,au hs]
theorem W5{ps:List (HS K)}{p q:HS K}{v:V3 K}:v∈ry ps p q↔∃ u w,zM ps p q=some (u,w)/\(v=u\/v=w):=by
 unfold ry;rw[aRO];cases h:zM ps p q with
 |none=>simp
 |some uw=>
  obtain⟨u,w⟩:=uw;simp only[ch,iu,iv];exact⟨λhv=>⟨u,w,rfl,hv⟩,λ⟨u',w',e,hv⟩=>by injection e with e;injection e with e1 e2;subst e1;subst e2;exact hv⟩
theorem aRP{ps:List (HS K)}{v:V3 K}:v∈nt ps ps.length↔∃(i j:Nat) (p q:HS K),j<i/\ps[i]?=some p/\ps[j]?=some q/\v∈ry ps p q:=by
 unfold nt;rw[zR];constructor
 ·rintro⟨i,hi,hv⟩
  have ak:=kA.1 hi;have hp:ps[i]?=some ps[i]:=bd ak;rw[PE hp]at hv;unfold lB at hv;obtain⟨q,hq,hv⟩:=zR.1 hv;obtain⟨j,hj,rfl⟩:=kH hq;rw[ji]at hj;refine⟨i,j,_,_,by omega,hp,?_,hv⟩;rw[QI];exact bd o_
 ·rintro⟨i,j,p,q,pr,hp,hq,hv⟩
  have ak:=(eh.1 hp).1;refine⟨i,kA.2 ak,?_⟩;rw[PE hp];refine zR.2 ⟨q,?_,hv⟩;exact cJ (i:=j) (by rw[ur,ax pr];exact hq)
theorem aRQ{ps:List (HS K)}(hc:Cl ps)(hp:gu ps)(hf:∀ v:V3 K,∃ x,fG ps x/\x≠v)(v:V3 K):v∈nt ps ps.length↔jD ps v:=by
 rw[aRP];constructor
 ·rintro⟨i,j,p,q,_,h1,h2,hv⟩
  obtain⟨u,w,he,hv⟩:=W5.1 hv;have:=aLY (cJ h1) (cJ h2) he;rcases hv with rfl|rfl
  ·exact this.1
  ·exact this.2
 ·intro hv;obtain⟨x,hx,aV⟩:=hf v;obtain⟨p,iz,q,uL,hd,h1,h2⟩:=aL0 hc hp hv hx aV;obtain⟨i,hi,rfl⟩:=kH iz;obtain⟨j,hj,rfl⟩:=kH uL;rcases tf i j with h|h|h
  ·exact⟨j,i,_,_,h,bd hj,bd hi,W5.2 h2⟩
  ·subst h;exfalso;apply hd;exact V3.KU _
  ·exact⟨i,j,_,_,h,bd hi,bd hj,W5.2 h1⟩
def rJ:Value:=.agg #[.slice none 0 0,.slice none 0 0,.slice none 0 0]
def gL(n:Int):Value:=.int .i64 n
def ev(ps:List (HS K)):List (Int×List Int):=(e9 ps (bf ps) ps.length).map oI
structure pf(ps:List (HS K))(m:Nat):Prop where
 len:ps.length<=20
 sz:∀ p∈ps,bo m p
 ne:∀ p∈ps,p.n≠0
 bound:1000000000*(m+10)<=aA
theorem Gv(ps:List (HS K))(h:ps.length<=20):(bf ps).length<=800:=by
 have h1:(bf ps).length<=(nt ps ps.length).length:=by
  unfold bf;rw[<-aEy];have:∀ l:List (V3 K),(dd l).length<=l.length:=λl=>by have:=(Qt l l.length).2;unfold jh at this;rwa[lY]at this
  exact dh (this _) (vn (LN _).length_eq)
 have h2:=PF ps.length (bt _) (ps:=ps);have h3:ps.length*(2*ps.length)<=20*40:=y8 h o_;omega
theorem I2{ps:List (HS K)}{m:Nat}(bX:∀ p∈ps,bo m p):∀ v∈bf ps,aD (10000*(m+10)) v:=λv hv=>by unfold bf at hv;rw[U5]at hv;exact aEz bX aE6 ps.length v hv
theorem yj{m n:Nat}(hm:1000000000*(m+10)<=aA)(hn:n<=800):100*(m+n*(10000*(m+10)+1))+10000<=aA/\10000000*(m+10)<=aA/\100*(m+10000*(m+10))+1000<=aA/\m<=aA/\100*m+1000<=aA:=by
 have h0:m<=1089:=by
  rcases eL m 1090 with h|h
  ·exact Nat.le_of_lt_succ h
  ·have h2:1000000000*(1090+10)<=1000000000*(m+10):=jz _ (LU h 10);exact absurd (dh h2 hm) d_
 clear hm;have q:10000*(m+10)+1<=10990001:=by omega
 obtain⟨x,hx⟩:∃ x,x=n*(10000*(m+10)+1):=⟨_,rfl⟩;have h1:x<=8792000800:=by rw[hx];exact y8 hn q
 rw[<-hx];clear hx;have h2:100*(m+x)+10000<=100*(1089+8792000800)+10000:=LU (jz _ (KL h0 h1)) _;have h6:m+10<=1099:=LU h0 10;have h3:10000000*(m+10)<=10000000*1099:=jz _ h6;have h4:100*(m+10000*(m+10))+1000<=100*(1089+10000*1099)+1000:=LU (jz _ (KL h0 (jz _ h6))) _;have h5:100*m+1000<=100*1089+1000:=LU (jz _ h0) _;exact⟨dh h2 (rN rfl),dh h3 (rN rfl),dh h4 (rN rfl),dh h0 (rN rfl),dh h5 (rN rfl)⟩
theorem aE7{it:TypeInfo}{z:Value}(h1:prog.info? 26=some it)(h2:it.zero=some z):∀ v∈z.cells.toList,flat v=true:=by have e:(prog.info? 26).bind (·.zero)=some rJ:=k_;rw[h1]at e;have e:it.zero=some rJ:=e;rw[h2]at e;injection e with e;subst e;intro v hv;have hv:v∈[.slice none 0 0,.slice none 0 0,.slice none 0 0]:=hv;simp at hv;subst hv;rfl
section
variable{ps:List (HS K)}{m:Nat}
theorem aRR(h:pf ps m):cI prog 70 [fJ ps,.p (Ay 71)] (.bool false):=by
 obtain⟨_,_,_,b4,_⟩:=yj (n:=0) h.bound o_;have hc:=aRJ (g:=71) (ps:=ps.map cG) (b:=λ_=>false) k_ (by rw[eO];have:=h.len;omega) (λr hr=>by obtain⟨p,hp,rfl⟩:=di.1 hr;have hv:=xM (h.sz p hp) b4;rw[aB (h.ne p hp)]at hv;exact aRK hv)
 rw[eO,show(ps.map cG).any (λ_=>false)=false by simp]at hc;exact hc
theorem Ee(ps:List (HS K)):([fJ ps].all aT.ok)=true:=by simp only[dM,fH,WT,wh]
noncomputable def W6{Bs:aa}{t:Bool}(h:pf ps m)(ht:rh ps=t)(more:bI prog Bs 33):bI prog Bs 33:=
 .step 7 (av f40 7) [.func (.func 70) #[] #[],sl 0 ps.length,Ay 71] [(0,some (.view (aN ps)))] (.bool false) []
  (dL (aRR h) (.w (x:=.view (aN ps)) rfl (cX ps) iF (.p rfl .nil)) (x:=.func 70) k_ k_ rfl)::
 .gt 12 ps.length 100 false (aJ (by have:=h.len;omega))::
 .step 16 (av f40 16) [.func (.func 72) #[] #[],sl 0 ps.length] [(0,some (.view (aN ps)))] (.bool t) []
  (dL (ht▸aME h.sz (yj (n:=0) h.bound o_).2.2.2.2 (by have:=h.len;omega)) (.w (x:=.view (aN ps)) rfl (cX ps) iF .nil) (x:=.func 72) k_ k_ rfl)::more
noncomputable def aE8{Bs:aa}{t:Bool}(h:pf ps m)(ht:rq ps (bf ps)=t)(more:bI prog Bs 33):bI prog Bs 33:=
 .step 20 (av f40 20) [.func (.func 73) #[] #[],sl 0 ps.length] [(2,none),(0,some (.view (aN ps)))] (sl 2 (bf ps).length) [(2,.row (aL (bf ps)) 33 30)]
  (qo (aRa h.sz (yj (n:=0) h.bound o_).2.1 (by have:=h.len;omega) aE6) (.w (x:=.view (aN ps)) rfl (cX ps) iF .nil) (x:=.func 73) k_ k_ (dF _) 2)::
 .step 23 (av f40 23) [.func (.func 74) #[] #[],sl 0 ps.length,sl 2 (bf ps).length] [(0,some (.view (aN ps))),(2,some (.row (aL (bf ps)) 33 30))] (.bool t) []
  (dL (ht▸aMY (λp hp=>⟨h.sz p hp,h.ne p hp⟩) (I2 h.sz) (yj h.bound (Gv ps h.len)).1 (by have:=Gv ps h.len;omega) (by have:=h.len;omega))
   (.w (x:=.view (aN ps)) rfl (cX ps) iF (.w (x:=.row (aL (bf ps)) 33 30) rfl (dF _) xP .nil)) (x:=.func 74) k_ k_ rfl)::more
theorem aRS(h:pf ps m)(hc:rh ps=false):cI prog 40 [fJ ps] (.tuple #[rJ,gL 13]):=
 ee func40 (Ee ps) 33 (λ_=>W6 h hc [])
theorem aE9(h:pf ps m)(hc:rh ps=true)(hi:rq ps (bf ps)=false):cI prog 40 [fJ ps] (.tuple #[rJ,gL 12]):=
 ee func40 (Ee ps) 33 (λ_=>W6 h hc (aE8 h hi []))
theorem aFa(hc:rh ps=true):0<ps.length:=by
 cases ps with
 |nil=>exact absurd hc d_
 |cons p l=>simp
theorem aFb(h:pf ps m)(hc:rh ps=true)(hi:rq ps (bf ps)=true):
  tW prog 40 [fJ ps] 35 40 ps.length (aN ps) 33 30 (bf ps).length (aL (bf ps)) (eK (ev ps)) [gL 0]:=by
 have hf:=aRD (ps:=ps) (vs:=bf ps) (λp hp=>⟨h.sz p hp,h.ne p hp⟩) (I2 h.sz) (yj (n:=0) h.bound o_).2.2.1 (by have:=h.len;omega) (by have:=Gv ps h.len;omega);have iR:=aED (aFa hc) (by have:=h.len;omega);refine PX (k1:=3) (k2:=2) (k3:=4) mixed func40 (Ee ps) 100 (N:=33) k_ (λw=>W6 h hc (aE8 h hi [
  .step 27 (av f40 27) [.func (.func 41) #[] #[],sl 0 ps.length] [(3,none),(0,some (.view (aN ps)))] (sl 3 ps.length) [(3,.row (aN ps) 35 40)]
   (qo iR (.w (x:=.view (aN ps)) rfl (cX ps) iF .nil) (x:=.func 41) k_ k_ (cX ps) 3),
  .step 31 (av f40 31) [.func (.func 75) #[] #[],sl 0 ps.length,sl 2 (bf ps).length] [(4,none),(0,some (.view (aN ps))),(2,some (.row (aL (bf ps)) 33 30))] (.pointer (some ⟨4,0,some 9⟩)) [(4,.fact ((eK (ev ps)).kL w.heap.size))]
   (aNG (B:=aa.at w) (S:=w.heap.size) hf (.w (x:=.view (aN ps)) rfl (cX ps) iF (.w (x:=.row (aL (bf ps)) 33 30) rfl (dF _) xP .nil)) (x:=.func 75) k_ k_ rfl (λw' hb=>Below.size hb) 4),
  .step 32 (av f40 32) [sl 3 ps.length,sl 2 (bf ps).length,.pointer (some ⟨4,0,some 9⟩)] [] (.agg #[sl 3 ps.length,sl 2 (bf ps).length,.pointer (some ⟨4,0,some 9⟩)]) [] (PI (t:=26) (idx:=[0,1,2]) k_ (λit z h1 h2=>aE7 h1 h2) k_)])) (λw=>?_) d_ (cX ps) (Au ps) (dF _) (sS _) k_
 kernel_rfl
end
theorem LV{P:Program}{f:FuncId}{fn:Func}{args:aj}{v:Value}{w:World}(gF:P.follows .mixedOrders=true)(hf:P.funcs[f]?=some fn)(n:Nat){N:Nat}(hN:N=args.length+(fn.ntmps-args.length))(rs:bI P (aa.at w) N)
  (h:nN (fW (P:=P) fn n args [] 0 rs) []=nO (fW fn n args [] 0 rs) v []) (dj:args.all flat=true) (hv:flat v=true):Calls P f args.toArray w λe w'=>e=.returned v/\Below w.heap.size w w':=
 rY gF hf hN n h (kx λv hv=>bh.1 dj v hv) (qP w) n_ (λ_ _=>rfl) λaw bZ v' w' _ hc hm _=>⟨by rw[hc.eY hv],hm.base⟩
theorem QJ{P:Program}{f:FuncId}{fn:Func}{l:List aT}{vs:aj}{v:Value}{w:World}(gF:P.follows .mixedOrders=true)(hf:P.funcs[f]?=some fn)(ct:sK w l vs)(hl:(l.all aT.ok)=true)(n:Nat){N:Nat}(hN:N=(eU 0 l).length+(fn.ntmps-(eU 0 l).length))(rs:bI P (aa.at w) N)
  (h:nN (fW (P:=P) fn n (eU 0 l) (jC 0 l) (jR 0 l) rs) []=nO (fW fn n (eU 0 l) (jC 0 l) (jR 0 l) rs) v []) (hv:flat v=true):Calls P f vs.toArray w λe w'=>e=.returned v/\Below w.heap.size w w':=by
 obtain⟨ι,c,h1,h2,h3,h4,h5,h6,h7⟩:=vT ct (bh.1 hl) 0 _ _ (qP w) n_ (λ_ _=>rfl);exact rY gF hf hN n h h6 h2 h4 h3 λaw bZ v' w' hle hc hm _=>⟨by rw[hc.eY hv],hm.base⟩
theorem aRT{w:World}{u u':Value}{i j:Int}{l l':List Int}(hu:l9 u=true)(jX:l9 u'=true)(h:cO w u l.length (eH l))(h':cO w u' l'.length (eH l'))(h63:l.length<9223372036854775807):
  Calls prog 63 #[.agg #[iV i,u],.agg #[iV j,u']] w λe w'=>e=.returned (.bool (decide ((i,l)=(j,l'))))/\Below w.heap.size w w':=by
 have fl:∀{i:Int} {u:Value},l9 u=true->flat (.agg #[iV i,u])=true:=λ{i u} hu=>by have h0:od u=true:=Mv hu;show([iV i,u].all od)=true;rw[dM,dM,h0];rfl
 have fu:∀{u:Value},l9 u=true->flat u=true:=λhu=>Mu (Mv hu);have aV3:∀{u:Value} {n:Nat} {xs:aj},cO w u n xs->mf u=false:=λh=>by rcases h with ⟨e,_⟩|⟨_,_,_,e,_⟩<;>rw[e]<;>rfl
 have dj:([.agg #[iV i,u],.agg #[iV j,u']].all flat)=true:=by rw[dM,dM,fl hu,fl jX];rfl
 have he:=aNd (a:=l) (b:=l') h63;by_cases kN:i=j
 ·subst kN;have e0:(Value.bool (i==i))=.bool true:=by simp
  have e1:decide ((i,l)=(i,l'))=decide (l=l'):=by simp
  rw[e1];generalize decide (l=l')=t at *;rcases h with ⟨rfl,hn,hx⟩|⟨b,o,c,rfl,hr⟩<;>rcases h' with ⟨rfl,mw,sn⟩|⟨b',o',c',rfl,tn⟩
  ·exact LV mixed func63 100 (N:=17) k_ [.rw 9 _ _ e0,.step 15 (av f63 15) [.func (.func 64) #[] #[],.slice none 0 0,.slice none 0 0] [] (.bool t) [] (dL he (.e rfl (λ_ _=>.inl ⟨rfl,hn,hx⟩) (.e rfl (λ_ _=>.inl ⟨rfl,mw,sn⟩) .nil)) (x:=.func 64) k_ k_ rfl)] k_ dj rfl
  ·exact LV mixed func63 100 (N:=17) k_ [.rw 9 _ _ e0,.step 15 (av f63 15) [.func (.func 64) #[] #[],.slice none 0 0,.slice (some ⟨b',o',none⟩) l'.length c'] [] (.bool t) []
    (dL he (.e rfl (λ_ _=>.inl ⟨rfl,hn,hx⟩) (.e rfl (λ_ hb=>cO.gM (.inr ⟨b',o',c',rfl,tn⟩) hb) .nil)) (x:=.func 64) k_ k_ rfl)] k_ dj rfl
  ·exact LV mixed func63 100 (N:=17) k_ [.rw 9 _ _ e0,.step 15 (av f63 15) [.func (.func 64) #[] #[],.slice (some ⟨b,o,none⟩) l.length c,.slice none 0 0] [] (.bool t) []
    (dL he (.e rfl (λ_ hb=>cO.gM (.inr ⟨b,o,c,rfl,hr⟩) hb) (.e rfl (λ_ _=>.inl ⟨rfl,mw,sn⟩) .nil)) (x:=.func 64) k_ k_ rfl)] k_ dj rfl
  ·exact LV mixed func63 100 (N:=17) k_ [.rw 9 _ _ e0,.step 15 (av f63 15) [.func (.func 64) #[] #[],.slice (some ⟨b,o,none⟩) l.length c,.slice (some ⟨b',o',none⟩) l'.length c'] [] (.bool t) []
    (dL he (.e rfl (λ_ hb=>cO.gM (.inr ⟨b,o,c,rfl,hr⟩) hb) (.e rfl (λ_ hb=>cO.gM (.inr ⟨b',o',c',rfl,tn⟩) hb) .nil)) (x:=.func 64) k_ k_ rfl)] k_ dj rfl
 ·have e0:(Value.bool (i==j))=.bool false:=by simp[kN]
  have e1:decide ((i,l)=(j,l'))=false:=by simp[kN]
  rw[e1];rcases h with ⟨rfl,hn,hx⟩|⟨b,o,c,rfl,hr⟩<;>rcases h' with ⟨rfl,mw,sn⟩|⟨b',o',c',rfl,tn⟩<;>exact LV mixed func63 100 (N:=17) k_ [.rw 9 _ _ e0] k_ dj rfl
theorem Ef{w:World}:∀{fs:List (Int×List Int)} {cs:aj},kG w fs cs->∀{i:Nat} {f:Int×List Int},fs[i]?=some f->∃ u,cs[i*2]?=some (iV f.1)/\cs[i*2+1]?=some u/\cO w u f.2.length (eH f.2)/\flat u=true
 |_,_,.nil,i,f,h=>by simp at h
 |_,_,.cons (u:=u) h1 h2 h3,0,f,h=>by simp at h;subst h;exact⟨u,rfl,rfl,h1,h2⟩
 |_,_,.cons h1 h2 h3,i+1,f,h=>by
  obtain⟨u,q1,q2,q3,q4⟩:=Ef h3 (i:=i) (by simpa using h);refine⟨u,?_,?_,q3,q4⟩
  ·rw[show(i+1)*2=i*2+2 by omega];exact q1
  ·rw[show(i+1)*2+1=i*2+1+2 by omega];exact q2
theorem aFc{w:World}{u:Value}{n:Nat}{xs:aj}(h:cO w u n xs):l9 u=true:=by rcases h with ⟨e,_⟩|⟨_,_,_,e,_⟩<;>rw[e]<;>rfl
theorem aRU{cs:aj}{m:Nat}{a b:Value}(ha:cs[m]?=some a)(hb:cs[m+1]?=some b):(cs.drop m).take 2=[a,b]/\m+2<=cs.length:=by obtain⟨qJ,ha⟩:=eh.1 ha;obtain⟨hl,hb⟩:=eh.1 hb;refine⟨?_,hl⟩;rw[Pq qJ,ha,Pq hl,hb];rfl
theorem aFd{cs:aj}{i:Nat}{a b:Value}(ha:cs[i*2]?=some a)(hb:cs[i*2+1]?=some b):dw prog 63 cs (i*2)=some (.agg #[a,b]):=by
 have e:dw prog 63 cs (i*2)=if Nat.ble (i*2+2) cs.length then some (.agg ((cs.drop (i*2)).take 2).toArray)else none:=k_
 obtain⟨h1,h2⟩:=aRU ha hb;rw[e,ax (MO h2),h1]
section
variable{w:World}{fs fs':List (Int×List Int)}{cs bA:aj}
def LW:Value:=.func (.func 63) #[] #[]
def Eg(n n' i:Nat):aR:=[(17,vI i),(15,sl 0 n),(16,vI n),(1,sl 1 n'),(2,LW)]
def uf(cs bA:aj):aH:=[(0,.view cs),(1,.view bA)]
theorem aRV(h:kG w fs cs)(h':kG w fs' bA):∀ x∈uf cs bA,eA 2 x.2:=λx hx=>by
 simp only[uf,ch,iu,iv]at hx;rcases hx with rfl|rfl
 ·exact λv hv=>gQ (h.flat v hv)
 ·exact λv hv=>gQ (h'.flat v hv)
noncomputable def efS{i n n':Nat}{f f':Int×List Int}{u u':Value}{t:Bool}(hi:i<n)(iB:i<n')(hu:cO w u f.2.length (eH f.2))(jX:cO w u' f'.2.length (eH f'.2))(c1:cs[i*2]?=some (iV f.1))(c2:cs[i*2+1]?=some u)(Bu:bA[i*2]?=some (iV f'.1))(Bt:bA[i*2+1]?=some u')(h63:f.2.length<9223372036854775807)
  (ht:decide (f=f')=t) (more:bI prog (aa.at w) 32):bI prog (aa.at w) 32:=
 .lt 18 i n true (aB hi)::.cT f66 20 0 n i 2 hi k_::.ld f66 21 63 0 (i*2) (.view cs) (.agg #[iV f.1,u]) rfl (aFd c1 c2) k_::.cT f66 24 1 n' i 2 iB k_::.ld f66 25 63 1 (i*2) (.view bA) (.agg #[iV f'.1,u']) rfl (aFd Bu Bt) k_::
  .call 29 63 [.agg #[iV f.1,u],.agg #[iV f'.1,u']] (.bool t) (λw' hb=>ht▸aRT (aFc hu) (aFc jX) (hu.gM hb) (jX.gM hb) h63)::more
theorem aFe{i n n':Nat}{f f':Int×List Int}{u u':Value}(h:kG w fs cs)(h':kG w fs' bA)(hi:i<n)(iB:i<n')(hu:cO w u f.2.length (eH f.2))(jX:cO w u' f'.2.length (eH f'.2))(c1:cs[i*2]?=some (iV f.1))(c2:cs[i*2+1]?=some u)(Bu:bA[i*2]?=some (iV f'.1))(Bt:bA[i*2+1]?=some u')
  (h63:f.2.length<9223372036854775807) (aRW:n<9223372036854775807) (ht:f=f'):ag prog (aa.at w) 32 (aF (af f66 0)) (Eg n n' i) (uf cs bA) 2 ⟨.normal,Eg n n' (i+1),uf cs bA,2⟩:=by
 have hl:=aRV h h';have wZ:decide (f=f')=true:=aB ht;have k1:=hu;have k2:=jX;rcases k1 with ⟨rfl,_⟩|⟨b,o,c,rfl,_⟩<;>rcases k2 with ⟨rfl,_⟩|⟨b',o',c',rfl,_⟩<;>
  exact mV mixed 100 (ft:=4) (efS hi iB hu jX c1 c2 Bu Bt h63 wZ [.sum 31 i 1 (i+1) rfl o_]) k_ rfl k_ hl k_
theorem aRX{i n n':Nat}{f f':Int×List Int}{u u':Value}(hi:i<n)(iB:i<n')(hu:cO w u f.2.length (eH f.2))(jX:cO w u' f'.2.length (eH f'.2))(c1:cs[i*2]?=some (iV f.1))(c2:cs[i*2+1]?=some u)(Bu:bA[i*2]?=some (iV f'.1))(Bt:bA[i*2+1]?=some u')
  (h63:f.2.length<9223372036854775807) (ht:f≠f'):ag prog (aa.at w) 32 (aF (af f66 0)) (Eg n n' i) (uf cs bA) 2 ⟨.ret,[(6,.bool false)],uf cs bA,4⟩:=by
 have wZ:decide (f=f')=false:=aJ ht;have k1:=hu;have k2:=jX;rcases k1 with ⟨rfl,_⟩|⟨b,o,c,rfl,_⟩<;>rcases k2 with ⟨rfl,_⟩|⟨b',o',c',rfl,_⟩<;>
  exact aC (efS hi iB hu jX c1 c2 Bu Bt h63 wZ [])
theorem aRY{n n':Nat}{B:aa}:ag prog B 32 (aF (af f66 0)) (Eg n n' n) (uf cs bA) 2 ⟨.exit 0,[],uf cs bA,2⟩:=
 aC [.lt 18 n n false s_]
theorem aRZ(h63:fs.length<9223372036854775807)(pP:∀ f∈fs,f.2.length<9223372036854775807):cI prog 66 [.o (eK fs),.o (eK fs'),.p LW] (.bool (decide (fs=fs'))):=by
 intro w vs ct;cases ct with
 |@cons _ v1 _ _ h1 ct=>
 cases ct with
 |@cons _ v2 _ _ h2 ct=>
 obtain⟨⟨cs,r1,f1⟩,_⟩:=h1;obtain⟨⟨bA,r2,f2⟩,_⟩:=h2;have Ca:sK w [.r fs.length cs,.r fs'.length bA,.p LW] (v1::v2::_):=.cons r1 (.cons r2 ct);have az:([aT.r fs.length cs,.r fs'.length bA,.p LW].all aT.ok)=true:=by rw[dM,dM,dM];rw[show(aT.r fs.length cs).ok=true from bh.2 f1.flat,show(aT.r fs'.length bA).ok=true from bh.2 f2.flat];rfl
 by_cases hl:fs.length=fs'.length
 ·have aV:(Value.bool (!((fs.length:Int)==(fs'.length:Int))))=.bool false:=by rw[hl];simp
  rcases DJ fs fs' hl with h|⟨e,x,y,q1,q2,q3,q4⟩
  ·rw[aB h];subst h;have lo:ag prog (aa.at w) 32 (.block 0 (af f66 0)) (Eg fs.length fs.length 0) (uf cs bA) 2 ⟨.normal,[],uf cs bA,2⟩:=
    bT (id:=0) (cd fs.length (λi=>Eg fs.length fs.length i) (λ_=>uf cs bA) (λi k _=>Iff.rfl) (λi hi=>by have hx:fs[i]?=some fs[i]:=bd hi;obtain⟨u,a1,a2,a3,_⟩:=Ef f1 hx;obtain⟨u',b1,b2,b3,_⟩:=Ef f2 hx;exact aFe f1 f2 hi hi a3 b3 a1 a2 b1 b2 (pP _ (dz hi)) h63 rfl) aRY n_)
   exact QJ mixed func66 Ca az 100 (N:=32) k_ [.rw 14 _ _ aV,.code 0 _ _ _ _ _ lo] k_ rfl
  ·have b9:fs≠fs':=λh=>by subst h;rw[q1]at q2;injection q2 with q2;exact q3 q2
   rw[aJ b9];have ak:=(eh.1 q1).1;have lo:ag prog (aa.at w) 32 (.block 0 (af f66 0)) (Eg fs.length fs'.length 0) (uf cs bA) 2 ⟨.ret,[(6,.bool false)],uf cs bA,4⟩:=
    bT (id:=0) (cd e (λi=>Eg fs.length fs'.length i) (λ_=>uf cs bA) (λi k _=>Iff.rfl) (λi hi=>by
     have hx:fs[i]?=some fs[i]:=bd o_;have hy:fs'[i]?=some fs'[i]:=bd o_;have:=q4 i _ _ hi hx hy;obtain⟨u,a1,a2,a3,_⟩:=Ef f1 hx;obtain⟨u',b1,b2,b3,_⟩:=Ef f2 hy;exact aFe f1 f2 o_ o_ a3 b3 a1 a2 b1 b2 (pP _ (dz _)) h63 this) (by
     obtain⟨u,a1,a2,a3,_⟩:=Ef f1 q1;obtain⟨u',b1,b2,b3,_⟩:=Ef f2 q2;exact aRX ak o_ a3 b3 a1 a2 b1 b2 (pP _ (cJ q1)) q3) n_)
   exact QJ mixed func66 Ca az 100 (N:=32) k_ [.rw 14 _ _ aV,.code 0 _ _ _ _ _ lo] k_ rfl
 ·have b9:fs≠fs':=λh=>hl (by rw[h]);rw[aJ b9];exact QJ mixed func66 Ca az 100 (N:=32) k_ [.rw 14 (.bool (!((fs.length:Int)==(fs'.length:Int)))) (.bool true) (by congr 1;simp;omega)] k_ rfl
end
end
theorem aFf{P:Program}{t:TypeId}{s:Nat}(ht:Io P t=some s){cells:aj}{off:Nat}(hl:off+s<=cells.length):dw P t cells off=some (.agg ((cells.drop off).take s).toArray):=by
 unfold Io at ht;split at ht
 ·rename_i d inf h1 h2;split at ht
  ·rename_i hr;injection ht with ht;unfold dw;rw[h1,h2];dsimp only;rw[ax hr,ht,ax (by rw[Nat.ble_eq];exact hl)]
  ·cases ht
 ·cases ht
theorem aFg{l:List RP}{i:Nat}{p:RP}(h:l[i]?=some p):i*40+40<=(dc l).length:=by rw[tQ iO];have ak:=(eh.1 h).1;have:=fo 40 ak;omega
theorem QK{l:List RP}{i:Nat}{p:RP}(h:l[i]?=some p):dw prog 33 (dc l) (i*40)=some p.n.v:=by
 rw[aFf (s:=30) k_ (by have:=aFg h;omega)];have e:=Pp iO h;have e2:((dc l).drop (i*40)).take 30=p.n.cs:=by
  have:((dc l).drop (i*40)).take 30=(((dc l).drop (i*40)).take 40).take 30:=by rw[ME];rfl
  rw[this,e];rfl
 rw[e2];rfl
theorem aFh{l:List RP}{i:Nat}{p:RP}(h:l[i]?=some p):dw prog 31 (dc l) (i*40+30)=some p.d.v:=by
 rw[aFf (s:=10) k_ (by have:=aFg h;omega)];have e:=Pp iO h;have e2:((dc l).drop (i*40+30)).take 10=p.d.cs:=by
  rw[<-Nx];have:(((dc l).drop (i*40)).drop 30).take 10=(((dc l).drop (i*40)).take 40).drop 30:=by rw[List.drop_take]
  rw[this,e];rfl
 rw[e2];rfl
theorem Cd{α:Type}(b:α->Bool)(l:List α):l.all b=true\/∃(n:Nat) (x:α),l[n]?=some x/\b x=false/\(∀(i:Nat) (y:α),i<n->l[i]?=some y->b y=true)/\l.all b=false:=by
 induction l with
 |nil=>exact .inl rfl
 |cons x l ih=>
  rcases hb:b x with _|_
  ·exact .inr ⟨0,x,rfl,hb,λi y hi=>by omega,by simp[hb]⟩
  ·rcases ih with h|⟨n,y,h1,h2,h3,h4⟩
   ·exact .inl (by rw[dM,hb,h];rfl)
   ·refine .inr ⟨n+1,y,by simpa using h1,h2,λi z hi hz=>?_,by rw[dM,h4,Nt]⟩;cases i with
    |zero=>simp at hz;rw[<-hz];exact hb
    |succ i=>exact h3 i z o_ (by simpa using hz)
theorem Eh{α:Type}{b:α->Bool}{l:List α}(h:l.all b=true){i:Nat}{x:α}(hx:l[i]?=some x):b x=true:=bh.1 h x (cJ hx)
theorem LX{a b:Nat}{t:Bool}(h:decide (a<=b)=t):Value.bool (decide ((a:Int)<=(b:Int)))=.bool t:=by rw[<-h];congr 1;rw[oQ];omega
section
variable{Bs:aa}{vs:List RV}{k:Nat}
def Gw(n k i:Nat):aR:=[(7,vI i),(0,sl 0 n),(2,vI k)]
def yk(vs:List RV):aH:=[(0,.view (cF vs))]
theorem aFi{n i:Nat}{x:RV}(hi:i<n)(hx:vs[i]?=some x)(hb:qD x k=true)(h63:n<9223372036854775807):
  ag prog Bs 25 (aF (af f31 0)) (Gw n k i) (yk vs) 1 ⟨.normal,Gw n k (i+1),yk vs,1⟩:=by
 have hr:=WG x k;rw[hb]at hr;exact aC [.lt 11 i n true (aB hi),.cT f31 16 0 n i 30 hi k_,.ld f31 17 33 0 (i*30) (.view (cF vs)) x.v rfl (sO hx) k_,hr.at 19,.sum 13 i 1 (i+1) rfl o_]
theorem aR0{n i:Nat}{x:RV}(hi:i<n)(hx:vs[i]?=some x)(hb:qD x k=false):
  ag prog Bs 25 (aF (af f31 0)) (Gw n k i) (yk vs) 1 ⟨.ret,[(6,.bool false)],yk vs,1⟩:=by
 have hr:=WG x k;rw[hb]at hr;exact aC [.lt 11 i n true (aB hi),.cT f31 16 0 n i 30 hi k_,.ld f31 17 33 0 (i*30) (.view (cF vs)) x.v rfl (sO hx) k_,hr.at 19]
theorem aR1(m:Nat)(h63:vs.length<9223372036854775807):cI prog 31 [.r vs.length (cF vs),.p (vI m),.p (vI k)] (.bool (vs.all (λx=>qD x k)&&decide (vs.length<=m))):=by
 have az:([aT.r vs.length (cF vs),.p (vI m),.p (vI k)].all aT.ok)=true:=by simp only[dM,fH,aT.ok,gV gh,jq];rfl
 rcases Cd (λx=>qD x k) vs with h|⟨n,x,h1,h2,h3,h4⟩
 ·rw[h,lP];have lo:∀ B:aa,ag prog B 25 (.block 0 (af f31 0)) (Gw vs.length k 0) (yk vs) 1 ⟨.normal,[(0,sl 0 vs.length)],yk vs,1⟩:=λB=>
   bT (id:=0) (cd vs.length (λi=>Gw vs.length k i) (λ_=>yk vs) (λi k _=>Iff.rfl) (r:=⟨.exit 0,[(0,sl 0 vs.length)],yk vs,1⟩) (λi hi=>by have hx:vs[i]?=some vs[i]:=bd hi;exact aFi hi hx (Eh h hx) h63) (aC [.lt 11 vs.length vs.length false s_]) n_)
  exact ee func31 az 25 (λw=>[.code 0 _ _ _ _ _ (lo _),.rw 24 _ (.bool (decide (vs.length<=m))) (LX rfl)])
 ·rw[h4,yZ];have ak:=(eh.1 h1).1;have lo:∀ B:aa,ag prog B 25 (.block 0 (af f31 0)) (Gw vs.length k 0) (yk vs) 1 ⟨.ret,[(6,.bool false)],yk vs,1⟩:=λB=>
   bT (id:=0) (cd n (λi=>Gw vs.length k i) (λ_=>yk vs) (λi k _=>Iff.rfl) (λi hi=>by have hx:vs[i]?=some vs[i]:=bd o_;exact aFi o_ hx (h3 i _ hi hx) h63) (aR0 ak h1 h2) n_)
  exact ee func31 az 25 (λw=>[.code 0 _ _ _ _ _ (lo _)])
end
def QL(p:RP):Bool:=decide (24<wV p.n)||decide (15<wN p.d)
def tg(ps:List RP)(i:Nat):Nat:=((ps.take i).filter QL).length
theorem aR2{ps:List RP}{i:Nat}{p:RP}(h:ps[i]?=some p):tg ps (i+1)=tg ps i+if QL p then 1 else 0:=by unfold tg;rw[sQ,h];simp only[Option.toList,aEU,jx];rcases hb:QL p with _|_<;>simp[hb]
theorem aR3(ps:List RP)(i:Nat):tg ps i<=i:=by unfold tg;refine dh (aEW _ _) ?_;rw[ji];omega
theorem QM{r:RN}{k:Nat}(h:s7 r k=true):wN r<=5*k:=by unfold s7 at h;simp only[de,rU]at h;unfold wN;omega
theorem aR4{r:RV}{k:Nat}(h:qD r k=true):wV r<=15*k:=by unfold qD at h;simp only[de]at h;have h1:=QM h.1;have h2:=QM h.2.1;have h3:=QM h.2.2;unfold wV;omega
section
variable{Bs:aa}{ps:List RP}
def AA(ps:List RP)(n i:Nat):aR:=[(6,vI i),(0,sl 0 n),(5,vI (tg ps i))]
def yn(ps:List RP):aH:=[(0,.view (dc ps))]
theorem aFj{n i:Nat}{x:RP}(hi:i<n)(hx:ps[i]?=some x)(hb:ye x 3=true)(h63:n<9223372036854775807):
  ag prog Bs 45 (aF (af f30 0)) (AA ps n i) (yn ps) 1 ⟨.normal,AA ps n (i+1),yn ps,1⟩:=by
 have hr:=WI x 3;rw[hb]at hr;have gm:qD x.n 3=true/\s7 x.d 3=true:=by unfold ye at hb;simpa using hb
 have w1:=aR4 gm.1;have w2:=QM gm.2;have q1:=aQA (r:=x.n) o_;have q2:=Qi (r:=x.d) o_;have hs:=aR2 hx;have hle:=aR3 ps i;unfold AA;rw[hs];generalize tg ps i=c at *;unfold QL;by_cases g1:24<wV x.n
 ·rw[aB g1];exact aC [.lt 10 i n true (aB hi),.cT f30 15 0 n i 40 hi k_,.ld f30 16 35 0 (i*40) (.view (dc ps)) x.v rfl (we hx) k_,hr.at 17,.cT f30 21 0 n i 40 hi k_,.ld f30 23 33 0 (i*40) (.view (dc ps)) x.n.v rfl (QK hx) k_,q1.at 24,.gt 25 (wV x.n) 24 true (aB g1),.sum 36 c 1 (c+1) rfl o_,.sum 12 i 1 (i+1) rfl o_]
 ·rw[aJ g1];by_cases g2:15<wN x.d
  ·rw[aB g2];exact aC [.lt 10 i n true (aB hi),.cT f30 15 0 n i 40 hi k_,.ld f30 16 35 0 (i*40) (.view (dc ps)) x.v rfl (we hx) k_,hr.at 17,.cT f30 21 0 n i 40 hi k_,.ld f30 23 33 0 (i*40) (.view (dc ps)) x.n.v rfl (QK hx) k_,q1.at 24,.gt 25 (wV x.n) 24 false (aJ g1),.cT f30 29 0 n i 40 hi k_,.ld f30 31 31 0 (i*40+30) (.view (dc ps)) x.d.v rfl (aFh hx) k_,q2.at 32,.gt 33 (wN x.d) 15 true (aB g2),.sum 36 c 1 (c+1) rfl o_,.sum 12 i 1 (i+1) rfl o_]
  ·rw[aJ g2];exact aC [.lt 10 i n true (aB hi),.cT f30 15 0 n i 40 hi k_,.ld f30 16 35 0 (i*40) (.view (dc ps)) x.v rfl (we hx) k_,hr.at 17,.cT f30 21 0 n i 40 hi k_,.ld f30 23 33 0 (i*40) (.view (dc ps)) x.n.v rfl (QK hx) k_,q1.at 24,.gt 25 (wV x.n) 24 false (aJ g1),.cT f30 29 0 n i 40 hi k_,.ld f30 31 31 0 (i*40+30) (.view (dc ps)) x.d.v rfl (aFh hx) k_,q2.at 32,.gt 33 (wN x.d) 15 false (aJ g2),.sum 12 i 1 (i+1) rfl o_]
theorem aR5{n i:Nat}{x:RP}(hi:i<n)(hx:ps[i]?=some x)(hb:ye x 3=false):
  ag prog Bs 45 (aF (af f30 0)) (AA ps n i) (yn ps) 1 ⟨.ret,[(4,.bool false)],yn ps,1⟩:=by
 have hr:=WI x 3;rw[hb]at hr;exact aC [.lt 10 i n true (aB hi),.cT f30 15 0 n i 40 hi k_,.ld f30 16 35 0 (i*40) (.view (dc ps)) x.v rfl (we hx) k_,hr.at 17]
def LY(ps:List RP)(k:Nat):Bool:=ps.all (λx=>ye x 3)&&(decide (tg ps ps.length<=1)&&decide (ps.length<=k))
theorem aR6(k:Nat)(h63:ps.length<9223372036854775807):cI prog 30 [.r ps.length (dc ps),.p (vI k)] (.bool (LY ps k)):=by
 have az:([aT.r ps.length (dc ps),.p (vI k)].all aT.ok)=true:=by simp only[dM,fH,aT.ok,gV iO,jq];rfl
 unfold LY;rcases Cd (λx=>ye x 3) ps with h|⟨n,x,h1,h2,h3,h4⟩
 ·rw[h,lP];have lo:∀ B:aa,ag prog B 45 (.block 0 (af f30 0)) (AA ps ps.length 0) (yn ps) 1 ⟨.normal,[(0,sl 0 ps.length),(5,vI (tg ps ps.length))],yn ps,1⟩:=λB=>
   bT (id:=0) (cd ps.length (λi=>AA ps ps.length i) (λ_=>yn ps) (λi k _=>Iff.rfl) (r:=⟨.exit 0,[(0,sl 0 ps.length),(5,vI (tg ps ps.length))],yn ps,1⟩) (λi hi=>by have hx:ps[i]?=some ps[i]:=bd hi;exact aFj hi hx (Eh h hx) h63) (aC [.lt 10 ps.length ps.length false s_]) n_)
  unfold AA at lo;have e0:tg ps 0=0:=by unfold tg;simp
  rw[e0]at lo;generalize tg ps ps.length=c at *;by_cases hc:c<=1
  ·rw[aB hc,lP];exact ee func30 az 45 (λw=>[.code 0 _ _ _ _ _ (lo _),.rw 38 _ (.bool true) (LX (a:=c) (b:=1) (aB hc)),.rw 43 _ (.bool (decide (ps.length<=k))) (LX rfl)])
  ·rw[aJ hc,yZ];exact ee func30 az 45 (λw=>[.code 0 _ _ _ _ _ (lo _),.rw 38 _ (.bool false) (LX (a:=c) (b:=1) (aJ hc))])
 ·rw[h4,yZ];have ak:=(eh.1 h1).1;have lo:∀ B:aa,ag prog B 45 (.block 0 (af f30 0)) (AA ps ps.length 0) (yn ps) 1 ⟨.ret,[(4,.bool false)],yn ps,1⟩:=λB=>
   bT (id:=0) (cd n (λi=>AA ps ps.length i) (λ_=>yn ps) (λi k _=>Iff.rfl) (λi hi=>by have hx:ps[i]?=some ps[i]:=bd o_;exact aFj o_ hx (h3 i _ hi hx) h63) (aR5 ak h1 h2) n_)
  have e0:tg ps 0=0:=by unfold tg;simp
  unfold AA at lo;rw[e0]at lo;exact ee func30 az 45 (λw=>[.code 0 _ _ _ _ _ (lo _)])
end
section
open V3 (dot ao bC smul)
theorem aFk{ps:List (HS K)}{i:Nat}{p:HS K}(h:ps[i]?=some p):(ps.map cG)[i]?=some (cG p):=by rw[AW,h];rfl
theorem LZ{ps:List (HS K)}{i:Nat}{p:HS K}(h:ps[i]?=some p):dw prog 33 (aN ps) (i*40)=some (bF p.n):=QK (aFk h)
theorem QN{ps:List (HS K)}{i:Nat}{p:HS K}(h:ps[i]?=some p):dw prog 35 (aN ps) (i*40)=some (cB p):=we (aFk h)
section
variable{Bs:aa}{ps:List RP}{m:Nat}
def Gx(n i:Nat):aR:=[(3,vI i),(0,sl 0 n)]
def wC(ps:List RP):aH:=[(0,.view (dc ps))]
theorem aFl{n i:Nat}{x:RP}(hi:i<n)(hx:ps[i]?=some x)(hs:As m x)(hm:m<=aA)(hb:pO x=true)(h63:n<9223372036854775807):
  ag prog Bs 16 (aF (af f58 0)) (Gx n i) (wC ps) 1 ⟨.normal,Gx n (i+1),wC ps,1⟩:=by
 have hv:=Qr hs hm;rw[hb]at hv;exact aC [.lt 7 i n true (aB hi),.cT f58 12 0 n i 40 hi k_,.ld f58 13 35 0 (i*40) (.view (dc ps)) x.v rfl (we hx) k_,hv.at 14,.sum 9 i 1 (i+1) rfl o_]
theorem aR7{n i:Nat}{x:RP}(hi:i<n)(hx:ps[i]?=some x)(hs:As m x)(hm:m<=aA)(hb:pO x=false):
  ag prog Bs 16 (aF (af f58 0)) (Gx n i) (wC ps) 1 ⟨.ret,[(2,.bool false)],wC ps,1⟩:=by
 have hv:=Qr hs hm;rw[hb]at hv;exact aC [.lt 7 i n true (aB hi),.cT f58 12 0 n i 40 hi k_,.ld f58 13 35 0 (i*40) (.view (dc ps)) x.v rfl (we hx) k_,hv.at 14]
theorem aFm(hs:∀ x∈ps,As m x)(hm:m<=aA)(h63:ps.length<9223372036854775807):cI prog 58 [.r ps.length (dc ps)] (.bool (ps.all pO)):=by
 have az:([aT.r ps.length (dc ps)].all aT.ok)=true:=by simp only[dM,fH,aT.ok,gV iO,jq]
 rcases Cd pO ps with h|⟨n,x,h1,h2,h3,h4⟩
 ·rw[h];have lo:∀ B:aa,ag prog B 16 (.block 0 (af f58 0)) (Gx ps.length 0) (wC ps) 1 ⟨.normal,[],wC ps,1⟩:=λB=>
   bT (id:=0) (cd ps.length (λi=>Gx ps.length i) (λ_=>wC ps) (λi k _=>Iff.rfl) (r:=⟨.exit 0,[],wC ps,1⟩) (λi hi=>by have hx:ps[i]?=some ps[i]:=bd hi;exact aFl hi hx (hs _ (dz hi)) hm (Eh h hx) h63) (aC [.lt 7 ps.length ps.length false s_]) n_)
  exact ee func58 az 16 (λw=>[.code 0 _ _ _ _ _ (lo _)])
 ·rw[h4];have ak:=(eh.1 h1).1;have lo:∀ B:aa,ag prog B 16 (.block 0 (af f58 0)) (Gx ps.length 0) (wC ps) 1 ⟨.ret,[(2,.bool false)],wC ps,1⟩:=λB=>
   bT (id:=0) (cd n (λi=>Gx ps.length i) (λ_=>wC ps) (λi k _=>Iff.rfl) (r:=⟨.ret,[(2,.bool false)],wC ps,1⟩) (λi hi=>by
    have nr:i<ps.length:=by omega
    have hx:ps[i]?=some ps[i]:=bd nr;exact aFl nr hx (hs _ (dz nr)) hm (h3 i _ hi hx) h63) (aR7 ak h1 (hs x (cJ h1)) hm h2) n_)
  exact ee func58 az 16 (λw=>[.code 0 _ _ _ _ _ (lo _)])
end
section
variable{Bs:aa}{ps:List (HS K)}{m:Nat}{d:V3 K}
def yo(ps:List (HS K))(d:V3 K):Bool:=ps.all λp=>decide (OF.ay (dot p.n d)<=0)
def Gy(n i:Nat):aR:=[(5,vI i),(0,sl 0 n),(3,ptr 1)]
def yp(ps:List (HS K))(d:V3 K):aH:=[(0,.view (aN ps)),(1,.aI (cx d).cs 33)]
theorem QO{z:Int}{t:Bool}(h:decide (z<=0)=!t):Value.bool (decide (z>0))=.bool t:=by
 congr 1
 cases t
 ·have:=kW h;exact aJ o_
 ·have:=HD h;exact aB o_
theorem aFn{n i:Nat}{p:HS K}(hi:i<n)(hx:ps[i]?=some p)(hp:bo m p)(hd:aD m d)(hm:100*m+1000<=aA)(hb:decide (OF.ay (dot p.n d)<=0)=true)(h63:n<9223372036854775807):
  ag prog Bs 21 (aF (af f100 0)) (Gy n i) (yp ps d) 2 ⟨.normal,Gy n (i+1),yp ps d,2⟩:=
 aC [.lt 9 i n true (aB hi),.cT f100 14 0 n i 40 hi k_,.ld f100 16 33 0 (i*40) (.view (aN ps)) (bF p.n) rfl (LZ hx) k_,(aWC hp.1 hd o_).at 18,(aWw (hp.1.dot hd) o_).at 19,.rw 20 _ (.bool false) (QO (t:=false) hb),.sum 11 i 1 (i+1) rfl o_]
theorem aR8{n i:Nat}{p:HS K}(hi:i<n)(hx:ps[i]?=some p)(hp:bo m p)(hd:aD m d)(hm:100*m+1000<=aA)(hb:decide (OF.ay (dot p.n d)<=0)=false):
  ag prog Bs 21 (aF (af f100 0)) (Gy n i) (yp ps d) 2 ⟨.ret,[(4,.bool false)],yp ps d,2⟩:=
 aC [.lt 9 i n true (aB hi),.cT f100 14 0 n i 40 hi k_,.ld f100 16 33 0 (i*40) (.view (aN ps)) (bF p.n) rfl (LZ hx) k_,(aWC hp.1 hd o_).at 18,(aWw (hp.1.dot hd) o_).at 19,.rw 20 _ (.bool true) (QO (t:=true) hb)]
theorem QP(hs:∀ p∈ps,bo m p)(hd:aD m d)(hm:100*m+1000<=aA)(h63:ps.length<9223372036854775807):cI prog 100 [.r ps.length (aN ps),.p (bF d)] (.bool (yo ps d)):=by
 have az:([aT.r ps.length (aN ps),.p (bF d)].all aT.ok)=true:=by simp only[dM,fH,aT.ok,jq];rw[show(aN ps).all flat=true from cX ps];rfl
 unfold yo;rcases Cd (λp=>decide (OF.ay (dot p.n d)<=0)) ps with h|⟨n,x,h1,h2,h3,h4⟩
 ·rw[h];have lo:∀ B:aa,ag prog B 21 (.block 0 (af f100 0)) (Gy ps.length 0) (yp ps d) 2 ⟨.normal,[],yp ps d,2⟩:=λB=>
   bT (id:=0) (cd ps.length (λi=>Gy ps.length i) (λ_=>yp ps d) (λi k _=>Iff.rfl) (r:=⟨.exit 0,[],yp ps d,2⟩) (λi hi=>by have hx:ps[i]?=some ps[i]:=bd hi;exact aFn hi hx (hs _ (dz hi)) hd hm (Eh h hx) h63) (aC [.lt 9 ps.length ps.length false s_]) n_)
  exact ee func100 az 21 (λw=>[.code 0 _ _ _ _ _ (lo _)])
 ·rw[h4];have ak:=(eh.1 h1).1;have lo:∀ B:aa,ag prog B 21 (.block 0 (af f100 0)) (Gy ps.length 0) (yp ps d) 2 ⟨.ret,[(4,.bool false)],yp ps d,2⟩:=λB=>
   bT (id:=0) (cd n (λi=>Gy ps.length i) (λ_=>yp ps d) (λi k _=>Iff.rfl) (λi hi=>by
    have nr:i<ps.length:=by omega
    have hx:ps[i]?=some ps[i]:=bd nr;exact aFn nr hx (hs _ (dz nr)) hd hm (h3 i _ hi hx) h63) (aR8 ak h1 (hs x (cJ h1)) hd hm h2) n_)
  exact ee func100 az 21 (λw=>[.code 0 _ _ _ _ _ (lo _)])
end
def Ce(ps:List (HS K))(d:V3 K):Bool:=ps.all λp=>decide (dot p.n d=0)
def QQ(ps:List (HS K))(i:Nat):V3 K:=match ps[i]? with|some p=>p.n|none=>0
def nD(ps:List (HS K))(i j:Nat):V3 K:=ao (QQ ps i) (QQ ps j)
def AB(ps:List (HS K))(i j:Nat):Bool:=decide (nD ps i j≠0)&&(yo ps (nD ps i j)||yo ps (-nD ps i j))
def pg(ps:List (HS K))(f:Bool)(i:Nat):Nat->Bool
 |0=>f
 |j+1=>if nD ps i j=0 then pg ps f i j else pg ps f i j&&Ce ps (nD ps i j)
def mJ(ps:List (HS K)):Nat->Bool
 |0=>true
 |i+1=>pg ps (mJ ps i) i i
def Ei(ps:List (HS K))(i:Nat):Bool:=(List.range i).all λj=>!AB ps i j
def wD(ps:List (HS K)):Bool:=(List.range ps.length).all (Ei ps)&&!mJ ps ps.length
theorem I3(b:Nat->Bool)(n:Nat):(List.range n).all b=true\/∃ e,e<n/\b e=false/\(∀ i,i<e->b i=true)/\(List.range n).all b=false:=by
 rcases Cd b (List.range n)with h|⟨e,x,h1,h2,h3,h4⟩
 ·exact .inl h
 ·have ak:=(eh.1 h1).1;rw[xb]at ak;rw[Iq ak]at h1;injection h1 with h1;subst h1;exact .inr ⟨e,ak,h2,λi hi=>h3 i i hi (Iq o_),h4⟩
theorem I4{b:Nat->Bool}{n:Nat}(h:(List.range n).all b=true){i:Nat}(hi:i<n):b i=true:=bh.1 h i (kA.2 hi)
section
variable{Bs:aa}{ps:List (HS K)}{m:Nat}{d:V3 K}
def Gz(n k:Nat)(f:Bool):aR:=[(7,vI k),(0,sl 0 n),(3,.bool f),(6,ptr 1)]
def wE(ps:List (HS K))(d:V3 K):aH:=[(0,.view (aN ps)),(1,.aI (cx d).cs 33)]
theorem aFo{n k:Nat}{p:HS K}{t:Bool}(hk:k<n)(hx:ps[k]?=some p)(hp:bo m p)(hd:aD m d)(hm:100*m+1000<=aA)(ht:decide (dot p.n d=0)=t)(h63:n<9223372036854775807):
  ag prog Bs 61 (aF (af f59 4)) (Gz n k true) (wE ps d) 2 ⟨.normal,Gz n (k+1) t,wE ps d,2⟩:=by
 have h49:Value.bool (OF.ay (dot p.n d)==0)=.bool t:=by
  by_cases h:dot p.n d=0
  ·rw[aB h]at ht;subst ht;exact yd ((OF.fh _).2 h)
  ·rw[aJ h]at ht;subst ht;exact pN (λe=>h ((OF.fh _).1 e))
 exact aC [.lt 35 k n true (aB hk),.cT f59 43 0 n k 40 hk k_,.ld f59 45 33 0 (k*40) (.view (aN ps)) (bF p.n) rfl (LZ hx) k_,(aWC hp.1 hd o_).at 47,(aWw (hp.1.dot hd) o_).at 48,.rw 49 _ (.bool t) h49,.sum 40 k 1 (k+1) rfl o_]
theorem aFp{n k:Nat}:ag prog Bs 61 (aF (af f59 4)) (Gz n k false) (wE ps d) 2 ⟨.exit 4,[(0,sl 0 n),(3,.bool false),(6,ptr 1)],wE ps d,2⟩:=by
 by_cases h:k<n
 ·exact aC [.lt 35 k n true (aB h)]
 ·exact aC [.lt 35 k n false (aJ h)]
theorem aFq(hs:∀ p∈ps,bo m p)(hd:aD m d)(hm:100*m+1000<=aA)(h63:ps.length<9223372036854775807)(f:Bool):
  ag prog Bs 61 (.block 4 (af f59 4)) (Gz ps.length 0 f) (wE ps d) 2 ⟨.normal,[(0,sl 0 ps.length),(3,.bool (f&&Ce ps d)),(6,ptr 1)],wE ps d,2⟩:=by
 cases f with
 |false=>exact bT (id:=4) (cd 0 (λ_=>Gz ps.length 0 false) (λ_=>wE ps d) (λ_ _ _=>Iff.rfl) (r:=⟨.exit 4,[(0,sl 0 ps.length),(3,.bool false),(6,ptr 1)],wE ps d,2⟩) (λi hi=>by omega) aFp n_)
 |true=>
  unfold Ce;rcases Cd (λp=>decide (dot p.n d=0)) ps with h|⟨n,x,h1,h2,h3,h4⟩
  ·rw[h];exact bT (id:=4) (cd ps.length (λi=>Gz ps.length i true) (λ_=>wE ps d) (λ_ _ _=>Iff.rfl) (r:=⟨.exit 4,[(0,sl 0 ps.length),(3,.bool true),(6,ptr 1)],wE ps d,2⟩) (λi hi=>by have hx:ps[i]?=some ps[i]:=bd hi;exact aFo hi hx (hs _ (dz hi)) hd hm (Eh h hx) h63) (aC [.lt 35 ps.length ps.length false s_]) n_)
  ·rw[h4];have ak:=(eh.1 h1).1;exact bT (id:=4) (cd (n+1) (λi=>Gz ps.length i (decide (i<=n))) (λ_=>wE ps d) (λ_ _ _=>Iff.rfl) (r:=⟨.exit 4,[(0,sl 0 ps.length),(3,.bool false),(6,ptr 1)],wE ps d,2⟩) (λi hi=>by
    have nr:i<ps.length:=by omega
    have hx:ps[i]?=some ps[i]:=bd nr;simp only[aB (show i<=n by omega)];refine aFo nr hx (hs _ (dz nr)) hd hm ?_ h63;by_cases he:i=n
    ·subst he;rw[hx]at h1;injection h1 with h1;rw[h1,h2];exact(aJ o_).symm
    ·have:=h3 i _ o_ hx;rw[this];exact(aB o_).symm) (by
    simp only[aJ (show ¬n+1<=n by omega)];exact aFp) n_)
def yq(ps:List (HS K))(f:Bool)(n i j:Nat):aR:=[(5,vI j),(4,vI i),(0,sl 0 n),(3,.bool (pg ps f i j))]
def n9(ps:List (HS K)):aH:=[(0,.view (aN ps))]
theorem I5{i:Nat}{p:HS K}(h:ps[i]?=some p):QQ ps i=p.n:=by unfold QQ;rw[h]
noncomputable def QR{n i j:Nat}{p q:HS K}{t:Bool}(hi:i<n)(kN:j<i)(hp:ps[i]?=some p)(hq:ps[j]?=some q)(sp:bo m p)(sq:bo m q)(hm:1000*m+10000<=aA)(ht:decide (ao p.n q.n=0)=t)(more:bI prog Bs 61):bI prog Bs 61:=
 .lt 16 j i true (aB kN)::.cT f59 21 0 n i 40 hi k_::.ld f59 23 33 0 (i*40) (.view (aN ps)) (bF p.n) rfl (LZ hp) k_::.cT f59 26 0 n j 40 o_ k_::.ld f59 28 33 0 (j*40) (.view (aN ps)) (bF q.n) rfl (LZ hq) k_::
 (aW8 sp.1 sq.1 o_).at 29::(ht▸aW3 (sp.1.ao sq.1) o_:aE prog 35 [bF (ao p.n q.n)] (.bool t)).at 31::more
theorem aFr(hs:∀ p∈ps,bo m p)(hm:1000*m+10000<=aA){f:Bool}{i j:Nat}(hi:i<ps.length)(kN:j<i)(hb:AB ps i j=false)(h63:ps.length<9223372036854775807):
  ag prog Bs 61 (aF (af f59 2)) (yq ps f ps.length i j) (n9 ps++marks 1 []) 1 ⟨.normal,ij 1 [] (yq ps f ps.length i (j+1)),n9 ps++dV [] [],2⟩:=by
 have hj:j<ps.length:=by omega
 have hp:ps[i]?=some ps[i]:=bd hi;have hq:ps[j]?=some ps[j]:=bd hj;have sp:=hs _ (dz hi);have sq:=hs _ (dz hj);generalize ps[i]=p at *;generalize ps[j]=q at *;have hd:nD ps i j=ao p.n q.n:=by unfold nD;rw[I5 hp,I5 hq]
 have pv:∀ r∈ps,bo (4*m+9) r:=λr hr=>(hs r hr).mono o_;have Cf:aD (4*m+9) (ao p.n q.n):=(sp.1.ao sq.1).mono o_;unfold AB at hb;have er:pg ps f i (j+1)=if nD ps i j=0 then pg ps f i j else pg ps f i j&&Ce ps (nD ps i j):=rfl
 unfold yq;rw[er];rw[hd]at hb ⊢;by_cases hz:ao p.n q.n=0
 ·rw[ax hz];exact aC (QR hi kN hp hq sp sq hm (aB hz) [.sum 18 j 1 (j+1) rfl o_])
 ·rw[au hz];rw[aB hz,lP]at hb;have mR:yo ps (ao p.n q.n)=false:=by revert hb;cases yo ps (ao p.n q.n)<;>simp
  have gm:yo ps (-ao p.n q.n)=false:=by revert hb;cases yo ps (-ao p.n q.n)<;>simp
  have l1:=QP pv Cf o_ h63;have l2:=QP pv Cf.neg o_ h63;rw[mR]at l1;rw[gm]at l2;have c4:=aFq (Bs:=Bs) pv Cf o_ h63 (pg ps f i j);generalize pg ps f i j=ff at *;generalize (ff&&Ce ps (ao p.n q.n))=fg at *;exact aC (QR hi kN hp hq sp sq hm (aJ hz) [.code 4 _ _ _ _ _ c4,.step 52 (av f59 52) [.func (.func 100) #[] #[],sl 0 ps.length,bF (ao p.n q.n)] [(0,some (.view (aN ps)))] (.bool false) [] (dL l1 (.w (x:=.view (aN ps)) rfl (cX ps) iF (.p rfl .nil)) (x:=.func 100) k_ k_ rfl),(aWG Cf o_).at 56,.step 57 (av f59 57) [.func (.func 100) #[] #[],sl 0 ps.length,bF (-ao p.n q.n)] [(0,some (.view (aN ps)))] (.bool false) [] (dL l2 (.w (x:=.view (aN ps)) rfl (cX ps) iF (.p rfl .nil)) (x:=.func 100) k_ k_ rfl),.sum 18 j 1 (j+1) rfl o_])
theorem aR9(hs:∀ p∈ps,bo m p)(hm:1000*m+10000<=aA){f:Bool}{i j:Nat}(hi:i<ps.length)(kN:j<i)(hb:AB ps i j=true)(h63:ps.length<9223372036854775807):
  ag prog Bs 61 (aF (af f59 2)) (yq ps f ps.length i j) (n9 ps++marks 1 []) 1 ⟨.ret,[(2,.bool false)],[],2⟩:=by
 have hj:j<ps.length:=by omega
 have hp:ps[i]?=some ps[i]:=bd hi;have hq:ps[j]?=some ps[j]:=bd hj;have sp:=hs _ (dz hi);have sq:=hs _ (dz hj);generalize ps[i]=p at *;generalize ps[j]=q at *;have hd:nD ps i j=ao p.n q.n:=by unfold nD;rw[I5 hp,I5 hq]
 have pv:∀ r∈ps,bo (4*m+9) r:=λr hr=>(hs r hr).mono o_;have Cf:aD (4*m+9) (ao p.n q.n):=(sp.1.ao sq.1).mono o_;unfold AB at hb;unfold yq;rw[hd]at hb;have hz:ao p.n q.n≠0:=by intro e;rw[aJ (λh=>h e)]at hb;cases hb
 rw[aB hz,lP]at hb;have l1:=QP pv Cf o_ h63;have l2:=QP pv Cf.neg o_ h63;have c4:=aFq (Bs:=Bs) pv Cf o_ h63 (pg ps f i j);generalize pg ps f i j=ff at *;generalize (ff&&Ce ps (ao p.n q.n))=fg at *;rcases mR:yo ps (ao p.n q.n)with _|_
 ·rw[mR]at l1 hb;rw[vD]at hb;rw[hb]at l2;exact aC (QR hi kN hp hq sp sq hm (aJ hz) [.code 4 _ _ _ _ _ c4,.step 52 (av f59 52) [.func (.func 100) #[] #[],sl 0 ps.length,bF (ao p.n q.n)] [(0,some (.view (aN ps)))] (.bool false) [] (dL l1 (.w (x:=.view (aN ps)) rfl (cX ps) iF (.p rfl .nil)) (x:=.func 100) k_ k_ rfl),(aWG Cf o_).at 56,.step 57 (av f59 57) [.func (.func 100) #[] #[],sl 0 ps.length,bF (-ao p.n q.n)] [(0,some (.view (aN ps)))] (.bool true) [] (dL l2 (.w (x:=.view (aN ps)) rfl (cX ps) iF (.p rfl .nil)) (x:=.func 100) k_ k_ rfl)])
 ·rw[mR]at l1;exact aC (QR hi kN hp hq sp sq hm (aJ hz) [.code 4 _ _ _ _ _ c4,.step 52 (av f59 52) [.func (.func 100) #[] #[],sl 0 ps.length,bF (ao p.n q.n)] [(0,some (.view (aN ps)))] (.bool true) [] (dL l1 (.w (x:=.view (aN ps)) rfl (cX ps) iF (.p rfl .nil)) (x:=.func 100) k_ k_ rfl)])
theorem aFs(q:Nat×Obj)(hq:q∈n9 ps):eA 1 q.2:=by unfold n9 at hq;simp at hq;subst hq;exact Hi (bh.1 (cX ps))
theorem aSa(hs:∀ p∈ps,bo m p)(hm:1000*m+10000<=aA){f:Bool}{i:Nat}(hi:i<ps.length)(hb:Ei ps i=true)(h63:ps.length<9223372036854775807):
  ag prog Bs 61 (.block 2 (af f59 2)) (yq ps f ps.length i 0) (n9 ps) 1 ⟨.normal,[(4,vI i),(0,sl 0 ps.length),(3,.bool (pg ps f i i))],n9 ps,1⟩:=by
 have:=su (P:=prog) (B:=Bs) (N:=61) (b:=aF (af f59 2)) (next:=1) (p:=0) (r:=⟨.exit 2,[(4,vI i),(0,sl 0 ps.length),(3,.bool (pg ps f i i))],n9 ps,1⟩) i (yq ps f ps.length i) (λ_=>n9 ps) (λ_=>[]) [] (λ_ _=>rfl)
  (λj _=>⟨aFs,λz hz=>by cases hz⟩) k_ k_
  (λj hj=>⟨[],2,k_,aFr hs hm hi hj (by have:=I4 hb hj;simpa using this) h63⟩)
  (aC [.lt 16 i i false s_]) n_
 exact bT (id:=2) this
theorem aSb(hs:∀ p∈ps,bo m p)(hm:1000*m+10000<=aA){f:Bool}{i:Nat}(hi:i<ps.length)(hb:Ei ps i=false)(h63:ps.length<9223372036854775807):
  ag prog Bs 61 (.block 2 (af f59 2)) (yq ps f ps.length i 0) (n9 ps) 1 ⟨.ret,[(2,.bool false)],[],2⟩:=by
 rcases I3 (λj=>!AB ps i j) i with h|⟨e,h1,h2,h3,_⟩
 ·unfold Ei at hb;rw[h]at hb;cases hb
 ·have:=su (P:=prog) (B:=Bs) (N:=61) (b:=aF (af f59 2)) (next:=1) (p:=0) (r:=⟨.ret,[(2,.bool false)],[],2⟩) e (yq ps f ps.length i) (λ_=>n9 ps) (λ_=>[]) [] (λ_ _=>rfl)
   (λj _=>⟨aFs,λz hz=>by cases hz⟩) k_ k_
   (λj hj=>⟨[],2,k_,aFr hs hm hi o_ (by have:=h3 j hj;simpa using this) h63⟩)
   (aR9 hs hm hi h1 (by simpa using h2) h63) n_
  exact bT (id:=2) this
def yr(ps:List (HS K))(n i:Nat):aR:=[(4,vI i),(0,sl 0 n),(3,.bool (mJ ps i))]
theorem aFt(hs:∀ p∈ps,bo m p)(hm:1000*m+10000<=aA){i:Nat}(hi:i<ps.length)(hb:Ei ps i=true)(h63:ps.length<9223372036854775807):
  ag prog Bs 61 (aF (af f59 0)) (yr ps ps.length i) (n9 ps) 1 ⟨.normal,yr ps ps.length (i+1),n9 ps,1⟩:=by
 have lo:=aSa (Bs:=Bs) (f:=mJ ps i) hs hm hi hb h63;unfold yq at lo;unfold yr;show ag _ _ _ _ _ _ _ ⟨.normal,[(4,vI (i+1)),(0,sl 0 ps.length),(3,.bool (pg ps (mJ ps i) i i))],n9 ps,1⟩;have e0:pg ps (mJ ps i) i 0=mJ ps i:=rfl;rw[e0]at lo;generalize pg ps (mJ ps i) i i=g at *;generalize mJ ps i=f at *;exact aC [.lt 11 i ps.length true (aB hi),.code 2 _ _ _ _ _ lo,.sum 13 i 1 (i+1) rfl o_]
theorem aSc(hs:∀ p∈ps,bo m p)(hm:1000*m+10000<=aA){i:Nat}(hi:i<ps.length)(hb:Ei ps i=false)(h63:ps.length<9223372036854775807):
  ag prog Bs 61 (aF (af f59 0)) (yr ps ps.length i) (n9 ps) 1 ⟨.ret,[(2,.bool false)],[],2⟩:=by
 have lo:=aSb (Bs:=Bs) (f:=mJ ps i) hs hm hi hb h63;unfold yq at lo;unfold yr;have e0:pg ps (mJ ps i) i 0=mJ ps i:=rfl;rw[e0]at lo;generalize mJ ps i=f at *;exact aC [.lt 11 i ps.length true (aB hi),.code 2 _ _ _ _ _ lo]
theorem aSd(hs:∀ p∈ps,bo m p)(hm:1000*m+10000<=aA)(h63:ps.length<9223372036854775807):cI prog 59 [fJ ps] (.bool (wD ps)):=by
 unfold wD;rcases I3 (Ei ps) ps.length with h|⟨e,h1,h2,h3,h4⟩
 ·rw[h,lP];have lo:∀ B:aa,ag prog B 61 (.block 0 (af f59 0)) (yr ps ps.length 0) (n9 ps) 1 ⟨.normal,[(3,.bool (mJ ps ps.length))],n9 ps,1⟩:=λB=>
   bT (id:=0) (cd ps.length (yr ps ps.length) (λ_=>n9 ps) (λ_ _ _=>Iff.rfl) (r:=⟨.exit 0,[(3,.bool (mJ ps ps.length))],n9 ps,1⟩) (λi hi=>aFt hs hm hi (I4 h hi) h63) (aC [.lt 11 ps.length ps.length false s_]) n_)
  unfold yr at lo;have e0:mJ ps 0=true:=rfl;rw[e0]at lo;generalize mJ ps ps.length=g at *;cases g<;>exact ee func59 (Ee ps) 61 (λw=>[.code 0 _ _ _ _ _ (lo _)])
 ·rw[h4,yZ];have lo:∀ B:aa,ag prog B 61 (.block 0 (af f59 0)) (yr ps ps.length 0) (n9 ps) 1 ⟨.ret,[(2,.bool false)],[],2⟩:=λB=>
   bT (id:=0) (cd e (yr ps ps.length) (λ_=>n9 ps) (λ_ _ _=>Iff.rfl) (r:=⟨.ret,[(2,.bool false)],[],2⟩) (λi hi=>aFt hs hm o_ (h3 i hi) h63) (aSc hs hm h1 h2 h63) n_)
  unfold yr at lo;have e0:mJ ps 0=true:=rfl;rw[e0]at lo;exact ee func59 (Ee ps) 61 (λw=>[.code 0 _ _ _ _ _ (lo _)])
end
end
section
variable{P:Program}{B:aa}{N:Nat}
def aX.QS(fn:Func)(key k j n m nm e size bytes off cc:Nat)(cells:aj)(q:Nat)(x:Obj)(new:aj)(lL:n+m=nm)(hx:x.reads=true)(hlen:((x.cells.drop off).take (m*size)).length=m*size)(jk:cells.length=n*size)(lg:cells++(x.cells.drop off).take (m*size)=new)
  (h1:∀ v∈x.cells,v.oneCell'=true) (bw:0<size) (h63:nm<=maxLen) (hb:nm*bytes<=140737488355328) (ho:E6 P (av fn key)=some (e,size,bytes,size,true)):aX P B N:=
 .step key (av fn key) [.slice (some ⟨j,0,some 7⟩) n 0,.slice (some ⟨q,off,some 7⟩) m cc] [(k,none),(j,some (.row cells e size)),(q,some x)] (.slice (some ⟨k,0,some 7⟩) nm 0) [(k,.row new e size),(j,.dead)] (by subst lL;have hs:Cs B (.slice (some ⟨q,off,some 7⟩) m cc) m ((x.cells.drop off).take (m*size)) [(q,some x)]:=MA (B:=B) (k:=q) (off:=off) (m:=m) (cc:=cc) hx (len:=m*size) (λh=>by rw[h,lN]);have:=ZT (B:=B) ho bw hs hlen (λv hv=>h1 v (WV (Ir hv))) (j:=j) (n:=n) (cells:=cells) (vn jk.symm) h63 hb k;rw[kB (vn jk),lg]at this;exact this)
def aX.aSe(fn:Func)(key k n s:Nat)(ho:r5 P (av fn key)=some (true,false,s)):aX P B N:=
 .step key (av fn key) [.slice (some ⟨k,0,some 7⟩) n 0,vI 0] [] (.slice (some ⟨k,0,some 7⟩) n 0) [] (by have:=GZ (B:=B) ho (k:=k) (off:=0) (n:=n) (cc:=0) (l:=0) (h:=n) n_ (λ_=>rfl) (lh _) (bt _) (.inr rfl);simpa using this)
theorem aSf{o:Oper}{s:Nat}(ho:r5 P o=some (true,false,s)){k off n cc:Nat}{x:Obj}(hx:x.gw=true)(j:Nat):
  cD P B o [.slice (some ⟨k,off,some 7⟩) n cc,vI n] [(j,none),(k,some x)] (.slice (some ⟨j,0,some 7⟩) 0 0) [(j,.view [])]:=by
 unfold r5 at ho;split at ho
 ·rename_i t y lo hi bW;split at ho
  ·rename_i e ht;split at ho
   ·rename_i i iB;injection ho with ho;injection ho with h1 ho;injection ho with h2 h3;cases lo with
    |none=>cases h1
    |some yl=>
    cases hi with
    |some yh=>cases h2
    |none=>
    refine iy.step λι c ρ w aP hm hn=>?_;have hj:c j=none:=hn (j,none) s_;have hk:c k=some x:=hn (k,some x) s_;rw[bW]at aP;obtain⟨u,u2,hu,hc,dp⟩:=jI aP;have dR:ρ y=u:=by simp[Op.operands]at hu;exact hu.1
    have fD:ρ yl=u2:=by simp[Op.operands]at hu;exact hu.2
    have dp:=dp.eY rfl;have Lv:∀ y code,n<=y->(Instr.sliceBound (.int .i64 n) y code).run P w=.ok n w:=by intro y code hq;have:(0:Int)<=n/\(n:Int)<=y:=⟨by omega,by omega⟩;simp[Instr.sliceBound,asIntOf,this]
    rcases hc.iw rfl with ⟨hb,ky,qb,yG,he⟩|⟨b,oo,cap,c',hb,lJ,mO,he⟩
    ·refine⟨dG ι j .nil,.slice none 0 0,w,gN (hm.du j hj),.slcN (fK _ _ _),hm.add hj (.inl ⟨rfl,rfl⟩) n_ n_ n_,.inl ?_⟩;subst ky;have kU:∀ code,(Instr.sliceBound (.int .i64 0) 0 code).run P w=.ok 0 w:=λcode=>by simp[Instr.sliceBound,asIntOf]
     simp only[execOp,bW];simp[Instr.sliceAt,iS ht,Instr.slice,dR,fD,dp,he,vI,Instr.sliceBounds,kU,sizeOf,typeInfo,iB]
    ·dsimp only at hb he;obtain⟨o1,xm⟩:∃ o1,o1=(if c'=n then oo+off else oo+off+n*i.size):=⟨_,rfl⟩;have hsn:=hm.seen k x b oo cap hk hx hb;refine⟨dG ι j (.at b o1 (c'-n)),.slice (some ⟨b,o1+0,none⟩) 0 (c'-n),w,gN (hm.du j hj),.slc (fK _ _ _) (lh _) (kh _),hm.add hj (.inr ⟨b,o1,c'-n,[],rfl,.nil,λj u h=>by simp at h⟩) n_ n_ (λb1 o2 mh _ e=>?_),.inl ?_⟩
     ·injection e with e1 e2 e3;subst e1;exact hsn
     ·simp only[execOp,bW];by_cases iR:c'=n
      ·rw[ax iR]at xm;subst xm;subst iR;simp[Instr.sliceAt,iS ht,Instr.slice,dR,fD,dp,he,vI,Instr.sliceBounds,Lv c' _ (bt _),sizeOf,typeInfo,iB]
      ·rw[au iR]at xm;subst xm;simp[Instr.sliceAt,iS ht,Instr.slice,dR,fD,dp,he,vI,Instr.sliceBounds,Lv n _ (bt _),sizeOf,typeInfo,iB,iR,AQ]
   ·cases ho
  ·cases ho
 ·cases ho
def aX.aSg(fn:Func)(key k off n cc s j:Nat)(x:Obj)(hx:x.gw=true)(ho:r5 P (av fn key)=some (true,false,s)):aX P B N:=
 .step key (av fn key) [.slice (some ⟨k,off,some 7⟩) n cc,vI n] [(j,none),(k,some x)] (.slice (some ⟨j,0,some 7⟩) 0 0) [(j,.view [])] (aSf ho hx j)
end
section
open V3 (dot ao bC smul)
def aWA:List (V3 K)->V3 K->List (V3 K)
 |[],v=>[v]
 |p::l,v=>if dZ p v=0 then p::l else if 0<dZ p v then v::p::l else p::aWA l v
theorem QT(v:V3 K):∀ vs:List (V3 K),(∃(i:Nat) (p:V3 K),vs[i]?=some p/\dZ p v=0/\(∀(j:Nat) (q:V3 K),j<i->vs[j]?=some q->dZ q v<0)/\aWA vs v=vs)\/
  ∃ i:Nat,i<=vs.length/\(∀(j:Nat) (q:V3 K),j<i->vs[j]?=some q->dZ q v<0)/\(i=vs.length\/∃ p,vs[i]?=some p/\0<dZ p v)/\aWA vs v=vs.take i++[v]++vs.drop i
 |[]=>.inr ⟨0,bt _,λj q hj=>by omega,.inl rfl,rfl⟩
 |p::l=>by
  unfold aWA;by_cases h0:dZ p v=0
  ·rw[ax h0];exact .inl ⟨0,p,rfl,h0,λj q hj=>by omega,rfl⟩
  ·rw[au h0];by_cases h1:0<dZ p v
   ·rw[ax h1];exact .inr ⟨0,lh _,λj q hj=>by omega,.inr ⟨p,rfl,h1⟩,rfl⟩
   ·rw[au h1];have dr:∀{i:Nat} (H:∀(j:Nat) (q:V3 K),j<i->l[j]?=some q->dZ q v<0) (j:Nat) (q:V3 K),j<i+1->(p::l)[j]?=some q->dZ q v<0:=λ{i} H j q hj hq=>by
     cases j with
     |zero=>simp at hq;subst hq;omega
     |succ j=>exact H j q o_ (by simpa using hq)
    rcases QT v l with ⟨i,q,q1,q2,q3,q4⟩|⟨i,q1,q2,q3,q4⟩
    ·exact .inl ⟨i+1,q,by simpa using q1,q2,dr q3,by rw[q4]⟩
    ·refine .inr ⟨i+1,by simpa using q1,dr q2,?_,by rw[q4];rfl⟩;rcases q3 with h|⟨q,h,h2⟩
     ·exact .inl (by rw[h];rfl)
     ·exact .inr ⟨q,by simpa using h,h2⟩
theorem aSh{a b:Int}{t:Bool}(h:decide (a=b)=t):Value.bool (a==b)=.bool t:=by
 by_cases e:a=b
 ·rw[aB e]at h;subst h;exact yd e
 ·rw[aJ e]at h;subst h;exact pN e
theorem aSi{vs:List (V3 K)}{i:Nat}{p:V3 K}(h:vs[i]?=some p):dw prog 33 (aL vs) (i*30)=some (bF p):=sO (by rw[AW,h];rfl)
theorem aFu(vs:List (V3 K))(i:Nat):(aL vs).drop (i*30)=aL (vs.drop i):=by unfold aL;rw[Vc gh,List.map_drop]
theorem QU(vs:List (V3 K))(i:Nat):(aL vs).take (i*30)=aL (vs.take i):=by unfold aL;rw[Vd gh,CD]
section
variable{Bs:aa}{vs:List (V3 K)}{v:V3 K}{m:Nat}
def yt(n i:Nat):aR:=[(5,vI i),(0,sl 0 n),(3,ptr 1)]
def ug(vs:List (V3 K))(v:V3 K):aH:=[(0,.view (aL vs)),(1,.aI (cx v).cs 33)]
noncomputable def W7{n i:Nat}{p:V3 K}{t:Bool}(hi:i<n)(hp:vs[i]?=some p)(sp:aD m p)(sv:aD m v)(hm:8*m+100<=aA)(ht:decide (dZ p v=0)=t)(more:bI prog Bs 36):bI prog Bs 36:=
 .lt 10 i n true (aB hi)::.cT f102 13 0 n i 30 hi k_::.ld f102 14 33 0 (i*30) (.view (aL vs)) (bF p) rfl (aSi hp) k_::(aWK sp sv o_).at 16::.rw 18 _ (.bool t) (aSh ht)::more
theorem aFv{n i:Nat}{p:V3 K}(hi:i<n)(hp:vs[i]?=some p)(sp:aD m p)(sv:aD m v)(hm:8*m+100<=aA)(hb:dZ p v<0)(h63:n<1000):
  ag prog Bs 36 (aF (af f102 0)) (yt n i) (ug vs v) 2 ⟨.normal,yt n (i+1),ug vs v,2⟩:=
 aC (W7 hi hp sp sv hm (aJ o_) [.rw 21 _ (.bool false) (QO (z:=dZ p v) (t:=false) (aB o_)),.sum 23 i 1 (i+1) rfl o_])
theorem aSj{n i:Nat}{p:V3 K}(hi:i<n)(hp:vs[i]?=some p)(sp:aD m p)(sv:aD m v)(hm:8*m+100<=aA)(hb:dZ p v=0):
  ag prog Bs 36 (aF (af f102 0)) (yt n i) (ug vs v) 2 ⟨.ret,[(4,sl 0 n)],ug vs v,2⟩:=
 aC (W7 hi hp sp sv hm (aB hb) [])
theorem aSk{n i:Nat}{p:V3 K}(hi:i<n)(hp:vs[i]?=some p)(sp:aD m p)(sv:aD m v)(hm:8*m+100<=aA)(hb:0<dZ p v):
  ag prog Bs 36 (aF (af f102 0)) (yt n i) (ug vs v) 2 ⟨.exit 0,yt n i,ug vs v,2⟩:=
 aC (W7 hi hp sp sv hm (aJ o_) [.rw 21 _ (.bool true) (QO (z:=dZ p v) (t:=true) (aJ o_))])
theorem aSl(hs:∀ p∈vs,aD m p)(sv:aD m v)(hm:8*m+100<=aA)(h63:vs.length<1000){i:Nat}(hi:i<=vs.length)(h1:∀(j:Nat) (q:V3 K),j<i->vs[j]?=some q->dZ q v<0)(h2:i=vs.length\/∃ p,vs[i]?=some p/\0<dZ p v):
  ag prog Bs 36 (.block 0 (af f102 0)) (yt vs.length 0) (ug vs v) 2 ⟨.normal,yt vs.length i,ug vs v,2⟩:=
 bT (id:=0) (cd i (yt vs.length) (λ_=>ug vs v) (λ_ _ _=>Iff.rfl) (r:=⟨.exit 0,yt vs.length i,ug vs v,2⟩) (λj hj=>by
  have hx:vs[j]?=some vs[j]:=bd o_;exact aFv o_ hx (hs _ (dz _)) sv hm (h1 j _ hj hx) h63) (by
  rcases h2 with rfl|⟨p,h2,h3⟩
  ·exact aC [.lt 10 vs.length vs.length false s_]
  ·exact aSk (eh.1 h2).1 h2 (hs p (cJ h2)) sv hm h3) n_)
theorem aSm(hs:∀ p∈vs,aD m p)(sv:aD m v)(hm:8*m+100<=aA)(h63:vs.length<1000){i:Nat}{p:V3 K}(hp:vs[i]?=some p)(h0:dZ p v=0)(h1:∀(j:Nat) (q:V3 K),j<i->vs[j]?=some q->dZ q v<0){w:World}{va:Value}(gn:cO w va vs.length (aL vs)):
  Calls prog 102 #[va,bF v] w λe w'=>e=.returned va/\Below w.heap.size w w':=by
 have hl:∀ s∈[cE.row va vs.length (aL vs),cE.plain (bF v)],s.OK w:=by
  intro s hs;simp at hs;rcases hs with rfl|rfl
  ·exact⟨gn,bh.1 (dF _)⟩
  ·rfl
 have ak:=(eh.1 hp).1;have lo:ag prog (aa.at w) 36 (.block 0 (af f102 0)) (yt vs.length 0) (ug vs v) 2 ⟨.ret,[(4,sl 0 vs.length)],ug vs v,2⟩:=
  bT (id:=0) (cd i (yt vs.length) (λ_=>ug vs v) (λ_ _ _=>Iff.rfl) (r:=⟨.ret,[(4,sl 0 vs.length)],ug vs v,2⟩) (λj hj=>by have hx:vs[j]?=some vs[j]:=bd o_;exact aFv o_ hx (hs _ (dz _)) sv hm (h1 j _ hj hx) h63) (aSj ak hp (hs p (cJ hp)) sv hm h0) n_)
 refine lO (Q:=λe w'=>e=.returned va/\Below w.heap.size w w') mixed func102 [cE.row va vs.length (aL vs),cE.plain (bF v)] hl 100 (N:=36) k_
  (rs:=[(.code 0 _ _ _ _ _ lo:aX prog (aa.at w) 36)]) (v:=sl 0 vs.length) (ms:=[]) k_ λaw bZ v' w' kg bj _ dj=>⟨?_,bj.base⟩
 cases dj with
 |cons h5 _=>rw[JO kg h5];rfl
end
section
variable{vs:List (V3 K)}{v:V3 K}{m:Nat}
noncomputable def W8(Bs:aa)(vs:List (V3 K))(v:V3 K)(i:Nat)(hi:i<=vs.length)(h63:vs.length<1000)(more:bI prog Bs 36):bI prog Bs 36:=
 .Lq f102 24 2 33 30 zV.v k_::.upto f102 27 0 vs.length i 30 hi k_::
 .QS f102 28 3 2 0 i i 33 30 360 0 0 [] 0 (.view (aL vs)) (aL (vs.take i)) (kh i) rfl (by
   show((aL vs).drop 0 |>.take (i*30)).length=i*30;rw[mB,QU,sS,ji,oq hi]) rfl (by
   show[]++(((aL vs).drop 0).take (i*30))=_;rw[mB,QU];rfl) (Li vs) d_ (by simp[maxLen];omega) o_ k_::
 .bs f102 30 4 1 33 30 [0] zV.v [bF v] (aL [v]).toArray (.row (aL [v]) 33 30) rfl (bh.1 k_) (bh.1 (dF _)) k_ k_ d_ d_ k_::
 .pB f102 31 5 3 i 1 (i+1) 33 30 360 (aL (vs.take i)) 4 (.row (aL [v]) 33 30) (aL (vs.take i++[v])) rfl rfl (sS _) (by rw[sS,ji,oq hi]) (Vp _ _) (Li _) d_ (by simp[maxLen];omega) o_ k_::more
theorem aSn(hs:∀ p∈vs,aD m p)(sv:aD m v)(hm:8*m+100<=aA)(h63:vs.length<1000){i:Nat}(hi:i<=vs.length)(h1:∀(j:Nat) (q:V3 K),j<i->vs[j]?=some q->dZ q v<0)(h2:i=vs.length\/∃ p,vs[i]?=some p/\0<dZ p v):
  lX prog 102 [u5 vs,.p (bF v)] 33 30 (vs.length+1) (aL (vs.take i++[v]++vs.drop i)):=by
 have az:([u5 vs,aT.p (bF v)].all aT.ok)=true:=by simp only[dM,fH,jq];rw[show(u5 vs).ok=true from dF vs];rfl
 have lo:=λBs=>aSl (Bs:=Bs) hs sv hm h63 hi h1 h2;have hlen:(aL (vs.take i++[v]++vs.drop i)).length=(vs.length+1)*30:=by
  rw[sS];congr 1
  simp[ji];omega
 have fT:(aL (vs.take i++[v])).length=(i+1)*30:=by
  rw[sS];congr 1
  simp[ji];omega
 rcases eL i vs.length with ak|dT
 ·refine zz (k:=6) mixed func102 az 200 (N:=36) k_ (λw=>.code 0 _ _ _ _ _ (lo _)::W8 _ vs v i hi h63 [.behind f102 34 0 vs.length i (vs.length-i) 30 o_ o_ k_,.QS f102 35 6 5 (i+1) (vs.length-i) (vs.length+1) 33 30 360 (i*30) i (aL (vs.take i++[v])) 0 (.view (aL vs)) (aL (vs.take i++[v]++vs.drop i)) o_ rfl (by
    show(((aL vs).drop (i*30)).take ((vs.length-i)*30)).length=(vs.length-i)*30;rw[aFu,QU,sS,ji,vt,Nat.min_self]) fT (by
    show _++(((aL vs).drop (i*30)).take ((vs.length-i)*30))=_;rw[aFu,QU,show(vs.drop i).take (vs.length-i)=vs.drop i from kB (by rw[vt];exact bt _),Vp]) (Li vs) d_ (by simp[maxLen];omega) o_ k_]) (λw=>k_) (dF _) hlen
 ·have ct:i=vs.length:=by omega
  subst ct;have e:vs.take vs.length++[v]++vs.drop vs.length=vs.take vs.length++[v]:=by rw[List.drop_length,jn]
  rw[e]at hlen ⊢;by_cases h0:vs.length=0
  ·refine zz (k:=6) mixed func102 az 200 (N:=36) k_ (λw=>.code 0 _ _ _ _ _ (lo _)::W8 _ vs v vs.length hi h63 [.rw 33 (vI vs.length) (vI 0) (by rw[h0]),.aSe f102 34 0 vs.length 30 k_,.QS f102 35 6 5 (vs.length+1) vs.length (vs.length+1) 33 30 360 0 0 (aL (vs.take vs.length++[v])) 0 (.view (aL vs)) (aL (vs.take vs.length++[v])) o_ rfl (by
     show(((aL vs).drop 0).take (vs.length*30)).length=vs.length*30;rw[h0];rfl) fT (by
     show _++(((aL vs).drop 0).take (vs.length*30))=_;rw[show((aL vs).drop 0).take (vs.length*30)=[]by rw[h0,lN,Z8]];exact jn _) (Li vs) d_ (by simp[maxLen];omega) o_ k_]) (λw=>k_) (dF _) hlen
  ·refine zz (k:=7) mixed func102 az 200 (N:=36) k_ (λw=>.code 0 _ _ _ _ _ (lo _)::W8 _ vs v vs.length hi h63 [.aSg f102 34 0 0 vs.length 0 30 6 (.view (aL vs)) rfl k_,.pB f102 35 7 5 (vs.length+1) 0 (vs.length+1) 33 30 360 (aL (vs.take vs.length++[v])) 6 (.view []) (aL (vs.take vs.length++[v])) rfl rfl rfl fT (jn _) n_ d_ (by simp[maxLen];omega) o_ k_]) (λw=>k_) (dF _) hlen
end
def ew(ps:List (HS K))(i:Nat):HS K:=match ps[i]? with|some p=>p|none=>⟨0,0⟩
theorem pR{ps:List (HS K)}{i:Nat}{p:HS K}(h:ps[i]?=some p):ew ps i=p:=by unfold ew;rw[h]
def I6(i j k:Nat)(x:V3 K)(l:Nat)(p:HS K):Bool:=decide (l=i)||(decide (l=j)||(decide (l=k)||decide (OF.ay (dot p.n x-p.d)<=0)))
def AD(ps:List (HS K))(i j k:Nat)(x:V3 K):Bool:=(List.range ps.length).all λl=>I6 i j k x l (ew ps l)
def uh(ps:List (HS K))(acc:List (V3 K))(i j k:Nat):List (V3 K):=
 if bC (ew ps i).n (ew ps j).n (ew ps k).n=0 then acc else if AD ps i j k (k9 (ew ps i) (ew ps j) (ew ps k))then aWA acc (k9 (ew ps i) (ew ps j) (ew ps k))else acc
theorem aSo{Bs:aa}{vs:List (V3 K)}{v:V3 K}{m:Nat}(hs:∀ p∈vs,aD m p)(sv:aD m v)(hm:8*m+100<=aA)(h63:vs.length<1000){i:Nat}{p:V3 K}(hp:vs[i]?=some p)(h0:dZ p v=0)(h1:∀(j:Nat) (q:V3 K),j<i->vs[j]?=some q->dZ q v<0)
  {o:Oper} {y:Operand} (ho:dx o.op=some y) (k:Nat):cD prog Bs o [.func (.func 102) #[] #[],sl k vs.length,bF v] [(k,some (.row (aL vs) 33 30))] (sl k vs.length) []:=by
 refine jM (fi:=[]) (ca:=[]) ho k_ λι c w bj hn args' aY=>?_;rw[jw,jn]at aY;obtain⟨va,vb,rfl,hv,iJ⟩:=jI aY;rw[iJ.eY rfl];have hk:c k=some _:=hn _ (aU ..);have hr:=oP (len:=vs.length*30) bj hk rfl (bh.1 (dF vs)) (λh=>by rw[h]) hv;have e:(((Obj.row (aL vs) 33 30).cells.drop 0).take (vs.length*30))=aL vs:=by show((aL vs).drop 0).take (vs.length*30)=_;rw[mB,kB (by rw[sS];exact bt _)]
 rw[e]at hr;refine(aSm hs sv hm h63 hp h0 h1 hr).mono ?_
 rintro e w' ⟨rfl,hb⟩
 exact⟨ι,_,rfl,Map.le.refl _,hv,bj.call hb⟩
section
variable{Bs:aa}{ps:List (HS K)}{m:Nat}
def I7(n i j k l:Nat)(f:Bool):aR:=[(10,vI l),(9,.bool f),(0,sl 0 n),(4,vI i),(5,vI j),(6,vI k),(7,ptr 4)]
def AE(ps:List (HS K))(x:V3 K):aH:=[(0,.view (aN ps)),(4,.aI (cx x).cs 33)]
theorem aFw{i j k l:Nat}{p:HS K}{x:V3 K}{t:Bool}(hl:l<ps.length)(hp:ps[l]?=some p)(sp:bo m p)(sx:aD m x)(pn:p.n≠0)(hm:100*m+1000<=aA)(ht:I6 i j k x l p=t)(h63:ps.length<1000):
  ag prog Bs 81 (aF (af f60 6)) (I7 ps.length i j k l true) (AE ps x) 5 ⟨.normal,I7 ps.length i j k (l+1) t,AE ps x,5⟩:=by
 unfold I6 at ht;have sd:=aWl sp sx o_ pn;by_cases h1:l=i
 ·rw[aB h1,GW]at ht;subst ht;exact aC [.lt 48 l ps.length true (aB hl),.fv 56 l i true (aB h1),.sum 53 l 1 (l+1) rfl o_]
 rw[aJ h1,vD]at ht;by_cases h2:l=j
 ·rw[aB h2,GW]at ht;subst ht;exact aC [.lt 48 l ps.length true (aB hl),.fv 56 l i false (aJ h1),.fv 60 l j true (aB h2),.sum 53 l 1 (l+1) rfl o_]
 rw[aJ h2,vD]at ht;by_cases h3:l=k
 ·rw[aB h3,GW]at ht;subst ht;exact aC [.lt 48 l ps.length true (aB hl),.fv 56 l i false (aJ h1),.fv 60 l j false (aJ h2),.fv 65 l k true (aB h3),.sum 53 l 1 (l+1) rfl o_]
 rw[aJ h3,vD]at ht;exact aC [.lt 48 l ps.length true (aB hl),.fv 56 l i false (aJ h1),.fv 60 l j false (aJ h2),.fv 65 l k false (aJ h3),.cT f60 70 0 ps.length l 40 hl k_,.ld f60 71 35 0 (l*40) (.view (aN ps)) (cB p) rfl (QN hp) k_,sd.at 73,.rw 74 (.bool (decide (OF.ay (dot p.n x-p.d)<=0))) (.bool t) (by rw[ht]),.sum 53 l 1 (l+1) rfl o_]
theorem aSp{i j k l:Nat}{x:V3 K}:ag prog Bs 81 (aF (af f60 6)) (I7 ps.length i j k l false) (AE ps x) 5 ⟨.exit 6,[(9,.bool false)],AE ps x,5⟩:=by
 by_cases h:l<ps.length
 ·exact aC [.lt 48 l ps.length true (aB h)]
 ·exact aC [.lt 48 l ps.length false (aJ h)]
theorem aSq{i j k:Nat}{x:V3 K}(hs:∀ p∈ps,bo m p/\p.n≠0)(sx:aD m x)(hm:100*m+1000<=aA)(h63:ps.length<1000):
  ag prog Bs 81 (.block 6 (af f60 6)) (I7 ps.length i j k 0 true) (AE ps x) 5 ⟨.normal,[(9,.bool (AD ps i j k x))],AE ps x,5⟩:=by
 unfold AD;rcases I3 (λl=>I6 i j k x l (ew ps l)) ps.length with h|⟨n,hn,h2,h3,h4⟩
 ·rw[h];exact bT (id:=6) (cd ps.length (λl=>I7 ps.length i j k l true) (λ_=>AE ps x) (λ_ _ _=>Iff.rfl) (r:=⟨.exit 6,[(9,.bool true)],AE ps x,5⟩) (λl hl=>by have hx:ps[l]?=some ps[l]:=bd hl;have:=I4 h hl;rw[pR hx]at this;exact aFw hl hx (hs _ (dz hl)).1 sx (hs _ (dz hl)).2 hm this h63) (aC [.lt 48 ps.length ps.length false s_]) n_)
 ·rw[h4];exact bT (id:=6) (cd (n+1) (λl=>I7 ps.length i j k l (decide (l<=n))) (λ_=>AE ps x) (λ_ _ _=>Iff.rfl) (r:=⟨.exit 6,[(9,.bool false)],AE ps x,5⟩) (λl hl=>by
   have nr:l<ps.length:=by omega
   have hx:ps[l]?=some ps[l]:=bd nr;simp only[aB (show l<=n by omega)];refine aFw nr hx (hs _ (dz nr)).1 sx (hs _ (dz nr)).2 hm ?_ h63;by_cases he:l=n
   ·subst he;rw[pR hx]at h2;rw[h2];exact(aJ o_).symm
   ·have:=h3 l o_;rw[pR hx]at this;rw[this];exact(aB o_).symm) (by
   simp only[aJ (show ¬n+1<=n by omega)];exact aSp) n_)
def L0(n i j k L:Nat):aR:=[(6,vI k),(5,vI j),(4,vI i),(0,sl 0 n),(3,sl 3 L)]
def oJ(ps:List (HS K)):aH:=[(0,.view (aN ps))]
def oK(acc:List (V3 K)):List Obj:=[.row (aL acc) 33 30]
noncomputable def QV{i j k:Nat}{p q r:HS K}(hi:i<ps.length)(hj:j<i)(hk:k<j)(hp:ps[i]?=some p)(hq:ps[j]?=some q)(hr:ps[k]?=some r)(sp:bo m p)(sq:bo m q)(sr:bo m r)(pn:p.n≠0)(qn:q.n≠0)(rn:r.n≠0)(hm:200*m+1000<=aA){u:Value}
  (hu:(if bC p.n q.n r.n=0 then Value.tuple #[zV.v,.int .i64 11]else .tuple #[bF (k9 p q r),.int .i64 0])=u) (more:bI prog Bs 81):bI prog Bs 81:=
 .lt 24 k j true (aB hk)::.cT f60 30 0 ps.length i 40 hi k_::.ld f60 31 35 0 (i*40) (.view (aN ps)) (cB p) rfl (QN hp) k_::.cT f60 34 0 ps.length j 40 o_ k_::.ld f60 35 35 0 (j*40) (.view (aN ps)) (cB q) rfl (QN hq) k_::
 .cT f60 38 0 ps.length k 40 o_ k_::.ld f60 39 35 0 (k*40) (.view (aN ps)) (cB r) rfl (QN hr) k_::(hu▸aQH sp sq sr hm pn qn rn:aE prog 101 [cB p,cB q,cB r] u).at 40::more
theorem aSr{i j k M:Nat}{acc:List (V3 K)}(hs:∀ p∈ps,bo m p/\p.n≠0)(hm:200*m+1000<=aA)(hM:120*m+365<=M)(AF:100*M+1000<=aA)(ha:∀ v∈acc,aD M v)(hL:acc.length<1000)(hi:i<ps.length)(hj:j<i)(hk:k<j)(h63:ps.length<1000):
  ∃ σ ft,(∀ B0:List (V3 K),C1 (oJ ps++dV [some 2] (oK B0)) 3 σ (L0 ps.length i j (k+1) (uh ps acc i j k).length) (oJ ps) (oK (uh ps acc i j k))=true)/\
   ag prog Bs 81 (aF (af f60 4)) (L0 ps.length i j k acc.length) (oJ ps++marks 3 (oK acc)) 4 ⟨.normal,ij 3 σ (L0 ps.length i j (k+1) (uh ps acc i j k).length),oJ ps++dV σ (oK (uh ps acc i j k)),ft⟩:=by
 have hp:ps[i]?=some ps[i]:=bd hi;have hq:ps[j]?=some ps[j]:=bd o_;have hr:ps[k]?=some ps[k]:=bd o_;obtain⟨sp,pn⟩:=hs _ (dz hi);obtain⟨sq,qn⟩:=hs _ (dz (show j<ps.length by omega));obtain⟨sr,rn⟩:=hs _ (dz (show k<ps.length by omega));unfold uh;rw[pR hp,pR hq,pR hr];generalize ps[i]=p at *;generalize ps[j]=q at *;generalize ps[k]=r at *;by_cases hd:bC p.n q.n r.n=0
 ·rw[ax hd];refine⟨[some 3],5,λB0=>k_,?_⟩;exact fq mixed 200 (QV hi hj hk hp hq hr sp sq sr pn qn rn hm (ax hd) [.sum 26 k 1 (k+1) rfl o_]) k_
 ·rw[au hd];have sx:aD M (k9 p q r):=(aD.k9 sp sq sr hd).mono hM;have mM:m<=M:=by clear hm AF;omega
  have pv:∀ p∈ps,bo M p/\p.n≠0:=λt ht=>⟨(hs t ht).1.mono mM,(hs t ht).2⟩;have lo:=aSq (Bs:=Bs) (i:=i) (j:=j) (k:=k) pv sx AF h63;generalize k9 p q r=x at *;by_cases hb:AD ps i j k x=true
  ·rw[ax hb];rw[hb]at lo;rcases QT x acc with ⟨t,y,h1,h2,h3,h4⟩|⟨t,h1,h2,h3,h4⟩
   ·rw[h4];refine⟨[some 3],5,λB0=>k_,?_⟩;exact fq mixed 200 (QV hi hj hk hp hq hr sp sq sr pn qn rn hm (au hd) [.code 6 _ _ _ _ _ lo,.step 79 (av f60 79) [.func (.func 102) #[] #[],sl 3 acc.length,bF x] [(3,some (.row (aL acc) 33 30))] (sl 3 acc.length) [] (aSo ha sx (by clear hm;omega) hL h1 h2 h3 (y:=.func 102) k_ 3),.sum 26 k 1 (k+1) rfl o_]) k_
   ·have hlen:(aWA acc x).length=acc.length+1:=by rw[h4];simp only[jx,ji,vt,BV];omega
    have hc:=aSn ha sx (by clear hm;omega) hL h1 h2 h3;rw[<-h4]at hc;rw[hlen];generalize aWA acc x=aFx at *;refine⟨[some 5],6,λB0=>k_,?_⟩;exact fq mixed 200 (QV hi hj hk hp hq hr sp sq sr pn qn rn hm (au hd) [.code 6 _ _ _ _ _ lo,.step 79 (av f60 79) [.func (.func 102) #[] #[],sl 3 acc.length,bF x] [(5,none),(3,some (.row (aL acc) 33 30))] (sl 5 (acc.length+1)) [(5,.row (aL aFx) 33 30)]
      (qo hc (.w (x:=.row (aL acc) 33 30) rfl (dF acc) xP (.p k_ .nil)) (x:=.func 102) k_ k_ (dF aFx) 5),
     .sum 26 k 1 (k+1) rfl o_]) k_
  ·have jK:AD ps i j k x=false:=by cases h:AD ps i j k x<;>first|rfl|exact absurd h hb
   rw[au hb];rw[jK]at lo;refine⟨[some 3],5,λB0=>k_,?_⟩;exact fq mixed 200 (QV hi hj hk hp hq hr sp sq sr pn qn rn hm (au hd) [.code 6 _ _ _ _ _ lo,.sum 26 k 1 (k+1) rfl o_]) k_
end
def ph(ps:List (HS K))(acc:List (V3 K))(i j:Nat):Nat->List (V3 K)
 |0=>acc
 |k+1=>uh ps (ph ps acc i j k) i j k
def ob(ps:List (HS K))(acc:List (V3 K))(i:Nat):Nat->List (V3 K)
 |0=>acc
 |j+1=>ph ps (ob ps acc i j) i j j
def rK(ps:List (HS K)):Nat->List (V3 K)
 |0=>[]
 |i+1=>ob ps (rK ps i) i i
def eX(ps:List (HS K)):List (V3 K):=rK ps ps.length
theorem aSs{v x:V3 K}:∀{vs:List (V3 K)},x∈aWA vs v->x∈vs\/x=v:=λ{vs} h=>by
 rcases QT v vs with ⟨_,_,_,_,_,h4⟩|⟨t,_,_,_,h4⟩
 ·rw[h4]at h;exact .inl h
 ·rw[h4]at h;simp only[dX,O9]at h;rcases h with (h|h)|h
  ·exact .inl (Ir h)
  ·exact .inr h
  ·exact .inl (WV h)
theorem aSt(v:V3 K)(vs:List (V3 K)):(aWA vs v).length<=vs.length+1:=by
 rcases QT v vs with ⟨_,_,_,_,_,h4⟩|⟨t,_,_,_,h4⟩
 ·rw[h4];omega
 ·rw[h4];simp only[jx,ji,vt,BV];omega
theorem aSu(ps:List (HS K))(acc:List (V3 K))(i j k:Nat):(uh ps acc i j k).length<=acc.length+1:=by
 unfold uh;by_cases h:bC (ew ps i).n (ew ps j).n (ew ps k).n=0
 ·rw[ax h];omega
 ·rw[au h];split
  ·exact aSt _ _
  ·omega
theorem W9{ps:List (HS K)}{m:Nat}(hs:∀ p∈ps,bo m p/\p.n≠0){i:Nat}(hi:i<ps.length):bo m (ew ps i):=by rw[pR (bd hi)];exact(hs _ (dz hi)).1
theorem aSv{ps:List (HS K)}{m M:Nat}(hs:∀ p∈ps,bo m p/\p.n≠0)(hM:120*m+365<=M){acc:List (V3 K)}(ha:∀ v∈acc,aD M v){i j k:Nat}(hi:i<ps.length)(hj:j<ps.length)(hk:k<ps.length):∀ v∈uh ps acc i j k,aD M v:=by
 unfold uh;by_cases h:bC (ew ps i).n (ew ps j).n (ew ps k).n=0
 ·rw[ax h];exact ha
 ·rw[au h];split
  ·intro v hv;rcases aSs hv with hv|hv
   ·exact ha v hv
   ·rw[hv];exact(aD.k9 (W9 hs hi) (W9 hs hj) (W9 hs hk) h).mono hM
  ·exact ha
section
variable{ps:List (HS K)}{m M:Nat}
theorem Xa(hs:∀ p∈ps,bo m p/\p.n≠0)(hM:120*m+365<=M){acc:List (V3 K)}(ha:∀ v∈acc,aD M v){i j:Nat}(hi:i<ps.length)(hj:j<i):∀ k,k<=j->(∀ v∈ph ps acc i j k,aD M v)/\(ph ps acc i j k).length<=acc.length+k
 |0,_=>⟨ha,bt _⟩
 |k+1,h=>by obtain⟨h1,h2⟩:=Xa hs hM ha hi hj k o_;have:=aSu ps (ph ps acc i j k) i j k;exact⟨aSv hs hM h1 hi o_ o_,by unfold ph;omega⟩
theorem Xb(hs:∀ p∈ps,bo m p/\p.n≠0)(hM:120*m+365<=M)(h9:ps.length<=9){acc:List (V3 K)}(ha:∀ v∈acc,aD M v){i:Nat}(hi:i<ps.length):∀ j,j<=i->(∀ v∈ob ps acc i j,aD M v)/\(ob ps acc i j).length<=acc.length+9*j
 |0,_=>⟨ha,bt _⟩
 |j+1,h=>by obtain⟨h1,h2⟩:=Xb hs hM h9 ha hi j o_;obtain⟨h3,h4⟩:=Xa hs hM h1 hi (show j<i by omega) j (bt _);exact⟨h3,by unfold ob;omega⟩
theorem Xc(hs:∀ p∈ps,bo m p/\p.n≠0)(hM:120*m+365<=M)(h9:ps.length<=9):∀ i,i<=ps.length->(∀ v∈rK ps i,aD M v)/\(rK ps i).length<=81*i
 |0,_=>⟨λv hv=>(by cases hv),bt _⟩
 |i+1,h=>by obtain⟨h1,h2⟩:=Xc hs hM h9 i o_;obtain⟨h3,h4⟩:=Xb hs hM h9 h1 (show i<ps.length by omega) i (bt _);exact⟨h3,by unfold rK;omega⟩
theorem Xd{m:Nat}:∀ x∈oJ ps,eA m x.2:=λx hx=>by simp only[oJ,ch,iu,iv]at hx;subst hx;exact λv hv=>gQ (bh.1 (cX ps) v hv)
theorem Xe{m:Nat}{acc:List (V3 K)}:∀ x∈oK acc,eA m x:=λx hx=>by simp only[oK,ch,iu,iv]at hx;subst hx;exact λv hv=>gQ (bh.1 (dF acc) v hv)
variable{Bs:aa}
theorem aSw{i j:Nat}{acc:List (V3 K)}(hs:∀ p∈ps,bo m p/\p.n≠0)(hm:200*m+1000<=aA)(hM:120*m+365<=M)(AF:100*M+1000<=aA)(ha:∀ v∈acc,aD M v)(hi:i<ps.length)(hj:j<i)(h9:ps.length<=9)(hL:acc.length+j<1000):
  ag prog Bs 81 (.block 4 (af f60 4)) (ij 3 [some 2] (L0 ps.length i j 0 acc.length)) (oJ ps++dV [some 2] (oK acc)) 3 ⟨.normal,[(3,sl 3 (ph ps acc i j j).length)],oJ ps++marks 3 (oK (ph ps acc i j j)),4⟩:=by
 have:=su (P:=prog) (B:=Bs) (N:=81) (b:=aF (af f60 4)) (next:=3) (p:=1) (r:=⟨.exit 4,[(3,sl 3 (ph ps acc i j j).length)],oJ ps++marks 3 (oK (ph ps acc i j j)),4⟩) j
  (λk=>L0 ps.length i j k (ph ps acc i j k).length) (λ_=>oJ ps) (λk=>oK (ph ps acc i j k)) [some 2] (λ_ _=>rfl) (λ_ _=>⟨Xd,Xe⟩) k_ k_
  (λk hk=>by obtain⟨h1,h2⟩:=Xa hs hM ha hi hj k o_;obtain⟨σ,ft,e1,e2⟩:=aSr (Bs:=Bs) hs hm hM AF h1 o_ hi hj hk o_;exact⟨σ,ft,e1 _,e2⟩)
  (by generalize ph ps acc i j j=a;exact aC [.lt 24 j j false s_]) n_
 exact bT (id:=4) this
def Xf(n i j L:Nat):aR:=[(5,vI j),(4,vI i),(0,sl 0 n),(3,sl 2 L)]
theorem aSx{i:Nat}{acc:List (V3 K)}(hs:∀ p∈ps,bo m p/\p.n≠0)(hm:200*m+1000<=aA)(hM:120*m+365<=M)(AF:100*M+1000<=aA)(ha:∀ v∈acc,aD M v)(hi:i<ps.length)(h9:ps.length<=9)(hL:acc.length+9*i<1000):
  ag prog Bs 81 (.block 2 (af f60 2)) (ij 2 [some 1] (Xf ps.length i 0 acc.length)) (oJ ps++dV [some 1] (oK acc)) 2 ⟨.normal,[(3,sl 2 (ob ps acc i i).length)],oJ ps++marks 2 (oK (ob ps acc i i)),3⟩:=by
 have:=su (P:=prog) (B:=Bs) (N:=81) (b:=aF (af f60 2)) (next:=2) (p:=1) (r:=⟨.exit 2,[(3,sl 2 (ob ps acc i i).length)],oJ ps++marks 2 (oK (ob ps acc i i)),3⟩) i
  (λj=>Xf ps.length i j (ob ps acc i j).length) (λ_=>oJ ps) (λj=>oK (ob ps acc i j)) [some 1] (λ_ _=>rfl) (λ_ _=>⟨Xd,Xe⟩) k_ k_
  (λj hj=>by obtain⟨h1,h2⟩:=Xb hs hM h9 ha hi j o_;have lo:=aSw (Bs:=Bs) hs hm hM AF h1 hi hj h9 o_;refine⟨[some 3],4,k_,?_⟩;show ag _ _ _ _ _ _ _ ⟨.normal,ij 2 [some 3] (Xf ps.length i (j+1) (ph ps (ob ps acc i j) i j j).length),oJ ps++dV [some 3] (oK (ph ps (ob ps acc i j) i j j)),4⟩;generalize ob ps acc i j=a at *;generalize ph ps a i j j=b at *;exact aC [.lt 19 j i true (aB hj),.code 4 _ _ _ _ _ lo,.sum 21 j 1 (j+1) rfl o_])
  (by generalize ob ps acc i i=a;exact aC [.lt 19 i i false s_]) n_
 exact bT (id:=2) this
def Xg(n i L:Nat):aR:=[(4,vI i),(0,sl 0 n),(3,sl 1 L)]
theorem aSy(hs:∀ p∈ps,bo m p/\p.n≠0)(hm:200*m+1000<=aA)(hM:120*m+365<=M)(AF:100*M+1000<=aA)(h9:ps.length<=9):
  ag prog Bs 81 (.block 0 (af f60 0)) (ij 1 [none] (Xg ps.length 0 0)) (oJ ps++dV [none] (oK [])) 1 ⟨.normal,[(3,sl 1 (eX ps).length)],oJ ps++marks 1 (oK (eX ps)),2⟩:=by
 have:=su (P:=prog) (B:=Bs) (N:=81) (b:=aF (af f60 0)) (next:=1) (p:=1) (r:=⟨.exit 0,[(3,sl 1 (rK ps ps.length).length)],oJ ps++marks 1 (oK (rK ps ps.length)),2⟩) ps.length
  (λi=>Xg ps.length i (rK ps i).length) (λ_=>oJ ps) (λi=>oK (rK ps i)) [none] (λ_ _=>rfl) (λ_ _=>⟨Xd,Xe⟩) k_ k_
  (λi hi=>by obtain⟨h1,h2⟩:=Xc hs hM h9 i o_;have lo:=aSx (Bs:=Bs) hs hm hM AF h1 hi h9 o_;refine⟨[some 2],3,k_,?_⟩;show ag _ _ _ _ _ _ _ ⟨.normal,ij 1 [some 2] (Xg ps.length (i+1) (ob ps (rK ps i) i i).length),oJ ps++dV [some 2] (oK (ob ps (rK ps i) i i)),3⟩;generalize rK ps i=a at *;generalize ob ps a i i=b at *;exact aC [.lt 14 i ps.length true (aB hi),.code 2 _ _ _ _ _ lo,.sum 16 i 1 (i+1) rfl o_])
  (by generalize rK ps ps.length=a;exact aC [.lt 14 ps.length ps.length false s_]) n_
 exact bT (id:=0) this
theorem aSz(hs:∀ p∈ps,bo m p/\p.n≠0)(hm:200*m+1000<=aA)(hM:120*m+365<=M)(AF:100*M+1000<=aA)(h9:ps.length<=9):lX prog 60 [fJ ps] 33 30 (eX ps).length (aL (eX ps)):=by
 have az:([fJ ps].all aT.ok)=true:=by simp only[dM,fH,fJ,aT.ok,cX,jq]
 have lo:=λBs=>aSy (Bs:=Bs) hs hm hM AF h9;generalize eX ps=c at *;exact zz (k:=1) mixed func60 az 100 (N:=81) k_ (λ_=>[.code 0 _ _ _ _ _ (lo _)]) (λ_=>k_) (dF c) (sS c)
end
def QW(g:V3 K)(vs:List (V3 K))(o a b:Nat):Int:=OF.ay (bC g (aK vs a-aK vs o) (aK vs b-aK vs o))
def Cg(g:V3 K)(vs:List (V3 K))(o a:Nat)(b:Nat):Bool:=decide (QW g vs o a b=0)
section
variable{Bs:aa}{vs:List (V3 K)}{p:HS K}{o a:Nat}{l:List Nat}{m:Nat}
def GA(n r i:Nat):aR:=[(7,vI (i+2)),(1,sl 0 n),(2,sl 1 r),(3,ptr 2)]
def wF(vs:List (V3 K))(p:HS K)(on:List Nat):aH:=[(0,.view (aL vs)),(1,.view (ai on)),(2,.aI (cG p).cs 35)]
theorem neB{z:Int}{t:Bool}(h:decide (z=0)=!t):Value.bool (z !=0)=.bool t:=by
 congr 1
 cases t
 ·have:=kW h;subst this;rfl
 ·have:=HD h;exact uG.2 this
theorem ku(hs:∀ v∈vs,aD m v){i:Nat}(hi:i<vs.length):aD m (aK vs i):=hs _ (cJ (kM hi))
noncomputable def flS{i b:Nat}{t:Bool}(hb:l[i]?=some b)(hn:aD m p.n)(hs:∀ v∈vs,aD m v)(ho:o<vs.length)(ha:a<vs.length)(te:b<vs.length)(hm:200*m+400<=aA)(ht:Cg p.n vs o a b=!t)(more:bI prog Bs 37):bI prog Bs 37:=
 .lt 11 (i+2) (l.length+2) true (aB (by have:=(eh.1 hb).1;omega))::.ix f143 18 1 (l.length+2) 0 o_ k_::.ld f143 19 3 1 0 (.view (ai (o::a::l))) (vI o) rfl (dQ (l:=o::a::l) (i:=0) rfl) k_::
 .cT f143 20 0 vs.length o 30 ho k_::.ld f143 21 33 0 (o*30) (.view (aL vs)) (bF (aK vs o)) rfl (jV (kM ho)) k_::.ix f143 24 1 (l.length+2) 1 o_ k_::.ld f143 25 3 1 1 (.view (ai (o::a::l))) (vI a) rfl (dQ (l:=o::a::l) (i:=1) rfl) k_::
 .cT f143 26 0 vs.length a 30 ha k_::.ld f143 27 33 0 (a*30) (.view (aL vs)) (bF (aK vs a)) rfl (jV (kM ha)) k_::.ix f143 31 1 (l.length+2) (i+2) (by have:=(eh.1 hb).1;omega) k_::
 .ld f143 32 3 1 (i+2) (.view (ai (o::a::l))) (vI b) rfl (dQ (l:=o::a::l) (i:=i+2) hb) k_::.cT f143 33 0 vs.length b 30 te k_::.ld f143 34 33 0 (b*30) (.view (aL vs)) (bF (aK vs b)) rfl (jV (kM te)) k_::
 (aEf hn (ku hs ho) (ku hs ha) (ku hs te) hm).at 35::.rw 36 _ (.bool t) (neB ht)::more
theorem aFy{i b:Nat}(hb:l[i]?=some b)(hn:aD m p.n)(hs:∀ v∈vs,aD m v)(ho:o<vs.length)(ha:a<vs.length)(te:b<vs.length)(hm:200*m+400<=aA)(ht:Cg p.n vs o a b=true)(h63:l.length<900000):
  ag prog Bs 37 (aF (af f143 0)) (GA vs.length (l.length+2) i) (wF vs p (o::a::l)) 3 ⟨.normal,GA vs.length (l.length+2) (i+1),wF vs p (o::a::l),3⟩:=by
 have hi:=(eh.1 hb).1;exact fq mixed 200 (flS (t:=false) hb hn hs ho ha te hm ht [.sum 13 (i+2) 1 (i+1+2) o_ o_]) k_
theorem aSA{i b:Nat}(hb:l[i]?=some b)(hn:aD m p.n)(hs:∀ v∈vs,aD m v)(ho:o<vs.length)(ha:a<vs.length)(te:b<vs.length)(hm:200*m+400<=aA)(ht:Cg p.n vs o a b=false):
  ag prog Bs 37 (aF (af f143 0)) (GA vs.length (l.length+2) i) (wF vs p (o::a::l)) 3 ⟨.ret,[(6,.bool false)],wF vs p (o::a::l),3⟩:=
 fq mixed 200 (flS (t:=true) hb hn hs ho ha te hm ht []) k_
theorem aSB(hn:aD m p.n)(hs:∀ v∈vs,aD m v)(gY:∀ x∈o::a::l,x<vs.length)(hm:200*m+400<=aA)(h63:l.length<900000):cI prog 143 [.p (cB p),.r vs.length (aL vs),.r (l.length+2) (ai (o::a::l))] (.bool (l.all (Cg p.n vs o a))):=by
 have az:([aT.p (cB p),.r vs.length (aL vs),.r (l.length+2) (ai (o::a::l))].all aT.ok)=true:=by simp only[dM,fH,aT.ok,jq];rw[show(aL vs).all flat=true from dF vs,show(ai (o::a::l)).all flat=true from gJ _];rfl
 have ho:=gY o (aU ..);have ha:=gY a (bE _ (aU ..));have hl:∀{i b:Nat},l[i]?=some b->b<vs.length:=λh=>gY _ (bE _ (bE _ (cJ h)));rcases Cd (Cg p.n vs o a) l with h|⟨n,x,h1,h2,h3,h4⟩
 ·rw[h];have lo:∀ B:aa,ag prog B 37 (.block 0 (af f143 0)) (GA vs.length (l.length+2) 0) (wF vs p (o::a::l)) 3 ⟨.normal,[],wF vs p (o::a::l),3⟩:=λB=>
   bT (id:=0) (cd l.length (λi=>GA vs.length (l.length+2) i) (λ_=>wF vs p (o::a::l)) (λi k _=>Iff.rfl) (r:=⟨.exit 0,[],wF vs p (o::a::l),3⟩) (λi hi=>by have hx:l[i]?=some l[i]:=bd hi;exact aFy hx hn hs ho ha (hl hx) hm (Eh h hx) h63) (aC [.lt 11 (l.length+2) (l.length+2) false s_]) n_)
  exact ee func143 az 37 (λw=>[.code 0 _ _ _ _ _ (lo _)])
 ·rw[h4];have lo:∀ B:aa,ag prog B 37 (.block 0 (af f143 0)) (GA vs.length (l.length+2) 0) (wF vs p (o::a::l)) 3 ⟨.ret,[(6,.bool false)],wF vs p (o::a::l),3⟩:=λB=>
   bT (id:=0) (cd n (λi=>GA vs.length (l.length+2) i) (λ_=>wF vs p (o::a::l)) (λi k _=>Iff.rfl) (r:=⟨.ret,[(6,.bool false)],wF vs p (o::a::l),3⟩) (λi hi=>by have ak:=(eh.1 h1).1;have hx:l[i]?=some l[i]:=bd o_;exact aFy hx hn hs ho ha (hl hx) hm (h3 i _ hi hx) h63) (aSA h1 hn hs ho ha (hl h1) hm h2) n_)
  exact ee func143 az 37 (λw=>[.code 0 _ _ _ _ _ (lo _)])
end
def L3(vs:List (V3 K))(i k j:Nat):Bool:=decide (OF.ay (dot (ao (aK vs (i+1)-aK vs 0) (aK vs (k+1)-aK vs 0)) (aK vs (j+1)-aK vs 0))=0)
def GB(vs:List (V3 K))(i k:Nat):Bool:=(List.range k).all (L3 vs i k)
def Ej(vs:List (V3 K))(i:Nat):Bool:=(List.range i).all (GB vs i)
def vj(vs:List (V3 K)):Bool:=(List.range (vs.length-1)).all (Ej vs)
section
variable{Bs:aa}{vs:List (V3 K)}{m:Nat}
def Xh(n i k j:Nat):aR:=[(7,vI (j+1)),(5,vI (k+1)),(0,sl 0 n),(6,ptr 2)]
def sjM(vs:List (V3 K))(a c:V3 K):aH:=[(0,.view (aL vs)),(1,.aI (cx a).cs 33),(2,.aI (cx c).cs 33)]
noncomputable def Xi{i k j:Nat}{t:Bool}(hs:∀ v∈vs,aD m v)(hi:i+1<vs.length)(hk:k<i)(hj:j<k)(hm:300*m+1000<=aA)(ht:L3 vs i k j=!t)(more:bI prog Bs 54):bI prog Bs 54:=
 .lt 39 (j+1) (k+1) true (aB o_)::.cT f61 45 0 vs.length (j+1) 30 o_ k_::.ld f61 46 33 0 ((j+1)*30) (.view (aL vs)) (bF (aK vs (j+1))) rfl (jV (kM o_)) k_::
 .cT f61 48 0 vs.length 0 30 o_ k_::.ld f61 49 33 0 (0*30) (.view (aL vs)) (bF (aK vs 0)) rfl (jV (kM o_)) k_::
 (aWx (ku hs (show j+1<vs.length by omega)) (ku hs (show 0<vs.length by omega)) o_).at 50::
 (aWC (((ku hs hi).sub (ku hs (show 0<vs.length by omega))).ao ((ku hs (show k+1<vs.length by omega)).sub (ku hs (show 0<vs.length by omega)))) ((ku hs (show j+1<vs.length by omega)).sub (ku hs (show 0<vs.length by omega))) o_).at 51::
 (aWw ((((ku hs hi).sub (ku hs (show 0<vs.length by omega))).ao ((ku hs (show k+1<vs.length by omega)).sub (ku hs (show 0<vs.length by omega)))).dot ((ku hs (show j+1<vs.length by omega)).sub (ku hs (show 0<vs.length by omega)))) o_).at 52::
 .rw 53 _ (.bool t) (neB ht)::more
def GC(vs:List (V3 K))(i k:Nat):aH:=sjM vs (aK vs (i+1)-aK vs 0) (ao (aK vs (i+1)-aK vs 0) (aK vs (k+1)-aK vs 0))
theorem aFz{i k:Nat}(hs:∀ v∈vs,aD m v)(hi:i+1<vs.length)(hk:k<i)(hm:300*m+1000<=aA)(h63:vs.length<900000):
  ag prog Bs 54 (.block 4 (af f61 4)) (Xh vs.length i k 0) (GC vs i k) 3 (if GB vs i k then⟨.normal,[],GC vs i k,3⟩else⟨.ret,[(2,.bool true)],GC vs i k,3⟩):=by
 unfold GB;rcases I3 (L3 vs i k) k with h|⟨n,hn,h2,h3,h4⟩
 ·rw[h];exact bT (id:=4) (cd k (λj=>Xh vs.length i k j) (λ_=>GC vs i k) (λ_ _ _=>Iff.rfl) (r:=⟨.exit 4,[],GC vs i k,3⟩) (λj hj=>
   fq mixed 200 (Xi (t:=false) hs hi hk hj hm (I4 h hj) [.sum 41 (j+1) 1 (j+1+1) rfl o_]) k_) (aC [.lt 39 (k+1) (k+1) false s_]) n_)
 ·rw[h4];exact bT (id:=4) (cd n (λj=>Xh vs.length i k j) (λ_=>GC vs i k) (λ_ _ _=>Iff.rfl) (r:=⟨.ret,[(2,.bool true)],GC vs i k,3⟩) (λj hj=>
   fq mixed 200 (Xi (t:=false) hs hi hk o_ hm (h3 j hj) [.sum 41 (j+1) 1 (j+1+1) rfl o_]) k_) (fq mixed 200 (Xi (t:=true) hs hi hk hn hm h2 []) k_) n_)
def L4(n i k:Nat):aR:=[(5,vI (k+1)),(3,vI (i+1)),(0,sl 0 n),(4,ptr 1)]
def yu(vs:List (V3 K))(i:Nat):aH:=[(0,.view (aL vs)),(1,.aI (cx (aK vs (i+1)-aK vs 0)).cs 33)]
theorem aSC{i n:Nat}:∀ x∈yu vs i,eA n x.2:=λx hx=>by
 simp only[yu,ch,iu,iv]at hx;rcases hx with rfl|rfl
 ·exact λv hv=>gQ (bh.1 (dF vs) v hv)
 ·exact λv hv=>gQ (RV.nU _ v hv)
noncomputable def skS{i k:Nat}(hs:∀ v∈vs,aD m v)(hi:i+1<vs.length)(hk:k<i)(hm:300*m+1000<=aA)(more:bI prog Bs 54):bI prog Bs 54:=
 .lt 24 (k+1) (i+1) true (aB o_)::.cT f61 30 0 vs.length (k+1) 30 o_ k_::.ld f61 31 33 0 ((k+1)*30) (.view (aL vs)) (bF (aK vs (k+1))) rfl (jV (kM o_)) k_::
 .cT f61 33 0 vs.length 0 30 o_ k_::.ld f61 34 33 0 (0*30) (.view (aL vs)) (bF (aK vs 0)) rfl (jV (kM o_)) k_::
 (aWx (ku hs (show k+1<vs.length by omega)) (ku hs (show 0<vs.length by omega)) o_).at 35::
 (aW8 ((ku hs hi).sub (ku hs (show 0<vs.length by omega))) ((ku hs (show k+1<vs.length by omega)).sub (ku hs (show 0<vs.length by omega))) o_).at 36::more
theorem aFA{i:Nat}(hs:∀ v∈vs,aD m v)(hi:i+1<vs.length)(hm:300*m+1000<=aA)(h63:vs.length<900000):
  ag prog Bs 54 (.block 2 (af f61 2)) (L4 vs.length i 0) (yu vs i) 2 (if Ej vs i then⟨.normal,[],yu vs i,2⟩else⟨.ret,[(2,.bool true)],yu vs i,3⟩):=by
 have L5:∀ k,k<i->GB vs i k=true->ag prog Bs 54 (aF (af f61 2)) (L4 vs.length i k) (yu vs i) 2 ⟨.normal,L4 vs.length i (k+1),yu vs i,2⟩:=λk hk h=>by have lo:=aFz (Bs:=Bs) hs hi hk hm h63;rw[ax h]at lo;exact mV mixed 200 (ft:=3) (skS hs hi hk hm [.code 4 _ _ _ _ _ lo,.sum 26 (k+1) 1 (k+1+1) rfl o_]) k_ rfl k_ aSC k_
 unfold Ej;rcases I3 (GB vs i) i with h|⟨n,hn,h2,h3,h4⟩
 ·rw[h];exact bT (id:=2) (cd i (λk=>L4 vs.length i k) (λ_=>yu vs i) (λ_ _ _=>Iff.rfl) (r:=⟨.exit 2,[],yu vs i,2⟩) (λk hk=>L5 k hk (I4 h hk)) (aC [.lt 24 (i+1) (i+1) false s_]) n_)
 ·rw[h4];exact bT (id:=2) (cd n (λk=>L4 vs.length i k) (λ_=>yu vs i) (λ_ _ _=>Iff.rfl) (r:=⟨.ret,[(2,.bool true)],yu vs i,3⟩) (λk hk=>L5 k o_ (h3 k hk)) (by have lo:=aFz (Bs:=Bs) hs hi hn hm h63;rw[au (by rw[h2];decide)]at lo;exact fq mixed 200 (skS hs hi hn hm [.code 4 _ _ _ _ _ lo]) k_) n_)
def I8(n i:Nat):aR:=[(3,vI (i+1)),(0,sl 0 n)]
def wG(vs:List (V3 K)):aH:=[(0,.view (aL vs))]
theorem aSD{n:Nat}:∀ x∈wG vs,eA n x.2:=λx hx=>by simp only[wG,ch,iu,iv]at hx;subst hx;exact λv hv=>gQ (bh.1 (dF vs) v hv)
noncomputable def stS{i:Nat}(hs:∀ v∈vs,aD m v)(hi:i+1<vs.length)(hm:300*m+1000<=aA)(more:bI prog Bs 54):bI prog Bs 54:=
 .lt 11 (i+1) vs.length true (aB hi)::.cT f61 16 0 vs.length (i+1) 30 hi k_::.ld f61 17 33 0 ((i+1)*30) (.view (aL vs)) (bF (aK vs (i+1))) rfl (jV (kM hi)) k_::
 .cT f61 19 0 vs.length 0 30 o_ k_::.ld f61 20 33 0 (0*30) (.view (aL vs)) (bF (aK vs 0)) rfl (jV (kM o_)) k_::
 (aWx (ku hs hi) (ku hs (show 0<vs.length by omega)) o_).at 21::more
theorem aSE(hs:∀ v∈vs,aD m v)(hm:300*m+1000<=aA)(h63:vs.length<900000):cI prog 61 [.r vs.length (aL vs)] (.bool (!vj vs)):=by
 have az:([aT.r vs.length (aL vs)].all aT.ok)=true:=by simp only[dM,fH,aT.ok,jq];exact dF vs
 have L5:∀(B:aa) i,i<vs.length-1->Ej vs i=true->ag prog B 54 (aF (af f61 0)) (I8 vs.length i) (wG vs) 1 ⟨.normal,I8 vs.length (i+1),wG vs,1⟩:=λB i hi h=>by have lo:=aFA (Bs:=B) hs (show i+1<vs.length by omega) hm h63;rw[ax h]at lo;exact mV mixed 200 (ft:=2) (stS (i:=i) hs o_ hm [.code 2 _ _ _ _ _ lo,.sum 13 (i+1) 1 (i+1+1) rfl o_]) k_ rfl k_ aSD k_
 unfold vj;rcases I3 (Ej vs) (vs.length-1)with h|⟨n,hn,h2,h3,h4⟩
 ·rw[h];have lo:∀ B:aa,ag prog B 54 (.block 0 (af f61 0)) (I8 vs.length 0) (wG vs) 1 ⟨.normal,[],wG vs,1⟩:=λB=>
   bT (id:=0) (cd (vs.length-1) (λi=>I8 vs.length i) (λ_=>wG vs) (λ_ _ _=>Iff.rfl) (r:=⟨.exit 0,[],wG vs,1⟩) (λi hi=>L5 B i hi (I4 h hi)) (aC [.lt 11 (vs.length-1+1) vs.length false (aJ o_)]) n_)
  exact ee func61 az 54 (λw=>[.code 0 _ _ _ _ _ (lo _)])
 ·rw[h4];have lo:∀ B:aa,ag prog B 54 (.block 0 (af f61 0)) (I8 vs.length 0) (wG vs) 1 ⟨.ret,[(2,.bool true)],wG vs,3⟩:=λB=>
   bT (id:=0) (cd n (λi=>I8 vs.length i) (λ_=>wG vs) (λ_ _ _=>Iff.rfl) (r:=⟨.ret,[(2,.bool true)],wG vs,3⟩) (λi hi=>L5 B i o_ (h3 i hi)) (by have lo:=aFA (Bs:=B) hs (show n+1<vs.length by omega) hm h63;rw[au (by rw[h2];decide)]at lo;exact fq mixed 200 (stS (i:=n) hs o_ hm [.code 2 _ _ _ _ _ lo]) k_) n_)
  exact ee func61 az 54 (λw=>[.code 0 _ _ _ _ _ (lo _)])
end
section
variable{Bs:aa}{vs:List (V3 K)}
def L6(n j L:Nat):aR:=[(6,vI j),(1,sl 0 n),(5,sl 2 L),(2,ptr 1)]
def AG(vs:List (V3 K))(p:HS K):aH:=[(0,.view (aL vs)),(1,.aI (cG p).cs 35)]
theorem aSF{m:Nat}{p:HS K}:∀ x∈AG vs p,eA m x.2:=λx hx=>by
 simp only[AG,ch,iu,iv]at hx;rcases hx with rfl|rfl
 ·exact λv hv=>gQ (bh.1 (dF vs) v hv)
 ·exact λv hv=>gQ (iO.flat _ v hv)
theorem aSG{j m q:Nat}{p:HS K}{l:List Nat}(hj:j<vs.length)(hp:bo m p)(gg:p.n≠0)(aP:∀ v∈vs,aD q v)(hm:100*(m+q)+1000<=aA)(h63:l.length<900000)(pP:vs.length<1000000):
  ∃ σ ft,(∀ l0:List Nat,C1 (AG vs p++dV [none] (kf l0)) 2 σ (L6 vs.length (j+1) (l++if dot p.n (aK vs j)-p.d=0 then[j]else[]).length) (AG vs p) (kf (l++if dot p.n (aK vs j)-p.d=0 then[j]else[]))=true)/\
   ag prog Bs 124 (aF (af f104 0)) (L6 vs.length j l.length) (AG vs p++marks 2 (kf l)) 3 ⟨.normal,ij 2 σ (L6 vs.length (j+1) (l++if dot p.n (aK vs j)-p.d=0 then[j]else[]).length),AG vs p++dV σ (kf (l++if dot p.n (aK vs j)-p.d=0 then[j]else[])),ft⟩:=by
 have hv:=kM hj;have hs:=aWl hp (aP _ (cJ hv)) o_ gg;by_cases h:dot p.n (aK vs j)-p.d=0
 ·rw[ax h];have e:(Value.bool (OF.ay (dot p.n (aK vs j)-p.d)==0))=.bool true:=by rw[OF.HM.1 h];rfl
  have hr:ai l++[vI j]=ai (l++[j]):=by simp[ai]
  have Av:(ai l).length=l.length*1:=by rw[lC,fX]
  have h1:=IY l;rw[show(l++[j]).length=l.length+1 by simp];unfold kf;refine⟨[some 4],5,λl0=>k_,?_⟩;generalize OF.ay (dot p.n (aK vs j)-p.d)=z at *;generalize aK vs j=v at *;generalize ai l=c0 at *;generalize ai (l++[j])=c1 at *;exact aC [.lt 15 j vs.length true (aB hj),.cT f104 21 0 vs.length j 30 hj k_,.ld f104 22 33 0 (j*30) (.view (aL vs)) (bF v) rfl (jV hv) k_,hs.at 23,.rw 24 (.bool (z==0)) (.bool true) e,.bs f104 27 3 1 3 1 [0] (vI 0) [vI j] #[vI j] (.row [vI j] 3 1) rfl (λv hv=>by simp at hv;subst hv;rfl) (λv hv=>by simp at hv;subst hv;rfl) k_ rfl d_ d_ k_,.pB f104 28 4 2 l.length 1 (l.length+1) 3 1 8 c0 3 (.row [vI j] 3 1) c1 rfl rfl rfl Av hr (λv hv=>by simp[Obj.cells]at hv;subst hv;rfl) d_ (by simp[maxLen];omega) o_ k_,.sum 17 j 1 (j+1) rfl o_]
 ·rw[au h,jn];have e:(Value.bool (OF.ay (dot p.n (aK vs j)-p.d)==0))=.bool false:=by
   congr 1
   have:OF.ay (dot p.n (aK vs j)-p.d)≠0:=λe=>h (OF.HM.2 e);simpa using this
  refine⟨[some 2],3,λl0=>k_,?_⟩;generalize OF.ay (dot p.n (aK vs j)-p.d)=z at *;generalize aK vs j=v at *;exact aC [.lt 15 j vs.length true (aB hj),.cT f104 21 0 vs.length j 30 hj k_,.ld f104 22 33 0 (j*30) (.view (aL vs)) (bF v) rfl (jV hv) k_,hs.at 23,.rw 24 (.bool (z==0)) (.bool false) e,.sum 17 j 1 (j+1) rfl o_]
theorem aFB{m q:Nat}{p:HS K}(hp:bo m p)(gg:p.n≠0)(aP:∀ v∈vs,aD q v)(hm:100*(m+q)+1000<=aA)(h63:vs.length<900000):
  ag prog Bs 124 (.block 0 (af f104 0)) (ij 2 [none] (L6 vs.length 0 0)) (AG vs p++dV [none] (kf [])) 2 ⟨.normal,[(5,sl 2 (ck p vs vs.length).length)],AG vs p++marks 2 (kf (ck p vs vs.length)),3⟩:=by
 have:=su (P:=prog) (B:=Bs) (N:=124) (b:=aF (af f104 0)) (next:=2) (p:=1) (r:=⟨.exit 0,[(5,sl 2 (ck p vs vs.length).length)],AG vs p++marks 2 (kf (ck p vs vs.length)),3⟩) vs.length
  (λj=>L6 vs.length j (ck p vs j).length) (λ_=>AG vs p) (λj=>kf (ck p vs j)) [none] (λ_ _=>rfl) (λj _=>⟨aSF,WZ⟩) k_ k_
  (λj hj=>by have hl:=IZ p vs j;obtain⟨σ,ft,h1,h2⟩:=aSG (Bs:=Bs) (l:=ck p vs j) hj hp gg aP hm o_ o_;rw[aET];exact⟨σ,ft,h1 _,h2⟩)
  (by generalize ck p vs vs.length=a;exact aC [.lt 15 vs.length vs.length false s_]) n_
 exact bT (id:=0) this
end
def I9(g:V3 K)(vs:List (V3 K))(a c b:Nat):Bool:=decide (b=a)||(decide (b=c)||decide (0<QW g vs a c b))
section
variable{Bs:aa}{vs:List (V3 K)}{on:List Nat}{p:HS K}{m:Nat}
def Ja(n L a k j:Nat)(f:Bool):aR:=[(11,vI j),(10,.bool f),(5,sl 2 L),(8,vI a),(9,vI k),(1,sl 0 n),(2,ptr 1)]
def nE(vs:List (V3 K))(p:HS K)(on:List Nat):aH:=[(0,.view (aL vs)),(1,.aI (cG p).cs 35),(2,.row (ai on) 3 1)]
theorem gtB{z:Int}{t:Bool}(h:decide (0<z)=t):Value.bool (decide (z>0))=.bool t:=by rw[<-h]
theorem aFC{a c b k j:Nat}{t:Bool}(hb:on[j]?=some b)(hc:on[k]?=some c)(gY:∀ x∈on,x<vs.length)(ha:a<vs.length)(hn:aD m p.n)(hs:∀ v∈vs,aD m v)(hm:200*m+400<=aA)(ht:I9 p.n vs a c b=t)(h63:on.length<900000):
  ag prog Bs 124 (aF (af f104 6)) (Ja vs.length on.length a k j true) (nE vs p on) 5 ⟨.normal,Ja vs.length on.length a k (j+1) t,nE vs p on,5⟩:=by
 have hj:=(eh.1 hb).1;have hk:=(eh.1 hc).1;have te:=gY b (cJ hb);have kg:=gY c (cJ hc);unfold I9 at ht;by_cases h1:b=a
 ·rw[aB h1,GW]at ht;subst ht;exact fq mixed 200 [.lt 68 j on.length true (aB hj),.ix f104 76 2 on.length j hj k_,.ld f104 77 3 2 j (.row (ai on) 3 1) (vI b) rfl (dQ hb) k_,.fv 79 b a true (aB h1),.sum 73 j 1 (j+1) rfl o_] k_
 rw[aJ h1,vD]at ht;by_cases h2:b=c
 ·rw[aB h2,GW]at ht;subst ht;exact fq mixed 200 [.lt 68 j on.length true (aB hj),.ix f104 76 2 on.length j hj k_,.ld f104 77 3 2 j (.row (ai on) 3 1) (vI b) rfl (dQ hb) k_,.fv 79 b a false (aJ h1),.ix f104 83 2 on.length j hj k_,.ld f104 84 3 2 j (.row (ai on) 3 1) (vI b) rfl (dQ hb) k_,.ix f104 87 2 on.length k hk k_,.ld f104 88 3 2 k (.row (ai on) 3 1) (vI c) rfl (dQ hc) k_,.fv 89 b c true (aB h2),.sum 73 j 1 (j+1) rfl o_] k_
 rw[aJ h2,vD]at ht;exact fq mixed 200 [.lt 68 j on.length true (aB hj),.ix f104 76 2 on.length j hj k_,.ld f104 77 3 2 j (.row (ai on) 3 1) (vI b) rfl (dQ hb) k_,.fv 79 b a false (aJ h1),.ix f104 83 2 on.length j hj k_,.ld f104 84 3 2 j (.row (ai on) 3 1) (vI b) rfl (dQ hb) k_,.ix f104 87 2 on.length k hk k_,.ld f104 88 3 2 k (.row (ai on) 3 1) (vI c) rfl (dQ hc) k_,.fv 89 b c false (aJ h2),.cT f104 96 0 vs.length a 30 ha k_,.ld f104 97 33 0 (a*30) (.view (aL vs)) (bF (aK vs a)) rfl (jV (kM ha)) k_,.ix f104 101 2 on.length k hk k_,.ld f104 102 3 2 k (.row (ai on) 3 1) (vI c) rfl (dQ hc) k_,.cT f104 103 0 vs.length c 30 kg k_,.ld f104 104 33 0 (c*30) (.view (aL vs)) (bF (aK vs c)) rfl (jV (kM kg)) k_,.ix f104 108 2 on.length j hj k_,.ld f104 109 3 2 j (.row (ai on) 3 1) (vI b) rfl (dQ hb) k_,.cT f104 110 0 vs.length b 30 te k_,.ld f104 111 33 0 (b*30) (.view (aL vs)) (bF (aK vs b)) rfl (jV (kM te)) k_,(aEf hn (ku hs ha) (ku hs kg) (ku hs te) hm).at 112,.rw 113 _ (.bool t) (gtB ht),.sum 73 j 1 (j+1) rfl o_] k_
theorem aSH{a k j:Nat}:ag prog Bs 124 (aF (af f104 6)) (Ja vs.length on.length a k j false) (nE vs p on) 5 ⟨.exit 6,[(10,.bool false)],nE vs p on,5⟩:=by
 by_cases h:j<on.length
 ·exact aC [.lt 68 j on.length true (aB h)]
 ·exact aC [.lt 68 j on.length false (aJ h)]
def L7(g:V3 K)(vs:List (V3 K))(on:List Nat)(a c:Nat):Bool:=on.all (I9 g vs a c)
theorem aFD{a c k:Nat}(hc:on[k]?=some c)(gY:∀ x∈on,x<vs.length)(ha:a<vs.length)(hn:aD m p.n)(hs:∀ v∈vs,aD m v)(hm:200*m+400<=aA)(h63:on.length<900000):
  ag prog Bs 124 (.block 6 (af f104 6)) (Ja vs.length on.length a k 0 true) (nE vs p on) 5 ⟨.normal,[(10,.bool (L7 p.n vs on a c))],nE vs p on,5⟩:=by
 unfold L7;rcases Cd (I9 p.n vs a c) on with h|⟨n,x,h1,h2,h3,h4⟩
 ·rw[h];exact bT (id:=6) (cd on.length (λj=>Ja vs.length on.length a k j true) (λ_=>nE vs p on) (λ_ _ _=>Iff.rfl) (r:=⟨.exit 6,[(10,.bool true)],nE vs p on,5⟩) (λj hj=>by have hx:on[j]?=some on[j]:=bd hj;exact aFC hx hc gY ha hn hs hm (Eh h hx) h63) (aC [.lt 68 on.length on.length false s_]) n_)
 ·rw[h4];have ak:=(eh.1 h1).1;exact bT (id:=6) (cd (n+1) (λj=>Ja vs.length on.length a k j (decide (j<=n))) (λ_=>nE vs p on) (λ_ _ _=>Iff.rfl) (r:=⟨.exit 6,[(10,.bool false)],nE vs p on,5⟩) (λj hj=>by
   have QX:j<on.length:=by omega
   have hx:on[j]?=some on[j]:=bd QX;simp only[aB (show j<=n by omega)];refine aFC hx hc gY ha hn hs hm ?_ h63;by_cases he:j=n
   ·subst he;rw[h1]at hx;injection hx with hx;rw[<-hx,h2];exact(aJ o_).symm
   ·rw[h3 j _ o_ hx];exact(aB o_).symm) (by
   simp only[aJ (show ¬n+1<=n by omega)];exact aSH) n_)
end
def vk(g:V3 K)(vs:List (V3 K))(on:List Nat)(a c:Nat):Bool:=!decide (c=a)&&L7 g vs on a c
section
variable{Bs:aa}{vs:List (V3 K)}{on:List Nat}{p:HS K}{m:Nat}
def L8(n L R a k:Nat):aR:=[(9,vI k),(5,sl 2 L),(7,sl 4 R),(8,vI a),(1,sl 0 n),(2,ptr 1)]
def GD(vs:List (V3 K))(p:HS K)(on out:List Nat):aH:=nE vs p on++marks 4 (kf out)
theorem aSI{a c k:Nat}{out:List Nat}(hc:on[k]?=some c)(gY:∀ x∈on,x<vs.length)(ha:a<vs.length)(hn:aD m p.n)(hs:∀ v∈vs,aD m v)(hm:200*m+400<=aA)(h63:on.length<900000)(hf:vk p.n vs on a c=false):
  ag prog Bs 124 (aF (af f104 4)) (L8 vs.length on.length out.length a k) (GD vs p on out) 5 ⟨.normal,L8 vs.length on.length out.length a (k+1),GD vs p on out,5⟩:=by
 have hk:=(eh.1 hc).1;by_cases h:c=a
 ·exact fq mixed 200 [.lt 56 k on.length true (aB hk),.ix f104 61 2 on.length k hk k_,.ld f104 62 3 2 k (.row (ai on) 3 1) (vI c) rfl (dQ hc) k_,.fv 64 c a true (aB h),.sum 58 k 1 (k+1) rfl o_] k_
 ·have lo:=aFD (Bs:=Bs) hc gY ha hn hs hm h63;unfold vk at hf;rw[aJ h]at hf;have hf:L7 p.n vs on a c=false:=hf;rw[hf]at lo;exact fq mixed 200 [.lt 56 k on.length true (aB hk),.ix f104 61 2 on.length k hk k_,.ld f104 62 3 2 k (.row (ai on) 3 1) (vI c) rfl (dQ hc) k_,.fv 64 c a false (aJ h),.code 6 _ _ _ _ _ lo,.sum 58 k 1 (k+1) rfl o_] k_
theorem aSJ{a c k:Nat}{out:List Nat}(hc:on[k]?=some c)(gY:∀ x∈on,x<vs.length)(ha:a<vs.length)(hn:aD m p.n)(hs:∀ v∈vs,aD m v)(hm:200*m+400<=aA)(h63:on.length<900000)(ho:out.length<900000)(hf:vk p.n vs on a c=true):
  ag prog Bs 124 (aF (af f104 4)) (L8 vs.length on.length out.length a k) (GD vs p on out) 5 ⟨.exit 4,[(7,sl 6 (out++[c]).length)],nE vs p on++[(6,.row (ai (out++[c])) 3 1)],7⟩:=by
 have hk:=(eh.1 hc).1;have lo:=aFD (Bs:=Bs) hc gY ha hn hs hm h63;unfold vk at hf;rw[de]at hf;obtain⟨h1,h2⟩:=hf;have h:¬c=a:=by intro e;rw[aB e]at h1;cases h1
 rw[h2]at lo;have hr:ai out++[vI c]=ai (out++[c]):=by simp[ai]
 have Av:(ai out).length=out.length*1:=by rw[lC,fX]
 rw[show(out++[c]).length=out.length+1 by simp];have jf:=dQ hc;unfold GD kf;generalize ai out=c0 at *;generalize ai (out++[c])=c1 at *;exact fq mixed 200 [.lt 56 k on.length true (aB hk),.ix f104 61 2 on.length k hk k_,.ld f104 62 3 2 k (.row (ai on) 3 1) (vI c) rfl jf k_,.fv 64 c a false (aJ h),.code 6 _ _ _ _ _ lo,.ix f104 119 2 on.length k hk k_,.ld f104 120 3 2 k (.row (ai on) 3 1) (vI c) rfl jf k_,.bs f104 121 5 1 3 1 [0] (vI 0) [vI c] #[vI c] (.row [vI c] 3 1) rfl (λv hv=>by simp at hv;subst hv;rfl) (λv hv=>by simp at hv;subst hv;rfl) k_ rfl d_ d_ k_,.pB f104 122 6 4 out.length 1 (out.length+1) 3 1 8 c0 5 (.row [vI c] 3 1) c1 rfl rfl rfl Av hr (λv hv=>by simp[Obj.cells]at hv;subst hv;rfl) d_ (by simp[maxLen];omega) o_ k_] k_
theorem aSK{a c k:Nat}{out:List Nat}(hc:on[k]?=some c)(gY:∀ x∈on,x<vs.length)(ha:a<vs.length)(hn:aD m p.n)(hs:∀ v∈vs,aD m v)(hm:200*m+400<=aA)(h63:on.length<900000)(ho:out.length<900000)(hf:vk p.n vs on a c=true)
  (hb:∀(i:Nat) (x:Nat),i<k->on[i]?=some x->vk p.n vs on a x=false) :
  ag prog Bs 124 (.block 4 (af f104 4)) (L8 vs.length on.length out.length a 0) (GD vs p on out) 5 ⟨.normal,[(7,sl 6 (out++[c]).length)],nE vs p on++[(6,.row (ai (out++[c])) 3 1)],7⟩:=
 bT (id:=4) (cd k (λi=>L8 vs.length on.length out.length a i) (λ_=>GD vs p on out) (λ_ _ _=>Iff.rfl) (r:=⟨.exit 4,[(7,sl 6 (out++[c]).length)],nE vs p on++[(6,.row (ai (out++[c])) 3 1)],7⟩) (λi hi=>by have hk:=(eh.1 hc).1;have hx:on[i]?=some on[i]:=bd o_;exact aSI hx gY ha hn hs hm h63 (hb i _ hi hx)) (aSJ hc gY ha hn hs hm h63 ho hf) n_)
end
section
variable{Bs:aa}{vs:List (V3 K)}{on:List Nat}{p:HS K}{m:Nat}
def QY(n L R:Nat):aR:=[(7,sl 4 R),(5,sl 2 L),(1,sl 0 n),(2,ptr 1)]
theorem aSL{a c k R:Nat}{out:List Nat}(hR:out.length=R+1)(ak:out.length<on.length)(hl:out[R]?=some a)(hc:on[k]?=some c)(gY:∀ x∈on,x<vs.length)(ha:a<vs.length)(hn:aD m p.n)(hs:∀ v∈vs,aD m v)(hm:200*m+400<=aA)(h63:on.length<900000)(hf:vk p.n vs on a c=true)
  (hb:∀(i:Nat) (x:Nat),i<k->on[i]?=some x->vk p.n vs on a x=false) :
  ag prog Bs 124 (aF (af f104 2)) (QY vs.length on.length out.length) (nE vs p on++marks 4 (kf out)) 5 ⟨.normal,ij 4 [some 6] (QY vs.length on.length (out++[c]).length),nE vs p on++dV [some 6] (kf (out++[c])),7⟩:=by
 have lo:=aSK (Bs:=Bs) hc gY ha hn hs hm h63 o_ hf hb (out:=out);have jf:=dQ hl;have e:(out++[c]).length=R+2:=by simp[hR]
 rw[e]at lo ⊢;unfold GD at lo;rw[hR]at lo ⊢;unfold kf at *;generalize ai out=c0 at *;generalize ai (out++[c])=c1 at *;exact fq mixed 200 [.lt 46 (R+1) on.length true (aB o_),.e7 50 (R+1) 1 R rfl o_,.ix f104 51 4 (R+1) R o_ k_,.ld f104 52 3 4 R (.row c0 3 1) (vI a) rfl jf k_,.code 4 _ _ _ _ _ lo] k_
end
structure aWZ(g:V3 K)(vs:List (V3 K))(on sq:List Nat):Prop where
 len:sq.length=on.length
 head:sq[0]?=on[0]?
 step:∀(i a c:Nat),sq[i]?=some a->sq[i+1]?=some c->∃ k:Nat,on[k]?=some c/\vk g vs on a c=true/\∀(j x:Nat),j<k->on[j]?=some x->vk g vs on a x=false
section
variable{Bs:aa}{vs:List (V3 K)}{on sq:List Nat}{p:HS K}{m:Nat}
theorem aSM{n:Nat}:∀ x∈nE vs p on,eA n x.2:=λx hx=>by
 simp only[nE,ch,iu,iv]at hx;rcases hx with rfl|rfl|rfl
 ·exact λv hv=>gQ (bh.1 (dF vs) v hv)
 ·exact λv hv=>gQ (iO.flat _ v hv)
 ·exact λv hv=>gQ (kJ _ v hv)
theorem aSN{o:Nat}(h:aWZ p.n vs on sq)(h0:on[0]?=some o)(gY:∀ x∈on,x<vs.length)(hn:aD m p.n)(hs:∀ v∈vs,aD m v)(hm:200*m+400<=aA)(h63:on.length<900000):
  ag prog Bs 124 (.block 2 (af f104 2)) (ij 4 [some 3] (QY vs.length on.length 1)) (nE vs p on++dV [some 3] (kf [o])) 4 ⟨.normal,[(7,sl 4 sq.length)],nE vs p on++marks 4 (kf sq),5⟩:=by
 have qJ:=(eh.1 h0).1;have hlen:=h.len;have qX:∀ x∈sq,x<vs.length:=λx hx=>by
  obtain⟨i,hi,rfl⟩:=kH hx;cases i with
  |zero=>
   have e:=h.head;rw[bd hi,h0]at e;injection e with e;rw[e];exact gY _ (cJ h0)
  |succ i=>
   obtain⟨k,e,_⟩:=h.step i _ _ (bd o_) (bd hi);exact gY _ (cJ e)
 have e1:sq.take 1=[o]:=by have e:=h.head;rw[h0]at e;rw[List.take_one,List.head?_eq_getElem?,e];rfl
 have tl:∀ i,i<on.length->(sq.take (i+1)).length=i+1:=λi hi=>by rw[ji];omega
 have:=su (P:=prog) (B:=Bs) (N:=124) (b:=aF (af f104 2)) (next:=4) (p:=1) (r:=⟨.exit 2,[(7,sl 4 sq.length)],nE vs p on++marks 4 (kf sq),5⟩) (on.length-1)
  (λi=>QY vs.length on.length (sq.take (i+1)).length) (λ_=>nE vs p on) (λi=>kf (sq.take (i+1))) [some 3] (λ_ _=>rfl) (λi _=>⟨aSM,WZ⟩) k_ k_
  (λi hi=>by
   have ha:sq[i]?=some sq[i]:=bd o_;have hc:sq[i+1]?=some sq[i+1]:=bd o_;obtain⟨k,q1,q2,q3⟩:=h.step i _ _ ha hc;have e:sq.take (i+1+1)=sq.take (i+1)++[sq[i+1]]:=by rw[sQ,hc];rfl
   have hl:=tl i o_;have hr:=aSL (Bs:=Bs) (R:=i) hl o_ (by rw[ur,ax o_];exact ha) q1 gY (qX _ (cJ ha)) hn hs hm h63 q2 q3;refine⟨[some 6],7,k_,?_⟩;rw[e];exact hr)
  (by rw[show on.length-1+1=sq.length by omega,lY];rw[hlen];exact aC [.lt 46 on.length on.length false s_]) n_
 simp only[kh,e1]at this;exact bT (id:=2) this
end
def QZ(g:V3 K)(vs:List (V3 K)):List Nat->Bool
 |o::a::l=>l.all (Cg g vs o a)
 |_=>true
section
variable{vs:List (V3 K)}{p:HS K}{m q:Nat}
noncomputable def aSO{Bs:aa}{on:List Nat}{t:Bool}(h3:3<=on.length)(ht:QZ p.n vs on=t)(hn:aD m p.n)(hs:∀ v∈vs,aD m v)(gY:∀ x∈on,x<vs.length)(hm:200*m+400<=aA)(h63:on.length<900000):aX prog Bs 124:=
 .step 36 (av f104 36) [.func (.func 143) #[] #[],cB p,sl 0 vs.length,sl 2 on.length] [(0,some (.view (aL vs))),(2,some (.row (ai on) 3 1))] (.bool t) []
  (dL (by
   match on,h3,gY,ht,h63 with
   |o::a::l,_,gY,ht,h63=>
    have:=aSB hn hs gY hm (by simp only[oM]at h63;omega);rw[show l.all (Cg p.n vs o a)=t from ht]at this;exact this) (.p rfl (.w (x:=.view (aL vs)) rfl (dF vs) xP (.w (x:=.row (ai on) 3 1) rfl (gJ on) (λh=>Qx h) .nil))) (x:=.func 143) k_ k_ rfl)
theorem aFE:([aT.p (cB p),.r vs.length (aL vs)].all aT.ok)=true:=by simp only[dM,fH,aT.ok,jq];rw[show(aL vs).all flat=true from dF vs];rfl
theorem aSP(hp:bo m p)(gg:p.n≠0)(aP:∀ v∈vs,aD q v)(hm:100*(m+q)+1000<=aA)(h63:vs.length<900000)(h:(ck p vs vs.length).length<3):
  cI prog 104 [.p (cB p),.r vs.length (aL vs)] (.slice none 0 0):=by
 have lo:=λBs=>aFB (Bs:=Bs) hp gg aP hm h63;generalize ck p vs vs.length=on at *;exact gT mixed func104 aFE 200 (N:=124) k_ (λw=>[.code 0 _ _ _ _ _ (lo _),.lt 31 on.length 3 true (aB h)]) (λ_=>k_) k_
theorem aW0{sq:List Nat}(hp:bo m p)(gg:p.n≠0)(aP:∀ v∈vs,aD m v)(hm:300*m+1000<=aA)(h63:vs.length<900000)(h:¬(ck p vs vs.length).length<3)(hf:QZ p.n vs (ck p vs vs.length)=false)(qX:aWZ p.n vs (ck p vs vs.length) sq):
  lX prog 104 [.p (cB p),.r vs.length (aL vs)] 3 1 sq.length (ai sq):=by
 have lo:=λBs=>aFB (Bs:=Bs) hp gg aP o_ h63;have gY:∀ x∈ck p vs vs.length,x<vs.length:=λx hx=>WY hx;have hol:=IZ p vs vs.length;generalize ck p vs vs.length=on at *;obtain⟨o,h0⟩:∃ o,on[0]?=some o:=⟨_,bd o_⟩;have l2:=λBs=>aSN (Bs:=Bs) qX h0 gY hp.1 aP o_ o_;exact zz (k:=4) mixed func104 aFE 200 (N:=124) k_ (λw=>[.code 0 _ _ _ _ _ (lo _),.lt 31 on.length 3 false (aJ h),aSO o_ hf hp.1 aP gY o_ o_,.ix f104 39 2 on.length 0 o_ k_,.ld f104 40 3 2 0 (.row (ai on) 3 1) (vI o) rfl (dQ h0) k_,.bs f104 41 3 1 3 1 [0] (vI 0) [vI o] #[vI o] (.row [vI o] 3 1) rfl (λv hv=>by simp at hv;subst hv;rfl) (λv hv=>by simp at hv;subst hv;rfl) k_ rfl d_ d_ k_,.code 2 _ _ _ _ _ (l2 _)]) (λ_=>k_) (gJ sq) (by rw[lC,fX])
end
theorem aFF{ps:List (HS K)}{v:V3 K}:DF ps v=false↔(v=0\/∃ r∈ps,0<dot r.n v):=by
 unfold DF;rw[Bool.and_eq_false_iff,Bool.not_eq_false',Bool.not_eq_false',BU,qM];constructor
 ·rintro(h|⟨r,hr,h⟩)
  ·exact .inl h
  ·exact .inr ⟨r,hr,QG.1 (kW h)⟩
 ·rintro(h|⟨r,hr,h⟩)
  ·exact .inl h
  ·exact .inr ⟨r,hr,aB (QG.2 h)⟩
theorem Xj{ps:List (HS K)}{u:V3 K}:qw ps u=false↔(u≠0->(∃ r∈ps,0<dot r.n u)/\∃ r∈ps,0<dot r.n (-u)):=by
 unfold qw;rw[MP,aFF,aFF];constructor
 ·rintro⟨h1,h2⟩ hu
  exact⟨h1.resolve_left hu,h2.resolve_left λe=>hu (V3.neg_eq_zero.1 e)⟩
 ·intro h;by_cases hu:u=0
  ·exact⟨.inl hu,.inl (V3.neg_eq_zero.2 hu)⟩
  ·exact⟨.inr (h hu).1,.inr (h hu).2⟩
theorem aFG{ps:List (HS K)}:∀ n,n<=ps.length->(tT ps n=true↔∃(i j:Nat) (p q:HS K),i<n/\j<i/\ps[i]?=some p/\ps[j]?=some q/\ao p.n q.n≠0)
 |0,_=>by
  constructor
  ·intro h;cases h
  ·rintro⟨i,_,_,_,h,_⟩;omega
 |n+1,hn=>by
  have hp:ps[n]?=some ps[n]:=bd o_;rw[aCD hp,uC,aFG n o_];unfold qx;rw[qM];constructor
  ·rintro(⟨i,j,p,q,h1,h2,h3⟩|⟨q,hq,h⟩)
   ·exact⟨i,j,p,q,by omega,h2,h3⟩
   ·obtain⟨j,hj,rfl⟩:=kH hq;rw[ji]at hj;rw[QI]at h;exact⟨n,j,ps[n],ps[j],by omega,by omega,hp,bd o_,by simpa using h⟩
  ·rintro⟨i,j,p,q,h1,h2,h3,h4,h5⟩
   rcases eL i n with h|h
   ·exact .inl ⟨i,j,p,q,h,h2,h3,h4,h5⟩
   ·have:i=n:=by omega
    subst this;rw[hp]at h3;injection h3 with h3;subst h3;exact .inr ⟨q,cJ (i:=j) (by rw[ur,ax h2];exact h4),by simpa using h5⟩
theorem aSQ{ps:List (HS K)}:Pw ps ps.length=false↔∀(i j:Nat) (p q:HS K),j<i->ps[i]?=some p->ps[j]?=some q->qw ps (ao p.n q.n)=false:=by
 unfold Pw;rw[JJ];constructor
 ·intro h i j p q pr hp hq;have ak:=(eh.1 hp).1;have:=h i (kA.2 ak);rw[Px hp,qM]at this;cases hb:qw ps (ao p.n q.n)with
  |false=>rfl
  |true=>exact absurd ⟨q,cJ (i:=j) (by rw[ur,ax pr];exact hq),hb⟩ this
 ·intro h i hi;have ak:=kA.1 hi;have hp:ps[i]?=some ps[i]:=bd ak;rw[Px hp,qM]
  rintro⟨q,hq,hb⟩
  obtain⟨j,hj,rfl⟩:=kH hq;rw[ji]at hj;have wQ:ps[j]?=some ps[j]:=bd o_;rw[QI]at hb;rw[h i j _ _ o_ hp wQ]at hb;cases hb
theorem Q0{ps:List (HS K)}:rh ps=true↔Cl ps:=by
 unfold rh;rw[de,AZ,aFG _ (bt _),aSQ];have sw:∀ p q:HS K,ao q.n p.n=-ao p.n q.n:=λp q=>V3.Ie _ _;constructor
 ·rintro⟨h1,i,j,p,q,hi,pr,hp,hq,hc⟩
  refine⟨⟨p,cJ hp,q,cJ hq,hc⟩,λp hp q hq aV=>?_⟩;obtain⟨i,hi,rfl⟩:=kH hp;obtain⟨j,hj,rfl⟩:=kH hq;rcases tf i j with h|h|h
  ·have:=Xj.1 (h1 j i _ _ h (bd hj) (bd hi)) (λe=>aV (by rw[sw,e];exact V3.neg_eq_zero.2 rfl));rw[sw ps[j] ps[i]];exact this.2
  ·subst h;exact absurd (V3.KU _) aV
  ·exact(Xj.1 (h1 i j _ _ h (bd hi) (bd hj)) aV).1
 ·rintro⟨⟨p,hp,q,hq,aV⟩,aY⟩
  refine⟨λi j p q _ hp hq=>Xj.2 λhu=>?_,?_⟩
  ·have fQ:=cJ hp;have o9:=cJ hq;refine⟨aY p fQ q o9 hu,?_⟩;rw[<-sw];exact aY q o9 p fQ (λe=>hu (by rw[sw q p,e];exact V3.neg_eq_zero.2 rfl))
  ·obtain⟨i,hi,rfl⟩:=kH hp;obtain⟨j,hj,rfl⟩:=kH hq;rcases tf i j with h|h|h
   ·exact⟨j,i,_,_,hj,h,bd hj,bd hi,λe=>aV (by rw[sw,e];exact V3.neg_eq_zero.2 rfl)⟩
   ·subst h;exact absurd (V3.KU _) aV
   ·exact⟨i,j,_,_,hi,h,bd hi,bd hj,aV⟩
theorem aFH:∀ n:Nat,(CR.ofNat n:K)=kI (n:Int)
 |0=>rfl
 |n+1=>by
  show(CR.ofNat n:K)+1=_;rw[aFH n];refine bB.ext (bB.ext ?_ ?_) (bB.ext ?_ ?_)
  ·show((n:Int):Rat)+1=(((n+1:Nat):Int):Rat)
   push_cast;rfl
  ·show(0:Rat)+0=0;exact Rat.add_zero 0
  ·show(0:Rat)+0=0;exact Rat.add_zero 0
  ·show(0:Rat)+0=0;exact Rat.add_zero 0
theorem aSR(z:Int):kI z=(Fr.mk z 0 0 0 1).val:=by have h:=Ui z;have:=oZ (kI z);rw[show bK (kI z)=⟨z,0,0,0,1⟩from h]at this;exact this.symm
theorem aSS{n:Nat}(hn:n≠0):zY 1 (n:Int)*kI (n:Int)=1:=by
 rw[aSR];unfold zY;rw[<-KH (by simpa using hn) s_];have e:fk ⟨1,0,0,0,(n:Int)⟩ ⟨(n:Int),0,0,0,1⟩=⟨(n:Int),0,0,0,(n:Int)⟩:=by unfold fk;simp
 rw[e];unfold Fr.val;dsimp only;have h1:Rat.divInt (n:Int) (n:Int)=1:=by rw[BG,Fx];exact HX _ (by simpa using hn)
 rw[h1,Rat.zero_divInt];rfl
theorem aST{n:Nat}(hn:n≠0):zY 1 (n:Int)=(CR.ofNat n:K)⁻¹:=by
 have h:=aSS hn;rw[<-aFH]at h;have aV:(CR.ofNat n:K)≠0:=OF.ne_of_gt (U2 o_);have h2:=OF.jB _ aV
 calc zY 1 (n:Int)=zY 1 (n:Int)*(CR.ofNat n*(CR.ofNat n:K)⁻¹):=by rw[h2,CR.mul_one]
  _=(CR.ofNat n:K)⁻¹:=by rw[<-CR.mul_assoc,h,CR.one_mul]
theorem aFI{l:List (V3 K)}(h:l≠[]):BZ l=DA l:=by have hl:l.length≠0:=λe=>h (lK e);unfold BZ DA;rw[aST hl];rfl
theorem Xk{ps:List (HS K)}{vs:List (V3 K)}:rq ps vs=true↔vs≠[]/\vY ps (DA vs):=by
 unfold rq;rw[de,AZ,AZ,ZR,JJ];have hl:¬vs.length=0↔vs≠[]:=⟨λh e=>h (by rw[e];rfl),λh e=>h (lK e)⟩;rw[hl];constructor
 ·rintro⟨h1,h2⟩
  refine⟨h1,λp hp=>?_⟩;have:=h2 p hp;rw[BU,QH,aFI h1,OF.sub_nonneg]at this;exact OF.not_le.1 this
 ·rintro⟨h1,h2⟩
  refine⟨h1,λp hp=>?_⟩;rw[BU,QH,aFI h1,OF.sub_nonneg];exact OF.not_le.2 (h2 p hp)
theorem aSU{x:K}(h:x≠0):0<iX x:=by
 unfold iX;by_cases hs:OF.ay x<0
 ·rw[ax hs,OF.il,OF.pE,aE2.1 hs];rfl
 ·rw[au hs,OF.il];rcases OF.iW x with e|e|e
  ·rw[e]at hs;exact absurd d_ hs
  ·exact absurd ((OF.fh x).1 e) h
  ·exact e
theorem aFJ{x:K}(h:x≠0):0<mI x:=by unfold mI;rw[show kI 1*(iX x)⁻¹=(iX x)⁻¹ from CR.one_mul _];exact OF.inv_pos (aSU h)
def Ch(p:HS K)(k:K):HS K:=⟨smul p.n k,p.d*k⟩
theorem Q1(p:HS K):canon p=Ch p (mI (qv p.n)):=rfl
theorem aSV(v:V3 K)(a b:K):smul (smul v a) b=smul v (a*b):=V3.ext (CR.mul_assoc _ _ _) (CR.mul_assoc _ _ _) (CR.mul_assoc _ _ _)
theorem aSW(v:V3 K):smul v 1=v:=V3.ext (CR.mul_one _) (CR.mul_one _) (CR.mul_one _)
theorem Xl(p:HS K)(a b:K):Ch (Ch p a) b=Ch p (a*b):=HS.ext (aSV _ _ _) (CR.mul_assoc _ _ _)
theorem aSX(p:HS K):Ch p 1=p:=HS.ext (aSW _) (CR.mul_one _)
theorem aSY{v:V3 K}{k:K}(hk:k≠0):qv (smul v k)=qv v*k:=by
 have z:∀ x:K,x*k≠0↔x≠0:=λx=>⟨λh e=>h (by rw[e,CR.zero_mul]),λh=>OF.mul_ne_zero h hk⟩;unfold qv;show(if v.x*k≠0 then v.x*k else if v.y*k≠0 then v.y*k else v.z*k)=_;by_cases hx:v.x≠0
 ·rw[ax ((z _).2 hx),ax hx]
 ·rw[au (λh=>hx ((z _).1 h)),au hx];by_cases hy:v.y≠0
  ·rw[ax ((z _).2 hy),ax hy]
  ·rw[au (λh=>hy ((z _).1 h)),au hy]
theorem aSZ{x k:K}(hk:0<k):iX (x*k)=iX x*k:=by
 unfold iX;have e:OF.ay (x*k)=OF.ay x:=by rw[CR.mul_comm,OF.aAU hk]
 rw[e];by_cases h:OF.ay x<0
 ·rw[ax h,ax h,CR.neg_mul]
 ·rw[au h,au h]
theorem aS0{x k:K}(hx:x≠0)(hk:0<k):k*mI (x*k)=mI x:=by
 have e:∀ y:K,mI y=(iX y)⁻¹:=λy=>CR.one_mul _;have Du:k≠0:=OF.ne_of_gt hk;have h0:iX x≠0:=Pm hx;rw[e,e,aSZ hk];have h1:=OF.jB _ h0;have h2:=OF.jB (iX x*k) (OF.mul_ne_zero h0 Du)
 calc k*(iX x*k)⁻¹=(iX x*(iX x)⁻¹)*(k*(iX x*k)⁻¹):=by rw[h1,CR.one_mul]
  _=(iX x)⁻¹*(iX x*k*(iX x*k)⁻¹):=by rw[CR.mul_comm (iX x),CR.mul_assoc,CR.mul_assoc]
  _=(iX x)⁻¹:=by rw[h2,CR.mul_one]
theorem Xm{p q:HS K}(hp:p.n≠0)(hq:q.n≠0):canon p=canon q↔∃ k:K,0<k/\q=Ch p k:=by
 have ap:=aFJ (Pn hp);have aq:=aFJ (Pn hq);constructor
 ·intro h;rw[Q1,Q1]at h;have h1:=OF.jB _ (OF.ne_of_gt aq);refine⟨mI (qv p.n)*(mI (qv q.n))⁻¹,OF.mul_pos ap (OF.inv_pos aq),?_⟩;rw[<-Xl,h,Xl,h1,aSX]
 ·rintro⟨k,hk,rfl⟩
  rw[Q1,Q1];have e:qv (Ch p k).n=qv p.n*k:=aSY (OF.ne_of_gt hk);rw[e,Xl,aS0 (Pn hp) hk]
end
section
open CR OF V3
section
variable{F:Type}[OF F]
theorem aS1(a b c:V3 F)(x y z:F):dot a (smul (ao b c) x+smul (ao c a) y+smul (ao a b) z)=x*bC a b c:=
 ring [a,b,c] [x,y,z] (λV S=>dot (V 0) (smul (ao (V 1) (V 2)) (S 0)+smul (ao (V 2) (V 0)) (S 1)+smul (ao (V 0) (V 1)) (S 2))) (λV S=>S 0*bC (V 0) (V 1) (V 2)) d_
theorem aS2(a b c:V3 F)(x y z:F):dot b (smul (ao b c) x+smul (ao c a) y+smul (ao a b) z)=y*bC a b c:=
 ring [a,b,c] [x,y,z] (λV S=>dot (V 1) (smul (ao (V 1) (V 2)) (S 0)+smul (ao (V 2) (V 0)) (S 1)+smul (ao (V 0) (V 1)) (S 2))) (λV S=>S 1*bC (V 0) (V 1) (V 2)) d_
theorem aS3(a b c:V3 F)(x y z:F):dot c (smul (ao b c) x+smul (ao c a) y+smul (ao a b) z)=z*bC a b c:=
 ring [a,b,c] [x,y,z] (λV S=>dot (V 2) (smul (ao (V 1) (V 2)) (S 0)+smul (ao (V 2) (V 0)) (S 1)+smul (ao (V 0) (V 1)) (S 2))) (λV S=>S 2*bC (V 0) (V 1) (V 2)) d_
theorem Q2(u w:V3 F):bC u u w=0:=ring [u,w] [] (λV _=>bC (V 0) (V 0) (V 1)) (λ_ _=>0) d_
theorem Q3(u w:V3 F):bC u w w=0:=ring [u,w] [] (λV _=>bC (V 0) (V 1) (V 1)) (λ_ _=>0) d_
theorem Q4(u w:V3 F):bC u w u=0:=ring [u,w] [] (λV _=>bC (V 0) (V 1) (V 0)) (λ_ _=>0) d_
theorem Xn:∀(l:List (F×F)),(∀ x∈l,0<x.2)->∃ e:F,0<e/\∀ x∈l,x.1*e<=x.2
 |[],_=>⟨1,OF.zero_lt_one,λx h=>(by cases h)⟩
 |(a,b)::l,h=>by
  obtain⟨e,he,hl⟩:=Xn l λx hx=>h x (bE _ hx);have hb:0<b:=h (a,b) (aU ..);by_cases b9:a*e<=b
  ·refine⟨e,he,λx hx=>?_⟩;rcases ch.1 hx with rfl|hx
   ·exact b9
   ·exact hl x hx
  ·have b9:=OF.not_le.1 b9;have ha:0<a:=by
    apply gP;intro Fk;have Fk:=OF.not_lt.1 Fk;have:a*e<=0:=by rw[<-CR.neg_neg (a*e),OF.HO,<-CR.neg_mul];exact OF.mul_nonneg (OF.neg_nonneg.2 Fk) (OF.le_of_lt he)
    exact OF.lt_irrefl _ (OF.lt_of_lt_of_le (OF.lt_trans hb b9) this)
   have hi:0<b*a⁻¹:=OF.mul_pos hb (OF.inv_pos ha);have hae:a*(b*a⁻¹)=b:=by rw[CR.mul_left_comm,OF.jB _ (OF.ne_of_gt ha),CR.mul_one]
   have ak:b*a⁻¹<e:=by rw[<-OF.mul_lt_mul_left ha,hae];exact b9
   refine⟨b*a⁻¹,hi,λx hx=>?_⟩;rcases ch.1 hx with rfl|hx
   ·exact OF.le_of_eq hae
   ·by_cases kY:0<x.1
    ·exact OF.le_trans ((OF.mul_le_mul_left kY).2 (OF.le_of_lt ak)) (hl x hx)
    ·have kY:=OF.not_lt.1 kY;have:x.1*(b*a⁻¹)<=0:=by rw[<-CR.neg_neg (x.1*(b*a⁻¹)),OF.HO,<-CR.neg_mul];exact OF.mul_nonneg (OF.neg_nonneg.2 kY) (OF.le_of_lt hi)
     exact OF.le_trans this (OF.le_of_lt (h x (bE _ hx)))
structure nF(ps S:List (HS F)):Prop where
 sub:∀ p∈S,p∈ps
 same:∀ v,fG S v↔fG ps v
 least:∀ T:List (HS F),(∀ p∈T,p∈ps)->(∀ v,fG T v↔fG ps v)->S.length<=T.length
theorem aFK(ps:List (HS F)):∃ S,nF ps S:=by
 have key:∀ n,∀ S:List (HS F),S.length=n->(∀ p∈S,p∈ps)->(∀ v,fG S v↔fG ps v)->∃ S,nF ps S:=by
  intro n;induction n using Nat.strongRecOn with
  |ind n ih=>
   intro S hl h1 h2;by_cases h:∃ T:List (HS F),(∀ p∈T,p∈ps)/\(∀ v,fG T v↔fG ps v)/\T.length<n
   ·obtain⟨T,t1,t2,t3⟩:=h;exact ih _ t3 T rfl t1 t2
   ·refine⟨S,h1,h2,λT t1 t2=>?_⟩;rcases eL T.length S.length with ak|dT
    ·exact(h ⟨T,t1,t2,by omega⟩).elim
    ·exact dT
 exact key _ ps rfl (λ_ h=>h) (λ_=>Iff.rfl)
theorem nF.alone{ps A B:List (HS F)}{p:HS F}(h:nF ps (A++p::B)):∃ y,fG (A++B) y/\p.d<dot p.n y:=by
 apply gP;intro gC;have hT:∀ v,fG (A++B) v↔fG ps v:=by
  intro v;rw[<-h.same v];constructor
  ·intro hv q hq;rcases dX.1 hq with hq|hq
   ·exact hv q (pS _ hq)
   ·rcases ch.1 hq with rfl|hq
    ·exact OF.not_lt.1 λak=>gC ⟨v,hv,ak⟩
    ·exact hv q (yv _ hq)
  ·intro hv q hq;refine hv q ?_;rcases dX.1 hq with hq|hq
   ·exact pS _ hq
   ·exact yv _ (bE _ hq)
 have:=h.least (A++B) (λq hq=>h.sub q (by
  rcases dX.1 hq with hq|hq
  ·exact pS _ hq
  ·exact yv _ (bE _ hq))) hT
 simp at this;omega
theorem nF.K1{ps A B:List (HS F)}{p:HS F}(h:nF ps (A++p::B)){x:V3 F}(hx:vY ps x):∃ z,cH p z/\∀ q∈A++B,dot q.n z<q.d:=by
 obtain⟨y,hy,hpy⟩:=h.alone;have hpx:dot p.n x<p.d:=hx p (h.sub p (yv _ (aU ..)));have xL:0<dot p.n y-dot p.n x:=OF.sub_pos.2 (OF.lt_trans hpx hpy);have hda:0<p.d-dot p.n x:=OF.sub_pos.2 hpx;obtain⟨t,ht⟩:∃ t,t=(p.d-dot p.n x)*(dot p.n y-dot p.n x)⁻¹:=⟨_,rfl⟩;have vX:0<t:=ht▸OF.mul_pos hda (OF.inv_pos xL);have Nu:(dot p.n y-dot p.n x)*t=p.d-dot p.n x:=by rw[ht,CR.mul_left_comm,OF.jB _ (OF.ne_of_gt xL),CR.mul_one]
 have jZ:t<1:=by rw[<-OF.mul_lt_mul_left xL,Nu,CR.mul_one];rw[<-OF.sub_pos,show dot p.n y-dot p.n x-(p.d-dot p.n x)=dot p.n y-p.d from km (dot p.n x) (dot p.n y) p.d (λa b d=>b-a-(d-a)) (λa b d=>b-d) d_];exact OF.sub_pos.2 hpy
 refine⟨x+smul (y-x) t,?_,λq hq=>?_⟩
 ·unfold cH;rw[j9,gU,kp,Nu];exact j7 (dot p.n x) p.d (λa d=>a+(d-a)) (λa d=>d) d_
 ·rw[j9,gU,kp];have q1:dot q.n x<q.d:=hx q (h.sub q (by
   rcases dX.1 hq with hq|hq
   ·exact pS _ hq
   ·exact yv _ (bE _ hq)))
  have q2:=hy q hq;have e:q.d-(dot q.n x+(dot q.n y-dot q.n x)*t)=(1-t)*(q.d-dot q.n x)+t*(q.d-dot q.n y):=BD (dot q.n x) (dot q.n y) q.d t (λa b d t=>d-(a+(b-a)*t)) (λa b d t=>(1-t)*(d-a)+t*(d-b)) d_;rw[<-OF.sub_pos,e];exact OF.HN (OF.mul_pos (OF.sub_pos.2 jZ) (OF.sub_pos.2 q1)) (OF.mul_nonneg (OF.le_of_lt vX) (OF.sub_nonneg.2 q2))
theorem jD.back{ps:List (HS F)}{p:HS F}(hp:p∈ps){v:V3 F}(h:jD (⟨-p.n,-p.d⟩::ps) v):jD ps v/\cH p v:=by
 obtain⟨ct,a,ha,b,hb,c,hc,hd,ta,tb,tc⟩:=h;have tp:cH p v:=by
  have h1:=ct _ (aU ..);dsimp only at h1;rw[BP]at h1;have h1:p.d<=dot p.n v:=by rw[<-OF.sub_nonneg]at h1 ⊢;rwa[show -p.d - -dot p.n v=dot p.n v-p.d from j7 (dot p.n v) p.d (λa d=>-d - -a) (λa d=>a-d) d_]at h1
  exact OF.le_antisymm (ct p (bE _ hp)) h1
 have aS4:fG ps v:=λq hq=>ct q (bE _ hq)
 -- a qp of the list with the same normal,vE for UR sign
 have bK:∀ q∈(⟨-p.n,-p.d⟩::ps:List (HS F)),cH q v->∃ q'∈ps,cH q' v/\(q'.n=q.n\/q.n=-q'.n):=by
  intro q hq tq;rcases ch.1 hq with rfl|hq
  ·exact⟨p,hp,tp,.inr rfl⟩
  ·exact⟨q,hq,tq,.inl rfl⟩
 obtain⟨a',jd,ta',ea⟩:=bK a ha ta;obtain⟨b',jK,tb',eb⟩:=bK b hb tb;obtain⟨c',kz,tc',ec⟩:=bK c hc tc;refine⟨⟨aS4,a',jd,b',jK,c',kz,λe=>hd ?_,ta',tb',tc'⟩,tp⟩;have n1:∀ u v w:V3 F,bC (-u) v w=-bC u v w:=λu v w=>ring [u,v,w] [] (λV _=>bC (-V 0) (V 1) (V 2)) (λV _=>-bC (V 0) (V 1) (V 2)) d_;have n2:∀ u v w:V3 F,bC u (-v) w=-bC u v w:=λu v w=>ring [u,v,w] [] (λV _=>bC (V 0) (-V 1) (V 2)) (λV _=>-bC (V 0) (V 1) (V 2)) d_;have n3:∀ u v w:V3 F,bC u v (-w)=-bC u v w:=λu v w=>ring [u,v,w] [] (λV _=>bC (V 0) (V 1) (-V 2)) (λV _=>-bC (V 0) (V 1) (V 2)) d_;rcases ea with ea|ea<;>rcases eb with eb|eb<;>rcases ec with ec|ec<;>
  (first|rw[<-ea]|rw[ea,n1])<;>(first|rw[<-eb]|rw[eb,n2])<;>(first|rw[<-ec]|rw[ec,n3])<;>rw[e]<;>(try simp only[CR.neg_zero])
theorem nF.Ek{ps A B:List (HS F)}{p:HS F}(hc:Cl ps)(hp:gu ps)(h:nF ps (A++p::B)){x m:V3 F}(hx:vY ps x)(hm:ao p.n m≠0):
  ∃ v w,jD ps v/\cH p v/\jD ps w/\cH p w/\dot m w<dot m v:=by
 obtain⟨z,hz,hq⟩:=h.K1 hx;have iZ:p∈ps:=h.sub p (yv _ (aU ..));obtain⟨e,he⟩:∃ e,e=ao (ao p.n m) p.n:=⟨_,rfl⟩;have pe:dot p.n e=0:=by rw[he];exact Dw _ _
 have me:0<dot m e:=by
  have:dot m e=dot (ao p.n m) (ao p.n m):=by rw[he];exact ring [p.n,m] [] (λV _=>dot (V 1) (ao (ao (V 0) (V 1)) (V 0))) (λV _=>dot (ao (V 0) (V 1)) (ao (V 0) (V 1))) d_
  rw[this];exact OZ hm
 obtain⟨t,ht,qz⟩:=Xn ((A++B).map (λq=>(dot q.n e,q.d-dot q.n z))++(A++B).map (λq=>(-dot q.n e,q.d-dot q.n z))) λy hy=>by
  rcases dX.1 hy with hy|hy
  ·obtain⟨q,lA,rfl⟩:=di.1 hy;exact OF.sub_pos.2 (hq q lA)
  ·obtain⟨q,lA,rfl⟩:=di.1 hy;exact OF.sub_pos.2 (hq q lA)
 have aFL:∀ s:F,(∀ q∈A++B,dot q.n e*s<=q.d-dot q.n z)->fG (⟨-p.n,-p.d⟩::ps) (z+smul e s):=by
  intro s hs;have hS:fG (A++p::B) (z+smul e s):=by
   intro q lA;rw[j9,gU];have other:q∈A++B->dot q.n z+dot q.n e*s<=q.d:=λlA=>by have:=hs q lA;rw[<-OF.sub_nonneg]at this ⊢;rwa[show q.d-dot q.n z-dot q.n e*s=q.d-(dot q.n z+dot q.n e*s)from km q.d (dot q.n z) (dot q.n e*s) (λa b c=>a-b-c) (λa b c=>a-(b+c)) d_]at this
   rcases dX.1 lA with lA|lA
   ·exact other (pS _ lA)
   ·rcases ch.1 lA with rfl|lA
    ·rw[pe,CR.zero_mul,CR.add_zero];exact OF.le_of_eq hz
    ·exact other (yv _ lA)
  have ct:=(h.same _).1 hS;intro q lA;rcases ch.1 lA with rfl|lA
  ·dsimp only;rw[BP,j9,gU,pe,CR.zero_mul,CR.add_zero,show dot p.n z=p.d from hz];exact OF.le_refl _
  ·exact ct q lA
 have kz:Cl (⟨-p.n,-p.d⟩::ps):=Cl.more hc hp λq hq=>bE _ hq;have fQ:gu (⟨-p.n,-p.d⟩::ps):=λq hq=>by
  rcases ch.1 hq with rfl|hq
  ·exact λe=>hp p iZ (V3.neg_eq_zero.1 e)
  ·exact hp q hq
 have i1:=aFL t λq lA=>qz _ (pS _ (di.2 ⟨q,lA,rfl⟩));have i2:=aFL (-t) λq lA=>by have:=qz _ (yv _ (di.2 ⟨q,lA,rfl⟩));dsimp only at this;rwa[CR.neg_mul,<-CR.mul_neg]at this
 obtain⟨v,hv,hmv⟩:=top kz fQ (m:=m) i1;obtain⟨w,hw,u9⟩:=top kz fQ (m:=-m) i2;obtain⟨v1,v2⟩:=hv.back iZ;obtain⟨w1,w2⟩:=hw.back iZ;refine⟨v,w,v1,v2,w1,w2,?_⟩;rw[BP,BP]at u9;have u9:dot m w<=dot m (z+smul e (-t)):=by rw[<-OF.sub_nonneg]at u9 ⊢;rwa[show -dot m w - -dot m (z+smul e (-t))=dot m (z+smul e (-t))-dot m w from j7 (dot m w) (dot m (z+smul e (-t))) (λa b=>-a - -b) (λa b=>b-a) d_]at u9
 refine OF.lt_of_le_of_lt u9 (OF.lt_of_lt_of_le ?_ hmv);rw[j9,gU,j9,gU,<-OF.sub_pos,show dot m z+dot m e*t-(dot m z+dot m e*-t)=dot m e*t+dot m e*t from km (dot m z) (dot m e) t (λa b t=>a+b*t-(a+b*-t)) (λa b t=>b*t+b*t) d_];have:=OF.mul_pos me ht;exact OF.add_pos this this
theorem aS5{a b:V3 F}(ha:a≠0):∃ u:V3 F,u≠0/\dot a u=0/\dot b u=0:=by
 by_cases h:ao a b=0
 ·obtain⟨u,hu,Pg⟩:=KV ha;exact⟨u,hu,Pg,O1 ha h Pg⟩
 ·exact⟨_,h,FL _ _,Dw _ _⟩
theorem Xo{a b c:V3 F}(ha:a≠0):∃ u:V3 F,u≠0/\dot a u<=0/\dot b u<=0/\dot c u<=0:=by
 obtain⟨u,hu,h1,h2⟩:=aS5 (b:=b) ha;rcases OF.le_total (dot c u) 0 with h|h
 ·exact⟨u,hu,OF.le_of_eq h1,OF.le_of_eq h2,h⟩
 ·refine⟨-u,λe=>hu (V3.neg_eq_zero.1 e),?_,?_,?_⟩
  ·rw[qZ,h1,CR.neg_zero];exact OF.le_refl _
  ·rw[qZ,h2,CR.neg_zero];exact OF.le_refl _
  ·rw[qZ];exact OF.HO.2 h
theorem nF.four{ps S:List (HS F)}(hc:Cl ps)(hp:gu ps)(h:nF ps S){x:V3 F}(hx:vY ps x):4<=S.length:=by
 apply gP;intro ak;have hu:∃ u:V3 F,u≠0/\∀ p∈S,dot p.n u<=0:=by
  match S,ak,h with
  |[],_,_=>
   obtain⟨⟨p,iZ,_⟩,_⟩:=hc;exact⟨p.n,hp p iZ,λq hq=>(by cases hq)⟩
  |[a],_,h=>
   obtain⟨u,hu,h1,_,_⟩:=Xo (a:=a.n) (b:=a.n) (c:=a.n) (hp a (h.sub a s_));exact⟨u,hu,λq hq=>by simp at hq;subst hq;exact h1⟩
  |[a,b],_,h=>
   obtain⟨u,hu,h1,h2,_⟩:=Xo (a:=a.n) (b:=b.n) (c:=a.n) (hp a (h.sub a s_));exact⟨u,hu,λq hq=>by simp at hq;rcases hq with rfl|rfl<;>assumption⟩
  |[a,b,c],_,h=>
   obtain⟨u,hu,h1,h2,h3⟩:=Xo (a:=a.n) (b:=b.n) (c:=c.n) (hp a (h.sub a s_));exact⟨u,hu,λq hq=>by simp at hq;rcases hq with rfl|rfl|rfl<;>assumption⟩
  |_::_::_::_::_,ak,_=>simp at ak
 obtain⟨u,hu,aY⟩:=hu;obtain⟨r,hr,Xp⟩:=hc.bounds hp hu;have hrx:=hx r hr;obtain⟨t,ht⟩:∃ t,t=(r.d-dot r.n x)*(dot r.n u)⁻¹+1:=⟨_,rfl⟩;have vX:0<t:=ht▸OF.add_pos (OF.mul_pos (OF.sub_pos.2 hrx) (OF.inv_pos Xp)) OF.zero_lt_one;have ct:fG ps (x+smul u t):=by
  rw[<-h.same];intro q hq;rw[j9,gU];have h1:=aY q hq;have h2:dot q.n u*t<=0:=by rw[<-CR.neg_neg (dot q.n u*t),OF.HO,<-CR.neg_mul];exact OF.mul_nonneg (OF.neg_nonneg.2 h1) (OF.le_of_lt vX)
  have h3:=OF.add_le_add (OF.le_of_lt (hx q (h.sub q hq))) h2;rwa[CR.add_zero]at h3
 have h1:=ct r hr;rw[j9,gU,ht,CR.mul_add,CR.mul_left_comm,OF.jB _ (OF.ne_of_gt Xp),CR.mul_one,CR.mul_one]at h1;rw[<-OF.sub_nonneg,show r.d-(dot r.n x+(r.d-dot r.n x+dot r.n u))=-dot r.n u from km r.d (dot r.n x) (dot r.n u) (λd a b=>d-(a+(d-a+b))) (λd a b=>-b) d_,OF.neg_nonneg]at h1;exact OF.lt_irrefl _ (OF.lt_of_lt_of_le Xp h1)
end
end
section
open CR OF
open V3 (dot ao bC smul)
theorem aFM{x:K}:¬OF.ay x<=0↔0<x:=by rw[OF.il];rcases OF.iW x with h|h|h<;>rw[h]<;>decide
theorem Xq{x:K}:OF.ay x<=0↔x<=0:=by rw[OF.TN];rcases OF.iW x with h|h|h<;>rw[h]<;>decide
theorem aFN{ps:List (HS K)}{d:V3 K}:yo ps d=false↔∃ r∈ps,0<dot r.n d:=by
 unfold yo;rw[Jb];constructor
 ·rintro⟨r,hr,h⟩
  exact⟨r,hr,aFM.1 (by simpa using h)⟩
 ·rintro⟨r,hr,h⟩
  exact⟨r,hr,by simpa using aFM.2 h⟩
theorem Xr{ps:List (HS K)}{f:Bool}{i:Nat}:∀ n,pg ps f i n=true↔f=true/\∀ j,j<n->nD ps i j=0\/Ce ps (nD ps i j)=true
 |0=>⟨λh=>⟨h,λj hj=>by omega⟩,λh=>h.1⟩
 |n+1=>by
  unfold pg;by_cases h:nD ps i n=0
  ·rw[ax h,Xr n];refine⟨λ⟨h1,h2⟩=>⟨h1,λj hj=>?_⟩,λ⟨h1,h2⟩=>⟨h1,λj hj=>h2 j o_⟩⟩;rcases eL j n with hl|hl
   ·exact h2 j hl
   ·have:j=n:=by omega
    subst this;exact .inl h
  ·rw[au h,de,Xr n];refine⟨λ⟨⟨h1,h2⟩,h3⟩=>⟨h1,λj hj=>?_⟩,λ⟨h1,h2⟩=>⟨⟨h1,λj hj=>h2 j o_⟩,(h2 n o_).resolve_left h⟩⟩;rcases eL j n with hl|hl
   ·exact h2 j hl
   ·have:j=n:=by omega
    subst this;exact .inr h3
theorem Xs{ps:List (HS K)}:∀ n,mJ ps n=true↔∀ i j,i<n->j<i->nD ps i j=0\/Ce ps (nD ps i j)=true
 |0=>⟨λ_ i j hi=>by omega,λ_=>rfl⟩
 |n+1=>by
  unfold mJ;rw[Xr,Xs n];refine⟨λ⟨h1,h2⟩ i j hi hj=>?_,λh=>⟨λi j hi hj=>h i j o_ hj,λj hj=>h n j o_ hj⟩⟩;rcases eL i n with hl|hl
  ·exact h1 i j hl hj
  ·have:i=n:=by omega
   subst this;exact h2 j hj
theorem Q5{ps:List (HS K)}:wD ps=true↔Cl ps:=by
 unfold wD Ei;rw[de,bh];have sw:∀ p q:HS K,ao q.n p.n=-ao p.n q.n:=λp q=>V3.Ie _ _;have bad:∀{i j:Nat},AB ps i j=false↔(nD ps i j≠0->(∃ r∈ps,0<dot r.n (nD ps i j))/\∃ r∈ps,0<dot r.n (-nD ps i j)):=by
  intro i j;unfold AB;rw[Bool.and_eq_false_iff,MP,aFN,aFN,ZR];constructor
  ·rintro(h|h) h0
   ·exact absurd h0 h
   ·exact h
  ·intro h;by_cases h0:nD ps i j≠0
   ·exact .inr (h h0)
   ·exact .inl h0
 have AH:∀{p q:HS K} {i j:Nat},ps[i]?=some p->ps[j]?=some q->nD ps i j=ao p.n q.n:=λhp hq=>by unfold nD;rw[I5 hp,I5 hq]
 constructor
 ·rintro⟨h1,h2⟩
  have hb:∀ i j,i<ps.length->j<i->AB ps i j=false:=λi j hi hj=>by have:=h1 i (kA.2 hi);rw[bh]at this;simpa using this j (kA.2 hj)
  have oh:¬mJ ps ps.length=true:=by simpa using h2
  rw[Xs]at oh;refine⟨?_,λp hp q hq aV=>?_⟩
  ·apply gP;intro gC;refine oh λi j hi hj=>.inl ?_;rw[AH (bd hi) (bd (mC hj hi))];exact gP λh=>gC ⟨_,dz _,_,dz _,h⟩
  ·obtain⟨i,hi,rfl⟩:=kH hp;obtain⟨j,hj,rfl⟩:=kH hq;rcases tf i j with h|h|h
   ·have:=bad.1 (hb j i hj h);rw[AH (bd hj) (bd hi)]at this;rw[sw ps[j] ps[i]];exact(this λe=>aV (by rw[sw,e];exact V3.neg_eq_zero.2 rfl)).2
   ·subst h;exact absurd (V3.KU _) aV
   ·have:=bad.1 (hb i j hi h);rw[AH (bd hi) (bd hj)]at this;exact(this aV).1
 ·rintro⟨⟨p,hp,q,hq,aV⟩,aY⟩
  refine⟨λi hi=>?_,?_⟩
  ·have hi:=kA.1 hi;rw[bh];intro j hj;have hj:=kA.1 hj;have hp:=bd hi;have hq:=bd (mC hj hi);have:AB ps i j=false:=bad.2 λh0=>by rw[AH hp hq]at h0 ⊢;refine⟨aY _ (cJ hp) _ (cJ hq) h0,?_⟩;rw[<-sw];exact aY _ (cJ hq) _ (cJ hp) λe=>h0 (by rw[sw,e];exact V3.neg_eq_zero.2 rfl)
   rw[this];rfl
  ·obtain⟨i,hi,rfl⟩:=kH hp;obtain⟨j,hj,rfl⟩:=kH hq;have key:∀ i j (hi:i<ps.length) (hj:j<ps.length),j<i->ao ps[i].n ps[j].n≠0->(!mJ ps ps.length)=true:=by
    intro i j hi hj pr aV;have:mJ ps ps.length≠true:=λhf=>by
     rcases(Xs _).1 hf i j hi pr with h|h
     ·rw[AH (bd hi) (bd hj)]at h;exact aV h
     ·rw[AH (bd hi) (bd hj)]at h;obtain⟨r,hr,nh⟩:=aY _ (dz hi) _ (dz hj) aV;unfold Ce at h;rw[bh]at h;have:=kW (h r hr);rw[this]at nh;exact OF.lt_irrefl _ nh
    simpa using this
   rcases tf i j with h|h|h
   ·exact key j i hj hi h λe=>aV (by rw[sw,e];exact V3.neg_eq_zero.2 rfl)
   ·subst h;exact absurd (V3.KU _) aV
   ·exact key i j hi hj h aV
theorem Xt(v:V3 K):∀ l:List (V3 K),aWA l v=mH v l
 |[]=>rfl
 |a::l=>by
  unfold aWA mH;rw[Xt v l];have:(0<dZ a v)↔dZ a v=1:=by rcases Ij a v with h|h|h<;>rw[h]<;>decide
  by_cases h0:dZ a v=0
  ·rw[ax h0,ax h0]
  ·rw[au h0,au h0];by_cases h1:dZ a v=1
   ·rw[ax h1,ax (this.2 h1)]
   ·rw[au h1,au (λh=>h1 (this.1 h))]
theorem aFO{p q r:HS K}(h:bC p.n q.n r.n≠0):cH p (k9 p q r)/\cH q (k9 p q r)/\cH r (k9 p q r):=by unfold cH k9 IU;rw[V3.gU,V3.gU,V3.gU,aQt,CR.one_mul];have e1:=aS1 p.n q.n r.n p.d q.d r.d;have e2:=aS2 p.n q.n r.n p.d q.d r.d;have e3:=aS3 p.n q.n r.n p.d q.d r.d;rw[e1,e2,e3,CR.mul_assoc,CR.mul_assoc,CR.mul_assoc,OF.jB _ h,CR.mul_one,CR.mul_one,CR.mul_one];exact⟨rfl,rfl,rfl⟩
theorem aS6{p q r:HS K}(h:bC p.n q.n r.n≠0){x:V3 K}(hp:cH p x)(hq:cH q x)(hr:cH r x):x=k9 p q r:=by
 obtain⟨h1,h2,h3⟩:=aFO h;refine V3.sub_eq_zero.1 (V3.Ih h ?_ ?_ ?_)
 ·rw[V3.kp,show dot p.n x=p.d from hp,show dot p.n (k9 p q r)=p.d from h1,OF.sub_self]
 ·rw[V3.kp,show dot q.n x=q.d from hq,show dot q.n (k9 p q r)=q.d from h2,OF.sub_self]
 ·rw[V3.kp,show dot r.n x=r.d from hr,show dot r.n (k9 p q r)=r.d from h3,OF.sub_self]
def El(ps:List (HS K))(i j k:Nat):Prop:=bC (ew ps i).n (ew ps j).n (ew ps k).n≠0/\AD ps i j k (k9 (ew ps i) (ew ps j) (ew ps k))=true
theorem aS7{ps:List (HS K)}{acc:List (V3 K)}{i j k:Nat}{x:V3 K}:x∈uh ps acc i j k↔x∈acc\/(El ps i j k/\x=k9 (ew ps i) (ew ps j) (ew ps k)):=by
 unfold uh El;by_cases h:bC (ew ps i).n (ew ps j).n (ew ps k).n=0
 ·rw[ax h];exact⟨.inl,λe=>e.elim id λe=>absurd h e.1.1⟩
 ·rw[au h];by_cases h2:AD ps i j k (k9 (ew ps i) (ew ps j) (ew ps k))=true
  ·rw[ax h2,Xt,Pj];exact⟨λe=>e.elim (λe=>.inr ⟨⟨h,h2⟩,e⟩) .inl,λe=>e.elim .inr λe=>.inl e.2⟩
  ·rw[au h2];exact⟨.inl,λe=>e.elim id λe=>absurd e.1.2 h2⟩
theorem aS8{ps:List (HS K)}{acc:List (V3 K)}{i j k:Nat}(h:acc.Pairwise jT):(uh ps acc i j k).Pairwise jT:=by
 unfold uh;split
 ·exact h
 ·split
  ·rw[Xt];exact U3 h
  ·exact h
theorem aFP{ps:List (HS K)}{acc:List (V3 K)}{i j:Nat}{x:V3 K}:∀ n,x∈ph ps acc i j n↔x∈acc\/∃ k,k<n/\El ps i j k/\x=k9 (ew ps i) (ew ps j) (ew ps k)
 |0=>⟨.inl,λe=>e.elim id λ⟨k,h,_⟩=>by omega⟩
 |n+1=>by
  unfold ph;rw[aS7,aFP n];constructor
  ·rintro((h|⟨k,h1,h2⟩)|h)
   ·exact .inl h
   ·exact .inr ⟨k,by omega,h2⟩
   ·exact .inr ⟨n,by omega,h⟩
  ·rintro(h|⟨k,h1,h2⟩)
   ·exact .inl (.inl h)
   ·rcases eL k n with hl|hl
    ·exact .inl (.inr ⟨k,hl,h2⟩)
    ·have:k=n:=by omega
     subst this;exact .inr h2
theorem aFQ{ps:List (HS K)}{acc:List (V3 K)}{i:Nat}{x:V3 K}:∀ n,x∈ob ps acc i n↔x∈acc\/∃ j k,j<n/\k<j/\El ps i j k/\x=k9 (ew ps i) (ew ps j) (ew ps k)
 |0=>⟨.inl,λe=>e.elim id λ⟨k,_,h,_⟩=>by omega⟩
 |n+1=>by
  unfold ob;rw[aFP,aFQ n];constructor
  ·rintro((h|⟨j,k,h1,h2⟩)|⟨k,h⟩)
   ·exact .inl h
   ·exact .inr ⟨j,k,by omega,h2⟩
   ·exact .inr ⟨n,k,by omega,h⟩
  ·rintro(h|⟨j,k,h1,h2⟩)
   ·exact .inl (.inl h)
   ·rcases eL j n with hl|hl
    ·exact .inl (.inr ⟨j,k,hl,h2⟩)
    ·have:j=n:=by omega
     subst this;exact .inr ⟨k,h2⟩
theorem aFR{ps:List (HS K)}{x:V3 K}:∀ n,x∈rK ps n↔∃ i j k,i<n/\j<i/\k<j/\El ps i j k/\x=k9 (ew ps i) (ew ps j) (ew ps k)
 |0=>⟨λh=>(by cases h),λ⟨i,_,_,h,_⟩=>by omega⟩
 |n+1=>by
  unfold rK;rw[aFQ,aFR n];constructor
  ·rintro(⟨i,j,k,h1,h2⟩|⟨j,k,h⟩)
   ·exact⟨i,j,k,by omega,h2⟩
   ·exact⟨n,j,k,by omega,h⟩
  ·rintro⟨i,j,k,h1,h2⟩
   rcases eL i n with hl|hl
   ·exact .inl ⟨i,j,k,hl,h2⟩
   ·have:i=n:=by omega
    subst this;exact .inr ⟨j,k,h2⟩
theorem aFS{ps:List (HS K)}{acc:List (V3 K)}{i j:Nat}(h:acc.Pairwise jT):∀ n,(ph ps acc i j n).Pairwise jT
 |0=>h
 |n+1=>aS8 (aFS h n)
theorem aFT{ps:List (HS K)}{acc:List (V3 K)}{i:Nat}(h:acc.Pairwise jT):∀ n,(ob ps acc i n).Pairwise jT
 |0=>h
 |n+1=>aFS (aFT h n) _
theorem aFU{ps:List (HS K)}:∀ n,(rK ps n).Pairwise jT
 |0=>aCr
 |n+1=>aFT (aFU n) _
theorem aS9{ps:List (HS K)}{i j k:Nat}(hi:i<ps.length)(hj:j<ps.length)(hk:k<ps.length)(h:El ps i j k):jD ps (k9 (ew ps i) (ew ps j) (ew ps k)):=by
 obtain⟨hd,hb⟩:=h;obtain⟨t1,t2,t3⟩:=aFO hd;have iB:=bd hi;have iH:=bd hj;have gO:=bd hk;have mi:ew ps i∈ps:=by rw[pR iB];exact dz hi
 have mj:ew ps j∈ps:=by rw[pR iH];exact dz hj
 have mk:ew ps k∈ps:=by rw[pR gO];exact dz hk
 refine⟨λp hp=>?_,_,mi,_,mj,_,mk,hd,t1,t2,t3⟩;obtain⟨l,hl,rfl⟩:=kH hp;unfold AD at hb;rw[bh]at hb;have:=hb l (kA.2 hl);unfold I6 at this;rw[pR (bd hl)]at this;simp only[uC,rU]at this;rcases this with rfl|rfl|rfl|h
 ·rw[pR iB]at t1 ⊢;exact OF.le_of_eq t1
 ·rw[pR iH]at t2 ⊢;exact OF.le_of_eq t2
 ·rw[pR gO]at t3 ⊢;exact OF.le_of_eq t3
 ·have:=Xq.1 h;rw[<-OF.sub_nonneg];rw[<-OF.neg_nonneg,OF.neg_sub]at this;exact this
theorem Jc{ps:List (HS K)}{i j k:Nat}{p q r:HS K}{x:V3 K}(hp:ps[i]?=some p)(hq:ps[j]?=some q)(hr:ps[k]?=some r)(hd:bC p.n q.n r.n≠0)(hx:fG ps x)(t1:cH p x)(t2:cH q x)(t3:cH r x):
  El ps i j k/\x=k9 (ew ps i) (ew ps j) (ew ps k):=by
 unfold El;rw[pR hp,pR hq,pR hr];have e:=aS6 hd t1 t2 t3;refine⟨⟨hd,?_⟩,e⟩;rw[<-e];unfold AD;rw[bh];intro l hl;have hl:=kA.1 hl;rw[pR (bd hl)];unfold I6;simp only[uC,rU];refine .inr (.inr (.inr (Xq.2 ?_)));have:=hx _ (dz hl);rw[<-OF.neg_nonneg,OF.neg_sub];exact OF.sub_nonneg.2 this
theorem Q6{ps:List (HS K)}{x:V3 K}:x∈eX ps↔jD ps x:=by
 unfold eX;rw[aFR];constructor
 ·rintro⟨i,j,k,h1,h2,h3,h4,rfl⟩
  exact aS9 h1 o_ o_ h4
 ·rintro⟨ct,p,hp,q,hq,r,hr,hd,t1,t2,t3⟩
  obtain⟨a,ha,rfl⟩:=kH hp;obtain⟨b,hb,rfl⟩:=kH hq;obtain⟨c,hc,rfl⟩:=kH hr;have jd:=bd ha;have jK:=bd hb;have kz:=bd hc;have same:∀ u w:V3 K,bC u u w=0:=Q2;have Xu:∀ u w:V3 K,bC u w w=0:=Q3;have Xv:∀ u w:V3 K,bC u w u=0:=Q4;have ab:a≠b:=λe=>by subst e;exact hd (same _ _)
  have bc:b≠c:=λe=>by subst e;exact hd (Xu _ _)
  have ac:a≠c:=λe=>by subst e;exact hd (Xv _ _)
  have s1:∀{u v w:V3 K},bC u v w≠0->bC u w v≠0:=λ{u v w} h e=>h (by rw[V3.aBO,e,CR.neg_zero]);have r1:∀{u v w:V3 K},bC u v w≠0->bC v w u≠0:=λ{u v w} h e=>h (by rw[V3.Ig];exact e);rcases tf a b with h1|h1|h1
  ·rcases tf b c with h2|h2|h2
   ·exact⟨c,b,a,hc,h2,h1,Jc kz jK jd (r1 (s1 (r1 (r1 (r1 hd))))) ct t3 t2 t1⟩
   ·exact absurd h2 bc
   ·rcases tf a c with h3|h3|h3
    ·exact⟨b,c,a,hb,h2,h3,Jc jK kz jd (r1 hd) ct t2 t3 t1⟩
    ·exact absurd h3 ac
    ·exact⟨b,a,c,hb,h1,h3,Jc jK jd kz (s1 (r1 hd)) ct t2 t1 t3⟩
  ·exact absurd h1 ab
  ·rcases tf a c with h2|h2|h2
   ·exact⟨c,a,b,hc,h2,h1,Jc kz jd jK (r1 (r1 hd)) ct t3 t1 t2⟩
   ·exact absurd h2 ac
   ·rcases tf b c with h3|h3|h3
    ·exact⟨a,c,b,ha,h2,h3,Jc jd kz jK (s1 hd) ct t1 t3 t2⟩
    ·exact absurd h3 bc
    ·exact⟨a,b,c,ha,h1,h3,Jc jd jK kz hd ct t1 t2 t3⟩
theorem aTa(ps:List (HS K)):(eX ps).Pairwise jT:=aFU _
theorem th{ps:List (HS K)}(hc:Cl ps)(hp:gu ps)(hf:jS ps):bf ps=eX ps:=by unfold bf;refine U4 (U6 _) (aTa ps) λx=>?_;rw[U5,Q6,aRQ hc hp (aL3 hc hp hf)]
theorem Jd{ps:List (HS K)}(hc:Cl ps)(hp:gu ps)(hf:jS ps){x:V3 K}:x∈bf ps↔jD ps x:=by rw[th hc hp hf,Q6]
theorem Xw{vs:List (V3 K)}:vj vs=false↔Pf vs:=by
 unfold vj;rw[Jb];constructor
 ·rintro⟨i,hi,h⟩
  have hi:=kA.1 hi;unfold Ej at h;rw[Pv,Jb]at h;obtain⟨k,hk,h⟩:=h;have hk:=kA.1 hk;unfold GB at h;rw[Pv,Jb]at h;obtain⟨j,hj,h⟩:=h;have hj:=kA.1 hj;unfold L3 at h;cases vs with
  |nil=>simp at hi
  |cons o rest=>
   simp only[oM,NK]at hi;have get:∀{n:Nat} (hn:n<rest.length),aK (o::rest) (n+1)=rest[n]:=λhn=>by unfold aK;simp[bd hn]
   rw[get hi,get o_,get o_,show aK (o::rest) 0=o from rfl]at h;refine⟨o,rest,rfl,rest[j],dz _,rest[i],dz _,rest[k],dz _,λe=>?_⟩;refine h (aB ((OF.fh _).2 ?_));rw[V3.zD];exact e
 ·rintro⟨o,rest,rfl,a,ha,b,hb,c,hc,hd⟩
  obtain⟨a,la,rfl⟩:=kH ha;obtain⟨b,lb,rfl⟩:=kH hb;obtain⟨c,lc,rfl⟩:=kH hc;have get:∀{n:Nat} (hn:n<rest.length),aK (o::rest) (n+1)=rest[n]:=λhn=>by unfold aK;simp[bd hn]
  have fin:∀(i k j:Nat) (hi:i<rest.length) (hk:k<rest.length) (hj:j<rest.length),k<i->j<k->bC (rest[j]-o) (rest[i]-o) (rest[k]-o)≠0->∃ x∈List.range ((o::rest).length-1),¬Ej (o::rest) x=true:=by intro i k j hi hk hj hki bO hd;refine⟨i,kA.2 (by simpa using hi),?_⟩;unfold Ej;rw[Pv,Jb];refine⟨k,kA.2 hki,?_⟩;unfold GB;rw[Pv,Jb];refine⟨j,kA.2 bO,?_⟩;unfold L3;rw[get hi,get hk,get hj,show aK (o::rest) 0=o from rfl,rU,OF.fh,V3.zD];exact hd
  have same:∀ u w:V3 K,bC u u w=0:=Q2;have Xu:∀ u w:V3 K,bC u w w=0:=Q3;have Xv:∀ u w:V3 K,bC u w u=0:=Q4;have ab:a≠b:=λe=>by subst e;exact hd (same _ _)
  have bc:b≠c:=λe=>by subst e;exact hd (Xu _ _)
  have ac:a≠c:=λe=>by subst e;exact hd (Xv _ _)
  have s1:∀{u v w:V3 K},bC u v w≠0->bC u w v≠0:=λ{u v w} h e=>h (by rw[V3.aBO,e,CR.neg_zero]);have r1:∀{u v w:V3 K},bC u v w≠0->bC v w u≠0:=λ{u v w} h e=>h (by rw[V3.Ig];exact e);rcases tf a b with h1|h1|h1
  ·rcases tf b c with h2|h2|h2
   ·exact fin c b a lc lb la h2 h1 (s1 hd)
   ·exact absurd h2 bc
   ·rcases tf a c with h3|h3|h3
    ·exact fin b c a lb lc la h2 h3 hd
    ·exact absurd h3 ac
    ·exact fin b a c lb la lc h1 h3 (r1 (s1 hd))
  ·exact absurd h1 ab
  ·rcases tf a c with h2|h2|h2
   ·exact fin c a b lc la lb h2 h1 (r1 hd)
   ·exact absurd h2 ac
   ·rcases tf b c with h3|h3|h3
    ·exact fin a c b la lc lb h2 h3 (r1 (r1 (s1 hd)))
    ·exact absurd h3 bc
    ·exact fin a b c la lb lc h1 h3 (r1 (r1 hd))
theorem aFV{ι:Type}{R:ι->ι->Prop}:∀{l:List ι},qt R l->∀(i:Nat) (x y:ι),l[i]?=some x->l[i+1]?=some y->R x y
 |[],_,i,x,y,h,_=>by simp at h
 |[a],_,i,x,y,_,h=>by simp at h
 |a::b::l,hs,0,x,y,h,k=>by simp at h k;subst h;subst k;exact hs.1
 |a::b::l,hs,i+1,x,y,h,k=>aFV hs.2 i x y (by simpa using h) (by simpa using k)
theorem aFW{g:V3 K}{vs:List (V3 K)}{on:List Nat}{a c:Nat}:vk g vs on a c=true↔c≠a/\pa g (aK vs) on a c:=by
 unfold vk L7;rw[de,bh];have e:∀ b,I9 g vs a c b=true↔(b=a\/b=c\/0<turn g (aK vs a) (aK vs c) (aK vs b)):=by
  intro b;unfold I9 QW;simp only[uC,rU];have:(0<OF.ay (bC g (aK vs c-aK vs a) (aK vs b-aK vs a)))↔0<turn g (aK vs a) (aK vs c) (aK vs b):=by rw[OF.il];show 0<OF.ay (turn g (aK vs a) (aK vs c) (aK vs b))↔_;rcases OF.iW (turn g (aK vs a) (aK vs c) (aK vs b))with h|h|h<;>rw[h]<;>decide
  rw[this]
 constructor
 ·rintro⟨h1,h2⟩
  refine⟨by simpa using h1,λb hb xL zH=>?_⟩;rcases(e b).1 (h2 b hb)with h|h|h
  ·exact absurd h xL
  ·exact absurd h zH
  ·exact h
 ·rintro⟨h1,h2⟩
  refine⟨by simpa using h1,λb hb=>(e b).2 ?_⟩;by_cases xL:b=a
  ·exact .inl xL
  ·by_cases zH:b=c
   ·exact .inr (.inl zH)
   ·exact .inr (.inr (h2 b hb xL zH))
theorem Ci{p:HS K}{vs:List (V3 K)}{i:Nat}:i∈ck p vs vs.length↔i<vs.length/\cH p (aK vs i):=by unfold ck cH;rw[aEV,kA,rU,OF.sub_eq_zero]
theorem aFX(p:HS K)(vs:List (V3 K)):(ck p vs vs.length).Pairwise (·<·):=by unfold ck;exact List.Pairwise.filter _ List.pairwise_lt_range
theorem aFY{vs:List (V3 K)}{i:Nat}(h:i<vs.length):aK vs i∈vs:=cJ (kM h)
theorem aTb{vs:List (V3 K)}{v:V3 K}(h:v∈vs):∃ i,i<vs.length/\aK vs i=v:=by obtain⟨i,hi,rfl⟩:=kH h;refine⟨i,hi,?_⟩;have:=kM hi;rw[bd hi]at this;injection this with this;exact this.symm
structure oc(ps:List (HS K))(vs:List (V3 K)):Prop where
 sorted:vs.Pairwise jT
 mem:∀ v,v∈vs↔jD ps v
theorem oc.lt{ps:List (HS K)}{vs:List (V3 K)}(h:oc ps vs){i j:Nat}(kN:i<j)(hj:j<vs.length):jT (aK vs i) (aK vs j):=by have h1:=kM (vs:=vs) (i:=i) o_;have h2:=kM hj;rw[bd o_]at h1 h2;injection h1 with h1;injection h2 with h2;rw[<-h1,<-h2];exact Qw.1 h.sorted i j o_ hj kN
theorem oc.inj{ps:List (HS K)}{vs:List (V3 K)}(h:oc ps vs){i j:Nat}(hi:i<vs.length)(hj:j<vs.length)(e:aK vs i=aK vs j):i=j:=by
 rcases tf i j with hl|hl|hl
 ·have:=h.lt hl hj;rw[e]at this;exact absurd this (DB _)
 ·exact hl
 ·have:=h.lt hl hi;rw[e]at this;exact absurd this (DB _)
section
variable{ps:List (HS K)}{vs:List (V3 K)}{p:HS K}
theorem oc.conv(h:oc ps vs):Conv p.n (aK vs) (ck p vs vs.length):=
 aLV (ps:=ps) (p:=p) (λi hi=>by obtain⟨h1,h2⟩:=Ci.1 hi;exact⟨(h.mem _).1 (aFY h1),h2⟩) λi hi j hj e=>h.inj (Ci.1 hi).1 (Ci.1 hj).1 e
theorem oc.sort(h:oc ps vs):xJ (aK vs) aB8 (ck p vs vs.length):=by unfold xJ;refine List.Pairwise.imp_of_mem (λ{a b} ha hb ak=>?_) (aFX p vs);have:=h.lt ak (Ci.1 hb).1;exact K3.1 this
theorem aFZ(p:HS K)(vs:List (V3 K)):(ck p vs vs.length).Nodup:=(aFX p vs).imp λ{a b} h=>Nat.ne_of_lt h
theorem oc.loop(h:oc ps vs)(hp:p.n≠0)(hl:¬(ck p vs vs.length).length<3):
  QZ p.n vs (ck p vs vs.length)=false/\aWZ p.n vs (ck p vs vs.length) (order p.n (aK vs) (ck p vs vs.length))/\(order p.n (aK vs) (ck p vs vs.length)).length=(ck p vs vs.length).length:=by
 have hc:=h.conv (p:=p);have hs:=h.sort (p:=p);have iD:=aFZ p vs;have ct:∀ a∈ck p vs vs.length,∀ b∈ck p vs vs.length,aK vs a=aK vs b->a=b:=λa ha b hb e=>h.inj (Ci.1 ha).1 (Ci.1 hb).1 e;generalize gY:ck p vs vs.length=on at *
 match on,hl,hc,hs,iD,ct with
 |a::b::c::l,_,hc,hs,iD,ct=>
  obtain⟨m,e1,e2,e3,e4⟩:=aLx hp hc hs;have hlen:(a::m).length=(a::b::c::l).length:=((List.perm_ext_iff_of_nodup e2 iD).2 e3).length_eq;refine⟨?_,⟨?_,?_,λi x y hx hy=>?_⟩,?_⟩
  ·show(c::l).all (Cg p.n vs a b)=false;rw[Jb];refine⟨c,aU ..,?_⟩;unfold Cg QW;rw[rU,OF.fh];simp only[aF0,ch,not_or]at iD;exact hc.UL hp (aU ..) (bE _ (aU ..)) (bE _ (bE _ (aU ..))) iD.1.1 iD.1.2.1 iD.2.1.1
  ·rw[e1,hlen]
  ·rw[e1];rfl
  ·rw[e1]at hx hy;have GM:=(eh.1 hy).1;have k7:=aFV e4 i x y (by rw[JI o_];exact hx) (by rw[JI GM];exact hy);have hym:=(e3 y).1 (cJ hy);have kC:y≠x:=by intro e;subst e;have WW:=(eh.1 hx).1;have h1:=(eh.1 hx).2;have h2:=(eh.1 hy).2;have:=(Qw.1 e2) i (i+1) WW GM o_;exact this (h1.trans h2.symm)
   obtain⟨k,hk,hke⟩:=kH hym;refine⟨k,by rw[bd hk,hke],aFW.2 ⟨kC,k7⟩,λj z hj hz=>?_⟩;cases hf:vk p.n vs (a::b::c::l) x z with
   |false=>rfl
   |true=>
    obtain⟨q1,q2⟩:=aFW.1 hf;have:=aB4 (pt:=aK vs) (n:=p.n) ct hym (cJ hz) kC q1 k7 q2;subst this;have QX:=(eh.1 hz).1;have hje:=(eh.1 hz).2;exact absurd (hje.trans hke.symm) (Qw.1 iD j k QX hk hj)
  ·rw[e1,hlen]
 |[],hl,_,_,_,_=>simp at hl
 |[_],hl,_,_,_,_=>simp at hl
 |[_,_],hl,_,_,_,_=>simp at hl
theorem oc.Ek(h:oc ps vs)(hp:p.n≠0)(i:Nat):pQ ps vs i p=if lH ps i p then[]else if(ck p vs vs.length).length<3 then[]else[(i,order p.n (aK vs) (ck p vs vs.length))]:=by
 unfold pQ;by_cases h1:lH ps i p=true
 ·rw[ax h1];exact ax h1
 ·rw[au h1];refine(au h1).trans ?_;by_cases h2:(ck p vs vs.length).length<3
  ·rw[ax h2,ax h2]
  ·rw[au h2,au h2,ax (by rw[(h.loop hp h2).2.2];omega)]
theorem aF1:∀{I J:List Nat},I.Nodup->(∀ x∈I,x∈J)->I.length<=J.length
 |[],_,_,_=>lh _
 |x::I,J,hn,hs=>by
  obtain⟨A,B,rfl⟩:=List.append_of_mem (hs x (aU ..));rw[aF0]at hn;have:=aF1 (J:=A++B) hn.2 λy hy=>by
   have h1:=hs y (bE _ hy);rcases dX.1 h1 with h|h
   ·exact pS _ h
   ·rcases ch.1 h with rfl|h
    ·exact absurd hy hn.1
    ·exact yv _ h
  simp only[jx,oM]at this ⊢;omega
theorem aF2(f:Nat->List (Nat×List Nat))(P:Nat->Bool)(h:∀ i,P i=true->f i≠[]):∀ l:List Nat,(l.filter P).length<=(l.flatMap f).length
 |[]=>bt _
 |i::l=>by
  rw[List.flatMap_cons,jx,MU];have:=aF2 f P h l;split
  ·rename_i hp;have:=List.length_pos_iff.2 (h i hp);rw[oM];omega
  ·omega
theorem L9{p q:HS K}(hp:p.n≠0)(hq:q.n≠0)(h:canon p=canon q)(v:V3 K):(dot p.n v<=p.d↔dot q.n v<=q.d)/\(cH p v↔cH q v):=by
 obtain⟨k,hk,rfl⟩:=(Xm hp hq).1 h;unfold cH Ch
 try dsimp only
 rw[V3.OY,CR.mul_comm (dot p.n v),CR.mul_comm p.d];refine⟨(OF.mul_le_mul_left hk).symm,λh=>by rw[h],λh=>?_⟩;have Du:k≠0:=OF.ne_of_gt hk;have:k⁻¹*(k*dot p.n v)=k⁻¹*(k*p.d):=by rw[h]
 rwa[<-CR.mul_assoc,<-CR.mul_assoc,OF.inv_mul Du,CR.one_mul,CR.one_mul]at this
theorem nF.on(hc:Cl ps)(hp:gu ps)(hv:oc ps vs){x:V3 K}(hx:vY ps x){A B:List (HS K)}(h:nF ps (A++p::B)):¬(ck p vs vs.length).length<3:=by
 intro ak;have gg:=hp p (h.sub p (yv _ (aU ..)));have idx:∀ v,jD ps v->cH p v->∃ i∈ck p vs vs.length,aK vs i=v:=by intro v h1 h2;obtain⟨i,hi,e⟩:=aTb ((hv.mem v).2 h1);exact⟨i,Ci.2 ⟨hi,by rw[e];exact h2⟩,e⟩
 have pl:∀ i∈ck p vs vs.length,dot p.n (aK vs i)=p.d:=λi hi=>(Ci.1 hi).2;obtain⟨u,hu,BQ⟩:=KV gg;generalize ck p vs vs.length=on at *
 match on,ak,idx,pl with
 |[],_,idx,_=>
  obtain⟨v,w,v1,v2,_⟩:=h.Ek hc hp hx (FM gg hu BQ);obtain⟨i,hi,_⟩:=idx v v1 v2;cases hi
 |[o],_,idx,_=>
  obtain⟨v,w,v1,v2,w1,w2,ak⟩:=h.Ek hc hp hx (FM gg hu BQ);obtain⟨i,hi,e⟩:=idx v v1 v2;obtain⟨j,hj,e'⟩:=idx w w1 w2;simp at hi hj;subst hi;subst hj;rw[<-e,<-e']at ak;exact OF.lt_irrefl _ ak
 |[o,a],_,idx,pl=>
  by_cases hd:aK vs a-aK vs o=0
  ·have hd:=V3.sub_eq_zero.1 hd;obtain⟨v,w,v1,v2,w1,w2,ak⟩:=h.Ek hc hp hx (FM gg hu BQ);obtain⟨i,hi,e⟩:=idx v v1 v2;obtain⟨j,hj,e'⟩:=idx w w1 w2;simp at hi hj;rw[<-e,<-e']at ak;rcases hi with rfl|rfl<;>rcases hj with rfl|rfl<;>first|exact OF.lt_irrefl _ ak|(rw[hd]at ak;exact OF.lt_irrefl _ ak)
  ·have hdp:dot p.n (aK vs a-aK vs o)=0:=by rw[V3.kp,pl a s_,pl o s_,OF.sub_self]
   have c7:=FM gg hd hdp;have dC:=FM gg c7 (V3.FL _ _);obtain⟨v,w,v1,v2,w1,w2,ak⟩:=h.Ek hc hp hx dC;obtain⟨i,hi,e⟩:=idx v v1 v2;obtain⟨j,hj,e'⟩:=idx w w1 w2;have heq:dot (ao p.n (aK vs a-aK vs o)) (aK vs a)=dot (ao p.n (aK vs a-aK vs o)) (aK vs o):=by rw[<-OF.sub_eq_zero,<-V3.kp,V3.zD];exact V3.Dw _ _
   simp at hi hj;rw[<-e,<-e']at ak;rcases hi with rfl|rfl<;>rcases hj with rfl|rfl<;>first|exact OF.lt_irrefl _ ak|(rw[heq]at ak;exact OF.lt_irrefl _ ak)
 |_::_::_::_,ak,_,_=>simp only[oM]at ak;omega
theorem aTc(hc:Cl ps)(hp:gu ps)(hv:oc ps vs)(hf:jS ps):4<=(e9 ps vs ps.length).length:=by
 obtain⟨x,hx⟩:=hf;obtain⟨S,hS⟩:=aFK ps;have h4:=hS.four hc hp hx;obtain⟨fi,ko⟩:∃ fi:HS K->Nat,fi=λp=>ps.findIdx λq=>decide (canon q=canon p):=⟨_,rfl⟩;have Xx:∀ p∈S,fi p<ps.length:=λp hp=>by rw[ko];exact aTd ⟨p,hS.sub p hp,by simp⟩
 have AH:∀ p (hp:p∈S),canon (ps[fi p]'(Xx p hp))=canon p:=λp hp=>by have h1:=Xx p hp;have:=List.findIdx_getElem (xs:=ps) (p:=λq=>decide (canon q=canon p)) (w:=by rw[ko]at h1;exact h1);subst ko;simpa using this
 have split:∀ i (hi:i<S.length),S=S.take i++S[i]::S.drop (i+1):=λi hi=>by rw[<-Pq hi,Iz]
 have aV:S.Pairwise λp q=>canon p≠canon q:=by
  rw[Qw];intro i j hi hj kN e;have hl:nF ps (S.take i++S[i]::S.drop (i+1)):=by rw[<-split i hi];exact hS
  obtain⟨y,hy,ak⟩:=hl.alone;have hm:S[j]∈S.drop (i+1):=cJ (i:=j-(i+1)) (by rw[Et,show i+1+(j-(i+1))=j by omega,bd hj])
  have:=hy _ (yv _ hm);have hs:=(L9 (hp _ (hS.sub _ (dz hi))) (hp _ (hS.sub _ (dz hj))) e y).1;exact OF.lt_irrefl _ (OF.lt_of_lt_of_le ak (hs.2 this))
 have hI:(S.map fi).Nodup:=by
  unfold List.Nodup;rw[List.pairwise_map];refine List.Pairwise.imp_of_mem (λ{a b} ha hb b9 e=>b9 ?_) aV;have h1:=AH a ha;have h2:=AH b hb;rw[<-h1,<-h2]
  congr 1
  have:∀(i j:Nat) (hi:i<ps.length) (hj:j<ps.length),i=j->ps[i]=ps[j]:=λi j hi hj e=>by subst e;rfl
  exact this _ _ _ _ e
 have aTe:∀ i∈S.map fi,i<ps.length/\gE ps vs i≠[]:=by
  intro i hi;obtain⟨p,Cj,rfl⟩:=di.1 hi;have ak:=Xx p Cj;have Je:=AH p Cj;refine⟨ak,?_⟩;unfold gE;rw[bd ak];dsimp only;have gg:=hp _ (hS.sub p Cj);have zQ:=hp _ (dz ak);rw[hv.Ek zQ];have rI:¬lH ps (fi p) ps[fi p]=true:=by
   unfold lH;rw[qM]
   rintro⟨q,hq,hd⟩
   obtain⟨j,hj,rfl⟩:=kH hq;rw[ji]at hj;rw[QI,Je]at hd;have hd:=kW hd;have Ma:j<fi p:=by omega
   rw[ko]at Ma;have:=List.not_of_lt_findIdx Ma;simp[hd]at this
  rw[au rI];obtain⟨k,hk,rfl⟩:=kH Cj;have hl:nF ps (S.take k++S[k]::S.drop (k+1)):=by rw[<-split k hk];exact hS
  have gY:=nF.on hc hp hv hx hl;have heq:ck ps[fi S[k]] vs vs.length=ck S[k] vs vs.length:=by unfold ck;refine List.filter_congr λi _=>?_;have hs:=(L9 zQ gg Je (aK vs i)).2;unfold cH at hs;rw[oQ,OF.sub_eq_zero,OF.sub_eq_zero];exact hs
  rw[heq,au gY];exact n_
 have h1:=aF1 (J:=(List.range ps.length).filter λi=>decide (gE ps vs i≠[])) hI λi hi=>by rw[aEV,kA,rU];exact aTe i hi
 have h2:=aF2 (gE ps vs) (λi=>decide (gE ps vs i≠[])) (λi hi=>kW hi) (List.range ps.length);rw[eO]at h1;unfold e9;omega
end
end
theorem bL.swap{α β:Type}{R:α->β->Prop}{a a':α}(h:∀ b,R a b->R a' b):∀(pre:List α) {post:List α} {m:List β},bL R (pre++a::post) m->bL R (pre++a'::post) m
 |[],_,_,h1=>by cases h1 with|cons h2 h3=>exact .cons (h _ h2) h3
 |_::pre,_,_,h1=>by cases h1 with|cons h2 h3=>exact .cons h2 (bL.swap h pre h3)
theorem aF3{c:Nat->Option Obj}{M:aH}(h:cV c M)(k:Nat)(x:Obj):cV (aZ c k x) ((k,x)::M):=λj y e=>by
 unfold ah at e;unfold aZ;split at e
 ·rename_i hb;injection e with e;subst e;rw[ax (ki hb).symm]
 ·rename_i hb;rw[au (λe'=>hb (by rw[e'];exact EN k))];exact h j y e
theorem aTf{c:Nat->Option Obj}{n:Nat}(h:eM c n){k:Nat}(hk:k<n)(x:Obj):eM (aZ c k x) n:=λj hj=>by unfold aZ;rw[au o_];exact h j hj
section
variable{P:Program}{B:aa}{N:Nat}
theorem aO.aTg{ι:Map}{c:Nat->Option Obj}{w:World}(hm:aO B ι c w){k:Nat}{cells cells':aj}{ty:TypeId}(hk:c k=some (.aI cells ty))(h:∀ bA,bL (aG ι) cells bA->bL (aG ι) cells' bA):aO B ι (aZ c k (.aI cells' ty)) w:=by obtain⟨l,h1,b,bA,e1,e2,e3⟩:=hm.born k _ hk;subst e1;exact hm.write hk rfl h1 (.refl w) rfl rfl (bt _) (λ_ _ _=>rfl) ⟨b,bA,rfl,h _ e2,e3⟩ n_ rfl
theorem St.aTh{fr:aR}{M:aH}{next:Nat}{a:Act}{w:World}(h:St B N fr M next a w){k:Nat}{pre post:aj}{tb:TypeId}(hk:ah M k=some (.aI (pre++.slice none 0 0::post) tb))(ty:TypeId)(s:Nat):
  St B N fr ((k,.aI (pre++.slice (some ⟨next,0,some 7⟩) 0 0::post) tb)::(next,.row [] ty s)::M) (next+1) a w:=by
 obtain⟨ι,cc,h1,h2,h3,h4⟩:=h;have hn:=h4 next (bt _);have hle:Map.le ι (dG ι next .nil):=gN (h2.du next hn);have wy:=h3 k _ hk;have mT:k≠next:=λe=>by subst e;rw[hn]at wy;cases wy
 have ak:k<next:=by
  rcases eL k next with h|h
  ·exact h
  ·rw[h4 k h]at wy;cases wy
 have m1:aO B (dG ι next .nil) (aZ cc next (.row [] ty s)) w:=h2.add hn (.inl ⟨rfl,rfl⟩) n_ n_ n_;have m2:=m1.aTg (k:=k) (cells:=pre++.slice none 0 0::post) (cells':=pre++.slice (some ⟨next,0,some 7⟩) 0 0::post) (ty:=tb) (by unfold aZ;rw[au mT];exact wy) λbA hc=>
  bL.swap (λb hb=>by rw[hb.eY rfl];exact .slcN (fK _ _ _)) pre hc
 refine⟨_,_,⟨h1.defers,h1.size,λt=>(h1.slot t).mono hle⟩,m2,aF3 (aF3 h3 _ _) _ _,aTf (λj hj=>?_) o_ _⟩;unfold aZ;rw[au o_];exact h4 j o_
def aF4(P:Program)(f:FuncId)(k6 s1 np:Nat)(xp:aj)(nv:Nat)(xv:aj)(F:Fact):Prop:=
 ∀ w v1 b o c,cO w v1 np xp->cO w (.slice (some ⟨b,o,none⟩) nv c) nv xv->Calls P f #[v1,.slice (some ⟨b,o,none⟩) nv c] w λe w'=>∃ u1 u3,e=.returned (.agg #[u1,.slice (some ⟨b,o,none⟩) nv c,u3])/\
  w'.ownsRow w.heap.size k6 s1 u1 np xp/\Dv w' u3 F/\(∀ b,F.cR u3 w' b->w.heap.size<=b)/\(∀ b,iP u1=some b->¬F.cR u3 w' b)/\Below w.heap.size w w'
theorem aTi{f:FuncId}{k6 s1 np nv:Nat}{xp xv:aj}{F:Fact}{a1 a2:Value}{nd:List (Nat×Option Obj)}{o:Oper}{x:Operand}{S:Nat}(h:aF4 P f k6 s1 np xp nv xv F)(hs:fR B [.r np xp,.r nv xv] [a1,a2] nd)(ho:dx o.op=some x)(eQ:gz P f=true)(wO:F.rc=false)
  (f1:(xp.all flat)=true) (hnv:0<nv) (hS:∀ w,B.G w->S<=w.heap.size) (k:Nat) :
  cD P B o (.func (.func f) #[] #[]::[a1,a2]) ((k,none)::(k+1,none)::nd) (.agg #[.slice (some ⟨k,0,some 7⟩) np 0,a2,.pointer (some ⟨k+1,0,some 9⟩)])
   [(k+1,.fact (F.kL S)),(k,.row xp k6 s1)]:=by
 have:=jM (P:=P) (B:=B) (o:=o) (x:=x) (f:=f) (fi:=[]) (args:=[a1,a2]) (ca:=[]) (need:=(k,none)::(k+1,none)::nd)
  (val:=.agg #[.slice (some ⟨k,0,some 7⟩) np 0,a2,.pointer (some ⟨k+1,0,some 9⟩)]) (cU:=[(k+1,.fact (F.kL S)),(k,.row xp k6 s1)]) ho eQ ?_
 ·simpa using this
 ·intro ι c w hm hn args' ha;rw[jw,jn]at ha;have k0:c k=none:=hn (k,none) s_;have k1:c (k+1)=none:=hn (k+1,none) s_;have ct:=BO hs hm (λp hp=>hn p (by simp[hp])) ha;obtain⟨v1,v2,rfl,ca1,Zh⟩:=jI ha;cases ct with
  |cons i1 ct=>
  cases ct with
  |cons i2 _=>
  have i1:cO w v1 np xp:=i1;have i2:cO w v2 nv xv:=i2;have i3:=i2;rcases i2 with ⟨_,e,_⟩|⟨b,o',c',rfl,_⟩
  ·omega
  refine(h w v1 b o' c' i1 i3).mono ?_
  rintro e w' ⟨u1,u3,rfl,r1,r3,f3,PW,hb⟩
  have Lr:=hS w hm.base;have u9:=hm.call hb;have cZ:∀ j y b o cap,c j=some y->ι j=some (.at b o cap)->y.owns=true\/y.gw=true->b<w.heap.size:=λj y b o cap hj hl hy=>by
   rcases hy with hy|hy
   ·exact(hm.own j y b o cap hj hy hl).1
   ·exact(hm.seen j y b o cap hj hy hl).1
  have PY:∀ j F u b,c j=some (.fact F)->ι j=some (.val u)->F.cR u w' b->b<w.heap.size:=λj F u b hj hu hF=>by have hF:=hm.Cp hj hu hb.size (λk hk _=>hb.block k hk) hF;obtain⟨l,q1,q2⟩:=hm.born j _ hj;rw[hu]at q1;injection q1 with q1;exact q2.wM q1.symm hF
  have Ls:∀ b,iP u1=some b->w.heap.size<=b:=λb hb=>by
   rcases r1.2 with ⟨h1,_⟩|⟨g,cap,cur,h1,h2,_⟩
   ·rw[h1]at hb;cases hb
   ·rw[h1]at hb;injection hb with hb;subst hb;exact h2
  have PZ:∀ b,B.cR b->b<w.heap.size:=λb hF=>B.lt w b hm.base hF;obtain⟨bP,l1,m1,c1,p1⟩:=VB u9 k0 r1 f1 PZ (λj y b o cap hj hl hy e=>by have a:=cZ j y b o cap hj hl hy;have b:=Ls b e;omega) (λj F u b hj hu e hF=>by have a:=PY j F u b hj hu hF;have b:=Ls b e;omega);have back:∀ j y l,c j=some y->bP j=some l->ι j=some l:=λj y l hj hl=>by obtain⟨l',cv,_⟩:=u9.born j y hj;have:=l1 j l' cv;rw[hl]at this;injection this with this;rw[this];exact cv
  have P0:aZ c k (.row xp k6 s1) (k+1)=none:=by unfold aZ;rw[au o_];exact k1
  have Lt:∀ j y,aZ c k (.row xp k6 s1) j=some y->(j=k/\y=.row xp k6 s1)\/(j≠k/\c j=some y):=λj y hj=>by
   unfold aZ at hj;by_cases bO:j=k
   ·rw[ax bO]at hj;injection hj with hj;exact .inl ⟨bO,hj.symm⟩
   ·rw[au bO]at hj;exact .inr ⟨bO,hj⟩
  have m3:aO B (dG bP (k+1) (.val u3)) (aZ (aZ c k (.row xp k6 s1)) (k+1) (.fact (F.kL S))) w':=
   m1.add P0 ⟨u3,rfl,r3.1,λb hF=>dh Lr (f3 b hF)⟩ n_ (λF' v b e1 e2 hF j y o' aQ hj hy he=>by
    injection e1 with e1;subst e1;injection e2 with e2;subst e2;have hF:F.cR u3 w' b:=hF;rcases Lt j y hj with ⟨rfl,rfl⟩|⟨_,hj⟩
    ·exact PW b (p1 b o' aQ he) hF
    ·have h1:=cZ j y b o' aQ hj (back j y _ hj he) (.inl hy);have h2:=f3 b hF;omega) n_ λF' e hr=>by
    injection e with e;subst e;have:F.rc=true:=hr;rw[wO]at this;cases this
  have l3:Map.le bP (dG bP (k+1) (.val u3)):=gN (m1.du _ P0);exact⟨_,_,rfl,l1.trans l3,.agg (.cons (c1.mono l3) (.cons (Zh.mono (l1.trans l3)) (.cons (.opq (fK _ _ _) r3.2.1 r3.2.2) .nil))),m3⟩
end
section
open V3 (dot ao bC smul)
theorem Q7(F:Fact)(S:Nat):∀ v w,(F.kL S).G v w->F.G v w:=λ_ _ h=>h.1
def Ck(ps:List (HS K))(vs:List RV)(fs:List (Int×List Int)):aT:=.s ps.length (aN ps) vs.length (cF vs) (eK fs)
theorem aF5(ps:List (HS K))(vs:List RV)(fs:List (Int×List Int)):(Ck ps vs fs).ok=true:=by show((aN ps).all flat&&((cF vs).all flat&&true))=true;rw[cX,gV gh];rfl
def Xy(ps:List (HS K))(vs:List RV)(fs:List (Int×List Int)):Bool:=rh ps&&(rq ps (bf ps)&&(decide (vs=(bf ps).map cx)&&decide (fs=ev ps)))
section
variable{ps:List (HS K)}{m:Nat}{vs:List RV}{fs:List (Int×List Int)}
def dP(k:Nat):Value:=.pointer (some ⟨k,0,some 9⟩)
theorem aTj(ps:List (HS K))(vs:List RV)(fs:List (Int×List Int)):([Ck ps vs fs].all aT.ok)=true:=by simp only[dM,fH,aF5,wh]
theorem vl{vs:List RV}(h:vs.length=0):cF vs=[]:=by rw[lK h];rfl
theorem aTk(h:pf ps m)(aP:∀ x∈vs,x.Sm)(gK:vs.length<9223372036854775807)(wH:fs.length<9223372036854775807)(pP:∀ f∈fs,f.2.length<9223372036854775807):cI prog 38 [Ck ps vs fs] (.bool (Xy ps vs fs)):=by
 unfold Xy;have az:=aTj ps vs fs;unfold Ck at *;by_cases hc:rh ps=true
 ·by_cases hi:rq ps (bf ps)=true
  ·have mK:=aFb h hc hi;rw[hc,hi];have qz:∀ x∈(bf ps).map cx,x.Sm:=λx hx=>by obtain⟨v,hv,rfl⟩:=di.1 hx;exact(I2 h.sz v hv).sm (WQ (yj (n:=0) h.bound o_).2.1).2.2
   have heq:=aNa (a:=vs) (b:=(bf ps).map cx) aP qz gK;have hef:=aRZ (fs:=fs) (fs':=ev ps) wH pP;unfold aL at mK;have hlen:(bf ps).length=((bf ps).map cx).length:=by rw[eO]
   rw[hlen]at mK;generalize (bf ps).map cx=cP at *;have e0:decide (vs=cP)=true\/decide (vs=cP)=false:=by cases decide (vs=cP)<;>simp
   rcases e0 with e0|e0
   ·rw[e0]at heq ⊢;rw[lP,lP,lP];generalize decide (fs=ev ps)=t at *;refine gT mixed func38 az 100 (N:=29) k_ (λw=>[
     .step 9 (av f38 9) [.func (.func 40) #[] #[],sl 0 ps.length] [(4,none),(5,none),(6,none),(0,some (.view (aN ps)))] (.tuple #[.agg #[sl 4 ps.length,sl 5 cP.length,dP 6],gL 0]) [(6,.fact ((eK (ev ps)).kL w.heap.size)),(5,.row (cF cP) 33 30),(4,.row (aN ps) 35 40)]
      (DO (B:=aa.at w) (S:=w.heap.size) mK (.w (x:=.view (aN ps)) rfl (cX ps) iF .nil) (x:=.func 40) k_ k_ rfl (cX ps) (gV gh _) rfl (λw' hb=>Below.size hb) 4),
     .step 19 (av f38 19) [.func (.func 65) #[] #[],sl 1 vs.length,sl 5 cP.length] [(1,some (.view (cF vs))),(5,some (.row (cF cP) 33 30))] (.bool true) []
      (dL heq (.w (x:=.view (cF vs)) rfl (gV gh _) vl (.w (x:=.row (cF cP) 33 30) rfl (gV gh _) vl .nil)) (x:=.func 65) k_ k_ rfl),
     .step 27 (av f38 27) [.func (.func 66) #[] #[],dP 2,dP 6,LW] [(2,some (.fact (eK fs))),(6,some (.fact ((eK (ev ps)).kL w.heap.size)))] (.bool t) []
      (dL hef (.o (.oi (Q7 _ _) (.p rfl .nil))) (x:=.func 66) k_ k_ rfl)]) (λw=>?_) k_
    kernel_rfl
   ·rw[e0]at heq ⊢;refine gT mixed func38 az 100 (N:=29) k_ (λw=>[
     .step 9 (av f38 9) [.func (.func 40) #[] #[],sl 0 ps.length] [(4,none),(5,none),(6,none),(0,some (.view (aN ps)))] (.tuple #[.agg #[sl 4 ps.length,sl 5 cP.length,dP 6],gL 0]) [(6,.fact ((eK (ev ps)).kL w.heap.size)),(5,.row (cF cP) 33 30),(4,.row (aN ps) 35 40)]
      (DO (B:=aa.at w) (S:=w.heap.size) mK (.w (x:=.view (aN ps)) rfl (cX ps) iF .nil) (x:=.func 40) k_ k_ rfl (cX ps) (gV gh _) rfl (λw' hb=>Below.size hb) 4),
     .step 19 (av f38 19) [.func (.func 65) #[] #[],sl 1 vs.length,sl 5 cP.length] [(1,some (.view (cF vs))),(5,some (.row (cF cP) 33 30))] (.bool false) []
      (dL heq (.w (x:=.view (cF vs)) rfl (gV gh _) vl (.w (x:=.row (cF cP) 33 30) rfl (gV gh _) vl .nil)) (x:=.func 65) k_ k_ rfl)]) (λw=>?_) k_
    kernel_rfl
  ·have hi:rq ps (bf ps)=false:=by simpa using hi
   rw[hc,hi];exact gT mixed func38 az 100 (N:=29) k_ (λw=>[.step 9 (av f38 9) [.func (.func 40) #[] #[],sl 0 ps.length] [(0,some (.view (aN ps)))] (.tuple #[rJ,gL 12]) []
    (dL (aE9 h hc hi) (.w (x:=.view (aN ps)) rfl (cX ps) iF .nil) (x:=.func 40) k_ k_ k_)]) (λw=>k_) k_
 ·have hc:rh ps=false:=by simpa using hc
  rw[hc];exact gT mixed func38 az 100 (N:=29) k_ (λw=>[.step 9 (av f38 9) [.func (.func 40) #[] #[],sl 0 ps.length] [(0,some (.view (aN ps)))] (.tuple #[rJ,gL 13]) []
   (dL (aRS h hc) (.w (x:=.view (aN ps)) rfl (cX ps) iF .nil) (x:=.func 40) k_ k_ k_)]) (λw=>k_) k_
end
theorem aTl{ns:List Nat}:∀{Os cz:aH},cz.map (·.1)=Os.map (·.1)++ns->∀ k,ah cz k=none↔(ah Os k=none/\ns.contains k=false):=by
 have look:∀(l:aH) (k:Nat),ah l k=none↔(l.map (·.1)).contains k=false:=by
  intro l k;induction l with
  |nil=>exact⟨λ_=>rfl,λ_=>rfl⟩
  |cons p l ih=>
   obtain⟨a,x⟩:=p;rw[show ah ((a,x)::l) k=if Nat.beq a k=true then some x else ah l k from rfl,qO,List.contains_cons];by_cases h:Nat.beq a k=true
   ·rw[ax h];have:=ki h;subst this;simp
   ·rw[au h,ih];have:(k==a)=false:=by
     cases e:k==a with
     |false=>rfl
     |true=>have:=eq_of_beq e;subst this;exact absurd (EN k) h
    rw[this,vD]
 intro Os cz h k;rw[look,look,h,List.contains_append,MP]
theorem St.aTm{B:aa}{N:Nat}{fr:aR}{M:aH}{next k:Nat}{a:Act}{w:World}{ty:TypeId}(h:St B N fr M next a w)(hk:ah M k=some (.aI [.slice none 0 0] ty))(F8:TypeId)(s:Nat):
  St B N fr ((k,.aI [.slice (some ⟨next,0,some 7⟩) 0 0] ty)::(next,.row [] F8 s)::M) (next+1) a w:=by
 obtain⟨ι,cc,h1,h2,h3,h4⟩:=h;have hn:=h4 next (bt _);have hle:Map.le ι (dG ι next .nil):=gN (h2.du next hn);have wy:=h3 k _ hk;have mT:k≠next:=λe=>by subst e;rw[hn]at wy;cases wy
 have m1:=h2.add hn (x:=.row [] F8 s) (l:=.nil) (.inl ⟨rfl,rfl⟩) n_ n_ n_;have aF6:aZ cc next (.row [] F8 s) k=some (.aI [.slice none 0 0] ty):=by unfold aZ;rw[au mT];exact wy
 obtain⟨l,q1,b,bA,q2,q3,q4⟩:=m1.born k _ aF6;subst q2;have m2:=m1.write (y:=.aI [.slice (some ⟨next,0,some 7⟩) 0 0] ty) aF6 rfl q1 (.refl w) rfl rfl (bt _) (λ_ _ _=>rfl) ⟨b,bA,rfl,by obtain⟨u,rfl,hu⟩:=ml q3;rw[hu.eY rfl];exact .cons (.slcN (fK _ _ _)) .nil,q4⟩ n_ rfl
 refine⟨_,_,h1.mono hle,m2,λj x e=>?_,λj hj=>?_⟩
 ·unfold ah at e;split at e
  ·rename_i hb;injection e with e;subst e;unfold aZ;rw[ax (ki hb).symm]
  ·rename_i hb;have bO:j≠k:=λe'=>hb (by rw[e'];exact EN k);unfold ah at e;split at e
   ·rename_i gm;injection e with e;subst e;unfold aZ;rw[au bO,ax (ki gm).symm]
   ·have:=h3 j x e;have Si:j≠next:=λe'=>by subst e';rw[hn]at this;cases this
    unfold aZ;rw[au bO,au Si];exact this
 ·have hkl:k<next:=by
   rcases eL k next with h|h
   ·exact h
   ·have:=h4 k h;rw[wy]at this;cases this
  unfold aZ;rw[au o_,au o_];exact h4 j o_
def iQ(p:HS K)(vs:List (V3 K))(j:Nat):List Nat:=(List.range j).filter λk=>decide (OF.ay (dot p.n (aK vs k)-p.d)>0)
theorem aTn(p:HS K)(vs:List (V3 K))(j:Nat):iQ p vs (j+1)=iQ p vs j++(if OF.ay (dot p.n (aK vs j)-p.d)>0 then[j]else[]):=by
 unfold iQ;rw[H0,aEU]
 congr 1
 by_cases h:OF.ay (dot p.n (aK vs j)-p.d)>0<;>simp[h]
theorem aTo(p:HS K)(vs:List (V3 K))(j:Nat):(iQ p vs j).length<=j:=by have:=aEW (λk=>decide (OF.ay (dot p.n (aK vs k)-p.d)>0)) (List.range j);rw[xb]at this;exact this
section
variable{ps:List (HS K)}{vs:List (V3 K)}{p:HS K}
def ui(np:Nat)(vs:List (V3 K))(p:HS K)(L:Nat)(l:List Nat):aH:=[(3,.aI [sl 0 np,sl 1 vs.length,dP 2] 26),(4,.aI (cG p).cs 35),(5,.aI [sl 6 L] 56),(6,.row (ai l) 3 1)]
def Q8(vs:List (V3 K)):aH:=[(1,.view (aL vs))]
theorem aTp{np i m q:Nat}{l:List Nat}(hi:i<vs.length)(hp:bo m p)(gg:p.n≠0)(aP:∀ v∈vs,aD q v)(hm:100*(m+q)+1000<=aA)(h63:l.length<900000)(hs:OF.ay (dot p.n (aK vs i)-p.d)>0):
  xN prog 76 7 ([vI i]++[bY 4,bY 3,bY 5]) (ui np vs p l.length l) (Q8 vs) (.tuple #[]) [(3,.aI [sl 0 np,sl 1 vs.length,dP 2] 26),(4,.aI (cG p).cs 35),(5,.aI [sl 8 (l.length+1)] 56),(6,.dead),(8,.row (ai (l++[i])) 3 1)]:=by
 have hv:=kM hi;have F3:=zO hp (aP _ (cJ hv)) o_ gg;have e:(Value.bool (decide (OF.ay (dot p.n (aK vs i)-p.d)>0)))=.bool true:=by rw[aB hs]
 have hr:ai l++[vI i]=ai (l++[i]):=by simp[ai]
 have Av:(ai l).length=l.length*1:=by rw[lC,fX]
 have h1:=IY l;unfold ui;generalize OF.ay (dot p.n (aK vs i)-p.d)=z at *;generalize aK vs i=v at *;generalize ai l=c0 at *;generalize ai (l++[i])=c1 at *;exact oF mixed func76 100 (N:=17) k_ (λ_=>[.cT f76 9 1 vs.length i 30 hi k_,.ld f76 10 33 1 (i*30) (.view (aL vs)) (bF v) rfl (jV hv) k_,F3.at 11,.rw 12 (.bool (decide (z>0))) (.bool true) e,.bs f76 15 7 1 3 1 [0] (vI 0) [vI i] #[vI i] (.row [vI i] 3 1) rfl (λv hv=>by simp at hv;subst hv;rfl) (λv hv=>by simp at hv;subst hv;rfl) k_ rfl d_ d_ k_,.pB f76 16 8 6 l.length 1 (l.length+1) 3 1 8 c0 7 (.row [vI i] 3 1) c1 rfl rfl rfl Av hr (λv hv=>by simp[Obj.cells]at hv;subst hv;rfl) d_ (by simp[maxLen];omega) o_ k_]) (λ_=>k_)
theorem aTq{np i m q:Nat}{l:List Nat}(hi:i<vs.length)(hp:bo m p)(gg:p.n≠0)(aP:∀ v∈vs,aD q v)(hm:100*(m+q)+1000<=aA)(hs:¬OF.ay (dot p.n (aK vs i)-p.d)>0):
  xN prog 76 7 ([vI i]++[bY 4,bY 3,bY 5]) (ui np vs p l.length l) (Q8 vs) (.tuple #[]) (ui np vs p l.length l):=by
 have hv:=kM hi;have F3:=zO hp (aP _ (cJ hv)) o_ gg;have e:(Value.bool (decide (OF.ay (dot p.n (aK vs i)-p.d)>0)))=.bool false:=by rw[aJ hs]
 unfold ui;generalize OF.ay (dot p.n (aK vs i)-p.d)=z at *;generalize aK vs i=v at *;generalize ai l=c0 at *;exact oF mixed func76 100 (N:=17) k_ (λ_=>[.cT f76 9 1 vs.length i 30 hi k_,.ld f76 10 33 1 (i*30) (.view (aL vs)) (bF v) rfl (jV hv) k_,F3.at 11,.rw 12 (.bool (decide (z>0))) (.bool false) e]) (λ_=>k_)
def Jf(nv i:Nat):aR:=[(12,vI i),(11,vI nv),(6,.func (.func 76) #[] #[bY 4,bY 3,bY 5]),(5,bY 5)]
def AJ(xs:aj)(F:Fact)(np:Nat)(vs:List (V3 K))(p:HS K)(l:List Nat):aH:=(0,.view xs)::(2,.fact F)::(1,.view (aL vs))::ui np vs p l.length l
theorem aF7{np L:Nat}{l:List Nat}:((ui np vs p L l++Q8 vs).all λq=>Nat.blt q.1 7&&oE 7 q)=true:=by have e1:=zX (m:=7) (k:=4) (x:=.aI (cG p).cs 35) λv hv=>iO.flat _ v hv;have e2:=zX (m:=7) (k:=6) (x:=.row (ai l) 3 1) λv hv=>kJ _ v hv;have e3:=zX (m:=7) (k:=1) (x:=.view (aL vs)) λv hv=>bh.1 (dF vs) v hv;simp only[ui,Q8,E9,jw,dM,fH,e1,e2,e3];rfl
theorem aTr{Bs:aa}{xs:aj}{F:Fact}{np i m q:Nat}{l:List Nat}(hi:i<vs.length)(hp:bo m p)(gg:p.n≠0)(aP:∀ v∈vs,aD q v)(hm:100*(m+q)+1000<=aA)(h63:l.length<900000)(gK:vs.length<900000)(hs:OF.ay (dot p.n (aK vs i)-p.d)>0):
  ag prog Bs 20 (aF (af f42 0)) (Jf vs.length i) (AJ xs F np vs p l) 7 ⟨.normal,Jf vs.length (i+1),[(0,.view xs),(2,.fact F),(1,.view (aL vs)),(3,.aI [sl 0 np,sl 1 vs.length,dP 2] 26),(4,.aI (cG p).cs 35),(5,.aI [sl 8 (l.length+1)] 56),(8,.row (ai (l++[i])) 3 1)],9⟩:=by
 have Xz:=aTp (np:=np) hi hp gg aP hm h63 hs;have dr:=aF7 (p:=p) (vs:=vs) (np:=np) (L:=l.length) (l:=l);have f4:∀ v∈(cG p).cs,xU 7 [8] v=true:=λv hv=>aDg (iO.flat _ v hv);have f8:∀ v∈ai (l++[i]),xU 7 [8] v=true:=λv hv=>aDg (kJ _ v hv);unfold AJ;unfold ui at *;generalize ai l=c0 at *;generalize ai (l++[i])=c1 at *;refine aC [.lt 13 i vs.length true (aB hi),.step 17 (av f42 17) _ _ _ _ (aNL (args:=[vI i]) (ca:=[bY 4,bY 3,bY 5]) (ns:=[8]) (x:=.tmp 15) Xz k_ k_ k_ k_ dr ?_ k_ ?_ k_ (aTl rfl)),.sum 18 i 1 (i+1) rfl o_]
 ·intro q hq;simp only[ch,iu,iv]at hq;rcases hq with rfl|rfl|rfl|rfl|rfl
  ·intro v hv;simp[Obj.cells]at hv;rcases hv with rfl|rfl|rfl<;>rfl
  ·exact f4
  ·intro v hv;simp[Obj.cells]at hv;subst hv;rfl
  ·intro v hv;cases hv
  ·exact f8
 ·intro q hq;simp only[ch,iu,iv]at hq;rcases hq with rfl|rfl|rfl|rfl|rfl
  ·exact .inl rfl
  ·exact .inl rfl
  ·exact .inl rfl
  ·exact .inr rfl
  ·exact .inl rfl
theorem aTs{Bs:aa}{xs:aj}{F:Fact}{np i m q:Nat}{l:List Nat}(hi:i<vs.length)(hp:bo m p)(gg:p.n≠0)(aP:∀ v∈vs,aD q v)(hm:100*(m+q)+1000<=aA)(gK:vs.length<900000)(hs:¬OF.ay (dot p.n (aK vs i)-p.d)>0):
  ag prog Bs 20 (aF (af f42 0)) (Jf vs.length i) (AJ xs F np vs p l) 7 ⟨.normal,Jf vs.length (i+1),AJ xs F np vs p l,7⟩:=by
 have Xz:=aTq (np:=np) (l:=l) hi hp gg aP hm hs;have dr:=aF7 (p:=p) (vs:=vs) (np:=np) (L:=l.length) (l:=l);have FG:((ui np vs p l.length l).all (oE 7))=true:=by rw[List.all_append,de]at dr;rw[bh];intro q hq;have:=bh.1 dr.1 q hq;rw[de]at this;exact this.2
 unfold AJ;unfold ui at *;generalize ai l=c0 at *;exact aC [.lt 13 i vs.length true (aB hi),.step 17 (av f42 17) _ _ _ _ (aCw (args:=[vI i]) (ca:=[bY 4,bY 3,bY 5]) (x:=.tmp 15) Xz k_ k_ k_ k_ dr FG k_ k_),.sum 18 i 1 (i+1) rfl o_]
noncomputable def lC0:Code:=rD (eT f42)
noncomputable def lC1:Code:=rD (nu (eT f42))
noncomputable def lC2:Code:=rD (nu (nu (eT f42)))
noncomputable def lC3:Code:=rD (rD (nu (nu (nu (eT f42)))))
noncomputable def lC4:Code:=rD (nu (nu (nu (nu (eT f42)))))
theorem aTt:(f42).body=some (.seq lC0 (.seq lC1 (.seq lC2 (.seq (.seq lC3 (.block 0 (.loop (aF (af f42 0))))) (.seq lC4 .ret))))):=k_
theorem aTu{xs:aj}{F:Fact}{np L:Nat}{l:List Nat}{r:List (Nat×Nat)}(kZ:(xs.all flat)=true)(h3:([sl 0 np,sl 1 vs.length,dP 2].all (tV r))=true)(h4:((cG p).cs.all (tV r))=true)(h5:tV r (sl 6 L)=true):
  ∀ q∈(0,.view xs)::(2,.fact F)::(1,.view (aL vs))::ui np vs p L l,F5 r q.2:=λq hq=>by
 simp only[ui,ch,iu,iv]at hq;rcases hq with rfl|rfl|rfl|rfl|rfl|rfl|rfl
 ·exact λv hv=>bh.1 kZ v hv
 ·trivial
 ·exact λv hv=>bh.1 (dF vs) v hv
 ·exact h3
 ·exact h4
 ·show([sl 6 L].all (tV r))=true;rw[dM,h5];rfl
 ·exact λv hv=>kJ _ v hv
def XA(B:aa)(xs:aj)(F:Fact)(np:Nat)(vs:List (V3 K))(p:HS K)(i:Nat)(a:Act)(w:World):Prop:=St B 20 (Jf vs.length i) (AJ xs F np vs p (iQ p vs i)) 7 a w
theorem aF8{xs:aj}{F:Fact}{np m q:Nat}(hp:bo m p)(gg:p.n≠0)(aP:∀ v∈vs,aD q v)(hm:100*(m+q)+1000<=aA)(gK:vs.length<900000)(kZ:(xs.all flat)=true)(hF:F.rc=false):
  lX prog 42 [.s np xs vs.length (aL vs) F,.p (cB p)] 3 1 (iQ p vs vs.length).length (ai (iQ p vs vs.length)):=by
 intro w args ct;have az:([.s np xs vs.length (aL vs) F,.p (cB p)].all aT.ok)=true:=by
  have e:(aT.s np xs vs.length (aL vs) F).ok=true:=by show(xs.all flat&&((aL vs).all flat&&!F.rc))=true;rw[kZ,dF,hF];rfl
  simp only[dM,fH,e,WU,wh]
 obtain⟨ι,c,h1,h2,h3,h4,h5,h6,h7⟩:=vT ct (bh.1 az) 0 _ _ (qP w) n_ (λ_ _=>rfl);have pD:∀ k,(aa.at w).mp k=none:=λ_=>rfl;refine Vz (N:=20) (B:=aa.at w) func42 aTt k_ h6 h2 h4 h3 rfl λa bM=>?_
 have g0:ag prog (aa.at w) 20 lC0 (jL 0 (eU 0 [.s np xs vs.length (aL vs) F,.p (cB p)])) (jC 0 [.s np xs vs.length (aL vs) F,.p (cB p)]) 3
   ⟨.normal,[(2,bY 3),(3,bY 4)],[(0,.view xs),(2,.fact F),(1,.view (aL vs)),(3,.aI [sl 0 np,sl 1 vs.length,dP 2] 26),(4,.aI (cG p).cs 35)],5⟩:=aC []
 have g1:ag prog (aa.at w) 20 lC1 [(2,bY 3),(3,bY 4)] [(0,.view xs),(2,.fact F),(1,.view (aL vs)),(3,.aI [sl 0 np,sl 1 vs.length,dP 2] 26),(4,.aI (cG p).cs 35)] 5
   ⟨.normal,[(5,bY 5),(2,bY 3),(3,bY 4)],[(0,.view xs),(2,.fact F),(1,.view (aL vs)),(3,.aI [sl 0 np,sl 1 vs.length,dP 2] 26),(4,.aI (cG p).cs 35),(5,.aI [.slice none 0 0] 56)],6⟩:=aC []
 refine lM (lD g0 bM λa1 w1 s1=>?_);refine lM (lD g1 s1 λa2 w2 s2=>?_);have s2':=s2.aTm (k:=5) rfl 3 1;have g2:ag prog (aa.at w) 20 lC2 [(5,bY 5),(2,bY 3),(3,bY 4)] _ 7 ⟨.normal,[(6,.func (.func 76) #[] #[bY 4,bY 3,bY 5]),(5,bY 5),(2,bY 3)],AJ xs F np vs p [],7⟩:=fq mixed 100 (M:=(5,.aI [.slice (some ⟨6,0,some 7⟩) 0 0] 56)::(6,.row [] 3 1)::[(0,.view xs),(2,.fact F),(1,.view (aL vs)),(3,.aI [sl 0 np,sl 1 vs.length,dP 2] 26),(4,.aI (cG p).cs 35),(5,.aI [.slice none 0 0] 56)]) [] k_;refine lM (lD g2 s2' λa3 w3 s3=>?_);have g3:ag prog (aa.at w) 20 lC3 [(6,.func (.func 76) #[] #[bY 4,bY 3,bY 5]),(5,bY 5),(2,bY 3)] (AJ xs F np vs p []) 7 ⟨.normal,Jf vs.length 0,AJ xs F np vs p [],7⟩:=aC [];refine lM (lM (lD g3 s3 λa4 w4 s4=>?_));refine JM ?_;refine Vy vs.length (XA (aa.at w) xs F np vs p) s4 (λi hi a' w' h' K hK=>?_) λa' w' h'=>?_
 ·have hl:=aTo p vs i;have e:=aTn p vs i;by_cases hs:OF.ay (dot p.n (aK vs i)-p.d)>0
  ·rw[ax hs]at e;refine lD (aTr hi hp gg aP hm o_ gK hs) h' λa5 w5 s5=>hK a5 w5 ?_;unfold XA AJ;rw[e,jx,BV];have hk:=aTu (vs:=vs) (p:=p) (F:=F) (np:=np) (L:=(iQ p vs i).length+1) (l:=iQ p vs i++[i]) (r:=[(0,0),(2,2),(1,1),(3,3),(4,4),(5,5),(6,8)]) kZ k_ k_ k_;unfold ui at hk ⊢;generalize ai (iQ p vs i++[i])=c1 at *;exact s5.Iy pD [(0,0),(2,2),(1,1),(3,3),(4,4),(5,5),(6,8)] k_ rfl hk k_ k_ k_ k_ k_
  ·rw[au hs,jn]at e;refine lD (aTs hi hp gg aP hm gK hs) h' λa5 w5 s5=>hK a5 w5 ?_;unfold XA;rw[e];exact s5
 ·refine lD (r:=⟨.exit 0,[(5,bY 5)],[(5,.aI [sl 6 (iQ p vs vs.length).length] 56),(6,.row (ai (iQ p vs vs.length)) 3 1)],7⟩) (aC [.lt 13 vs.length vs.length false s_]) h' λa5 w5 s5=>?_;show Code.wpIn _ _ _ _ _ _ _;refine lM (lD (r:=⟨.normal,[(4,sl 6 (iQ p vs vs.length).length)],[(6,.row (ai (iQ p vs vs.length)) 3 1)],7⟩) (aC []) s5 λa6 w6 s6=>?_);refine JN ?_;refine(VA s6 rfl (v:=sl 6 (iQ p vs vs.length).length) k_ λaw bZ v' bj yi hc=>⟨v',rfl,?_,bj.base⟩).1;have:=vC bj (yi 6 _ rfl) hc (by rw[lC];omega) (kJ _);have e:(ai (iQ p vs vs.length)).take ((iQ p vs vs.length).length*1)=ai (iQ p vs vs.length):=kB (by rw[lC];omega);rw[e]at this;exact this
end
def wI(ps:List (HS K)):aT:=Ck ps ((bf ps).map cx) (ev ps)
def AK(ps:List (HS K)):Bool:=rh ps&&rq ps (bf ps)
theorem XB(ps:List (HS K)):(ev ps).length<=ps.length:=by unfold ev;rw[eO];exact QB ps _ _
theorem aTv(nn:V3 K)(vs:List (V3 K))(l:List Nat):(order nn (aK vs) l).length<=2*l.length:=by
 have bw:∀ l:List Nat,(kt nn vs l).length<=l.length:=λl=>by have:=(LP (nn:=nn) (vs:=vs) (l:=l) l.length (bt _)).2;unfold bM at this;rw[lY]at this;unfold kt;rw[Gu,List.length_tail];omega
 rw[aER,jx];have h1:=bw l;have h2:=bw l.reverse;rw[Gu]at h2;omega
theorem aF9{ps:List (HS K)}(h:ps.length<=20):∀ f∈ev ps,f.2.length<=1600:=by
 intro f hf;unfold ev at hf;obtain⟨g,hg,rfl⟩:=di.1 hf;unfold e9 at hg;rw[zR]at hg;obtain⟨i,_,hg⟩:=hg;unfold gE at hg;split at hg
 ·rename_i p hp;unfold pQ at hg;split at hg
  ·cases hg
  ·split at hg
   ·cases hg
   ·split at hg
    ·simp at hg;subst hg;show(List.map _ _).length<=_;rw[eO];show(order p.n (aK (bf ps)) (ck p (bf ps) (bf ps).length)).length<=1600;have h1:=aTv p.n (bf ps) (ck p (bf ps) (bf ps).length);have h2:=IZ p (bf ps) (bf ps).length;have h3:=Gv ps h;omega
    ·cases hg
 ·cases hg
section
variable{ps:List (HS K)}{m:Nat}{p:HS K}
theorem vsm(h:pf ps m):∀ x∈(bf ps).map cx,x.Sm:=λx hx=>by obtain⟨v,hv,rfl⟩:=di.1 hx;exact(I2 h.sz v hv).sm (WQ (yj (n:=0) h.bound o_).2.1).2.2
theorem aGa(h:pf ps m)(hs:AK ps=true):cI prog 38 [wI ps] (.bool true):=by have h1:=Gv ps h.len;have h2:=XB ps;have h3:=h.len;have:=aTk (vs:=(bf ps).map cx) (fs:=ev ps) h (vsm h) (by rw[eO];omega) o_ λf hf=>e8 (aF9 h3 f hf) d_;unfold AK at hs;unfold Xy at this;rw[de]at hs;rw[hs.1,hs.2,aB rfl,aB rfl]at this;exact this
theorem pf.left(h:pf (ps++[p]) m):pf ps m/\bo m p/\p.n≠0/\ps.length<=19:=by have hl:=h.len;rw[jx,BV]at hl;exact⟨⟨by omega,λq hq=>h.sz q (dX.2 (.inl hq)),λq hq=>h.ne q (dX.2 (.inl hq)),h.bound⟩,h.sz p s_,h.ne p s_,by omega⟩
def Mb(ps:List (HS K)):Value:=.agg #[sl 0 ps.length,sl 1 ((bf ps).map cx).length,dP 2]
theorem aGb{Bs:aa}{nd:List (Nat×Option Obj)}{l:List aT}{xs:aj}(h:fR Bs l xs nd):fR Bs (wI ps::l) (Mb ps::xs) ((0,some (.view (aN ps)))::(1,some (.view (cF ((bf ps).map cx))))::(2,some (.fact (eK (ev ps))))::nd):=
 .s (x1:=.view (aN ps)) (x2:=.view (cF ((bf ps).map cx))) rfl (cX ps) iF rfl (gV gh _) vl h
noncomputable def cuS{w:World}(h:pf (ps++[p]) m)(hs:AK ps=true)(more:bI prog (aa.at w) 43):bI prog (aa.at w) 43:=
 .step 9 (av f12 9) [.func (.func 38) #[] #[],Mb ps] [(0,some (.view (aN ps))),(1,some (.view (cF ((bf ps).map cx)))),(2,some (.fact (eK (ev ps))))] (.bool true) []
  (dL (aGa h.left.1 hs) (aGb .nil) (x:=.func 38) k_ k_ rfl)::
 .call 13 39 [cB p] (.bool true) (λw' _=>by have:=xM h.left.2.1 (yj (n:=0) h.bound o_).2.2.2.1;rw[aB h.left.2.2.1]at this;exact this w')::
 .ge 21 ps.length 100 false (aJ (by have:=h.left.2.2.2;omega))::
 .step 26 (av f12 26) [.func (.func 41) #[] #[],sl 0 ps.length] [(6,none),(0,some (.view (aN ps)))] (sl 6 ps.length) [(6,.row (aN ps) 35 40)]
  (qo (aED (aFa (by unfold AK at hs;rw[de]at hs;exact hs.1)) (by have:=h.left.2.2.2;omega)) (.w (x:=.view (aN ps)) rfl (cX ps) iF .nil) (x:=.func 41) k_ k_ (cX ps) 6)::
 .bs f12 28 7 1 35 40 [0] (RP.v ⟨s8,Gr⟩) [cB p] (cG p).cs.toArray (.row (cG p).cs 35 40) rfl (λv hv=>by simp at hv;subst hv;rfl) (λv hv=>iO.flat _ v hv) k_ rfl d_ d_ k_::
 .pB f12 29 8 6 ps.length 1 (ps.length+1) 35 40 480 (aN ps) 7 (.row (cG p).cs 35 40) (aN (ps++[p])) rfl rfl rfl (Au ps) (by unfold aN;rw[rO];show df RP.cs _++_=df RP.cs _;rw[Im];simp[df,Obj.cells]) (iO.one _) d_ (by have:=h.left.2.2.2;simp[maxLen];omega) (by have:=h.left.2.2.2;omega) k_::more
theorem XC(ps:List (HS K))(p:HS K):([wI ps,.p (cB p)].all aT.ok)=true:=by have e:(wI ps).ok=true:=aF5 _ _ _;simp only[dM,fH,e,WU,wh]
theorem aGc{Bs:aa}:fR Bs [fJ (ps++[p])] [sl 8 (ps.length+1)] [(8,some (.row (aN (ps++[p])) 35 40))]:=by
 have e:ps.length+1=(ps++[p]).length:=by simp
 rw[e];exact .w (x:=.row (aN (ps++[p])) 35 40) rfl (cX _) iF .nil
theorem aTw(h:pf (ps++[p]) m)(hs:AK ps=true)(hc:rh (ps++[p])=true)(hi:rq (ps++[p]) (bf (ps++[p]))=false):cI prog 12 [wI ps,.p (cB p)] (.tuple #[rJ,.bool false,gL 12]):=by
 have az:=XC ps p;have mK:=aE9 h hc hi;refine gT mixed func12 az 100 (N:=43) k_ (λw=>cuS h hs [.step 30 (av f12 30) [.func (.func 40) #[] #[],sl 8 (ps.length+1)] [(8,some (.row (aN (ps++[p])) 35 40))] (.tuple #[rJ,gL 12]) []
  (dL mK aGc (x:=.func 40) k_ k_ k_)]) (λw=>?_) k_
 kernel_rfl
theorem aTx(h:pf (ps++[p]) m)(hs:AK ps=true)(hc:rh (ps++[p])=true)(hi:rq (ps++[p]) (bf (ps++[p]))=true):
  tW prog 12 [wI ps,.p (cB p)] 35 40 (ps.length+1) (aN (ps++[p])) 33 30 (bf (ps++[p])).length (aL (bf (ps++[p]))) (eK (ev (ps++[p]))) [.bool (decide (0<(iQ p (bf ps) (bf ps).length).length)),gL 0]:=by
 have az:=XC ps p;have mK:=aFb h hc hi;have hl:=aF8 (vs:=bf ps) (xs:=aN ps) (F:=eK (ev ps)) (np:=ps.length) h.left.2.1 h.left.2.2.1 (I2 h.left.1.sz) (yj (n:=0) h.bound o_).2.2.1 (by have:=Gv ps h.left.1.len;omega) (cX ps) rfl;have hlen:(bf ps).length=((bf ps).map cx).length:=by rw[eO]
 have e1:(ps++[p]).length=ps.length+1:=by simp
 rw[e1]at mK;unfold aL at hl;rw[hlen]at hl ⊢;have fx:=gJ (iQ p (bf ps) ((bf ps).map cx).length);have x7:=Au (ps++[p]);rw[e1]at x7;generalize hL:iQ p (bf ps) ((bf ps).map cx).length=l at *;generalize hb:decide (0<l.length)=t;refine PX (k1:=9) (k2:=10) (k3:=11) mixed func12 az 100 (N:=43) k_ (λw=>cuS h hs [
  .step 30 (av f12 30) [.func (.func 40) #[] #[],sl 8 (ps.length+1)] [(9,none),(10,none),(11,none),(8,some (.row (aN (ps++[p])) 35 40))] (.tuple #[.agg #[sl 9 (ps.length+1),sl 10 (bf (ps++[p])).length,dP 11],gL 0])
   [(11,.fact ((eK (ev (ps++[p]))).kL w.heap.size)),(10,.row (aL (bf (ps++[p]))) 33 30),(9,.row (aN (ps++[p])) 35 40)]
   (DO (B:=aa.at w) (S:=w.heap.size) mK aGc (x:=.func 40) k_ k_ rfl (cX _) (dF _) rfl (λw' hb=>Below.size hb) 9),
  .step 40 (av f12 40) [.func (.func 42) #[] #[],Mb ps,cB p] [(12,none),(0,some (.view (aN ps))),(1,some (.view (cF ((bf ps).map cx)))),(2,some (.fact (eK (ev ps))))] (sl 12 l.length) [(12,.row (ai l) 3 1)]
   (qo hl (.s (x1:=.view (aN ps)) (x2:=.view (cF ((bf ps).map cx))) rfl (cX ps) iF rfl (gV gh _) vl (.p k_ .nil)) (x:=.func 42) k_ k_ fx 12),
  .gt 42 l.length 0 t hb]) (λw=>?_) d_ (cX _) x7 (dF _) (sS _) k_
 kernel_rfl
end
structure Jg(p:HS K)(vs:List (V3 K)):Prop where
 flat:QZ p.n vs (ck p vs vs.length)=false
 seq:aWZ p.n vs (ck p vs vs.length) (order p.n (aK vs) (ck p vs vs.length))
 len:(order p.n (aK vs) (ck p vs vs.length)).length=(ck p vs vs.length).length
def Jh(ps:List (HS K))(k:Nat)(p:HS K):Bool:=(ps.take k).any λq=>decide (canon p=canon q)
theorem aTy{ps:List (HS K)}{k:Nat}{q:HS K}(h:ps[k]?=some q)(p:HS K):Jh ps (k+1) p=(Jh ps k p||decide (canon p=canon q)):=by unfold Jh;rw[sQ,h,List.any_append];simp
section
variable{Bs:aa}{ps:List (HS K)}{vs:List (V3 K)}
def Q9(n i k:Nat)(b:Bool):aR:=[(8,vI k),(7,.bool b),(6,vI i),(0,sl 0 n)]
def Ji(ps:List (HS K)):aH:=[(0,.view (aN ps))]
theorem aTz{i k m:Nat}{p q:HS K}{b t:Bool}(hk:k<i)(hi:i<ps.length)(hp:ps[i]?=some p)(hq:ps[k]?=some q)(bX:∀ p∈ps,bo m p/\p.n≠0)(hm:100*m+1000<=aA)(h63:ps.length<=500)(ht:(b||decide (canon p=canon q))=t):
  ag prog Bs 57 (aF (af f62 2)) (Q9 ps.length i k b) (Ji ps) 5 ⟨.normal,Q9 ps.length i (k+1) t,Ji ps,5⟩:=by
 have sp:=bX p (cJ hp);have sq:=bX q (cJ hq);have hs:=aWD sp.1 sq.1 o_ o_ sp.2 sq.2;cases b with
 |true=>
  rw[GW]at ht;subst ht;exact aC [.lt 23 k i true (aB hk),.sum 25 k 1 (k+1) rfl o_]
 |false=>
  rw[vD]at ht;rw[ht]at hs;exact aC [.lt 23 k i true (aB hk),.cT f62 30 0 ps.length i 40 hi k_,.ld f62 31 35 0 (i*40) (.view (aN ps)) (cB p) rfl (wi hp) k_,.cT f62 34 0 ps.length k 40 o_ k_,.ld f62 35 35 0 (k*40) (.view (aN ps)) (cB q) rfl (wi hq) k_,hs.at 36,.sum 25 k 1 (k+1) rfl o_]
theorem aGd{i m:Nat}{p:HS K}(hi:i<ps.length)(hp:ps[i]?=some p)(bX:∀ p∈ps,bo m p/\p.n≠0)(hm:100*m+1000<=aA)(h63:ps.length<=500):
  ag prog Bs 57 (.block 2 (af f62 2)) (Q9 ps.length i 0 false) (Ji ps) 5 ⟨.normal,[(7,.bool (lH ps i p))],Ji ps,5⟩:=
 bT (id:=2) (cd (r:=⟨.exit 2,[(7,.bool (Jh ps i p))],Ji ps,5⟩) i (λk=>Q9 ps.length i k (Jh ps k p)) (λ_=>Ji ps) (λi k _=>Iff.rfl) (λk hk=>by
  have hq:=bd (l:=ps) (i:=k) o_;exact aTz hk hi hp hq bX hm h63 (aTy hq p).symm) (by
  generalize Jh ps i p=b;exact aC [.lt 23 i i false s_]) n_)
def Em(n i:Nat)(v2:Value):aR:=[(6,vI i),(0,sl 0 n),(1,v2),(4,ptr 1),(5,ptr 3)]
def yw(ps:List (HS K))(v2:Value)(cells:aj)(c:Nat):aH:=
 [(0,.view (aN ps)),(1,.aI [.slice none 0 0,.slice none 0 0,.slice none 0 0] 26),(2,.row (aN ps) 35 40),(3,.aI [sl 2 ps.length,v2,sl 4 c] 26),(4,.row cells 63 2)]
section
variable{b o c:Nat}
theorem aTA{i m cc:Nat}{p:HS K}{cells:aj}(hi:i<ps.length)(hp:ps[i]?=some p)(bX:∀ p∈ps,bo m p/\p.n≠0)(hm:300*m+1000<=aA)(h63:ps.length<=500)(ht:lH ps i p=true):
  ag prog Bs 57 (aF (af f62 0)) (Em ps.length i (.slice (some ⟨b,o,none⟩) vs.length c)) (yw ps (.slice (some ⟨b,o,none⟩) vs.length c) cells cc) 5
   ⟨.normal,Em ps.length (i+1) (.slice (some ⟨b,o,none⟩) vs.length c),yw ps (.slice (some ⟨b,o,none⟩) vs.length c) cells cc,5⟩:=by
 have lo:=aGd (Bs:=Bs) hi hp bX o_ h63;rw[ht]at lo;exact aC [.lt 18 i ps.length true (aB hi),.code 2 _ _ _ _ _ lo,.sum 20 i 1 (i+1) rfl o_]
noncomputable def rcS{i m:Nat}{p:HS K}(hi:i<ps.length)(hp:ps[i]?=some p)(bX:∀ p∈ps,bo m p/\p.n≠0)(hm:300*m+1000<=aA)(h63:ps.length<=500)(ht:lH ps i p=false)(more:bI prog Bs 57):bI prog Bs 57:=
 .lt 18 i ps.length true (aB hi)::.code 2 _ _ _ _ _ (ht▸aGd (Bs:=Bs) hi hp bX o_ h63)::.cT f62 41 0 ps.length i 40 hi k_::.ld f62 42 35 0 (i*40) (.view (aN ps)) (cB p) rfl (wi hp) k_::more
theorem aTB{i m cc:Nat}{p:HS K}{cells:aj}(hi:i<ps.length)(hp:ps[i]?=some p)(bX:∀ p∈ps,bo m p/\p.n≠0)(aP:∀ v∈vs,aD m v)(hm:300*m+1000<=aA)(h63:ps.length<=500)(gK:vs.length<900000)(ht:lH ps i p=false)
  (iJ:∀ w,Bs.G w->cO w (.slice (some ⟨b,o,none⟩) vs.length c) vs.length (aL vs)) (ho:(ck p vs vs.length).length<3) :
  ag prog Bs 57 (aF (af f62 0)) (Em ps.length i (.slice (some ⟨b,o,none⟩) vs.length c)) (yw ps (.slice (some ⟨b,o,none⟩) vs.length c) cells cc) 5
   ⟨.normal,Em ps.length (i+1) (.slice (some ⟨b,o,none⟩) vs.length c),yw ps (.slice (some ⟨b,o,none⟩) vs.length c) cells cc,5⟩:=by
 have sp:=bX p (cJ hp);have hl:=aSP sp.1 sp.2 aP o_ gK ho;exact aC (rcS hi hp bX hm h63 ht [.step 44 (av f62 44) [.func (.func 104) #[] #[],cB p,.slice (some ⟨b,o,none⟩) vs.length c] [] (.slice none 0 0) []
   (dL hl (.p rfl (.e rfl iJ .nil)) (x:=.func 104) k_ k_ rfl),.gt 47 0 0 false rfl,.sum 20 i 1 (i+1) rfl o_])
theorem aTC{i m cc:Nat}{p:HS K}{cells:aj}(hi:i<ps.length)(hp:ps[i]?=some p)(bX:∀ p∈ps,bo m p/\p.n≠0)(aP:∀ v∈vs,aD m v)(hm:300*m+1000<=aA)(h63:ps.length<=500)(gK:vs.length<900000)(ht:lH ps i p=false)
  (iJ:∀ w,Bs.G w->cO w (.slice (some ⟨b,o,none⟩) vs.length c) vs.length (aL vs)) (ho:¬(ck p vs vs.length).length<3) (hk:Jg p vs) (hc:cells.length=cc*2) (LR:cc<=500) (Eu:∀ v∈cells,v.oneCell'=true) :
  ag prog Bs 57 (aF (af f62 0)) (Em ps.length i (.slice (some ⟨b,o,none⟩) vs.length c)) (yw ps (.slice (some ⟨b,o,none⟩) vs.length c) cells cc) 5
   ⟨.normal,Em ps.length (i+1) (.slice (some ⟨b,o,none⟩) vs.length c),[(0,.view (aN ps)),(1,.aI [.slice none 0 0,.slice none 0 0,.slice none 0 0] 26),(2,.row (aN ps) 35 40),(3,.aI [sl 2 ps.length,.slice (some ⟨b,o,none⟩) vs.length c,sl 7 (cc+1)] 26),(5,.row (ai (order p.n (aK vs) (ck p vs vs.length))) 3 1),(7,.row (cells++[vI i,sl 5 (ai (order p.n (aK vs) (ck p vs vs.length))).length]) 63 2)],8⟩:=by
 have sp:=bX p (cJ hp);have hl:=aW0 sp.1 sp.2 aP hm gK ho hk.flat hk.seq;have hlen:=hk.len;rw[lC];generalize order p.n (aK vs) (ck p vs vs.length)=l at *;generalize mO:cells++[vI i,sl 5 l.length]=cells' at *;exact aC (rcS hi hp bX hm h63 ht [.step 44 (av f62 44) [.func (.func 104) #[] #[],cB p,.slice (some ⟨b,o,none⟩) vs.length c] [(5,none)] (sl 5 l.length) [(5,.row (ai l) 3 1)]
   (qo hl (.p rfl (.e rfl iJ .nil)) (x:=.func 104) k_ k_ (gJ l) 5),.gt 47 l.length 0 true (aB o_),
  .step 52 (av f62 52) [vI i,sl 5 l.length] [] (.agg #[vI i,sl 5 l.length]) [] (PI (t:=63) (idx:=[0,1]) k_ (λit z h1 h2=>aEX h1 h2) k_),
  .bsM f62 53 6 1 63 2 [0] (.agg #[vI 0,.slice none 0 0]) [.agg #[vI i,sl 5 l.length]] #[vI i,sl 5 l.length] (.row [vI i,sl 5 l.length] 63 2) rfl (λv hv=>by
   have hv:v∈[vI 0,.slice none 0 0]:=hv;simp at hv;rcases hv with rfl|rfl<;>rfl) d_ k_ rfl d_ d_ k_,.pB f62 54 7 4 cc 1 (cc+1) 63 2 32 cells 6 (.row [vI i,sl 5 l.length] 63 2) cells' rfl rfl rfl hc mO (λv hv=>by
   simp[Obj.cells]at hv;rcases hv with rfl|rfl<;>rfl) d_ (by simp[maxLen];omega) o_ k_,.sum 20 i 1 (i+1) rfl o_])
end
end
end
theorem aO.aTD{B:aa}{ks:List (Value×aj)}{ι:Map}{c:Nat->Option Obj}{w:World}(h:aO (B.gM ks) ι c w):aO B ι c w:=
 ⟨h.base.1,h.du,h.born,λk x b o cap e hx hl=>⟨(h.own k x b o cap e hx hl).1,λhF=>(h.own k x b o cap e hx hl).2 (.inl hF)⟩,h.inj,h.apart,h.seen,h.fa,h.one,h.oL⟩
def Kept(ks:List (Value×aj))(cs:aj):Prop:=∀ v∈cs,∀ b,iP v=some b->∃ p∈ks,iP p.1=some b
theorem Kept.snoc{ks:List (Value×aj)}{cs:aj}(h:Kept ks cs)(i:Nat)(u:Value)(xs:aj):Kept ((u,xs)::ks) (cs++[vI i,u]):=λv hv b hb=>by
 rcases dX.1 hv with hv|hv
 ·obtain⟨p,hp,e⟩:=h v hv b hb;exact⟨p,bE _ hp,e⟩
 ·simp at hv;rcases hv with rfl|rfl
  ·cases hb
  ·exact⟨_,aU ..,hb⟩
section
open V3 (dot ao bC smul)
section
variable{ps:List (HS K)}{vs:List (V3 K)}{b o c:Nat}
noncomputable def rC0:Code:=rD (eT f62)
noncomputable def rC1:Code:=rD (nu (eT f62))
noncomputable def rC2:Code:=rD (rD (nu (nu (eT f62))))
noncomputable def rC3:Code:=rD (nu (nu (nu (eT f62))))
theorem aTE:(f62).body=some (.seq rC0 (.seq rC1 (.seq (.seq rC2 (.block 0 (.loop (aF (af f62 0))))) (.seq rC3 .ret)))):=k_
theorem aGe{cells:aj}{cc:Nat}(cQ:∀ v∈cells,flat v=true){r:List (Nat×Nat)}(h1:(([.slice none 0 0,.slice none 0 0,.slice none 0 0]:aj).all (tV r))=true)(h3:([sl 2 ps.length,.slice (some ⟨b,o,none⟩) vs.length c,sl 4 cc].all (tV r))=true):∀ p∈yw ps (.slice (some ⟨b,o,none⟩) vs.length c) cells cc,F5 r p.2:=λp hp=>by
 simp only[yw,ch,iu,iv]at hp;rcases hp with rfl|rfl|rfl|rfl|rfl
 ·exact λv hv=>bh.1 (cX ps) v hv
 ·exact h1
 ·exact λv hv=>bh.1 (cX ps) v hv
 ·exact h3
 ·exact cQ
def Ra(B:aa)(ps:List (HS K))(vs:List (V3 K))(v2:Value)(i:Nat)(a:Act)(w:World):Prop:=
 ∃ ks cells,Ax B ((e9 ps vs i).map oI) ks cells/\Kept ks cells/\St (B.gM ks) 57 (Em ps.length i v2) (yw ps v2 cells (e9 ps vs i).length) 5 a w
theorem aTF{B:aa}{m i:Nat}(pD:∀ k,B.mp k=none)(hi:i<ps.length)(bX:∀ p∈ps,bo m p/\p.n≠0)(aP:∀ v∈vs,aD m v)(hm:300*m+1000<=aA)(h63:ps.length<=500)(gK:vs.length<900000)
  (iJ:∀ w,B.G w->cO w (.slice (some ⟨b,o,none⟩) vs.length c) vs.length (aL vs)) (dS:∀ p∈ps,¬(ck p vs vs.length).length<3->Jg p vs) {a:Act} {w:World} (h:Ra B ps vs (.slice (some ⟨b,o,none⟩) vs.length c) i a w)
  (K:Act->World->Prop) (Q:Exit->Act->World->Prop) (hK:∀ a' w',Ra B ps vs (.slice (some ⟨b,o,none⟩) vs.length c) (i+1) a' w'->K a' w'):(aF (af f62 0)).wpIn (FW none) 0 prog (Exit.then K Q) a w:=by
 obtain⟨ks,cells,hF,Rb,hS⟩:=h;have jg:ps[i]?=some ps[i]:=bd hi;have mQ:gE ps vs i=pQ ps vs i ps[i]:=by unfold gE;rw[jg]
 obtain⟨iR,Eu⟩:=aEY hF hS;have LR:(e9 ps vs i).length<=500:=by have:=QB ps vs i;omega
 have aGf:∀ w,(B.gM ks).G w->cO w (.slice (some ⟨b,o,none⟩) vs.length c) vs.length (aL vs):=λw h=>iJ w h.1;have stay:gE ps vs i=[]->∀ a' w',St (B.gM ks) 57 (Em ps.length (i+1) (.slice (some ⟨b,o,none⟩) vs.length c)) (yw ps (.slice (some ⟨b,o,none⟩) vs.length c) cells (e9 ps vs i).length) 5 a' w'->K a' w':=by
  intro he a' w' h';have e:e9 ps vs (i+1)=e9 ps vs i:=by rw[I0,he,jn]
  exact hK a' w' ⟨ks,cells,by rw[e];exact hF,Rb,by rw[e];exact h'⟩
 by_cases rI:lH ps i ps[i]=true
 ·have he:gE ps vs i=[]:=by rw[mQ];unfold pQ;rw[ax (show(ps.take i).any (λq=>decide (canon ps[i]=canon q))=true from rI)]
  exact lD (aTA hi jg bX hm h63 rI) hS λa' w' h'=>stay he a' w' h'
 ·have I1:lH ps i ps[i]=false:=by simpa using rI
  by_cases ho:(ck ps[i] vs vs.length).length<3
  ·have he:gE ps vs i=[]:=by rw[mQ];unfold pQ;rw[au (show ¬(ps.take i).any (λq=>decide (canon ps[i]=canon q))=true from rI),ax ho]
   exact lD (aTB hi jg bX aP hm h63 gK I1 aGf ho) hS λa' w' h'=>stay he a' w' h'
  ·have hlk:=dS _ (dz hi) ho;have he:gE ps vs i=[(i,order ps[i].n (aK vs) (ck ps[i] vs vs.length))]:=by rw[mQ];unfold pQ;rw[au (show ¬(ps.take i).any (λq=>decide (canon ps[i]=canon q))=true from rI),au ho,ax (by rw[hlk.len];omega)]
   refine lD (aTC hi jg bX aP hm h63 gK I1 aGf ho hlk iR LR Eu) hS λa' w' h'=>?_;show K a' w';obtain⟨u,hu,uT,h2⟩:=h'.PU (m:=5) (k:=7) rfl (gJ _) rfl d_;have e:e9 ps vs (i+1)=e9 ps vs i++[(i,order ps[i].n (aK vs) (ck ps[i] vs vs.length))]:=by rw[I0,he]
   have vR:=hF.snoc (i:=i) (l:=order ps[i].n (aK vs) (ck ps[i] vs vs.length)) hu uT;refine hK a' w' ⟨_,cells++[vI i,u],by rw[e,rO];exact vR,Rb.snoc i u _,?_⟩;rw[e,jx];have cQ:=vR.flat;generalize cells++[vI i,u]=cells' at *;exact h2.Iy pD [(0,0),(1,1),(2,2),(3,3),(4,7)] k_ rfl (aGe cQ k_ k_) k_ k_ k_ k_ k_
theorem aTG(ps:List (HS K)):((aN ps).drop 0).take (ps.length*40)=aN ps:=by rw[mB,kB (by rw[Au];exact bt _)]
theorem aTH{m:Nat}(bX:∀ p∈ps,bo m p/\p.n≠0)(aP:∀ v∈vs,aD m v)(hm:300*m+1000<=aA)(h63:ps.length<=500)(gK:vs.length<900000)(dS:∀ p∈ps,¬(ck p vs vs.length).length<3->Jg p vs):
  aF4 prog 62 35 40 ps.length (aN ps) vs.length (aL vs) (eK ((e9 ps vs ps.length).map oI)):=by
 intro w v1 b o c tZ nQ;have ct:sK w [fJ ps,.p (.slice (some ⟨b,o,none⟩) vs.length c)] [v1,.slice (some ⟨b,o,none⟩) vs.length c]:=.cons tZ (.cons rfl .nil);have az:([fJ ps,.p (.slice (some ⟨b,o,none⟩) vs.length c)].all aT.ok)=true:=by simp only[dM,fH,WT,lP,jq];rfl
 obtain⟨ι,cc,h1,h2,h3,h4,h5,h6,h7⟩:=vT ct (bh.1 az) 0 _ _ (qP w) n_ (λ_ _=>rfl);have pD:∀ k,(aa.at w).mp k=none:=λ_=>rfl;have iJ:∀ w',(aa.at w).G w'->cO w' (.slice (some ⟨b,o,none⟩) vs.length c) vs.length (aL vs):=λw' hb=>nQ.gM hb;refine Vz (N:=57) (B:=(aa.at w).gM []) func62 aTE k_ h6 (aC5 h2) h4 h3 rfl λa bM=>?_;have C8:=aTG ps;have rH:=Au ps
 have g0:∀ B:aa,ag prog B 57 rC0 (jL 0 (eU 0 [fJ ps,.p (.slice (some ⟨b,o,none⟩) vs.length c)])) (jC 0 [fJ ps,.p (.slice (some ⟨b,o,none⟩) vs.length c)]) 1
   ⟨.normal,[(4,ptr 1),(0,sl 0 ps.length),(1,.slice (some ⟨b,o,none⟩) vs.length c)],[(0,.view (aN ps)),(1,.aI [.slice none 0 0,.slice none 0 0,.slice none 0 0] 26)],2⟩:=λB=>aC []
 have g1:∀ B:aa,ag prog B 57 rC1 [(4,ptr 1),(0,sl 0 ps.length),(1,.slice (some ⟨b,o,none⟩) vs.length c)] [(0,.view (aN ps)),(1,.aI [.slice none 0 0,.slice none 0 0,.slice none 0 0] 26)] 2
   ⟨.normal,[(4,ptr 1),(5,ptr 4),(0,sl 0 ps.length),(1,.slice (some ⟨b,o,none⟩) vs.length c)],[(0,.view (aN ps)),(1,.aI [.slice none 0 0,.slice none 0 0,.slice none 0 0] 26),(3,.row (aN ps) 35 40),(4,.aI [sl 3 ps.length,.slice (some ⟨b,o,none⟩) vs.length c,.slice none 0 0] 26)],5⟩:=λB=>
  aC [.Lq f62 10 2 35 40 (RP.v ⟨s8,Gr⟩) k_,.QS f62 12 3 2 0 ps.length ps.length 35 40 480 0 0 [] 0 (.view (aN ps)) (aN ps) (kh _) rfl (by show(((aN ps).drop 0).take (ps.length*40)).length=_;rw[C8,rH]) rfl (by show[]++((aN ps).drop 0).take (ps.length*40)=_;rw[C8,jw]) (aEC ps) d_ (by simp[maxLen];omega) o_ k_,.step 14 (av f62 14) [sl 3 ps.length,.slice (some ⟨b,o,none⟩) vs.length c] [] (.agg #[sl 3 ps.length,.slice (some ⟨b,o,none⟩) vs.length c,.slice none 0 0]) [] (PI (t:=26) (idx:=[0,1]) k_ (λit z h1 h2=>aE7 h1 h2) k_)]
 have g2:∀ B:aa,ag prog B 57 rC2 [(4,ptr 1),(5,ptr 4),(0,sl 0 ps.length),(1,.slice (some ⟨b,o,none⟩) vs.length c)]
    [(0,.view (aN ps)),(1,.aI [.slice none 0 0,.slice none 0 0,.slice none 0 0] 26),(3,.row (aN ps) 35 40),(4,.aI [sl 3 ps.length,.slice (some ⟨b,o,none⟩) vs.length c,.slice none 0 0] 26)] 5
   ⟨.normal,[(6,vI 0),(0,sl 0 ps.length),(1,.slice (some ⟨b,o,none⟩) vs.length c),(4,ptr 1),(5,ptr 4)],[(0,.view (aN ps)),(1,.aI [.slice none 0 0,.slice none 0 0,.slice none 0 0] 26),(3,.row (aN ps) 35 40),(4,.aI [sl 3 ps.length,.slice (some ⟨b,o,none⟩) vs.length c,.slice none 0 0] 26)],5⟩:=λB=>aC []
 refine lM (lD (g0 _) bM λa1 w1 s1=>?_);refine lM (lD (g1 _) s1 λa2 w2 s2=>?_);refine lM (lM (lD (g2 _) s2 λa3 w3 s3=>?_));refine JM ?_;have s4:=St.aTh (k:=4) (pre:=[sl 3 ps.length,.slice (some ⟨b,o,none⟩) vs.length c]) (post:=[]) (tb:=26) s3 rfl 63 2;have i0:Ra (aa.at w) ps vs (.slice (some ⟨b,o,none⟩) vs.length c) 0 a3 w3:=⟨[],[],.nil,λv h=>(by cases h),s4.Iy pD [(0,0),(1,1),(2,3),(3,4),(4,5)] k_ rfl (aGe n_ k_ k_) k_ k_ k_ k_ k_⟩;refine Vy ps.length (Ra (aa.at w) ps vs (.slice (some ⟨b,o,none⟩) vs.length c)) i0 (λi hi a' w' h' K hK=>aTF pD hi bX aP hm h63 gK iJ dS h' K _ hK) λa' w' h'=>?_;obtain⟨ks,cells,hF,Rb,hS⟩:=h';have fM:aH:=yw ps (.slice (some ⟨b,o,none⟩) vs.length c) cells (e9 ps vs ps.length).length;refine lD (r:=⟨.exit 0,[(4,ptr 1),(5,ptr 3)],yw ps (.slice (some ⟨b,o,none⟩) vs.length c) cells (e9 ps vs ps.length).length,5⟩) (aC [.lt 18 ps.length ps.length false s_]) hS λa4 w4 s4=>?_;show Code.wpIn _ _ _ _ _ _ _;refine lM (lD (r:=⟨.normal,[(4,ptr 1)],[(1,.aI [sl 2 ps.length,.slice (some ⟨b,o,none⟩) vs.length c,sl 4 (e9 ps vs ps.length).length] 26),(2,.row (aN ps) 35 40),(4,.row cells 63 2)],5⟩) (aC []) s4 λa5 w5 s5=>?_);refine JN ?_;refine(VA s5 rfl (v:=.agg #[sl 2 ps.length,.slice (some ⟨b,o,none⟩) vs.length c,sl 4 (e9 ps vs ps.length).length]) k_ λaw bZ v' bj yi hc=>?_).1;obtain⟨us,rfl,KT⟩:=hc.Jt;obtain⟨u1,u2,u3,e3,c1,c2,c3⟩:=JA KT;have e2:=c2.eY rfl;subst e2;rw[show(e9 ps vs ps.length).length=((e9 ps vs ps.length).map oI).length by rw[eO]]at c3;have ho:=hF.out bj (yi 4 _ rfl) c3;have ju:=vC bj.aTD (yi 2 _ rfl) c1 (by rw[rH];exact bt _) (bh.1 (cX ps));rw[<-rH,lY]at ju;refine⟨u1,u3,?_,ju,ho.1,λb' jK=>OS (ho.2 b' jK),λb' jK vR=>?_,bj.base.1⟩
 ·congr 2
  rw[<-zC (xs:=us),e3]
 ·obtain⟨o1,mh,q1⟩:=IA bj c1 jK;have ET:=bj.own 2 _ b' o1 mh (yi 2 _ rfl) rfl q1;rcases vR with vR|⟨b2,oo,rM,j,u,e,hj,mn,gm⟩
  ·obtain⟨o4,aTI,q4⟩:=IA bj c3 vR;have:=bj.inj 2 4 _ _ b' o1 mh o4 aTI (yi 2 _ rfl) rfl (yi 4 _ rfl) rfl q1 q4;cases this
  ·have hf:=hF.cells _ bj.base.2;have hl:=hf.length;have hr:=oP (len:=((e9 ps vs ps.length).map oI).length*2) bj (yi 4 _ rfl) rfl hF.flat (λe=>by rw[e]) c3;have hr:cO w5 u3 ((e9 ps vs ps.length).map oI).length cells:=by
    have e:((Obj.row cells 63 2).cells.drop 0).take (((e9 ps vs ps.length).map oI).length*2)=cells:=by rw[mB];exact kB (vn hl)
    rwa[e]at hr
   obtain⟨q,hq,e'⟩:=Rb u (PL hr hf e hj mn) b' gm;exact ET.2 (.inr ⟨q,hq,e'⟩)
end
section
variable{ps:List (HS K)}{m M:Nat}
structure pT(ps:List (HS K))(m M:Nat):Prop where
 len:ps.length<=9
 pl:∀ p∈ps,bo m p/\p.n≠0
 low:120*m+365<=M
 lim:1000*M+10000<=aA
theorem pT.sz(h:pT ps m M):(∀ v∈eX ps,aD M v)/\(eX ps).length<=81*9:=by obtain⟨h1,h2⟩:=Xc h.pl h.low h.len ps.length (bt _);refine⟨h1,dh h2 ?_⟩;have:=h.len;omega
theorem pT.rQ(h:pT ps m M):m<=M/\1000*m+10000<=aA/\200*m+1000<=aA/\100*M+1000<=aA/\300*M+1000<=aA/\m<=aA/\M<=aA:=by have h1:=h.low;have h2:=h.lim;have hmM:m<=M:=dh (dh (Vn m (by decide:0<120)) (J8 _ 365)) h1;have q1:1000*m+10000<=aA:=dh (LU (jz _ hmM) _) h2;have q2:200*m+1000<=aA:=dh (KL (fo m (by decide:200<=1000)) d_) q1;have q3:100*M+1000<=aA:=dh (KL (fo M (by decide:100<=1000)) d_) h2;have q4:300*M+1000<=aA:=dh (KL (fo M (by decide:300<=1000)) d_) h2;have q5:m<=aA:=dh (dh (Vn m (by decide:0<200)) (J8 _ 1000)) q2;have q6:M<=aA:=dh (dh (Vn M (by decide:0<1000)) (J8 _ 10000)) h2;exact⟨hmM,q1,q2,q3,q4,q5,q6⟩
theorem pT.all(h:pT ps m M):cI prog 58 [fJ ps] (.bool true):=by
 have:=aFm (ps:=ps.map cG) (m:=m) (λx hx=>by obtain⟨p,hp,rfl⟩:=di.1 hx;exact aEd (h.pl p hp).1) h.rQ.2.2.2.2.2.1 (by rw[eO];have:=h.len;omega)
 rw[eO,show(ps.map cG).all pO=true by rw[bh];intro x hx;obtain⟨p,hp,rfl⟩:=di.1 hx;rw[aEc];exact aB (h.pl p hp).2]at this
 exact this
noncomputable def XD{Bs:aa}{t:Bool}(h:pT ps m M)(ht:wD ps=t)(more:bI prog Bs 29):bI prog Bs 29:=
 .step 7 (av f37 7) [.func (.func 58) #[] #[],sl 0 ps.length] [(0,some (.view (aN ps)))] (.bool true) []
  (dL h.all (.w (x:=.view (aN ps)) rfl (cX ps) iF .nil) (x:=.func 58) k_ k_ rfl)::
 .gt 13 ps.length 100 false (aJ (by have:=h.len;omega))::
 .step 17 (av f37 17) [.func (.func 59) #[] #[],sl 0 ps.length] [(0,some (.view (aN ps)))] (.bool t) []
  (dL (ht▸aSd (λp hp=>(h.pl p hp).1) h.rQ.2.1 (by have:=h.len;omega)) (.w (x:=.view (aN ps)) rfl (cX ps) iF .nil) (x:=.func 59) k_ k_ rfl)::more
noncomputable def aGg{Bs:aa}{t:Bool}(h:pT ps m M)(ht:vj (eX ps)=!t)(more:bI prog Bs 29):bI prog Bs 29:=
 .step 21 (av f37 21) [.func (.func 60) #[] #[],sl 0 ps.length] [(2,none),(0,some (.view (aN ps)))] (sl 2 (eX ps).length) [(2,.row (aL (eX ps)) 33 30)]
  (qo (aSz h.pl h.rQ.2.2.1 h.low h.rQ.2.2.2.1 h.len) (.w (x:=.view (aN ps)) rfl (cX ps) iF .nil) (x:=.func 60) k_ k_ (dF _) 2)::
 .step 23 (av f37 23) [.func (.func 61) #[] #[],sl 2 (eX ps).length] [(2,some (.row (aL (eX ps)) 33 30))] (.bool t) []
  (dL (by have:=aSE h.sz.1 h.rQ.2.2.2.2.1 (by have:=h.sz.2;omega);rw[ht,Bool.not_not]at this;exact this) (.w (x:=.row (aL (eX ps)) 33 30) rfl (dF _) xP .nil) (x:=.func 61) k_ k_ rfl)::more
theorem aTJ{rs:List RP}(hs:∀ x∈rs,As m x)(hm:m<=aA)(h63:rs.length<9223372036854775807)(hb:rs.all pO=false):cI prog 37 [.r rs.length (dc rs)] (.tuple #[rJ,gL 1]):=by
 have ha:=aFm hs hm h63;rw[hb]at ha;have az:([aT.r rs.length (dc rs)].all aT.ok)=true:=by simp only[dM,fH,aT.ok,gV iO,jq]
 exact ee func37 az 29 (λ_=>[.step 7 (av f37 7) [.func (.func 58) #[] #[],sl 0 rs.length] [(0,some (.view (dc rs)))] (.bool false) []
  (dL ha (.w (x:=.view (dc rs)) rfl (gV iO rs) (λh=>by rw[lK h];rfl) .nil) (x:=.func 58) k_ k_ rfl)])
theorem aTK(h:pT ps m M)(hc:wD ps=false):cI prog 37 [fJ ps] (.tuple #[rJ,gL 13]):=
 ee func37 (Ee ps) 29 (λ_=>XD h hc [])
theorem aTL(h:pT ps m M)(hc:wD ps=true)(hi:vj (eX ps)=true):cI prog 37 [fJ ps] (.tuple #[rJ,gL 12]):=
 ee func37 (Ee ps) 29 (λ_=>XD h hc (aGg (t:=false) h hi []))
def yx(ps:List (HS K)):List (Int×List Int):=(e9 ps (eX ps) ps.length).map oI
theorem aGh(h:pT ps m M)(hc:wD ps=true)(hi:vj (eX ps)=false)(dS:∀ p∈ps,¬(ck p (eX ps) (eX ps).length).length<3->Jg p (eX ps)):
  tW prog 37 [fJ ps] 35 40 ps.length (aN ps) 33 30 (eX ps).length (aL (eX ps)) (eK (yx ps)) [gL 0]:=by
 have aTM:=aTH (ps:=ps) (vs:=eX ps) (m:=M) (λp hp=>⟨(h.pl p hp).1.mono h.rQ.1,(h.pl p hp).2⟩) h.sz.1 h.rQ.2.2.2.2.1 (by have:=h.len;omega) (by have:=h.sz.2;omega) dS;have zg:0<(eX ps).length:=by
  rcases oy (eX ps).length with h0|h0
  ·rw[lK h0]at hi;cases hi
  ·exact h0
 refine PX (k1:=3) (k2:=2) (k3:=4) mixed func37 (Ee ps) 100 (N:=29) k_ (λw=>XD h hc (aGg (t:=true) h hi [
  .step 28 (av f37 28) [.func (.func 62) #[] #[],sl 0 ps.length,sl 2 (eX ps).length] [(3,none),(4,none),(0,some (.view (aN ps))),(2,some (.row (aL (eX ps)) 33 30))]
   (.agg #[sl 3 ps.length,sl 2 (eX ps).length,dP 4]) [(4,.fact ((eK (yx ps)).kL w.heap.size)),(3,.row (aN ps) 35 40)]
   (aTi (B:=aa.at w) (S:=w.heap.size) aTM (.w (x:=.view (aN ps)) rfl (cX ps) iF (.w (x:=.row (aL (eX ps)) 33 30) rfl (dF _) xP .nil)) (x:=.func 62) k_ k_ rfl (cX ps) zg (λw' hb=>Below.size hb) 3)])) (λw=>?_) d_ (cX ps) (Au ps) (dF _) (sS _) k_
 kernel_rfl
end
end
section
variable{P:Program}{B:aa}{N:Nat}
end
section
variable{P:Program}{B:aa}{N:Nat}
theorem aTN{o:Oper}(ho:F7 P o=true){k:Nat}{fs:List (Int×List Int)}{F:Fact}(hF:∀ v w,F.G v w->(eK fs).G v w):cD P B o [.pointer (some ⟨k,0,some 9⟩)] [(k,some (.fact F))] (vI fs.length) []:=by
 obtain⟨x,t,e,bW,ht⟩:=PV ho;refine iy.step λι c ρ w aP hm oN=>?_;rw[bW]at aP;obtain⟨u,hu,hc⟩:=ml aP;have hu:ρ x=u:=by simpa[Op.operands,Call.operands]using hu
 have GF:=BN hm (oN (k,_) (aU ..)) hc;obtain⟨cs,hr,_⟩:=hF _ _ GF.1;refine⟨ι,vI fs.length,w,Map.le.refl _,.same rfl,hm,.inl ?_⟩;rcases hr with ⟨q1,q2,_⟩|⟨b,o',c',q1,_⟩
 ·subst q1;simp[execOp,bW,resolve,invoke,builtin,Builtin.len_,hu,iS ht,goInt,q2,vI]
 ·subst q1;simp[execOp,bW,resolve,invoke,builtin,Builtin.len_,hu,iS ht,goInt,vI]
end
def pU(w:World)(v:Value)(n:Nat)(xs:aj):Prop:=cO w v n xs\/(n=0/\∃ a,v=.slice (some a) 0 0)
theorem XE{w w':World}{u:Value}{l:List Int}(h:pU w u l.length (eH l))(hs:w.heap.size<=w'.heap.size)(hk:0<l.length->∀ b,iP u=some b->xR w w' b):pU w' u l.length (eH l):=by
 rcases h with h|h
 ·rcases oy l.length with h0|h0
  ·rcases h with h|⟨b,o,c,h1,h2,h3,h4⟩
   ·exact .inl (.inl h)
   ·refine .inl (.inr ⟨b,o,c,h1,h2,cC h3 hs,λj u hj=>?_⟩);rw[lK h0]at hj;simp[eH]at hj
  ·exact .inl (h.kept hs (hk h0))
 ·exact .inr h
theorem pU.lt{w:World}{u:Value}{n:Nat}{xs:aj}(h:pU w u n xs)(h0:0<n){b:Nat}(hb:iP u=some b):b<w.heap.size:=by
 rcases h with h|⟨h,_⟩
 ·exact h.lt hb
 ·omega
theorem pU.row{w:World}{u:Value}{n:Nat}{xs:aj}(h:pU w u n xs)(h0:0<n):cO w u n xs:=by
 rcases h with h|⟨h,_⟩
 ·exact h
 ·omega
theorem pU.one{w:World}{u:Value}{n:Nat}{xs:aj}(h:pU w u n xs):u.cells=#[u]/\u.oneCell'=true:=by rcases h with (⟨e,_⟩|⟨_,_,_,e,_⟩)|⟨_,_,e⟩<;>rw[e]<;>exact⟨rfl,rfl⟩
theorem pU.form{w:World}{u:Value}{n:Nat}{xs:aj}(h:pU w u n xs):(u=.slice none 0 0/\n=0)\/∃ a c,u=.slice (some a) n c:=by
 rcases h with (⟨e,e2,_⟩|⟨_,_,_,e,_⟩)|⟨e1,_,e⟩
 ·exact .inl ⟨e,e2⟩
 ·exact .inr ⟨_,_,e⟩
 ·subst e1;exact .inr ⟨_,_,e⟩
def mL(l:List Int):Fact where
 G u w:=pU w u l.length (eH l)
 cR u w k:=0<l.length/\iP u=some k
 lt u w k h hF:=h.lt hF.1 hF.2
 dep u w w' h hs hk:=⟨XE h hs λh0 b hb cs ty f hc=>(hk b ⟨h0,hb⟩).trans hc,λk hF=>hF⟩
 soft _ u w w' h hs hk:=⟨XE h hs λh0 b hb=>hk b ⟨h0,hb⟩,λk hF=>hF⟩
inductive rL(w:World):List (Int×List Int)->aj->Prop
 |nil:rL w [] []
 |cons {i:Int} {l:List Int} {u:Value} {fs:List (Int×List Int)} {cs:aj}:pU w u l.length (eH l)->rL w fs cs->rL w ((i,l)::fs) (iV i::u::cs)
theorem rL.length{w:World}{fs:List (Int×List Int)}{cs:aj}(h:rL w fs cs):cs.length=fs.length*2:=by
 induction h with
 |nil=>rfl
 |cons _ _ ih=>simp only[oM,ih];omega
theorem aGi{w:World}:∀{fs:List (Int×List Int)} {cs:aj},rL w fs cs->∀{i:Nat} {f:Int×List Int},fs[i]?=some f->∃ u,cs[i*2]?=some (iV f.1)/\cs[i*2+1]?=some u/\pU w u f.2.length (eH f.2)
 |_,_,.nil,i,f,h=>by simp at h
 |_,_,.cons (u:=u) h1 h2,0,f,h=>by simp at h;subst h;exact⟨u,rfl,rfl,h1⟩
 |_,_,.cons h1 h2,i+1,f,h=>by
  obtain⟨u,q1,q2,q3⟩:=aGi h2 (i:=i) (by simpa using h);refine⟨u,?_,?_,q3⟩
  ·rw[show(i+1)*2=i*2+2 by omega];exact q1
  ·rw[show(i+1)*2+1=i*2+1+2 by omega];exact q2
def Mc(u:Value)(k:Nat):Prop:=∃ a n c,u=.slice (some a) n c/\0<n/\a.block=k
theorem aTO{u:Value}{k:Nat}(h:Mc u k):iP u=some k:=by obtain⟨a,n,c,rfl,_,e⟩:=h;show some a.block=_;rw[e]
theorem rL.kept{w w':World}{fs:List (Int×List Int)}{cs:aj}(h:rL w fs cs)(hs:w.heap.size<=w'.heap.size)(hk:∀ u∈cs,∀ b,Mc u b->xR w w' b):rL w' fs cs:=by
 induction h with
 |nil=>exact .nil
 |cons h1 _ ih=>
  refine .cons (XE h1 hs λh0 b hb=>hk _ (bE _ (aU ..)) b ?_) (ih λu hu=>hk u (bE _ (bE _ hu)));rcases h1.form with ⟨e,e2⟩|⟨a,c,e⟩
  ·omega
  ·subst e;injection hb with hb;exact⟨a,_,c,rfl,h0,hb⟩
theorem rL.lt{w:World}{fs:List (Int×List Int)}{cs:aj}(h:rL w fs cs):∀ u∈cs,∀ b,Mc u b->b<w.heap.size:=by
 induction h with
 |nil=>intro u hu;cases hu
 |cons h1 _ ih=>
  intro u hu b hb;rcases ch.1 hu with rfl|hu
  ·obtain⟨a,n,c,e,_⟩:=hb;cases e
  ·rcases ch.1 hu with rfl|hu
   ·obtain⟨a,n,c,e,h0,e2⟩:=hb;rcases h1.form with ⟨e',e3⟩|⟨a',c',e'⟩
    ·rw[e']at e;cases e
    ·rw[e']at e;injection e with e1 CL e3;subst CL;exact h1.lt h0 (by rw[e'];injection e1 with e1;subst e1;show some a'.block=_;rw[e2])
   ·exact ih u hu b hb
def Rc(w:World)(v:Value)(fs:List (Int×List Int)):Prop:=∃ cs,cO w v fs.length cs/\rL w fs cs
def Re(n:Nat)(v:Value)(w:World)(k:Nat):Prop:=
 iP v=some k\/∃ b o c j u,v=.slice (some ⟨b,o,none⟩) n c/\j<n*2/\w.cell? ⟨b,o+j,none⟩=some u/\Mc u k
theorem aTP{w:World}{v:Value}{fs:List (Int×List Int)}{cs:aj}(h1:cO w v fs.length cs)(h2:rL w fs cs){b o c j:Nat}{u:Value}(hv:v=.slice (some ⟨b,o,none⟩) fs.length c)(hj:j<fs.length*2)(hu:w.cell? ⟨b,o+j,none⟩=some u):u∈cs:=by
 rcases h1 with ⟨h,_⟩|⟨b',o',c',e,_,_,h4⟩
 ·rw[h]at hv;cases hv
 ·rw[e]at hv;injection hv with hv _ _;injection hv with hv;injection hv with e1 e2 _;subst e1;subst e2;have ak:j<cs.length:=by rw[h2.length];exact hj
  have pK:cs[j]?=some cs[j]:=bd ak;have:=h4 j _ pK;rw[hu]at this;injection this with this;rw[this];exact dz ak
theorem aGj{w w':World}{v:Value}{fs:List (Int×List Int)}(h:Rc w v fs)(hs:w.heap.size<=w'.heap.size)(hk:∀ k,Re fs.length v w k->xR w w' k):
  Rc w' v fs/\∀ k,Re fs.length v w' k->Re fs.length v w k:=by
 obtain⟨cs,h1,h2⟩:=h;have Is:∀ b,iP v=some b->xR w w' b:=λb hb=>hk b (.inl hb);have PM:∀ u∈cs,∀ b,Mc u b->xR w w' b:=λu hu b hb=>by
  rcases h1 with ⟨_,_,h⟩|⟨b',o',c',e,_,_,h4⟩
  ·rw[h]at hu;cases hu
  ·obtain⟨j,hj,rfl⟩:=kH hu;refine hk b (.inr ⟨b',o',c',j,_,e,by rw[<-h2.length];exact hj,h4 j _ (bd hj),hb⟩)
 refine⟨⟨cs,h1.kept hs Is,h2.kept hs PM⟩,λk hF=>?_⟩;rcases hF with hF|⟨b,o,c,j,u,e,hj,hc,hb⟩
 ·exact .inl hF
 ·rcases h1 with ⟨h,_⟩|⟨b',o',c',e',_,_,h4⟩
  ·rw[h]at e;cases e
  ·rw[e']at e;injection e with e1 _ e3;injection e1 with e1;injection e1 with e1 e2 _;subst e1;subst e2;subst e3;have ak:j<cs.length:=by rw[h2.length];exact hj
   have h5:=h4 j _ (bd ak);have h6:=Vr (Is b' (by rw[e'];rfl)) h5;rw[hc]at h6;injection h6 with h6;exact .inr ⟨b',o',c',j,u,e',hj,by rw[h6];exact h5,hb⟩
def nG(fs:List (Int×List Int)):Fact where
 G v w:=Rc w v fs
 cR v w k:=Re fs.length v w k
 lt v w k h hF:=by
  obtain⟨cs,h1,h2⟩:=h;rcases hF with hF|⟨b,o,c,j,u,e,hj,hc,hb⟩
  ·exact h1.lt hF
  ·exact h2.lt u (aTP h1 h2 e hj hc) k hb
 dep v w w' h hs hk:=aGj h hs λk hF cs ty f hc=>(hk k hF).trans hc
 soft _ v w w' h hs hk:=aGj h hs hk
structure yy(fs:List (Int×List Int))(F:Fact):Prop where
 G:∀ v w,F.G v w->(nG fs).G v w
 cR:∀ v w k,(nG fs).cR v w k->F.cR v w k
theorem yy.self(fs:List (Int×List Int)):yy fs (nG fs):=⟨λ_ _ h=>h,λ_ _ _ h=>h⟩
theorem kG.aTQ{w:World}{fs:List (Int×List Int)}{cs:aj}(h:kG w fs cs):rL w fs cs:=by
 induction h with
 |nil=>exact .nil
 |cons h1 _ _ ih=>exact .cons (.inl h1) ih
theorem yy.full(fs:List (Int×List Int)):yy fs (eK fs):=by
 refine⟨λv w h=>?_,λv w k h=>?_⟩
 ·obtain⟨cs,h1,h2⟩:=h;exact⟨cs,h1,h2.aTQ⟩
 ·rcases h with h|⟨b,o,c,j,u,e,hj,hc,hb⟩
  ·exact .inl h
  ·exact .inr ⟨b,o,c,j,u,e,hj,hc,aTO hb⟩
theorem aTR{w:World}{v:Value}{fs:List (Int×List Int)}(h:Rc w v fs)(hl:∀ f∈fs,0<f.2.length):Lm w v fs:=by
 obtain⟨cs,h1,h2⟩:=h;refine⟨cs,h1,?_⟩;clear h1;induction h2 with
 |nil=>exact .nil
 |cons h3 _ ih=>
  have hr:=h3.row (hl _ (aU ..));refine .cons hr ?_ (ih λf hf=>hl f (bE _ hf));rcases hr with ⟨e,_⟩|⟨_,_,_,e,_⟩<;>rw[e]<;>rfl
section
variable{P:Program}{B:aa}{N:Nat}
theorem GG{o:Oper}(ho:F7 P o=true){k:Nat}{fs:List (Int×List Int)}{F:Fact}(hF:yy fs F):cD P B o [.pointer (some ⟨k,0,some 9⟩)] [(k,some (.fact F))] (vI fs.length) []:=by
 obtain⟨x,t,e,bW,ht⟩:=PV ho;refine iy.step λι c ρ w aP hm oN=>?_;rw[bW]at aP;obtain⟨u,hu,hc⟩:=ml aP;have hu:ρ x=u:=by simpa[Op.operands,Call.operands]using hu
 have GF:=BN hm (oN (k,_) (aU ..)) hc;obtain⟨cs,hr,_⟩:=hF.G _ _ GF.1;refine⟨ι,vI fs.length,w,Map.le.refl _,.same rfl,hm,.inl ?_⟩;rcases hr with ⟨q1,q2,_⟩|⟨b,o',c',q1,_⟩
 ·subst q1;simp[execOp,bW,resolve,invoke,builtin,Builtin.len_,hu,iS ht,goInt,q2,vI]
 ·subst q1;simp[execOp,bW,resolve,invoke,builtin,Builtin.len_,hu,iS ht,goInt,vI]
theorem Jj{o:Oper}(ho:F7 P o=true){k:Nat}{l:List Int}:cD P B o [.pointer (some ⟨k,0,some 9⟩)] [(k,some (.fact (mL l)))] (vI l.length) []:=by
 obtain⟨x,t,e,bW,ht⟩:=PV ho;refine iy.step λι c ρ w aP hm oN=>?_;rw[bW]at aP;obtain⟨u,hu,hc⟩:=ml aP;have hu:ρ x=u:=by simpa[Op.operands,Call.operands]using hu
 have GF:=BN hm (oN (k,_) (aU ..)) hc;have hw:pU w u l.length (eH l):=GF.1;refine⟨ι,vI l.length,w,Map.le.refl _,.same rfl,hm,.inl ?_⟩;rcases hw.form with ⟨q1,q2⟩|⟨a,c',q1⟩
 ·subst q1;simp[execOp,bW,resolve,invoke,builtin,Builtin.len_,hu,iS ht,goInt,q2,vI]
 ·subst q1;simp[execOp,bW,resolve,invoke,builtin,Builtin.len_,hu,iS ht,goInt,vI]
theorem XF{o:Oper}(ho:A8 P o=some 2){m i:Nat}{fs:List (Int×List Int)}{f:Int×List Int}{F:Fact}(hF:yy fs F)(hi:fs[i]?=some f){k:Nat}(Iv:m<k):
  cD P B o [.pointer (some ⟨m,0,some 9⟩),vI i] [(k,none),(k+1,none),(m,some (.fact F))] (.pointer (some ⟨k,0,some 7⟩)) [(k,.view [iV f.1,.pointer (some ⟨k+1,0,some 9⟩)]),(k+1,.fact (mL f.2))]:=by
 unfold A8 at ho;split at ho
 ·rename_i t x y bW;split at ho
  ·rename_i e ht;split at ho
   ·rename_i inf Ev;injection ho with ho;refine iy.step λι c ρ w aP hm oN=>?_;rw[bW]at aP;obtain⟨v,v2,hu,hc,dp⟩:=jI aP;have dR:ρ x=v:=by simp[Op.operands]at hu;exact hu.1
    have fD:ρ y=v2:=by simp[Op.operands]at hu;exact hu.2
    have dp:=dp.eY rfl;have XG:c m=some (.fact F):=oN (m,some (.fact F)) s_;have k0:c k=none:=oN (k,none) s_;have k1:c (k+1)=none:=oN (k+1,none) s_;have GF:=BN hm XG hc;have loc:ι m=some (.val v):=by
     obtain⟨lc,q1,u,q2,q3⟩:=hm.born m _ XG;subst q2;generalize hp:Value.pointer (some ⟨m,0,some 9⟩)=p at hc;cases hc with
     |same h=>subst hp;cases h
     |ptr h=>injection hp with hp;injection hp with hp;injection hp with _ _ hp;cases hp
     |slc h=>cases hp
     |slcN h=>cases hp
     |opq h4 h5 h6=>injection hp with hp;injection hp with hp;injection hp with iz;subst iz;exact h4
     |fn=>cases hp
     |agg=>cases hp
     |tup=>cases hp
    obtain⟨cs,hr,jk⟩:=hF.G _ _ GF.1;obtain⟨u,a1,a2,a3⟩:=aGi jk hi;have ak:=(eh.1 hi).1;rcases hr with ⟨_,q2,_⟩|⟨b,o',c',q1,q2,q3,q4⟩
    ·omega
    have own:∀ bb,F.cR v w bb->∀ j y o' aQ,c j=some y->y.owns=true->ι j≠some (.at bb o' aQ):=λbb hb j y o1 mh hj hy he=>hm.apart j m y F bb o1 mh v hj hy he XG loc hb;have hFb:F.cR v w b:=hF.cR _ _ _ (.inl (by rw[q1];rfl));have hFu:∀ bb,(mL f.2).cR u w bb->F.cR v w bb:=λbb hb=>hF.cR _ _ _ (.inr ⟨b,o',c',i*2+1,u,q1,by omega,q4 _ _ a2,by
     obtain⟨h0,hb⟩:=hb;rcases a3.form with ⟨e',e2⟩|⟨a,c2,e'⟩
     ·omega
     ·subst e';injection hb with hb;exact⟨a,_,c2,rfl,h0,hb⟩⟩)
    have m1:aO B (dG ι (k+1) (.val u)) (aZ c (k+1) (.fact (mL f.2))) w:=hm.add k1 ⟨u,rfl,a3⟩ n_ (λF' v' b' e1 e2 hb j y o1 mh hj hy he=>by injection e1 with e1;subst e1;injection e2 with e2;subst e2;exact own b' (hFu b' hb) j y o1 mh hj hy he) n_ λF' e hr=>by injection e with e;subst e;cases hr
    have k0':aZ c (k+1) (.fact (mL f.2)) k=none:=by unfold aZ;rw[au o_];exact k0
    have l1:Map.le ι (dG ι (k+1) (.val u)):=gN (hm.du _ k1);have cu:aG (dG ι (k+1) (.val u)) (.pointer (some ⟨k+1,0,some 9⟩)) u:=.opq (fK _ _ _) a3.one.1 a3.one.2;have l2:Map.le (dG ι (k+1) (.val u)) (dG (dG ι (k+1) (.val u)) k (.at b (o'+i*2) 0)):=gN (m1.du _ k0');have back:∀ j y b' o1 mh,aZ c (k+1) (.fact (mL f.2)) j=some y->y.owns=true->dG ι (k+1) (.val u) j=some (.at b' o1 mh)->c j=some y/\ι j=some (.at b' o1 mh):=λj y b' o1 mh hj hy he=>by
     unfold aZ at hj;unfold dG at he;by_cases bO:j=k+1
     ·rw[ax bO]at hj;injection hj with hj;subst hj;cases hy
     ·rw[au bO]at hj he;exact⟨hj,he⟩
    have m2:aO B (dG (dG ι (k+1) (.val u)) k (.at b (o'+i*2) 0)) (aZ (aZ c (k+1) (.fact (mL f.2))) k (.view [iV f.1,.pointer (some ⟨k+1,0,some 9⟩)])) w:=
     m1.add k0' (.inr ⟨b,o'+i*2,0,[iV f.1,u],rfl,.cons (.same rfl) (.cons (cu.mono l2) .nil),λj x hj=>by
      cases j with
      |zero=>simp at hj;subst hj;have:=q4 _ _ a1;simpa using this
      |succ j=>cases j with
       |zero=>simp at hj;subst hj;have:=q4 _ _ a2;rw[ux];exact this
       |succ j=>simp at hj⟩) n_ n_ (λb1 o1 mh _ e=>by
      injection e with e1 e2 e3;subst e1;exact⟨q3,λj y o2 rM hj hy he=>by obtain⟨hj,he⟩:=back j y b o2 rM hj hy he;exact own b hFb j y o2 rM hj hy he⟩)
    refine⟨_,.pointer (some ⟨b,o'+i*2,none⟩),w,l1.trans l2,?_,m2,.inl ?_⟩
    ·have:=aG.ptr (off:=0) (fK (dG ι (k+1) (.val u)) k (.at b (o'+i*2) 0));rwa[jv]at this
    ·subst q1;simp only[execOp,bW,dR,fD,dp];have h0:(0:Int)<=(i:Int):=by omega
     simp[Instr.indexAt,asIntOf,iS ht,sizeOf,typeInfo,Ev,h0,AQ,vI,ho];intro dT;omega
   ·cases ho
  ·cases ho
 ·cases ho
end
section
open V3 (dot ao bC smul)
theorem cI.XH{P:Program}{f:FuncId}{n1 n2:Nat}{x1 x2:aj}{F F':Fact}{l:List aT}{res:Value}(h:cI P f (.s n1 x1 n2 x2 F::l) res)(hF:∀ v w,F'.G v w->F.G v w):cI P f (.s n1 x1 n2 x2 F'::l) res:=by
 intro w vs ct;cases ct with
 |cons h1 h2=>
  obtain⟨u1,u2,u3,e,r1,r2,r3⟩:=h1;exact h w _ (.cons ⟨u1,u2,u3,e,r1,r2,hF _ _ r3.1,r3.2⟩ h2)
def js(rs:List RP)(vs:List RV)(fs:List (Int×List Int)):aT:=.s rs.length (dc rs) vs.length (cF vs) (nG fs)
theorem XI(rs:List RP)(vs:List RV)(fs:List (Int×List Int)):(js rs vs fs).ok=true:=by show((dc rs).all flat&&((cF vs).all flat&&true))=true;rw[gV iO,gV gh];rfl
theorem XJ{rs:List RP}(h:rs.length=0):dc rs=[]:=by rw[lK h];rfl
theorem aTS{a b:List Int}(h63:a.length<9223372036854775807):cI prog 25 [.o (mL a),.o (mL b)] (.bool (decide (a=b))):=by
 have az:([aT.o (mL a),.o (mL b)].all aT.ok)=true:=rfl;by_cases hl:a.length=b.length
 ·rcases oy a.length with h0|h0
  ·have ha:=lK h0;have hb:=lK (hl▸h0);subst ha;subst hb;exact ee func25 az 26 (λw=>[.step 7 (av Tryz.f25 7) [dP 0] [(0,some (.fact (mL [])))] (vI 0) [] (Jj k_),.step 9 (av Tryz.f25 9) [dP 1] [(1,some (.fact (mL [])))] (vI 0) [] (Jj k_),.step 13 (av Tryz.f25 13) [dP 0] [(0,some (.fact (mL [])))] (vI 0) [] (Jj k_)])
  ·intro w vs ct;cases ct with
   |cons h1 ct=>
   cases ct with
   |cons h2 ct=>
   cases ct;have r1:cO w _ a.length (eH a):=pU.row h1.1 h0;have r2:cO w _ b.length (eH b):=pU.row h2.1 o_;exact aQN h63 w _ (.cons r1 (.cons r2 .nil))
 ·have b9:a≠b:=λh=>hl (by rw[h]);rw[aJ b9];exact ee func25 az 26 (λw=>[.step 7 (av Tryz.f25 7) [dP 0] [(0,some (.fact (mL a)))] (vI a.length) [] (Jj k_),.step 9 (av Tryz.f25 9) [dP 1] [(1,some (.fact (mL b)))] (vI b.length) [] (Jj k_),.rw 10 _ (.bool true) (tY (x:=a.length) (y:=b.length) (by simp[hl]))])
section
variable{Bs:aa}{ra rb:List RP}{va vb:List RV}{fa fb:List (Int×List Int)}
def Md(ra:List RP)(va:List RV)(fa:List (Int×List Int))(k:Nat):Obj:=.aI [sl k ra.length,sl (k+1) va.length,dP (k+2)] 26
def aWS(i:Nat):aR:=[(5,vI i),(2,ptr 6),(3,ptr 7)]
def wJ(ra rb:List RP)(va vb:List RV)(fa fb:List (Int×List Int)):aH:=[(0,.view (dc ra)),(3,.view (dc rb)),(6,Md ra va fa 0),(7,Md rb vb fb 3)]
noncomputable def smS{i:Nat}{x y:RP}{t:Bool}(hi:i<ra.length)(iB:i<rb.length)(hx:ra[i]?=some x)(hy:rb[i]?=some y)(sx:x.Sm)(sy:y.Sm)(ht:(!t)=true↔x=y)(more:bI prog Bs 85):bI prog Bs 85:=
 .lt 35 i ra.length true (aB hi)::.cT Tryz.f24 41 0 ra.length i 40 hi k_::.ld Tryz.f24 42 35 0 (i*40) (.view (dc ra)) x.v rfl (we hx) k_::.cT Tryz.f24 46 3 rb.length i 40 iB k_::.ld Tryz.f24 47 35 3 (i*40) (.view (dc rb)) y.v rfl (we hy) k_::
  .step 48 (av Tryz.f24 48) [x.v,y.v] [] (.bool t) [] (Ud (neg:=false) k_ x y sx sy ht)::more
theorem aWE{i:Nat}{x:RP}(hi:i<ra.length)(iB:i<rb.length)(hx:ra[i]?=some x)(hy:rb[i]?=some x)(sx:x.Sm)(h63:ra.length<9223372036854775807):
  ag prog Bs 85 (aF (af Tryz.f24 0)) (aWS i) (wJ ra rb va vb fa fb) 8 ⟨.normal,aWS (i+1),wJ ra rb va vb fa fb,8⟩:=
 aC (smS (t:=false) hi iB hx hy sx sx s_ [.sum 37 i 1 (i+1) rfl o_])
theorem aTT{i:Nat}{x y:RP}(hi:i<ra.length)(iB:i<rb.length)(hx:ra[i]?=some x)(hy:rb[i]?=some y)(sx:x.Sm)(sy:y.Sm)(aV:x≠y):
  ag prog Bs 85 (aF (af Tryz.f24 0)) (aWS i) (wJ ra rb va vb fa fb) 8 ⟨.ret,[(4,.bool false)],wJ ra rb va vb fa fb,8⟩:=
 aC (smS (t:=true) hi iB hx hy sx sy (by simp[aV]) [])
theorem aTU:ag prog Bs 85 (aF (af Tryz.f24 0)) (aWS ra.length) (wJ ra rb va vb fa fb) 8 ⟨.exit 0,[(2,ptr 6),(3,ptr 7)],wJ ra rb va vb fa fb,8⟩:=
 aC [.lt 35 ra.length ra.length false s_]
def yz(i:Nat):aR:=[(6,vI i),(2,ptr 6),(3,ptr 7)]
def pj(ra rb:List RP)(va vb:List RV)(fa fb:List (Int×List Int)):aH:=[(2,.fact (nG fa)),(5,.fact (nG fb)),(6,Md ra va fa 0),(7,Md rb vb fb 3)]
theorem aTV:∀ x∈pj ra rb va vb fa fb,eA 8 x.2:=λx hx=>by
 simp only[pj,ch,iu,iv]at hx;rcases hx with rfl|rfl|rfl|rfl
 ·exact λv hv=>(by cases hv)
 ·exact λv hv=>(by cases hv)
 ·intro v hv;have hv:v∈[sl 0 ra.length,sl 1 va.length,dP 2]:=hv;simp at hv;rcases hv with rfl|rfl|rfl<;>rfl
 ·intro v hv;have hv:v∈[sl 3 rb.length,sl 4 vb.length,dP 5]:=hv;simp at hv;rcases hv with rfl|rfl|rfl<;>rfl
def vw(f:Int×List Int)(k:Nat):Obj:=.view [iV f.1,dP (k+1)]
noncomputable def Rf(key m k i:Nat){fs:List (Int×List Int)}{f:Int×List Int}(hi:fs[i]?=some f)(Iv:m<k)(ho:A8 prog (av Tryz.f24 key)=some 2):aX prog Bs 85:=
 .step key (av Tryz.f24 key) [dP m,vI i] [(k,none),(k+1,none),(m,some (.fact (nG fs)))] (ptr k) [(k,vw f k),(k+1,.fact (mL f.2))] (XF ho (.self fs) hi Iv)
noncomputable def XK{i:Nat}{f f':Int×List Int}{t:Bool}(hi:i<fa.length)(h1:fa[i]?=some f)(h2:fb[i]?=some f')(ht:decide (f.1≠f'.1)=t)(more:bI prog Bs 85):bI prog Bs 85:=
 .step 52 (av Tryz.f24 52) [dP 2] [(2,some (.fact (nG fa)))] (vI fa.length) [] (GG k_ (.self fa))::.lt 53 i fa.length true (aB hi)::Rf 59 2 8 i h1 d_ k_::Rf 65 5 10 i h2 d_ k_::.rw 68 _ (.bool t) (neZ ht)::more
noncomputable def sfT{i:Nat}{f f':Int×List Int}{t:Bool}(h1:fa[i]?=some f)(h2:fb[i]?=some f')(h63:f.2.length<9223372036854775807)(ht:decide (f.2=f'.2)=t)(more:bI prog Bs 85):bI prog Bs 85:=
 Rf 73 2 12 i h1 d_ k_::Rf 79 5 14 i h2 d_ k_::
  .step 82 (av Tryz.f24 82) [.func (.func 25) #[] #[],dP 13,dP 15] [(13,some (.fact (mL f.2))),(15,some (.fact (mL f'.2)))] (.bool t) []
   (dL (ht▸aTS h63) (.o (.o .nil)) (x:=.func 25) k_ k_ rfl)::more
theorem aGk{i:Nat}{f f':Int×List Int}(hi:i<fa.length)(q1:fa[i]?=some f)(q2:fb[i]?=some f')(h63:f.2.length<9223372036854775807)(aRW:fa.length<9223372036854775807)(ht:f=f'):
  ag prog Bs 85 (aF (af Tryz.f24 2)) (yz i) (pj ra rb va vb fa fb) 8 ⟨.normal,yz (i+1),pj ra rb va vb fa fb,8⟩:=by
 have h1:decide (f.1≠f'.1)=false:=by rw[ht];simp
 have h2:decide (f.2=f'.2)=true:=by rw[ht];simp
 exact mV mixed 100 (ft:=16) (XK hi q1 q2 h1 (sfT q1 q2 h63 h2 [.sum 55 i 1 (i+1) rfl o_])) k_ rfl k_ aTV k_
theorem aTW:ag prog Bs 85 (aF (af Tryz.f24 2)) (yz fa.length) (pj ra rb va vb fa fb) 8 ⟨.exit 2,[],pj ra rb va vb fa fb,8⟩:=
 aC [.step 52 (av Tryz.f24 52) [dP 2] [(2,some (.fact (nG fa)))] (vI fa.length) [] (GG k_ (.self fa)),.lt 53 fa.length fa.length false s_]
def XL(ra rb:List RP)(va vb:List RV)(fa fb:List (Int×List Int)):Bool:=decide (ra=rb)&&(decide (va=vb)&&decide (fa=fb))
noncomputable def GH{na:Bool}(h1:decide (ra.length≠rb.length)=na)(more:bI prog Bs 85):bI prog Bs 85:=.rw 13 _ (.bool na) (tY h1)::more
noncomputable def Jk{nb:Bool}(h2:decide (fa.length≠fb.length)=nb)(more:bI prog Bs 85):bI prog Bs 85:=
 .step 17 (av Tryz.f24 17) [dP 2] [(2,some (.fact (nG fa)))] (vI fa.length) [] (GG k_ (.self fa))::.step 20 (av Tryz.f24 20) [dP 5] [(5,some (.fact (nG fb)))] (vI fb.length) [] (GG k_ (.self fb))::.rw 21 _ (.bool nb) (tY h2)::more
noncomputable def Me{t:Bool}(hV:cI prog 20 [.r va.length (cF va),.r vb.length (cF vb)] (.bool t))(more:bI prog Bs 85):bI prog Bs 85:=
 .step 28 (av Tryz.f24 28) [.func (.func 20) #[] #[],sl 1 va.length,sl 4 vb.length] [(1,some (.view (cF va))),(4,some (.view (cF vb)))] (.bool t) []
  (dL hV (.w (x:=.view (cF va)) rfl (gV gh _) vl (.w (x:=.view (cF vb)) rfl (gV gh _) vl .nil)) (x:=.func 20) k_ k_ rfl)::more
theorem aTX(ha:∀ x∈ra,x.Sm)(hb:∀ x∈rb,x.Sm)(gn:∀ x∈va,x.Sm)(lp:∀ x∈vb,x.Sm)(hn:ra.length<9223372036854775807)(gK:va.length<9223372036854775807)(wH:fa.length<9223372036854775807)(pP:∀ f∈fa,f.2.length<9223372036854775807):
  cI prog 24 [js ra va fa,js rb vb fb] (.bool (XL ra rb va vb fa fb)):=by
 have az:([js ra va fa,js rb vb fb].all aT.ok)=true:=by simp only[dM,fH,XI,wh]
 have hV:=aQK gn lp gK;unfold XL;unfold js at *;by_cases hl:ra.length=rb.length
 ·have n13:decide (ra.length≠rb.length)=false:=by simp[hl]
  by_cases hf:fa.length=fb.length
  ·have n21:decide (fa.length≠fb.length)=false:=by simp[hf]
   by_cases Rg:va=vb
   ·rw[aB Rg]at hV;rw[aB Rg,lP];rcases DJ ra rb hl with hp|⟨e,x,y,q1,q2,q3,q4⟩
    ·rw[aB hp,lP];have lo:∀ B:aa,ag prog B 85 (.block 0 (af Tryz.f24 0)) (aWS 0) (wJ ra rb va vb fa fb) 8 ⟨.normal,[(2,ptr 6),(3,ptr 7)],wJ ra rb va vb fa fb,8⟩:=λB=>
      bT (id:=0) (cd ra.length (λi=>aWS i) (λ_=>wJ ra rb va vb fa fb) (λi k _=>Iff.rfl) (λi hi=>by have hx:ra[i]?=some ra[i]:=bd hi;exact aWE hi o_ hx (by rw[<-hp];exact hx) (ha _ (dz hi)) hn) aTU n_)
     rcases DJ fa fb hf with O7|⟨e,x,y,q1,q2,q3,q4⟩
     ·rw[aB O7];have vW:∀ B:aa,ag prog B 85 (.block 2 (af Tryz.f24 2)) (yz 0) (pj ra rb va vb fa fb) 8 ⟨.normal,[],pj ra rb va vb fa fb,8⟩:=λB=>
       bT (id:=2) (cd fa.length (λi=>yz i) (λ_=>pj ra rb va vb fa fb) (λi k _=>Iff.rfl) (λi hi=>by have hx:fa[i]?=some fa[i]:=bd hi;exact aGk hi hx (by rw[<-O7];exact hx) (pP _ (dz hi)) wH rfl) aTW n_)
      exact gT mixed func24 az 200 (N:=85) k_ (λw=>GH n13 (Jk n21 (Me hV [.code 0 _ _ _ _ _ (lo _),.code 2 _ _ _ _ _ (vW _)]))) (λ_=>k_) k_
     ·have b9:fa≠fb:=λh=>by subst h;rw[q1]at q2;injection q2 with q2;exact q3 q2
      rw[aJ b9];have ak:=(eh.1 q1).1;have rounds:∀{B:aa},∀ i,i<e->ag prog B 85 (aF (af Tryz.f24 2)) (yz i) (pj ra rb va vb fa fb) 8 ⟨.normal,yz (i+1),pj ra rb va vb fa fb,8⟩:=λi hi=>by have hx:fa[i]?=some fa[i]:=bd o_;have hy:fb[i]?=some fb[i]:=bd o_;exact aGk o_ hx hy (pP _ (dz _)) wH (q4 i _ _ hi hx hy)
      by_cases he:x.1=y.1
      ·have h1:decide (x.1≠y.1)=false:=by rw[he];simp
       have h2:decide (x.2=y.2)=false:=aJ λe=>q3 (Prod.ext he e);have vW:∀ B:aa,ag prog B 85 (.block 2 (af Tryz.f24 2)) (yz 0) (pj ra rb va vb fa fb) 8 ⟨.ret,[(4,.bool false)],pj ra rb va vb fa fb,16⟩:=λB=>
        bT (id:=2) (cd (r:=⟨.ret,[(4,.bool false)],pj ra rb va vb fa fb,16⟩) e (λi=>yz i) (λ_=>pj ra rb va vb fa fb) (λi k _=>Iff.rfl) rounds (aC (XK ak q1 q2 h1 (sfT q1 q2 (pP _ (cJ q1)) h2 []))) n_)
       exact gT mixed func24 az 200 (N:=85) k_ (λw=>GH n13 (Jk n21 (Me hV [.code 0 _ _ _ _ _ (lo _),.code 2 _ _ _ _ _ (vW _)]))) (λ_=>k_) k_
      ·have h1:decide (x.1≠y.1)=true:=aB he;have vW:∀ B:aa,ag prog B 85 (.block 2 (af Tryz.f24 2)) (yz 0) (pj ra rb va vb fa fb) 8 ⟨.ret,[(4,.bool false)],pj ra rb va vb fa fb,12⟩:=λB=>
        bT (id:=2) (cd (r:=⟨.ret,[(4,.bool false)],pj ra rb va vb fa fb,12⟩) e (λi=>yz i) (λ_=>pj ra rb va vb fa fb) (λi k _=>Iff.rfl) rounds (aC (XK ak q1 q2 h1 [])) n_)
       exact gT mixed func24 az 200 (N:=85) k_ (λw=>GH n13 (Jk n21 (Me hV [.code 0 _ _ _ _ _ (lo _),.code 2 _ _ _ _ _ (vW _)]))) (λ_=>k_) k_
    ·have b9:ra≠rb:=λh=>by subst h;rw[q1]at q2;injection q2 with q2;exact q3 q2
     rw[aJ b9,yZ];have ak:=(eh.1 q1).1;have lo:∀ B:aa,ag prog B 85 (.block 0 (af Tryz.f24 0)) (aWS 0) (wJ ra rb va vb fa fb) 8 ⟨.ret,[(4,.bool false)],wJ ra rb va vb fa fb,8⟩:=λB=>
      bT (id:=0) (cd e (λi=>aWS i) (λ_=>wJ ra rb va vb fa fb) (λi k _=>Iff.rfl) (λi hi=>by have hx:ra[i]?=some ra[i]:=bd o_;have hy:rb[i]?=some rb[i]:=bd o_;have:=q4 i _ _ hi hx hy;exact aWE o_ o_ hx (by rw[this];exact hy) (ha _ (dz _)) hn) (aTT ak o_ q1 q2 (ha _ (cJ q1)) (hb _ (cJ q2)) q3) n_)
     exact gT mixed func24 az 200 (N:=85) k_ (λw=>GH n13 (Jk n21 (Me hV [.code 0 _ _ _ _ _ (lo _)]))) (λ_=>k_) k_
   ·rw[aJ Rg]at hV;rw[aJ Rg,yZ,Nt];exact gT mixed func24 az 200 (N:=85) k_ (λw=>GH n13 (Jk n21 (Me hV []))) (λ_=>k_) k_
  ·have n21:decide (fa.length≠fb.length)=true:=by simp[hf]
   have b9:fa≠fb:=λh=>hf (by rw[h]);rw[aJ b9,Nt,Nt];exact gT mixed func24 az 200 (N:=85) k_ (λw=>GH n13 (Jk n21 [])) (λ_=>k_) k_
 ·have n13:decide (ra.length≠rb.length)=true:=by simp[hl]
  have b9:ra≠rb:=λh=>hl (by rw[h]);rw[aJ b9,yZ];exact gT mixed func24 az 200 (N:=85) k_ (λw=>GH n13 []) (λ_=>k_) k_
end
theorem aTY(fs:List (Int×List Int))(S:Nat):∀ v w,((eK fs).kL S).G v w->(nG fs).G v w:=λv w h=>(yy.full fs).G v w h.1
section
variable{ps:List (HS K)}{m M:Nat}{rs:List RP}{vs:List RV}{fs:List (Int×List Int)}
def En(ps:List (HS K))(vs:List RV)(fs:List (Int×List Int)):Bool:=
 !decide (fs.length<4)&&(!decide (vs.length<4)&&(wD ps&&(!vj (eX ps)&&(decide (vs=(eX ps).map cx)&&decide (fs=yx ps)))))
theorem Mf(rs:List RP)(vs:List RV)(fs:List (Int×List Int)):([js rs vs fs].all aT.ok)=true:=by simp only[dM,fH,XI,wh]
noncomputable def Jl{Bs:aa}(k:Nat)(fs:List (Int×List Int)):aX prog Bs 28:=.step 7 (av f11 7) [dP k] [(k,some (.fact (nG fs)))] (vI fs.length) [] (GG k_ (.self fs))
theorem aGl(hf:fs.length<4):cI prog 11 [js rs vs fs] (.bool false):=by have az:=Mf rs vs fs;unfold js at *;exact gT mixed func11 az 100 (N:=28) k_ (λw=>[Jl 2 fs,.lt 8 fs.length 4 true (aB hf)]) (λw=>k_) k_
theorem aGm(hf:¬fs.length<4)(hv:vs.length<4):cI prog 11 [js rs vs fs] (.bool false):=by have az:=Mf rs vs fs;unfold js at *;exact gT mixed func11 az 100 (N:=28) k_ (λw=>[Jl 2 fs,.lt 8 fs.length 4 false (aJ hf),.lt 13 vs.length 4 true (aB hv)]) (λw=>k_) k_
theorem aTZ(hs:∀ x∈rs,As m x)(hm:m<=aA)(h63:rs.length<9223372036854775807)(hb:rs.all pO=false):cI prog 11 [js rs vs fs] (.bool false):=by
 by_cases hf:fs.length<4
 ·exact aGl hf
 by_cases hv:vs.length<4
 ·exact aGm hf hv
 have az:=Mf rs vs fs;have mK:=aTJ hs hm h63 hb;unfold js at *;exact gT mixed func11 az 100 (N:=28) k_ (λw=>[Jl 2 fs,.lt 8 fs.length 4 false (aJ hf),.lt 13 vs.length 4 false (aJ hv),.step 18 (av f11 18) [.func (.func 37) #[] #[],sl 0 rs.length] [(0,some (.view (dc rs)))] (.tuple #[rJ,gL 1]) []
   (dL mK (.w (x:=.view (dc rs)) rfl (gV iO rs) XJ .nil) (x:=.func 37) k_ k_ k_)]) (λw=>k_) k_
theorem aGn(h:pT ps m M)(dS:wD ps=true->vj (eX ps)=false->∀ p∈ps,¬(ck p (eX ps) (eX ps).length).length<3->Jg p (eX ps))(aP:∀ x∈vs,x.Sm)(gK:vs.length<9223372036854775807)(wH:fs.length<9223372036854775807)(pP:∀ f∈fs,f.2.length<9223372036854775807):
  cI prog 11 [js (ps.map cG) vs fs] (.bool (En ps vs fs)):=by
 unfold En;by_cases hf:fs.length<4
 ·rw[aB hf];exact aGl hf
 by_cases hv:vs.length<4
 ·rw[aB hv,aJ hf];exact aGm hf hv
 rw[aJ hf,aJ hv];have az:=Mf (ps.map cG) vs fs;by_cases hc:wD ps=true
 ·rw[hc];by_cases hi:vj (eX ps)=true
  ·rw[hi];have mK:=aTL h hc hi;unfold js at *;rw[eO,show dc (ps.map cG)=aN ps from rfl]at *;exact gT mixed func11 az 100 (N:=28) k_ (λw=>[Jl 2 fs,.lt 8 fs.length 4 false (aJ hf),.lt 13 vs.length 4 false (aJ hv),.step 18 (av f11 18) [.func (.func 37) #[] #[],sl 0 ps.length] [(0,some (.view (aN ps)))] (.tuple #[rJ,gL 12]) []
     (dL mK (.w (x:=.view (aN ps)) rfl (cX ps) iF .nil) (x:=.func 37) k_ k_ k_)]) (λw=>k_) k_
  ·have hi:vj (eX ps)=false:=by simpa using hi
   rw[hi];have mK:=aGh h hc hi (dS hc hi);have smv:∀ x∈(eX ps).map cx,x.Sm:=λx hx=>by obtain⟨v,hv,rfl⟩:=di.1 hx;exact(h.sz.1 v hv).sm h.rQ.2.2.2.2.2.2
   have smp:∀ x∈ps.map cG,x.Sm:=λx hx=>by obtain⟨p,hp,rfl⟩:=di.1 hx;exact(h.pl p hp).1.sm (by have:=h.rQ.2.2.2.2.2.1;exact this)
   have AP:=aTX (ra:=ps.map cG) (rb:=ps.map cG) (va:=vs) (vb:=(eX ps).map cx) (fa:=fs) (fb:=yx ps) smp smp aP smv (by rw[eO];have:=h.len;omega) gK wH pP;unfold XL at AP;rw[aB rfl]at AP;unfold aL at mK;unfold js at *;rw[eO,show dc (ps.map cG)=aN ps from rfl]at az AP ⊢;have hlen:(eX ps).length=((eX ps).map cx).length:=by rw[eO]
   rw[hlen]at mK;generalize (eX ps).map cx=cP at *;rw[lP]at AP;have e0:(!false&&(!false&&(true&&(!false&&(decide (vs=cP)&&decide (fs=yx ps))))))=(decide (vs=cP)&&decide (fs=yx ps)):=by simp
   rw[e0];generalize (decide (vs=cP)&&decide (fs=yx ps))=t at *;refine gT mixed func11 az 100 (N:=28) k_ (λw=>[Jl 2 fs,.lt 8 fs.length 4 false (aJ hf),.lt 13 vs.length 4 false (aJ hv),.step 18 (av f11 18) [.func (.func 37) #[] #[],sl 0 ps.length] [(4,none),(5,none),(6,none),(0,some (.view (aN ps)))] (.tuple #[.agg #[sl 4 ps.length,sl 5 cP.length,dP 6],gL 0]) [(6,.fact ((eK (yx ps)).kL w.heap.size)),(5,.row (cF cP) 33 30),(4,.row (aN ps) 35 40)]
     (DO (B:=aa.at w) (S:=w.heap.size) mK (.w (x:=.view (aN ps)) rfl (cX ps) iF .nil) (x:=.func 37) k_ k_ rfl (cX ps) (gV gh _) rfl (λw' hb=>Below.size hb) 4),
    .step 26 (av f11 26) [.func (.func 24) #[] #[],.agg #[sl 0 ps.length,sl 1 vs.length,dP 2],.agg #[sl 4 ps.length,sl 5 cP.length,dP 6]] [(0,some (.view (aN ps))),(1,some (.view (cF vs))),(2,some (.fact (nG fs))),(4,some (.row (aN ps) 35 40)),(5,some (.row (cF cP) 33 30)),(6,some (.fact ((eK (yx ps)).kL w.heap.size)))] (.bool t) []
     (dL AP (.s (x1:=.view (aN ps)) (x2:=.view (cF vs)) rfl (cX ps) iF rfl (gV gh _) vl (.si (aTY _ _) (x1:=.row (aN ps) 35 40) (x2:=.row (cF cP) 33 30) rfl (cX ps) iF rfl (gV gh _) vl .nil)) (x:=.func 24) k_ k_ rfl)]) (λw=>?_) k_
   kernel_rfl
 ·have hc:wD ps=false:=by simpa using hc
  rw[hc];have mK:=aTK h hc;unfold js at *;rw[eO,show dc (ps.map cG)=aN ps from rfl]at *;exact gT mixed func11 az 100 (N:=28) k_ (λw=>[Jl 2 fs,.lt 8 fs.length 4 false (aJ hf),.lt 13 vs.length 4 false (aJ hv),.step 18 (av f11 18) [.func (.func 37) #[] #[],sl 0 ps.length] [(0,some (.view (aN ps)))] (.tuple #[rJ,gL 13]) []
    (dL mK (.w (x:=.view (aN ps)) rfl (cX ps) iF .nil) (x:=.func 37) k_ k_ k_)]) (λw=>k_) k_
end
section
variable{Bs:aa}{ps:List (HS K)}{v:V3 K}{m n:Nat}
end
section
variable{Bs:aa}{rs:List RP}{vs:List RV}{fs:List (Int×List Int)}
def GI(i:Nat):aR:=[(3,vI i),(1,ptr 3)]
def uj(rs:List RP)(vs:List RV)(fs:List (Int×List Int)):aH:=[(2,.fact (nG fs)),(3,Md rs vs fs 0)]
theorem aT0:∀ x∈uj rs vs fs,eA 4 x.2:=λx hx=>by
 simp only[uj,ch,iu,iv]at hx;rcases hx with rfl|rfl
 ·exact λv hv=>(by cases hv)
 ·intro v hv;have hv:v∈[sl 0 rs.length,sl 1 vs.length,dP 2]:=hv;simp at hv;rcases hv with rfl|rfl|rfl<;>rfl
noncomputable def XM(fs:List (Int×List Int))(key:Nat)(ho:F7 prog (av Tryz.f8 key)=true):aX prog Bs 33:=.step key (av Tryz.f8 key) [dP 2] [(2,some (.fact (nG fs)))] (vI fs.length) [] (GG ho (.self fs))
noncomputable def fwS{i:Nat}{f:Int×List Int}{t:Bool}(hi:i<fs.length)(h1:fs[i]?=some f)(ht:decide (f.2.length>12)=t)(more:bI prog Bs 33):bI prog Bs 33:=
 XM fs 7 k_::.lt 8 i fs.length true (aB hi)::.step 14 (av Tryz.f8 14) [dP 2,vI i] [(4,none),(4+1,none),(2,some (.fact (nG fs)))] (ptr 4) [(4,vw f 4),(4+1,.fact (mL f.2))] (XF k_ (.self fs) h1 d_)::
  .step 17 (av Tryz.f8 17) [dP 5] [(5,some (.fact (mL f.2)))] (vI f.2.length) [] (Jj k_)::.gt 18 f.2.length 12 t ht::more
theorem aGo{i:Nat}{f:Int×List Int}(hi:i<fs.length)(h1:fs[i]?=some f)(h63:fs.length<9223372036854775807)(ht:f.2.length<=12):
  ag prog Bs 33 (aF (af Tryz.f8 0)) (GI i) (uj rs vs fs) 4 ⟨.normal,GI (i+1),uj rs vs fs,4⟩:=
 mV mixed 100 (ft:=6) (fwS (f:=f) hi h1 (aJ o_) [.sum 10 i 1 (i+1) rfl o_]) k_ rfl k_ aT0 k_
theorem aT1{i:Nat}{f:Int×List Int}(hi:i<fs.length)(h1:fs[i]?=some f)(ht:¬f.2.length<=12):
  ag prog Bs 33 (aF (af Tryz.f8 0)) (GI i) (uj rs vs fs) 4 ⟨.ret,[(2,.bool false)],uj rs vs fs,6⟩:=
 aC (fwS (f:=f) hi h1 (aB o_) [])
def Mg(rs:List RP)(vs:List RV)(fs:List (Int×List Int)):Bool:=
 fs.all (λf=>decide (f.2.length<=12))&&(LY rs 9&&((vs.all (λx=>qD x 12)&&decide (vs.length<=20))&&decide (fs.length<=12)))
noncomputable def XN{t1:Bool}(hP:cI prog 30 [.r rs.length (dc rs),.p (vI 9)] (.bool t1))(more:bI prog Bs 33):bI prog Bs 33:=
 .step 21 (av Tryz.f8 21) [.func (.func 30) #[] #[],sl 0 rs.length,vI 9] [(0,some (.view (dc rs)))] (.bool t1) [] (dL hP (.w (x:=.view (dc rs)) rfl (gV iO rs) XJ (.p rfl .nil)) (x:=.func 30) k_ k_ rfl)::more
noncomputable def fwV{t2:Bool}(hV:cI prog 31 [.r vs.length (cF vs),.p (vI 20),.p (vI 12)] (.bool t2))(more:bI prog Bs 33):bI prog Bs 33:=
 .step 25 (av Tryz.f8 25) [.func (.func 31) #[] #[],sl 1 vs.length,vI 20,vI 12] [(1,some (.view (cF vs)))] (.bool t2) [] (dL hV (.w (x:=.view (cF vs)) rfl (gV gh vs) vl (.p rfl (.p rfl .nil))) (x:=.func 31) k_ k_ rfl)::more
theorem aT2(Rh:rs.length<9223372036854775807)(gK:vs.length<9223372036854775807)(wH:fs.length<9223372036854775807):cI prog 8 [js rs vs fs] (.bool (Mg rs vs fs)):=by
 have az:=Mf rs vs fs;unfold Mg;unfold js at *;have hP:=aR6 (ps:=rs) 9 Rh;have hV:=aR1 (vs:=vs) (k:=12) 20 gK;rcases Cd (λf:Int×List Int=>decide (f.2.length<=12)) fs with h|⟨e,x,h1,h2,h3,h4⟩
 ·rw[h,lP];have lo:∀ B:aa,ag prog B 33 (.block 0 (af Tryz.f8 0)) (GI 0) (uj rs vs fs) 4 ⟨.normal,[(1,ptr 3)],uj rs vs fs,4⟩:=λB=>
   bT (id:=0) (cd (r:=⟨.exit 0,[(1,ptr 3)],uj rs vs fs,4⟩) fs.length (λi=>GI i) (λ_=>uj rs vs fs) (λi k _=>Iff.rfl) (λi hi=>by have hx:fs[i]?=some fs[i]:=bd hi;exact aGo hi hx wH (kW (Eh h hx))) (aC [XM fs 7 k_,.lt 8 fs.length fs.length false s_]) n_)
  generalize LY rs 9=t1 at *;generalize (vs.all (λx=>qD x 12)&&decide (vs.length<=20))=t2 at *;cases t1 with
  |false=>exact ee func8 az 33 (λw=>.code 0 _ _ _ _ _ (lo _)::XN hP [])
  |true=>
  cases t2 with
  |false=>exact ee func8 az 33 (λw=>.code 0 _ _ _ _ _ (lo _)::XN hP (fwV hV []))
  |true=>
   rw[lP,lP];exact ee func8 az 33 (λw=>.code 0 _ _ _ _ _ (lo _)::XN hP (fwV hV [XM fs 30 k_,.rw 31 _ (.bool (decide (fs.length<=12))) (LX (a:=fs.length) (b:=12) rfl)]))
 ·rw[h4,yZ];have ak:=(eh.1 h1).1;have lo:∀ B:aa,ag prog B 33 (.block 0 (af Tryz.f8 0)) (GI 0) (uj rs vs fs) 4 ⟨.ret,[(2,.bool false)],uj rs vs fs,6⟩:=λB=>
   bT (id:=0) (cd (r:=⟨.ret,[(2,.bool false)],uj rs vs fs,6⟩) e (λi=>GI i) (λ_=>uj rs vs fs) (λi k _=>Iff.rfl) (λi hi=>by have hx:fs[i]?=some fs[i]:=bd o_;exact aGo o_ hx wH (kW (h3 i _ hi hx))) (aT1 ak h1 (HD h2)) n_)
  exact ee func8 az 33 (λw=>[.code 0 _ _ _ _ _ (lo _)])
end
section
variable{Bs:aa}{vs:List (V3 K)}{m:Nat}
end
theorem aT3{cs:aj}{i:Nat}{v:Value}(h:cs[i]?=some v):dw prog 56 cs i=some v:=by have e:dw prog 56 cs i=cs[i]?:=k_;rw[e,h]
section
variable{w:World}{fs:List (Int×List Int)}{cs:aj}
def pk(fs:List (Int×List Int)):Nat:=(fs.map λf=>f.2.length).sum
def Mh(i s:Nat):aR:=[(4,vI i),(3,vI s),(1,ptr 3)]
def Jm(n1 n2:Nat)(fs:List (Int×List Int))(cs:aj):aH:=[(2,.view cs),(3,.aI [sl 0 n1,sl 1 n2,sl 2 fs.length] 26)]
theorem aT4{i s n1 n2:Nat}{f:Int×List Int}{u:Value}(hi:i<fs.length)(c2:cs[i*2+1]?=some u)(hu:cO w u f.2.length (eH f.2))(h63:fs.length<900000)(hs:s+f.2.length<9223372036854775807):
  ag prog (aa.at w) 23 (aF (af Tryz.f29 0)) (Mh i s) (Jm n1 n2 fs cs) 4 ⟨.normal,Mh (i+1) (s+f.2.length),Jm n1 n2 fs cs,4⟩:=by
 have k1:=hu;rcases k1 with ⟨rfl,_⟩|⟨b,o,c,rfl,_⟩<;>
  exact aC [.lt 9 i fs.length true (aB hi),.cT Tryz.f29 16 2 fs.length i 2 hi k_,.ld Tryz.f29 18 56 2 (i*2+1) (.view cs) _ rfl (aT3 c2) k_,.step 19 (av Tryz.f29 19) [_] [] (vI f.2.length) [] (aNB k_ rfl (λw' hb=>hu.gM hb)),.sum 20 s f.2.length (s+f.2.length) rfl o_,.sum 11 i 1 (i+1) rfl o_]
theorem aT5{n1 n2:Nat}{x1 x2:aj}(h1:x1.all flat=true)(h2:x2.all flat=true)(h63:fs.length<900000)(hs:pk fs<9223372036854775807):cI prog 29 [.s n1 x1 n2 x2 (eK fs)] (vI (pk fs/2)):=by
 intro w vv ct;cases ct with
 |@cons _ v1 _ _ hv ct=>
 cases ct;obtain⟨u1,u2,u3,rfl,r1,r2,⟨cs,r3,f1⟩,_⟩:=hv;have Ca:sK w [.a n1 x1 n2 x2 fs.length cs] [.agg #[u1,u2,u3]]:=.cons ⟨u1,u2,u3,rfl,r1,r2,r3⟩ .nil;have az:([aT.a n1 x1 n2 x2 fs.length cs].all aT.ok)=true:=by show((x1.all flat&&(x2.all flat&&cs.all flat))&&true)=true;rw[h1,h2,show cs.all flat=true from bh.2 f1.flat];rfl
 have le:∀ i,pk (fs.take i)<=pk fs:=λi=>by
  have:pk fs=pk (fs.take i)+pk (fs.drop i):=by unfold pk;rw[<-List.sum_append,<-rO,Iz]
  omega
 have lo:ag prog (aa.at w) 23 (.block 0 (af Tryz.f29 0)) (Mh 0 0) (Jm n1 n2 fs cs) 4 ⟨.normal,[(3,vI (pk fs))],Jm n1 n2 fs cs,4⟩:=
  bT (id:=0) (cd (r:=⟨.exit 0,[(3,vI (pk fs))],Jm n1 n2 fs cs,4⟩) fs.length (λi=>Mh i (pk (fs.take i))) (λ_=>Jm n1 n2 fs cs) (λi k _=>Iff.rfl) (λi hi=>by
   have hx:fs[i]?=some fs[i]:=bd hi;obtain⟨u,_,a2,a3,_⟩:=Ef f1 hx;have e:pk (fs.take (i+1))=pk (fs.take i)+fs[i].2.length:=by unfold pk;rw[sQ,hx,rO,List.sum_append];simp
   have:=le (i+1);show ag _ _ _ _ _ _ _ ⟨_,Mh (i+1) (pk (fs.take (i+1))),_,_⟩;rw[e];exact aT4 hi a2 a3 h63 o_) (by
   rw[lY];generalize pk fs=s;exact aC [.lt 9 fs.length fs.length false s_]) n_)
 generalize pk fs=s at *;have hq:IntKind.i64.wrap ((s:Int).tdiv 2)=((s/2:Nat):Int):=by rw[y9 o_,db];omega
 exact QJ mixed func29 Ca az 100 (N:=23) k_ [.code 0 _ _ _ _ _ lo,.qh Tryz.f29 22 .i64 (s:Int) 2 ((s/2:Nat):Int) d_ hq k_] k_ rfl
end
theorem aGp(l:List (HS K))(p:HS K):aN l++(cG p).cs=aN (l++[p]):=by unfold aN;rw[rO];show df RP.cs _++_=df RP.cs _;rw[Im];simp[df]
theorem aT6(p:HS K):(cG p).cs=aN [p]:=by have:=aGp [] p;rwa[show aN ([]:List (HS K))=[]from rfl,jw,jw]at this
section
noncomputable def Jn{Bs:aa}(k:Nat)(p:HS K):aX prog Bs 43:=
 .bs Tryz.f26 37 k 1 35 40 [0] (RP.v ⟨s8,Gr⟩) [cB p] (cG p).cs.toArray (.row (cG p).cs 35 40) rfl (λv hv=>by simp at hv;subst hv;rfl) (λv hv=>iO.flat _ v hv) k_ rfl d_ d_ k_
noncomputable def Mi{Bs:aa}(k n:Nat)(l l':List (HS K))(p:HS K)(hl:l.length=n)(hn:n<=6)(cv:l'=l++[p]):aX prog Bs 43:=
 .pB Tryz.f26 38 (k+2) (k-1) n 1 (n+1) 35 40 480 (aN l) (k+1) (.row (cG p).cs 35 40) (aN l') rfl rfl rfl (by rw[Au,hl]) (by subst cv;exact aGp l p) (iO.one _) d_ (by simp[maxLen];omega) o_ k_
variable{n1 n2 n3 n4 n5 n6:V3 K}{q:K}
structure aT7(n1 n2 n3 n4 n5 n6:V3 K)(q:K):Prop where
 c1:aE prog 27 [.int .i64 1,.int .i64 0,.int .i64 0] (bF n1)
 c2:aE prog 27 [.int .i64 (-1),.int .i64 0,.int .i64 0] (bF n2)
 c3:aE prog 27 [.int .i64 0,.int .i64 1,.int .i64 0] (bF n3)
 c4:aE prog 27 [.int .i64 0,.int .i64 (-1),.int .i64 0] (bF n4)
 c5:aE prog 27 [.int .i64 0,.int .i64 0,.int .i64 1] (bF n5)
 c6:aE prog 27 [.int .i64 0,.int .i64 0,.int .i64 (-1)] (bF n6)
 d:aE prog 28 [.int .i64 1] (cg q)
def Cm(n1 n2 n3 n4 n5 n6:V3 K)(q:K):List (HS K):=[⟨n1,q⟩,⟨n2,q⟩,⟨n3,q⟩,⟨n4,q⟩,⟨n5,q⟩,⟨n6,q⟩]
theorem aT8{n:Nat}{xs:aj}{F:Fact}(h:aT7 n1 n2 n3 n4 n5 n6 q)(hx:xs.all flat=true)(hl:xs.length=n*30)(wO:F.rc=false)(mK:tW prog 37 [fJ (Cm n1 n2 n3 n4 n5 n6 q)] 35 40 6 (aN (Cm n1 n2 n3 n4 n5 n6 q)) 33 30 n xs F [gL 0]):
  tW prog 26 [.p (vI 1)] 35 40 6 (aN (Cm n1 n2 n3 n4 n5 n6 q)) 33 30 n xs F [gL 0]:=by
 refine PX (k1:=19) (k2:=20) (k3:=21) mixed func26 rfl 300 (N:=43) k_ (λw=>[
  h.c1.at 33,h.d.at 35,Jn 2 ⟨n1,q⟩,.ap0 Tryz.f26 38 3 1 35 40 480 2 (.row (cG ⟨n1,q⟩).cs 35 40) (aN [⟨n1,q⟩]) rfl rfl (aT6 _) d_ d_ d_ k_,
  h.c2.at 33,h.d.at 35,Jn 5 ⟨n2,q⟩,Mi 4 1 [⟨n1,q⟩] [⟨n1,q⟩,⟨n2,q⟩] ⟨n2,q⟩ rfl d_ rfl,
  h.c3.at 33,h.d.at 35,Jn 8 ⟨n3,q⟩,Mi 7 2 [⟨n1,q⟩,⟨n2,q⟩] [⟨n1,q⟩,⟨n2,q⟩,⟨n3,q⟩] ⟨n3,q⟩ rfl d_ rfl,
  h.c4.at 33,h.d.at 35,Jn 11 ⟨n4,q⟩,Mi 10 3 [⟨n1,q⟩,⟨n2,q⟩,⟨n3,q⟩] [⟨n1,q⟩,⟨n2,q⟩,⟨n3,q⟩,⟨n4,q⟩] ⟨n4,q⟩ rfl d_ rfl,
  h.c5.at 33,h.d.at 35,Jn 14 ⟨n5,q⟩,Mi 13 4 [⟨n1,q⟩,⟨n2,q⟩,⟨n3,q⟩,⟨n4,q⟩] [⟨n1,q⟩,⟨n2,q⟩,⟨n3,q⟩,⟨n4,q⟩,⟨n5,q⟩] ⟨n5,q⟩ rfl d_ rfl,
  h.c6.at 33,h.d.at 35,Jn 17 ⟨n6,q⟩,Mi 16 5 [⟨n1,q⟩,⟨n2,q⟩,⟨n3,q⟩,⟨n4,q⟩,⟨n5,q⟩] (Cm n1 n2 n3 n4 n5 n6 q) ⟨n6,q⟩ rfl d_ rfl,
  .step 40 (av Tryz.f26 40) [.func (.func 37) #[] #[],sl 18 6] [(19,none),(20,none),(21,none),(18,some (.row (aN (Cm n1 n2 n3 n4 n5 n6 q)) 35 40))] (.tuple #[.agg #[sl 19 6,sl 20 n,dP 21],gL 0]) [(21,.fact (F.kL w.heap.size)),(20,.row xs 33 30),(19,.row (aN (Cm n1 n2 n3 n4 n5 n6 q)) 35 40)]
   (DO (B:=aa.at w) (S:=w.heap.size) mK (.w (x:=.row (aN (Cm n1 n2 n3 n4 n5 n6 q)) 35 40) rfl (cX _) iF .nil) (x:=.func 37) k_ k_ wO (cX _) hx rfl (λw' hb=>Below.size hb) 19)]) (λw=>?_) d_ (cX _) (Au _) hx hl k_
 kernel_rfl
end
end
section
open CR OF
open V3 (dot ao bC smul)
section
variable{ps:List (HS K)}{vs:List RV}{fs:List (Int×List Int)}{p:HS K}
theorem XO(hc:Cl ps)(hp:gu ps)(hf:jS ps):oc ps (bf ps):=⟨by unfold bf;exact U6 _,λ_=>Jd hc hp hf⟩
theorem Ri(hp:gu ps):AK ps=true↔Cl ps/\jS ps:=by
 unfold AK;rw[de,Q0,Xk];constructor
 ·rintro⟨h1,_,h3⟩
  exact⟨h1,_,h3⟩
 ·rintro⟨h1,h2⟩
  exact⟨h1,aCm h1 hp (λv=>Jd h1 hp h2) h2⟩
theorem XP(hc:Cl ps)(hp:gu ps)(hf:jS ps):∀ p∈ps,¬(ck p (bf ps) (bf ps).length).length<3->Jg p (bf ps):=λp iZ hl=>by obtain⟨h1,h2,h3⟩:=(XO hc hp hf).loop (hp p iZ) hl;exact⟨h1,h2,h3⟩
theorem aGq(hp:gu ps)(h:vj (eX ps)=false):jS ps:=
 aL4 hp (λv hv=>(Q6.1 hv).1) (Xw.1 h)
theorem aGr(hc:Cl ps)(hp:gu ps)(hf:jS ps):vj (eX ps)=false:=
 Xw.2 (aL5 hc hp (λv=>Q6) hf)
theorem aT9{l:List (V3 K)}(h:Pf l):4<=l.length:=by
 obtain⟨o,rest,rfl,a,ha,b,hb,c,hc,hd⟩:=h;have ab:a≠b:=λe=>by subst e;exact hd (Q2 _ _)
 have bc:b≠c:=λe=>by subst e;exact hd (Q3 _ _)
 have ac:a≠c:=λe=>by subst e;exact hd (Q4 _ _)
 match rest,ha,hb,hc with
 |[],ha,_,_=>cases ha
 |[x],ha,hb,_=>simp at ha hb;exact absurd (ha.trans hb.symm) ab
 |[x,y],ha,hb,hc=>
  simp at ha hb hc;rcases ha with rfl|rfl<;>rcases hb with rfl|rfl<;>rcases hc with rfl|rfl<;>first|exact absurd rfl ab|exact absurd rfl bc|exact absurd rfl ac
 |_::_::_::_,_,_,_=>simp only[oM];omega
theorem XQ(hc:Cl ps)(hp:gu ps)(hf:jS ps):yx ps=ev ps:=by unfold yx ev;rw[th hc hp hf]
theorem aUa(hp:gu ps)(h:En ps vs fs=true):Cl ps/\jS ps/\vs=(bf ps).map cx/\fs=ev ps:=by unfold En at h;simp only[de,AZ,rU]at h;obtain⟨_,_,h3,h4,h5,h6⟩:=h;have hc:=Q5.1 h3;have hf:=aGq hp h4;exact⟨hc,hf,by rw[th hc hp hf];exact h5,by rw[<-XQ hc hp hf];exact h6⟩
theorem aUb(hc:Cl ps)(hp:gu ps)(hf:jS ps):En ps ((bf ps).map cx) (ev ps)=true:=by
 unfold En;have h1:4<=(ev ps).length:=by unfold ev;rw[eO];exact aTc hc hp (XO hc hp hf) hf
 have hs:=aGr hc hp hf;have h2:4<=((bf ps).map cx).length:=by rw[eO,th hc hp hf];exact aT9 (Xw.1 hs)
 rw[aJ o_,aJ o_,Q5.2 hc,hs,XQ hc hp hf,<-th hc hp hf,aB rfl,aB rfl];rfl
theorem Rj(hc:Cl ps)(hp:gu ps):Cl (ps++[p]):=Cl.more hc hp λ_ hq=>pS _ hq
theorem aUc(hp:gu ps)(hn:p.n≠0):gu (ps++[p]):=λq hq=>by
 rcases dX.1 hq with hq|hq
 ·exact hp q hq
 ·simp at hq;subst hq;exact hn
theorem aUd(hc:Cl ps)(hp:gu ps):rq ps (bf ps)=true↔jS ps:=by
 constructor
 ·intro h;exact⟨_,(Xk.1 h).2⟩
 ·intro h;have:=(Ri hp).2 ⟨hc,h⟩;unfold AK at this;rw[de]at this;exact this.2
end
def gv:List (HS K):=Cm ⟨kI 1,kI 0,kI 0⟩ ⟨kI (-1),kI 0,kI 0⟩ ⟨kI 0,kI 1,kI 0⟩ ⟨kI 0,kI (-1),kI 0⟩ ⟨kI 0,kI 0,kI 1⟩ ⟨kI 0,kI 0,kI (-1)⟩ (kI 1)
def lf:HS K:=⟨⟨kI 1,kI 1,kI 1⟩,kI 2⟩
def pV(a b c:Int):V3 K:=⟨kI a,kI b,kI c⟩
def Rk:List (V3 K):=[pV (-1) (-1) (-1),pV (-1) (-1) 1,pV (-1) 1 (-1),pV (-1) 1 1,pV 1 (-1) (-1),pV 1 (-1) 1,pV 1 1 (-1),pV 1 1 1]
def Rl:List (V3 K):=[pV (-1) (-1) (-1),pV (-1) (-1) 1,pV (-1) 1 (-1),pV (-1) 1 1,pV 0 1 1,pV 1 (-1) (-1),pV 1 (-1) 1,pV 1 0 1,pV 1 1 (-1),pV 1 1 0]
theorem aUe:rh gv=true:=by kernel_rfl
theorem aUf:eX gv=Rk:=by kernel_rfl
theorem aUg:eX (gv++[lf])=Rl:=by kernel_rfl
theorem aUh:(e9 (gv++[lf]) Rl 7).length=7:=by kernel_rfl
theorem aUi:((e9 (gv++[lf]) Rl 7).map λf=>f.2.length).sum=30:=by kernel_rfl
theorem aUj:(iQ lf Rk 8).length=1:=by kernel_rfl
theorem XR{p:HS K}(h:p∈gv++[lf]):∃ a b c d:Int,p=⟨⟨kI a,kI b,kI c⟩,kI d⟩/\(a.natAbs<=1/\b.natAbs<=1/\c.natAbs<=1)/\(0<d/\d<=2)/\(a≠0\/b≠0\/c≠0):=by
 simp only[gv,Cm,dX,ch,iu,iv]at h;rcases h with (rfl|rfl|rfl|rfl|rfl|rfl)|rfl
 ·exact⟨1,0,0,1,rfl,by decide,by decide,by decide⟩
 ·exact⟨-1,0,0,1,rfl,by decide,by decide,by decide⟩
 ·exact⟨0,1,0,1,rfl,by decide,by decide,by decide⟩
 ·exact⟨0,-1,0,1,rfl,by decide,by decide,by decide⟩
 ·exact⟨0,0,1,1,rfl,by decide,by decide,by decide⟩
 ·exact⟨0,0,-1,1,rfl,by decide,by decide,by decide⟩
 ·exact⟨1,1,1,2,rfl,by decide,by decide,by decide⟩
theorem aGs{p:HS K}(h:p∈gv++[lf]):bo 2 p:=by obtain⟨a,b,c,d,rfl,⟨h1,h2,h3⟩,⟨h4,h5⟩,_⟩:=XR h;exact⟨⟨qV o_ d_,qV o_ d_,qV o_ d_⟩,qV o_ d_⟩
theorem XS{a b:Int}(h:kI a=kI b):a=b:=by
 have h1:((a:Rat))=(b:Rat):=cM (λx:K=>x.re.re) h
 exact_mod_cast h1
theorem Rm{p:HS K}(h:p∈gv++[lf]):p.n≠0:=by
 obtain⟨a,b,c,d,rfl,_,_,h6⟩:=XR h;intro e;have e1:kI a=kI 0:=cM V3.x e;have e2:kI b=kI 0:=cM V3.y e;have e3:kI c=kI 0:=cM V3.z e;rcases h6 with h|h|h
 ·exact h (XS e1)
 ·exact h (XS e2)
 ·exact h (XS e3)
theorem aGt{p:HS K}(h:p∈gv++[lf]):dot p.n 0<p.d:=by
 obtain⟨a,b,c,d,rfl,_,⟨h4,h5⟩,_⟩:=XR h;rw[V3.zE];have hd:d=1\/d=2:=by omega
 rcases hd with rfl|rfl
 ·show OF.ay (kI 1-0)=1;kernel_rfl
 ·show OF.ay (kI 2-0)=1;kernel_rfl
theorem aUk:gu (gv++[lf]):=λ_ h=>Rm h
theorem XT:gu gv:=λ_ h=>Rm (pS _ h)
theorem aGu:jS (gv++[lf]):=⟨0,λ_ h=>aGt h⟩
theorem XU:jS gv:=⟨0,λ_ h=>aGt (pS _ h)⟩
theorem Rn:Cl gv:=Q0.1 aUe
theorem aUl:Cl (gv++[lf]):=Rj Rn XT
theorem XV:(gv++[lf]).length=7:=rfl
theorem aUm:pf (gv++[lf]) 2:=⟨by rw[XV];decide,λ_ h=>aGs h,λ_ h=>Rm h,by decide⟩
theorem aUn:pT gv 2 1000:=⟨by decide,λp h=>⟨aGs (pS _ h),Rm (pS _ h)⟩,by decide,by decide⟩
theorem aUo{ps:List (HS K)}{m M:Nat}(h:pT ps m M)(hc:Cl ps)(hp:gu ps)(hf:jS ps):
  tW prog 37 [fJ ps] 35 40 ps.length (aN ps) 33 30 (bf ps).length (aL (bf ps)) (eK (ev ps)) [gL 0]:=by
 have dS:=XP hc hp hf;rw[th hc hp hf]at dS;have:=aGh h (Q5.2 hc) (aGr hc hp hf) dS;rw[XQ hc hp hf]at this;rw[th hc hp hf];exact this
theorem aUp:tW prog 26 [.p (vI 1)] 35 40 6 (aN gv) 33 30 (bf gv).length (aL (bf gv)) (eK (ev gv)) [gL 0]:=by
 have mK:=aUo aUn Rn XT XU
 exact aT8 ⟨aWp d_ d_ d_,aWp d_ d_ d_,aWp d_ d_ d_,aWp d_ d_ d_,aWp d_ d_ d_,aWp d_ d_ d_,aWR d_⟩
  (dF _) (sS _) rfl mK
theorem XW:(bf (gv++[lf]))=Rl:=(th aUl aUk aGu).trans aUg
theorem XX:bf gv=Rk:=(th Rn XT XU).trans aUf
theorem aGv:(ev (gv++[lf])).length=7:=by unfold ev;rw[eO,XW,XV];exact aUh
theorem aGw:pk (ev (gv++[lf]))=30:=by
 unfold ev pk;rw[S6,XW,XV];have e:((λf:Int×List Int=>f.2.length)∘oI)=λf:Nat×List Nat=>f.2.length:=by funext f;simp[oI]
 rw[e];exact aUi
theorem aGx{ps:List (HS K)}{p:HS K}{m:Nat}(h:pf (ps++[p]) m)(hc:Cl ps)(hf:jS ps)(uD:jS (ps++[p])):
  tW prog 12 [wI ps,.p (cB p)] 35 40 (ps.length+1) (aN (ps++[p])) 33 30 (bf (ps++[p])).length (aL (bf (ps++[p]))) (eK (ev (ps++[p]))) [.bool (decide (0<(iQ p (bf ps) (bf ps).length).length)),gL 0]:=by
 have hp:gu ps:=λq hq=>h.ne q (pS _ hq);have hn:p.n≠0:=h.ne p s_;exact aTx h ((Ri hp).2 ⟨hc,hf⟩) (Q0.2 (Rj hc hp)) ((aUd (Rj hc hp) (aUc hp hn)).2 uD)
theorem aUq:tW prog 12 [.s 6 (aN gv) (bf gv).length (aL (bf gv)) (eK (ev gv)),.p (cB lf)] 35 40 7 (aN (gv++[lf])) 33 30 10 (aL (bf (gv++[lf]))) (eK (ev (gv++[lf]))) [.bool true,gL 0]:=by have:=aGx aUm Rn XU aGu;unfold wI Ck at this;rw[eO,show(bf gv).length=8 by rw[XX];rfl,show iQ lf (bf gv) 8=iQ lf Rk 8 by rw[XX],aUj,show(bf (gv++[lf])).length=10 by rw[XW];rfl]at this;rw[show(bf gv).length=8 by rw[XX];rfl];exact this
theorem aUr{np nv pW:Nat}{xp xv GJ Jo:aj}{F:Fact}{gs:List (Int×List Int)}{n:V3 K}{q:K}(hF:F.rc=false)(f1:xp.all flat=true)(f2:xv.all flat=true)(f3:GJ.all flat=true)(f4:Jo.all flat=true)(z1:np=0->xp=[])(z2:nv=0->xv=[])(z3:pW=0->GJ=[])
  (hB:tW prog 26 [.p (vI 1)] 35 40 np xp 33 30 nv xv F [gL 0]) (hn:aE prog 27 [.int .i64 1,.int .i64 1,.int .i64 1] (bF n)) (hq:aE prog 28 [.int .i64 2] (cg q))
  (hC:tW prog 12 [.s np xp nv xv F,.p (cB ⟨n,q⟩)] 35 40 pW GJ 33 30 10 Jo (eK gs) [.bool true,gL 0]) (hg:gs.length=7) (hE:cI prog 29 [.s pW GJ 10 Jo (eK gs)] (vI 15)) :
  cI prog 7 [] (.bool true):=
 gT mixed func7 rfl 200 (N:=41) k_ (λw=>[
  .step 7 (av f7 7) [.func (.func 26) #[] #[],vI 1] [(0,none),(1,none),(2,none)] (.tuple #[.agg #[sl 0 np,sl 1 nv,dP 2],gL 0]) [(2,.fact (F.kL w.heap.size)),(1,.row xv 33 30),(0,.row xp 35 40)]
   (DO (B:=aa.at w) (S:=w.heap.size) hB (.p rfl .nil) (x:=.func 26) k_ k_ hF f1 f2 rfl (λw' hb=>Below.size hb) 0),
  hn.at 12,hq.at 13,
  .step 15 (av f7 15) [.func (.func 12) #[] #[],.agg #[sl 0 np,sl 1 nv,dP 2],cB ⟨n,q⟩] [(4,none),(5,none),(6,none),(0,some (.row xp 35 40)),(1,some (.row xv 33 30)),(2,some (.fact (F.kL w.heap.size)))]
   (.tuple #[.agg #[sl 4 pW,sl 5 10,dP 6],.bool true,gL 0]) [(6,.fact ((eK gs).kL w.heap.size)),(5,.row Jo 33 30),(4,.row GJ 35 40)]
   (DO (B:=aa.at w) (S:=w.heap.size) hC (.si (Q7 _ _) (x1:=.row xp 35 40) (x2:=.row xv 33 30) rfl f1 z1 rfl f2 z2 (.p k_ .nil)) (x:=.func 12) k_ k_ rfl f3 f4 rfl (λw' hb=>Below.size hb) 4),
  .step 33 (av f7 33) [dP 6] [(6,some (.fact ((eK gs).kL w.heap.size)))] (vI 7) [] (hg▸aTN k_ (Q7 _ _)),
  .step 38 (av f7 38) [.func (.func 29) #[] #[],.agg #[sl 4 pW,sl 5 10,dP 6]] [(4,some (.row GJ 35 40)),(5,some (.row Jo 33 30)),(6,some (.fact ((eK gs).kL w.heap.size)))] (vI 15) []
   (dL hE (.si (Q7 _ _) (x1:=.row GJ 35 40) (x2:=.row Jo 33 30) rfl f3 z3 rfl f4 n_ .nil) (x:=.func 29) k_ k_ rfl)]) (λw=>k_) k_
theorem aGy:cI prog 7 [] (.bool true):=by have hE:=aT5 (n1:=7) (n2:=10) (x1:=aN (gv++[lf])) (x2:=aL (bf (gv++[lf]))) (fs:=ev (gv++[lf])) (cX _) (dF _) (by rw[aGv];decide) (by rw[aGw];decide);rw[aGw]at hE;exact aUr rfl (cX _) (dF _) (cX _) (dF _) n_ xP n_ aUp (aWp d_ d_ d_) (aWR d_) aUq aGv hE
end
end Go.Proofs.YtjjefbkbljlgdaaGreatDoor
