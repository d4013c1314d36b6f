/- Two cuts in either order: the proof of CutOrderCardSaid (the law's function answers true at every set it can be given; theorem cutOrder_card, last part), part 5 of 7; no condition. -/
import Derived.Test.YtjjefbkbljlgdaaGreatDoorD4
namespace Go.Proofs.YtjjefbkbljlgdaaGreatDoor
open Go Go.RowKit Tryz
section
open V3 (dot ax cL smul)
theorem Ws(ps:List (HS K)):(fC ps).ok=true:=cZ ps
theorem aEd(vs:List (V3 K)):(uR vs).ok=true:=dW vs
theorem aQF(vs:List (V3 K)):(aP.b vs.length (aR vs)).ok=true:=dW vs
theorem aQG(v:V3 K):(aP.q (cC v).cs).ok=true:=bf.2 (RV.nF _)
theorem aQH(v:V3 K):(aP.p (bP v)).ok=true:=rfl
theorem Wt(p:HS K):(aP.p (cB p)).ok=true:=rfl
def aL(vs:List (V3 K))(i:Nat):V3 K:=(vs[i]?).getD 0
theorem ky{vs:List (V3 K)}{i:Nat}(h:i<vs.length):vs[i]?=some (aL vs i):=by unfold aL;rw[bd h];rfl
theorem aEe{x:K}:0<x↔OF.az x>0:=by rw[OF.iA];rcases OF.iN x with h|h|h<;>rw[h]<;>decide
def xV(n:V3 K)(pt:Nat->V3 K)(p:Nat):List Nat->Nat
 |b::a::st=>if 0<turn n (pt a) (pt b) (pt p)then 0 else xV n pt p (a::st)+1
 |_=>0
theorem Qf(n:V3 K)(pt:Nat->V3 K)(p:Nat):∀ st:List Nat,pop n pt p st=st.drop (xV n pt p st)
 |[]=>rfl
 |[a]=>rfl
 |b::a::st=>by
  unfold pop xV;split
  ·rfl
  ·exact Qf n pt p (a::st)
theorem aEf(n:V3 K)(pt:Nat->V3 K)(p:Nat):∀(st:List Nat) (d:Nat),d<xV n pt p st->∃ b a e7,st.drop d=b::a::e7/\¬0<turn n (pt a) (pt b) (pt p)
 |[],d,h=>by simp[xV]at h
 |[a],d,h=>by simp[xV]at h
 |b::a::st,d,h=>by
  unfold xV at h;split at h
  ·omega
  ·rename_i ht;cases d with
   |zero=>exact⟨b,a,st,rfl,ht⟩
   |succ d=>exact aEf n pt p (a::st) d o_
theorem aEg(n:V3 K)(pt:Nat->V3 K)(p:Nat):∀(st:List Nat),(∃ b a e7,st.drop (xV n pt p st)=b::a::e7/\0<turn n (pt a) (pt b) (pt p))\/(st.drop (xV n pt p st)).length<=1
 |[]=>.inr (kU _)
 |[a]=>.inr (bh _)
 |b::a::st=>by
  unfold xV;split
  ·rename_i ht;exact .inl ⟨b,a,st,rfl,ht⟩
  ·exact aEg n pt p (a::st)
section
variable{Bs:aa}{vs:List (V3 K)}{nn:V3 K}{l:List Nat}
def oY(l:List Nat)(vs:List (V3 K))(nn:V3 K):aH:=[(0,.view (ai l)),(1,.view (aR vs)),(2,.view [sl 1 vs.length]),(3,.view (cC nn).cs)]
def lO(st:List Nat):List Obj:=[.row (ai st.reverse) 3 1]
def DZ(p L:Nat):aV:=[(7,vI p),(5,sl 4 L),(1,bX 2),(2,bX 3)]
def Qg(n i L:Nat):aV:=[(12,vI i),(10,sl 0 n),(11,vI n),(5,sl 4 L),(1,bX 2),(2,bX 3)]
theorem aEh{m:Nat}(hm:4<=m):∀ x∈oY l vs nn,fP m x.2:=λx hx=>by
 simp only[oY,cy,jh,ji]at hx;rcases hx with rfl|rfl|rfl|rfl
 ·exact λv hv=>iK (kv l v hv)
 ·exact λv hv=>iK (bf.1 (dW vs) v hv)
 ·intro v hv;have:v=sl 1 vs.length:=by simpa[Obj.cells]using hv
  subst this;show GM m ⟨1,0,some 7⟩=true;unfold GM;simp;omega
 ·exact λv hv=>iK (RV.nF _ v hv)
theorem aQI{m:Nat}{st:List Nat}:∀ x∈lO st,fP m x:=λx hx=>by simp only[lO,cy,jh,ji]at hx;subst hx;exact λv hv=>iK (kv _ v hv)
theorem aEi{m:Nat}(hm:5<=m){st:List Nat}:∀ x∈oY l vs nn++marks 4 (lO st),fP m x.2:=λx hx=>by
 rcases dY.1 hx with h|h
 ·exact aEh o_ x h
 ·simp only[lO,marks,cy,jh,ji]at h;subst h;exact λv hv=>iK (kv _ v hv)
noncomputable def hiS{p a b L m q:Nat}{r:List Nat}{t:Bool}(hL:r.length=L+2)(ha:r[L]?=some a)(hb:r[L+1]?=some b)(kP:a<vs.length)(kZ:b<vs.length)(qZ:p<vs.length)(aN:∀ v∈vs,aF q v)(hn:aF m nn)(hm:100*(m+q)+1000<=aC)(h63:L<1000000)
  (ht:decide (OF.az (turn nn (aL vs a) (aL vs b) (aL vs p))>0)=t) (more:bE prog Bs 66):bE prog Bs 66:=
 have sa:=aN _ (cQ (ky kP));have sb:=aN _ (cQ (ky kZ));have sp:=aN _ (cQ (ky qZ))
 .gt 18 (L+2) 1 true s_::.eV 23 (L+2) 2 L rfl o_::.ix f165 24 4 (L+2) L o_ k_::.ld f165 25 3 4 L (.row (ai r) 3 1) (vI a) rfl (dJ ha) k_::
  .c9 f165 26 1 vs.length a 30 kP k_::.ld f165 27 33 1 (a*30) (.view (aR vs)) (bP (aL vs a)) rfl (mP (ky kP)) k_::.eV 32 (L+2) 1 (L+1) rfl o_::.ix f165 33 4 (L+2) (L+1) o_ k_::
  .ld f165 34 3 4 (L+1) (.row (ai r) 3 1) (vI b) rfl (dJ hb) k_::.c9 f165 35 1 vs.length b 30 kZ k_::.ld f165 36 33 1 (b*30) (.view (aR vs)) (bP (aL vs b)) rfl (mP (ky kZ)) k_::
  (BD sb sa o_).at 40::.c9 f165 43 1 vs.length p 30 qZ k_::.ld f165 44 33 1 (p*30) (.view (aR vs)) (bP (aL vs p)) rfl (mP (ky qZ)) k_::(BD sp sa o_).at 46::
  (vR (sb.sub sa) (sp.sub sa) o_).at 47::(uP hn ((sb.sub sa).ax (sp.sub sa)) o_).at 48::(nG (hn.dot ((sb.sub sa).ax (sp.sub sa))) o_).at 49::
  .rw 50 (.bool (decide (OF.az (dot nn (ax (aL vs b-aL vs a) (aL vs p-aL vs a)))>0))) (.bool t) (by rw[<-ht];rfl)::more
theorem aEj{st e7:List Nat}{a b:Nat}(h:st=b::a::e7):st.reverse.length=e7.length+2/\st.reverse[e7.length]?=some a/\st.reverse[e7.length+1]?=some b/\st.reverse.take (e7.length+1)=(a::e7).reverse:=by
 subst h;have e:(b::a::e7).reverse=e7.reverse++[a,b]:=by simp
 rw[e];refine⟨by simp,?_,?_,?_⟩
 ·rw[Ci s_];simp
 ·rw[Ci s_];simp
 ·rw[aB6];simp[kj]
theorem aEk(l:List Nat)(m:Nat):(ai l).take (m*1)=ai (l.take m):=by rw[fZ];simp[ai,Co]
theorem aQJ{st e7:List Nat}{p a b m q:Nat}(bJ:st=b::a::e7)(ba:∀ x∈st,x<vs.length)(qZ:p<vs.length)(aN:∀ v∈vs,aF q v)(hn:aF m nn)(hm:100*(m+q)+1000<=aC)(h63:st.length<1000000)
  (ht:¬0<turn nn (aL vs a) (aL vs b) (aL vs p)):ah prog Bs 66 (aE (af f165 2)) (DZ p st.length) (oY l vs nn++marks 4 (lO st)) 5 ⟨.normal,DZ p (a::e7).length,oY l vs nn++marks 4 (lO (a::e7)),5⟩:=by
 obtain⟨r1,r2,r3,r4⟩:=aEj bJ;have kP:=ba a (by rw[bJ];simp);have kZ:=ba b (by rw[bJ];simp);have hl:st.length=e7.length+2:=by rw[bJ];rfl
 have hd:decide (OF.az (turn nn (aL vs a) (aL vs b) (aL vs p))>0)=false:=aJ λh=>ht (aEe.2 h);have sG:(ai st.reverse).take ((e7.length+1)*1)=ai (a::e7).reverse:=by rw[aEk,r4]
 have dq:=aEi (l:=l) (vs:=vs) (nn:=nn) (m:=5) (bh _) (st:=a::e7);unfold lO at *;rw[hl]at h63 ⊢;rw[show(a::e7).length=e7.length+1 from rfl];generalize st.reverse=r at *;generalize (a::e7).reverse=r' at *;exact vn mixed 100 (ij:=7) (hiS r1 r2 r3 kP kZ qZ aN hn hm o_ hd [.eV 54 (e7.length+2) 1 (e7.length+1) rfl o_,.cut f165 55 4 (e7.length+2) (e7.length+1) ((e7.length+1)*1) 1 1 3 (ai r) (ai r') o_ sG k_]) k_ rfl k_ dq k_
theorem aQK{st:List Nat}{p m q:Nat}(ba:∀ x∈st,x<vs.length)(qZ:p<vs.length)(aN:∀ v∈vs,aF q v)(hn:aF m nn)(hm:100*(m+q)+1000<=aC)(h63:st.length<1000000)
  (h:(∃ b a e7,st=b::a::e7/\0<turn nn (aL vs a) (aL vs b) (aL vs p))\/st.length<=1):ah prog Bs 66 (aE (af f165 2)) (DZ p st.length) (oY l vs nn++marks 4 (lO st)) 5 ⟨.exit 2,DZ p st.length,oY l vs nn++marks 4 (lO st),5⟩:=by
 have dq:=aEi (l:=l) (vs:=vs) (nn:=nn) (m:=5) (bh _) (st:=st);rcases h with ⟨b,a,e7,bJ,ht⟩|h
 ·obtain⟨r1,r2,r3,r4⟩:=aEj bJ;have kP:=ba a (by rw[bJ];simp);have kZ:=ba b (by rw[bJ];simp);have hl:st.length=e7.length+2:=by rw[bJ];rfl
  have hd:decide (OF.az (turn nn (aL vs a) (aL vs b) (aL vs p))>0)=true:=aB (aEe.1 ht);unfold lO at *;rw[hl]at h63 ⊢;generalize st.reverse=r at *;exact vn mixed 100 (ij:=7) (hiS r1 r2 r3 kP kZ qZ aN hn hm o_ hd []) k_ rfl k_ dq k_
 ·exact aA [.gt 18 st.length 1 false (by simp;omega)]
theorem aEl{st:List Nat}{n d:Nat}(h:∀ x∈st,x<n):∀ x∈st.drop d,x<n:=λx hx=>h x (Wu hx)
theorem aQL{st:List Nat}{p m q:Nat}(ba:∀ x∈st,x<vs.length)(qZ:p<vs.length)(aN:∀ v∈vs,aF q v)(hn:aF m nn)(hm:100*(m+q)+1000<=aC)(h63:st.length<1000000):
  ah prog Bs 66 (.block 2 (af f165 2)) (DZ p st.length) (oY l vs nn++marks 4 (lO st)) 5 ⟨.normal,DZ p (pop nn (aL vs) p st).length,oY l vs nn++marks 4 (lO (pop nn (aL vs) p st)),5⟩:=by
 have hlen:∀ d,(st.drop d).length<1000000:=λd=>by rw[vg];omega
 have:=ch (P:=prog) (B:=Bs) (N:=66) (b:=aE (af f165 2)) (next:=5) (xV nn (aL vs) p st) (λd=>DZ p (st.drop d).length) (λd=>oY l vs nn++marks 4 (lO (st.drop d)))
  (r:=⟨.exit 2,DZ p (pop nn (aL vs) p st).length,oY l vs nn++marks 4 (lO (pop nn (aL vs) p st)),5⟩) (λi k _=>jP (l:=oY l vs nn++marks 4 (lO (st.drop i))) (m:=oY l vs nn++marks 4 (lO (st.drop 0))) rfl k)
  (λd hd=>by
   obtain⟨b,a,e7,h1,h2⟩:=aEf nn (aL vs) p st d hd;have h3:st.drop (d+1)=a::e7:=by rw[<-Nc,h1];rfl
   rw[h3];exact aQJ h1 (aEl ba) qZ aN hn hm (hlen d) h2)
  (by rw[Qf];exact aQK (aEl ba) qZ aN hn hm (hlen _) (aEg nn (aL vs) p st)) n_
 exact bO (id:=2) this
def bJ(nn:V3 K)(vs:List (V3 K))(l:List Nat)(i:Nat):List Nat:=half nn (aL vs) (l.take i)
theorem aEm{i p:Nat}(h:l[i]?=some p):bJ nn vs l (i+1)=p::pop nn (aL vs) p (bJ nn vs l i):=by unfold bJ half;rw[vV,h,Option.toList,aCj];rfl
theorem aQM(n:V3 K)(pt:Nat->V3 K)(p:Nat)(st:List Nat):∀ x∈pop n pt p st,x∈st:=λx hx=>by rw[Qf]at hx;exact Wu hx
theorem aEn(n:V3 K)(pt:Nat->V3 K)(p:Nat)(st:List Nat):(pop n pt p st).length<=st.length:=by rw[Qf,vg];omega
theorem LC:∀ i,i<=l.length->(∀ x∈bJ nn vs l i,x∈l)/\(bJ nn vs l i).length<=i
 |0,_=>⟨λx hx=>by simp[bJ,half]at hx,bh _⟩
 |i+1,h=>by
  obtain⟨h1,h2⟩:=LC i o_;have hp:l[i]?=some l[i]:=bd o_;rw[aEm hp];refine⟨λx hx=>?_,?_⟩
  ·rcases cy.1 hx with rfl|hx
   ·exact dS o_
   ·exact h1 x (aQM _ _ _ _ x hx)
  ·have:=aEn nn (aL vs) l[i] (bJ nn vs l i);rw[oD];omega
theorem aQN{i p m q:Nat}{st:List Nat}(hi:i<l.length)(hp:l[i]?=some p)(ba:∀ x∈st,x<vs.length)(qZ:p<vs.length)(aN:∀ v∈vs,aF q v)(hn:aF m nn)(hm:100*(m+q)+1000<=aC)(h63:st.length<900000)(rf:l.length<1000000):
  ah prog Bs 66 (aE (af f165 0)) (Qg l.length i st.length) (oY l vs nn++marks 4 (lO st)) 5
   ⟨.normal,gR 4 [some 6] (Qg l.length (i+1) (p::pop nn (aL vs) p st).length),oY l vs nn++dP [some 6] (lO (p::pop nn (aL vs) p st)),7⟩:=by
 have lo:=aQL (Bs:=Bs) (l:=l) ba qZ aN hn hm (show st.length<1000000 by omega);have xM:=aEn nn (aL vs) p st;generalize pop nn (aL vs) p st=r at *;have hr:ai r.reverse++[vI p]=ai (p::r).reverse:=by simp[ai]
 have Ad:(ai r.reverse).length=r.length*1:=by rw[lM,Gi,fZ]
 have h1:=IF r.reverse;unfold lO at *;rw[show(p::r).length=r.length+1 from rfl];generalize st.reverse=s0 at *;generalize ai r.reverse=c0 at *;generalize ai (p::r).reverse=c1 at *;exact aA [.lt 13 i l.length true (aB hi),.ix f165 14 0 l.length i hi k_,.ld f165 15 3 0 i (.view (ai l)) (vI p) rfl (dJ hp) k_,.code 2 _ _ _ _ _ lo,.bs f165 58 5 1 3 1 [0] (vI 0) [vI p] #[vI p] (.row [vI p] 3 1) rfl (λv hv=>by simp at hv;subst hv;rfl) (λv hv=>by simp at hv;subst hv;rfl) k_ rfl d_ d_ k_,.pj f165 59 6 4 r.length 1 (r.length+1) 3 1 8 c0 5 (.row [vI p] 3 1) c1 rfl rfl rfl Ad hr (λv hv=>by simp[Obj.cells]at hv;subst hv;rfl) d_ (by simp[maxLen];omega) o_ k_,.sum 60 i 1 (i+1) rfl o_]
theorem aQO{m q:Nat}(ba:∀ x∈l,x<vs.length)(aN:∀ v∈vs,aF q v)(hn:aF m nn)(hm:100*(m+q)+1000<=aC)(h63:l.length<900000):
  ah prog Bs 66 (.block 0 (af f165 0)) (gR 4 [none] (Qg l.length 0 0)) (oY l vs nn++dP [none] (lO [])) 4 ⟨.normal,[(5,sl 4 (half nn (aL vs) l).length)],oY l vs nn++marks 4 (lO (half nn (aL vs) l)),5⟩:=by
 have DK:bJ nn vs l l.length=half nn (aL vs) l:=by unfold bJ;rw[nI]
 have:=rS (P:=prog) (B:=Bs) (N:=66) (b:=aE (af f165 0)) (next:=4) (p:=1) (r:=⟨.exit 0,[(5,sl 4 (half nn (aL vs) l).length)],oY l vs nn++marks 4 (lO (half nn (aL vs) l)),5⟩) l.length
  (λi=>Qg l.length i (bJ nn vs l i).length) (λ_=>oY l vs nn) (λi=>lO (bJ nn vs l i)) [none] (λ_ _=>rfl) (λj _=>⟨aEh (bh _),aQI⟩) k_ k_
  (λi hi=>by have hp:l[i]?=some l[i]:=bd hi;obtain⟨f1,f2⟩:=LC (nn:=nn) (vs:=vs) (l:=l) i o_;refine⟨[some 6],7,k_,?_⟩;rw[aEm hp];exact aQN hi hp (λx hx=>ba x (f1 x hx)) (ba _ (dS hi)) aN hn hm o_ o_)
  (by rw[DK];generalize half nn (aL vs) l=a;exact aA [.lt 13 l.length l.length false s_]) n_
 exact bO (id:=0) this
theorem aQP(nn:V3 K)(pt:Nat->V3 K){l:List Nat}(h:l≠[]):half nn pt l≠[]:=by
 have:∀(l st:List Nat),st≠[]->l.foldl (λst p=>p::pop nn pt p st) st≠[]:=by
  intro l;induction l with
  |nil=>exact λ_ h=>h
  |cons a l ih=>exact λst _=>ih _ n_
 cases l with
 |nil=>exact absurd rfl h
 |cons a l=>exact this l _ n_
def j8(nn:V3 K)(vs:List (V3 K))(l:List Nat):List Nat:=(half nn (aL vs) l).tail.reverse
theorem aEo{m q:Nat}(qx:0<l.length)(ba:∀ x∈l,x<vs.length)(aN:∀ v∈vs,aF q v)(hn:aF m nn)(hm:100*(m+q)+1000<=aC)(h63:l.length<900000):
  lL prog 165 [Gh l,.b vs.length (aR vs),.q (cC nn).cs] 3 1 (j8 nn vs l).length (ai (j8 nn vs l)):=by
 have ay:([Gh l,.b vs.length (aR vs),.q (cC nn).cs].all aP.ok)=true:=by simp only[dG,fB,Wq,aQF,aQG,vU]
 have lo:=λBs=>aQO (Bs:=Bs) ba aN hn hm h63;have aU:=aQP nn (aL vs) (l:=l) (λe=>by rw[e]at qx;cases qx);have hlen:(half nn (aL vs) l).length<=l.length:=by have:=(LC (nn:=nn) (vs:=vs) (l:=l) l.length (bh _)).2;unfold bJ at this;rwa[nI]at this
 unfold j8;cases hh:half nn (aL vs) l with
 |nil=>exact absurd hh aU
 |cons a st=>
  rw[hh]at lo hlen;simp only[List.tail_cons,Gi];have sG:(ai (a::st).reverse).take (st.length*1)=ai st.reverse:=by rw[aEk,vM,Rj s_]
  unfold lO at lo;rw[show(a::st).length=st.length+1 from rfl]at lo hlen;have hx:=gV st.reverse;have Wv:(ai st.reverse).length=st.length*1:=by rw[lM,Gi,fZ]
  generalize ai (a::st).reverse=c0 at *;generalize ai st.reverse=c1 at *;exact zg (k:=4) mixed func165 ay 100 (N:=66) k_ (λ_=>[.code 0 _ _ _ _ _ (lo _),.eV 64 (st.length+1) 1 st.length rfl o_,.cut f165 65 4 (st.length+1) st.length (st.length*1) 1 1 3 c0 c1 o_ sG k_]) (λ_=>k_) hx Wv
end
theorem aEp(nn:V3 K)(vs:List (V3 K))(l:List Nat):order nn (aL vs) l=j8 nn vs l++j8 nn vs l.reverse:=rfl
theorem Ww{vs:List (V3 K)}{nn:V3 K}{l:List Nat}{m q:Nat}(qx:0<l.length)(ba:∀ x∈l,x<vs.length)(aN:∀ v∈vs,aF q v)(hn:aF m nn)(hm:100*(m+q)+1000<=aC)(h63:l.length<900000):
  lL prog 125 [uR vs,Gh l,.p (bP nn)] 3 1 (order nn (aL vs) l).length (ai (order nn (aL vs) l)):=by
 have ay:([uR vs,Gh l,.p (bP nn)].all aP.ok)=true:=by simp only[dG,fB,Wq,aEd,aQH,vU]
 have h1:=aEo qx ba aN hn hm h63;have h2:=aEo (l:=l.reverse) (by simpa using qx) (λx hx=>ba x (KJ.1 hx)) aN hn hm (by simpa using h63);have hc:=aQy qx o_;have hr:=aQE qx o_;rw[aEp];have e1:ai (j8 nn vs l)++ai (j8 nn vs l.reverse)=ai (j8 nn vs l++j8 nn vs l.reverse):=aQx _ _;have bA:∀ l:List Nat,(∀ x∈l,x∈l)->(j8 nn vs l).length<=l.length:=λl _=>by have:=(LC (nn:=nn) (vs:=vs) (l:=l) l.length (bh _)).2;unfold bJ at this;rw[nI]at this;unfold j8;rw[Gi,List.length_tail];omega
 have s1:=bA l λ_ h=>h;have s2:=bA l.reverse λ_ h=>h;have g1:=lM (j8 nn vs l);have g2:=lM (j8 nn vs l.reverse);have o2:=IF (j8 nn vs l.reverse);have f3:=gV (j8 nn vs l++j8 nn vs l.reverse);have g3:=lM (j8 nn vs l++j8 nn vs l.reverse);have f1:=gV (j8 nn vs l);have f2:=gV (j8 nn vs l.reverse);rw[iJ]at g3 ⊢;rw[Gi]at s2;have hb:∀{l:List Nat},l.length=0->(Obj.view (ai l)).cells=[]:=λh=>Qd h;unfold xU at hr;have aEq:l.reverse.length=l.length:=Gi ..;unfold Gh at h2;rw[aEq]at h2;have ir:l.length=0->ai l.reverse=[]:=λh=>Qd (by rw[aEq];exact h);have irf:=gV l.reverse;generalize (j8 nn vs l).length=a1 at *;generalize (j8 nn vs l.reverse).length=a2 at *;generalize ai (j8 nn vs l++j8 nn vs l.reverse)=i3 at *;generalize ai (j8 nn vs l)=i1 at *;generalize ai (j8 nn vs l.reverse)=i2 at *;generalize ai l.reverse=lr at *;exact zg (k:=7) mixed func125 ay 100 (N:=23) k_ (λ_=>[
  .step 13 (av f125 13) [.func (.func 165) #[] #[bX 2,bX 3],sl 1 l.length] [(4,none),(1,some (.view (ai l))),(2,some (.aI [sl 0 vs.length] 23)),(0,some (.view (aR vs))),(3,some (.aI (cC nn).cs 33))] (sl 4 a1) [(4,.row i1 3 1)]
   (aCK (vs:=[sl 1 l.length]) (ca:=[bX 2,bX 3]) h1 (.w (x:=.view (ai l)) rfl (gV l) hb (.b (x:=.view (aR vs)) (y:=.aI [sl 0 vs.length] 23) (cc:=0) rfl rfl rfl (dW vs) xB (.q (x:=.aI (cC nn).cs 33) rfl (bf.2 (RV.nF _)) .nil))) (x:=.tmp 11) k_ k_ f1 4),
  .step 15 (av f125 15) [.func (.func 166) #[] #[],sl 1 l.length] [(5,none),(1,some (.view (ai l)))] (sl 5 l.length) [(5,.row (ai l) 3 1)]
   (qL hc (.w (x:=.view (ai l)) rfl (gV l) hb .nil) (x:=.func 166) k_ k_ (gV l) 5),
  .step 17 (av f125 17) [.func (.func 167) #[] #[],sl 5 l.length] [(5,some (.row (ai l) 3 1))] (.tuple #[]) [(5,.row lr 3 1)]
   (O5 (args:=[sl 5 l.length]) (ca:=[]) (x:=.func 167) hr k_ k_ k_ k_ (by
    show((Nat.blt 5 6&&oq 6 (5,.row (ai l) 3 1))&&true)=true;rw[zy (x:=.row (ai l) 3 1) λv hv=>kv l v hv];rfl) (by
    show(oq 6 (5,.row lr 3 1)&&true)=true;rw[zy (x:=.row lr 3 1) λv hv=>bf.1 irf v hv];rfl) k_ k_ k_ k_),.step 21 (av f125 21) [.func (.func 165) #[] #[bX 2,bX 3],sl 5 l.length] [(6,none),(5,some (.row lr 3 1)),(2,some (.aI [sl 0 vs.length] 23)),(0,some (.view (aR vs))),(3,some (.aI (cC nn).cs 33))] (sl 6 a2) [(6,.row i2 3 1)]
   (aCK (vs:=[sl 5 l.length]) (ca:=[bX 2,bX 3]) h2 (.w (x:=.row lr 3 1) rfl irf ir (.b (x:=.view (aR vs)) (y:=.aI [sl 0 vs.length] 23) (cc:=0) rfl rfl rfl (dW vs) xB (.q (x:=.aI (cC nn).cs 33) rfl (bf.2 (RV.nF _)) .nil))) (x:=.tmp 19) k_ k_ f2 6),
  .pj f125 22 7 4 a1 a2 (a1+a2) 3 1 8 i1 6 (.row i2 3 1) i3 rfl rfl (by rw[fZ];exact g2) (by rw[fZ];exact g1) e1 o2 d_ (by simp[maxLen];omega) o_ k_]) (λ_=>k_) f3 (by rw[fZ];exact g3)
def cv(p:HS K)(vs:List (V3 K))(j:Nat):List Nat:=(List.range j).filter λk=>decide (dot p.n (aL vs k)-p.d=0)
theorem aEr(p:HS K)(vs:List (V3 K))(j:Nat):cv p vs (j+1)=cv p vs j++(if dot p.n (aL vs j)-p.d=0 then[j]else[]):=by
 unfold cv;rw[HM,aEs]
 congr 1
 by_cases h:dot p.n (aL vs j)-p.d=0<;>simp[h]
theorem Wx{p:HS K}{vs:List (V3 K)}{j x:Nat}(h:x∈cv p vs j):x<j:=by unfold cv at h;rw[aEt,j5]at h;exact h.1
theorem IG(p:HS K)(vs:List (V3 K))(j:Nat):(cv p vs j).length<=j:=by have:=aEu (λk=>decide (dot p.n (aL vs k)-p.d=0)) (List.range j);rw[yB]at this;exact this
def oZ(ps:List (HS K))(vs:List (V3 K))(i:Nat)(p:HS K):List (Nat×List Nat):=
 if(ps.take i).any (λq=>decide (canon p=canon q))then[]
 else if(cv p vs vs.length).length<3 then[]
 else if(order p.n (aL vs) (cv p vs vs.length)).length>2 then[(i,order p.n (aL vs) (cv p vs vs.length))]else[]
def jW(ps:List (HS K))(vs:List (V3 K))(i:Nat):List (Nat×List Nat):=match ps[i]? with|some p=>oZ ps vs i p|none=>[]
def eX(ps:List (HS K))(vs:List (V3 K))(n:Nat):List (Nat×List Nat):=(List.range n).flatMap (jW ps vs)
theorem D0(ps:List (HS K))(vs:List (V3 K))(n:Nat):eX ps vs (n+1)=eX ps vs n++jW ps vs n:=by unfold eX;rw[HM,UL];simp
theorem aQQ(ps:List (HS K))(vs:List (V3 K))(i:Nat)(p:HS K):(oZ ps vs i p).length<=1:=by
 unfold oZ;split
 ·exact kU _
 ·split
  ·exact kU _
  ·split
   ·exact bh _
   ·exact kU _
theorem Qh(ps:List (HS K))(vs:List (V3 K)):∀ n,(eX ps vs n).length<=n
 |0=>bh _
 |n+1=>by
  rw[D0,iJ];have h1:=Qh ps vs n;have h2:(jW ps vs n).length<=1:=by
   unfold jW;split
   ·exact aQQ _ _ _ _
   ·exact kU _
  omega
def rh(f:Nat×List Nat):Int×List Int:=((f.1:Int),f.2.map λx:Nat=>(x:Int))
section
variable{Bs:aa}{ps:List (HS K)}{vs:List (V3 K)}
def LD(nv j L:Nat):aV:=[(26,vI j),(24,sl 1 nv),(25,vI nv),(7,bX 3),(8,sl 4 L)]
def Ae(vs:List (V3 K))(p:HS K):aH:=[(1,.view (aR vs)),(3,.aI (cF p).cs 35)]
def jX(l:List Nat):List Obj:=[.row (ai l) 3 1]
theorem aQR{p:HS K}{m:Nat}:∀ x∈Ae vs p,fP m x.2:=λx hx=>by
 simp only[Ae,cy,jh,ji]at hx;rcases hx with rfl|rfl
 ·exact λv hv=>iK (bf.1 (dW vs) v hv)
 ·exact λv hv=>iK (iD.flat _ v hv)
theorem Wy{m:Nat}{l:List Nat}:∀ x∈jX l,fP m x:=λx hx=>by simp only[jX,cy,jh,ji]at hx;subst hx;exact λv hv=>iK (kv _ v hv)
theorem aQS{j m q:Nat}{p:HS K}{l:List Nat}(hj:j<vs.length)(hp:bo m p)(fV:p.n≠0)(aN:∀ v∈vs,aF q v)(hm:100*(m+q)+1000<=aC)(h63:l.length<900000)(rf:vs.length<1000000):
  ∃ σ ij,(∀ l0:List Nat,CL (Ae vs p++dP [none] (jX l0)) 4 σ (LD vs.length (j+1) (l++if dot p.n (aL vs j)-p.d=0 then[j]else[]).length) (Ae vs p) (jX (l++if dot p.n (aL vs j)-p.d=0 then[j]else[]))=true)/\
   ah prog Bs 59 (aE (af f75 2)) (LD vs.length j l.length) (Ae vs p++marks 4 (jX l)) 5 ⟨.normal,gR 4 σ (LD vs.length (j+1) (l++if dot p.n (aL vs j)-p.d=0 then[j]else[]).length),Ae vs p++dP σ (jX (l++if dot p.n (aL vs j)-p.d=0 then[j]else[])),ij⟩:=by
 have hv:=ky hj;have hs:=FK hp (aN _ (cQ hv)) o_ fV;by_cases h:dot p.n (aL vs j)-p.d=0
 ·rw[aw h];have e:(Value.bool (OF.az (dot p.n (aL vs j)-p.d)==0))=.bool true:=by rw[OF.NP.1 h];rfl
  have hr:ai l++[vI j]=ai (l++[j]):=by simp[ai]
  have Ad:(ai l).length=l.length*1:=by rw[lM,fZ]
  have h1:=IF l;rw[show(l++[j]).length=l.length+1 by simp];unfold jX;refine⟨[some 7],8,λl0=>k_,?_⟩;generalize OF.az (dot p.n (aL vs j)-p.d)=z at *;generalize aL vs j=v at *;generalize ai l=c0 at *;generalize ai (l++[j])=c1 at *;exact aA [.lt 27 j vs.length true (aB hj),.c9 f75 29 1 vs.length j 30 hj k_,.ld f75 30 33 1 (j*30) (.view (aR vs)) (bP v) rfl (mP hv) k_,hs.at 33,.rw 34 (.bool (z==0)) (.bool true) e,.bs f75 37 6 1 3 1 [0] (vI 0) [vI j] #[vI j] (.row [vI j] 3 1) rfl (λv hv=>by simp at hv;subst hv;rfl) (λv hv=>by simp at hv;subst hv;rfl) k_ rfl d_ d_ k_,.pj f75 38 7 4 l.length 1 (l.length+1) 3 1 8 c0 6 (.row [vI j] 3 1) c1 rfl rfl rfl Ad hr (λv hv=>by simp[Obj.cells]at hv;subst hv;rfl) d_ (by simp[maxLen];omega) o_ k_,.sum 39 j 1 (j+1) rfl o_]
 ·rw[ao h,iY];have e:(Value.bool (OF.az (dot p.n (aL vs j)-p.d)==0))=.bool false:=by
   congr 1
   have:OF.az (dot p.n (aL vs j)-p.d)≠0:=λe=>h (OF.NP.2 e);simpa using this
  refine⟨[some 4],6,λl0=>k_,?_⟩;generalize OF.az (dot p.n (aL vs j)-p.d)=z at *;generalize aL vs j=v at *;exact aA [.lt 27 j vs.length true (aB hj),.c9 f75 29 1 vs.length j 30 hj k_,.ld f75 30 33 1 (j*30) (.view (aR vs)) (bP v) rfl (mP hv) k_,hs.at 33,.rw 34 (.bool (z==0)) (.bool false) e,.sum 39 j 1 (j+1) rfl o_]
theorem Wz{m q:Nat}{p:HS K}(hp:bo m p)(fV:p.n≠0)(aN:∀ v∈vs,aF q v)(hm:100*(m+q)+1000<=aC)(h63:vs.length<900000):
  ah prog Bs 59 (.block 2 (af f75 2)) (gR 4 [none] (LD vs.length 0 0)) (Ae vs p++dP [none] (jX [])) 4 ⟨.normal,[(8,sl 4 (cv p vs vs.length).length),(7,bX 3)],Ae vs p++marks 4 (jX (cv p vs vs.length)),5⟩:=by
 have:=rS (P:=prog) (B:=Bs) (N:=59) (b:=aE (af f75 2)) (next:=4) (p:=1) (r:=⟨.exit 2,[(8,sl 4 (cv p vs vs.length).length),(7,bX 3)],Ae vs p++marks 4 (jX (cv p vs vs.length)),5⟩) vs.length
  (λj=>LD vs.length j (cv p vs j).length) (λ_=>Ae vs p) (λj=>jX (cv p vs j)) [none] (λ_ _=>rfl) (λj _=>⟨aQR,Wy⟩) k_ k_
  (λj hj=>by have hl:=IG p vs j;obtain⟨σ,ij,h1,h2⟩:=aQS (Bs:=Bs) (l:=cv p vs j) hj hp fV aN hm o_ o_;rw[aEr];exact⟨σ,ij,h1 _,h2⟩)
  (by generalize cv p vs vs.length=a;exact aA [.lt 27 vs.length vs.length false s_]) n_
 exact bO (id:=2) this
def fI(n nv i c:Nat):aV:=[(14,vI i),(12,sl 0 n),(13,vI n),(0,sl 0 n),(1,sl 1 nv),(5,sl 2 c)]
def fM(ps:List (HS K))(vs:List (V3 K))(cells:aj):aH:=[(0,.view (aQ ps)),(1,.view (aR vs)),(2,.row cells 63 2)]
def pG(ps:List (HS K))(i:Nat)(p:HS K):Bool:=(ps.take i).any λq=>decide (canon p=canon q)
noncomputable def fS{i m:Nat}{p:HS K}{t:Bool}(hi:i<ps.length)(ja:ps[i]?=some p)(bW:∀ p∈ps,bo m p/\p.n≠0)(hm:100*m+1000<=aC)(h63:ps.length<=500)(ht:pG ps i p=t)(more:bE prog Bs 59):bE prog Bs 59:=
 .lt 15 i ps.length true (aB hi)::.c9 f75 17 0 ps.length i 40 hi k_::.ld f75 18 35 0 (i*40) (.view (aQ ps)) (cB p) rfl (zw ja) k_::.upto f75 21 0 ps.length i 40 o_ k_::
  .step 23 (av f75 23) [.func (.func 70) #[] #[],sl 0 i,.func (.func 123) #[] #[bX 3]] [(0,some (.view (aQ ps))),(3,some (.aI (cF p).cs 35))] (.bool t) [] (by
   have hp:=bW p (cQ ja);have hc:=UR (g:=123) (caps:=(cF p).cs) (ps:=ps.take i) (b:=λq=>decide (canon p=canon q)) k_ (bf.2 (iD.flat _)) (by rw[jL];omega) λq hq=>
    aLQ hp.1 (bW q (Ia hq)).1 o_ o_ hp.2 (bW q (Ia hq)).2
   rw[show(ps.take i).any (λq=>decide (canon p=canon q))=t from ht]at hc;have hl:(ps.take i).length=i:=by rw[jL];omega
   have e:aQ (ps.take i)=((Obj.view (aQ ps)).cells.drop 0).take (i*40):=by show _=((aQ ps).drop 0).take (i*40);rw[l5];unfold aQ;rw[UN iD,<-Co]
   unfold fC at hc;rw[hl,e]at hc;exact dE hc (.r (x:=.view (aQ ps)) rfl (cZ ps) (λh=>by rw[h]) (.f (x:=.aI (cF p).cs 35) rfl (bf.2 (iD.flat _)) .nil)) (x:=.func 70) k_ k_ rfl)::more
theorem aQT{i c m:Nat}{p:HS K}{cells:aj}(hi:i<ps.length)(ja:ps[i]?=some p)(bW:∀ p∈ps,bo m p/\p.n≠0)(hm:100*m+1000<=aC)(h63:ps.length<=500)(ht:pG ps i p=true):
  ah prog Bs 59 (aE (af f75 0)) (fI ps.length vs.length i c) (fM ps vs cells) 3 ⟨.normal,fI ps.length vs.length (i+1) c,fM ps vs cells,4⟩:=
 aA (fS hi ja bW hm h63 ht [.sum 57 i 1 (i+1) rfl o_])
theorem aQU{i c m q:Nat}{p:HS K}{cells:aj}(hi:i<ps.length)(ja:ps[i]?=some p)(bW:∀ p∈ps,bo m p/\p.n≠0)(aN:∀ v∈vs,aF q v)(hm:100*(m+q)+1000<=aC)(h63:ps.length<=500)(iq:vs.length<900000)(ht:pG ps i p=false)(ho:(cv p vs vs.length).length<3):
  ah prog Bs 59 (aE (af f75 0)) (fI ps.length vs.length i c) (fM ps vs cells) 3 ⟨.normal,fI ps.length vs.length (i+1) c,fM ps vs cells,5⟩:=by
 have hp:=bW p (cQ ja);have lo:=Wz (Bs:=Bs) hp.1 hp.2 aN hm iq;generalize cv p vs vs.length=on at *;exact aA (fS hi ja bW o_ h63 ht [.code 2 _ _ _ _ _ lo,.lt 42 on.length 3 true (aB ho),.sum 57 i 1 (i+1) rfl o_])
noncomputable def fL{m q:Nat}{p:HS K}{on l:List Nat}(hl:order p.n (aL vs) on=l)(hp:bo m p)(aN:∀ v∈vs,aF q v)(hm:100*(m+q)+1000<=aC)(gL:∀ x∈on,x<vs.length)(h3:0<on.length)(h63:on.length<900000):aX prog Bs 59:=
 .step 47 (av f75 47) [.func (.func 125) #[] #[],sl 1 vs.length,sl 4 on.length,bP p.n] [(5,none),(1,some (.view (aR vs))),(4,some (.row (ai on) 3 1))] (sl 5 l.length) [(5,.row (ai l) 3 1)]
  (qL (hl▸Ww h3 gL aN hp.1 hm h63) (.w (x:=.view (aR vs)) rfl (dW vs) xB (.w (x:=.row (ai on) 3 1) rfl (gV on) (λh=>Qd h) (.p k_ .nil))) (x:=.func 125) k_ k_ (gV l) 5)
theorem aQV{i c m q:Nat}{p:HS K}{cells:aj}(hi:i<ps.length)(ja:ps[i]?=some p)(bW:∀ p∈ps,bo m p/\p.n≠0)(aN:∀ v∈vs,aF q v)(hm:100*(m+q)+1000<=aC)(h63:ps.length<=500)(iq:vs.length<900000)(ht:pG ps i p=false)(ho:¬(cv p vs vs.length).length<3)
  (hl:¬(order p.n (aL vs) (cv p vs vs.length)).length>2):ah prog Bs 59 (aE (af f75 0)) (fI ps.length vs.length i c) (fM ps vs cells) 3 ⟨.normal,fI ps.length vs.length (i+1) c,fM ps vs cells,6⟩:=by
 have hp:=bW p (cQ ja);have lo:=Wz (Bs:=Bs) hp.1 hp.2 aN hm iq;have gL:∀ x∈cv p vs vs.length,x<vs.length:=λx hx=>Wx hx;have hol:=IG p vs vs.length;obtain⟨l,cg⟩:∃ l,order p.n (aL vs) (cv p vs vs.length)=l:=⟨_,rfl⟩;rw[cg]at hl;generalize cv p vs vs.length=on at *;exact aA (fS hi ja bW o_ h63 ht [.code 2 _ _ _ _ _ lo,.lt 42 on.length 3 false (aJ ho),fL cg hp.1 aN hm gL o_ o_,.gt 50 l.length 2 false (aJ o_),.sum 57 i 1 (i+1) rfl o_])
theorem aEv{it:TypeInfo}{z:Value}(h1:prog.info? 63=some it)(h2:it.zero=some z):∀ v∈z.cells.toList,flat v=true:=by have e:(prog.info? 63).bind (·.zero)=some (.agg #[vI 0,.slice none 0 0]):=k_;rw[h1]at e;have e:it.zero=some (.agg #[vI 0,.slice none 0 0]):=e;rw[h2]at e;injection e with e;subst e;intro v hv;have hv:v∈[vI 0,.slice none 0 0]:=hv;simp at hv;rcases hv with rfl|rfl<;>rfl
theorem aQW{i c m q:Nat}{p:HS K}{cells:aj}(hi:i<ps.length)(ja:ps[i]?=some p)(bW:∀ p∈ps,bo m p/\p.n≠0)(aN:∀ v∈vs,aF q v)(hm:100*(m+q)+1000<=aC)(h63:ps.length<=500)(iq:vs.length<900000)(ht:pG ps i p=false)(ho:¬(cv p vs vs.length).length<3)
  (hl:(order p.n (aL vs) (cv p vs vs.length)).length>2) (hc:cells.length=c*2) (LF:c<=500) (Ei:∀ v∈cells,v.oneCell'=true) :
  ah prog Bs 59 (aE (af f75 0)) (fI ps.length vs.length i c) (fM ps vs cells) 3
   ⟨.normal,[(14,vI (i+1)),(12,sl 0 ps.length),(13,vI ps.length),(0,sl 0 ps.length),(1,sl 1 vs.length),(5,sl 7 (c+1))],[(0,.view (aQ ps)),(1,.view (aR vs)),(5,.row (ai (order p.n (aL vs) (cv p vs vs.length))) 3 1),(7,.row (cells++[vI i,sl 5 (ai (order p.n (aL vs) (cv p vs vs.length))).length]) 63 2)],8⟩:=by
 have hp:=bW p (cQ ja);have lo:=Wz (Bs:=Bs) hp.1 hp.2 aN hm iq;have gL:∀ x∈cv p vs vs.length,x<vs.length:=λx hx=>Wx hx;have hol:=IG p vs vs.length;obtain⟨l,cg⟩:∃ l,order p.n (aL vs) (cv p vs vs.length)=l:=⟨_,rfl⟩;rw[cg]at hl ⊢;rw[lM];generalize cv p vs vs.length=on at *;generalize mz:cells++[vI i,sl 5 l.length]=cells' at *;exact aA (fS hi ja bW o_ h63 ht [.code 2 _ _ _ _ _ lo,.lt 42 on.length 3 false (aJ ho),fL cg hp.1 aN hm gL o_ o_,.gt 50 l.length 2 true (aB hl),.step 54 (av f75 54) [vI i,sl 5 l.length] [] (.agg #[vI i,sl 5 l.length]) [] (Pp (t:=63) (idx:=[0,1]) k_ (λit z h1 h2=>aEv h1 h2) k_),.bsM f75 55 6 1 63 2 [0] (.agg #[vI 0,.slice none 0 0]) [.agg #[vI i,sl 5 l.length]] #[vI i,sl 5 l.length] (.row [vI i,sl 5 l.length] 63 2) rfl (λv hv=>by
   have hv:v∈[vI 0,.slice none 0 0]:=hv;simp at hv;rcases hv with rfl|rfl<;>rfl) d_ k_ rfl d_ d_ k_,.pj f75 56 7 2 c 1 (c+1) 63 2 32 cells 6 (.row [vI i,sl 5 l.length] 63 2) cells' rfl rfl rfl hc mz (λv hv=>by
   simp[Obj.cells]at hv;rcases hv with rfl|rfl<;>rfl) d_ (by simp[maxLen];omega) o_ k_,.sum 57 i 1 (i+1) rfl o_])
end
end
theorem ku.one{w:World}{fs:List (Int×List Int)}{cs:aj}(h:ku w fs cs):∀ v∈cs,v.oneCell'=true:=by
 induction h with
 |nil=>intro v hv;cases hv
 |cons h1 _ _ ih=>
  intro v hv;rcases cy.1 hv with rfl|hv
  ·rfl
  rcases cy.1 hv with rfl|hv
  ·rcases h1 with ⟨e,_⟩|⟨_,_,_,e,_⟩<;>rw[e]<;>rfl
  ·exact ih v hv
structure Af(B:aa)(fs:List (Int×List Int))(ks:List (Value×aj))(cs:aj):Prop where
 flat:∀ v∈cs,Go.Proofs.YtjjefbkbljlgdaaGreatDoor.flat v=true
 cells:∀ w,(∀ p∈ks,cK w p.1 p.2.length p.2)->ku w fs cs
 slice:∀ v∈cs,∀ b,iF v=some b->¬B.cO b
theorem Af.nil{B:aa}:Af B [] [] []:=⟨λv h=>(by cases h),λw _=>.nil,λv h=>(by cases h)⟩
theorem Af.snoc{B:aa}{fs:List (Int×List Int)}{ks:List (Value×aj)}{cells:aj}(h:Af B fs ks cells){i:Nat}{l:List Nat}{u:Value}(hu:Go.Proofs.YtjjefbkbljlgdaaGreatDoor.flat u=true)(hb:∀ b,iF u=some b->¬B.cO b):
  Af B (fs++[rh (i,l)]) ((u,ai l)::ks) (cells++[vI i,u]):=by
 refine⟨λv hv=>?_,λw hw=>?_,λv hv b sL=>?_⟩
 ·rcases dY.1 hv with hv|hv
  ·exact h.flat v hv
  ·simp at hv;rcases hv with rfl|rfl
   ·rfl
   ·exact hu
 ·have h1:=h.cells w λp hp=>hw p (bB _ hp);have h2:=hw (u,ai l) (aT ..);have h2:cK w u (ai l).length (ai l):=h2;rw[aM0]at h2;have e:(eB (l.map λx:Nat=>(x:Int))).length=(l.map λx:Nat=>(x:Int)).length:=by simp[eB]
  rw[e]at h2;exact h1.snoc (i:=(i:Int)) h2 hu
 ·rcases dY.1 hv with hv|hv
  ·exact h.slice v hv b sL
  ·simp at hv;rcases hv with rfl|rfl
   ·cases sL
   ·exact hb b sL
theorem Af.out{B:aa}{fs:List (Int×List Int)}{ks:List (Value×aj)}{cells:aj}(h:Af B fs ks cells){ι:Map}{c:Nat->Option Obj}{w:World}{k:Nat}{ty:TypeId}{v:Value}(hm:aM (B.gB ks) ι c w)(hk:c k=some (.row cells ty 2))(hc:aG ι (.slice (some ⟨k,0,some 7⟩) fs.length 0) v):
  De w v (fo fs)/\∀ b,(fo fs).cO v w b->¬B.cO b:=by
 have hf:=h.cells w hm.base.2;have hl:=hf.length;have hr:=oH (len:=fs.length*2) hm hk rfl h.flat (λe=>by rw[e]) hc;have hr:cK w v fs.length cells:=by
  have e:((Obj.row cells ty 2).cells.drop 0).take (fs.length*2)=cells:=by rw[l5];exact kj (u9 hl)
  rwa[e]at hr
 have j7:K7 w v fs:=⟨cells,hr,hf⟩;have own:∀ b,iF v=some b->¬B.cO b:=by
  intro b hb hF;rcases hc.gW rfl with ⟨_,_,_,_,q5⟩|⟨b',oo,cap,c',q1,_,_,q5⟩
  ·rw[q5]at hb;cases hb
  ·rw[q5]at hb;injection hb with hb;subst hb;exact(hm.own k _ b' oo cap hk rfl q1).2 (.inl hF)
 refine⟨⟨j7,?_,?_⟩,λb hF=>?_⟩
 ·rcases hr with ⟨e,_⟩|⟨_,_,_,e,_⟩<;>rw[e]<;>rfl
 ·rcases hr with ⟨e,_⟩|⟨_,_,_,e,_⟩<;>rw[e]<;>rfl
 ·rcases hF with hF|⟨b',o,c',j,u,e,hj,lV,hb⟩
  ·exact own b hF
  ·have hu:=Pr hr hf e hj lV;exact h.slice u hu b hb
section
variable{ps:List (HS K)}{vs:List (V3 K)}
noncomputable def fC0:Code:=qV (eK f75)
noncomputable def fC1:Code:=qV (mS (eK f75))
noncomputable def fC2:Code:=qV (qV (mS (mS (eK f75))))
noncomputable def fC3:Code:=qV (mS (mS (mS (eK f75))))
theorem aQX:(f75).body=some (.seq fC0 (.seq fC1 (.seq (.seq fC2 (.block 0 (.loop (aE (af f75 0))))) (.seq fC3 .ret)))):=k_
theorem WA{cells:aj}(cN:∀ v∈cells,flat v=true)(r:List (Nat×Nat)):∀ p∈fM ps vs cells,FT r p.2:=λp hp=>by
 simp only[fM,cy,jh,ji]at hp;rcases hp with rfl|rfl|rfl
 ·exact λv hv=>bf.1 (cZ ps) v hv
 ·exact λv hv=>bf.1 (dW vs) v hv
 ·exact cN
def Qi(B:aa)(ps:List (HS K))(vs:List (V3 K))(i:Nat)(a:Act)(w:World):Prop:=
 ∃ ks cells,Af B ((eX ps vs i).map rh) ks cells/\St (B.gB ks) 59 (fI ps.length vs.length i (eX ps vs i).length) (fM ps vs cells) 3 a w
theorem aEw{B:aa}{ks:List (Value×aj)}{cells:aj}{fs:List (Nat×List Nat)}{N next:Nat}{fr:aV}{M:aH}{a:Act}{w:World}(h:Af B (fs.map rh) ks cells)(hs:St (B.gB ks) N fr M next a w):cells.length=fs.length*2/\∀ v∈cells,v.oneCell'=true:=by obtain⟨ι,cc,_,h2,_,_⟩:=hs;have:=h.cells w h2.base.2;exact⟨by rw[this.length,ek],this.one⟩
theorem aQY{B:aa}{m q i:Nat}(po:∀ k,B.mp k=none)(hi:i<ps.length)(bW:∀ p∈ps,bo m p/\p.n≠0)(aN:∀ v∈vs,aF q v)(hm:100*(m+q)+1000<=aC)(h63:ps.length<=500)(iq:vs.length<900000){a:Act}{w:World}(h:Qi B ps vs i a w)
  (K:Act->World->Prop) (Q:Exit->Act->World->Prop) (hK:∀ a' w',Qi B ps vs (i+1) a' w'->K a' w'):(aE (af f75 0)).wpIn (FW none) 0 prog (Exit.then K Q) a w:=by
 obtain⟨ks,cells,hF,hS⟩:=h;have ja:ps[i]?=some ps[i]:=bd hi;have mB:jW ps vs i=oZ ps vs i ps[i]:=by unfold jW;rw[ja]
 obtain⟨iH,Ei⟩:=aEw hF hS;have LF:(eX ps vs i).length<=500:=by have:=Qh ps vs i;omega
 have stay:jW ps vs i=[]->∀ next a' w',St (B.gB ks) 59 (fI ps.length vs.length (i+1) (eX ps vs i).length) (fM ps vs cells) next a' w'->K a' w':=by
  intro he next a' w' h';have e:eX ps vs (i+1)=eX ps vs i:=by rw[D0,he,iY]
  refine hK a' w' ⟨ks,cells,by rw[e];exact hF,?_⟩;rw[e];exact h'.Ij po [(0,0),(1,1),(2,2)] k_ rfl (WA hF.flat _) k_ k_ k_ k_ k_
 by_cases tR:pG ps i ps[i]=true
 ·have he:jW ps vs i=[]:=by rw[mB];unfold oZ;rw[aw (show(ps.take i).any (λq=>decide (canon ps[i]=canon q))=true from tR)]
  exact lh (aQT hi ja bW o_ h63 tR) hS λa' w' h'=>stay he _ a' w' h'
 ·have IH:pG ps i ps[i]=false:=by simpa using tR
  by_cases ho:(cv ps[i] vs vs.length).length<3
  ·have he:jW ps vs i=[]:=by rw[mB];unfold oZ;rw[ao (show ¬(ps.take i).any (λq=>decide (canon ps[i]=canon q))=true from tR),aw ho]
   exact lh (aQU hi ja bW aN hm h63 iq IH ho) hS λa' w' h'=>stay he _ a' w' h'
  ·by_cases hl:(order ps[i].n (aL vs) (cv ps[i] vs vs.length)).length>2
   ·have he:jW ps vs i=[(i,order ps[i].n (aL vs) (cv ps[i] vs vs.length))]:=by rw[mB];unfold oZ;rw[ao (show ¬(ps.take i).any (λq=>decide (canon ps[i]=canon q))=true from tR),ao ho,aw hl]
    refine lh (aQW hi ja bW aN hm h63 iq IH ho hl iH LF Ei) hS λa' w' h'=>?_;show K a' w';obtain⟨u,hu,uI,h2⟩:=h'.Py (m:=5) (k:=7) rfl (gV _) rfl d_;have e:eX ps vs (i+1)=eX ps vs i++[(i,order ps[i].n (aL vs) (cv ps[i] vs vs.length))]:=by rw[D0,he]
    have vH:=hF.snoc (i:=i) (l:=order ps[i].n (aL vs) (cv ps[i] vs vs.length)) hu uI;refine hK a' w' ⟨_,cells++[vI i,u],by rw[e,sW];exact vH,?_⟩;rw[e,iJ];have cN:=vH.flat;generalize cells++[vI i,u]=cells' at *;exact h2.Ij po [(0,0),(1,1),(2,7)] k_ rfl (WA cN _) k_ k_ k_ k_ k_
   ·have he:jW ps vs i=[]:=by rw[mB];unfold oZ;rw[ao (show ¬(ps.take i).any (λq=>decide (canon ps[i]=canon q))=true from tR),ao ho,ao hl]
    exact lh (aQV hi ja bW aN hm h63 iq IH ho hl) hS λa' w' h'=>stay he _ a' w' h'
theorem aQZ{m q:Nat}(bW:∀ p∈ps,bo m p/\p.n≠0)(aN:∀ v∈vs,aF q v)(hm:100*(m+q)+1000<=aC)(h63:ps.length<=500)(iq:vs.length<900000):
  aCL prog 75 [fC ps,uR vs] (fo ((eX ps vs ps.length).map rh)):=by
 intro w args ct;have ay:([fC ps,uR vs].all aP.ok)=true:=by simp only[dG,fB,Ws,aEd,vU]
 obtain⟨ι,c,h1,h2,h3,h4,h5,h6,h7⟩:=vK ct (bf.1 ay) 0 _ _ (qB w) n_ (λ_ _=>rfl);have po:∀ k,(aa.at w).mp k=none:=λ_=>rfl;refine Vb (N:=59) (B:=(aa.at w).gB []) func75 aQX k_ h6 (aCD h2) h4 h3 rfl λa bJ=>?_;have g0:∀ B:aa,ah prog B 59 fC0 (jA 0 (eL 0 [fC ps,uR vs])) (jt 0 [fC ps,uR vs]) 2 ⟨.normal,[(0,sl 0 ps.length),(1,sl 1 vs.length)],[(0,.view (aQ ps)),(1,.view (aR vs))],2⟩:=λB=>aA [];have g1:∀ B:aa,ah prog B 59 fC1 [(0,sl 0 ps.length),(1,sl 1 vs.length)] [(0,.view (aQ ps)),(1,.view (aR vs))] 2 ⟨.normal,[(5,.slice none 0 0),(0,sl 0 ps.length),(1,sl 1 vs.length)],[(0,.view (aQ ps)),(1,.view (aR vs))],2⟩:=λB=>aA []
 have g2:∀ B:aa,ah prog B 59 fC2 [(5,.slice none 0 0),(0,sl 0 ps.length),(1,sl 1 vs.length)] [(0,.view (aQ ps)),(1,.view (aR vs))] 2
   ⟨.normal,[(14,vI 0),(12,sl 0 ps.length),(13,vI ps.length),(0,sl 0 ps.length),(1,sl 1 vs.length),(5,.slice none 0 0)],[(0,.view (aQ ps)),(1,.view (aR vs))],2⟩:=λB=>aA []
 refine lA (lh (g0 _) bJ λa1 w1 s1=>?_);refine lA (lh (g1 _) s1 λa2 w2 s2=>?_);refine lA (lA (lh (g2 _) s2 λa3 w3 s3=>?_));refine Jw ?_;have i0:Qi (aa.at w) ps vs 0 a3 w3:=⟨[],[],.nil,(s3.nil 5 rfl 63 2).Ij po [(0,0),(1,1),(2,2)] k_ rfl (WA n_ _) k_ k_ k_ k_ k_⟩;refine Va ps.length (Qi (aa.at w) ps vs) i0 (λi hi a' w' h' K hK=>aQY po hi bW aN hm h63 iq h' K _ hK) λa' w' h'=>?_;obtain⟨ks,cells,hF,hS⟩:=h';refine lh (r:=⟨.exit 0,[(5,sl 2 (eX ps vs ps.length).length)],[(2,.row cells 63 2)],3⟩) (aA [.lt 15 ps.length ps.length false s_]) hS λa4 w4 s4=>?_;show Code.wpIn _ _ _ _ _ _ _;refine lA (lh (r:=⟨.normal,[(4,sl 2 (eX ps vs ps.length).length)],[(2,.row cells 63 2)],3⟩) (aA []) s4 λa5 w5 s5=>?_);refine Jx ?_;refine(Vc s5 rfl (v:=sl 2 (eX ps vs ps.length).length) k_ λau bY v' bj xW hc=>⟨v',rfl,?_,?_,bj.base.1⟩).1
 ·rw[show(eX ps vs ps.length).length=((eX ps vs ps.length).map rh).length by rw[ek]]at hc;exact(hF.out bj (xW 2 _ rfl) hc).1
 ·rw[show(eX ps vs ps.length).length=((eX ps vs ps.length).map rh).length by rw[ek]]at hc;intro b hb;have:=(hF.out bj (xW 2 _ rfl) hc).2 b hb;exact Ox this
end
section
open V3 (dot ax cL smul)
section
variable{Bs:aa}{g:FuncId}{ps:List RP}{b:RP->Bool}
def Ag(g:FuncId):Value:=.func (.func g) #[] #[]
def Ah(g:FuncId)(n i:Nat):aV:=[(8,vI i),(6,sl 0 n),(7,vI n),(0,sl 0 n),(1,Ag g)]
def tS(ps:List RP):aH:=[(0,.view (da ps))]
noncomputable def igS{i:Nat}{p:RP}{b:Bool}(hc:gk prog g=true)(hi:i<ps.length)(hp:ps[i]?=some p)(h:aD prog g [p.v] (.bool b))(more:bE prog Bs 19):bE prog Bs 19:=
 .lt 9 i ps.length true (aB hi)::.c9 f111 14 0 ps.length i 40 hi k_::.ld f111 15 35 0 (i*40) (.view (da ps)) p.v rfl (vT hp) k_::
  .step 16 (av f111 16) [Ag g,p.v] [] (.bool b) [] (dE (l:=[.p p.v]) (x:=.tmp 11) (λw vs ct=>by
   cases ct with
   |cons h1 h2=>
    cases h2;cases h1;exact h w) (.p rfl .nil) k_ hc rfl)::more
theorem aQ0{i:Nat}{p:RP}(hc:gk prog g=true)(hi:i<ps.length)(hp:ps[i]?=some p)(h:aD prog g [p.v] (.bool false))(h63:ps.length<9223372036854775807):
  ah prog Bs 19 (aE (af f111 0)) (Ah g ps.length i) (tS ps) 1 ⟨.normal,Ah g ps.length (i+1),tS ps,1⟩:=
 aA (igS hc hi hp h [.sum 18 i 1 (i+1) rfl o_])
theorem aQ1{i:Nat}{p:RP}(hc:gk prog g=true)(hi:i<ps.length)(hp:ps[i]?=some p)(h:aD prog g [p.v] (.bool true)):
  ah prog Bs 19 (aE (af f111 0)) (Ah g ps.length i) (tS ps) 1 ⟨.ret,[(4,vI i)],tS ps,1⟩:=
 aA (igS hc hi hp h [])
theorem aQ2:ah prog Bs 19 (aE (af f111 0)) (Ah g ps.length ps.length) (tS ps) 1 ⟨.exit 0,[],tS ps,1⟩:=
 aA [.lt 9 ps.length ps.length false s_]
theorem aEx(ps:List RP):(aP.r ps.length (da ps)).ok=true:=gU iD ps
theorem aEy(g:FuncId):(aP.p (Ag g)).ok=true:=rfl
theorem aQ3{ps:List RP}(h:ps.length=0):da ps=[]:=by rw[lq h];rfl
theorem aQ4(hc:gk prog g=true)(h63:ps.length<9223372036854775807)(h:∀ p∈ps,aD prog g [p.v] (.bool (b p))):cD prog 111 [.r ps.length (da ps),.p (Ag g)] (.int .i64 (xA b ps 0)):=by
 have ay:([aP.r ps.length (da ps),.p (Ag g)].all aP.ok)=true:=by simp only[dG,fB,aEx,aEy,vU]
 have tD:∀(B:aa) e,e<=ps.length->(∀ j y,j<e->ps[j]?=some y->b y=false)->∀ i,i<e->ah prog B 19 (aE (af f111 0)) (Ah g ps.length i) (tS ps) 1 ⟨.normal,Ah g ps.length (i+1),tS ps,1⟩:=λB e he hb i hi=>by
  have al:i<ps.length:=by omega
  have hp:ps[i]?=some ps[i]:=bd al;have hh:=h ps[i] (dS al);rw[hb i ps[i] hi hp]at hh;exact aQ0 hc al hp hh h63
 rcases FL b ps with hn|⟨e,x,h1,h2,h3⟩
 ·rw[O9 0 hn];have lo:∀ B:aa,ah prog B 19 (.block 0 (af f111 0)) (Ah g ps.length 0) (tS ps) 1 ⟨.normal,[],tS ps,1⟩:=λB=>
   bO (id:=0) (ch ps.length (λi=>Ah g ps.length i) (λ_=>tS ps) (λi k _=>Iff.rfl) (tD B ps.length (bh _) λj y _ hy=>hn y (cQ hy)) aQ2 n_)
  exact dV func111 ay 19 (λw=>[.code 0 _ _ _ _ _ (lo _)])
 ·have al:=(eE.1 h1).1;have hh:=h x (cQ h1);rw[h2]at hh;rw[Pa 0 h1 h2 h3,jZ];have lo:∀ B:aa,ah prog B 19 (.block 0 (af f111 0)) (Ah g ps.length 0) (tS ps) 1 ⟨.ret,[(4,vI e)],tS ps,1⟩:=λB=>
   bO (id:=0) (ch e (λi=>Ah g ps.length i) (λ_=>tS ps) (λi k _=>Iff.rfl) (tD B e o_ h3) (aQ1 hc al h1 hh) n_)
  exact dV func111 ay 19 (λw=>[.code 0 _ _ _ _ _ (lo _)])
theorem aQ5(hc:gk prog g=true)(h63:ps.length<9223372036854775807)(h:∀ p∈ps,aD prog g [p.v] (.bool (b p))):cD prog 70 [.r ps.length (da ps),.p (Ag g)] (.bool (ps.any b)):=by
 have ay:([aP.r ps.length (da ps),.p (Ag g)].all aP.ok)=true:=by simp only[dG,fB,aEx,aEy,vU]
 rw[<-aB9];exact dV func70 ay 9 (λw=>[.step 7 (av f70 7) [.func (.func 111) #[] #[],sl 0 ps.length,Ag g] [(0,some (.view (da ps)))] (.int .i64 (xA b ps 0)) []
  (dE (aQ4 hc h63 h) (.w (x:=.view (da ps)) rfl (gU iD ps) aQ3 (.p rfl .nil)) (x:=.func 111) k_ k_ rfl)])
end
theorem aQ6{r:RP}{b:Bool}(h:aD prog 39 [r.v] (.bool b)):aD prog 71 [r.v] (.bool (!b)):=aK func71 (λ_=>[h.at 4])
section
variable{F:Type}[OF F]
open OF
def LG(s:eO F)(a b:F):eO F:=
 if OF.az a=0 then s
 else if OF.az a>0 then(match s.hi with|some h=>if OF.az (b*a⁻¹-h)<0 then⟨s.lo,some (b*a⁻¹)⟩else s|none=>⟨s.lo,some (b*a⁻¹)⟩)
 else(match s.lo with|some l=>if OF.az (b*a⁻¹-l)>0 then⟨some (b*a⁻¹),s.hi⟩else s|none=>⟨some (b*a⁻¹),s.hi⟩)
def Qj(s:eO F):Bool:=match s.lo,s.hi with
 |some l,some h=>decide (OF.az (l-h)<0)
 |_,_=>true
def Qk(s:eO F)(a b:F):Bool:=if OF.az a=0 then decide (OF.az b>=0)else Qj (LG s a b)
theorem aEz{x:F}:OF.az x>0↔OF.az x=1:=by rcases OF.iN x with h|h|h<;>rw[h]<;>decide
theorem aEA{x:F}:OF.az x<0↔OF.az x=-1:=by rcases OF.iN x with h|h|h<;>rw[h]<;>decide
theorem aQ7{x:F}:OF.az x>=0↔OF.az x≠-1:=by rcases OF.iN x with h|h|h<;>rw[h]<;>decide
theorem Ql{x y:F}:OF.az (x-y)<0↔x<y:=by rw[aEA,OF.Fc,OF.lt_def];omega
theorem aEB{x y:F}:OF.az (x-y)>0↔y<x:=by rw[aEz,OF.lt_def]
theorem Qm{x:F}:OF.az x>0↔0<x:=by rw[aEz,OF.iA]
theorem Qn{x:F}:OF.az x>=0↔0<=x:=by rw[aQ7,OF.Kl]
theorem aQ8(s:eO F)(a b:F):BB s a b=if Qk s a b then some (LG s a b)else none:=by
 unfold BB Qk LG;by_cases ha:OF.az a=0
 ·rw[aw ha,aw ha,aw ha];by_cases hb:0<=b
  ·rw[aw hb,aB (Qn.2 hb)];rfl
  ·rw[ao hb,aJ (λh=>hb (Qn.1 h))];rfl
 ·rw[ao ha,ao ha,ao ha];obtain⟨lo,hi⟩:=s;dsimp only;generalize b*a⁻¹=t;have fin:∀ s':eO F,(match s'.lo,s'.hi with|some l,some h=>if l<h then some s' else none|_,_=>some s')=if Qj s'=true then some s' else none:=by
   rintro⟨l,h⟩
   unfold Qj;cases l with
   |none=>rfl
   |some l=>
    cases h with
    |none=>rfl
    |some h=>
     dsimp only;by_cases al:l<h
     ·exact(aw al).trans (aw (aB (Ql.2 al))).symm
     ·exact(ao al).trans (ao (λh=>al (Ql.1 (kH h)))).symm
  by_cases hp:0<a
  ·rw[aw hp,aw (Qm.2 hp)];cases hi with
   |none=>exact fin ⟨lo,some t⟩
   |some h=>
    dsimp only;by_cases al:t<h
    ·simp only[aw al,aw (Ql.2 al)];exact fin ⟨lo,some t⟩
    ·simp only[ao al,ao (λe=>al (Ql.1 e))];exact fin ⟨lo,some h⟩
  ·rw[ao hp,ao (λe=>hp (Qm.1 e))];cases lo with
   |none=>exact fin ⟨some t,hi⟩
   |some l=>
    dsimp only;by_cases al:l<t
    ·simp only[aw al,aw (aEB.2 al)];exact fin ⟨some t,hi⟩
    ·simp only[ao al,ao (λe=>al (aEB.1 e))];exact fin ⟨some l,hi⟩
end
theorem aQ9(s:eO K)(a b:K):BB s a b=if sn s a b then some (qQ s a b)else none:=by
 have h1:∀ s:eO K,aCd s=Qj s:=λs=>by obtain⟨lo,hi⟩:=s;cases lo<;>cases hi<;>rfl
 have h2:qQ s a b=LG s a b:=by unfold qQ LG;obtain⟨lo,hi⟩:=s;cases lo<;>cases hi<;>rfl
 have h3:sn s a b=Qk s a b:=by unfold sn Qk;rw[h2,h1]
 rw[h2,h3];exact aQ8 s a b
theorem aEC(b d:V3 K):∀(l:List (HS K)) (s:eO K),FG s (l.map λp=>(dot p.n d,p.d-dot p.n b))=if vX s b d l then some (ox s b d l)else none
 |[],s=>rfl
 |p::l,s=>by
  show(BB s (dot p.n d) (p.d-dot p.n b)).bind _=_;rw[aQ9];unfold vX ox;by_cases h:sn s (dot p.n d) (p.d-dot p.n b)=true
  ·rw[aw h,h,lD];exact aEC b d l _
  ·rw[ao h];have:sn s (dot p.n d) (p.d-dot p.n b)=false:=by simpa using h
   rw[this,yJ];rfl
theorem aED(p q:HS K):vW p q=mh p q:=by unfold vW mh dX;rw[show kI 1*(dot (ax p.n q.n) (ax p.n q.n))⁻¹=(dot (ax p.n q.n) (ax p.n q.n))⁻¹ from CR.one_mul _]
theorem aEE(p q:HS K):dX p q≠0->dot (dX p q) (dX p q)≠0:=λh=>V3.Bu h
theorem aRa(ps:List (HS K))(p q:HS K):FN ps p q=zr ps p q:=by
 unfold FN zr;have hd:dX p q=ax p.n q.n:=rfl;rw[aED];dsimp only;by_cases h0:dX p q=0
 ·rw[aw h0,aw ((OQ (ax p.n q.n)).2 h0)]
 ·rw[ao h0,ao (λh=>h0 ((OQ (ax p.n q.n)).1 h))];rw[aEC];unfold K0;rw[aED,hd];by_cases hs:vX ⟨none,none⟩ (mh p q) (ax p.n q.n) ps=true
  ·rw[aw hs,aw hs];generalize ox ⟨none,none⟩ (mh p q) (ax p.n q.n) ps=s;obtain⟨lo,hi⟩:=s;cases lo<;>cases hi<;>rfl
  ·rw[ao hs,ao hs]
theorem WB{ps:List (HS K)}{p q:HS K}{v:V3 K}:v∈qS ps p q↔∃ u w,zr ps p q=some (u,w)/\(v=u\/v=w):=by
 unfold qS;rw[aRa];cases h:zr ps p q with
 |none=>simp
 |some uw=>
  obtain⟨u,w⟩:=uw;simp only[cy,jh,ji];exact⟨λhv=>⟨u,w,rfl,hv⟩,λ⟨u',w',e,hv⟩=>by injection e with e;injection e with e1 e2;subst e1;subst e2;exact hv⟩
theorem aRb{ps:List (HS K)}{v:V3 K}:v∈mR ps ps.length↔∃(i j:Nat) (p q:HS K),j<i/\ps[i]?=some p/\ps[j]?=some q/\v∈qS ps p q:=by
 unfold mR;rw[BF];constructor
 ·rintro⟨i,hi,hv⟩
  have al:=j5.1 hi;have hp:ps[i]?=some ps[i]:=bd al;rw[Pl hp]at hv;unfold lg at hv;obtain⟨q,hq,hv⟩:=BF.1 hv;obtain⟨j,hj,rfl⟩:=kN hq;rw[jL]at hj;refine⟨i,j,_,_,by omega,hp,?_,hv⟩;rw[WC];exact bd o_
 ·rintro⟨i,j,p,q,pc,hp,hq,hv⟩
  have al:=(eE.1 hp).1;refine⟨i,j5.2 al,?_⟩;rw[Pl hp];refine BF.2 ⟨q,?_,hv⟩;exact cQ (i:=j) (by rw[ue,aw pc];exact hq)
theorem aRc{ps:List (HS K)}(hc:Cl ps)(hp:gp ps)(hf:∀ v:V3 K,∃ x,gH ps x/\x≠v)(v:V3 K):v∈mR ps ps.length↔kL ps v:=by
 rw[aRb];constructor
 ·rintro⟨i,j,p,q,_,h1,h2,hv⟩
  obtain⟨u,w,he,hv⟩:=WB.1 hv;have:=aLk (cQ h1) (cQ h2) he;rcases hv with rfl|rfl
  ·exact this.1
  ·exact this.2
 ·intro hv;obtain⟨x,hx,aU⟩:=hf v;obtain⟨p,gZ,q,uC,hd,h1,h2⟩:=aLm hc hp hv hx aU;obtain⟨i,hi,rfl⟩:=kN gZ;obtain⟨j,hj,rfl⟩:=kN uC;rcases sO i j with h|h|h
  ·exact⟨j,i,_,_,h,bd hj,bd hi,WB.2 h2⟩
  ·subst h;exfalso;apply hd;exact V3.KE _
  ·exact⟨i,j,_,_,h,bd hi,bd hj,WB.2 h1⟩
def ri:Value:=.agg #[.slice none 0 0,.slice none 0 0,.slice none 0 0]
def iR(n:Int):Value:=.int .i64 n
def fD(ps:List (HS K)):List (Int×List Int):=(eX ps (bT ps) ps.length).map rh
structure pH(ps:List (HS K))(m:Nat):Prop where
 len:ps.length<=20
 sz:∀ p∈ps,bo m p
 ne:∀ p∈ps,p.n≠0
 bound:1000000000*(m+10)<=aC
theorem II(ps:List (HS K))(h:ps.length<=20):(bT ps).length<=800:=by
 have h1:(bT ps).length<=(mR ps ps.length).length:=by
  unfold bT;rw[<-aD6];have:∀ l:List (V3 K),(dd l).length<=l.length:=λl=>by have:=(P9 l l.length).2;unfold jb at this;rwa[nI]at this
  exact dh (this _) (u9 (LA _).length_eq)
 have h2:=Pm ps.length (bh _) (ps:=ps);have h3:ps.length*(2*ps.length)<=20*40:=yN h o_;omega
theorem LH{ps:List (HS K)}{m:Nat}(bW:∀ p∈ps,bo m p):∀ v∈bT ps,aF (10000*(m+10)) v:=λv hv=>by unfold bT at hv;rw[UG]at hv;exact aD7 bW aEE ps.length v hv
theorem BT{m n:Nat}(hm:1000000000*(m+10)<=aC)(hn:n<=800):100*(m+n*(10000*(m+10)+1))+10000<=aC/\10000000*(m+10)<=aC/\100*(m+10000*(m+10))+1000<=aC/\m<=aC/\100*m+1000<=aC:=by
 have h0:m<=1089:=by
  rcases eC m 1090 with h|h
  ·exact Nat.le_of_lt_succ h
  ·have h2:1000000000*(1090+10)<=1000000000*(m+10):=jr _ (LI h 10);exact absurd (dh h2 hm) d_
 clear hm;have q:10000*(m+10)+1<=10990001:=by omega
 obtain⟨x,hx⟩:∃ x,x=n*(10000*(m+10)+1):=⟨_,rfl⟩;have h1:x<=8792000800:=by rw[hx];exact yN hn q
 rw[<-hx];clear hx;have h2:100*(m+x)+10000<=100*(1089+8792000800)+10000:=LI (jr _ (Kw h0 h1)) _;have h6:m+10<=1099:=LI h0 10;have h3:10000000*(m+10)<=10000000*1099:=jr _ h6;have h4:100*(m+10000*(m+10))+1000<=100*(1089+10000*1099)+1000:=LI (jr _ (Kw h0 (jr _ h6))) _;have h5:100*m+1000<=100*1089+1000:=LI (jr _ h0) _;exact⟨dh h2 (rm rfl),dh h3 (rm rfl),dh h4 (rm rfl),dh h0 (rm rfl),dh h5 (rm rfl)⟩
theorem aEF{it:TypeInfo}{z:Value}(h1:prog.info? 26=some it)(h2:it.zero=some z):∀ v∈z.cells.toList,flat v=true:=by have e:(prog.info? 26).bind (·.zero)=some ri:=k_;rw[h1]at e;have e:it.zero=some ri:=e;rw[h2]at e;injection e with e;subst e;intro v hv;have hv:v∈[.slice none 0 0,.slice none 0 0,.slice none 0 0]:=hv;simp at hv;subst hv;rfl
section
variable{ps:List (HS K)}{m:Nat}
theorem aRd(h:pH ps m):cD prog 70 [fC ps,.p (Ag 71)] (.bool false):=by
 obtain⟨_,_,_,b4,_⟩:=BT (n:=0) h.bound o_;have hc:=aQ5 (g:=71) (ps:=ps.map cF) (b:=λ_=>false) k_ (by rw[ek];have:=h.len;omega) (λr hr=>by obtain⟨p,hp,rfl⟩:=di.1 hr;have hv:=zt (h.sz p hp) b4;rw[aB (h.ne p hp)]at hv;exact aQ6 hv)
 rw[ek,show(ps.map cF).any (λ_=>false)=false by simp]at hc;exact hc
theorem D1(ps:List (HS K)):([fC ps].all aP.ok)=true:=by simp only[dG,fB,Ws,vU]
noncomputable def WD{Bs:aa}{t:Bool}(h:pH ps m)(ht:qN ps=t)(more:bE prog Bs 33):bE prog Bs 33:=
 .step 7 (av f40 7) [.func (.func 70) #[] #[],sl 0 ps.length,Ag 71] [(0,some (.view (aQ ps)))] (.bool false) []
  (dE (aRd h) (.w (x:=.view (aQ ps)) rfl (cZ ps) iE (.p rfl .nil)) (x:=.func 70) k_ k_ rfl)::
 .gt 12 ps.length 100 false (aJ (by have:=h.len;omega))::
 .step 16 (av f40 16) [.func (.func 72) #[] #[],sl 0 ps.length] [(0,some (.view (aQ ps)))] (.bool t) []
  (dE (ht▸aL0 h.sz (BT (n:=0) h.bound o_).2.2.2.2 (by have:=h.len;omega)) (.w (x:=.view (aQ ps)) rfl (cZ ps) iE .nil) (x:=.func 72) k_ k_ rfl)::more
noncomputable def aEG{Bs:aa}{t:Bool}(h:pH ps m)(ht:qR ps (bT ps)=t)(more:bE prog Bs 33):bE prog Bs 33:=
 .step 20 (av f40 20) [.func (.func 73) #[] #[],sl 0 ps.length] [(2,none),(0,some (.view (aQ ps)))] (sl 2 (bT ps).length) [(2,.row (aR (bT ps)) 33 30)]
  (qL (aQw h.sz (BT (n:=0) h.bound o_).2.1 (by have:=h.len;omega) aEE) (.w (x:=.view (aQ ps)) rfl (cZ ps) iE .nil) (x:=.func 73) k_ k_ (dW _) 2)::
 .step 23 (av f40 23) [.func (.func 74) #[] #[],sl 0 ps.length,sl 2 (bT ps).length] [(0,some (.view (aQ ps))),(2,some (.row (aR (bT ps)) 33 30))] (.bool t) []
  (dE (ht▸aMl (λp hp=>⟨h.sz p hp,h.ne p hp⟩) (LH h.sz) (BT h.bound (II ps h.len)).1 (by have:=II ps h.len;omega) (by have:=h.len;omega))
   (.w (x:=.view (aQ ps)) rfl (cZ ps) iE (.w (x:=.row (aR (bT ps)) 33 30) rfl (dW _) xB .nil)) (x:=.func 74) k_ k_ rfl)::more
theorem aRe(h:pH ps m)(hc:qN ps=false):cD prog 40 [fC ps] (.tuple #[ri,iR 13]):=
 dV func40 (D1 ps) 33 (λ_=>WD h hc [])
theorem aEH(h:pH ps m)(hc:qN ps=true)(hi:qR ps (bT ps)=false):cD prog 40 [fC ps] (.tuple #[ri,iR 12]):=
 dV func40 (D1 ps) 33 (λ_=>WD h hc (aEG h hi []))
theorem aEI(hc:qN ps=true):0<ps.length:=by
 cases ps with
 |nil=>exact absurd hc d_
 |cons p l=>simp
theorem aEJ(h:pH ps m)(hc:qN ps=true)(hi:qR ps (bT ps)=true):
  tH prog 40 [fC ps] 35 40 ps.length (aQ ps) 33 30 (bT ps).length (aR (bT ps)) (fo (fD ps)) [iR 0]:=by
 have hf:=aQZ (ps:=ps) (vs:=bT ps) (λp hp=>⟨h.sz p hp,h.ne p hp⟩) (LH h.sz) (BT (n:=0) h.bound o_).2.2.1 (by have:=h.len;omega) (by have:=II ps h.len;omega);have iH:=aEb (aEI hc) (by have:=h.len;omega);refine PB (k1:=3) (k2:=2) (k3:=4) mixed func40 (D1 ps) 100 (N:=33) k_ (λw=>WD h hc (aEG h hi [
  .step 27 (av f40 27) [.func (.func 41) #[] #[],sl 0 ps.length] [(3,none),(0,some (.view (aQ ps)))] (sl 3 ps.length) [(3,.row (aQ ps) 35 40)]
   (qL iH (.w (x:=.view (aQ ps)) rfl (cZ ps) iE .nil) (x:=.func 41) k_ k_ (cZ ps) 3),
  .step 31 (av f40 31) [.func (.func 75) #[] #[],sl 0 ps.length,sl 2 (bT ps).length] [(4,none),(0,some (.view (aQ ps))),(2,some (.row (aR (bT ps)) 33 30))] (.pointer (some ⟨4,0,some 9⟩)) [(4,.fact ((fo (fD ps)).jJ w.heap.size))]
   (aM3 (B:=aa.at w) (S:=w.heap.size) hf (.w (x:=.view (aQ ps)) rfl (cZ ps) iE (.w (x:=.row (aR (bT ps)) 33 30) rfl (dW _) xB .nil)) (x:=.func 75) k_ k_ rfl (λw' hb=>Below.size hb) 4),
  .step 32 (av f40 32) [sl 3 ps.length,sl 2 (bT ps).length,.pointer (some ⟨4,0,some 9⟩)] [] (.agg #[sl 3 ps.length,sl 2 (bT ps).length,.pointer (some ⟨4,0,some 9⟩)]) [] (Pp (t:=26) (idx:=[0,1,2]) k_ (λit z h1 h2=>aEF h1 h2) k_)])) (λw=>?_) d_ (cZ ps) (Ac ps) (dW _) (su _) k_
 kernel_rfl
end
theorem LJ{P:Program}{f:FuncId}{fn:Func}{args:aj}{v:Value}{w:World}(gv:P.follows .mixedOrders=true)(hf:P.funcs[f]?=some fn)(n:Nat){N:Nat}(hN:N=args.length+(fn.ntmps-args.length))(rs:bE P (aa.at w) N)
  (h:nt (fQ (P:=P) fn n args [] 0 rs) []=nu (fQ fn n args [] 0 rs) v []) (de:args.all flat=true) (hv:flat v=true):Calls P f args.toArray w λe w'=>e=.returned v/\Below w.heap.size w w':=
 rJ gv hf hN n h (kg λv hv=>bf.1 de v hv) (qB w) n_ (λ_ _=>rfl) λau bY v' w' _ hc hm _=>⟨by rw[hc.eR hv],hm.base⟩
theorem Qo{P:Program}{f:FuncId}{fn:Func}{l:List aP}{vs:aj}{v:Value}{w:World}(gv:P.follows .mixedOrders=true)(hf:P.funcs[f]?=some fn)(ct:r7 w l vs)(hl:(l.all aP.ok)=true)(n:Nat){N:Nat}(hN:N=(eL 0 l).length+(fn.ntmps-(eL 0 l).length))(rs:bE P (aa.at w) N)
  (h:nt (fQ (P:=P) fn n (eL 0 l) (jt 0 l) (jG 0 l) rs) []=nu (fQ fn n (eL 0 l) (jt 0 l) (jG 0 l) rs) v []) (hv:flat v=true):Calls P f vs.toArray w λe w'=>e=.returned v/\Below w.heap.size w w':=by
 obtain⟨ι,c,h1,h2,h3,h4,h5,h6,h7⟩:=vK ct (bf.1 hl) 0 _ _ (qB w) n_ (λ_ _=>rfl);exact rJ gv hf hN n h h6 h2 h4 h3 λau bY v' w' hle hc hm _=>⟨by rw[hc.eR hv],hm.base⟩
theorem aRf{w:World}{u u':Value}{i j:Int}{l l':List Int}(hu:lP u=true)(jM:lP u'=true)(h:cK w u l.length (eB l))(h':cK w u' l'.length (eB l'))(h63:l.length<9223372036854775807):
  Calls prog 63 #[.agg #[iV i,u],.agg #[iV j,u']] w λe w'=>e=.returned (.bool (decide ((i,l)=(j,l'))))/\Below w.heap.size w w':=by
 have fl:∀{i:Int} {u:Value},lP u=true->flat (.agg #[iV i,u])=true:=λ{i u} hu=>by have h0:nQ u=true:=Mc hu;show([iV i,u].all nQ)=true;rw[dG,dG,h0];rfl
 have fu:∀{u:Value},lP u=true->flat u=true:=λhu=>Mb (Mc hu);have aU4:∀{u:Value} {n:Nat} {xs:aj},cK w u n xs->lQ u=false:=λh=>by rcases h with ⟨e,_⟩|⟨_,_,_,e,_⟩<;>rw[e]<;>rfl
 have de:([.agg #[iV i,u],.agg #[iV j,u']].all flat)=true:=by rw[dG,dG,fl hu,fl jM];rfl
 have he:=aMA (a:=l) (b:=l') h63;by_cases mw:i=j
 ·subst mw;have e0:(Value.bool (i==i))=.bool true:=by simp
  have e1:decide ((i,l)=(i,l'))=decide (l=l'):=by simp
  rw[e1];generalize decide (l=l')=t at *;rcases h with ⟨rfl,hn,hx⟩|⟨b,o,c,rfl,hr⟩<;>rcases h' with ⟨rfl,lY,rR⟩|⟨b',o',c',rfl,sU⟩
  ·exact LJ mixed func63 100 (N:=17) k_ [.rw 9 _ _ e0,.step 15 (av f63 15) [.func (.func 64) #[] #[],.slice none 0 0,.slice none 0 0] [] (.bool t) [] (dE he (.e rfl (λ_ _=>.inl ⟨rfl,hn,hx⟩) (.e rfl (λ_ _=>.inl ⟨rfl,lY,rR⟩) .nil)) (x:=.func 64) k_ k_ rfl)] k_ de rfl
  ·exact LJ mixed func63 100 (N:=17) k_ [.rw 9 _ _ e0,.step 15 (av f63 15) [.func (.func 64) #[] #[],.slice none 0 0,.slice (some ⟨b',o',none⟩) l'.length c'] [] (.bool t) []
    (dE he (.e rfl (λ_ _=>.inl ⟨rfl,hn,hx⟩) (.e rfl (λ_ hb=>cK.gB (.inr ⟨b',o',c',rfl,sU⟩) hb) .nil)) (x:=.func 64) k_ k_ rfl)] k_ de rfl
  ·exact LJ mixed func63 100 (N:=17) k_ [.rw 9 _ _ e0,.step 15 (av f63 15) [.func (.func 64) #[] #[],.slice (some ⟨b,o,none⟩) l.length c,.slice none 0 0] [] (.bool t) []
    (dE he (.e rfl (λ_ hb=>cK.gB (.inr ⟨b,o,c,rfl,hr⟩) hb) (.e rfl (λ_ _=>.inl ⟨rfl,lY,rR⟩) .nil)) (x:=.func 64) k_ k_ rfl)] k_ de rfl
  ·exact LJ mixed func63 100 (N:=17) k_ [.rw 9 _ _ e0,.step 15 (av f63 15) [.func (.func 64) #[] #[],.slice (some ⟨b,o,none⟩) l.length c,.slice (some ⟨b',o',none⟩) l'.length c'] [] (.bool t) []
    (dE he (.e rfl (λ_ hb=>cK.gB (.inr ⟨b,o,c,rfl,hr⟩) hb) (.e rfl (λ_ hb=>cK.gB (.inr ⟨b',o',c',rfl,sU⟩) hb) .nil)) (x:=.func 64) k_ k_ rfl)] k_ de rfl
 ·have e0:(Value.bool (i==j))=.bool false:=by simp[mw]
  have e1:decide ((i,l)=(j,l'))=false:=by simp[mw]
  rw[e1];rcases h with ⟨rfl,hn,hx⟩|⟨b,o,c,rfl,hr⟩<;>rcases h' with ⟨rfl,lY,rR⟩|⟨b',o',c',rfl,sU⟩<;>exact LJ mixed func63 100 (N:=17) k_ [.rw 9 _ _ e0] k_ de rfl
theorem D2{w:World}:∀{fs:List (Int×List Int)} {cs:aj},ku w fs cs->∀{i:Nat} {f:Int×List Int},fs[i]?=some f->∃ u,cs[i*2]?=some (iV f.1)/\cs[i*2+1]?=some u/\cK w u f.2.length (eB f.2)/\flat u=true
 |_,_,.nil,i,f,h=>by simp at h
 |_,_,.cons (u:=u) h1 h2 h3,0,f,h=>by simp at h;subst h;exact⟨u,rfl,rfl,h1,h2⟩
 |_,_,.cons h1 h2 h3,i+1,f,h=>by
  obtain⟨u,q1,q2,q3,q4⟩:=D2 h3 (i:=i) (by simpa using h);refine⟨u,?_,?_,q3,q4⟩
  ·rw[show(i+1)*2=i*2+2 by omega];exact q1
  ·rw[show(i+1)*2+1=i*2+1+2 by omega];exact q2
theorem aEK{w:World}{u:Value}{n:Nat}{xs:aj}(h:cK w u n xs):lP u=true:=by rcases h with ⟨e,_⟩|⟨_,_,_,e,_⟩<;>rw[e]<;>rfl
theorem aRg{cs:aj}{m:Nat}{a b:Value}(ha:cs[m]?=some a)(hb:cs[m+1]?=some b):(cs.drop m).take 2=[a,b]/\m+2<=cs.length:=by obtain⟨qx,ha⟩:=eE.1 ha;obtain⟨hl,hb⟩:=eE.1 hb;refine⟨?_,hl⟩;rw[O7 qx,ha,O7 hl,hb];rfl
theorem aEL{cs:aj}{i:Nat}{a b:Value}(ha:cs[i*2]?=some a)(hb:cs[i*2+1]?=some b):du prog 63 cs (i*2)=some (.agg #[a,b]):=by
 have e:du prog 63 cs (i*2)=if Nat.ble (i*2+2) cs.length then some (.agg ((cs.drop (i*2)).take 2).toArray)else none:=k_
 obtain⟨h1,h2⟩:=aRg ha hb;rw[e,aw (Mw h2),h1]
section
variable{w:World}{fs fs':List (Int×List Int)}{cs bt:aj}
def LK:Value:=.func (.func 63) #[] #[]
def D3(n n' i:Nat):aV:=[(17,vI i),(15,sl 0 n),(16,vI n),(1,sl 1 n'),(2,LK)]
def tT(cs bt:aj):aH:=[(0,.view cs),(1,.view bt)]
theorem aRh(h:ku w fs cs)(h':ku w fs' bt):∀ x∈tT cs bt,fP 2 x.2:=λx hx=>by
 simp only[tT,cy,jh,ji]at hx;rcases hx with rfl|rfl
 ·exact λv hv=>iK (h.flat v hv)
 ·exact λv hv=>iK (h'.flat v hv)
noncomputable def efS{i n n':Nat}{f f':Int×List Int}{u u':Value}{t:Bool}(hi:i<n)(hY:i<n')(hu:cK w u f.2.length (eB f.2))(jM:cK w u' f'.2.length (eB f'.2))(c1:cs[i*2]?=some (iV f.1))(c2:cs[i*2+1]?=some u)(Ba:bt[i*2]?=some (iV f'.1))(A9:bt[i*2+1]?=some u')(h63:f.2.length<9223372036854775807)
  (ht:decide (f=f')=t) (more:bE prog (aa.at w) 32):bE prog (aa.at w) 32:=
 .lt 18 i n true (aB hi)::.c9 f66 20 0 n i 2 hi k_::.ld f66 21 63 0 (i*2) (.view cs) (.agg #[iV f.1,u]) rfl (aEL c1 c2) k_::.c9 f66 24 1 n' i 2 hY k_::.ld f66 25 63 1 (i*2) (.view bt) (.agg #[iV f'.1,u']) rfl (aEL Ba A9) k_::
  .call 29 63 [.agg #[iV f.1,u],.agg #[iV f'.1,u']] (.bool t) (λw' hb=>ht▸aRf (aEK hu) (aEK jM) (hu.gB hb) (jM.gB hb) h63)::more
theorem aEM{i n n':Nat}{f f':Int×List Int}{u u':Value}(h:ku w fs cs)(h':ku w fs' bt)(hi:i<n)(hY:i<n')(hu:cK w u f.2.length (eB f.2))(jM:cK w u' f'.2.length (eB f'.2))(c1:cs[i*2]?=some (iV f.1))(c2:cs[i*2+1]?=some u)(Ba:bt[i*2]?=some (iV f'.1))(A9:bt[i*2+1]?=some u')
  (h63:f.2.length<9223372036854775807) (aRi:n<9223372036854775807) (ht:f=f'):ah prog (aa.at w) 32 (aE (af f66 0)) (D3 n n' i) (tT cs bt) 2 ⟨.normal,D3 n n' (i+1),tT cs bt,2⟩:=by
 have hl:=aRh h h';have wM:decide (f=f')=true:=aB ht;have k1:=hu;have k2:=jM;rcases k1 with ⟨rfl,_⟩|⟨b,o,c,rfl,_⟩<;>rcases k2 with ⟨rfl,_⟩|⟨b',o',c',rfl,_⟩<;>
  exact vn mixed 100 (ij:=4) (efS hi hY hu jM c1 c2 Ba A9 h63 wM [.sum 31 i 1 (i+1) rfl o_]) k_ rfl k_ hl k_
theorem aRj{i n n':Nat}{f f':Int×List Int}{u u':Value}(hi:i<n)(hY:i<n')(hu:cK w u f.2.length (eB f.2))(jM:cK w u' f'.2.length (eB f'.2))(c1:cs[i*2]?=some (iV f.1))(c2:cs[i*2+1]?=some u)(Ba:bt[i*2]?=some (iV f'.1))(A9:bt[i*2+1]?=some u')
  (h63:f.2.length<9223372036854775807) (ht:f≠f'):ah prog (aa.at w) 32 (aE (af f66 0)) (D3 n n' i) (tT cs bt) 2 ⟨.ret,[(6,.bool false)],tT cs bt,4⟩:=by
 have wM:decide (f=f')=false:=aJ ht;have k1:=hu;have k2:=jM;rcases k1 with ⟨rfl,_⟩|⟨b,o,c,rfl,_⟩<;>rcases k2 with ⟨rfl,_⟩|⟨b',o',c',rfl,_⟩<;>
  exact aA (efS hi hY hu jM c1 c2 Ba A9 h63 wM [])
theorem aRk{n n':Nat}{B:aa}:ah prog B 32 (aE (af f66 0)) (D3 n n' n) (tT cs bt) 2 ⟨.exit 0,[],tT cs bt,2⟩:=
 aA [.lt 18 n n false s_]
theorem aRl(h63:fs.length<9223372036854775807)(rf:∀ f∈fs,f.2.length<9223372036854775807):cD prog 66 [.o (fo fs),.o (fo fs'),.p LK] (.bool (decide (fs=fs'))):=by
 intro w vs ct;cases ct with
 |@cons _ v1 _ _ h1 ct=>
 cases ct with
 |@cons _ v2 _ _ h2 ct=>
 obtain⟨⟨cs,r1,f1⟩,_⟩:=h1;obtain⟨⟨bt,r2,f2⟩,_⟩:=h2;have BQ:r7 w [.r fs.length cs,.r fs'.length bt,.p LK] (v1::v2::_):=.cons r1 (.cons r2 ct);have ay:([aP.r fs.length cs,.r fs'.length bt,.p LK].all aP.ok)=true:=by rw[dG,dG,dG];rw[show(aP.r fs.length cs).ok=true from bf.2 f1.flat,show(aP.r fs'.length bt).ok=true from bf.2 f2.flat];rfl
 by_cases hl:fs.length=fs'.length
 ·have aU:(Value.bool (!((fs.length:Int)==(fs'.length:Int))))=.bool false:=by rw[hl];simp
  rcases Du fs fs' hl with h|⟨e,x,y,q1,q2,q3,q4⟩
  ·rw[aB h];subst h;have lo:ah prog (aa.at w) 32 (.block 0 (af f66 0)) (D3 fs.length fs.length 0) (tT cs bt) 2 ⟨.normal,[],tT cs bt,2⟩:=
    bO (id:=0) (ch fs.length (λi=>D3 fs.length fs.length i) (λ_=>tT cs bt) (λi k _=>Iff.rfl) (λi hi=>by have hx:fs[i]?=some fs[i]:=bd hi;obtain⟨u,a1,a2,a3,_⟩:=D2 f1 hx;obtain⟨u',b1,b2,b3,_⟩:=D2 f2 hx;exact aEM f1 f2 hi hi a3 b3 a1 a2 b1 b2 (rf _ (dS hi)) h63 rfl) aRk n_)
   exact Qo mixed func66 BQ ay 100 (N:=32) k_ [.rw 14 _ _ aU,.code 0 _ _ _ _ _ lo] k_ rfl
  ·have bZ:fs≠fs':=λh=>by subst h;rw[q1]at q2;injection q2 with q2;exact q3 q2
   rw[aJ bZ];have al:=(eE.1 q1).1;have lo:ah prog (aa.at w) 32 (.block 0 (af f66 0)) (D3 fs.length fs'.length 0) (tT cs bt) 2 ⟨.ret,[(6,.bool false)],tT cs bt,4⟩:=
    bO (id:=0) (ch e (λi=>D3 fs.length fs'.length i) (λ_=>tT cs bt) (λi k _=>Iff.rfl) (λi hi=>by
     have hx:fs[i]?=some fs[i]:=bd o_;have hy:fs'[i]?=some fs'[i]:=bd o_;have:=q4 i _ _ hi hx hy;obtain⟨u,a1,a2,a3,_⟩:=D2 f1 hx;obtain⟨u',b1,b2,b3,_⟩:=D2 f2 hy;exact aEM f1 f2 o_ o_ a3 b3 a1 a2 b1 b2 (rf _ (dS _)) h63 this) (by
     obtain⟨u,a1,a2,a3,_⟩:=D2 f1 q1;obtain⟨u',b1,b2,b3,_⟩:=D2 f2 q2;exact aRj al o_ a3 b3 a1 a2 b1 b2 (rf _ (cQ q1)) q3) n_)
   exact Qo mixed func66 BQ ay 100 (N:=32) k_ [.rw 14 _ _ aU,.code 0 _ _ _ _ _ lo] k_ rfl
 ·have bZ:fs≠fs':=λh=>hl (by rw[h]);rw[aJ bZ];exact Qo mixed func66 BQ ay 100 (N:=32) k_ [.rw 14 (.bool (!((fs.length:Int)==(fs'.length:Int)))) (.bool true) (by congr 1;simp;omega)] k_ rfl
end
end
theorem aEN{P:Program}{t:TypeId}{s:Nat}(ht:H7 P t=some s){cells:aj}{off:Nat}(hl:off+s<=cells.length):du P t cells off=some (.agg ((cells.drop off).take s).toArray):=by
 unfold H7 at ht;split at ht
 ·rename_i d inf h1 h2;split at ht
  ·rename_i hr;injection ht with ht;unfold du;rw[h1,h2];dsimp only;rw[aw hr,ht,aw (by rw[Nat.ble_eq];exact hl)]
  ·cases ht
 ·cases ht
theorem aEO{l:List RP}{i:Nat}{p:RP}(h:l[i]?=some p):i*40+40<=(da l).length:=by rw[tB iD];have al:=(eE.1 h).1;have:=e8 40 al;omega
theorem Qp{l:List RP}{i:Nat}{p:RP}(h:l[i]?=some p):du prog 33 (da l) (i*40)=some p.n.v:=by
 rw[aEN (s:=30) k_ (by have:=aEO h;omega)];have e:=O6 iD h;have e2:((da l).drop (i*40)).take 30=p.n.cs:=by
  have:((da l).drop (i*40)).take 30=(((da l).drop (i*40)).take 40).take 30:=by rw[Ml];rfl
  rw[this,e];rfl
 rw[e2];rfl
theorem aEP{l:List RP}{i:Nat}{p:RP}(h:l[i]?=some p):du prog 31 (da l) (i*40+30)=some p.d.v:=by
 rw[aEN (s:=10) k_ (by have:=aEO h;omega)];have e:=O6 iD h;have e2:((da l).drop (i*40+30)).take 10=p.d.cs:=by
  rw[<-Nc];have:(((da l).drop (i*40)).drop 30).take 10=(((da l).drop (i*40)).take 40).drop 30:=by rw[List.drop_take]
  rw[this,e];rfl
 rw[e2];rfl
theorem BU{α:Type}(b:α->Bool)(l:List α):l.all b=true\/∃(n:Nat) (x:α),l[n]?=some x/\b x=false/\(∀(i:Nat) (y:α),i<n->l[i]?=some y->b y=true)/\l.all b=false:=by
 induction l with
 |nil=>exact .inl rfl
 |cons x l ih=>
  rcases hb:b x with _|_
  ·exact .inr ⟨0,x,rfl,hb,λi y hi=>by omega,by simp[hb]⟩
  ·rcases ih with h|⟨n,y,h1,h2,h3,h4⟩
   ·exact .inl (by rw[dG,hb,h];rfl)
   ·refine .inr ⟨n+1,y,by simpa using h1,h2,λi z hi hz=>?_,by rw[dG,h4,M8]⟩;cases i with
    |zero=>simp at hz;rw[<-hz];exact hb
    |succ i=>exact h3 i z o_ (by simpa using hz)
theorem D4{α:Type}{b:α->Bool}{l:List α}(h:l.all b=true){i:Nat}{x:α}(hx:l[i]?=some x):b x=true:=bf.1 h x (cQ hx)
theorem LL{a b:Nat}{t:Bool}(h:decide (a<=b)=t):Value.bool (decide ((a:Int)<=(b:Int)))=.bool t:=by rw[<-h];congr 1;rw[s9];omega
section
variable{Bs:aa}{vs:List RV}{k:Nat}
def Gj(n k i:Nat):aV:=[(7,vI i),(0,sl 0 n),(2,vI k)]
def xX(vs:List RV):aH:=[(0,.view (cE vs))]
theorem aEQ{n i:Nat}{x:RV}(hi:i<n)(hx:vs[i]?=some x)(hb:qm x k=true)(h63:n<9223372036854775807):
  ah prog Bs 25 (aE (af f31 0)) (Gj n k i) (xX vs) 1 ⟨.normal,Gj n k (i+1),xX vs,1⟩:=by
 have hr:=Wi x k;rw[hb]at hr;exact aA [.lt 11 i n true (aB hi),.c9 f31 16 0 n i 30 hi k_,.ld f31 17 33 0 (i*30) (.view (cE vs)) x.v rfl (sj hx) k_,hr.at 19,.sum 13 i 1 (i+1) rfl o_]
theorem aRm{n i:Nat}{x:RV}(hi:i<n)(hx:vs[i]?=some x)(hb:qm x k=false):
  ah prog Bs 25 (aE (af f31 0)) (Gj n k i) (xX vs) 1 ⟨.ret,[(6,.bool false)],xX vs,1⟩:=by
 have hr:=Wi x k;rw[hb]at hr;exact aA [.lt 11 i n true (aB hi),.c9 f31 16 0 n i 30 hi k_,.ld f31 17 33 0 (i*30) (.view (cE vs)) x.v rfl (sj hx) k_,hr.at 19]
theorem aRn(m:Nat)(h63:vs.length<9223372036854775807):cD prog 31 [.r vs.length (cE vs),.p (vI m),.p (vI k)] (.bool (vs.all (λx=>qm x k)&&decide (vs.length<=m))):=by
 have ay:([aP.r vs.length (cE vs),.p (vI m),.p (vI k)].all aP.ok)=true:=by simp only[dG,fB,aP.ok,gU gh,jk];rfl
 rcases BU (λx=>qm x k) vs with h|⟨n,x,h1,h2,h3,h4⟩
 ·rw[h,lD];have lo:∀ B:aa,ah prog B 25 (.block 0 (af f31 0)) (Gj vs.length k 0) (xX vs) 1 ⟨.normal,[(0,sl 0 vs.length)],xX vs,1⟩:=λB=>
   bO (id:=0) (ch vs.length (λi=>Gj vs.length k i) (λ_=>xX vs) (λi k _=>Iff.rfl) (r:=⟨.exit 0,[(0,sl 0 vs.length)],xX vs,1⟩) (λi hi=>by have hx:vs[i]?=some vs[i]:=bd hi;exact aEQ hi hx (D4 h hx) h63) (aA [.lt 11 vs.length vs.length false s_]) n_)
  exact dV func31 ay 25 (λw=>[.code 0 _ _ _ _ _ (lo _),.rw 24 _ (.bool (decide (vs.length<=m))) (LL rfl)])
 ·rw[h4,yJ];have al:=(eE.1 h1).1;have lo:∀ B:aa,ah prog B 25 (.block 0 (af f31 0)) (Gj vs.length k 0) (xX vs) 1 ⟨.ret,[(6,.bool false)],xX vs,1⟩:=λB=>
   bO (id:=0) (ch n (λi=>Gj vs.length k i) (λ_=>xX vs) (λi k _=>Iff.rfl) (λi hi=>by have hx:vs[i]?=some vs[i]:=bd o_;exact aEQ o_ hx (h3 i _ hi hx) h63) (aRm al h1 h2) n_)
  exact dV func31 ay 25 (λw=>[.code 0 _ _ _ _ _ (lo _)])
end
def Qq(p:RP):Bool:=decide (24<wV p.n)||decide (15<wN p.d)
def sP(ps:List RP)(i:Nat):Nat:=((ps.take i).filter Qq).length
theorem aRo{ps:List RP}{i:Nat}{p:RP}(h:ps[i]?=some p):sP ps (i+1)=sP ps i+if Qq p then 1 else 0:=by unfold sP;rw[vV,h];simp only[Option.toList,aEs,iJ];rcases hb:Qq p with _|_<;>simp[hb]
theorem aRp(ps:List RP)(i:Nat):sP ps i<=i:=by unfold sP;refine dh (aEu _ _) ?_;rw[jL];omega
theorem Qr{r:RN}{k:Nat}(h:sI r k=true):wN r<=5*k:=by unfold sI at h;simp only[db,sY]at h;unfold wN;omega
theorem aRq{r:RV}{k:Nat}(h:qm r k=true):wV r<=15*k:=by unfold qm at h;simp only[db]at h;have h1:=Qr h.1;have h2:=Qr h.2.1;have h3:=Qr h.2.2;unfold wV;omega
section
variable{Bs:aa}{ps:List RP}
def Ai(ps:List RP)(n i:Nat):aV:=[(6,vI i),(0,sl 0 n),(5,vI (sP ps i))]
def xY(ps:List RP):aH:=[(0,.view (da ps))]
theorem aER{n i:Nat}{x:RP}(hi:i<n)(hx:ps[i]?=some x)(hb:uZ x 3=true)(h63:n<9223372036854775807):
  ah prog Bs 45 (aE (af f30 0)) (Ai ps n i) (xY ps) 1 ⟨.normal,Ai ps n (i+1),xY ps,1⟩:=by
 have hr:=P7 x 3;rw[hb]at hr;have gw:qm x.n 3=true/\sI x.d 3=true:=by unfold uZ at hb;simpa using hb
 have w1:=aRq gw.1;have w2:=Qr gw.2;have q1:=aPX (r:=x.n) o_;have q2:=PX (r:=x.d) o_;have hs:=aRo hx;have hle:=aRp ps i;unfold Ai;rw[hs];generalize sP ps i=c at *;unfold Qq;by_cases g1:24<wV x.n
 ·rw[aB g1];exact aA [.lt 10 i n true (aB hi),.c9 f30 15 0 n i 40 hi k_,.ld f30 16 35 0 (i*40) (.view (da ps)) x.v rfl (vT hx) k_,hr.at 17,.c9 f30 21 0 n i 40 hi k_,.ld f30 23 33 0 (i*40) (.view (da ps)) x.n.v rfl (Qp hx) k_,q1.at 24,.gt 25 (wV x.n) 24 true (aB g1),.sum 36 c 1 (c+1) rfl o_,.sum 12 i 1 (i+1) rfl o_]
 ·rw[aJ g1];by_cases g2:15<wN x.d
  ·rw[aB g2];exact aA [.lt 10 i n true (aB hi),.c9 f30 15 0 n i 40 hi k_,.ld f30 16 35 0 (i*40) (.view (da ps)) x.v rfl (vT hx) k_,hr.at 17,.c9 f30 21 0 n i 40 hi k_,.ld f30 23 33 0 (i*40) (.view (da ps)) x.n.v rfl (Qp hx) k_,q1.at 24,.gt 25 (wV x.n) 24 false (aJ g1),.c9 f30 29 0 n i 40 hi k_,.ld f30 31 31 0 (i*40+30) (.view (da ps)) x.d.v rfl (aEP hx) k_,q2.at 32,.gt 33 (wN x.d) 15 true (aB g2),.sum 36 c 1 (c+1) rfl o_,.sum 12 i 1 (i+1) rfl o_]
  ·rw[aJ g2];exact aA [.lt 10 i n true (aB hi),.c9 f30 15 0 n i 40 hi k_,.ld f30 16 35 0 (i*40) (.view (da ps)) x.v rfl (vT hx) k_,hr.at 17,.c9 f30 21 0 n i 40 hi k_,.ld f30 23 33 0 (i*40) (.view (da ps)) x.n.v rfl (Qp hx) k_,q1.at 24,.gt 25 (wV x.n) 24 false (aJ g1),.c9 f30 29 0 n i 40 hi k_,.ld f30 31 31 0 (i*40+30) (.view (da ps)) x.d.v rfl (aEP hx) k_,q2.at 32,.gt 33 (wN x.d) 15 false (aJ g2),.sum 12 i 1 (i+1) rfl o_]
theorem aRr{n i:Nat}{x:RP}(hi:i<n)(hx:ps[i]?=some x)(hb:uZ x 3=false):
  ah prog Bs 45 (aE (af f30 0)) (Ai ps n i) (xY ps) 1 ⟨.ret,[(4,.bool false)],xY ps,1⟩:=by
 have hr:=P7 x 3;rw[hb]at hr;exact aA [.lt 10 i n true (aB hi),.c9 f30 15 0 n i 40 hi k_,.ld f30 16 35 0 (i*40) (.view (da ps)) x.v rfl (vT hx) k_,hr.at 17]
def LM(ps:List RP)(k:Nat):Bool:=ps.all (λx=>uZ x 3)&&(decide (sP ps ps.length<=1)&&decide (ps.length<=k))
theorem aRs(k:Nat)(h63:ps.length<9223372036854775807):cD prog 30 [.r ps.length (da ps),.p (vI k)] (.bool (LM ps k)):=by
 have ay:([aP.r ps.length (da ps),.p (vI k)].all aP.ok)=true:=by simp only[dG,fB,aP.ok,gU iD,jk];rfl
 unfold LM;rcases BU (λx=>uZ x 3) ps with h|⟨n,x,h1,h2,h3,h4⟩
 ·rw[h,lD];have lo:∀ B:aa,ah prog B 45 (.block 0 (af f30 0)) (Ai ps ps.length 0) (xY ps) 1 ⟨.normal,[(0,sl 0 ps.length),(5,vI (sP ps ps.length))],xY ps,1⟩:=λB=>
   bO (id:=0) (ch ps.length (λi=>Ai ps ps.length i) (λ_=>xY ps) (λi k _=>Iff.rfl) (r:=⟨.exit 0,[(0,sl 0 ps.length),(5,vI (sP ps ps.length))],xY ps,1⟩) (λi hi=>by have hx:ps[i]?=some ps[i]:=bd hi;exact aER hi hx (D4 h hx) h63) (aA [.lt 10 ps.length ps.length false s_]) n_)
  unfold Ai at lo;have e0:sP ps 0=0:=by unfold sP;simp
  rw[e0]at lo;generalize sP ps ps.length=c at *;by_cases hc:c<=1
  ·rw[aB hc,lD];exact dV func30 ay 45 (λw=>[.code 0 _ _ _ _ _ (lo _),.rw 38 _ (.bool true) (LL (a:=c) (b:=1) (aB hc)),.rw 43 _ (.bool (decide (ps.length<=k))) (LL rfl)])
  ·rw[aJ hc,yJ];exact dV func30 ay 45 (λw=>[.code 0 _ _ _ _ _ (lo _),.rw 38 _ (.bool false) (LL (a:=c) (b:=1) (aJ hc))])
 ·rw[h4,yJ];have al:=(eE.1 h1).1;have lo:∀ B:aa,ah prog B 45 (.block 0 (af f30 0)) (Ai ps ps.length 0) (xY ps) 1 ⟨.ret,[(4,.bool false)],xY ps,1⟩:=λB=>
   bO (id:=0) (ch n (λi=>Ai ps ps.length i) (λ_=>xY ps) (λi k _=>Iff.rfl) (λi hi=>by have hx:ps[i]?=some ps[i]:=bd o_;exact aER o_ hx (h3 i _ hi hx) h63) (aRr al h1 h2) n_)
  have e0:sP ps 0=0:=by unfold sP;simp
  unfold Ai at lo;rw[e0]at lo;exact dV func30 ay 45 (λw=>[.code 0 _ _ _ _ _ (lo _)])
end
section
open V3 (dot ax cL smul)
theorem aES{ps:List (HS K)}{i:Nat}{p:HS K}(h:ps[i]?=some p):(ps.map cF)[i]?=some (cF p):=by rw[Cd,h];rfl
theorem LN{ps:List (HS K)}{i:Nat}{p:HS K}(h:ps[i]?=some p):du prog 33 (aQ ps) (i*40)=some (bP p.n):=Qp (aES h)
theorem Qs{ps:List (HS K)}{i:Nat}{p:HS K}(h:ps[i]?=some p):du prog 35 (aQ ps) (i*40)=some (cB p):=vT (aES h)
section
variable{Bs:aa}{ps:List RP}{m:Nat}
def Gk(n i:Nat):aV:=[(3,vI i),(0,sl 0 n)]
def wj(ps:List RP):aH:=[(0,.view (da ps))]
theorem aET{n i:Nat}{x:RP}(hi:i<n)(hx:ps[i]?=some x)(hs:Ab m x)(hm:m<=aC)(hb:oz x=true)(h63:n<9223372036854775807):
  ah prog Bs 16 (aE (af f58 0)) (Gk n i) (wj ps) 1 ⟨.normal,Gk n (i+1),wj ps,1⟩:=by
 have hv:=Lv hs hm;rw[hb]at hv;exact aA [.lt 7 i n true (aB hi),.c9 f58 12 0 n i 40 hi k_,.ld f58 13 35 0 (i*40) (.view (da ps)) x.v rfl (vT hx) k_,hv.at 14,.sum 9 i 1 (i+1) rfl o_]
theorem aRt{n i:Nat}{x:RP}(hi:i<n)(hx:ps[i]?=some x)(hs:Ab m x)(hm:m<=aC)(hb:oz x=false):
  ah prog Bs 16 (aE (af f58 0)) (Gk n i) (wj ps) 1 ⟨.ret,[(2,.bool false)],wj ps,1⟩:=by
 have hv:=Lv hs hm;rw[hb]at hv;exact aA [.lt 7 i n true (aB hi),.c9 f58 12 0 n i 40 hi k_,.ld f58 13 35 0 (i*40) (.view (da ps)) x.v rfl (vT hx) k_,hv.at 14]
theorem aEU(hs:∀ x∈ps,Ab m x)(hm:m<=aC)(h63:ps.length<9223372036854775807):cD prog 58 [.r ps.length (da ps)] (.bool (ps.all oz)):=by
 have ay:([aP.r ps.length (da ps)].all aP.ok)=true:=by simp only[dG,fB,aP.ok,gU iD,jk]
 rcases BU oz ps with h|⟨n,x,h1,h2,h3,h4⟩
 ·rw[h];have lo:∀ B:aa,ah prog B 16 (.block 0 (af f58 0)) (Gk ps.length 0) (wj ps) 1 ⟨.normal,[],wj ps,1⟩:=λB=>
   bO (id:=0) (ch ps.length (λi=>Gk ps.length i) (λ_=>wj ps) (λi k _=>Iff.rfl) (r:=⟨.exit 0,[],wj ps,1⟩) (λi hi=>by have hx:ps[i]?=some ps[i]:=bd hi;exact aET hi hx (hs _ (dS hi)) hm (D4 h hx) h63) (aA [.lt 7 ps.length ps.length false s_]) n_)
  exact dV func58 ay 16 (λw=>[.code 0 _ _ _ _ _ (lo _)])
 ·rw[h4];have al:=(eE.1 h1).1;have lo:∀ B:aa,ah prog B 16 (.block 0 (af f58 0)) (Gk ps.length 0) (wj ps) 1 ⟨.ret,[(2,.bool false)],wj ps,1⟩:=λB=>
   bO (id:=0) (ch n (λi=>Gk ps.length i) (λ_=>wj ps) (λi k _=>Iff.rfl) (r:=⟨.ret,[(2,.bool false)],wj ps,1⟩) (λi hi=>by
    have mQ:i<ps.length:=by omega
    have hx:ps[i]?=some ps[i]:=bd mQ;exact aET mQ hx (hs _ (dS mQ)) hm (h3 i _ hi hx) h63) (aRt al h1 (hs x (cQ h1)) hm h2) n_)
  exact dV func58 ay 16 (λw=>[.code 0 _ _ _ _ _ (lo _)])
end
section
variable{Bs:aa}{ps:List (HS K)}{m:Nat}{d:V3 K}
def xZ(ps:List (HS K))(d:V3 K):Bool:=ps.all λp=>decide (OF.az (dot p.n d)<=0)
def Gl(n i:Nat):aV:=[(5,vI i),(0,sl 0 n),(3,ptr 1)]
def x6(ps:List (HS K))(d:V3 K):aH:=[(0,.view (aQ ps)),(1,.aI (cC d).cs 33)]
theorem Qt{z:Int}{t:Bool}(h:decide (z<=0)=!t):Value.bool (decide (z>0))=.bool t:=by
 congr 1
 cases t
 ·have:=kH h;exact aJ o_
 ·have:=Hs h;exact aB o_
theorem aEV{n i:Nat}{p:HS K}(hi:i<n)(hx:ps[i]?=some p)(hp:bo m p)(hd:aF m d)(hm:100*m+1000<=aC)(hb:decide (OF.az (dot p.n d)<=0)=true)(h63:n<9223372036854775807):
  ah prog Bs 21 (aE (af f100 0)) (Gl n i) (x6 ps d) 2 ⟨.normal,Gl n (i+1),x6 ps d,2⟩:=
 aA [.lt 9 i n true (aB hi),.c9 f100 14 0 n i 40 hi k_,.ld f100 16 33 0 (i*40) (.view (aQ ps)) (bP p.n) rfl (LN hx) k_,(aVn hp.1 hd o_).at 18,(aVm (hp.1.dot hd) o_).at 19,.rw 20 _ (.bool false) (Qt (t:=false) hb),.sum 11 i 1 (i+1) rfl o_]
theorem aRu{n i:Nat}{p:HS K}(hi:i<n)(hx:ps[i]?=some p)(hp:bo m p)(hd:aF m d)(hm:100*m+1000<=aC)(hb:decide (OF.az (dot p.n d)<=0)=false):
  ah prog Bs 21 (aE (af f100 0)) (Gl n i) (x6 ps d) 2 ⟨.ret,[(4,.bool false)],x6 ps d,2⟩:=
 aA [.lt 9 i n true (aB hi),.c9 f100 14 0 n i 40 hi k_,.ld f100 16 33 0 (i*40) (.view (aQ ps)) (bP p.n) rfl (LN hx) k_,(aVn hp.1 hd o_).at 18,(aVm (hp.1.dot hd) o_).at 19,.rw 20 _ (.bool true) (Qt (t:=true) hb)]
theorem Qu(hs:∀ p∈ps,bo m p)(hd:aF m d)(hm:100*m+1000<=aC)(h63:ps.length<9223372036854775807):cD prog 100 [.r ps.length (aQ ps),.p (bP d)] (.bool (xZ ps d)):=by
 have ay:([aP.r ps.length (aQ ps),.p (bP d)].all aP.ok)=true:=by simp only[dG,fB,aP.ok,jk];rw[show(aQ ps).all flat=true from cZ ps];rfl
 unfold xZ;rcases BU (λp=>decide (OF.az (dot p.n d)<=0)) ps with h|⟨n,x,h1,h2,h3,h4⟩
 ·rw[h];have lo:∀ B:aa,ah prog B 21 (.block 0 (af f100 0)) (Gl ps.length 0) (x6 ps d) 2 ⟨.normal,[],x6 ps d,2⟩:=λB=>
   bO (id:=0) (ch ps.length (λi=>Gl ps.length i) (λ_=>x6 ps d) (λi k _=>Iff.rfl) (r:=⟨.exit 0,[],x6 ps d,2⟩) (λi hi=>by have hx:ps[i]?=some ps[i]:=bd hi;exact aEV hi hx (hs _ (dS hi)) hd hm (D4 h hx) h63) (aA [.lt 9 ps.length ps.length false s_]) n_)
  exact dV func100 ay 21 (λw=>[.code 0 _ _ _ _ _ (lo _)])
 ·rw[h4];have al:=(eE.1 h1).1;have lo:∀ B:aa,ah prog B 21 (.block 0 (af f100 0)) (Gl ps.length 0) (x6 ps d) 2 ⟨.ret,[(4,.bool false)],x6 ps d,2⟩:=λB=>
   bO (id:=0) (ch n (λi=>Gl ps.length i) (λ_=>x6 ps d) (λi k _=>Iff.rfl) (λi hi=>by
    have mQ:i<ps.length:=by omega
    have hx:ps[i]?=some ps[i]:=bd mQ;exact aEV mQ hx (hs _ (dS mQ)) hd hm (h3 i _ hi hx) h63) (aRu al h1 (hs x (cQ h1)) hd hm h2) n_)
  exact dV func100 ay 21 (λw=>[.code 0 _ _ _ _ _ (lo _)])
end
def BV(ps:List (HS K))(d:V3 K):Bool:=ps.all λp=>decide (dot p.n d=0)
def Qv(ps:List (HS K))(i:Nat):V3 K:=match ps[i]? with|some p=>p.n|none=>0
def mX(ps:List (HS K))(i j:Nat):V3 K:=ax (Qv ps i) (Qv ps j)
def Aj(ps:List (HS K))(i j:Nat):Bool:=decide (mX ps i j≠0)&&(xZ ps (mX ps i j)||xZ ps (-mX ps i j))
def o5(ps:List (HS K))(f:Bool)(i:Nat):Nat->Bool
 |0=>f
 |j+1=>if mX ps i j=0 then o5 ps f i j else o5 ps f i j&&BV ps (mX ps i j)
def mo(ps:List (HS K)):Nat->Bool
 |0=>true
 |i+1=>o5 ps (mo ps i) i i
def D5(ps:List (HS K))(i:Nat):Bool:=(List.range i).all λj=>!Aj ps i j
def wk(ps:List (HS K)):Bool:=(List.range ps.length).all (D5 ps)&&!mo ps ps.length
theorem IJ(b:Nat->Bool)(n:Nat):(List.range n).all b=true\/∃ e,e<n/\b e=false/\(∀ i,i<e->b i=true)/\(List.range n).all b=false:=by
 rcases BU b (List.range n)with h|⟨e,x,h1,h2,h3,h4⟩
 ·exact .inl h
 ·have al:=(eE.1 h1).1;rw[yB]at al;rw[KZ al]at h1;injection h1 with h1;subst h1;exact .inr ⟨e,al,h2,λi hi=>h3 i i hi (KZ o_),h4⟩
theorem IK{b:Nat->Bool}{n:Nat}(h:(List.range n).all b=true){i:Nat}(hi:i<n):b i=true:=bf.1 h i (j5.2 hi)
section
variable{Bs:aa}{ps:List (HS K)}{m:Nat}{d:V3 K}
def Gm(n k:Nat)(f:Bool):aV:=[(7,vI k),(0,sl 0 n),(3,.bool f),(6,ptr 1)]
def wm(ps:List (HS K))(d:V3 K):aH:=[(0,.view (aQ ps)),(1,.aI (cC d).cs 33)]
theorem aEW{n k:Nat}{p:HS K}{t:Bool}(hk:k<n)(hx:ps[k]?=some p)(hp:bo m p)(hd:aF m d)(hm:100*m+1000<=aC)(ht:decide (dot p.n d=0)=t)(h63:n<9223372036854775807):
  ah prog Bs 61 (aE (af f59 4)) (Gm n k true) (wm ps d) 2 ⟨.normal,Gm n (k+1) t,wm ps d,2⟩:=by
 have h49:Value.bool (OF.az (dot p.n d)==0)=.bool t:=by
  by_cases h:dot p.n d=0
  ·rw[aB h]at ht;subst ht;exact xT ((OF.eZ _).2 h)
  ·rw[aJ h]at ht;subst ht;exact pF (λe=>h ((OF.eZ _).1 e))
 exact aA [.lt 35 k n true (aB hk),.c9 f59 43 0 n k 40 hk k_,.ld f59 45 33 0 (k*40) (.view (aQ ps)) (bP p.n) rfl (LN hx) k_,(aVn hp.1 hd o_).at 47,(aVm (hp.1.dot hd) o_).at 48,.rw 49 _ (.bool t) h49,.sum 40 k 1 (k+1) rfl o_]
theorem aEX{n k:Nat}:ah prog Bs 61 (aE (af f59 4)) (Gm n k false) (wm ps d) 2 ⟨.exit 4,[(0,sl 0 n),(3,.bool false),(6,ptr 1)],wm ps d,2⟩:=by
 by_cases h:k<n
 ·exact aA [.lt 35 k n true (aB h)]
 ·exact aA [.lt 35 k n false (aJ h)]
theorem aEY(hs:∀ p∈ps,bo m p)(hd:aF m d)(hm:100*m+1000<=aC)(h63:ps.length<9223372036854775807)(f:Bool):
  ah prog Bs 61 (.block 4 (af f59 4)) (Gm ps.length 0 f) (wm ps d) 2 ⟨.normal,[(0,sl 0 ps.length),(3,.bool (f&&BV ps d)),(6,ptr 1)],wm ps d,2⟩:=by
 cases f with
 |false=>exact bO (id:=4) (ch 0 (λ_=>Gm ps.length 0 false) (λ_=>wm ps d) (λ_ _ _=>Iff.rfl) (r:=⟨.exit 4,[(0,sl 0 ps.length),(3,.bool false),(6,ptr 1)],wm ps d,2⟩) (λi hi=>by omega) aEX n_)
 |true=>
  unfold BV;rcases BU (λp=>decide (dot p.n d=0)) ps with h|⟨n,x,h1,h2,h3,h4⟩
  ·rw[h];exact bO (id:=4) (ch ps.length (λi=>Gm ps.length i true) (λ_=>wm ps d) (λ_ _ _=>Iff.rfl) (r:=⟨.exit 4,[(0,sl 0 ps.length),(3,.bool true),(6,ptr 1)],wm ps d,2⟩) (λi hi=>by have hx:ps[i]?=some ps[i]:=bd hi;exact aEW hi hx (hs _ (dS hi)) hd hm (D4 h hx) h63) (aA [.lt 35 ps.length ps.length false s_]) n_)
  ·rw[h4];have al:=(eE.1 h1).1;exact bO (id:=4) (ch (n+1) (λi=>Gm ps.length i (decide (i<=n))) (λ_=>wm ps d) (λ_ _ _=>Iff.rfl) (r:=⟨.exit 4,[(0,sl 0 ps.length),(3,.bool false),(6,ptr 1)],wm ps d,2⟩) (λi hi=>by
    have mQ:i<ps.length:=by omega
    have hx:ps[i]?=some ps[i]:=bd mQ;simp only[aB (show i<=n by omega)];refine aEW mQ hx (hs _ (dS mQ)) hd hm ?_ h63;by_cases he:i=n
    ·subst he;rw[hx]at h1;injection h1 with h1;rw[h1,h2];exact(aJ o_).symm
    ·have:=h3 i _ o_ hx;rw[this];exact(aB o_).symm) (by
    simp only[aJ (show ¬n+1<=n by omega)];exact aEX) n_)
def x7(ps:List (HS K))(f:Bool)(n i j:Nat):aV:=[(5,vI j),(4,vI i),(0,sl 0 n),(3,.bool (o5 ps f i j))]
def nM(ps:List (HS K)):aH:=[(0,.view (aQ ps))]
theorem IL{i:Nat}{p:HS K}(h:ps[i]?=some p):Qv ps i=p.n:=by unfold Qv;rw[h]
noncomputable def Qw{n i j:Nat}{p q:HS K}{t:Bool}(hi:i<n)(mw:j<i)(hp:ps[i]?=some p)(hq:ps[j]?=some q)(sp:bo m p)(sq:bo m q)(hm:1000*m+10000<=aC)(ht:decide (ax p.n q.n=0)=t)(more:bE prog Bs 61):bE prog Bs 61:=
 .lt 16 j i true (aB mw)::.c9 f59 21 0 n i 40 hi k_::.ld f59 23 33 0 (i*40) (.view (aQ ps)) (bP p.n) rfl (LN hp) k_::.c9 f59 26 0 n j 40 o_ k_::.ld f59 28 33 0 (j*40) (.view (aQ ps)) (bP q.n) rfl (LN hq) k_::
 (aU9 sp.1 sq.1 o_).at 29::(ht▸aVJ (sp.1.ax sq.1) o_:aD prog 35 [bP (ax p.n q.n)] (.bool t)).at 31::more
theorem aEZ(hs:∀ p∈ps,bo m p)(hm:1000*m+10000<=aC){f:Bool}{i j:Nat}(hi:i<ps.length)(mw:j<i)(hb:Aj ps i j=false)(h63:ps.length<9223372036854775807):
  ah prog Bs 61 (aE (af f59 2)) (x7 ps f ps.length i j) (nM ps++marks 1 []) 1 ⟨.normal,gR 1 [] (x7 ps f ps.length i (j+1)),nM ps++dP [] [],2⟩:=by
 have hj:j<ps.length:=by omega
 have hp:ps[i]?=some ps[i]:=bd hi;have hq:ps[j]?=some ps[j]:=bd hj;have sp:=hs _ (dS hi);have sq:=hs _ (dS hj);generalize ps[i]=p at *;generalize ps[j]=q at *;have hd:mX ps i j=ax p.n q.n:=by unfold mX;rw[IL hp,IL hq]
 have pd:∀ r∈ps,bo (4*m+9) r:=λr hr=>(hs r hr).mono o_;have BW:aF (4*m+9) (ax p.n q.n):=(sp.1.ax sq.1).mono o_;unfold Aj at hb;have er:o5 ps f i (j+1)=if mX ps i j=0 then o5 ps f i j else o5 ps f i j&&BV ps (mX ps i j):=rfl
 unfold x7;rw[er];rw[hd]at hb ⊢;by_cases hz:ax p.n q.n=0
 ·rw[aw hz];exact aA (Qw hi mw hp hq sp sq hm (aB hz) [.sum 18 j 1 (j+1) rfl o_])
 ·rw[ao hz];rw[aB hz,lD]at hb;have pR:xZ ps (ax p.n q.n)=false:=by revert hb;cases xZ ps (ax p.n q.n)<;>simp
  have gw:xZ ps (-ax p.n q.n)=false:=by revert hb;cases xZ ps (-ax p.n q.n)<;>simp
  have l1:=Qu pd BW o_ h63;have l2:=Qu pd BW.neg o_ h63;rw[pR]at l1;rw[gw]at l2;have c4:=aEY (Bs:=Bs) pd BW o_ h63 (o5 ps f i j);generalize o5 ps f i j=ff at *;generalize (ff&&BV ps (ax p.n q.n))=fg at *;exact aA (Qw hi mw hp hq sp sq hm (aJ hz) [.code 4 _ _ _ _ _ c4,.step 52 (av f59 52) [.func (.func 100) #[] #[],sl 0 ps.length,bP (ax p.n q.n)] [(0,some (.view (aQ ps)))] (.bool false) [] (dE l1 (.w (x:=.view (aQ ps)) rfl (cZ ps) iE (.p rfl .nil)) (x:=.func 100) k_ k_ rfl),(aVz BW o_).at 56,.step 57 (av f59 57) [.func (.func 100) #[] #[],sl 0 ps.length,bP (-ax p.n q.n)] [(0,some (.view (aQ ps)))] (.bool false) [] (dE l2 (.w (x:=.view (aQ ps)) rfl (cZ ps) iE (.p rfl .nil)) (x:=.func 100) k_ k_ rfl),.sum 18 j 1 (j+1) rfl o_])
theorem aRv(hs:∀ p∈ps,bo m p)(hm:1000*m+10000<=aC){f:Bool}{i j:Nat}(hi:i<ps.length)(mw:j<i)(hb:Aj ps i j=true)(h63:ps.length<9223372036854775807):
  ah prog Bs 61 (aE (af f59 2)) (x7 ps f ps.length i j) (nM ps++marks 1 []) 1 ⟨.ret,[(2,.bool false)],[],2⟩:=by
 have hj:j<ps.length:=by omega
 have hp:ps[i]?=some ps[i]:=bd hi;have hq:ps[j]?=some ps[j]:=bd hj;have sp:=hs _ (dS hi);have sq:=hs _ (dS hj);generalize ps[i]=p at *;generalize ps[j]=q at *;have hd:mX ps i j=ax p.n q.n:=by unfold mX;rw[IL hp,IL hq]
 have pd:∀ r∈ps,bo (4*m+9) r:=λr hr=>(hs r hr).mono o_;have BW:aF (4*m+9) (ax p.n q.n):=(sp.1.ax sq.1).mono o_;unfold Aj at hb;unfold x7;rw[hd]at hb;have hz:ax p.n q.n≠0:=by intro e;rw[aJ (λh=>h e)]at hb;cases hb
 rw[aB hz,lD]at hb;have l1:=Qu pd BW o_ h63;have l2:=Qu pd BW.neg o_ h63;have c4:=aEY (Bs:=Bs) pd BW o_ h63 (o5 ps f i j);generalize o5 ps f i j=ff at *;generalize (ff&&BV ps (ax p.n q.n))=fg at *;rcases pR:xZ ps (ax p.n q.n)with _|_
 ·rw[pR]at l1 hb;rw[yK]at hb;rw[hb]at l2;exact aA (Qw hi mw hp hq sp sq hm (aJ hz) [.code 4 _ _ _ _ _ c4,.step 52 (av f59 52) [.func (.func 100) #[] #[],sl 0 ps.length,bP (ax p.n q.n)] [(0,some (.view (aQ ps)))] (.bool false) [] (dE l1 (.w (x:=.view (aQ ps)) rfl (cZ ps) iE (.p rfl .nil)) (x:=.func 100) k_ k_ rfl),(aVz BW o_).at 56,.step 57 (av f59 57) [.func (.func 100) #[] #[],sl 0 ps.length,bP (-ax p.n q.n)] [(0,some (.view (aQ ps)))] (.bool true) [] (dE l2 (.w (x:=.view (aQ ps)) rfl (cZ ps) iE (.p rfl .nil)) (x:=.func 100) k_ k_ rfl)])
 ·rw[pR]at l1;exact aA (Qw hi mw hp hq sp sq hm (aJ hz) [.code 4 _ _ _ _ _ c4,.step 52 (av f59 52) [.func (.func 100) #[] #[],sl 0 ps.length,bP (ax p.n q.n)] [(0,some (.view (aQ ps)))] (.bool true) [] (dE l1 (.w (x:=.view (aQ ps)) rfl (cZ ps) iE (.p rfl .nil)) (x:=.func 100) k_ k_ rfl)])
theorem aE0(q:Nat×Obj)(hq:q∈nM ps):fP 1 q.2:=by unfold nM at hq;simp at hq;subst hq;exact G8 (bf.1 (cZ ps))
theorem aRw(hs:∀ p∈ps,bo m p)(hm:1000*m+10000<=aC){f:Bool}{i:Nat}(hi:i<ps.length)(hb:D5 ps i=true)(h63:ps.length<9223372036854775807):
  ah prog Bs 61 (.block 2 (af f59 2)) (x7 ps f ps.length i 0) (nM ps) 1 ⟨.normal,[(4,vI i),(0,sl 0 ps.length),(3,.bool (o5 ps f i i))],nM ps,1⟩:=by
 have:=rS (P:=prog) (B:=Bs) (N:=61) (b:=aE (af f59 2)) (next:=1) (p:=0) (r:=⟨.exit 2,[(4,vI i),(0,sl 0 ps.length),(3,.bool (o5 ps f i i))],nM ps,1⟩) i (x7 ps f ps.length i) (λ_=>nM ps) (λ_=>[]) [] (λ_ _=>rfl)
  (λj _=>⟨aE0,λz hz=>by cases hz⟩) k_ k_
  (λj hj=>⟨[],2,k_,aEZ hs hm hi hj (by have:=IK hb hj;simpa using this) h63⟩)
  (aA [.lt 16 i i false s_]) n_
 exact bO (id:=2) this
theorem aRx(hs:∀ p∈ps,bo m p)(hm:1000*m+10000<=aC){f:Bool}{i:Nat}(hi:i<ps.length)(hb:D5 ps i=false)(h63:ps.length<9223372036854775807):
  ah prog Bs 61 (.block 2 (af f59 2)) (x7 ps f ps.length i 0) (nM ps) 1 ⟨.ret,[(2,.bool false)],[],2⟩:=by
 rcases IJ (λj=>!Aj ps i j) i with h|⟨e,h1,h2,h3,_⟩
 ·unfold D5 at hb;rw[h]at hb;cases hb
 ·have:=rS (P:=prog) (B:=Bs) (N:=61) (b:=aE (af f59 2)) (next:=1) (p:=0) (r:=⟨.ret,[(2,.bool false)],[],2⟩) e (x7 ps f ps.length i) (λ_=>nM ps) (λ_=>[]) [] (λ_ _=>rfl)
   (λj _=>⟨aE0,λz hz=>by cases hz⟩) k_ k_
   (λj hj=>⟨[],2,k_,aEZ hs hm hi o_ (by have:=h3 j hj;simpa using this) h63⟩)
   (aRv hs hm hi h1 (by simpa using h2) h63) n_
  exact bO (id:=2) this
def x8(ps:List (HS K))(n i:Nat):aV:=[(4,vI i),(0,sl 0 n),(3,.bool (mo ps i))]
theorem aE1(hs:∀ p∈ps,bo m p)(hm:1000*m+10000<=aC){i:Nat}(hi:i<ps.length)(hb:D5 ps i=true)(h63:ps.length<9223372036854775807):
  ah prog Bs 61 (aE (af f59 0)) (x8 ps ps.length i) (nM ps) 1 ⟨.normal,x8 ps ps.length (i+1),nM ps,1⟩:=by
 have lo:=aRw (Bs:=Bs) (f:=mo ps i) hs hm hi hb h63;unfold x7 at lo;unfold x8;show ah _ _ _ _ _ _ _ ⟨.normal,[(4,vI (i+1)),(0,sl 0 ps.length),(3,.bool (o5 ps (mo ps i) i i))],nM ps,1⟩;have e0:o5 ps (mo ps i) i 0=mo ps i:=rfl;rw[e0]at lo;generalize o5 ps (mo ps i) i i=g at *;generalize mo ps i=f at *;exact aA [.lt 11 i ps.length true (aB hi),.code 2 _ _ _ _ _ lo,.sum 13 i 1 (i+1) rfl o_]
theorem aRy(hs:∀ p∈ps,bo m p)(hm:1000*m+10000<=aC){i:Nat}(hi:i<ps.length)(hb:D5 ps i=false)(h63:ps.length<9223372036854775807):
  ah prog Bs 61 (aE (af f59 0)) (x8 ps ps.length i) (nM ps) 1 ⟨.ret,[(2,.bool false)],[],2⟩:=by
 have lo:=aRx (Bs:=Bs) (f:=mo ps i) hs hm hi hb h63;unfold x7 at lo;unfold x8;have e0:o5 ps (mo ps i) i 0=mo ps i:=rfl;rw[e0]at lo;generalize mo ps i=f at *;exact aA [.lt 11 i ps.length true (aB hi),.code 2 _ _ _ _ _ lo]
theorem aRz(hs:∀ p∈ps,bo m p)(hm:1000*m+10000<=aC)(h63:ps.length<9223372036854775807):cD prog 59 [fC ps] (.bool (wk ps)):=by
 unfold wk;rcases IJ (D5 ps) ps.length with h|⟨e,h1,h2,h3,h4⟩
 ·rw[h,lD];have lo:∀ B:aa,ah prog B 61 (.block 0 (af f59 0)) (x8 ps ps.length 0) (nM ps) 1 ⟨.normal,[(3,.bool (mo ps ps.length))],nM ps,1⟩:=λB=>
   bO (id:=0) (ch ps.length (x8 ps ps.length) (λ_=>nM ps) (λ_ _ _=>Iff.rfl) (r:=⟨.exit 0,[(3,.bool (mo ps ps.length))],nM ps,1⟩) (λi hi=>aE1 hs hm hi (IK h hi) h63) (aA [.lt 11 ps.length ps.length false s_]) n_)
  unfold x8 at lo;have e0:mo ps 0=true:=rfl;rw[e0]at lo;generalize mo ps ps.length=g at *;cases g<;>exact dV func59 (D1 ps) 61 (λw=>[.code 0 _ _ _ _ _ (lo _)])
 ·rw[h4,yJ];have lo:∀ B:aa,ah prog B 61 (.block 0 (af f59 0)) (x8 ps ps.length 0) (nM ps) 1 ⟨.ret,[(2,.bool false)],[],2⟩:=λB=>
   bO (id:=0) (ch e (x8 ps ps.length) (λ_=>nM ps) (λ_ _ _=>Iff.rfl) (r:=⟨.ret,[(2,.bool false)],[],2⟩) (λi hi=>aE1 hs hm o_ (h3 i hi) h63) (aRy hs hm h1 h2 h63) n_)
  unfold x8 at lo;have e0:mo ps 0=true:=rfl;rw[e0]at lo;exact dV func59 (D1 ps) 61 (λw=>[.code 0 _ _ _ _ _ (lo _)])
end
end
section
variable{P:Program}{B:aa}{N:Nat}
def aX.Qx(fn:Func)(key k j n m nm e size bytes off cc:Nat)(cells:aj)(q:Nat)(x:Obj)(new:aj)(lv:n+m=nm)(hx:x.reads=true)(hlen:((x.cells.drop off).take (m*size)).length=m*size)(jc:cells.length=n*size)(kT:cells++(x.cells.drop off).take (m*size)=new)
  (h1:∀ v∈x.cells,v.oneCell'=true) (bA:0<size) (h63:nm<=maxLen) (hb:nm*bytes<=140737488355328) (ho:ET P (av fn key)=some (e,size,bytes,size,true)):aX P B N:=
 .step key (av fn key) [.slice (some ⟨j,0,some 7⟩) n 0,.slice (some ⟨q,off,some 7⟩) m cc] [(k,none),(j,some (.row cells e size)),(q,some x)] (.slice (some ⟨k,0,some 7⟩) nm 0) [(k,.row new e size),(j,.dead)] (by subst lv;have hs:Ca B (.slice (some ⟨q,off,some 7⟩) m cc) m ((x.cells.drop off).take (m*size)) [(q,some x)]:=Mh (B:=B) (k:=q) (off:=off) (m:=m) (cc:=cc) hx (len:=m*size) (λh=>by rw[h,lB]);have:=Zs (B:=B) ho bA hs hlen (λv hv=>h1 v (Wu (Ia hv))) (j:=j) (n:=n) (cells:=cells) (u9 jc.symm) h63 hb k;rw[kj (u9 jc),kT]at this;exact this)
def aX.aRA(fn:Func)(key k n s:Nat)(ho:rL P (av fn key)=some (true,false,s)):aX P B N:=
 .step key (av fn key) [.slice (some ⟨k,0,some 7⟩) n 0,vI 0] [] (.slice (some ⟨k,0,some 7⟩) n 0) [] (by have:=GO (B:=B) ho (k:=k) (off:=0) (n:=n) (cc:=0) (l:=0) (h:=n) n_ (λ_=>rfl) (kU _) (bh _) (.inr rfl);simpa using this)
theorem aRB{o:Oper}{s:Nat}(ho:rL P o=some (true,false,s)){k off n cc:Nat}{x:Obj}(hx:x.gj=true)(j:Nat):
  cA P B o [.slice (some ⟨k,off,some 7⟩) n cc,vI n] [(j,none),(k,some x)] (.slice (some ⟨j,0,some 7⟩) 0 0) [(j,.view [])]:=by
 unfold rL at ho;split at ho
 ·rename_i t y lo hi bN;split at ho
  ·rename_i e ht;split at ho
   ·rename_i i hY;injection ho with ho;injection ho with h1 ho;injection ho with h2 h3;cases lo with
    |none=>cases h1
    |some yl=>
    cases hi with
    |some yh=>cases h2
    |none=>
    refine gY.step λι c ρ w aN hm hn=>?_;have hj:c j=none:=hn (j,none) s_;have hk:c k=some x:=hn (k,some x) s_;rw[bN]at aN;obtain⟨u,u2,hu,hc,dj⟩:=jx aN;have dK:ρ y=u:=by simp[Op.operands]at hu;exact hu.1
    have fq:ρ yl=u2:=by simp[Op.operands]at hu;exact hu.2
    have dj:=dj.eR rfl;have Lh:∀ y code,n<=y->(Instr.sliceBound (.int .i64 n) y code).run P w=.ok n w:=by intro y code hq;have:(0:Int)<=n/\(n:Int)<=y:=⟨by omega,by omega⟩;simp[Instr.sliceBound,asIntOf,this]
    rcases hc.gW rfl with ⟨hb,kh,pP,yo,he⟩|⟨b,oo,cap,c',hb,lp,mz,he⟩
    ·refine⟨dB ι j .nil,.slice none 0 0,w,gC (hm.dr j hj),.slcN (fE _ _ _),hm.add hj (.inl ⟨rfl,rfl⟩) n_ n_ n_,.inl ?_⟩;subst kh;have kF:∀ code,(Instr.sliceBound (.int .i64 0) 0 code).run P w=.ok 0 w:=λcode=>by simp[Instr.sliceBound,asIntOf]
     simp only[execOp,bN];simp[Instr.sliceAt,iI ht,Instr.slice,dK,fq,dj,he,vI,Instr.sliceBounds,kF,sizeOf,typeInfo,hY]
    ·dsimp only at hb he;obtain⟨o1,xa⟩:∃ o1,o1=(if c'=n then oo+off else oo+off+n*i.size):=⟨_,rfl⟩;have hsn:=hm.seen k x b oo cap hk hx hb;refine⟨dB ι j (.at b o1 (c'-n)),.slice (some ⟨b,o1+0,none⟩) 0 (c'-n),w,gC (hm.dr j hj),.slc (fE _ _ _) (kU _) (jZ _),hm.add hj (.inr ⟨b,o1,c'-n,[],rfl,.nil,λj u h=>by simp at h⟩) n_ n_ (λb1 o2 lS _ e=>?_),.inl ?_⟩
     ·injection e with e1 e2 e3;subst e1;exact hsn
     ·simp only[execOp,bN];by_cases iH:c'=n
      ·rw[aw iH]at xa;subst xa;subst iH;simp[Instr.sliceAt,iI ht,Instr.slice,dK,fq,dj,he,vI,Instr.sliceBounds,Lh c' _ (bh _),sizeOf,typeInfo,hY]
      ·rw[ao iH]at xa;subst xa;simp[Instr.sliceAt,iI ht,Instr.slice,dK,fq,dj,he,vI,Instr.sliceBounds,Lh n _ (bh _),sizeOf,typeInfo,hY,iH,Aw]
   ·cases ho
  ·cases ho
 ·cases ho
def aX.aRC(fn:Func)(key k off n cc s j:Nat)(x:Obj)(hx:x.gj=true)(ho:rL P (av fn key)=some (true,false,s)):aX P B N:=
 .step key (av fn key) [.slice (some ⟨k,off,some 7⟩) n cc,vI n] [(j,none),(k,some x)] (.slice (some ⟨j,0,some 7⟩) 0 0) [(j,.view [])] (aRB ho hx j)
end
section
open V3 (dot ax cL smul)
def aVg:List (V3 K)->V3 K->List (V3 K)
 |[],v=>[v]
 |p::l,v=>if dU p v=0 then p::l else if 0<dU p v then v::p::l else p::aVg l v
theorem Qy(v:V3 K):∀ vs:List (V3 K),(∃(i:Nat) (p:V3 K),vs[i]?=some p/\dU p v=0/\(∀(j:Nat) (q:V3 K),j<i->vs[j]?=some q->dU q v<0)/\aVg vs v=vs)\/
  ∃ i:Nat,i<=vs.length/\(∀(j:Nat) (q:V3 K),j<i->vs[j]?=some q->dU q v<0)/\(i=vs.length\/∃ p,vs[i]?=some p/\0<dU p v)/\aVg vs v=vs.take i++[v]++vs.drop i
 |[]=>.inr ⟨0,bh _,λj q hj=>by omega,.inl rfl,rfl⟩
 |p::l=>by
  unfold aVg;by_cases h0:dU p v=0
  ·rw[aw h0];exact .inl ⟨0,p,rfl,h0,λj q hj=>by omega,rfl⟩
  ·rw[ao h0];by_cases h1:0<dU p v
   ·rw[aw h1];exact .inr ⟨0,kU _,λj q hj=>by omega,.inr ⟨p,rfl,h1⟩,rfl⟩
   ·rw[ao h1];have dq:∀{i:Nat} (H:∀(j:Nat) (q:V3 K),j<i->l[j]?=some q->dU q v<0) (j:Nat) (q:V3 K),j<i+1->(p::l)[j]?=some q->dU q v<0:=λ{i} H j q hj hq=>by
     cases j with
     |zero=>simp at hq;subst hq;omega
     |succ j=>exact H j q o_ (by simpa using hq)
    rcases Qy v l with ⟨i,q,q1,q2,q3,q4⟩|⟨i,q1,q2,q3,q4⟩
    ·exact .inl ⟨i+1,q,by simpa using q1,q2,dq q3,by rw[q4]⟩
    ·refine .inr ⟨i+1,by simpa using q1,dq q2,?_,by rw[q4];rfl⟩;rcases q3 with h|⟨q,h,h2⟩
     ·exact .inl (by rw[h];rfl)
     ·exact .inr ⟨q,by simpa using h,h2⟩
theorem aRD{a b:Int}{t:Bool}(h:decide (a=b)=t):Value.bool (a==b)=.bool t:=by
 by_cases e:a=b
 ·rw[aB e]at h;subst h;exact xT e
 ·rw[aJ e]at h;subst h;exact pF e
theorem aRE{vs:List (V3 K)}{i:Nat}{p:V3 K}(h:vs[i]?=some p):du prog 33 (aR vs) (i*30)=some (bP p):=sj (by rw[Cd,h];rfl)
theorem aE2(vs:List (V3 K))(i:Nat):(aR vs).drop (i*30)=aR (vs.drop i):=by unfold aR;rw[UM gh,List.map_drop]
theorem Qz(vs:List (V3 K))(i:Nat):(aR vs).take (i*30)=aR (vs.take i):=by unfold aR;rw[UN gh,Co]
section
variable{Bs:aa}{vs:List (V3 K)}{v:V3 K}{m:Nat}
def x9(n i:Nat):aV:=[(5,vI i),(0,sl 0 n),(3,ptr 1)]
def tU(vs:List (V3 K))(v:V3 K):aH:=[(0,.view (aR vs)),(1,.aI (cC v).cs 33)]
noncomputable def WE{n i:Nat}{p:V3 K}{t:Bool}(hi:i<n)(hp:vs[i]?=some p)(sp:aF m p)(sv:aF m v)(hm:8*m+100<=aC)(ht:decide (dU p v=0)=t)(more:bE prog Bs 36):bE prog Bs 36:=
 .lt 10 i n true (aB hi)::.c9 f102 13 0 n i 30 hi k_::.ld f102 14 33 0 (i*30) (.view (aR vs)) (bP p) rfl (aRE hp) k_::(aVB sp sv o_).at 16::.rw 18 _ (.bool t) (aRD ht)::more
theorem aE3{n i:Nat}{p:V3 K}(hi:i<n)(hp:vs[i]?=some p)(sp:aF m p)(sv:aF m v)(hm:8*m+100<=aC)(hb:dU p v<0)(h63:n<1000):
  ah prog Bs 36 (aE (af f102 0)) (x9 n i) (tU vs v) 2 ⟨.normal,x9 n (i+1),tU vs v,2⟩:=
 aA (WE hi hp sp sv hm (aJ o_) [.rw 21 _ (.bool false) (Qt (z:=dU p v) (t:=false) (aB o_)),.sum 23 i 1 (i+1) rfl o_])
theorem aRF{n i:Nat}{p:V3 K}(hi:i<n)(hp:vs[i]?=some p)(sp:aF m p)(sv:aF m v)(hm:8*m+100<=aC)(hb:dU p v=0):
  ah prog Bs 36 (aE (af f102 0)) (x9 n i) (tU vs v) 2 ⟨.ret,[(4,sl 0 n)],tU vs v,2⟩:=
 aA (WE hi hp sp sv hm (aB hb) [])
theorem aRG{n i:Nat}{p:V3 K}(hi:i<n)(hp:vs[i]?=some p)(sp:aF m p)(sv:aF m v)(hm:8*m+100<=aC)(hb:0<dU p v):
  ah prog Bs 36 (aE (af f102 0)) (x9 n i) (tU vs v) 2 ⟨.exit 0,x9 n i,tU vs v,2⟩:=
 aA (WE hi hp sp sv hm (aJ o_) [.rw 21 _ (.bool true) (Qt (z:=dU p v) (t:=true) (aJ o_))])
theorem aRH(hs:∀ p∈vs,aF m p)(sv:aF m v)(hm:8*m+100<=aC)(h63:vs.length<1000){i:Nat}(hi:i<=vs.length)(h1:∀(j:Nat) (q:V3 K),j<i->vs[j]?=some q->dU q v<0)(h2:i=vs.length\/∃ p,vs[i]?=some p/\0<dU p v):
  ah prog Bs 36 (.block 0 (af f102 0)) (x9 vs.length 0) (tU vs v) 2 ⟨.normal,x9 vs.length i,tU vs v,2⟩:=
 bO (id:=0) (ch i (x9 vs.length) (λ_=>tU vs v) (λ_ _ _=>Iff.rfl) (r:=⟨.exit 0,x9 vs.length i,tU vs v,2⟩) (λj hj=>by
  have hx:vs[j]?=some vs[j]:=bd o_;exact aE3 o_ hx (hs _ (dS _)) sv hm (h1 j _ hj hx) h63) (by
  rcases h2 with rfl|⟨p,h2,h3⟩
  ·exact aA [.lt 10 vs.length vs.length false s_]
  ·exact aRG (eE.1 h2).1 h2 (hs p (cQ h2)) sv hm h3) n_)
theorem aRI(hs:∀ p∈vs,aF m p)(sv:aF m v)(hm:8*m+100<=aC)(h63:vs.length<1000){i:Nat}{p:V3 K}(hp:vs[i]?=some p)(h0:dU p v=0)(h1:∀(j:Nat) (q:V3 K),j<i->vs[j]?=some q->dU q v<0){w:World}{va:Value}(ga:cK w va vs.length (aR vs)):
  Calls prog 102 #[va,bP v] w λe w'=>e=.returned va/\Below w.heap.size w w':=by
 have hl:∀ s∈[cz.row va vs.length (aR vs),cz.plain (bP v)],s.OK w:=by
  intro s hs;simp at hs;rcases hs with rfl|rfl
  ·exact⟨ga,bf.1 (dW _)⟩
  ·rfl
 have al:=(eE.1 hp).1;have lo:ah prog (aa.at w) 36 (.block 0 (af f102 0)) (x9 vs.length 0) (tU vs v) 2 ⟨.ret,[(4,sl 0 vs.length)],tU vs v,2⟩:=
  bO (id:=0) (ch i (x9 vs.length) (λ_=>tU vs v) (λ_ _ _=>Iff.rfl) (r:=⟨.ret,[(4,sl 0 vs.length)],tU vs v,2⟩) (λj hj=>by have hx:vs[j]?=some vs[j]:=bd o_;exact aE3 o_ hx (hs _ (dS _)) sv hm (h1 j _ hj hx) h63) (aRF al hp (hs p (cQ hp)) sv hm h0) n_)
 refine lC (Q:=λe w'=>e=.returned va/\Below w.heap.size w w') mixed func102 [cz.row va vs.length (aR vs),cz.plain (bP v)] hl 100 (N:=36) k_
  (rs:=[(.code 0 _ _ _ _ _ lo:aX prog (aa.at w) 36)]) (v:=sl 0 vs.length) (ms:=[]) k_ λau bY v' w' jY bj _ de=>⟨?_,bj.base⟩
 cases de with
 |cons h5 _=>rw[Jy jY h5];rfl
end
section
variable{vs:List (V3 K)}{v:V3 K}{m:Nat}
noncomputable def WG(Bs:aa)(vs:List (V3 K))(v:V3 K)(i:Nat)(hi:i<=vs.length)(h63:vs.length<1000)(more:bE prog Bs 36):bE prog Bs 36:=
 .Lc f102 24 2 33 30 zV.v k_::.upto f102 27 0 vs.length i 30 hi k_::
 .Qx f102 28 3 2 0 i i 33 30 360 0 0 [] 0 (.view (aR vs)) (aR (vs.take i)) (jZ i) rfl (by
   show((aR vs).drop 0 |>.take (i*30)).length=i*30;rw[l5,Qz,su,jL,nV hi]) rfl (by
   show[]++(((aR vs).drop 0).take (i*30))=_;rw[l5,Qz];rfl) (K4 vs) d_ (by simp[maxLen];omega) o_ k_::
 .bs f102 30 4 1 33 30 [0] zV.v [bP v] (aR [v]).toArray (.row (aR [v]) 33 30) rfl (bf.1 k_) (bf.1 (dW _)) k_ k_ d_ d_ k_::
 .pj f102 31 5 3 i 1 (i+1) 33 30 360 (aR (vs.take i)) 4 (.row (aR [v]) 33 30) (aR (vs.take i++[v])) rfl rfl (su _) (by rw[su,jL,nV hi]) (U1 _ _) (K4 _) d_ (by simp[maxLen];omega) o_ k_::more
theorem aRJ(hs:∀ p∈vs,aF m p)(sv:aF m v)(hm:8*m+100<=aC)(h63:vs.length<1000){i:Nat}(hi:i<=vs.length)(h1:∀(j:Nat) (q:V3 K),j<i->vs[j]?=some q->dU q v<0)(h2:i=vs.length\/∃ p,vs[i]?=some p/\0<dU p v):
  lL prog 102 [uR vs,.p (bP v)] 33 30 (vs.length+1) (aR (vs.take i++[v]++vs.drop i)):=by
 have ay:([uR vs,aP.p (bP v)].all aP.ok)=true:=by simp only[dG,fB,jk];rw[show(uR vs).ok=true from dW vs];rfl
 have lo:=λBs=>aRH (Bs:=Bs) hs sv hm h63 hi h1 h2;have hlen:(aR (vs.take i++[v]++vs.drop i)).length=(vs.length+1)*30:=by
  rw[su];congr 1
  simp[jL];omega
 have fK:(aR (vs.take i++[v])).length=(i+1)*30:=by
  rw[su];congr 1
  simp[jL];omega
 rcases eC i vs.length with al|dM
 ·refine zg (k:=6) mixed func102 ay 200 (N:=36) k_ (λw=>.code 0 _ _ _ _ _ (lo _)::WG _ vs v i hi h63 [.behind f102 34 0 vs.length i (vs.length-i) 30 o_ o_ k_,.Qx f102 35 6 5 (i+1) (vs.length-i) (vs.length+1) 33 30 360 (i*30) i (aR (vs.take i++[v])) 0 (.view (aR vs)) (aR (vs.take i++[v]++vs.drop i)) o_ rfl (by
    show(((aR vs).drop (i*30)).take ((vs.length-i)*30)).length=(vs.length-i)*30;rw[aE2,Qz,su,jL,vg,Nat.min_self]) fK (by
    show _++(((aR vs).drop (i*30)).take ((vs.length-i)*30))=_;rw[aE2,Qz,show(vs.drop i).take (vs.length-i)=vs.drop i from kj (by rw[vg];exact bh _),U1]) (K4 vs) d_ (by simp[maxLen];omega) o_ k_]) (λw=>k_) (dW _) hlen
 ·have ct:i=vs.length:=by omega
  subst ct;have e:vs.take vs.length++[v]++vs.drop vs.length=vs.take vs.length++[v]:=by rw[List.drop_length,iY]
  rw[e]at hlen ⊢;by_cases h0:vs.length=0
  ·refine zg (k:=6) mixed func102 ay 200 (N:=36) k_ (λw=>.code 0 _ _ _ _ _ (lo _)::WG _ vs v vs.length hi h63 [.rw 33 (vI vs.length) (vI 0) (by rw[h0]),.aRA f102 34 0 vs.length 30 k_,.Qx f102 35 6 5 (vs.length+1) vs.length (vs.length+1) 33 30 360 0 0 (aR (vs.take vs.length++[v])) 0 (.view (aR vs)) (aR (vs.take vs.length++[v])) o_ rfl (by
     show(((aR vs).drop 0).take (vs.length*30)).length=vs.length*30;rw[h0];rfl) fK (by
     show _++(((aR vs).drop 0).take (vs.length*30))=_;rw[show((aR vs).drop 0).take (vs.length*30)=[]by rw[h0,lB,ZH]];exact iY _) (K4 vs) d_ (by simp[maxLen];omega) o_ k_]) (λw=>k_) (dW _) hlen
  ·refine zg (k:=7) mixed func102 ay 200 (N:=36) k_ (λw=>.code 0 _ _ _ _ _ (lo _)::WG _ vs v vs.length hi h63 [.aRC f102 34 0 0 vs.length 0 30 6 (.view (aR vs)) rfl k_,.pj f102 35 7 5 (vs.length+1) 0 (vs.length+1) 33 30 360 (aR (vs.take vs.length++[v])) 6 (.view []) (aR (vs.take vs.length++[v])) rfl rfl rfl fK (iY _) n_ d_ (by simp[maxLen];omega) o_ k_]) (λw=>k_) (dW _) hlen
end
def ee(ps:List (HS K))(i:Nat):HS K:=match ps[i]? with|some p=>p|none=>⟨0,0⟩
theorem pI{ps:List (HS K)}{i:Nat}{p:HS K}(h:ps[i]?=some p):ee ps i=p:=by unfold ee;rw[h]
def IM(i j k:Nat)(x:V3 K)(l:Nat)(p:HS K):Bool:=decide (l=i)||(decide (l=j)||(decide (l=k)||decide (OF.az (dot p.n x-p.d)<=0)))
def Ak(ps:List (HS K))(i j k:Nat)(x:V3 K):Bool:=(List.range ps.length).all λl=>IM i j k x l (ee ps l)
def tV(ps:List (HS K))(acc:List (V3 K))(i j k:Nat):List (V3 K):=
 if cL (ee ps i).n (ee ps j).n (ee ps k).n=0 then acc else if Ak ps i j k (kR (ee ps i) (ee ps j) (ee ps k))then aVg acc (kR (ee ps i) (ee ps j) (ee ps k))else acc
theorem aRK{Bs:aa}{vs:List (V3 K)}{v:V3 K}{m:Nat}(hs:∀ p∈vs,aF m p)(sv:aF m v)(hm:8*m+100<=aC)(h63:vs.length<1000){i:Nat}{p:V3 K}(hp:vs[i]?=some p)(h0:dU p v=0)(h1:∀(j:Nat) (q:V3 K),j<i->vs[j]?=some q->dU q v<0)
  {o:Oper} {y:Operand} (ho:dp o.op=some y) (k:Nat):cA prog Bs o [.func (.func 102) #[] #[],sl k vs.length,bP v] [(k,some (.row (aR vs) 33 30))] (sl k vs.length) []:=by
 refine jB (fi:=[]) (ca:=[]) ho k_ λι c w bj hn args' ba=>?_;rw[jo,iY]at ba;obtain⟨va,vb,rfl,hv,iw⟩:=jx ba;rw[iw.eR rfl];have hk:c k=some _:=hn _ (aT ..);have hr:=oH (len:=vs.length*30) bj hk rfl (bf.1 (dW vs)) (λh=>by rw[h]) hv;have e:(((Obj.row (aR vs) 33 30).cells.drop 0).take (vs.length*30))=aR vs:=by show((aR vs).drop 0).take (vs.length*30)=_;rw[l5,kj (by rw[su];exact bh _)]
 rw[e]at hr;refine(aRI hs sv hm h63 hp h0 h1 hr).mono ?_
 rintro e w' ⟨rfl,hb⟩
 exact⟨ι,_,rfl,Map.le.refl _,hv,bj.call hb⟩
section
variable{Bs:aa}{ps:List (HS K)}{m:Nat}
def IP(n i j k l:Nat)(f:Bool):aV:=[(10,vI l),(9,.bool f),(0,sl 0 n),(4,vI i),(5,vI j),(6,vI k),(7,ptr 4)]
def Al(ps:List (HS K))(x:V3 K):aH:=[(0,.view (aQ ps)),(4,.aI (cC x).cs 33)]
theorem aE4{i j k l:Nat}{p:HS K}{x:V3 K}{t:Bool}(hl:l<ps.length)(hp:ps[l]?=some p)(sp:bo m p)(sx:aF m x)(pn:p.n≠0)(hm:100*m+1000<=aC)(ht:IM i j k x l p=t)(h63:ps.length<1000):
  ah prog Bs 81 (aE (af f60 6)) (IP ps.length i j k l true) (Al ps x) 5 ⟨.normal,IP ps.length i j k (l+1) t,Al ps x,5⟩:=by
 unfold IM at ht;have sd:=aVh sp sx o_ pn;by_cases h1:l=i
 ·rw[aB h1,GL]at ht;subst ht;exact aA [.lt 48 l ps.length true (aB hl),.fh 56 l i true (aB h1),.sum 53 l 1 (l+1) rfl o_]
 rw[aJ h1,yK]at ht;by_cases h2:l=j
 ·rw[aB h2,GL]at ht;subst ht;exact aA [.lt 48 l ps.length true (aB hl),.fh 56 l i false (aJ h1),.fh 60 l j true (aB h2),.sum 53 l 1 (l+1) rfl o_]
 rw[aJ h2,yK]at ht;by_cases h3:l=k
 ·rw[aB h3,GL]at ht;subst ht;exact aA [.lt 48 l ps.length true (aB hl),.fh 56 l i false (aJ h1),.fh 60 l j false (aJ h2),.fh 65 l k true (aB h3),.sum 53 l 1 (l+1) rfl o_]
 rw[aJ h3,yK]at ht;exact aA [.lt 48 l ps.length true (aB hl),.fh 56 l i false (aJ h1),.fh 60 l j false (aJ h2),.fh 65 l k false (aJ h3),.c9 f60 70 0 ps.length l 40 hl k_,.ld f60 71 35 0 (l*40) (.view (aQ ps)) (cB p) rfl (Qs hp) k_,sd.at 73,.rw 74 (.bool (decide (OF.az (dot p.n x-p.d)<=0))) (.bool t) (by rw[ht]),.sum 53 l 1 (l+1) rfl o_]
theorem aRL{i j k l:Nat}{x:V3 K}:ah prog Bs 81 (aE (af f60 6)) (IP ps.length i j k l false) (Al ps x) 5 ⟨.exit 6,[(9,.bool false)],Al ps x,5⟩:=by
 by_cases h:l<ps.length
 ·exact aA [.lt 48 l ps.length true (aB h)]
 ·exact aA [.lt 48 l ps.length false (aJ h)]
theorem aRM{i j k:Nat}{x:V3 K}(hs:∀ p∈ps,bo m p/\p.n≠0)(sx:aF m x)(hm:100*m+1000<=aC)(h63:ps.length<1000):
  ah prog Bs 81 (.block 6 (af f60 6)) (IP ps.length i j k 0 true) (Al ps x) 5 ⟨.normal,[(9,.bool (Ak ps i j k x))],Al ps x,5⟩:=by
 unfold Ak;rcases IJ (λl=>IM i j k x l (ee ps l)) ps.length with h|⟨n,hn,h2,h3,h4⟩
 ·rw[h];exact bO (id:=6) (ch ps.length (λl=>IP ps.length i j k l true) (λ_=>Al ps x) (λ_ _ _=>Iff.rfl) (r:=⟨.exit 6,[(9,.bool true)],Al ps x,5⟩) (λl hl=>by have hx:ps[l]?=some ps[l]:=bd hl;have:=IK h hl;rw[pI hx]at this;exact aE4 hl hx (hs _ (dS hl)).1 sx (hs _ (dS hl)).2 hm this h63) (aA [.lt 48 ps.length ps.length false s_]) n_)
 ·rw[h4];exact bO (id:=6) (ch (n+1) (λl=>IP ps.length i j k l (decide (l<=n))) (λ_=>Al ps x) (λ_ _ _=>Iff.rfl) (r:=⟨.exit 6,[(9,.bool false)],Al ps x,5⟩) (λl hl=>by
   have mQ:l<ps.length:=by omega
   have hx:ps[l]?=some ps[l]:=bd mQ;simp only[aB (show l<=n by omega)];refine aE4 mQ hx (hs _ (dS mQ)).1 sx (hs _ (dS mQ)).2 hm ?_ h63;by_cases he:l=n
   ·subst he;rw[pI hx]at h2;rw[h2];exact(aJ o_).symm
   ·have:=h3 l o_;rw[pI hx]at this;rw[this];exact(aB o_).symm) (by
   simp only[aJ (show ¬n+1<=n by omega)];exact aRL) n_)
def LO(n i j k L:Nat):aV:=[(6,vI k),(5,vI j),(4,vI i),(0,sl 0 n),(3,sl 3 L)]
def oA(ps:List (HS K)):aH:=[(0,.view (aQ ps))]
def oB(acc:List (V3 K)):List Obj:=[.row (aR acc) 33 30]
noncomputable def QA{i j k:Nat}{p q r:HS K}(hi:i<ps.length)(hj:j<i)(hk:k<j)(hp:ps[i]?=some p)(hq:ps[j]?=some q)(hr:ps[k]?=some r)(sp:bo m p)(sq:bo m q)(sr:bo m r)(pn:p.n≠0)(qn:q.n≠0)(rn:r.n≠0)(hm:200*m+1000<=aC){u:Value}
  (hu:(if cL p.n q.n r.n=0 then Value.tuple #[zV.v,.int .i64 11]else .tuple #[bP (kR p q r),.int .i64 0])=u) (more:bE prog Bs 81):bE prog Bs 81:=
 .lt 24 k j true (aB hk)::.c9 f60 30 0 ps.length i 40 hi k_::.ld f60 31 35 0 (i*40) (.view (aQ ps)) (cB p) rfl (Qs hp) k_::.c9 f60 34 0 ps.length j 40 o_ k_::.ld f60 35 35 0 (j*40) (.view (aQ ps)) (cB q) rfl (Qs hq) k_::
 .c9 f60 38 0 ps.length k 40 o_ k_::.ld f60 39 35 0 (k*40) (.view (aQ ps)) (cB r) rfl (Qs hr) k_::(hu▸aP4 sp sq sr hm pn qn rn:aD prog 101 [cB p,cB q,cB r] u).at 40::more
theorem aRN{i j k M:Nat}{acc:List (V3 K)}(hs:∀ p∈ps,bo m p/\p.n≠0)(hm:200*m+1000<=aC)(hM:120*m+365<=M)(Am:100*M+1000<=aC)(ha:∀ v∈acc,aF M v)(hL:acc.length<1000)(hi:i<ps.length)(hj:j<i)(hk:k<j)(h63:ps.length<1000):
  ∃ σ ij,(∀ BJ:List (V3 K),CL (oA ps++dP [some 2] (oB BJ)) 3 σ (LO ps.length i j (k+1) (tV ps acc i j k).length) (oA ps) (oB (tV ps acc i j k))=true)/\
   ah prog Bs 81 (aE (af f60 4)) (LO ps.length i j k acc.length) (oA ps++marks 3 (oB acc)) 4 ⟨.normal,gR 3 σ (LO ps.length i j (k+1) (tV ps acc i j k).length),oA ps++dP σ (oB (tV ps acc i j k)),ij⟩:=by
 have hp:ps[i]?=some ps[i]:=bd hi;have hq:ps[j]?=some ps[j]:=bd o_;have hr:ps[k]?=some ps[k]:=bd o_;obtain⟨sp,pn⟩:=hs _ (dS hi);obtain⟨sq,qn⟩:=hs _ (dS (show j<ps.length by omega));obtain⟨sr,rn⟩:=hs _ (dS (show k<ps.length by omega));unfold tV;rw[pI hp,pI hq,pI hr];generalize ps[i]=p at *;generalize ps[j]=q at *;generalize ps[k]=r at *;by_cases hd:cL p.n q.n r.n=0
 ·rw[aw hd];refine⟨[some 3],5,λBJ=>k_,?_⟩;exact fe mixed 200 (QA hi hj hk hp hq hr sp sq sr pn qn rn hm (aw hd) [.sum 26 k 1 (k+1) rfl o_]) k_
 ·rw[ao hd];have sx:aF M (kR p q r):=(aF.kR sp sq sr hd).mono hM;have mM:m<=M:=by clear hm Am;omega
  have pd:∀ p∈ps,bo M p/\p.n≠0:=λt ht=>⟨(hs t ht).1.mono mM,(hs t ht).2⟩;have lo:=aRM (Bs:=Bs) (i:=i) (j:=j) (k:=k) pd sx Am h63;generalize kR p q r=x at *;by_cases hb:Ak ps i j k x=true
  ·rw[aw hb];rw[hb]at lo;rcases Qy x acc with ⟨t,y,h1,h2,h3,h4⟩|⟨t,h1,h2,h3,h4⟩
   ·rw[h4];refine⟨[some 3],5,λBJ=>k_,?_⟩;exact fe mixed 200 (QA hi hj hk hp hq hr sp sq sr pn qn rn hm (ao hd) [.code 6 _ _ _ _ _ lo,.step 79 (av f60 79) [.func (.func 102) #[] #[],sl 3 acc.length,bP x] [(3,some (.row (aR acc) 33 30))] (sl 3 acc.length) [] (aRK ha sx (by clear hm;omega) hL h1 h2 h3 (y:=.func 102) k_ 3),.sum 26 k 1 (k+1) rfl o_]) k_
   ·have hlen:(aVg acc x).length=acc.length+1:=by rw[h4];simp only[iJ,jL,vg,vS];omega
    have hc:=aRJ ha sx (by clear hm;omega) hL h1 h2 h3;rw[<-h4]at hc;rw[hlen];generalize aVg acc x=aE5 at *;refine⟨[some 5],6,λBJ=>k_,?_⟩;exact fe mixed 200 (QA hi hj hk hp hq hr sp sq sr pn qn rn hm (ao hd) [.code 6 _ _ _ _ _ lo,.step 79 (av f60 79) [.func (.func 102) #[] #[],sl 3 acc.length,bP x] [(5,none),(3,some (.row (aR acc) 33 30))] (sl 5 (acc.length+1)) [(5,.row (aR aE5) 33 30)]
      (qL hc (.w (x:=.row (aR acc) 33 30) rfl (dW acc) xB (.p k_ .nil)) (x:=.func 102) k_ k_ (dW aE5) 5),
     .sum 26 k 1 (k+1) rfl o_]) k_
  ·have jz:Ak ps i j k x=false:=by cases h:Ak ps i j k x<;>first|rfl|exact absurd h hb
   rw[ao hb];rw[jz]at lo;refine⟨[some 3],5,λBJ=>k_,?_⟩;exact fe mixed 200 (QA hi hj hk hp hq hr sp sq sr pn qn rn hm (ao hd) [.code 6 _ _ _ _ _ lo,.sum 26 k 1 (k+1) rfl o_]) k_
end
def o6(ps:List (HS K))(acc:List (V3 K))(i j:Nat):Nat->List (V3 K)
 |0=>acc
 |k+1=>tV ps (o6 ps acc i j k) i j k
def nN(ps:List (HS K))(acc:List (V3 K))(i:Nat):Nat->List (V3 K)
 |0=>acc
 |j+1=>o6 ps (nN ps acc i j) i j j
def rj(ps:List (HS K)):Nat->List (V3 K)
 |0=>[]
 |i+1=>nN ps (rj ps i) i i
def eP(ps:List (HS K)):List (V3 K):=rj ps ps.length
theorem aRO{v x:V3 K}:∀{vs:List (V3 K)},x∈aVg vs v->x∈vs\/x=v:=λ{vs} h=>by
 rcases Qy v vs with ⟨_,_,_,_,_,h4⟩|⟨t,_,_,_,h4⟩
 ·rw[h4]at h;exact .inl h
 ·rw[h4]at h;simp only[dY,KH]at h;rcases h with (h|h)|h
  ·exact .inl (Ia h)
  ·exact .inr h
  ·exact .inl (Wu h)
theorem aRP(v:V3 K)(vs:List (V3 K)):(aVg vs v).length<=vs.length+1:=by
 rcases Qy v vs with ⟨_,_,_,_,_,h4⟩|⟨t,_,_,_,h4⟩
 ·rw[h4];omega
 ·rw[h4];simp only[iJ,jL,vg,vS];omega
theorem aRQ(ps:List (HS K))(acc:List (V3 K))(i j k:Nat):(tV ps acc i j k).length<=acc.length+1:=by
 unfold tV;by_cases h:cL (ee ps i).n (ee ps j).n (ee ps k).n=0
 ·rw[aw h];omega
 ·rw[ao h];split
  ·exact aRP _ _
  ·omega
theorem WH{ps:List (HS K)}{m:Nat}(hs:∀ p∈ps,bo m p/\p.n≠0){i:Nat}(hi:i<ps.length):bo m (ee ps i):=by rw[pI (bd hi)];exact(hs _ (dS hi)).1
theorem aRR{ps:List (HS K)}{m M:Nat}(hs:∀ p∈ps,bo m p/\p.n≠0)(hM:120*m+365<=M){acc:List (V3 K)}(ha:∀ v∈acc,aF M v){i j k:Nat}(hi:i<ps.length)(hj:j<ps.length)(hk:k<ps.length):∀ v∈tV ps acc i j k,aF M v:=by
 unfold tV;by_cases h:cL (ee ps i).n (ee ps j).n (ee ps k).n=0
 ·rw[aw h];exact ha
 ·rw[ao h];split
  ·intro v hv;rcases aRO hv with hv|hv
   ·exact ha v hv
   ·rw[hv];exact(aF.kR (WH hs hi) (WH hs hj) (WH hs hk) h).mono hM
  ·exact ha
section
variable{ps:List (HS K)}{m M:Nat}
theorem WI(hs:∀ p∈ps,bo m p/\p.n≠0)(hM:120*m+365<=M){acc:List (V3 K)}(ha:∀ v∈acc,aF M v){i j:Nat}(hi:i<ps.length)(hj:j<i):∀ k,k<=j->(∀ v∈o6 ps acc i j k,aF M v)/\(o6 ps acc i j k).length<=acc.length+k
 |0,_=>⟨ha,bh _⟩
 |k+1,h=>by obtain⟨h1,h2⟩:=WI hs hM ha hi hj k o_;have:=aRQ ps (o6 ps acc i j k) i j k;exact⟨aRR hs hM h1 hi o_ o_,by unfold o6;omega⟩
theorem WJ(hs:∀ p∈ps,bo m p/\p.n≠0)(hM:120*m+365<=M)(h9:ps.length<=9){acc:List (V3 K)}(ha:∀ v∈acc,aF M v){i:Nat}(hi:i<ps.length):∀ j,j<=i->(∀ v∈nN ps acc i j,aF M v)/\(nN ps acc i j).length<=acc.length+9*j
 |0,_=>⟨ha,bh _⟩
 |j+1,h=>by obtain⟨h1,h2⟩:=WJ hs hM h9 ha hi j o_;obtain⟨h3,h4⟩:=WI hs hM h1 hi (show j<i by omega) j (bh _);exact⟨h3,by unfold nN;omega⟩
theorem WK(hs:∀ p∈ps,bo m p/\p.n≠0)(hM:120*m+365<=M)(h9:ps.length<=9):∀ i,i<=ps.length->(∀ v∈rj ps i,aF M v)/\(rj ps i).length<=81*i
 |0,_=>⟨λv hv=>(by cases hv),bh _⟩
 |i+1,h=>by obtain⟨h1,h2⟩:=WK hs hM h9 i o_;obtain⟨h3,h4⟩:=WJ hs hM h9 h1 (show i<ps.length by omega) i (bh _);exact⟨h3,by unfold rj;omega⟩
theorem WL{m:Nat}:∀ x∈oA ps,fP m x.2:=λx hx=>by simp only[oA,cy,jh,ji]at hx;subst hx;exact λv hv=>iK (bf.1 (cZ ps) v hv)
theorem WM{m:Nat}{acc:List (V3 K)}:∀ x∈oB acc,fP m x:=λx hx=>by simp only[oB,cy,jh,ji]at hx;subst hx;exact λv hv=>iK (bf.1 (dW acc) v hv)
variable{Bs:aa}
theorem aRS{i j:Nat}{acc:List (V3 K)}(hs:∀ p∈ps,bo m p/\p.n≠0)(hm:200*m+1000<=aC)(hM:120*m+365<=M)(Am:100*M+1000<=aC)(ha:∀ v∈acc,aF M v)(hi:i<ps.length)(hj:j<i)(h9:ps.length<=9)(hL:acc.length+j<1000):
  ah prog Bs 81 (.block 4 (af f60 4)) (gR 3 [some 2] (LO ps.length i j 0 acc.length)) (oA ps++dP [some 2] (oB acc)) 3 ⟨.normal,[(3,sl 3 (o6 ps acc i j j).length)],oA ps++marks 3 (oB (o6 ps acc i j j)),4⟩:=by
 have:=rS (P:=prog) (B:=Bs) (N:=81) (b:=aE (af f60 4)) (next:=3) (p:=1) (r:=⟨.exit 4,[(3,sl 3 (o6 ps acc i j j).length)],oA ps++marks 3 (oB (o6 ps acc i j j)),4⟩) j
  (λk=>LO ps.length i j k (o6 ps acc i j k).length) (λ_=>oA ps) (λk=>oB (o6 ps acc i j k)) [some 2] (λ_ _=>rfl) (λ_ _=>⟨WL,WM⟩) k_ k_
  (λk hk=>by obtain⟨h1,h2⟩:=WI hs hM ha hi hj k o_;obtain⟨σ,ij,e1,e2⟩:=aRN (Bs:=Bs) hs hm hM Am h1 o_ hi hj hk o_;exact⟨σ,ij,e1 _,e2⟩)
  (by generalize o6 ps acc i j j=a;exact aA [.lt 24 j j false s_]) n_
 exact bO (id:=4) this
def WN(n i j L:Nat):aV:=[(5,vI j),(4,vI i),(0,sl 0 n),(3,sl 2 L)]
theorem aRT{i:Nat}{acc:List (V3 K)}(hs:∀ p∈ps,bo m p/\p.n≠0)(hm:200*m+1000<=aC)(hM:120*m+365<=M)(Am:100*M+1000<=aC)(ha:∀ v∈acc,aF M v)(hi:i<ps.length)(h9:ps.length<=9)(hL:acc.length+9*i<1000):
  ah prog Bs 81 (.block 2 (af f60 2)) (gR 2 [some 1] (WN ps.length i 0 acc.length)) (oA ps++dP [some 1] (oB acc)) 2 ⟨.normal,[(3,sl 2 (nN ps acc i i).length)],oA ps++marks 2 (oB (nN ps acc i i)),3⟩:=by
 have:=rS (P:=prog) (B:=Bs) (N:=81) (b:=aE (af f60 2)) (next:=2) (p:=1) (r:=⟨.exit 2,[(3,sl 2 (nN ps acc i i).length)],oA ps++marks 2 (oB (nN ps acc i i)),3⟩) i
  (λj=>WN ps.length i j (nN ps acc i j).length) (λ_=>oA ps) (λj=>oB (nN ps acc i j)) [some 1] (λ_ _=>rfl) (λ_ _=>⟨WL,WM⟩) k_ k_
  (λj hj=>by obtain⟨h1,h2⟩:=WJ hs hM h9 ha hi j o_;have lo:=aRS (Bs:=Bs) hs hm hM Am h1 hi hj h9 o_;refine⟨[some 3],4,k_,?_⟩;show ah _ _ _ _ _ _ _ ⟨.normal,gR 2 [some 3] (WN ps.length i (j+1) (o6 ps (nN ps acc i j) i j j).length),oA ps++dP [some 3] (oB (o6 ps (nN ps acc i j) i j j)),4⟩;generalize nN ps acc i j=a at *;generalize o6 ps a i j j=b at *;exact aA [.lt 19 j i true (aB hj),.code 4 _ _ _ _ _ lo,.sum 21 j 1 (j+1) rfl o_])
  (by generalize nN ps acc i i=a;exact aA [.lt 19 i i false s_]) n_
 exact bO (id:=2) this
def WO(n i L:Nat):aV:=[(4,vI i),(0,sl 0 n),(3,sl 1 L)]
theorem aRU(hs:∀ p∈ps,bo m p/\p.n≠0)(hm:200*m+1000<=aC)(hM:120*m+365<=M)(Am:100*M+1000<=aC)(h9:ps.length<=9):
  ah prog Bs 81 (.block 0 (af f60 0)) (gR 1 [none] (WO ps.length 0 0)) (oA ps++dP [none] (oB [])) 1 ⟨.normal,[(3,sl 1 (eP ps).length)],oA ps++marks 1 (oB (eP ps)),2⟩:=by
 have:=rS (P:=prog) (B:=Bs) (N:=81) (b:=aE (af f60 0)) (next:=1) (p:=1) (r:=⟨.exit 0,[(3,sl 1 (rj ps ps.length).length)],oA ps++marks 1 (oB (rj ps ps.length)),2⟩) ps.length
  (λi=>WO ps.length i (rj ps i).length) (λ_=>oA ps) (λi=>oB (rj ps i)) [none] (λ_ _=>rfl) (λ_ _=>⟨WL,WM⟩) k_ k_
  (λi hi=>by obtain⟨h1,h2⟩:=WK hs hM h9 i o_;have lo:=aRT (Bs:=Bs) hs hm hM Am h1 hi h9 o_;refine⟨[some 2],3,k_,?_⟩;show ah _ _ _ _ _ _ _ ⟨.normal,gR 1 [some 2] (WO ps.length (i+1) (nN ps (rj ps i) i i).length),oA ps++dP [some 2] (oB (nN ps (rj ps i) i i)),3⟩;generalize rj ps i=a at *;generalize nN ps a i i=b at *;exact aA [.lt 14 i ps.length true (aB hi),.code 2 _ _ _ _ _ lo,.sum 16 i 1 (i+1) rfl o_])
  (by generalize rj ps ps.length=a;exact aA [.lt 14 ps.length ps.length false s_]) n_
 exact bO (id:=0) this
theorem aRV(hs:∀ p∈ps,bo m p/\p.n≠0)(hm:200*m+1000<=aC)(hM:120*m+365<=M)(Am:100*M+1000<=aC)(h9:ps.length<=9):lL prog 60 [fC ps] 33 30 (eP ps).length (aR (eP ps)):=by
 have ay:([fC ps].all aP.ok)=true:=by simp only[dG,fB,fC,aP.ok,cZ,jk]
 have lo:=λBs=>aRU (Bs:=Bs) hs hm hM Am h9;generalize eP ps=c at *;exact zg (k:=1) mixed func60 ay 100 (N:=81) k_ (λ_=>[.code 0 _ _ _ _ _ (lo _)]) (λ_=>k_) (dW c) (su c)
end
def QB(g:V3 K)(vs:List (V3 K))(o a b:Nat):Int:=OF.az (cL g (aL vs a-aL vs o) (aL vs b-aL vs o))
def BX(g:V3 K)(vs:List (V3 K))(o a:Nat)(b:Nat):Bool:=decide (QB g vs o a b=0)
section
variable{Bs:aa}{vs:List (V3 K)}{p:HS K}{o a:Nat}{l:List Nat}{m:Nat}
def Gn(n r i:Nat):aV:=[(7,vI (i+2)),(1,sl 0 n),(2,sl 1 r),(3,ptr 2)]
def wo(vs:List (V3 K))(p:HS K)(on:List Nat):aH:=[(0,.view (aR vs)),(1,.view (ai on)),(2,.aI (cF p).cs 35)]
theorem neB{z:Int}{t:Bool}(h:decide (z=0)=!t):Value.bool (z !=0)=.bool t:=by
 congr 1
 cases t
 ·have:=kH h;subst this;rfl
 ·have:=Hs h;exact uu.2 this
theorem j9(hs:∀ v∈vs,aF m v){i:Nat}(hi:i<vs.length):aF m (aL vs i):=hs _ (cQ (ky hi))
noncomputable def flS{i b:Nat}{t:Bool}(hb:l[i]?=some b)(hn:aF m p.n)(hs:∀ v∈vs,aF m v)(ho:o<vs.length)(ha:a<vs.length)(sL:b<vs.length)(hm:200*m+400<=aC)(ht:BX p.n vs o a b=!t)(more:bE prog Bs 37):bE prog Bs 37:=
 .lt 11 (i+2) (l.length+2) true (aB (by have:=(eE.1 hb).1;omega))::.ix f143 18 1 (l.length+2) 0 o_ k_::.ld f143 19 3 1 0 (.view (ai (o::a::l))) (vI o) rfl (dJ (l:=o::a::l) (i:=0) rfl) k_::
 .c9 f143 20 0 vs.length o 30 ho k_::.ld f143 21 33 0 (o*30) (.view (aR vs)) (bP (aL vs o)) rfl (mP (ky ho)) k_::.ix f143 24 1 (l.length+2) 1 o_ k_::.ld f143 25 3 1 1 (.view (ai (o::a::l))) (vI a) rfl (dJ (l:=o::a::l) (i:=1) rfl) k_::
 .c9 f143 26 0 vs.length a 30 ha k_::.ld f143 27 33 0 (a*30) (.view (aR vs)) (bP (aL vs a)) rfl (mP (ky ha)) k_::.ix f143 31 1 (l.length+2) (i+2) (by have:=(eE.1 hb).1;omega) k_::
 .ld f143 32 3 1 (i+2) (.view (ai (o::a::l))) (vI b) rfl (dJ (l:=o::a::l) (i:=i+2) hb) k_::.c9 f143 33 0 vs.length b 30 sL k_::.ld f143 34 33 0 (b*30) (.view (aR vs)) (bP (aL vs b)) rfl (mP (ky sL)) k_::
 (aDM hn (j9 hs ho) (j9 hs ha) (j9 hs sL) hm).at 35::.rw 36 _ (.bool t) (neB ht)::more
theorem aE6{i b:Nat}(hb:l[i]?=some b)(hn:aF m p.n)(hs:∀ v∈vs,aF m v)(ho:o<vs.length)(ha:a<vs.length)(sL:b<vs.length)(hm:200*m+400<=aC)(ht:BX p.n vs o a b=true)(h63:l.length<900000):
  ah prog Bs 37 (aE (af f143 0)) (Gn vs.length (l.length+2) i) (wo vs p (o::a::l)) 3 ⟨.normal,Gn vs.length (l.length+2) (i+1),wo vs p (o::a::l),3⟩:=by
 have hi:=(eE.1 hb).1;exact fe mixed 200 (flS (t:=false) hb hn hs ho ha sL hm ht [.sum 13 (i+2) 1 (i+1+2) o_ o_]) k_
theorem aRW{i b:Nat}(hb:l[i]?=some b)(hn:aF m p.n)(hs:∀ v∈vs,aF m v)(ho:o<vs.length)(ha:a<vs.length)(sL:b<vs.length)(hm:200*m+400<=aC)(ht:BX p.n vs o a b=false):
  ah prog Bs 37 (aE (af f143 0)) (Gn vs.length (l.length+2) i) (wo vs p (o::a::l)) 3 ⟨.ret,[(6,.bool false)],wo vs p (o::a::l),3⟩:=
 fe mixed 200 (flS (t:=true) hb hn hs ho ha sL hm ht []) k_
theorem aRX(hn:aF m p.n)(hs:∀ v∈vs,aF m v)(gL:∀ x∈o::a::l,x<vs.length)(hm:200*m+400<=aC)(h63:l.length<900000):cD prog 143 [.p (cB p),.r vs.length (aR vs),.r (l.length+2) (ai (o::a::l))] (.bool (l.all (BX p.n vs o a))):=by
 have ay:([aP.p (cB p),.r vs.length (aR vs),.r (l.length+2) (ai (o::a::l))].all aP.ok)=true:=by simp only[dG,fB,aP.ok,jk];rw[show(aR vs).all flat=true from dW vs,show(ai (o::a::l)).all flat=true from gV _];rfl
 have ho:=gL o (aT ..);have ha:=gL a (bB _ (aT ..));have hl:∀{i b:Nat},l[i]?=some b->b<vs.length:=λh=>gL _ (bB _ (bB _ (cQ h)));rcases BU (BX p.n vs o a) l with h|⟨n,x,h1,h2,h3,h4⟩
 ·rw[h];have lo:∀ B:aa,ah prog B 37 (.block 0 (af f143 0)) (Gn vs.length (l.length+2) 0) (wo vs p (o::a::l)) 3 ⟨.normal,[],wo vs p (o::a::l),3⟩:=λB=>
   bO (id:=0) (ch l.length (λi=>Gn vs.length (l.length+2) i) (λ_=>wo vs p (o::a::l)) (λi k _=>Iff.rfl) (r:=⟨.exit 0,[],wo vs p (o::a::l),3⟩) (λi hi=>by have hx:l[i]?=some l[i]:=bd hi;exact aE6 hx hn hs ho ha (hl hx) hm (D4 h hx) h63) (aA [.lt 11 (l.length+2) (l.length+2) false s_]) n_)
  exact dV func143 ay 37 (λw=>[.code 0 _ _ _ _ _ (lo _)])
 ·rw[h4];have lo:∀ B:aa,ah prog B 37 (.block 0 (af f143 0)) (Gn vs.length (l.length+2) 0) (wo vs p (o::a::l)) 3 ⟨.ret,[(6,.bool false)],wo vs p (o::a::l),3⟩:=λB=>
   bO (id:=0) (ch n (λi=>Gn vs.length (l.length+2) i) (λ_=>wo vs p (o::a::l)) (λi k _=>Iff.rfl) (r:=⟨.ret,[(6,.bool false)],wo vs p (o::a::l),3⟩) (λi hi=>by have al:=(eE.1 h1).1;have hx:l[i]?=some l[i]:=bd o_;exact aE6 hx hn hs ho ha (hl hx) hm (h3 i _ hi hx) h63) (aRW h1 hn hs ho ha (hl h1) hm h2) n_)
  exact dV func143 ay 37 (λw=>[.code 0 _ _ _ _ _ (lo _)])
end
def LP(vs:List (V3 K))(i k j:Nat):Bool:=decide (OF.az (dot (ax (aL vs (i+1)-aL vs 0) (aL vs (k+1)-aL vs 0)) (aL vs (j+1)-aL vs 0))=0)
def Gp(vs:List (V3 K))(i k:Nat):Bool:=(List.range k).all (LP vs i k)
def D6(vs:List (V3 K))(i:Nat):Bool:=(List.range i).all (Gp vs i)
def u4(vs:List (V3 K)):Bool:=(List.range (vs.length-1)).all (D6 vs)
section
variable{Bs:aa}{vs:List (V3 K)}{m:Nat}
def WQ(n i k j:Nat):aV:=[(7,vI (j+1)),(5,vI (k+1)),(0,sl 0 n),(6,ptr 2)]
def sjM(vs:List (V3 K))(a c:V3 K):aH:=[(0,.view (aR vs)),(1,.aI (cC a).cs 33),(2,.aI (cC c).cs 33)]
noncomputable def WR{i k j:Nat}{t:Bool}(hs:∀ v∈vs,aF m v)(hi:i+1<vs.length)(hk:k<i)(hj:j<k)(hm:300*m+1000<=aC)(ht:LP vs i k j=!t)(more:bE prog Bs 54):bE prog Bs 54:=
 .lt 39 (j+1) (k+1) true (aB o_)::.c9 f61 45 0 vs.length (j+1) 30 o_ k_::.ld f61 46 33 0 ((j+1)*30) (.view (aR vs)) (bP (aL vs (j+1))) rfl (mP (ky o_)) k_::
 .c9 f61 48 0 vs.length 0 30 o_ k_::.ld f61 49 33 0 (0*30) (.view (aR vs)) (bP (aL vs 0)) rfl (mP (ky o_)) k_::
 (aVT (j9 hs (show j+1<vs.length by omega)) (j9 hs (show 0<vs.length by omega)) o_).at 50::
 (aVn (((j9 hs hi).sub (j9 hs (show 0<vs.length by omega))).ax ((j9 hs (show k+1<vs.length by omega)).sub (j9 hs (show 0<vs.length by omega)))) ((j9 hs (show j+1<vs.length by omega)).sub (j9 hs (show 0<vs.length by omega))) o_).at 51::
 (aVm ((((j9 hs hi).sub (j9 hs (show 0<vs.length by omega))).ax ((j9 hs (show k+1<vs.length by omega)).sub (j9 hs (show 0<vs.length by omega)))).dot ((j9 hs (show j+1<vs.length by omega)).sub (j9 hs (show 0<vs.length by omega)))) o_).at 52::
 .rw 53 _ (.bool t) (neB ht)::more
def Gq(vs:List (V3 K))(i k:Nat):aH:=sjM vs (aL vs (i+1)-aL vs 0) (ax (aL vs (i+1)-aL vs 0) (aL vs (k+1)-aL vs 0))
theorem aE7{i k:Nat}(hs:∀ v∈vs,aF m v)(hi:i+1<vs.length)(hk:k<i)(hm:300*m+1000<=aC)(h63:vs.length<900000):
  ah prog Bs 54 (.block 4 (af f61 4)) (WQ vs.length i k 0) (Gq vs i k) 3 (if Gp vs i k then⟨.normal,[],Gq vs i k,3⟩else⟨.ret,[(2,.bool true)],Gq vs i k,3⟩):=by
 unfold Gp;rcases IJ (LP vs i k) k with h|⟨n,hn,h2,h3,h4⟩
 ·rw[h];exact bO (id:=4) (ch k (λj=>WQ vs.length i k j) (λ_=>Gq vs i k) (λ_ _ _=>Iff.rfl) (r:=⟨.exit 4,[],Gq vs i k,3⟩) (λj hj=>
   fe mixed 200 (WR (t:=false) hs hi hk hj hm (IK h hj) [.sum 41 (j+1) 1 (j+1+1) rfl o_]) k_) (aA [.lt 39 (k+1) (k+1) false s_]) n_)
 ·rw[h4];exact bO (id:=4) (ch n (λj=>WQ vs.length i k j) (λ_=>Gq vs i k) (λ_ _ _=>Iff.rfl) (r:=⟨.ret,[(2,.bool true)],Gq vs i k,3⟩) (λj hj=>
   fe mixed 200 (WR (t:=false) hs hi hk o_ hm (h3 j hj) [.sum 41 (j+1) 1 (j+1+1) rfl o_]) k_) (fe mixed 200 (WR (t:=true) hs hi hk hn hm h2 []) k_) n_)
def LQ(n i k:Nat):aV:=[(5,vI (k+1)),(3,vI (i+1)),(0,sl 0 n),(4,ptr 1)]
def ya(vs:List (V3 K))(i:Nat):aH:=[(0,.view (aR vs)),(1,.aI (cC (aL vs (i+1)-aL vs 0)).cs 33)]
theorem aRY{i n:Nat}:∀ x∈ya vs i,fP n x.2:=λx hx=>by
 simp only[ya,cy,jh,ji]at hx;rcases hx with rfl|rfl
 ·exact λv hv=>iK (bf.1 (dW vs) v hv)
 ·exact λv hv=>iK (RV.nF _ v hv)
noncomputable def skS{i k:Nat}(hs:∀ v∈vs,aF m v)(hi:i+1<vs.length)(hk:k<i)(hm:300*m+1000<=aC)(more:bE prog Bs 54):bE prog Bs 54:=
 .lt 24 (k+1) (i+1) true (aB o_)::.c9 f61 30 0 vs.length (k+1) 30 o_ k_::.ld f61 31 33 0 ((k+1)*30) (.view (aR vs)) (bP (aL vs (k+1))) rfl (mP (ky o_)) k_::
 .c9 f61 33 0 vs.length 0 30 o_ k_::.ld f61 34 33 0 (0*30) (.view (aR vs)) (bP (aL vs 0)) rfl (mP (ky o_)) k_::
 (aVT (j9 hs (show k+1<vs.length by omega)) (j9 hs (show 0<vs.length by omega)) o_).at 35::
 (aU9 ((j9 hs hi).sub (j9 hs (show 0<vs.length by omega))) ((j9 hs (show k+1<vs.length by omega)).sub (j9 hs (show 0<vs.length by omega))) o_).at 36::more
theorem aE8{i:Nat}(hs:∀ v∈vs,aF m v)(hi:i+1<vs.length)(hm:300*m+1000<=aC)(h63:vs.length<900000):
  ah prog Bs 54 (.block 2 (af f61 2)) (LQ vs.length i 0) (ya vs i) 2 (if D6 vs i then⟨.normal,[],ya vs i,2⟩else⟨.ret,[(2,.bool true)],ya vs i,3⟩):=by
 have LR:∀ k,k<i->Gp vs i k=true->ah prog Bs 54 (aE (af f61 2)) (LQ vs.length i k) (ya vs i) 2 ⟨.normal,LQ vs.length i (k+1),ya vs i,2⟩:=λk hk h=>by have lo:=aE7 (Bs:=Bs) hs hi hk hm h63;rw[aw h]at lo;exact vn mixed 200 (ij:=3) (skS hs hi hk hm [.code 4 _ _ _ _ _ lo,.sum 26 (k+1) 1 (k+1+1) rfl o_]) k_ rfl k_ aRY k_
 unfold D6;rcases IJ (Gp vs i) i with h|⟨n,hn,h2,h3,h4⟩
 ·rw[h];exact bO (id:=2) (ch i (λk=>LQ vs.length i k) (λ_=>ya vs i) (λ_ _ _=>Iff.rfl) (r:=⟨.exit 2,[],ya vs i,2⟩) (λk hk=>LR k hk (IK h hk)) (aA [.lt 24 (i+1) (i+1) false s_]) n_)
 ·rw[h4];exact bO (id:=2) (ch n (λk=>LQ vs.length i k) (λ_=>ya vs i) (λ_ _ _=>Iff.rfl) (r:=⟨.ret,[(2,.bool true)],ya vs i,3⟩) (λk hk=>LR k o_ (h3 k hk)) (by have lo:=aE7 (Bs:=Bs) hs hi hn hm h63;rw[ao (by rw[h2];decide)]at lo;exact fe mixed 200 (skS hs hi hn hm [.code 4 _ _ _ _ _ lo]) k_) n_)
def IQ(n i:Nat):aV:=[(3,vI (i+1)),(0,sl 0 n)]
def wx(vs:List (V3 K)):aH:=[(0,.view (aR vs))]
theorem aRZ{n:Nat}:∀ x∈wx vs,fP n x.2:=λx hx=>by simp only[wx,cy,jh,ji]at hx;subst hx;exact λv hv=>iK (bf.1 (dW vs) v hv)
noncomputable def stS{i:Nat}(hs:∀ v∈vs,aF m v)(hi:i+1<vs.length)(hm:300*m+1000<=aC)(more:bE prog Bs 54):bE prog Bs 54:=
 .lt 11 (i+1) vs.length true (aB hi)::.c9 f61 16 0 vs.length (i+1) 30 hi k_::.ld f61 17 33 0 ((i+1)*30) (.view (aR vs)) (bP (aL vs (i+1))) rfl (mP (ky hi)) k_::
 .c9 f61 19 0 vs.length 0 30 o_ k_::.ld f61 20 33 0 (0*30) (.view (aR vs)) (bP (aL vs 0)) rfl (mP (ky o_)) k_::
 (aVT (j9 hs hi) (j9 hs (show 0<vs.length by omega)) o_).at 21::more
theorem aR0(hs:∀ v∈vs,aF m v)(hm:300*m+1000<=aC)(h63:vs.length<900000):cD prog 61 [.r vs.length (aR vs)] (.bool (!u4 vs)):=by
 have ay:([aP.r vs.length (aR vs)].all aP.ok)=true:=by simp only[dG,fB,aP.ok,jk];exact dW vs
 have LR:∀(B:aa) i,i<vs.length-1->D6 vs i=true->ah prog B 54 (aE (af f61 0)) (IQ vs.length i) (wx vs) 1 ⟨.normal,IQ vs.length (i+1),wx vs,1⟩:=λB i hi h=>by have lo:=aE8 (Bs:=B) hs (show i+1<vs.length by omega) hm h63;rw[aw h]at lo;exact vn mixed 200 (ij:=2) (stS (i:=i) hs o_ hm [.code 2 _ _ _ _ _ lo,.sum 13 (i+1) 1 (i+1+1) rfl o_]) k_ rfl k_ aRZ k_
 unfold u4;rcases IJ (D6 vs) (vs.length-1)with h|⟨n,hn,h2,h3,h4⟩
 ·rw[h];have lo:∀ B:aa,ah prog B 54 (.block 0 (af f61 0)) (IQ vs.length 0) (wx vs) 1 ⟨.normal,[],wx vs,1⟩:=λB=>
   bO (id:=0) (ch (vs.length-1) (λi=>IQ vs.length i) (λ_=>wx vs) (λ_ _ _=>Iff.rfl) (r:=⟨.exit 0,[],wx vs,1⟩) (λi hi=>LR B i hi (IK h hi)) (aA [.lt 11 (vs.length-1+1) vs.length false (aJ o_)]) n_)
  exact dV func61 ay 54 (λw=>[.code 0 _ _ _ _ _ (lo _)])
 ·rw[h4];have lo:∀ B:aa,ah prog B 54 (.block 0 (af f61 0)) (IQ vs.length 0) (wx vs) 1 ⟨.ret,[(2,.bool true)],wx vs,3⟩:=λB=>
   bO (id:=0) (ch n (λi=>IQ vs.length i) (λ_=>wx vs) (λ_ _ _=>Iff.rfl) (r:=⟨.ret,[(2,.bool true)],wx vs,3⟩) (λi hi=>LR B i o_ (h3 i hi)) (by have lo:=aE8 (Bs:=B) hs (show n+1<vs.length by omega) hm h63;rw[ao (by rw[h2];decide)]at lo;exact fe mixed 200 (stS (i:=n) hs o_ hm [.code 2 _ _ _ _ _ lo]) k_) n_)
  exact dV func61 ay 54 (λw=>[.code 0 _ _ _ _ _ (lo _)])
end
section
variable{Bs:aa}{vs:List (V3 K)}
def LS(n j L:Nat):aV:=[(6,vI j),(1,sl 0 n),(5,sl 2 L),(2,ptr 1)]
def An(vs:List (V3 K))(p:HS K):aH:=[(0,.view (aR vs)),(1,.aI (cF p).cs 35)]
theorem aR1{m:Nat}{p:HS K}:∀ x∈An vs p,fP m x.2:=λx hx=>by
 simp only[An,cy,jh,ji]at hx;rcases hx with rfl|rfl
 ·exact λv hv=>iK (bf.1 (dW vs) v hv)
 ·exact λv hv=>iK (iD.flat _ v hv)
theorem aR2{j m q:Nat}{p:HS K}{l:List Nat}(hj:j<vs.length)(hp:bo m p)(fV:p.n≠0)(aN:∀ v∈vs,aF q v)(hm:100*(m+q)+1000<=aC)(h63:l.length<900000)(rf:vs.length<1000000):
  ∃ σ ij,(∀ l0:List Nat,CL (An vs p++dP [none] (jX l0)) 2 σ (LS vs.length (j+1) (l++if dot p.n (aL vs j)-p.d=0 then[j]else[]).length) (An vs p) (jX (l++if dot p.n (aL vs j)-p.d=0 then[j]else[]))=true)/\
   ah prog Bs 124 (aE (af f104 0)) (LS vs.length j l.length) (An vs p++marks 2 (jX l)) 3 ⟨.normal,gR 2 σ (LS vs.length (j+1) (l++if dot p.n (aL vs j)-p.d=0 then[j]else[]).length),An vs p++dP σ (jX (l++if dot p.n (aL vs j)-p.d=0 then[j]else[])),ij⟩:=by
 have hv:=ky hj;have hs:=aVh hp (aN _ (cQ hv)) o_ fV;by_cases h:dot p.n (aL vs j)-p.d=0
 ·rw[aw h];have e:(Value.bool (OF.az (dot p.n (aL vs j)-p.d)==0))=.bool true:=by rw[OF.NP.1 h];rfl
  have hr:ai l++[vI j]=ai (l++[j]):=by simp[ai]
  have Ad:(ai l).length=l.length*1:=by rw[lM,fZ]
  have h1:=IF l;rw[show(l++[j]).length=l.length+1 by simp];unfold jX;refine⟨[some 4],5,λl0=>k_,?_⟩;generalize OF.az (dot p.n (aL vs j)-p.d)=z at *;generalize aL vs j=v at *;generalize ai l=c0 at *;generalize ai (l++[j])=c1 at *;exact aA [.lt 15 j vs.length true (aB hj),.c9 f104 21 0 vs.length j 30 hj k_,.ld f104 22 33 0 (j*30) (.view (aR vs)) (bP v) rfl (mP hv) k_,hs.at 23,.rw 24 (.bool (z==0)) (.bool true) e,.bs f104 27 3 1 3 1 [0] (vI 0) [vI j] #[vI j] (.row [vI j] 3 1) rfl (λv hv=>by simp at hv;subst hv;rfl) (λv hv=>by simp at hv;subst hv;rfl) k_ rfl d_ d_ k_,.pj f104 28 4 2 l.length 1 (l.length+1) 3 1 8 c0 3 (.row [vI j] 3 1) c1 rfl rfl rfl Ad hr (λv hv=>by simp[Obj.cells]at hv;subst hv;rfl) d_ (by simp[maxLen];omega) o_ k_,.sum 17 j 1 (j+1) rfl o_]
 ·rw[ao h,iY];have e:(Value.bool (OF.az (dot p.n (aL vs j)-p.d)==0))=.bool false:=by
   congr 1
   have:OF.az (dot p.n (aL vs j)-p.d)≠0:=λe=>h (OF.NP.2 e);simpa using this
  refine⟨[some 2],3,λl0=>k_,?_⟩;generalize OF.az (dot p.n (aL vs j)-p.d)=z at *;generalize aL vs j=v at *;exact aA [.lt 15 j vs.length true (aB hj),.c9 f104 21 0 vs.length j 30 hj k_,.ld f104 22 33 0 (j*30) (.view (aR vs)) (bP v) rfl (mP hv) k_,hs.at 23,.rw 24 (.bool (z==0)) (.bool false) e,.sum 17 j 1 (j+1) rfl o_]
theorem aE9{m q:Nat}{p:HS K}(hp:bo m p)(fV:p.n≠0)(aN:∀ v∈vs,aF q v)(hm:100*(m+q)+1000<=aC)(h63:vs.length<900000):
  ah prog Bs 124 (.block 0 (af f104 0)) (gR 2 [none] (LS vs.length 0 0)) (An vs p++dP [none] (jX [])) 2 ⟨.normal,[(5,sl 2 (cv p vs vs.length).length)],An vs p++marks 2 (jX (cv p vs vs.length)),3⟩:=by
 have:=rS (P:=prog) (B:=Bs) (N:=124) (b:=aE (af f104 0)) (next:=2) (p:=1) (r:=⟨.exit 0,[(5,sl 2 (cv p vs vs.length).length)],An vs p++marks 2 (jX (cv p vs vs.length)),3⟩) vs.length
  (λj=>LS vs.length j (cv p vs j).length) (λ_=>An vs p) (λj=>jX (cv p vs j)) [none] (λ_ _=>rfl) (λj _=>⟨aR1,Wy⟩) k_ k_
  (λj hj=>by have hl:=IG p vs j;obtain⟨σ,ij,h1,h2⟩:=aR2 (Bs:=Bs) (l:=cv p vs j) hj hp fV aN hm o_ o_;rw[aEr];exact⟨σ,ij,h1 _,h2⟩)
  (by generalize cv p vs vs.length=a;exact aA [.lt 15 vs.length vs.length false s_]) n_
 exact bO (id:=0) this
end
def IU(g:V3 K)(vs:List (V3 K))(a c b:Nat):Bool:=decide (b=a)||(decide (b=c)||decide (0<QB g vs a c b))
section
variable{Bs:aa}{vs:List (V3 K)}{on:List Nat}{p:HS K}{m:Nat}
def IV(n L a k j:Nat)(f:Bool):aV:=[(11,vI j),(10,.bool f),(5,sl 2 L),(8,vI a),(9,vI k),(1,sl 0 n),(2,ptr 1)]
def mY(vs:List (V3 K))(p:HS K)(on:List Nat):aH:=[(0,.view (aR vs)),(1,.aI (cF p).cs 35),(2,.row (ai on) 3 1)]
theorem gtB{z:Int}{t:Bool}(h:decide (0<z)=t):Value.bool (decide (z>0))=.bool t:=by rw[<-h]
theorem aFa{a c b k j:Nat}{t:Bool}(hb:on[j]?=some b)(hc:on[k]?=some c)(gL:∀ x∈on,x<vs.length)(ha:a<vs.length)(hn:aF m p.n)(hs:∀ v∈vs,aF m v)(hm:200*m+400<=aC)(ht:IU p.n vs a c b=t)(h63:on.length<900000):
  ah prog Bs 124 (aE (af f104 6)) (IV vs.length on.length a k j true) (mY vs p on) 5 ⟨.normal,IV vs.length on.length a k (j+1) t,mY vs p on,5⟩:=by
 have hj:=(eE.1 hb).1;have hk:=(eE.1 hc).1;have sL:=gL b (cQ hb);have jY:=gL c (cQ hc);unfold IU at ht;by_cases h1:b=a
 ·rw[aB h1,GL]at ht;subst ht;exact fe mixed 200 [.lt 68 j on.length true (aB hj),.ix f104 76 2 on.length j hj k_,.ld f104 77 3 2 j (.row (ai on) 3 1) (vI b) rfl (dJ hb) k_,.fh 79 b a true (aB h1),.sum 73 j 1 (j+1) rfl o_] k_
 rw[aJ h1,yK]at ht;by_cases h2:b=c
 ·rw[aB h2,GL]at ht;subst ht;exact fe mixed 200 [.lt 68 j on.length true (aB hj),.ix f104 76 2 on.length j hj k_,.ld f104 77 3 2 j (.row (ai on) 3 1) (vI b) rfl (dJ hb) k_,.fh 79 b a false (aJ h1),.ix f104 83 2 on.length j hj k_,.ld f104 84 3 2 j (.row (ai on) 3 1) (vI b) rfl (dJ hb) k_,.ix f104 87 2 on.length k hk k_,.ld f104 88 3 2 k (.row (ai on) 3 1) (vI c) rfl (dJ hc) k_,.fh 89 b c true (aB h2),.sum 73 j 1 (j+1) rfl o_] k_
 rw[aJ h2,yK]at ht;exact fe mixed 200 [.lt 68 j on.length true (aB hj),.ix f104 76 2 on.length j hj k_,.ld f104 77 3 2 j (.row (ai on) 3 1) (vI b) rfl (dJ hb) k_,.fh 79 b a false (aJ h1),.ix f104 83 2 on.length j hj k_,.ld f104 84 3 2 j (.row (ai on) 3 1) (vI b) rfl (dJ hb) k_,.ix f104 87 2 on.length k hk k_,.ld f104 88 3 2 k (.row (ai on) 3 1) (vI c) rfl (dJ hc) k_,.fh 89 b c false (aJ h2),.c9 f104 96 0 vs.length a 30 ha k_,.ld f104 97 33 0 (a*30) (.view (aR vs)) (bP (aL vs a)) rfl (mP (ky ha)) k_,.ix f104 101 2 on.length k hk k_,.ld f104 102 3 2 k (.row (ai on) 3 1) (vI c) rfl (dJ hc) k_,.c9 f104 103 0 vs.length c 30 jY k_,.ld f104 104 33 0 (c*30) (.view (aR vs)) (bP (aL vs c)) rfl (mP (ky jY)) k_,.ix f104 108 2 on.length j hj k_,.ld f104 109 3 2 j (.row (ai on) 3 1) (vI b) rfl (dJ hb) k_,.c9 f104 110 0 vs.length b 30 sL k_,.ld f104 111 33 0 (b*30) (.view (aR vs)) (bP (aL vs b)) rfl (mP (ky sL)) k_,(aDM hn (j9 hs ha) (j9 hs jY) (j9 hs sL) hm).at 112,.rw 113 _ (.bool t) (gtB ht),.sum 73 j 1 (j+1) rfl o_] k_
theorem aR3{a k j:Nat}:ah prog Bs 124 (aE (af f104 6)) (IV vs.length on.length a k j false) (mY vs p on) 5 ⟨.exit 6,[(10,.bool false)],mY vs p on,5⟩:=by
 by_cases h:j<on.length
 ·exact aA [.lt 68 j on.length true (aB h)]
 ·exact aA [.lt 68 j on.length false (aJ h)]
def LU(g:V3 K)(vs:List (V3 K))(on:List Nat)(a c:Nat):Bool:=on.all (IU g vs a c)
theorem aFb{a c k:Nat}(hc:on[k]?=some c)(gL:∀ x∈on,x<vs.length)(ha:a<vs.length)(hn:aF m p.n)(hs:∀ v∈vs,aF m v)(hm:200*m+400<=aC)(h63:on.length<900000):
  ah prog Bs 124 (.block 6 (af f104 6)) (IV vs.length on.length a k 0 true) (mY vs p on) 5 ⟨.normal,[(10,.bool (LU p.n vs on a c))],mY vs p on,5⟩:=by
 unfold LU;rcases BU (IU p.n vs a c) on with h|⟨n,x,h1,h2,h3,h4⟩
 ·rw[h];exact bO (id:=6) (ch on.length (λj=>IV vs.length on.length a k j true) (λ_=>mY vs p on) (λ_ _ _=>Iff.rfl) (r:=⟨.exit 6,[(10,.bool true)],mY vs p on,5⟩) (λj hj=>by have hx:on[j]?=some on[j]:=bd hj;exact aFa hx hc gL ha hn hs hm (D4 h hx) h63) (aA [.lt 68 on.length on.length false s_]) n_)
 ·rw[h4];have al:=(eE.1 h1).1;exact bO (id:=6) (ch (n+1) (λj=>IV vs.length on.length a k j (decide (j<=n))) (λ_=>mY vs p on) (λ_ _ _=>Iff.rfl) (r:=⟨.exit 6,[(10,.bool false)],mY vs p on,5⟩) (λj hj=>by
   have QC:j<on.length:=by omega
   have hx:on[j]?=some on[j]:=bd QC;simp only[aB (show j<=n by omega)];refine aFa hx hc gL ha hn hs hm ?_ h63;by_cases he:j=n
   ·subst he;rw[h1]at hx;injection hx with hx;rw[<-hx,h2];exact(aJ o_).symm
   ·rw[h3 j _ o_ hx];exact(aB o_).symm) (by
   simp only[aJ (show ¬n+1<=n by omega)];exact aR3) n_)
end
def u5(g:V3 K)(vs:List (V3 K))(on:List Nat)(a c:Nat):Bool:=!decide (c=a)&&LU g vs on a c
section
variable{Bs:aa}{vs:List (V3 K)}{on:List Nat}{p:HS K}{m:Nat}
def LV(n L R a k:Nat):aV:=[(9,vI k),(5,sl 2 L),(7,sl 4 R),(8,vI a),(1,sl 0 n),(2,ptr 1)]
def Gr(vs:List (V3 K))(p:HS K)(on out:List Nat):aH:=mY vs p on++marks 4 (jX out)
theorem aR4{a c k:Nat}{out:List Nat}(hc:on[k]?=some c)(gL:∀ x∈on,x<vs.length)(ha:a<vs.length)(hn:aF m p.n)(hs:∀ v∈vs,aF m v)(hm:200*m+400<=aC)(h63:on.length<900000)(hf:u5 p.n vs on a c=false):
  ah prog Bs 124 (aE (af f104 4)) (LV vs.length on.length out.length a k) (Gr vs p on out) 5 ⟨.normal,LV vs.length on.length out.length a (k+1),Gr vs p on out,5⟩:=by
 have hk:=(eE.1 hc).1;by_cases h:c=a
 ·exact fe mixed 200 [.lt 56 k on.length true (aB hk),.ix f104 61 2 on.length k hk k_,.ld f104 62 3 2 k (.row (ai on) 3 1) (vI c) rfl (dJ hc) k_,.fh 64 c a true (aB h),.sum 58 k 1 (k+1) rfl o_] k_
 ·have lo:=aFb (Bs:=Bs) hc gL ha hn hs hm h63;unfold u5 at hf;rw[aJ h]at hf;have hf:LU p.n vs on a c=false:=hf;rw[hf]at lo;exact fe mixed 200 [.lt 56 k on.length true (aB hk),.ix f104 61 2 on.length k hk k_,.ld f104 62 3 2 k (.row (ai on) 3 1) (vI c) rfl (dJ hc) k_,.fh 64 c a false (aJ h),.code 6 _ _ _ _ _ lo,.sum 58 k 1 (k+1) rfl o_] k_
theorem aR5{a c k:Nat}{out:List Nat}(hc:on[k]?=some c)(gL:∀ x∈on,x<vs.length)(ha:a<vs.length)(hn:aF m p.n)(hs:∀ v∈vs,aF m v)(hm:200*m+400<=aC)(h63:on.length<900000)(ho:out.length<900000)(hf:u5 p.n vs on a c=true):
  ah prog Bs 124 (aE (af f104 4)) (LV vs.length on.length out.length a k) (Gr vs p on out) 5 ⟨.exit 4,[(7,sl 6 (out++[c]).length)],mY vs p on++[(6,.row (ai (out++[c])) 3 1)],7⟩:=by
 have hk:=(eE.1 hc).1;have lo:=aFb (Bs:=Bs) hc gL ha hn hs hm h63;unfold u5 at hf;rw[db]at hf;obtain⟨h1,h2⟩:=hf;have h:¬c=a:=by intro e;rw[aB e]at h1;cases h1
 rw[h2]at lo;have hr:ai out++[vI c]=ai (out++[c]):=by simp[ai]
 have Ad:(ai out).length=out.length*1:=by rw[lM,fZ]
 rw[show(out++[c]).length=out.length+1 by simp];have iX:=dJ hc;unfold Gr jX;generalize ai out=c0 at *;generalize ai (out++[c])=c1 at *;exact fe mixed 200 [.lt 56 k on.length true (aB hk),.ix f104 61 2 on.length k hk k_,.ld f104 62 3 2 k (.row (ai on) 3 1) (vI c) rfl iX k_,.fh 64 c a false (aJ h),.code 6 _ _ _ _ _ lo,.ix f104 119 2 on.length k hk k_,.ld f104 120 3 2 k (.row (ai on) 3 1) (vI c) rfl iX k_,.bs f104 121 5 1 3 1 [0] (vI 0) [vI c] #[vI c] (.row [vI c] 3 1) rfl (λv hv=>by simp at hv;subst hv;rfl) (λv hv=>by simp at hv;subst hv;rfl) k_ rfl d_ d_ k_,.pj f104 122 6 4 out.length 1 (out.length+1) 3 1 8 c0 5 (.row [vI c] 3 1) c1 rfl rfl rfl Ad hr (λv hv=>by simp[Obj.cells]at hv;subst hv;rfl) d_ (by simp[maxLen];omega) o_ k_] k_
theorem aR6{a c k:Nat}{out:List Nat}(hc:on[k]?=some c)(gL:∀ x∈on,x<vs.length)(ha:a<vs.length)(hn:aF m p.n)(hs:∀ v∈vs,aF m v)(hm:200*m+400<=aC)(h63:on.length<900000)(ho:out.length<900000)(hf:u5 p.n vs on a c=true)
  (hb:∀(i:Nat) (x:Nat),i<k->on[i]?=some x->u5 p.n vs on a x=false) :
  ah prog Bs 124 (.block 4 (af f104 4)) (LV vs.length on.length out.length a 0) (Gr vs p on out) 5 ⟨.normal,[(7,sl 6 (out++[c]).length)],mY vs p on++[(6,.row (ai (out++[c])) 3 1)],7⟩:=
 bO (id:=4) (ch k (λi=>LV vs.length on.length out.length a i) (λ_=>Gr vs p on out) (λ_ _ _=>Iff.rfl) (r:=⟨.exit 4,[(7,sl 6 (out++[c]).length)],mY vs p on++[(6,.row (ai (out++[c])) 3 1)],7⟩) (λi hi=>by have hk:=(eE.1 hc).1;have hx:on[i]?=some on[i]:=bd o_;exact aR4 hx gL ha hn hs hm h63 (hb i _ hi hx)) (aR5 hc gL ha hn hs hm h63 ho hf) n_)
end
section
variable{Bs:aa}{vs:List (V3 K)}{on:List Nat}{p:HS K}{m:Nat}
def QD(n L R:Nat):aV:=[(7,sl 4 R),(5,sl 2 L),(1,sl 0 n),(2,ptr 1)]
theorem aR7{a c k R:Nat}{out:List Nat}(hR:out.length=R+1)(al:out.length<on.length)(hl:out[R]?=some a)(hc:on[k]?=some c)(gL:∀ x∈on,x<vs.length)(ha:a<vs.length)(hn:aF m p.n)(hs:∀ v∈vs,aF m v)(hm:200*m+400<=aC)(h63:on.length<900000)(hf:u5 p.n vs on a c=true)
  (hb:∀(i:Nat) (x:Nat),i<k->on[i]?=some x->u5 p.n vs on a x=false) :
  ah prog Bs 124 (aE (af f104 2)) (QD vs.length on.length out.length) (mY vs p on++marks 4 (jX out)) 5 ⟨.normal,gR 4 [some 6] (QD vs.length on.length (out++[c]).length),mY vs p on++dP [some 6] (jX (out++[c])),7⟩:=by
 have lo:=aR6 (Bs:=Bs) hc gL ha hn hs hm h63 o_ hf hb (out:=out);have iX:=dJ hl;have e:(out++[c]).length=R+2:=by simp[hR]
 rw[e]at lo ⊢;unfold Gr at lo;rw[hR]at lo ⊢;unfold jX at *;generalize ai out=c0 at *;generalize ai (out++[c])=c1 at *;exact fe mixed 200 [.lt 46 (R+1) on.length true (aB o_),.eV 50 (R+1) 1 R rfl o_,.ix f104 51 4 (R+1) R o_ k_,.ld f104 52 3 4 R (.row c0 3 1) (vI a) rfl iX k_,.code 4 _ _ _ _ _ lo] k_
end
structure aVf(g:V3 K)(vs:List (V3 K))(on sq:List Nat):Prop where
 len:sq.length=on.length
 head:sq[0]?=on[0]?
 step:∀(i a c:Nat),sq[i]?=some a->sq[i+1]?=some c->∃ k:Nat,on[k]?=some c/\u5 g vs on a c=true/\∀(j x:Nat),j<k->on[j]?=some x->u5 g vs on a x=false
section
variable{Bs:aa}{vs:List (V3 K)}{on sq:List Nat}{p:HS K}{m:Nat}
theorem aR8{n:Nat}:∀ x∈mY vs p on,fP n x.2:=λx hx=>by
 simp only[mY,cy,jh,ji]at hx;rcases hx with rfl|rfl|rfl
 ·exact λv hv=>iK (bf.1 (dW vs) v hv)
 ·exact λv hv=>iK (iD.flat _ v hv)
 ·exact λv hv=>iK (kv _ v hv)
theorem aR9{o:Nat}(h:aVf p.n vs on sq)(h0:on[0]?=some o)(gL:∀ x∈on,x<vs.length)(hn:aF m p.n)(hs:∀ v∈vs,aF m v)(hm:200*m+400<=aC)(h63:on.length<900000):
  ah prog Bs 124 (.block 2 (af f104 2)) (gR 4 [some 3] (QD vs.length on.length 1)) (mY vs p on++dP [some 3] (jX [o])) 4 ⟨.normal,[(7,sl 4 sq.length)],mY vs p on++marks 4 (jX sq),5⟩:=by
 have qx:=(eE.1 h0).1;have hlen:=h.len;have qJ:∀ x∈sq,x<vs.length:=λx hx=>by
  obtain⟨i,hi,rfl⟩:=kN hx;cases i with
  |zero=>
   have e:=h.head;rw[bd hi,h0]at e;injection e with e;rw[e];exact gL _ (cQ h0)
  |succ i=>
   obtain⟨k,e,_⟩:=h.step i _ _ (bd o_) (bd hi);exact gL _ (cQ e)
 have e1:sq.take 1=[o]:=by have e:=h.head;rw[h0]at e;rw[List.take_one,List.head?_eq_getElem?,e];rfl
 have tl:∀ i,i<on.length->(sq.take (i+1)).length=i+1:=λi hi=>by rw[jL];omega
 have:=rS (P:=prog) (B:=Bs) (N:=124) (b:=aE (af f104 2)) (next:=4) (p:=1) (r:=⟨.exit 2,[(7,sl 4 sq.length)],mY vs p on++marks 4 (jX sq),5⟩) (on.length-1)
  (λi=>QD vs.length on.length (sq.take (i+1)).length) (λ_=>mY vs p on) (λi=>jX (sq.take (i+1))) [some 3] (λ_ _=>rfl) (λi _=>⟨aR8,Wy⟩) k_ k_
  (λi hi=>by
   have ha:sq[i]?=some sq[i]:=bd o_;have hc:sq[i+1]?=some sq[i+1]:=bd o_;obtain⟨k,q1,q2,q3⟩:=h.step i _ _ ha hc;have e:sq.take (i+1+1)=sq.take (i+1)++[sq[i+1]]:=by rw[vV,hc];rfl
   have hl:=tl i o_;have hr:=aR7 (Bs:=Bs) (R:=i) hl o_ (by rw[ue,aw o_];exact ha) q1 gL (qJ _ (cQ ha)) hn hs hm h63 q2 q3;refine⟨[some 6],7,k_,?_⟩;rw[e];exact hr)
  (by rw[show on.length-1+1=sq.length by omega,nI];rw[hlen];exact aA [.lt 46 on.length on.length false s_]) n_
 simp only[jZ,e1]at this;exact bO (id:=2) this
end
def QE(g:V3 K)(vs:List (V3 K)):List Nat->Bool
 |o::a::l=>l.all (BX g vs o a)
 |_=>true
section
variable{vs:List (V3 K)}{p:HS K}{m q:Nat}
noncomputable def aSa{Bs:aa}{on:List Nat}{t:Bool}(h3:3<=on.length)(ht:QE p.n vs on=t)(hn:aF m p.n)(hs:∀ v∈vs,aF m v)(gL:∀ x∈on,x<vs.length)(hm:200*m+400<=aC)(h63:on.length<900000):aX prog Bs 124:=
 .step 36 (av f104 36) [.func (.func 143) #[] #[],cB p,sl 0 vs.length,sl 2 on.length] [(0,some (.view (aR vs))),(2,some (.row (ai on) 3 1))] (.bool t) []
  (dE (by
   match on,h3,gL,ht,h63 with
   |o::a::l,_,gL,ht,h63=>
    have:=aRX hn hs gL hm (by simp only[oD]at h63;omega);rw[show l.all (BX p.n vs o a)=t from ht]at this;exact this) (.p rfl (.w (x:=.view (aR vs)) rfl (dW vs) xB (.w (x:=.row (ai on) 3 1) rfl (gV on) (λh=>Qd h) .nil))) (x:=.func 143) k_ k_ rfl)
theorem aFc:([aP.p (cB p),.r vs.length (aR vs)].all aP.ok)=true:=by simp only[dG,fB,aP.ok,jk];rw[show(aR vs).all flat=true from dW vs];rfl
theorem aSb(hp:bo m p)(fV:p.n≠0)(aN:∀ v∈vs,aF q v)(hm:100*(m+q)+1000<=aC)(h63:vs.length<900000)(h:(cv p vs vs.length).length<3):
  cD prog 104 [.p (cB p),.r vs.length (aR vs)] (.slice none 0 0):=by
 have lo:=λBs=>aE9 (Bs:=Bs) hp fV aN hm h63;generalize cv p vs vs.length=on at *;exact fJ mixed func104 aFc 200 (N:=124) k_ (λw=>[.code 0 _ _ _ _ _ (lo _),.lt 31 on.length 3 true (aB h)]) (λ_=>k_) k_
theorem aV4{sq:List Nat}(hp:bo m p)(fV:p.n≠0)(aN:∀ v∈vs,aF m v)(hm:300*m+1000<=aC)(h63:vs.length<900000)(h:¬(cv p vs vs.length).length<3)(hf:QE p.n vs (cv p vs vs.length)=false)(qJ:aVf p.n vs (cv p vs vs.length) sq):
  lL prog 104 [.p (cB p),.r vs.length (aR vs)] 3 1 sq.length (ai sq):=by
 have lo:=λBs=>aE9 (Bs:=Bs) hp fV aN o_ h63;have gL:∀ x∈cv p vs vs.length,x<vs.length:=λx hx=>Wx hx;have hol:=IG p vs vs.length;generalize cv p vs vs.length=on at *;obtain⟨o,h0⟩:∃ o,on[0]?=some o:=⟨_,bd o_⟩;have l2:=λBs=>aR9 (Bs:=Bs) qJ h0 gL hp.1 aN o_ o_;exact zg (k:=4) mixed func104 aFc 200 (N:=124) k_ (λw=>[.code 0 _ _ _ _ _ (lo _),.lt 31 on.length 3 false (aJ h),aSa o_ hf hp.1 aN gL o_ o_,.ix f104 39 2 on.length 0 o_ k_,.ld f104 40 3 2 0 (.row (ai on) 3 1) (vI o) rfl (dJ h0) k_,.bs f104 41 3 1 3 1 [0] (vI 0) [vI o] #[vI o] (.row [vI o] 3 1) rfl (λv hv=>by simp at hv;subst hv;rfl) (λv hv=>by simp at hv;subst hv;rfl) k_ rfl d_ d_ k_,.code 2 _ _ _ _ _ (l2 _)]) (λ_=>k_) (gV sq) (by rw[lM,fZ])
end
theorem aFd{ps:List (HS K)}{v:V3 K}:Dq ps v=false↔(v=0\/∃ r∈ps,0<dot r.n v):=by
 unfold Dq;rw[Bool.and_eq_false_iff,Bool.not_eq_false',Bool.not_eq_false',BE,rC];constructor
 ·rintro(h|⟨r,hr,h⟩)
  ·exact .inl h
  ·exact .inr ⟨r,hr,Qm.1 (kH h)⟩
 ·rintro(h|⟨r,hr,h⟩)
  ·exact .inl h
  ·exact .inr ⟨r,hr,aB (Qm.2 h)⟩
theorem WS{ps:List (HS K)}{u:V3 K}:qg ps u=false↔(u≠0->(∃ r∈ps,0<dot r.n u)/\∃ r∈ps,0<dot r.n (-u)):=by
 unfold qg;rw[Mx,aFd,aFd];constructor
 ·rintro⟨h1,h2⟩ hu
  exact⟨h1.resolve_left hu,h2.resolve_left λe=>hu (V3.neg_eq_zero.1 e)⟩
 ·intro h;by_cases hu:u=0
  ·exact⟨.inl hu,.inl (V3.neg_eq_zero.2 hu)⟩
  ·exact⟨.inr (h hu).1,.inr (h hu).2⟩
theorem aFe{ps:List (HS K)}:∀ n,n<=ps.length->(tE ps n=true↔∃(i j:Nat) (p q:HS K),i<n/\j<i/\ps[i]?=some p/\ps[j]?=some q/\ax p.n q.n≠0)
 |0,_=>by
  constructor
  ·intro h;cases h
  ·rintro⟨i,_,_,_,h,_⟩;omega
 |n+1,hn=>by
  have hp:ps[n]?=some ps[n]:=bd o_;rw[aCc hp,um,aFe n o_];unfold qh;rw[rC];constructor
  ·rintro(⟨i,j,p,q,h1,h2,h3⟩|⟨q,hq,h⟩)
   ·exact⟨i,j,p,q,by omega,h2,h3⟩
   ·obtain⟨j,hj,rfl⟩:=kN hq;rw[jL]at hj;rw[WC]at h;exact⟨n,j,ps[n],ps[j],by omega,by omega,hp,bd o_,by simpa using h⟩
  ·rintro⟨i,j,p,q,h1,h2,h3,h4,h5⟩
   rcases eC i n with h|h
   ·exact .inl ⟨i,j,p,q,h,h2,h3,h4,h5⟩
   ·have:i=n:=by omega
    subst this;rw[hp]at h3;injection h3 with h3;subst h3;exact .inr ⟨q,cQ (i:=j) (by rw[ue,aw h2];exact h4),by simpa using h5⟩
theorem aSc{ps:List (HS K)}:Pd ps ps.length=false↔∀(i j:Nat) (p q:HS K),j<i->ps[i]?=some p->ps[j]?=some q->qg ps (ax p.n q.n)=false:=by
 unfold Pd;rw[Jt];constructor
 ·intro h i j p q pc hp hq;have al:=(eE.1 hp).1;have:=h i (j5.2 al);rw[Pe hp,rC]at this;cases hb:qg ps (ax p.n q.n)with
  |false=>rfl
  |true=>exact absurd ⟨q,cQ (i:=j) (by rw[ue,aw pc];exact hq),hb⟩ this
 ·intro h i hi;have al:=j5.1 hi;have hp:ps[i]?=some ps[i]:=bd al;rw[Pe hp,rC]
  rintro⟨q,hq,hb⟩
  obtain⟨j,hj,rfl⟩:=kN hq;rw[jL]at hj;have wD:ps[j]?=some ps[j]:=bd o_;rw[WC]at hb;rw[h i j _ _ o_ hp wD]at hb;cases hb
theorem QF{ps:List (HS K)}:qN ps=true↔Cl ps:=by
 unfold qN;rw[db,AD,aFe _ (bh _),aSc];have sw:∀ p q:HS K,ax q.n p.n=-ax p.n q.n:=λp q=>V3.HZ _ _;constructor
 ·rintro⟨h1,i,j,p,q,hi,pc,hp,hq,hc⟩
  refine⟨⟨p,cQ hp,q,cQ hq,hc⟩,λp hp q hq aU=>?_⟩;obtain⟨i,hi,rfl⟩:=kN hp;obtain⟨j,hj,rfl⟩:=kN hq;rcases sO i j with h|h|h
  ·have:=WS.1 (h1 j i _ _ h (bd hj) (bd hi)) (λe=>aU (by rw[sw,e];exact V3.neg_eq_zero.2 rfl));rw[sw ps[j] ps[i]];exact this.2
  ·subst h;exact absurd (V3.KE _) aU
  ·exact(WS.1 (h1 i j _ _ h (bd hi) (bd hj)) aU).1
 ·rintro⟨⟨p,hp,q,hq,aU⟩,ba⟩
  refine⟨λi j p q _ hp hq=>WS.2 λhu=>?_,?_⟩
  ·have jf:=cQ hp;have Bw:=cQ hq;refine⟨ba p jf q Bw hu,?_⟩;rw[<-sw];exact ba q Bw p jf (λe=>hu (by rw[sw q p,e];exact V3.neg_eq_zero.2 rfl))
  ·obtain⟨i,hi,rfl⟩:=kN hp;obtain⟨j,hj,rfl⟩:=kN hq;rcases sO i j with h|h|h
   ·exact⟨j,i,_,_,hj,h,bd hj,bd hi,λe=>aU (by rw[sw,e];exact V3.neg_eq_zero.2 rfl)⟩
   ·subst h;exact absurd (V3.KE _) aU
   ·exact⟨i,j,_,_,hi,h,bd hi,bd hj,aU⟩
theorem aFf:∀ n:Nat,(CR.ofNat n:K)=kI (n:Int)
 |0=>rfl
 |n+1=>by
  show(CR.ofNat n:K)+1=_;rw[aFf n];refine bw.ext (bw.ext ?_ ?_) (bw.ext ?_ ?_)
  ·show((n:Int):Rat)+1=(((n+1:Nat):Int):Rat)
   push_cast;rfl
  ·show(0:Rat)+0=0;exact Rat.add_zero 0
  ·show(0:Rat)+0=0;exact Rat.add_zero 0
  ·show(0:Rat)+0=0;exact Rat.add_zero 0
theorem aSd(z:Int):kI z=(Fr.mk z 0 0 0 1).val:=by have h:=TU z;have:=oQ (kI z);rw[show bH (kI z)=⟨z,0,0,0,1⟩from h]at this;exact this.symm
theorem aSe{n:Nat}(hn:n≠0):zz 1 (n:Int)*kI (n:Int)=1:=by
 rw[aSd];unfold zz;rw[<-Ks (by simpa using hn) s_];have e:e6 ⟨1,0,0,0,(n:Int)⟩ ⟨(n:Int),0,0,0,1⟩=⟨(n:Int),0,0,0,(n:Int)⟩:=by unfold e6;simp
 rw[e];unfold Fr.val;dsimp only;have h1:Rat.divInt (n:Int) (n:Int)=1:=by rw[Bj,Fi];exact HJ _ (by simpa using hn)
 rw[h1,Rat.zero_divInt];rfl
theorem aSf{n:Nat}(hn:n≠0):zz 1 (n:Int)=(CR.ofNat n:K)⁻¹:=by
 have h:=aSe hn;rw[<-aFf]at h;have aU:(CR.ofNat n:K)≠0:=OF.ne_of_gt (UE o_);have h2:=OF.lI _ aU
 calc zz 1 (n:Int)=zz 1 (n:Int)*(CR.ofNat n*(CR.ofNat n:K)⁻¹):=by rw[h2,CR.mul_one]
  _=(CR.ofNat n:K)⁻¹:=by rw[<-CR.mul_assoc,h,CR.one_mul]
theorem aFg{l:List (V3 K)}(h:l≠[]):BI l=Dk l:=by have hl:l.length≠0:=λe=>h (lq e);unfold BI Dk;rw[aSf hl];rfl
theorem WT{ps:List (HS K)}{vs:List (V3 K)}:qR ps vs=true↔vs≠[]/\BC ps (Dk vs):=by
 unfold qR;rw[db,AD,AD,Zq,Jt];have hl:¬vs.length=0↔vs≠[]:=⟨λh e=>h (by rw[e];rfl),λh e=>h (lq e)⟩;rw[hl];constructor
 ·rintro⟨h1,h2⟩
  refine⟨h1,λp hp=>?_⟩;have:=h2 p hp;rw[BE,Qn,aFg h1,OF.sub_nonneg]at this;exact OF.not_le.1 this
 ·rintro⟨h1,h2⟩
  refine⟨h1,λp hp=>?_⟩;rw[BE,Qn,aFg h1,OF.sub_nonneg];exact OF.not_le.2 (h2 p hp)
theorem aSg{x:K}(h:x≠0):0<iO x:=by
 unfold iO;by_cases hs:OF.az x<0
 ·rw[aw hs,OF.iA,OF.pq,aEA.1 hs];rfl
 ·rw[ao hs,OF.iA];rcases OF.iN x with e|e|e
  ·rw[e]at hs;exact absurd d_ hs
  ·exact absurd ((OF.eZ x).1 e) h
  ·exact e
theorem aFh{x:K}(h:x≠0):0<mn x:=by unfold mn;rw[show kI 1*(iO x)⁻¹=(iO x)⁻¹ from CR.one_mul _];exact OF.inv_pos (aSg h)
def D7(p:HS K)(k:K):HS K:=⟨smul p.n k,p.d*k⟩
theorem QG(p:HS K):canon p=D7 p (mn (qf p.n)):=rfl
theorem aSh(v:V3 K)(a b:K):smul (smul v a) b=smul v (a*b):=V3.ext (CR.mul_assoc _ _ _) (CR.mul_assoc _ _ _) (CR.mul_assoc _ _ _)
theorem aSi(v:V3 K):smul v 1=v:=V3.ext (CR.mul_one _) (CR.mul_one _) (CR.mul_one _)
theorem WU(p:HS K)(a b:K):D7 (D7 p a) b=D7 p (a*b):=HS.ext (aSh _ _ _) (CR.mul_assoc _ _ _)
theorem aSj(p:HS K):D7 p 1=p:=HS.ext (aSi _) (CR.mul_one _)
theorem aSk{v:V3 K}{k:K}(hk:k≠0):qf (smul v k)=qf v*k:=by
 have z:∀ x:K,x*k≠0↔x≠0:=λx=>⟨λh e=>h (by rw[e,CR.zero_mul]),λh=>OF.mul_ne_zero h hk⟩;unfold qf;show(if v.x*k≠0 then v.x*k else if v.y*k≠0 then v.y*k else v.z*k)=_;by_cases hx:v.x≠0
 ·rw[aw ((z _).2 hx),aw hx]
 ·rw[ao (λh=>hx ((z _).1 h)),ao hx];by_cases hy:v.y≠0
  ·rw[aw ((z _).2 hy),aw hy]
  ·rw[ao (λh=>hy ((z _).1 h)),ao hy]
theorem aSl{x k:K}(hk:0<k):iO (x*k)=iO x*k:=by
 unfold iO;have e:OF.az (x*k)=OF.az x:=by rw[CR.mul_comm,OF.aAt hk]
 rw[e];by_cases h:OF.az x<0
 ·rw[aw h,aw h,CR.neg_mul]
 ·rw[ao h,ao h]
theorem aSm{x k:K}(hx:x≠0)(hk:0<k):k*mn (x*k)=mn x:=by
 have e:∀ y:K,mn y=(iO y)⁻¹:=λy=>CR.one_mul _;have Dd:k≠0:=OF.ne_of_gt hk;have h0:iO x≠0:=O2 hx;rw[e,e,aSl hk];have h1:=OF.lI _ h0;have h2:=OF.lI (iO x*k) (OF.mul_ne_zero h0 Dd)
 calc k*(iO x*k)⁻¹=(iO x*(iO x)⁻¹)*(k*(iO x*k)⁻¹):=by rw[h1,CR.one_mul]
  _=(iO x)⁻¹*(iO x*k*(iO x*k)⁻¹):=by rw[CR.mul_comm (iO x),CR.mul_assoc,CR.mul_assoc]
  _=(iO x)⁻¹:=by rw[h2,CR.mul_one]
theorem aSn{p q:HS K}(hp:p.n≠0)(hq:q.n≠0):canon p=canon q↔∃ k:K,0<k/\q=D7 p k:=by
 have ap:=aFh (O3 hp);have aq:=aFh (O3 hq);constructor
 ·intro h;rw[QG,QG]at h;have h1:=OF.lI _ (OF.ne_of_gt aq);refine⟨mn (qf p.n)*(mn (qf q.n))⁻¹,OF.mul_pos ap (OF.inv_pos aq),?_⟩;rw[<-WU,h,WU,h1,aSj]
 ·rintro⟨k,hk,rfl⟩
  rw[QG,QG];have e:qf (D7 p k).n=qf p.n*k:=aSk (OF.ne_of_gt hk);rw[e,WU,aSm (O3 hp) hk]
end
section
open CR OF V3
section
variable{F:Type}[OF F]
theorem aSo(a b c:V3 F)(x y z:F):dot a (smul (ax b c) x+smul (ax c a) y+smul (ax a b) z)=x*cL a b c:=
 ring [a,b,c] [x,y,z] (λV S=>dot (V 0) (smul (ax (V 1) (V 2)) (S 0)+smul (ax (V 2) (V 0)) (S 1)+smul (ax (V 0) (V 1)) (S 2))) (λV S=>S 0*cL (V 0) (V 1) (V 2)) d_
theorem aSp(a b c:V3 F)(x y z:F):dot b (smul (ax b c) x+smul (ax c a) y+smul (ax a b) z)=y*cL a b c:=
 ring [a,b,c] [x,y,z] (λV S=>dot (V 1) (smul (ax (V 1) (V 2)) (S 0)+smul (ax (V 2) (V 0)) (S 1)+smul (ax (V 0) (V 1)) (S 2))) (λV S=>S 1*cL (V 0) (V 1) (V 2)) d_
theorem aSq(a b c:V3 F)(x y z:F):dot c (smul (ax b c) x+smul (ax c a) y+smul (ax a b) z)=z*cL a b c:=
 ring [a,b,c] [x,y,z] (λV S=>dot (V 2) (smul (ax (V 1) (V 2)) (S 0)+smul (ax (V 2) (V 0)) (S 1)+smul (ax (V 0) (V 1)) (S 2))) (λV S=>S 2*cL (V 0) (V 1) (V 2)) d_
theorem WV(u w:V3 F):cL u u w=0:=ring [u,w] [] (λV _=>cL (V 0) (V 0) (V 1)) (λ_ _=>0) d_
theorem WW(u w:V3 F):cL u w w=0:=ring [u,w] [] (λV _=>cL (V 0) (V 1) (V 1)) (λ_ _=>0) d_
theorem WX(u w:V3 F):cL u w u=0:=ring [u,w] [] (λV _=>cL (V 0) (V 1) (V 0)) (λ_ _=>0) d_
theorem aFi:∀(l:List (F×F)),(∀ x∈l,0<x.2)->∃ e:F,0<e/\∀ x∈l,x.1*e<=x.2
 |[],_=>⟨1,OF.zero_lt_one,λx h=>(by cases h)⟩
 |(a,b)::l,h=>by
  obtain⟨e,he,hl⟩:=aFi l λx hx=>h x (bB _ hx);have hb:0<b:=h (a,b) (aT ..);by_cases bZ:a*e<=b
  ·refine⟨e,he,λx hx=>?_⟩;rcases cy.1 hx with rfl|hx
   ·exact bZ
   ·exact hl x hx
  ·have bZ:=OF.not_le.1 bZ;have ha:0<a:=by
    apply hZ;intro E5;have E5:=OF.not_lt.1 E5;have:a*e<=0:=by rw[<-CR.neg_neg (a*e),OF.Kn,<-CR.neg_mul];exact OF.mul_nonneg (OF.neg_nonneg.2 E5) (OF.le_of_lt he)
    exact OF.lt_irrefl _ (OF.lt_of_lt_of_le (OF.lt_trans hb bZ) this)
   have hi:0<b*a⁻¹:=OF.mul_pos hb (OF.inv_pos ha);have hae:a*(b*a⁻¹)=b:=by rw[CR.mul_left_comm,OF.lI _ (OF.ne_of_gt ha),CR.mul_one]
   have al:b*a⁻¹<e:=by rw[<-OF.mul_lt_mul_left ha,hae];exact bZ
   refine⟨b*a⁻¹,hi,λx hx=>?_⟩;rcases cy.1 hx with rfl|hx
   ·exact OF.le_of_eq hae
   ·by_cases kK:0<x.1
    ·exact OF.le_trans ((OF.mul_le_mul_left kK).2 (OF.le_of_lt al)) (hl x hx)
    ·have kK:=OF.not_lt.1 kK;have:x.1*(b*a⁻¹)<=0:=by rw[<-CR.neg_neg (x.1*(b*a⁻¹)),OF.Kn,<-CR.neg_mul];exact OF.mul_nonneg (OF.neg_nonneg.2 kK) (OF.le_of_lt hi)
     exact OF.le_trans this (OF.le_of_lt (h x (bB _ hx)))
structure sQ(ps S:List (HS F)):Prop where
 sub:∀ p∈S,p∈ps
 same:∀ v,gH S v↔gH ps v
 least:∀ T:List (HS F),(∀ p∈T,p∈ps)->(∀ v,gH T v↔gH ps v)->S.length<=T.length
theorem aSr(ps:List (HS F)):∃ S,sQ ps S:=by
 have key:∀ n,∀ S:List (HS F),S.length=n->(∀ p∈S,p∈ps)->(∀ v,gH S v↔gH ps v)->∃ S,sQ ps S:=by
  intro n;induction n using Nat.strongRecOn with
  |ind n ih=>
   intro S hl h1 h2;by_cases h:∃ T:List (HS F),(∀ p∈T,p∈ps)/\(∀ v,gH T v↔gH ps v)/\T.length<n
   ·obtain⟨T,t1,t2,t3⟩:=h;exact ih _ t3 T rfl t1 t2
   ·refine⟨S,h1,h2,λT t1 t2=>?_⟩;rcases eC T.length S.length with al|dM
    ·exact(h ⟨T,t1,t2,by omega⟩).elim
    ·exact dM
 exact key _ ps rfl (λ_ h=>h) (λ_=>Iff.rfl)
theorem sQ.alone{ps A B:List (HS F)}{p:HS F}(h:sQ ps (A++p::B)):∃ y,gH (A++B) y/\p.d<dot p.n y:=by
 apply hZ;intro gF;have hT:∀ v,gH (A++B) v↔gH ps v:=by
  intro v;rw[<-h.same v];constructor
  ·intro hv q hq;rcases dY.1 hq with hq|hq
   ·exact hv q (sR _ hq)
   ·rcases cy.1 hq with rfl|hq
    ·exact OF.not_lt.1 λal=>gF ⟨v,hv,al⟩
    ·exact hv q (yb _ hq)
  ·intro hv q hq;refine hv q ?_;rcases dY.1 hq with hq|hq
   ·exact sR _ hq
   ·exact yb _ (bB _ hq)
 have:=h.least (A++B) (λq hq=>h.sub q (by
  rcases dY.1 hq with hq|hq
  ·exact sR _ hq
  ·exact yb _ (bB _ hq))) hT
 simp at this;omega
theorem sQ.KM{ps A B:List (HS F)}{p:HS F}(h:sQ ps (A++p::B)){x:V3 F}(hx:BC ps x):∃ z,dR p z/\∀ q∈A++B,dot q.n z<q.d:=by
 obtain⟨y,hy,hpy⟩:=h.alone;have hpx:dot p.n x<p.d:=hx p (h.sub p (yb _ (aT ..)));have xy:0<dot p.n y-dot p.n x:=OF.sub_pos.2 (OF.lt_trans hpx hpy);have hda:0<p.d-dot p.n x:=OF.sub_pos.2 hpx;obtain⟨t,ht⟩:∃ t,t=(p.d-dot p.n x)*(dot p.n y-dot p.n x)⁻¹:=⟨_,rfl⟩;have vO:0<t:=ht▸OF.mul_pos hda (OF.inv_pos xy);have M9:(dot p.n y-dot p.n x)*t=p.d-dot p.n x:=by rw[ht,CR.mul_left_comm,OF.lI _ (OF.ne_of_gt xy),CR.mul_one]
 have jO:t<1:=by rw[<-OF.mul_lt_mul_left xy,M9,CR.mul_one];rw[<-OF.sub_pos,show dot p.n y-dot p.n x-(p.d-dot p.n x)=dot p.n y-p.d from k6 (dot p.n x) (dot p.n y) p.d (λa b d=>b-a-(d-a)) (λa b d=>b-d) d_];exact OF.sub_pos.2 hpy
 refine⟨x+smul (y-x) t,?_,λq hq=>?_⟩
 ·unfold dR;rw[k8,iZ,k9,M9];exact ko (dot p.n x) p.d (λa d=>a+(d-a)) (λa d=>d) d_
 ·rw[k8,iZ,k9];have q1:dot q.n x<q.d:=hx q (h.sub q (by
   rcases dY.1 hq with hq|hq
   ·exact sR _ hq
   ·exact yb _ (bB _ hq)))
  have q2:=hy q hq;have e:q.d-(dot q.n x+(dot q.n y-dot q.n x)*t)=(1-t)*(q.d-dot q.n x)+t*(q.d-dot q.n y):=Fb (dot q.n x) (dot q.n y) q.d t (λa b d t=>d-(a+(b-a)*t)) (λa b d t=>(1-t)*(d-a)+t*(d-b)) d_;rw[<-OF.sub_pos,e];exact OF.HB (OF.mul_pos (OF.sub_pos.2 jO) (OF.sub_pos.2 q1)) (OF.mul_nonneg (OF.le_of_lt vO) (OF.sub_nonneg.2 q2))
theorem kL.back{ps:List (HS F)}{p:HS F}(hp:p∈ps){v:V3 F}(h:kL (⟨-p.n,-p.d⟩::ps) v):kL ps v/\dR p v:=by
 obtain⟨ct,a,ha,b,hb,c,hc,hd,ta,tb,tc⟩:=h;have tp:dR p v:=by
  have h1:=ct _ (aT ..);dsimp only at h1;rw[Bt]at h1;have h1:p.d<=dot p.n v:=by rw[<-OF.sub_nonneg]at h1 ⊢;rwa[show -p.d - -dot p.n v=dot p.n v-p.d from ko (dot p.n v) p.d (λa d=>-d - -a) (λa d=>a-d) d_]at h1
  exact OF.le_antisymm (ct p (bB _ hp)) h1
 have aSs:gH ps v:=λq hq=>ct q (bB _ hq)
 -- a qd of the list with the same normal,vu for Uu sign
 have bH:∀ q∈(⟨-p.n,-p.d⟩::ps:List (HS F)),dR q v->∃ q'∈ps,dR q' v/\(q'.n=q.n\/q.n=-q'.n):=by
  intro q hq tq;rcases cy.1 hq with rfl|hq
  ·exact⟨p,hp,tp,.inr rfl⟩
  ·exact⟨q,hq,tq,.inl rfl⟩
 obtain⟨a',iW,ta',ea⟩:=bH a ha ta;obtain⟨b',jz,tb',eb⟩:=bH b hb tb;obtain⟨c',ki,tc',ec⟩:=bH c hc tc;refine⟨⟨aSs,a',iW,b',jz,c',ki,λe=>hd ?_,ta',tb',tc'⟩,tp⟩;have n1:∀ u v w:V3 F,cL (-u) v w=-cL u v w:=λu v w=>ring [u,v,w] [] (λV _=>cL (-V 0) (V 1) (V 2)) (λV _=>-cL (V 0) (V 1) (V 2)) d_;have n2:∀ u v w:V3 F,cL u (-v) w=-cL u v w:=λu v w=>ring [u,v,w] [] (λV _=>cL (V 0) (-V 1) (V 2)) (λV _=>-cL (V 0) (V 1) (V 2)) d_;have n3:∀ u v w:V3 F,cL u v (-w)=-cL u v w:=λu v w=>ring [u,v,w] [] (λV _=>cL (V 0) (V 1) (-V 2)) (λV _=>-cL (V 0) (V 1) (V 2)) d_;rcases ea with ea|ea<;>rcases eb with eb|eb<;>rcases ec with ec|ec<;>
  (first|rw[<-ea]|rw[ea,n1])<;>(first|rw[<-eb]|rw[eb,n2])<;>(first|rw[<-ec]|rw[ec,n3])<;>rw[e]<;>(try simp only[CR.neg_zero])
theorem sQ.IW{ps A B:List (HS F)}{p:HS F}(hc:Cl ps)(hp:gp ps)(h:sQ ps (A++p::B)){x m:V3 F}(hx:BC ps x)(hm:ax p.n m≠0):
  ∃ v w,kL ps v/\dR p v/\kL ps w/\dR p w/\dot m w<dot m v:=by
 obtain⟨z,hz,hq⟩:=h.KM hx;have iP:p∈ps:=h.sub p (yb _ (aT ..));obtain⟨e,he⟩:∃ e,e=ax (ax p.n m) p.n:=⟨_,rfl⟩;have pe:dot p.n e=0:=by rw[he];exact Dg _ _
 have me:0<dot m e:=by
  have:dot m e=dot (ax p.n m) (ax p.n m):=by rw[he];exact ring [p.n,m] [] (λV _=>dot (V 1) (ax (ax (V 0) (V 1)) (V 0))) (λV _=>dot (ax (V 0) (V 1)) (ax (V 0) (V 1))) d_
  rw[this];exact Ug hm
 obtain⟨t,ht,oy⟩:=aFi ((A++B).map (λq=>(dot q.n e,q.d-dot q.n z))++(A++B).map (λq=>(-dot q.n e,q.d-dot q.n z))) λy hy=>by
  rcases dY.1 hy with hy|hy
  ·obtain⟨q,lf,rfl⟩:=di.1 hy;exact OF.sub_pos.2 (hq q lf)
  ·obtain⟨q,lf,rfl⟩:=di.1 hy;exact OF.sub_pos.2 (hq q lf)
 have aFj:∀ s:F,(∀ q∈A++B,dot q.n e*s<=q.d-dot q.n z)->gH (⟨-p.n,-p.d⟩::ps) (z+smul e s):=by
  intro s hs;have hS:gH (A++p::B) (z+smul e s):=by
   intro q lf;rw[k8,iZ];have other:q∈A++B->dot q.n z+dot q.n e*s<=q.d:=λlf=>by have:=hs q lf;rw[<-OF.sub_nonneg]at this ⊢;rwa[show q.d-dot q.n z-dot q.n e*s=q.d-(dot q.n z+dot q.n e*s)from k6 q.d (dot q.n z) (dot q.n e*s) (λa b c=>a-b-c) (λa b c=>a-(b+c)) d_]at this
   rcases dY.1 lf with lf|lf
   ·exact other (sR _ lf)
   ·rcases cy.1 lf with rfl|lf
    ·rw[pe,CR.zero_mul,CR.add_zero];exact OF.le_of_eq hz
    ·exact other (yb _ lf)
  have ct:=(h.same _).1 hS;intro q lf;rcases cy.1 lf with rfl|lf
  ·dsimp only;rw[Bt,k8,iZ,pe,CR.zero_mul,CR.add_zero,show dot p.n z=p.d from hz];exact OF.le_refl _
  ·exact ct q lf
 have ki:Cl (⟨-p.n,-p.d⟩::ps):=Cl.more hc hp λq hq=>bB _ hq;have jf:gp (⟨-p.n,-p.d⟩::ps):=λq hq=>by
  rcases cy.1 hq with rfl|hq
  ·exact λe=>hp p iP (V3.neg_eq_zero.1 e)
  ·exact hp q hq
 have i1:=aFj t λq lf=>oy _ (sR _ (di.2 ⟨q,lf,rfl⟩));have i2:=aFj (-t) λq lf=>by have:=oy _ (yb _ (di.2 ⟨q,lf,rfl⟩));dsimp only at this;rwa[CR.neg_mul,<-CR.mul_neg]at this
 obtain⟨v,hv,hmv⟩:=top ki jf (m:=m) i1;obtain⟨w,hw,uU⟩:=top ki jf (m:=-m) i2;obtain⟨v1,v2⟩:=hv.back iP;obtain⟨w1,w2⟩:=hw.back iP;refine⟨v,w,v1,v2,w1,w2,?_⟩;rw[Bt,Bt]at uU;have uU:dot m w<=dot m (z+smul e (-t)):=by rw[<-OF.sub_nonneg]at uU ⊢;rwa[show -dot m w - -dot m (z+smul e (-t))=dot m (z+smul e (-t))-dot m w from ko (dot m w) (dot m (z+smul e (-t))) (λa b=>-a - -b) (λa b=>b-a) d_]at uU
 refine OF.lt_of_le_of_lt uU (OF.lt_of_lt_of_le ?_ hmv);rw[k8,iZ,k8,iZ,<-OF.sub_pos,show dot m z+dot m e*t-(dot m z+dot m e*-t)=dot m e*t+dot m e*t from k6 (dot m z) (dot m e) t (λa b t=>a+b*t-(a+b*-t)) (λa b t=>b*t+b*t) d_];have:=OF.mul_pos me ht;exact OF.add_pos this this
theorem aSt{a b:V3 F}(ha:a≠0):∃ u:V3 F,u≠0/\dot a u=0/\dot b u=0:=by
 by_cases h:ax a b=0
 ·obtain⟨u,hu,OV⟩:=KF ha;exact⟨u,hu,OV,OG ha h OV⟩
 ·exact⟨_,h,FA _ _,Dg _ _⟩
theorem WY{a b c:V3 F}(ha:a≠0):∃ u:V3 F,u≠0/\dot a u<=0/\dot b u<=0/\dot c u<=0:=by
 obtain⟨u,hu,h1,h2⟩:=aSt (b:=b) ha;rcases OF.le_total (dot c u) 0 with h|h
 ·exact⟨u,hu,OF.le_of_eq h1,OF.le_of_eq h2,h⟩
 ·refine⟨-u,λe=>hu (V3.neg_eq_zero.1 e),?_,?_,?_⟩
  ·rw[tA,h1,CR.neg_zero];exact OF.le_refl _
  ·rw[tA,h2,CR.neg_zero];exact OF.le_refl _
  ·rw[tA];exact OF.Kn.2 h
theorem sQ.four{ps S:List (HS F)}(hc:Cl ps)(hp:gp ps)(h:sQ ps S){x:V3 F}(hx:BC ps x):4<=S.length:=by
 apply hZ;intro al;have hu:∃ u:V3 F,u≠0/\∀ p∈S,dot p.n u<=0:=by
  match S,al,h with
  |[],_,_=>
   obtain⟨⟨p,iP,_⟩,_⟩:=hc;exact⟨p.n,hp p iP,λq hq=>(by cases hq)⟩
  |[a],_,h=>
   obtain⟨u,hu,h1,_,_⟩:=WY (a:=a.n) (b:=a.n) (c:=a.n) (hp a (h.sub a s_));exact⟨u,hu,λq hq=>by simp at hq;subst hq;exact h1⟩
  |[a,b],_,h=>
   obtain⟨u,hu,h1,h2,_⟩:=WY (a:=a.n) (b:=b.n) (c:=a.n) (hp a (h.sub a s_));exact⟨u,hu,λq hq=>by simp at hq;rcases hq with rfl|rfl<;>assumption⟩
  |[a,b,c],_,h=>
   obtain⟨u,hu,h1,h2,h3⟩:=WY (a:=a.n) (b:=b.n) (c:=c.n) (hp a (h.sub a s_));exact⟨u,hu,λq hq=>by simp at hq;rcases hq with rfl|rfl|rfl<;>assumption⟩
  |_::_::_::_::_,al,_=>simp at al
 obtain⟨u,hu,ba⟩:=hu;obtain⟨r,hr,WZ⟩:=hc.bounds hp hu;have hrx:=hx r hr;obtain⟨t,ht⟩:∃ t,t=(r.d-dot r.n x)*(dot r.n u)⁻¹+1:=⟨_,rfl⟩;have vO:0<t:=ht▸OF.add_pos (OF.mul_pos (OF.sub_pos.2 hrx) (OF.inv_pos WZ)) OF.zero_lt_one;have ct:gH ps (x+smul u t):=by
  rw[<-h.same];intro q hq;rw[k8,iZ];have h1:=ba q hq;have h2:dot q.n u*t<=0:=by rw[<-CR.neg_neg (dot q.n u*t),OF.Kn,<-CR.neg_mul];exact OF.mul_nonneg (OF.neg_nonneg.2 h1) (OF.le_of_lt vO)
  have h3:=OF.add_le_add (OF.le_of_lt (hx q (h.sub q hq))) h2;rwa[CR.add_zero]at h3
 have h1:=ct r hr;rw[k8,iZ,ht,CR.mul_add,CR.mul_left_comm,OF.lI _ (OF.ne_of_gt WZ),CR.mul_one,CR.mul_one]at h1;rw[<-OF.sub_nonneg,show r.d-(dot r.n x+(r.d-dot r.n x+dot r.n u))=-dot r.n u from k6 r.d (dot r.n x) (dot r.n u) (λd a b=>d-(a+(d-a+b))) (λd a b=>-b) d_,OF.neg_nonneg]at h1;exact OF.lt_irrefl _ (OF.lt_of_lt_of_le WZ h1)
end
end
section
open CR OF
open V3 (dot ax cL smul)
theorem aFk{x:K}:¬OF.az x<=0↔0<x:=by rw[OF.iA];rcases OF.iN x with h|h|h<;>rw[h]<;>decide
theorem W0{x:K}:OF.az x<=0↔x<=0:=by rw[OF.To];rcases OF.iN x with h|h|h<;>rw[h]<;>decide
theorem aFl{ps:List (HS K)}{d:V3 K}:xZ ps d=false↔∃ r∈ps,0<dot r.n d:=by
 unfold xZ;rw[IX];constructor
 ·rintro⟨r,hr,h⟩
  exact⟨r,hr,aFk.1 (by simpa using h)⟩
 ·rintro⟨r,hr,h⟩
  exact⟨r,hr,by simpa using aFk.2 h⟩
theorem W3{ps:List (HS K)}{f:Bool}{i:Nat}:∀ n,o5 ps f i n=true↔f=true/\∀ j,j<n->mX ps i j=0\/BV ps (mX ps i j)=true
 |0=>⟨λh=>⟨h,λj hj=>by omega⟩,λh=>h.1⟩
 |n+1=>by
  unfold o5;by_cases h:mX ps i n=0
  ·rw[aw h,W3 n];refine⟨λ⟨h1,h2⟩=>⟨h1,λj hj=>?_⟩,λ⟨h1,h2⟩=>⟨h1,λj hj=>h2 j o_⟩⟩;rcases eC j n with hl|hl
   ·exact h2 j hl
   ·have:j=n:=by omega
    subst this;exact .inl h
  ·rw[ao h,db,W3 n];refine⟨λ⟨⟨h1,h2⟩,h3⟩=>⟨h1,λj hj=>?_⟩,λ⟨h1,h2⟩=>⟨⟨h1,λj hj=>h2 j o_⟩,(h2 n o_).resolve_left h⟩⟩;rcases eC j n with hl|hl
   ·exact h2 j hl
   ·have:j=n:=by omega
    subst this;exact .inr h3
theorem W5{ps:List (HS K)}:∀ n,mo ps n=true↔∀ i j,i<n->j<i->mX ps i j=0\/BV ps (mX ps i j)=true
 |0=>⟨λ_ i j hi=>by omega,λ_=>rfl⟩
 |n+1=>by
  unfold mo;rw[W3,W5 n];refine⟨λ⟨h1,h2⟩ i j hi hj=>?_,λh=>⟨λi j hi hj=>h i j o_ hj,λj hj=>h n j o_ hj⟩⟩;rcases eC i n with hl|hl
  ·exact h1 i j hl hj
  ·have:i=n:=by omega
   subst this;exact h2 j hj
theorem QH{ps:List (HS K)}:wk ps=true↔Cl ps:=by
 unfold wk D5;rw[db,bf];have sw:∀ p q:HS K,ax q.n p.n=-ax p.n q.n:=λp q=>V3.HZ _ _;have bad:∀{i j:Nat},Aj ps i j=false↔(mX ps i j≠0->(∃ r∈ps,0<dot r.n (mX ps i j))/\∃ r∈ps,0<dot r.n (-mX ps i j)):=by
  intro i j;unfold Aj;rw[Bool.and_eq_false_iff,Mx,aFl,aFl,Zq];constructor
  ·rintro(h|h) h0
   ·exact absurd h0 h
   ·exact h
  ·intro h;by_cases h0:mX ps i j≠0
   ·exact .inr (h h0)
   ·exact .inl h0
 have Ao:∀{p q:HS K} {i j:Nat},ps[i]?=some p->ps[j]?=some q->mX ps i j=ax p.n q.n:=λhp hq=>by unfold mX;rw[IL hp,IL hq]
 constructor
 ·rintro⟨h1,h2⟩
  have hb:∀ i j,i<ps.length->j<i->Aj ps i j=false:=λi j hi hj=>by have:=h1 i (j5.2 hi);rw[bf]at this;simpa using this j (j5.2 hj)
  have nS:¬mo ps ps.length=true:=by simpa using h2
  rw[W5]at nS;refine⟨?_,λp hp q hq aU=>?_⟩
  ·apply hZ;intro gF;refine nS λi j hi hj=>.inl ?_;rw[Ao (bd hi) (bd (l8 hj hi))];exact hZ λh=>gF ⟨_,dS _,_,dS _,h⟩
  ·obtain⟨i,hi,rfl⟩:=kN hp;obtain⟨j,hj,rfl⟩:=kN hq;rcases sO i j with h|h|h
   ·have:=bad.1 (hb j i hj h);rw[Ao (bd hj) (bd hi)]at this;rw[sw ps[j] ps[i]];exact(this λe=>aU (by rw[sw,e];exact V3.neg_eq_zero.2 rfl)).2
   ·subst h;exact absurd (V3.KE _) aU
   ·have:=bad.1 (hb i j hi h);rw[Ao (bd hi) (bd hj)]at this;exact(this aU).1
 ·rintro⟨⟨p,hp,q,hq,aU⟩,ba⟩
  refine⟨λi hi=>?_,?_⟩
  ·have hi:=j5.1 hi;rw[bf];intro j hj;have hj:=j5.1 hj;have hp:=bd hi;have hq:=bd (l8 hj hi);have:Aj ps i j=false:=bad.2 λh0=>by rw[Ao hp hq]at h0 ⊢;refine⟨ba _ (cQ hp) _ (cQ hq) h0,?_⟩;rw[<-sw];exact ba _ (cQ hq) _ (cQ hp) λe=>h0 (by rw[sw,e];exact V3.neg_eq_zero.2 rfl)
   rw[this];rfl
  ·obtain⟨i,hi,rfl⟩:=kN hp;obtain⟨j,hj,rfl⟩:=kN hq;have key:∀ i j (hi:i<ps.length) (hj:j<ps.length),j<i->ax ps[i].n ps[j].n≠0->(!mo ps ps.length)=true:=by
    intro i j hi hj pc aU;have:mo ps ps.length≠true:=λhf=>by
     rcases(W5 _).1 hf i j hi pc with h|h
     ·rw[Ao (bd hi) (bd hj)]at h;exact aU h
     ·rw[Ao (bd hi) (bd hj)]at h;obtain⟨r,hr,oh⟩:=ba _ (dS hi) _ (dS hj) aU;unfold BV at h;rw[bf]at h;have:=kH (h r hr);rw[this]at oh;exact OF.lt_irrefl _ oh
    simpa using this
   rcases sO i j with h|h|h
   ·exact key j i hj hi h λe=>aU (by rw[sw,e];exact V3.neg_eq_zero.2 rfl)
   ·subst h;exact absurd (V3.KE _) aU
   ·exact key i j hi hj h aU
theorem W6(v:V3 K):∀ l:List (V3 K),aVg l v=ml v l
 |[]=>rfl
 |a::l=>by
  unfold aVg ml;rw[W6 v l];have:(0<dU a v)↔dU a v=1:=by rcases H3 a v with h|h|h<;>rw[h]<;>decide
  by_cases h0:dU a v=0
  ·rw[aw h0,aw h0]
  ·rw[ao h0,ao h0];by_cases h1:dU a v=1
   ·rw[aw h1,aw (this.2 h1)]
   ·rw[ao h1,ao (λh=>h1 (this.1 h))]
theorem aFm{p q r:HS K}(h:cL p.n q.n r.n≠0):dR p (kR p q r)/\dR q (kR p q r)/\dR r (kR p q r):=by unfold dR kR IB;rw[V3.iZ,V3.iZ,V3.iZ,aPQ,CR.one_mul];have e1:=aSo p.n q.n r.n p.d q.d r.d;have e2:=aSp p.n q.n r.n p.d q.d r.d;have e3:=aSq p.n q.n r.n p.d q.d r.d;rw[e1,e2,e3,CR.mul_assoc,CR.mul_assoc,CR.mul_assoc,OF.lI _ h,CR.mul_one,CR.mul_one,CR.mul_one];exact⟨rfl,rfl,rfl⟩
theorem aSu{p q r:HS K}(h:cL p.n q.n r.n≠0){x:V3 K}(hp:dR p x)(hq:dR q x)(hr:dR r x):x=kR p q r:=by
 obtain⟨h1,h2,h3⟩:=aFm h;refine V3.sub_eq_zero.1 (V3.H0 h ?_ ?_ ?_)
 ·rw[V3.k9,show dot p.n x=p.d from hp,show dot p.n (kR p q r)=p.d from h1,OF.sub_self]
 ·rw[V3.k9,show dot q.n x=q.d from hq,show dot q.n (kR p q r)=q.d from h2,OF.sub_self]
 ·rw[V3.k9,show dot r.n x=r.d from hr,show dot r.n (kR p q r)=r.d from h3,OF.sub_self]
def D8(ps:List (HS K))(i j k:Nat):Prop:=cL (ee ps i).n (ee ps j).n (ee ps k).n≠0/\Ak ps i j k (kR (ee ps i) (ee ps j) (ee ps k))=true
theorem aSv{ps:List (HS K)}{acc:List (V3 K)}{i j k:Nat}{x:V3 K}:x∈tV ps acc i j k↔x∈acc\/(D8 ps i j k/\x=kR (ee ps i) (ee ps j) (ee ps k)):=by
 unfold tV D8;by_cases h:cL (ee ps i).n (ee ps j).n (ee ps k).n=0
 ·rw[aw h];exact⟨.inl,λe=>e.elim id λe=>absurd h e.1.1⟩
 ·rw[ao h];by_cases h2:Ak ps i j k (kR (ee ps i) (ee ps j) (ee ps k))=true
  ·rw[aw h2,W6,OX];exact⟨λe=>e.elim (λe=>.inr ⟨⟨h,h2⟩,e⟩) .inl,λe=>e.elim .inr λe=>.inl e.2⟩
  ·rw[ao h2];exact⟨.inl,λe=>e.elim id λe=>absurd e.1.2 h2⟩
theorem aSw{ps:List (HS K)}{acc:List (V3 K)}{i j k:Nat}(h:acc.Pairwise jH):(tV ps acc i j k).Pairwise jH:=by
 unfold tV;split
 ·exact h
 ·split
  ·rw[W6];exact UF h
  ·exact h
theorem aFn{ps:List (HS K)}{acc:List (V3 K)}{i j:Nat}{x:V3 K}:∀ n,x∈o6 ps acc i j n↔x∈acc\/∃ k,k<n/\D8 ps i j k/\x=kR (ee ps i) (ee ps j) (ee ps k)
 |0=>⟨.inl,λe=>e.elim id λ⟨k,h,_⟩=>by omega⟩
 |n+1=>by
  unfold o6;rw[aSv,aFn n];constructor
  ·rintro((h|⟨k,h1,h2⟩)|h)
   ·exact .inl h
   ·exact .inr ⟨k,by omega,h2⟩
   ·exact .inr ⟨n,by omega,h⟩
  ·rintro(h|⟨k,h1,h2⟩)
   ·exact .inl (.inl h)
   ·rcases eC k n with hl|hl
    ·exact .inl (.inr ⟨k,hl,h2⟩)
    ·have:k=n:=by omega
     subst this;exact .inr h2
theorem aFo{ps:List (HS K)}{acc:List (V3 K)}{i:Nat}{x:V3 K}:∀ n,x∈nN ps acc i n↔x∈acc\/∃ j k,j<n/\k<j/\D8 ps i j k/\x=kR (ee ps i) (ee ps j) (ee ps k)
 |0=>⟨.inl,λe=>e.elim id λ⟨k,_,h,_⟩=>by omega⟩
 |n+1=>by
  unfold nN;rw[aFn,aFo n];constructor
  ·rintro((h|⟨j,k,h1,h2⟩)|⟨k,h⟩)
   ·exact .inl h
   ·exact .inr ⟨j,k,by omega,h2⟩
   ·exact .inr ⟨n,k,by omega,h⟩
  ·rintro(h|⟨j,k,h1,h2⟩)
   ·exact .inl (.inl h)
   ·rcases eC j n with hl|hl
    ·exact .inl (.inr ⟨j,k,hl,h2⟩)
    ·have:j=n:=by omega
     subst this;exact .inr ⟨k,h2⟩
theorem aFp{ps:List (HS K)}{x:V3 K}:∀ n,x∈rj ps n↔∃ i j k,i<n/\j<i/\k<j/\D8 ps i j k/\x=kR (ee ps i) (ee ps j) (ee ps k)
 |0=>⟨λh=>(by cases h),λ⟨i,_,_,h,_⟩=>by omega⟩
 |n+1=>by
  unfold rj;rw[aFo,aFp n];constructor
  ·rintro(⟨i,j,k,h1,h2⟩|⟨j,k,h⟩)
   ·exact⟨i,j,k,by omega,h2⟩
   ·exact⟨n,j,k,by omega,h⟩
  ·rintro⟨i,j,k,h1,h2⟩
   rcases eC i n with hl|hl
   ·exact .inl ⟨i,j,k,hl,h2⟩
   ·have:i=n:=by omega
    subst this;exact .inr ⟨j,k,h2⟩
theorem aFq{ps:List (HS K)}{acc:List (V3 K)}{i j:Nat}(h:acc.Pairwise jH):∀ n,(o6 ps acc i j n).Pairwise jH
 |0=>h
 |n+1=>aSw (aFq h n)
theorem aFr{ps:List (HS K)}{acc:List (V3 K)}{i:Nat}(h:acc.Pairwise jH):∀ n,(nN ps acc i n).Pairwise jH
 |0=>h
 |n+1=>aFq (aFr h n) _
theorem aFs{ps:List (HS K)}:∀ n,(rj ps n).Pairwise jH
 |0=>aB0
 |n+1=>aFr (aFs n) _
theorem aSx{ps:List (HS K)}{i j k:Nat}(hi:i<ps.length)(hj:j<ps.length)(hk:k<ps.length)(h:D8 ps i j k):kL ps (kR (ee ps i) (ee ps j) (ee ps k)):=by
 obtain⟨hd,hb⟩:=h;obtain⟨t1,t2,t3⟩:=aFm hd;have hY:=bd hi;have iu:=bd hj;have gD:=bd hk;have mi:ee ps i∈ps:=by rw[pI hY];exact dS hi
 have mj:ee ps j∈ps:=by rw[pI iu];exact dS hj
 have mk:ee ps k∈ps:=by rw[pI gD];exact dS hk
 refine⟨λp hp=>?_,_,mi,_,mj,_,mk,hd,t1,t2,t3⟩;obtain⟨l,hl,rfl⟩:=kN hp;unfold Ak at hb;rw[bf]at hb;have:=hb l (j5.2 hl);unfold IM at this;rw[pI (bd hl)]at this;simp only[um,sY]at this;rcases this with rfl|rfl|rfl|h
 ·rw[pI hY]at t1 ⊢;exact OF.le_of_eq t1
 ·rw[pI iu]at t2 ⊢;exact OF.le_of_eq t2
 ·rw[pI gD]at t3 ⊢;exact OF.le_of_eq t3
 ·have:=W0.1 h;rw[<-OF.sub_nonneg];rw[<-OF.neg_nonneg,OF.neg_sub]at this;exact this
theorem IY{ps:List (HS K)}{i j k:Nat}{p q r:HS K}{x:V3 K}(hp:ps[i]?=some p)(hq:ps[j]?=some q)(hr:ps[k]?=some r)(hd:cL p.n q.n r.n≠0)(hx:gH ps x)(t1:dR p x)(t2:dR q x)(t3:dR r x):
  D8 ps i j k/\x=kR (ee ps i) (ee ps j) (ee ps k):=by
 unfold D8;rw[pI hp,pI hq,pI hr];have e:=aSu hd t1 t2 t3;refine⟨⟨hd,?_⟩,e⟩;rw[<-e];unfold Ak;rw[bf];intro l hl;have hl:=j5.1 hl;rw[pI (bd hl)];unfold IM;simp only[um,sY];refine .inr (.inr (.inr (W0.2 ?_)));have:=hx _ (dS hl);rw[<-OF.neg_nonneg,OF.neg_sub];exact OF.sub_nonneg.2 this
theorem QI{ps:List (HS K)}{x:V3 K}:x∈eP ps↔kL ps x:=by
 unfold eP;rw[aFp];constructor
 ·rintro⟨i,j,k,h1,h2,h3,h4,rfl⟩
  exact aSx h1 o_ o_ h4
 ·rintro⟨ct,p,hp,q,hq,r,hr,hd,t1,t2,t3⟩
  obtain⟨a,ha,rfl⟩:=kN hp;obtain⟨b,hb,rfl⟩:=kN hq;obtain⟨c,hc,rfl⟩:=kN hr;have iW:=bd ha;have jz:=bd hb;have ki:=bd hc;have same:∀ u w:V3 K,cL u u w=0:=WV;have W7:∀ u w:V3 K,cL u w w=0:=WW;have W8:∀ u w:V3 K,cL u w u=0:=WX;have ab:a≠b:=λe=>by subst e;exact hd (same _ _)
  have bc:b≠c:=λe=>by subst e;exact hd (W7 _ _)
  have ac:a≠c:=λe=>by subst e;exact hd (W8 _ _)
  have s1:∀{u v w:V3 K},cL u v w≠0->cL u w v≠0:=λ{u v w} h e=>h (by rw[V3.aBn,e,CR.neg_zero]);have r1:∀{u v w:V3 K},cL u v w≠0->cL v w u≠0:=λ{u v w} h e=>h (by rw[V3.OD];exact e);rcases sO a b with h1|h1|h1
  ·rcases sO b c with h2|h2|h2
   ·exact⟨c,b,a,hc,h2,h1,IY ki jz iW (r1 (s1 (r1 (r1 (r1 hd))))) ct t3 t2 t1⟩
   ·exact absurd h2 bc
   ·rcases sO a c with h3|h3|h3
    ·exact⟨b,c,a,hb,h2,h3,IY jz ki iW (r1 hd) ct t2 t3 t1⟩
    ·exact absurd h3 ac
    ·exact⟨b,a,c,hb,h1,h3,IY jz iW ki (s1 (r1 hd)) ct t2 t1 t3⟩
  ·exact absurd h1 ab
  ·rcases sO a c with h2|h2|h2
   ·exact⟨c,a,b,hc,h2,h1,IY ki iW jz (r1 (r1 hd)) ct t3 t1 t2⟩
   ·exact absurd h2 ac
   ·rcases sO b c with h3|h3|h3
    ·exact⟨a,c,b,ha,h2,h3,IY iW ki jz (s1 hd) ct t1 t3 t2⟩
    ·exact absurd h3 bc
    ·exact⟨a,b,c,ha,h1,h3,IY iW jz ki hd ct t1 t2 t3⟩
theorem aSy(ps:List (HS K)):(eP ps).Pairwise jH:=aFs _
theorem tW{ps:List (HS K)}(hc:Cl ps)(hp:gp ps)(hf:gJ ps):bT ps=eP ps:=by unfold bT;refine OY (KS _) (aSy ps) λx=>?_;rw[UG,QI,aRc hc hp (aLp hc hp hf)]
theorem LW{ps:List (HS K)}(hc:Cl ps)(hp:gp ps)(hf:gJ ps){x:V3 K}:x∈bT ps↔kL ps x:=by rw[tW hc hp hf,QI]
theorem W9{vs:List (V3 K)}:u4 vs=false↔OU vs:=by
 unfold u4;rw[IX];constructor
 ·rintro⟨i,hi,h⟩
  have hi:=j5.1 hi;unfold D6 at h;rw[Pc,IX]at h;obtain⟨k,hk,h⟩:=h;have hk:=j5.1 hk;unfold Gp at h;rw[Pc,IX]at h;obtain⟨j,hj,h⟩:=h;have hj:=j5.1 hj;unfold LP at h;cases vs with
  |nil=>simp at hi
  |cons o rest=>
   simp only[oD,Nq]at hi;have get:∀{n:Nat} (hn:n<rest.length),aL (o::rest) (n+1)=rest[n]:=λhn=>by unfold aL;simp[bd hn]
   rw[get hi,get o_,get o_,show aL (o::rest) 0=o from rfl]at h;refine⟨o,rest,rfl,rest[j],dS _,rest[i],dS _,rest[k],dS _,λe=>?_⟩;refine h (aB ((OF.eZ _).2 ?_));rw[V3.zj];exact e
 ·rintro⟨o,rest,rfl,a,ha,b,hb,c,hc,hd⟩
  obtain⟨a,la,rfl⟩:=kN ha;obtain⟨b,lb,rfl⟩:=kN hb;obtain⟨c,lc,rfl⟩:=kN hc;have get:∀{n:Nat} (hn:n<rest.length),aL (o::rest) (n+1)=rest[n]:=λhn=>by unfold aL;simp[bd hn]
  have fin:∀(i k j:Nat) (hi:i<rest.length) (hk:k<rest.length) (hj:j<rest.length),k<i->j<k->cL (rest[j]-o) (rest[i]-o) (rest[k]-o)≠0->∃ x∈List.range ((o::rest).length-1),¬D6 (o::rest) x=true:=by intro i k j hi hk hj hki bL hd;refine⟨i,j5.2 (by simpa using hi),?_⟩;unfold D6;rw[Pc,IX];refine⟨k,j5.2 hki,?_⟩;unfold Gp;rw[Pc,IX];refine⟨j,j5.2 bL,?_⟩;unfold LP;rw[get hi,get hk,get hj,show aL (o::rest) 0=o from rfl,sY,OF.eZ,V3.zj];exact hd
  have same:∀ u w:V3 K,cL u u w=0:=WV;have W7:∀ u w:V3 K,cL u w w=0:=WW;have W8:∀ u w:V3 K,cL u w u=0:=WX;have ab:a≠b:=λe=>by subst e;exact hd (same _ _)
  have bc:b≠c:=λe=>by subst e;exact hd (W7 _ _)
  have ac:a≠c:=λe=>by subst e;exact hd (W8 _ _)
  have s1:∀{u v w:V3 K},cL u v w≠0->cL u w v≠0:=λ{u v w} h e=>h (by rw[V3.aBn,e,CR.neg_zero]);have r1:∀{u v w:V3 K},cL u v w≠0->cL v w u≠0:=λ{u v w} h e=>h (by rw[V3.OD];exact e);rcases sO a b with h1|h1|h1
  ·rcases sO b c with h2|h2|h2
   ·exact fin c b a lc lb la h2 h1 (s1 hd)
   ·exact absurd h2 bc
   ·rcases sO a c with h3|h3|h3
    ·exact fin b c a lb lc la h2 h3 hd
    ·exact absurd h3 ac
    ·exact fin b a c lb la lc h1 h3 (r1 (s1 hd))
  ·exact absurd h1 ab
  ·rcases sO a c with h2|h2|h2
   ·exact fin c a b lc la lb h2 h1 (r1 hd)
   ·exact absurd h2 ac
   ·rcases sO b c with h3|h3|h3
    ·exact fin a c b la lc lb h2 h3 (r1 (r1 (s1 hd)))
    ·exact absurd h3 bc
    ·exact fin a b c la lb lc h1 h3 (r1 (r1 hd))
theorem aFt{ι:Type}{R:ι->ι->Prop}:∀{l:List ι},qe R l->∀(i:Nat) (x y:ι),l[i]?=some x->l[i+1]?=some y->R x y
 |[],_,i,x,y,h,_=>by simp at h
 |[a],_,i,x,y,_,h=>by simp at h
 |a::b::l,hs,0,x,y,h,k=>by simp at h k;subst h;subst k;exact hs.1
 |a::b::l,hs,i+1,x,y,h,k=>aFt hs.2 i x y (by simpa using h) (by simpa using k)
theorem aFu{g:V3 K}{vs:List (V3 K)}{on:List Nat}{a c:Nat}:u5 g vs on a c=true↔c≠a/\oV g (aL vs) on a c:=by
 unfold u5 LU;rw[db,bf];have e:∀ b,IU g vs a c b=true↔(b=a\/b=c\/0<turn g (aL vs a) (aL vs c) (aL vs b)):=by
  intro b;unfold IU QB;simp only[um,sY];have:(0<OF.az (cL g (aL vs c-aL vs a) (aL vs b-aL vs a)))↔0<turn g (aL vs a) (aL vs c) (aL vs b):=by rw[OF.iA];show 0<OF.az (turn g (aL vs a) (aL vs c) (aL vs b))↔_;rcases OF.iN (turn g (aL vs a) (aL vs c) (aL vs b))with h|h|h<;>rw[h]<;>decide
  rw[this]
 constructor
 ·rintro⟨h1,h2⟩
  refine⟨by simpa using h1,λb hb xy zn=>?_⟩;rcases(e b).1 (h2 b hb)with h|h|h
  ·exact absurd h xy
  ·exact absurd h zn
  ·exact h
 ·rintro⟨h1,h2⟩
  refine⟨by simpa using h1,λb hb=>(e b).2 ?_⟩;by_cases xy:b=a
  ·exact .inl xy
  ·by_cases zn:b=c
   ·exact .inr (.inl zn)
   ·exact .inr (.inr (h2 b hb xy zn))
theorem D9{p:HS K}{vs:List (V3 K)}{i:Nat}:i∈cv p vs vs.length↔i<vs.length/\dR p (aL vs i):=by unfold cv dR;rw[aEt,j5,sY,OF.sub_eq_zero]
theorem aFv(p:HS K)(vs:List (V3 K)):(cv p vs vs.length).Pairwise (·<·):=by unfold cv;exact List.Pairwise.filter _ List.pairwise_lt_range
theorem aFw{vs:List (V3 K)}{i:Nat}(h:i<vs.length):aL vs i∈vs:=cQ (ky h)
theorem aSz{vs:List (V3 K)}{v:V3 K}(h:v∈vs):∃ i,i<vs.length/\aL vs i=v:=by obtain⟨i,hi,rfl⟩:=kN h;refine⟨i,hi,?_⟩;have:=ky hi;rw[bd hi]at this;injection this with this;exact this.symm
structure sS(ps:List (HS K))(vs:List (V3 K)):Prop where
 sorted:vs.Pairwise jH
 mem:∀ v,v∈vs↔kL ps v
theorem sS.lt{ps:List (HS K)}{vs:List (V3 K)}(h:sS ps vs){i j:Nat}(mw:i<j)(hj:j<vs.length):jH (aL vs i) (aL vs j):=by have h1:=ky (vs:=vs) (i:=i) o_;have h2:=ky hj;rw[bd o_]at h1 h2;injection h1 with h1;injection h2 with h2;rw[<-h1,<-h2];exact Qc.1 h.sorted i j o_ hj mw
theorem sS.inj{ps:List (HS K)}{vs:List (V3 K)}(h:sS ps vs){i j:Nat}(hi:i<vs.length)(hj:j<vs.length)(e:aL vs i=aL vs j):i=j:=by
 rcases sO i j with hl|hl|hl
 ·have:=h.lt hl hj;rw[e]at this;exact absurd this (Dl _)
 ·exact hl
 ·have:=h.lt hl hi;rw[e]at this;exact absurd this (Dl _)
section
variable{ps:List (HS K)}{vs:List (V3 K)}{p:HS K}
theorem sS.conv(h:sS ps vs):Conv p.n (aL vs) (cv p vs vs.length):=
 aLh (ps:=ps) (p:=p) (λi hi=>by obtain⟨h1,h2⟩:=D9.1 hi;exact⟨(h.mem _).1 (aFw h1),h2⟩) λi hi j hj e=>h.inj (D9.1 hi).1 (D9.1 hj).1 e
theorem sS.sort(h:sS ps vs):xw (aL vs) aBH (cv p vs vs.length):=by unfold xw;refine List.Pairwise.imp_of_mem (λ{a b} ha hb al=>?_) (aFv p vs);have:=h.lt al (D9.1 hb).1;exact KN.1 this
theorem aSA(p:HS K)(vs:List (V3 K)):(cv p vs vs.length).Nodup:=(aFv p vs).imp λ{a b} h=>Nat.ne_of_lt h
theorem sS.loop(h:sS ps vs)(hp:p.n≠0)(hl:¬(cv p vs vs.length).length<3):
  QE p.n vs (cv p vs vs.length)=false/\aVf p.n vs (cv p vs vs.length) (order p.n (aL vs) (cv p vs vs.length))/\(order p.n (aL vs) (cv p vs vs.length)).length=(cv p vs vs.length).length:=by
 have hc:=h.conv (p:=p);have hs:=h.sort (p:=p);have jS:=aSA p vs;have ct:∀ a∈cv p vs vs.length,∀ b∈cv p vs vs.length,aL vs a=aL vs b->a=b:=λa ha b hb e=>h.inj (D9.1 ha).1 (D9.1 hb).1 e;generalize gL:cv p vs vs.length=on at *
 match on,hl,hc,hs,jS,ct with
 |a::b::c::l,_,hc,hs,jS,ct=>
  obtain⟨m,e1,e2,e3,e4⟩:=aKT hp hc hs;have hlen:(a::m).length=(a::b::c::l).length:=((List.perm_ext_iff_of_nodup e2 jS).2 e3).length_eq;refine⟨?_,⟨?_,?_,λi x y hx hy=>?_⟩,?_⟩
  ·show(c::l).all (BX p.n vs a b)=false;rw[IX];refine⟨c,aT ..,?_⟩;unfold BX QB;rw[sY,OF.eZ];simp only[List.nodup_cons,cy,not_or]at jS;exact hc.aBw hp (aT ..) (bB _ (aT ..)) (bB _ (bB _ (aT ..))) jS.1.1 jS.1.2.1 jS.2.1.1
  ·rw[e1,hlen]
  ·rw[e1];rfl
  ·rw[e1]at hx hy;have GB:=(eE.1 hy).1;have kP:=aFt e4 i x y (by rw[GI o_];exact hx) (by rw[GI GB];exact hy);have hym:=(e3 y).1 (cQ hy);have kk:y≠x:=by intro e;subst e;have Wv:=(eE.1 hx).1;have h1:=(eE.1 hx).2;have h2:=(eE.1 hy).2;have:=(Qc.1 e2) i (i+1) Wv GB o_;exact this (h1.trans h2.symm)
   obtain⟨k,hk,hke⟩:=kN hym;refine⟨k,by rw[bd hk,hke],aFu.2 ⟨kk,kP⟩,λj z hj hz=>?_⟩;cases hf:u5 p.n vs (a::b::c::l) x z with
   |false=>rfl
   |true=>
    obtain⟨q1,q2⟩:=aFu.1 hf;have:=aBD (pt:=aL vs) (n:=p.n) ct hym (cQ hz) kk q1 kP q2;subst this;have QC:=(eE.1 hz).1;have hje:=(eE.1 hz).2;exact absurd (hje.trans hke.symm) (Qc.1 jS j k QC hk hj)
  ·rw[e1,hlen]
 |[],hl,_,_,_,_=>simp at hl
 |[_],hl,_,_,_,_=>simp at hl
 |[_,_],hl,_,_,_,_=>simp at hl
theorem sS.IW(h:sS ps vs)(hp:p.n≠0)(i:Nat):oZ ps vs i p=if pG ps i p then[]else if(cv p vs vs.length).length<3 then[]else[(i,order p.n (aL vs) (cv p vs vs.length))]:=by
 unfold oZ;by_cases h1:pG ps i p=true
 ·rw[aw h1];exact aw h1
 ·rw[ao h1];refine(ao h1).trans ?_;by_cases h2:(cv p vs vs.length).length<3
  ·rw[aw h2,aw h2]
  ·rw[ao h2,ao h2,aw (by rw[(h.loop hp h2).2.2];omega)]
theorem aFx:∀{I J:List Nat},I.Nodup->(∀ x∈I,x∈J)->I.length<=J.length
 |[],_,_,_=>kU _
 |x::I,J,hn,hs=>by
  obtain⟨A,B,rfl⟩:=List.append_of_mem (hs x (aT ..));rw[List.nodup_cons]at hn;have:=aFx (J:=A++B) hn.2 λy hy=>by
   have h1:=hs y (bB _ hy);rcases dY.1 h1 with h|h
   ·exact sR _ h
   ·rcases cy.1 h with rfl|h
    ·exact absurd hy hn.1
    ·exact yb _ h
  simp only[iJ,oD]at this ⊢;omega
theorem aFy(f:Nat->List (Nat×List Nat))(P:Nat->Bool)(h:∀ i,P i=true->f i≠[]):∀ l:List Nat,(l.filter P).length<=(l.flatMap f).length
 |[]=>bh _
 |i::l=>by
  rw[List.flatMap_cons,iJ,MC];have:=aFy f P h l;split
  ·rename_i hp;have:=List.length_pos_iff.2 (h i hp);rw[oD];omega
  ·omega
theorem aFz{p q:HS K}(hp:p.n≠0)(hq:q.n≠0)(h:canon p=canon q)(v:V3 K):(dot p.n v<=p.d↔dot q.n v<=q.d)/\(dR p v↔dR q v):=by
 obtain⟨k,hk,rfl⟩:=(aSn hp hq).1 h;unfold dR D7
 try dsimp only
 rw[V3.aKA,CR.mul_comm (dot p.n v),CR.mul_comm p.d];refine⟨(OF.mul_le_mul_left hk).symm,λh=>by rw[h],λh=>?_⟩;have Dd:k≠0:=OF.ne_of_gt hk;have:k⁻¹*(k*dot p.n v)=k⁻¹*(k*p.d):=by rw[h]
 rwa[<-CR.mul_assoc,<-CR.mul_assoc,OF.inv_mul Dd,CR.one_mul,CR.one_mul]at this
theorem sQ.on(hc:Cl ps)(hp:gp ps)(hv:sS ps vs){x:V3 K}(hx:BC ps x){A B:List (HS K)}(h:sQ ps (A++p::B)):¬(cv p vs vs.length).length<3:=by
 intro al;have fV:=hp p (h.sub p (yb _ (aT ..)));have idx:∀ v,kL ps v->dR p v->∃ i∈cv p vs vs.length,aL vs i=v:=by intro v h1 h2;obtain⟨i,hi,e⟩:=aSz ((hv.mem v).2 h1);exact⟨i,D9.2 ⟨hi,by rw[e];exact h2⟩,e⟩
 have pl:∀ i∈cv p vs vs.length,dot p.n (aL vs i)=p.d:=λi hi=>(D9.1 hi).2;obtain⟨u,hu,Bv⟩:=KF fV;generalize cv p vs vs.length=on at *
 match on,al,idx,pl with
 |[],_,idx,_=>
  obtain⟨v,w,v1,v2,_⟩:=h.IW hc hp hx (FB fV hu Bv);obtain⟨i,hi,_⟩:=idx v v1 v2;cases hi
 |[o],_,idx,_=>
  obtain⟨v,w,v1,v2,w1,w2,al⟩:=h.IW hc hp hx (FB fV hu Bv);obtain⟨i,hi,e⟩:=idx v v1 v2;obtain⟨j,hj,e'⟩:=idx w w1 w2;simp at hi hj;subst hi;subst hj;rw[<-e,<-e']at al;exact OF.lt_irrefl _ al
 |[o,a],_,idx,pl=>
  by_cases hd:aL vs a-aL vs o=0
  ·have hd:=V3.sub_eq_zero.1 hd;obtain⟨v,w,v1,v2,w1,w2,al⟩:=h.IW hc hp hx (FB fV hu Bv);obtain⟨i,hi,e⟩:=idx v v1 v2;obtain⟨j,hj,e'⟩:=idx w w1 w2;simp at hi hj;rw[<-e,<-e']at al;rcases hi with rfl|rfl<;>rcases hj with rfl|rfl<;>first|exact OF.lt_irrefl _ al|(rw[hd]at al;exact OF.lt_irrefl _ al)
  ·have hdp:dot p.n (aL vs a-aL vs o)=0:=by rw[V3.k9,pl a s_,pl o s_,OF.sub_self]
   have cW:=FB fV hd hdp;have dx:=FB fV cW (V3.FA _ _);obtain⟨v,w,v1,v2,w1,w2,al⟩:=h.IW hc hp hx dx;obtain⟨i,hi,e⟩:=idx v v1 v2;obtain⟨j,hj,e'⟩:=idx w w1 w2;have heq:dot (ax p.n (aL vs a-aL vs o)) (aL vs a)=dot (ax p.n (aL vs a-aL vs o)) (aL vs o):=by rw[<-OF.sub_eq_zero,<-V3.k9,V3.zj];exact V3.Dg _ _
   simp at hi hj;rw[<-e,<-e']at al;rcases hi with rfl|rfl<;>rcases hj with rfl|rfl<;>first|exact OF.lt_irrefl _ al|(rw[heq]at al;exact OF.lt_irrefl _ al)
 |_::_::_::_,al,_,_=>simp only[oD]at al;omega
theorem aSB(hc:Cl ps)(hp:gp ps)(hv:sS ps vs)(hf:gJ ps):4<=(eX ps vs ps.length).length:=by
 obtain⟨x,hx⟩:=hf;obtain⟨S,hS⟩:=aSr ps;have h4:=hS.four hc hp hx;obtain⟨fi,j7⟩:∃ fi:HS K->Nat,fi=λp=>ps.findIdx λq=>decide (canon q=canon p):=⟨_,rfl⟩;have Xa:∀ p∈S,fi p<ps.length:=λp hp=>by rw[j7];exact List.findIdx_lt_length_of_exists ⟨p,hS.sub p hp,by simp⟩
 have Ao:∀ p (hp:p∈S),canon (ps[fi p]'(Xa p hp))=canon p:=λp hp=>by have h1:=Xa p hp;have:=List.findIdx_getElem (xs:=ps) (p:=λq=>decide (canon q=canon p)) (w:=by rw[j7]at h1;exact h1);subst j7;simpa using this
 have split:∀ i (hi:i<S.length),S=S.take i++S[i]::S.drop (i+1):=λi hi=>by rw[<-O7 hi,Ik]
 have aU:S.Pairwise λp q=>canon p≠canon q:=by
  rw[Qc];intro i j hi hj mw e;have hl:sQ ps (S.take i++S[i]::S.drop (i+1)):=by rw[<-split i hi];exact hS
  obtain⟨y,hy,al⟩:=hl.alone;have hm:S[j]∈S.drop (i+1):=cQ (i:=j-(i+1)) (by rw[Eh,show i+1+(j-(i+1))=j by omega,bd hj])
  have:=hy _ (yb _ hm);have hs:=(aFz (hp _ (hS.sub _ (dS hi))) (hp _ (hS.sub _ (dS hj))) e y).1;exact OF.lt_irrefl _ (OF.lt_of_lt_of_le al (hs.2 this))
 have hI:(S.map fi).Nodup:=by
  unfold List.Nodup;rw[List.pairwise_map];refine List.Pairwise.imp_of_mem (λ{a b} ha hb bZ e=>bZ ?_) aU;have h1:=Ao a ha;have h2:=Ao b hb;rw[<-h1,<-h2]
  congr 1
  have:∀(i j:Nat) (hi:i<ps.length) (hj:j<ps.length),i=j->ps[i]=ps[j]:=λi j hi hj e=>by subst e;rfl
  exact this _ _ _ _ e
 have aSC:∀ i∈S.map fi,i<ps.length/\jW ps vs i≠[]:=by
  intro i hi;obtain⟨p,QJ,rfl⟩:=di.1 hi;have al:=Xa p QJ;have aFA:=Ao p QJ;refine⟨al,?_⟩;unfold jW;rw[bd al];dsimp only;have fV:=hp _ (hS.sub p QJ);have zu:=hp _ (dS al);rw[hv.IW zu];have tR:¬pG ps (fi p) ps[fi p]=true:=by
   unfold pG;rw[rC]
   rintro⟨q,hq,hd⟩
   obtain⟨j,hj,rfl⟩:=kN hq;rw[jL]at hj;rw[WC,aFA]at hd;have hd:=kH hd;have hjf:j<fi p:=by omega
   rw[j7]at hjf;have:=List.not_of_lt_findIdx hjf;simp[hd]at this
  rw[ao tR];obtain⟨k,hk,rfl⟩:=kN QJ;have hl:sQ ps (S.take k++S[k]::S.drop (k+1)):=by rw[<-split k hk];exact hS
  have gL:=sQ.on hc hp hv hx hl;have heq:cv ps[fi S[k]] vs vs.length=cv S[k] vs vs.length:=by unfold cv;refine List.filter_congr λi _=>?_;have hs:=(aFz zu fV aFA (aL vs i)).2;unfold dR at hs;rw[s9,OF.sub_eq_zero,OF.sub_eq_zero];exact hs
  rw[heq,ao gL];exact n_
 have h1:=aFx (J:=(List.range ps.length).filter λi=>decide (jW ps vs i≠[])) hI λi hi=>by rw[aEt,j5,sY];exact aSC i hi
 have h2:=aFy (jW ps vs) (λi=>decide (jW ps vs i≠[])) (λi hi=>kH hi) (List.range ps.length);rw[ek]at h1;unfold eX;omega
end
end
theorem bI.swap{α β:Type}{R:α->β->Prop}{a a':α}(h:∀ b,R a b->R a' b):∀(pre:List α) {post:List α} {m:List β},bI R (pre++a::post) m->bI R (pre++a'::post) m
 |[],_,_,h1=>by cases h1 with|cons h2 h3=>exact .cons (h _ h2) h3
 |_::pre,_,_,h1=>by cases h1 with|cons h2 h3=>exact .cons h2 (bI.swap h pre h3)
theorem aFB{c:Nat->Option Obj}{M:aH}(h:cS c M)(k:Nat)(x:Obj):cS (aY c k x) ((k,x)::M):=λj y e=>by
 unfold ag at e;unfold aY;split at e
 ·rename_i hb;injection e with e;subst e;rw[aw (j0 hb).symm]
 ·rename_i hb;rw[ao (λe'=>hb (by rw[e'];exact EA k))];exact h j y e
theorem aSD{c:Nat->Option Obj}{n:Nat}(h:eD c n){k:Nat}(hk:k<n)(x:Obj):eD (aY c k x) n:=λj hj=>by unfold aY;rw[ao o_];exact h j hj
section
variable{P:Program}{B:aa}{N:Nat}
theorem aM.aSE{ι:Map}{c:Nat->Option Obj}{w:World}(hm:aM B ι c w){k:Nat}{cells cells':aj}{ty:TypeId}(hk:c k=some (.aI cells ty))(h:∀ bt,bI (aG ι) cells bt->bI (aG ι) cells' bt):aM B ι (aY c k (.aI cells' ty)) w:=by obtain⟨l,h1,b,bt,e1,e2,e3⟩:=hm.born k _ hk;subst e1;exact hm.write hk rfl h1 (.refl w) rfl rfl (bh _) (λ_ _ _=>rfl) ⟨b,bt,rfl,h _ e2,e3⟩ n_ rfl
theorem St.aSF{fr:aV}{M:aH}{next:Nat}{a:Act}{w:World}(h:St B N fr M next a w){k:Nat}{pre post:aj}{tb:TypeId}(hk:ag M k=some (.aI (pre++.slice none 0 0::post) tb))(ty:TypeId)(s:Nat):
  St B N fr ((k,.aI (pre++.slice (some ⟨next,0,some 7⟩) 0 0::post) tb)::(next,.row [] ty s)::M) (next+1) a w:=by
 obtain⟨ι,cc,h1,h2,h3,h4⟩:=h;have hn:=h4 next (bh _);have hle:Map.le ι (dB ι next .nil):=gC (h2.dr next hn);have wb:=h3 k _ hk;have mD:k≠next:=λe=>by subst e;rw[hn]at wb;cases wb
 have al:k<next:=by
  rcases eC k next with h|h
  ·exact h
  ·rw[h4 k h]at wb;cases wb
 have m1:aM B (dB ι next .nil) (aY cc next (.row [] ty s)) w:=h2.add hn (.inl ⟨rfl,rfl⟩) n_ n_ n_;have m2:=m1.aSE (k:=k) (cells:=pre++.slice none 0 0::post) (cells':=pre++.slice (some ⟨next,0,some 7⟩) 0 0::post) (ty:=tb) (by unfold aY;rw[ao mD];exact wb) λbt hc=>
  bI.swap (λb hb=>by rw[hb.eR rfl];exact .slcN (fE _ _ _)) pre hc
 refine⟨_,_,⟨h1.defers,h1.size,λt=>(h1.slot t).mono hle⟩,m2,aFB (aFB h3 _ _) _ _,aSD (λj hj=>?_) o_ _⟩;unfold aY;rw[ao o_];exact h4 j o_
def aFC(P:Program)(f:FuncId)(kO s1 np:Nat)(xp:aj)(nv:Nat)(xv:aj)(F:Fact):Prop:=
 ∀ w v1 b o c,cK w v1 np xp->cK w (.slice (some ⟨b,o,none⟩) nv c) nv xv->Calls P f #[v1,.slice (some ⟨b,o,none⟩) nv c] w λe w'=>∃ u1 u3,e=.returned (.agg #[u1,.slice (some ⟨b,o,none⟩) nv c,u3])/\
  w'.ownsRow w.heap.size kO s1 u1 np xp/\De w' u3 F/\(∀ b,F.cO u3 w' b->w.heap.size<=b)/\(∀ b,iF u1=some b->¬F.cO u3 w' b)/\Below w.heap.size w w'
theorem aSG{f:FuncId}{kO s1 np nv:Nat}{xp xv:aj}{F:Fact}{a1 a2:Value}{nd:List (Nat×Option Obj)}{o:Oper}{x:Operand}{S:Nat}(h:aFC P f kO s1 np xp nv xv F)(hs:fm B [.r np xp,.r nv xv] [a1,a2] nd)(ho:dp o.op=some x)(eG:gk P f=true)(wC:F.rc=false)
  (f1:(xp.all flat)=true) (hnv:0<nv) (hS:∀ w,B.G w->S<=w.heap.size) (k:Nat) :
  cA P B o (.func (.func f) #[] #[]::[a1,a2]) ((k,none)::(k+1,none)::nd) (.agg #[.slice (some ⟨k,0,some 7⟩) np 0,a2,.pointer (some ⟨k+1,0,some 9⟩)])
   [(k+1,.fact (F.jJ S)),(k,.row xp kO s1)]:=by
 have:=jB (P:=P) (B:=B) (o:=o) (x:=x) (f:=f) (fi:=[]) (args:=[a1,a2]) (ca:=[]) (need:=(k,none)::(k+1,none)::nd)
  (val:=.agg #[.slice (some ⟨k,0,some 7⟩) np 0,a2,.pointer (some ⟨k+1,0,some 9⟩)]) (cR:=[(k+1,.fact (F.jJ S)),(k,.row xp kO s1)]) ho eG ?_
 ·simpa using this
 ·intro ι c w hm hn args' ha;rw[jo,iY]at ha;have k0:c k=none:=hn (k,none) s_;have k1:c (k+1)=none:=hn (k+1,none) s_;have ct:=Br hs hm (λp hp=>hn p (by simp[hp])) ha;obtain⟨v1,v2,rfl,ca1,YQ⟩:=jx ha;cases ct with
  |cons i1 ct=>
  cases ct with
  |cons i2 _=>
  have i1:cK w v1 np xp:=i1;have i2:cK w v2 nv xv:=i2;have i3:=i2;rcases i2 with ⟨_,e,_⟩|⟨b,o',c',rfl,_⟩
  ·omega
  refine(h w v1 b o' c' i1 i3).mono ?_
  rintro e w' ⟨u1,u3,rfl,r1,r3,f3,PA,hb⟩
  have Ld:=hS w hm.base;have uU:=hm.call hb;have cV:∀ j y b o cap,c j=some y->ι j=some (.at b o cap)->y.owns=true\/y.gj=true->b<w.heap.size:=λj y b o cap hj hl hy=>by
   rcases hy with hy|hy
   ·exact(hm.own j y b o cap hj hy hl).1
   ·exact(hm.seen j y b o cap hj hy hl).1
  have PC:∀ j F u b,c j=some (.fact F)->ι j=some (.val u)->F.cO u w' b->b<w.heap.size:=λj F u b hj hu hF=>by have hF:=hm.B7 hj hu hb.size (λk hk _=>hb.block k hk) hF;obtain⟨l,q1,q2⟩:=hm.born j _ hj;rw[hu]at q1;injection q1 with q1;exact q2.wB q1.symm hF
  have Le:∀ b,iF u1=some b->w.heap.size<=b:=λb hb=>by
   rcases r1.2 with ⟨h1,_⟩|⟨g,cap,cur,h1,h2,_⟩
   ·rw[h1]at hb;cases hb
   ·rw[h1]at hb;injection hb with hb;subst hb;exact h2
  have PD:∀ b,B.cO b->b<w.heap.size:=λb hF=>B.lt w b hm.base hF;obtain⟨bM,l1,m1,c1,p1⟩:=Vd uU k0 r1 f1 PD (λj y b o cap hj hl hy e=>by have a:=cV j y b o cap hj hl hy;have b:=Le b e;omega) (λj F u b hj hu e hF=>by have a:=PC j F u b hj hu hF;have b:=Le b e;omega);have back:∀ j y l,c j=some y->bM j=some l->ι j=some l:=λj y l hj hl=>by obtain⟨l',cg,_⟩:=uU.born j y hj;have:=l1 j l' cg;rw[hl]at this;injection this with this;rw[this];exact cg
  have PE:aY c k (.row xp kO s1) (k+1)=none:=by unfold aY;rw[ao o_];exact k1
  have Lf:∀ j y,aY c k (.row xp kO s1) j=some y->(j=k/\y=.row xp kO s1)\/(j≠k/\c j=some y):=λj y hj=>by
   unfold aY at hj;by_cases bL:j=k
   ·rw[aw bL]at hj;injection hj with hj;exact .inl ⟨bL,hj.symm⟩
   ·rw[ao bL]at hj;exact .inr ⟨bL,hj⟩
  have m3:aM B (dB bM (k+1) (.val u3)) (aY (aY c k (.row xp kO s1)) (k+1) (.fact (F.jJ S))) w':=
   m1.add PE ⟨u3,rfl,r3.1,λb hF=>dh Ld (f3 b hF)⟩ n_ (λF' v b e1 e2 hF j y o' aO hj hy he=>by
    injection e1 with e1;subst e1;injection e2 with e2;subst e2;have hF:F.cO u3 w' b:=hF;rcases Lf j y hj with ⟨rfl,rfl⟩|⟨_,hj⟩
    ·exact PA b (p1 b o' aO he) hF
    ·have h1:=cV j y b o' aO hj (back j y _ hj he) (.inl hy);have h2:=f3 b hF;omega) n_ λF' e hr=>by
    injection e with e;subst e;have:F.rc=true:=hr;rw[wC]at this;cases this
  have l3:Map.le bM (dB bM (k+1) (.val u3)):=gC (m1.dr _ PE);exact⟨_,_,rfl,l1.trans l3,.agg (.cons (c1.mono l3) (.cons (YQ.mono (l1.trans l3)) (.cons (.opq (fE _ _ _) r3.2.1 r3.2.2) .nil))),m3⟩
end
section
open V3 (dot ax cL smul)
theorem Gs(F:Fact)(S:Nat):∀ v w,(F.jJ S).G v w->F.G v w:=λ_ _ h=>h.1
def Ea(ps:List (HS K))(vs:List RV)(fs:List (Int×List Int)):aP:=.s ps.length (aQ ps) vs.length (cE vs) (fo fs)
theorem aFD(ps:List (HS K))(vs:List RV)(fs:List (Int×List Int)):(Ea ps vs fs).ok=true:=by show((aQ ps).all flat&&((cE vs).all flat&&true))=true;rw[cZ,gU gh];rfl
def Xb(ps:List (HS K))(vs:List RV)(fs:List (Int×List Int)):Bool:=qN ps&&(qR ps (bT ps)&&(decide (vs=(bT ps).map cC)&&decide (fs=fD ps)))
section
variable{ps:List (HS K)}{m:Nat}{vs:List RV}{fs:List (Int×List Int)}
def eQ(k:Nat):Value:=.pointer (some ⟨k,0,some 9⟩)
theorem aSH(ps:List (HS K))(vs:List RV)(fs:List (Int×List Int)):([Ea ps vs fs].all aP.ok)=true:=by simp only[dG,fB,aFD,vU]
theorem wy{vs:List RV}(h:vs.length=0):cE vs=[]:=by rw[lq h];rfl
theorem aSI(h:pH ps m)(aN:∀ x∈vs,x.Sm)(iq:vs.length<9223372036854775807)(wz:fs.length<9223372036854775807)(rf:∀ f∈fs,f.2.length<9223372036854775807):cD prog 38 [Ea ps vs fs] (.bool (Xb ps vs fs)):=by
 unfold Xb;have ay:=aSH ps vs fs;unfold Ea at *;by_cases hc:qN ps=true
 ·by_cases hi:qR ps (bT ps)=true
  ·have mq:=aEJ h hc hi;rw[hc,hi];have oy:∀ x∈(bT ps).map cC,x.Sm:=λx hx=>by obtain⟨v,hv,rfl⟩:=di.1 hx;exact(LH h.sz v hv).sm (Wp (BT (n:=0) h.bound o_).2.1).2.2
   have heq:=aMx (a:=vs) (b:=(bT ps).map cC) aN oy iq;have hef:=aRl (fs:=fs) (fs':=fD ps) wz rf;unfold aR at mq;have hlen:(bT ps).length=((bT ps).map cC).length:=by rw[ek]
   rw[hlen]at mq;generalize (bT ps).map cC=cM at *;have e0:decide (vs=cM)=true\/decide (vs=cM)=false:=by cases decide (vs=cM)<;>simp
   rcases e0 with e0|e0
   ·rw[e0]at heq ⊢;rw[lD,lD,lD];generalize decide (fs=fD ps)=t at *;refine fJ mixed func38 ay 100 (N:=29) k_ (λw=>[
     .step 9 (av f38 9) [.func (.func 40) #[] #[],sl 0 ps.length] [(4,none),(5,none),(6,none),(0,some (.view (aQ ps)))] (.tuple #[.agg #[sl 4 ps.length,sl 5 cM.length,eQ 6],iR 0]) [(6,.fact ((fo (fD ps)).jJ w.heap.size)),(5,.row (cE cM) 33 30),(4,.row (aQ ps) 35 40)]
      (Dz (B:=aa.at w) (S:=w.heap.size) mq (.w (x:=.view (aQ ps)) rfl (cZ ps) iE .nil) (x:=.func 40) k_ k_ rfl (cZ ps) (gU gh _) rfl (λw' hb=>Below.size hb) 4),
     .step 19 (av f38 19) [.func (.func 65) #[] #[],sl 1 vs.length,sl 5 cM.length] [(1,some (.view (cE vs))),(5,some (.row (cE cM) 33 30))] (.bool true) []
      (dE heq (.w (x:=.view (cE vs)) rfl (gU gh _) wy (.w (x:=.row (cE cM) 33 30) rfl (gU gh _) wy .nil)) (x:=.func 65) k_ k_ rfl),
     .step 27 (av f38 27) [.func (.func 66) #[] #[],eQ 2,eQ 6,LK] [(2,some (.fact (fo fs))),(6,some (.fact ((fo (fD ps)).jJ w.heap.size)))] (.bool t) []
      (dE hef (.o (.oi (Gs _ _) (.p rfl .nil))) (x:=.func 66) k_ k_ rfl)]) (λw=>?_) k_
    kernel_rfl
   ·rw[e0]at heq ⊢;refine fJ mixed func38 ay 100 (N:=29) k_ (λw=>[
     .step 9 (av f38 9) [.func (.func 40) #[] #[],sl 0 ps.length] [(4,none),(5,none),(6,none),(0,some (.view (aQ ps)))] (.tuple #[.agg #[sl 4 ps.length,sl 5 cM.length,eQ 6],iR 0]) [(6,.fact ((fo (fD ps)).jJ w.heap.size)),(5,.row (cE cM) 33 30),(4,.row (aQ ps) 35 40)]
      (Dz (B:=aa.at w) (S:=w.heap.size) mq (.w (x:=.view (aQ ps)) rfl (cZ ps) iE .nil) (x:=.func 40) k_ k_ rfl (cZ ps) (gU gh _) rfl (λw' hb=>Below.size hb) 4),
     .step 19 (av f38 19) [.func (.func 65) #[] #[],sl 1 vs.length,sl 5 cM.length] [(1,some (.view (cE vs))),(5,some (.row (cE cM) 33 30))] (.bool false) []
      (dE heq (.w (x:=.view (cE vs)) rfl (gU gh _) wy (.w (x:=.row (cE cM) 33 30) rfl (gU gh _) wy .nil)) (x:=.func 65) k_ k_ rfl)]) (λw=>?_) k_
    kernel_rfl
  ·have hi:qR ps (bT ps)=false:=by simpa using hi
   rw[hc,hi];exact fJ mixed func38 ay 100 (N:=29) k_ (λw=>[.step 9 (av f38 9) [.func (.func 40) #[] #[],sl 0 ps.length] [(0,some (.view (aQ ps)))] (.tuple #[ri,iR 12]) []
    (dE (aEH h hc hi) (.w (x:=.view (aQ ps)) rfl (cZ ps) iE .nil) (x:=.func 40) k_ k_ k_)]) (λw=>k_) k_
 ·have hc:qN ps=false:=by simpa using hc
  rw[hc];exact fJ mixed func38 ay 100 (N:=29) k_ (λw=>[.step 9 (av f38 9) [.func (.func 40) #[] #[],sl 0 ps.length] [(0,some (.view (aQ ps)))] (.tuple #[ri,iR 13]) []
   (dE (aRe h hc) (.w (x:=.view (aQ ps)) rfl (cZ ps) iE .nil) (x:=.func 40) k_ k_ k_)]) (λw=>k_) k_
end
theorem aSJ{ns:List Nat}:∀{Os cq:aH},cq.map (·.1)=Os.map (·.1)++ns->∀ k,ag cq k=none↔(ag Os k=none/\ns.contains k=false):=by
 have look:∀(l:aH) (k:Nat),ag l k=none↔(l.map (·.1)).contains k=false:=by
  intro l k;induction l with
  |nil=>exact⟨λ_=>rfl,λ_=>rfl⟩
  |cons p l ih=>
   obtain⟨a,x⟩:=p;rw[show ag ((a,x)::l) k=if Nat.beq a k=true then some x else ag l k from rfl,rI,List.contains_cons];by_cases h:Nat.beq a k=true
   ·rw[aw h];have:=j0 h;subst this;simp
   ·rw[ao h,ih];have:(k==a)=false:=by
     cases e:k==a with
     |false=>rfl
     |true=>have:=eq_of_beq e;subst this;exact absurd (EA k) h
    rw[this,yK]
 intro Os cq h k;rw[look,look,h,List.contains_append,Mx]
theorem St.aSK{B:aa}{N:Nat}{fr:aV}{M:aH}{next k:Nat}{a:Act}{w:World}{ty:TypeId}(h:St B N fr M next a w)(hk:ag M k=some (.aI [.slice none 0 0] ty))(FX:TypeId)(s:Nat):
  St B N fr ((k,.aI [.slice (some ⟨next,0,some 7⟩) 0 0] ty)::(next,.row [] FX s)::M) (next+1) a w:=by
 obtain⟨ι,cc,h1,h2,h3,h4⟩:=h;have hn:=h4 next (bh _);have hle:Map.le ι (dB ι next .nil):=gC (h2.dr next hn);have wb:=h3 k _ hk;have mD:k≠next:=λe=>by subst e;rw[hn]at wb;cases wb
 have m1:=h2.add hn (x:=.row [] FX s) (l:=.nil) (.inl ⟨rfl,rfl⟩) n_ n_ n_;have aFE:aY cc next (.row [] FX s) k=some (.aI [.slice none 0 0] ty):=by unfold aY;rw[ao mD];exact wb
 obtain⟨l,q1,b,bt,q2,q3,q4⟩:=m1.born k _ aFE;subst q2;have m2:=m1.write (y:=.aI [.slice (some ⟨next,0,some 7⟩) 0 0] ty) aFE rfl q1 (.refl w) rfl rfl (bh _) (λ_ _ _=>rfl) ⟨b,bt,rfl,by obtain⟨u,rfl,hu⟩:=lT q3;rw[hu.eR rfl];exact .cons (.slcN (fE _ _ _)) .nil,q4⟩ n_ rfl
 refine⟨_,_,h1.mono hle,m2,λj x e=>?_,λj hj=>?_⟩
 ·unfold ag at e;split at e
  ·rename_i hb;injection e with e;subst e;unfold aY;rw[aw (j0 hb).symm]
  ·rename_i hb;have bL:j≠k:=λe'=>hb (by rw[e'];exact EA k);unfold ag at e;split at e
   ·rename_i gw;injection e with e;subst e;unfold aY;rw[ao bL,aw (j0 gw).symm]
   ·have:=h3 j x e;have RQ:j≠next:=λe'=>by subst e';rw[hn]at this;cases this
    unfold aY;rw[ao bL,ao RQ];exact this
 ·have hkl:k<next:=by
   rcases eC k next with h|h
   ·exact h
   ·have:=h4 k h;rw[wb]at this;cases this
  unfold aY;rw[ao o_,ao o_];exact h4 j o_
def ke(p:HS K)(vs:List (V3 K))(j:Nat):List Nat:=(List.range j).filter λk=>decide (OF.az (dot p.n (aL vs k)-p.d)>0)
theorem aSL(p:HS K)(vs:List (V3 K))(j:Nat):ke p vs (j+1)=ke p vs j++(if OF.az (dot p.n (aL vs j)-p.d)>0 then[j]else[]):=by
 unfold ke;rw[HM,aEs]
 congr 1
 by_cases h:OF.az (dot p.n (aL vs j)-p.d)>0<;>simp[h]
theorem aSM(p:HS K)(vs:List (V3 K))(j:Nat):(ke p vs j).length<=j:=by have:=aEu (λk=>decide (OF.az (dot p.n (aL vs k)-p.d)>0)) (List.range j);rw[yB]at this;exact this
section
variable{ps:List (HS K)}{vs:List (V3 K)}{p:HS K}
def tX(np:Nat)(vs:List (V3 K))(p:HS K)(L:Nat)(l:List Nat):aH:=[(3,.aI [sl 0 np,sl 1 vs.length,eQ 2] 26),(4,.aI (cF p).cs 35),(5,.aI [sl 6 L] 56),(6,.row (ai l) 3 1)]
def QK(vs:List (V3 K)):aH:=[(1,.view (aR vs))]
theorem aSN{np i m q:Nat}{l:List Nat}(hi:i<vs.length)(hp:bo m p)(fV:p.n≠0)(aN:∀ v∈vs,aF q v)(hm:100*(m+q)+1000<=aC)(h63:l.length<900000)(hs:OF.az (dot p.n (aL vs i)-p.d)>0):
  xz prog 76 7 ([vI i]++[bX 4,bX 3,bX 5]) (tX np vs p l.length l) (QK vs) (.tuple #[]) [(3,.aI [sl 0 np,sl 1 vs.length,eQ 2] 26),(4,.aI (cF p).cs 35),(5,.aI [sl 8 (l.length+1)] 56),(6,.dead),(8,.row (ai (l++[i])) 3 1)]:=by
 have hv:=ky hi;have FQ:=FK hp (aN _ (cQ hv)) o_ fV;have e:(Value.bool (decide (OF.az (dot p.n (aL vs i)-p.d)>0)))=.bool true:=by rw[aB hs]
 have hr:ai l++[vI i]=ai (l++[i]):=by simp[ai]
 have Ad:(ai l).length=l.length*1:=by rw[lM,fZ]
 have h1:=IF l;unfold tX;generalize OF.az (dot p.n (aL vs i)-p.d)=z at *;generalize aL vs i=v at *;generalize ai l=c0 at *;generalize ai (l++[i])=c1 at *;exact ou mixed func76 100 (N:=17) k_ (λ_=>[.c9 f76 9 1 vs.length i 30 hi k_,.ld f76 10 33 1 (i*30) (.view (aR vs)) (bP v) rfl (mP hv) k_,FQ.at 11,.rw 12 (.bool (decide (z>0))) (.bool true) e,.bs f76 15 7 1 3 1 [0] (vI 0) [vI i] #[vI i] (.row [vI i] 3 1) rfl (λv hv=>by simp at hv;subst hv;rfl) (λv hv=>by simp at hv;subst hv;rfl) k_ rfl d_ d_ k_,.pj f76 16 8 6 l.length 1 (l.length+1) 3 1 8 c0 7 (.row [vI i] 3 1) c1 rfl rfl rfl Ad hr (λv hv=>by simp[Obj.cells]at hv;subst hv;rfl) d_ (by simp[maxLen];omega) o_ k_]) (λ_=>k_)
theorem aSO{np i m q:Nat}{l:List Nat}(hi:i<vs.length)(hp:bo m p)(fV:p.n≠0)(aN:∀ v∈vs,aF q v)(hm:100*(m+q)+1000<=aC)(hs:¬OF.az (dot p.n (aL vs i)-p.d)>0):
  xz prog 76 7 ([vI i]++[bX 4,bX 3,bX 5]) (tX np vs p l.length l) (QK vs) (.tuple #[]) (tX np vs p l.length l):=by
 have hv:=ky hi;have FQ:=FK hp (aN _ (cQ hv)) o_ fV;have e:(Value.bool (decide (OF.az (dot p.n (aL vs i)-p.d)>0)))=.bool false:=by rw[aJ hs]
 unfold tX;generalize OF.az (dot p.n (aL vs i)-p.d)=z at *;generalize aL vs i=v at *;generalize ai l=c0 at *;exact ou mixed func76 100 (N:=17) k_ (λ_=>[.c9 f76 9 1 vs.length i 30 hi k_,.ld f76 10 33 1 (i*30) (.view (aR vs)) (bP v) rfl (mP hv) k_,FQ.at 11,.rw 12 (.bool (decide (z>0))) (.bool false) e]) (λ_=>k_)
def IZ(nv i:Nat):aV:=[(12,vI i),(11,vI nv),(6,.func (.func 76) #[] #[bX 4,bX 3,bX 5]),(5,bX 5)]
def Ap(xs:aj)(F:Fact)(np:Nat)(vs:List (V3 K))(p:HS K)(l:List Nat):aH:=(0,.view xs)::(2,.fact F)::(1,.view (aR vs))::tX np vs p l.length l
theorem aFF{np L:Nat}{l:List Nat}:((tX np vs p L l++QK vs).all λq=>Nat.blt q.1 7&&oq 7 q)=true:=by have e1:=zy (m:=7) (k:=4) (x:=.aI (cF p).cs 35) λv hv=>iD.flat _ v hv;have e2:=zy (m:=7) (k:=6) (x:=.row (ai l) 3 1) λv hv=>kv _ v hv;have e3:=zy (m:=7) (k:=1) (x:=.view (aR vs)) λv hv=>bf.1 (dW vs) v hv;simp only[tX,QK,EW,jo,dG,fB,e1,e2,e3];rfl
theorem aSP{Bs:aa}{xs:aj}{F:Fact}{np i m q:Nat}{l:List Nat}(hi:i<vs.length)(hp:bo m p)(fV:p.n≠0)(aN:∀ v∈vs,aF q v)(hm:100*(m+q)+1000<=aC)(h63:l.length<900000)(iq:vs.length<900000)(hs:OF.az (dot p.n (aL vs i)-p.d)>0):
  ah prog Bs 20 (aE (af f42 0)) (IZ vs.length i) (Ap xs F np vs p l) 7 ⟨.normal,IZ vs.length (i+1),[(0,.view xs),(2,.fact F),(1,.view (aR vs)),(3,.aI [sl 0 np,sl 1 vs.length,eQ 2] 26),(4,.aI (cF p).cs 35),(5,.aI [sl 8 (l.length+1)] 56),(8,.row (ai (l++[i])) 3 1)],9⟩:=by
 have Xc:=aSN (np:=np) hi hp fV aN hm h63 hs;have dq:=aFF (p:=p) (vs:=vs) (np:=np) (L:=l.length) (l:=l);have f4:∀ v∈(cF p).cs,xF 7 [8] v=true:=λv hv=>aCO (iD.flat _ v hv);have f8:∀ v∈ai (l++[i]),xF 7 [8] v=true:=λv hv=>aCO (kv _ v hv);unfold Ap;unfold tX at *;generalize ai l=c0 at *;generalize ai (l++[i])=c1 at *;refine aA [.lt 13 i vs.length true (aB hi),.step 17 (av f42 17) _ _ _ _ (aM8 (args:=[vI i]) (ca:=[bX 4,bX 3,bX 5]) (ns:=[8]) (x:=.tmp 15) Xc k_ k_ k_ k_ dq ?_ k_ ?_ k_ (aSJ rfl)),.sum 18 i 1 (i+1) rfl o_]
 ·intro q hq;simp only[cy,jh,ji]at hq;rcases hq with rfl|rfl|rfl|rfl|rfl
  ·intro v hv;simp[Obj.cells]at hv;rcases hv with rfl|rfl|rfl<;>rfl
  ·exact f4
  ·intro v hv;simp[Obj.cells]at hv;subst hv;rfl
  ·intro v hv;cases hv
  ·exact f8
 ·intro q hq;simp only[cy,jh,ji]at hq;rcases hq with rfl|rfl|rfl|rfl|rfl
  ·exact .inl rfl
  ·exact .inl rfl
  ·exact .inl rfl
  ·exact .inr rfl
  ·exact .inl rfl
theorem aSQ{Bs:aa}{xs:aj}{F:Fact}{np i m q:Nat}{l:List Nat}(hi:i<vs.length)(hp:bo m p)(fV:p.n≠0)(aN:∀ v∈vs,aF q v)(hm:100*(m+q)+1000<=aC)(iq:vs.length<900000)(hs:¬OF.az (dot p.n (aL vs i)-p.d)>0):
  ah prog Bs 20 (aE (af f42 0)) (IZ vs.length i) (Ap xs F np vs p l) 7 ⟨.normal,IZ vs.length (i+1),Ap xs F np vs p l,7⟩:=by
 have Xc:=aSO (np:=np) (l:=l) hi hp fV aN hm hs;have dq:=aFF (p:=p) (vs:=vs) (np:=np) (L:=l.length) (l:=l);have Fu:((tX np vs p l.length l).all (oq 7))=true:=by rw[List.all_append,db]at dq;rw[bf];intro q hq;have:=bf.1 dq.1 q hq;rw[db]at this;exact this.2
 unfold Ap;unfold tX at *;generalize ai l=c0 at *;exact aA [.lt 13 i vs.length true (aB hi),.step 17 (av f42 17) _ _ _ _ (aB5 (args:=[vI i]) (ca:=[bX 4,bX 3,bX 5]) (x:=.tmp 15) Xc k_ k_ k_ k_ dq Fu k_ k_),.sum 18 i 1 (i+1) rfl o_]
noncomputable def lC0:Code:=qV (eK f42)
noncomputable def lC1:Code:=qV (mS (eK f42))
noncomputable def lC2:Code:=qV (mS (mS (eK f42)))
noncomputable def lC3:Code:=qV (qV (mS (mS (mS (eK f42)))))
noncomputable def lC4:Code:=qV (mS (mS (mS (mS (eK f42)))))
theorem aSR:(f42).body=some (.seq lC0 (.seq lC1 (.seq lC2 (.seq (.seq lC3 (.block 0 (.loop (aE (af f42 0))))) (.seq lC4 .ret))))):=k_
theorem aSS{xs:aj}{F:Fact}{np L:Nat}{l:List Nat}{r:List (Nat×Nat)}(kM:(xs.all flat)=true)(h3:([sl 0 np,sl 1 vs.length,eQ 2].all (tG r))=true)(h4:((cF p).cs.all (tG r))=true)(h5:tG r (sl 6 L)=true):
  ∀ q∈(0,.view xs)::(2,.fact F)::(1,.view (aR vs))::tX np vs p L l,FT r q.2:=λq hq=>by
 simp only[tX,cy,jh,ji]at hq;rcases hq with rfl|rfl|rfl|rfl|rfl|rfl|rfl
 ·exact λv hv=>bf.1 kM v hv
 ·trivial
 ·exact λv hv=>bf.1 (dW vs) v hv
 ·exact h3
 ·exact h4
 ·show([sl 6 L].all (tG r))=true;rw[dG,h5];rfl
 ·exact λv hv=>kv _ v hv
def Xd(B:aa)(xs:aj)(F:Fact)(np:Nat)(vs:List (V3 K))(p:HS K)(i:Nat)(a:Act)(w:World):Prop:=St B 20 (IZ vs.length i) (Ap xs F np vs p (ke p vs i)) 7 a w
theorem aST{xs:aj}{F:Fact}{np m q:Nat}(hp:bo m p)(fV:p.n≠0)(aN:∀ v∈vs,aF q v)(hm:100*(m+q)+1000<=aC)(iq:vs.length<900000)(kM:(xs.all flat)=true)(hF:F.rc=false):
  lL prog 42 [.s np xs vs.length (aR vs) F,.p (cB p)] 3 1 (ke p vs vs.length).length (ai (ke p vs vs.length)):=by
 intro w args ct;have ay:([.s np xs vs.length (aR vs) F,.p (cB p)].all aP.ok)=true:=by
  have e:(aP.s np xs vs.length (aR vs) F).ok=true:=by show(xs.all flat&&((aR vs).all flat&&!F.rc))=true;rw[kM,dW,hF];rfl
  simp only[dG,fB,e,Wt,vU]
 obtain⟨ι,c,h1,h2,h3,h4,h5,h6,h7⟩:=vK ct (bf.1 ay) 0 _ _ (qB w) n_ (λ_ _=>rfl);have po:∀ k,(aa.at w).mp k=none:=λ_=>rfl;refine Vb (N:=20) (B:=aa.at w) func42 aSR k_ h6 h2 h4 h3 rfl λa bJ=>?_
 have g0:ah prog (aa.at w) 20 lC0 (jA 0 (eL 0 [.s np xs vs.length (aR vs) F,.p (cB p)])) (jt 0 [.s np xs vs.length (aR vs) F,.p (cB p)]) 3
   ⟨.normal,[(2,bX 3),(3,bX 4)],[(0,.view xs),(2,.fact F),(1,.view (aR vs)),(3,.aI [sl 0 np,sl 1 vs.length,eQ 2] 26),(4,.aI (cF p).cs 35)],5⟩:=aA []
 have g1:ah prog (aa.at w) 20 lC1 [(2,bX 3),(3,bX 4)] [(0,.view xs),(2,.fact F),(1,.view (aR vs)),(3,.aI [sl 0 np,sl 1 vs.length,eQ 2] 26),(4,.aI (cF p).cs 35)] 5
   ⟨.normal,[(5,bX 5),(2,bX 3),(3,bX 4)],[(0,.view xs),(2,.fact F),(1,.view (aR vs)),(3,.aI [sl 0 np,sl 1 vs.length,eQ 2] 26),(4,.aI (cF p).cs 35),(5,.aI [.slice none 0 0] 56)],6⟩:=aA []
 refine lA (lh g0 bJ λa1 w1 s1=>?_);refine lA (lh g1 s1 λa2 w2 s2=>?_);have s2':=s2.aSK (k:=5) rfl 3 1;have g2:ah prog (aa.at w) 20 lC2 [(5,bX 5),(2,bX 3),(3,bX 4)] _ 7 ⟨.normal,[(6,.func (.func 76) #[] #[bX 4,bX 3,bX 5]),(5,bX 5),(2,bX 3)],Ap xs F np vs p [],7⟩:=fe mixed 100 (M:=(5,.aI [.slice (some ⟨6,0,some 7⟩) 0 0] 56)::(6,.row [] 3 1)::[(0,.view xs),(2,.fact F),(1,.view (aR vs)),(3,.aI [sl 0 np,sl 1 vs.length,eQ 2] 26),(4,.aI (cF p).cs 35),(5,.aI [.slice none 0 0] 56)]) [] k_;refine lA (lh g2 s2' λa3 w3 s3=>?_);have g3:ah prog (aa.at w) 20 lC3 [(6,.func (.func 76) #[] #[bX 4,bX 3,bX 5]),(5,bX 5),(2,bX 3)] (Ap xs F np vs p []) 7 ⟨.normal,IZ vs.length 0,Ap xs F np vs p [],7⟩:=aA [];refine lA (lA (lh g3 s3 λa4 w4 s4=>?_));refine Jw ?_;refine Va vs.length (Xd (aa.at w) xs F np vs p) s4 (λi hi a' w' h' K hK=>?_) λa' w' h'=>?_
 ·have hl:=aSM p vs i;have e:=aSL p vs i;by_cases hs:OF.az (dot p.n (aL vs i)-p.d)>0
  ·rw[aw hs]at e;refine lh (aSP hi hp fV aN hm o_ iq hs) h' λa5 w5 s5=>hK a5 w5 ?_;unfold Xd Ap;rw[e,iJ,vS];have hk:=aSS (vs:=vs) (p:=p) (F:=F) (np:=np) (L:=(ke p vs i).length+1) (l:=ke p vs i++[i]) (r:=[(0,0),(2,2),(1,1),(3,3),(4,4),(5,5),(6,8)]) kM k_ k_ k_;unfold tX at hk ⊢;generalize ai (ke p vs i++[i])=c1 at *;exact s5.Ij po [(0,0),(2,2),(1,1),(3,3),(4,4),(5,5),(6,8)] k_ rfl hk k_ k_ k_ k_ k_
  ·rw[ao hs,iY]at e;refine lh (aSQ hi hp fV aN hm iq hs) h' λa5 w5 s5=>hK a5 w5 ?_;unfold Xd;rw[e];exact s5
 ·refine lh (r:=⟨.exit 0,[(5,bX 5)],[(5,.aI [sl 6 (ke p vs vs.length).length] 56),(6,.row (ai (ke p vs vs.length)) 3 1)],7⟩) (aA [.lt 13 vs.length vs.length false s_]) h' λa5 w5 s5=>?_;show Code.wpIn _ _ _ _ _ _ _;refine lA (lh (r:=⟨.normal,[(4,sl 6 (ke p vs vs.length).length)],[(6,.row (ai (ke p vs vs.length)) 3 1)],7⟩) (aA []) s5 λa6 w6 s6=>?_);refine Jx ?_;refine(Vc s6 rfl (v:=sl 6 (ke p vs vs.length).length) k_ λau bY v' bj xW hc=>⟨v',rfl,?_,bj.base⟩).1;have:=vo bj (xW 6 _ rfl) hc (by rw[lM];omega) (kv _);have e:(ai (ke p vs vs.length)).take ((ke p vs vs.length).length*1)=ai (ke p vs vs.length):=kj (by rw[lM];omega);rw[e]at this;exact this
end
def Aq(ps:List (HS K)):aP:=Ea ps ((bT ps).map cC) (fD ps)
def BZ(ps:List (HS K)):Bool:=qN ps&&qR ps (bT ps)
theorem aFG(ps:List (HS K)):(fD ps).length<=ps.length:=by unfold fD;rw[ek];exact Qh ps _ _
theorem aSU(nn:V3 K)(vs:List (V3 K))(l:List Nat):(order nn (aL vs) l).length<=2*l.length:=by
 have bA:∀ l:List Nat,(j8 nn vs l).length<=l.length:=λl=>by have:=(LC (nn:=nn) (vs:=vs) (l:=l) l.length (bh _)).2;unfold bJ at this;rw[nI]at this;unfold j8;rw[Gi,List.length_tail];omega
 rw[aEp,iJ];have h1:=bA l;have h2:=bA l.reverse;rw[Gi]at h2;omega
theorem aFH{ps:List (HS K)}(h:ps.length<=20):∀ f∈fD ps,f.2.length<=1600:=by
 intro f hf;unfold fD at hf;obtain⟨g,hg,rfl⟩:=di.1 hf;unfold eX at hg;rw[BF]at hg;obtain⟨i,_,hg⟩:=hg;unfold jW at hg;split at hg
 ·rename_i p hp;unfold oZ at hg;split at hg
  ·cases hg
  ·split at hg
   ·cases hg
   ·split at hg
    ·simp at hg;subst hg;show(List.map _ _).length<=_;rw[ek];show(order p.n (aL (bT ps)) (cv p (bT ps) (bT ps).length)).length<=1600;have h1:=aSU p.n (bT ps) (cv p (bT ps) (bT ps).length);have h2:=IG p (bT ps) (bT ps).length;have h3:=II ps h;omega
    ·cases hg
 ·cases hg
section
variable{ps:List (HS K)}{m:Nat}{p:HS K}
theorem vsm(h:pH ps m):∀ x∈(bT ps).map cC,x.Sm:=λx hx=>by obtain⟨v,hv,rfl⟩:=di.1 hx;exact(LH h.sz v hv).sm (Wp (BT (n:=0) h.bound o_).2.1).2.2
theorem aSV(h:pH ps m)(hs:BZ ps=true):cD prog 38 [Aq ps] (.bool true):=by have h1:=II ps h.len;have h2:=aFG ps;have h3:=h.len;have:=aSI (vs:=(bT ps).map cC) (fs:=fD ps) h (vsm h) (by rw[ek];omega) o_ λf hf=>eW (aFH h3 f hf) d_;unfold BZ at hs;unfold Xb at this;rw[db]at hs;rw[hs.1,hs.2,aB rfl,aB rfl]at this;exact this
theorem pH.left(h:pH (ps++[p]) m):pH ps m/\bo m p/\p.n≠0/\ps.length<=19:=by have hl:=h.len;rw[iJ,vS]at hl;exact⟨⟨by omega,λq hq=>h.sz q (dY.2 (.inl hq)),λq hq=>h.ne q (dY.2 (.inl hq)),h.bound⟩,h.sz p s_,h.ne p s_,by omega⟩
def Xe(ps:List (HS K)):Value:=.agg #[sl 0 ps.length,sl 1 ((bT ps).map cC).length,eQ 2]
theorem aSW{Bs:aa}{nd:List (Nat×Option Obj)}{l:List aP}{xs:aj}(h:fm Bs l xs nd):fm Bs (Aq ps::l) (Xe ps::xs) ((0,some (.view (aQ ps)))::(1,some (.view (cE ((bT ps).map cC))))::(2,some (.fact (fo (fD ps))))::nd):=
 .s (x1:=.view (aQ ps)) (x2:=.view (cE ((bT ps).map cC))) rfl (cZ ps) iE rfl (gU gh _) wy h
noncomputable def cuS{w:World}(h:pH (ps++[p]) m)(hs:BZ ps=true)(more:bE prog (aa.at w) 43):bE prog (aa.at w) 43:=
 .step 9 (av f12 9) [.func (.func 38) #[] #[],Xe ps] [(0,some (.view (aQ ps))),(1,some (.view (cE ((bT ps).map cC)))),(2,some (.fact (fo (fD ps))))] (.bool true) []
  (dE (aSV h.left.1 hs) (aSW .nil) (x:=.func 38) k_ k_ rfl)::
 .call 13 39 [cB p] (.bool true) (λw' _=>by have:=zt h.left.2.1 (BT (n:=0) h.bound o_).2.2.2.1;rw[aB h.left.2.2.1]at this;exact this w')::
 .ge 21 ps.length 100 false (aJ (by have:=h.left.2.2.2;omega))::
 .step 26 (av f12 26) [.func (.func 41) #[] #[],sl 0 ps.length] [(6,none),(0,some (.view (aQ ps)))] (sl 6 ps.length) [(6,.row (aQ ps) 35 40)]
  (qL (aEb (aEI (by unfold BZ at hs;rw[db]at hs;exact hs.1)) (by have:=h.left.2.2.2;omega)) (.w (x:=.view (aQ ps)) rfl (cZ ps) iE .nil) (x:=.func 41) k_ k_ (cZ ps) 6)::
 .bs f12 28 7 1 35 40 [0] (RP.v ⟨sJ,Gf⟩) [cB p] (cF p).cs.toArray (.row (cF p).cs 35 40) rfl (λv hv=>by simp at hv;subst hv;rfl) (λv hv=>iD.flat _ v hv) k_ rfl d_ d_ k_::
 .pj f12 29 8 6 ps.length 1 (ps.length+1) 35 40 480 (aQ ps) 7 (.row (cF p).cs 35 40) (aQ (ps++[p])) rfl rfl rfl (Ac ps) (by unfold aQ;rw[sW];show dc RP.cs _++_=dc RP.cs _;rw[H6];simp[dc,Obj.cells]) (iD.one _) d_ (by have:=h.left.2.2.2;simp[maxLen];omega) (by have:=h.left.2.2.2;omega) k_::more
theorem aFI(ps:List (HS K))(p:HS K):([Aq ps,.p (cB p)].all aP.ok)=true:=by have e:(Aq ps).ok=true:=aFD _ _ _;simp only[dG,fB,e,Wt,vU]
theorem aFJ{Bs:aa}:fm Bs [fC (ps++[p])] [sl 8 (ps.length+1)] [(8,some (.row (aQ (ps++[p])) 35 40))]:=by
 have e:ps.length+1=(ps++[p]).length:=by simp
 rw[e];exact .w (x:=.row (aQ (ps++[p])) 35 40) rfl (cZ _) iE .nil
theorem aSX(h:pH (ps++[p]) m)(hs:BZ ps=true)(hc:qN (ps++[p])=true)(hi:qR (ps++[p]) (bT (ps++[p]))=false):cD prog 12 [Aq ps,.p (cB p)] (.tuple #[ri,.bool false,iR 12]):=by
 have ay:=aFI ps p;have mq:=aEH h hc hi;refine fJ mixed func12 ay 100 (N:=43) k_ (λw=>cuS h hs [.step 30 (av f12 30) [.func (.func 40) #[] #[],sl 8 (ps.length+1)] [(8,some (.row (aQ (ps++[p])) 35 40))] (.tuple #[ri,iR 12]) []
  (dE mq aFJ (x:=.func 40) k_ k_ k_)]) (λw=>?_) k_
 kernel_rfl
theorem aSY(h:pH (ps++[p]) m)(hs:BZ ps=true)(hc:qN (ps++[p])=true)(hi:qR (ps++[p]) (bT (ps++[p]))=true):
  tH prog 12 [Aq ps,.p (cB p)] 35 40 (ps.length+1) (aQ (ps++[p])) 33 30 (bT (ps++[p])).length (aR (bT (ps++[p]))) (fo (fD (ps++[p]))) [.bool (decide (0<(ke p (bT ps) (bT ps).length).length)),iR 0]:=by
 have ay:=aFI ps p;have mq:=aEJ h hc hi;have hl:=aST (vs:=bT ps) (xs:=aQ ps) (F:=fo (fD ps)) (np:=ps.length) h.left.2.1 h.left.2.2.1 (LH h.left.1.sz) (BT (n:=0) h.bound o_).2.2.1 (by have:=II ps h.left.1.len;omega) (cZ ps) rfl;have hlen:(bT ps).length=((bT ps).map cC).length:=by rw[ek]
 have e1:(ps++[p]).length=ps.length+1:=by simp
 rw[e1]at mq;unfold aR at hl;rw[hlen]at hl ⊢;have fx:=gV (ke p (bT ps) ((bT ps).map cC).length);have xM:=Ac (ps++[p]);rw[e1]at xM;generalize hL:ke p (bT ps) ((bT ps).map cC).length=l at *;generalize hb:decide (0<l.length)=t;refine PB (k1:=9) (k2:=10) (k3:=11) mixed func12 ay 100 (N:=43) k_ (λw=>cuS h hs [
  .step 30 (av f12 30) [.func (.func 40) #[] #[],sl 8 (ps.length+1)] [(9,none),(10,none),(11,none),(8,some (.row (aQ (ps++[p])) 35 40))] (.tuple #[.agg #[sl 9 (ps.length+1),sl 10 (bT (ps++[p])).length,eQ 11],iR 0])
   [(11,.fact ((fo (fD (ps++[p]))).jJ w.heap.size)),(10,.row (aR (bT (ps++[p]))) 33 30),(9,.row (aQ (ps++[p])) 35 40)]
   (Dz (B:=aa.at w) (S:=w.heap.size) mq aFJ (x:=.func 40) k_ k_ rfl (cZ _) (dW _) rfl (λw' hb=>Below.size hb) 9),
  .step 40 (av f12 40) [.func (.func 42) #[] #[],Xe ps,cB p] [(12,none),(0,some (.view (aQ ps))),(1,some (.view (cE ((bT ps).map cC)))),(2,some (.fact (fo (fD ps))))] (sl 12 l.length) [(12,.row (ai l) 3 1)]
   (qL hl (.s (x1:=.view (aQ ps)) (x2:=.view (cE ((bT ps).map cC))) rfl (cZ ps) iE rfl (gU gh _) wy (.p k_ .nil)) (x:=.func 42) k_ k_ fx 12),
  .gt 42 l.length 0 t hb]) (λw=>?_) d_ (cZ _) xM (dW _) (su _) k_
 kernel_rfl
end
structure I0(p:HS K)(vs:List (V3 K)):Prop where
 flat:QE p.n vs (cv p vs vs.length)=false
 seq:aVf p.n vs (cv p vs vs.length) (order p.n (aL vs) (cv p vs vs.length))
 len:(order p.n (aL vs) (cv p vs vs.length)).length=(cv p vs vs.length).length
def I1(ps:List (HS K))(k:Nat)(p:HS K):Bool:=(ps.take k).any λq=>decide (canon p=canon q)
theorem aSZ{ps:List (HS K)}{k:Nat}{q:HS K}(h:ps[k]?=some q)(p:HS K):I1 ps (k+1) p=(I1 ps k p||decide (canon p=canon q)):=by unfold I1;rw[vV,h,List.any_append];simp
section
variable{Bs:aa}{ps:List (HS K)}{vs:List (V3 K)}
def QL(n i k:Nat)(b:Bool):aV:=[(8,vI k),(7,.bool b),(6,vI i),(0,sl 0 n)]
def I2(ps:List (HS K)):aH:=[(0,.view (aQ ps))]
theorem aS0{i k m:Nat}{p q:HS K}{b t:Bool}(hk:k<i)(hi:i<ps.length)(hp:ps[i]?=some p)(hq:ps[k]?=some q)(bW:∀ p∈ps,bo m p/\p.n≠0)(hm:100*m+1000<=aC)(h63:ps.length<=500)(ht:(b||decide (canon p=canon q))=t):
  ah prog Bs 57 (aE (af f62 2)) (QL ps.length i k b) (I2 ps) 5 ⟨.normal,QL ps.length i (k+1) t,I2 ps,5⟩:=by
 have sp:=bW p (cQ hp);have sq:=bW q (cQ hq);have hs:=aVF sp.1 sq.1 o_ o_ sp.2 sq.2;cases b with
 |true=>
  rw[GL]at ht;subst ht;exact aA [.lt 23 k i true (aB hk),.sum 25 k 1 (k+1) rfl o_]
 |false=>
  rw[yK]at ht;rw[ht]at hs;exact aA [.lt 23 k i true (aB hk),.c9 f62 30 0 ps.length i 40 hi k_,.ld f62 31 35 0 (i*40) (.view (aQ ps)) (cB p) rfl (zw hp) k_,.c9 f62 34 0 ps.length k 40 o_ k_,.ld f62 35 35 0 (k*40) (.view (aQ ps)) (cB q) rfl (zw hq) k_,hs.at 36,.sum 25 k 1 (k+1) rfl o_]
theorem aFK{i m:Nat}{p:HS K}(hi:i<ps.length)(hp:ps[i]?=some p)(bW:∀ p∈ps,bo m p/\p.n≠0)(hm:100*m+1000<=aC)(h63:ps.length<=500):
  ah prog Bs 57 (.block 2 (af f62 2)) (QL ps.length i 0 false) (I2 ps) 5 ⟨.normal,[(7,.bool (pG ps i p))],I2 ps,5⟩:=
 bO (id:=2) (ch (r:=⟨.exit 2,[(7,.bool (I1 ps i p))],I2 ps,5⟩) i (λk=>QL ps.length i k (I1 ps k p)) (λ_=>I2 ps) (λi k _=>Iff.rfl) (λk hk=>by
  have hq:=bd (l:=ps) (i:=k) o_;exact aS0 hk hi hp hq bW hm h63 (aSZ hq p).symm) (by
  generalize I1 ps i p=b;exact aA [.lt 23 i i false s_]) n_)
def Eb(n i:Nat)(v2:Value):aV:=[(6,vI i),(0,sl 0 n),(1,v2),(4,ptr 1),(5,ptr 3)]
def yc(ps:List (HS K))(v2:Value)(cells:aj)(c:Nat):aH:=
 [(0,.view (aQ ps)),(1,.aI [.slice none 0 0,.slice none 0 0,.slice none 0 0] 26),(2,.row (aQ ps) 35 40),(3,.aI [sl 2 ps.length,v2,sl 4 c] 26),(4,.row cells 63 2)]
section
variable{b o c:Nat}
theorem aS1{i m cc:Nat}{p:HS K}{cells:aj}(hi:i<ps.length)(hp:ps[i]?=some p)(bW:∀ p∈ps,bo m p/\p.n≠0)(hm:300*m+1000<=aC)(h63:ps.length<=500)(ht:pG ps i p=true):
  ah prog Bs 57 (aE (af f62 0)) (Eb ps.length i (.slice (some ⟨b,o,none⟩) vs.length c)) (yc ps (.slice (some ⟨b,o,none⟩) vs.length c) cells cc) 5
   ⟨.normal,Eb ps.length (i+1) (.slice (some ⟨b,o,none⟩) vs.length c),yc ps (.slice (some ⟨b,o,none⟩) vs.length c) cells cc,5⟩:=by
 have lo:=aFK (Bs:=Bs) hi hp bW o_ h63;rw[ht]at lo;exact aA [.lt 18 i ps.length true (aB hi),.code 2 _ _ _ _ _ lo,.sum 20 i 1 (i+1) rfl o_]
noncomputable def rcS{i m:Nat}{p:HS K}(hi:i<ps.length)(hp:ps[i]?=some p)(bW:∀ p∈ps,bo m p/\p.n≠0)(hm:300*m+1000<=aC)(h63:ps.length<=500)(ht:pG ps i p=false)(more:bE prog Bs 57):bE prog Bs 57:=
 .lt 18 i ps.length true (aB hi)::.code 2 _ _ _ _ _ (ht▸aFK (Bs:=Bs) hi hp bW o_ h63)::.c9 f62 41 0 ps.length i 40 hi k_::.ld f62 42 35 0 (i*40) (.view (aQ ps)) (cB p) rfl (zw hp) k_::more
theorem aS2{i m cc:Nat}{p:HS K}{cells:aj}(hi:i<ps.length)(hp:ps[i]?=some p)(bW:∀ p∈ps,bo m p/\p.n≠0)(aN:∀ v∈vs,aF m v)(hm:300*m+1000<=aC)(h63:ps.length<=500)(iq:vs.length<900000)(ht:pG ps i p=false)
  (iw:∀ w,Bs.G w->cK w (.slice (some ⟨b,o,none⟩) vs.length c) vs.length (aR vs)) (ho:(cv p vs vs.length).length<3) :
  ah prog Bs 57 (aE (af f62 0)) (Eb ps.length i (.slice (some ⟨b,o,none⟩) vs.length c)) (yc ps (.slice (some ⟨b,o,none⟩) vs.length c) cells cc) 5
   ⟨.normal,Eb ps.length (i+1) (.slice (some ⟨b,o,none⟩) vs.length c),yc ps (.slice (some ⟨b,o,none⟩) vs.length c) cells cc,5⟩:=by
 have sp:=bW p (cQ hp);have hl:=aSb sp.1 sp.2 aN o_ iq ho;exact aA (rcS hi hp bW hm h63 ht [.step 44 (av f62 44) [.func (.func 104) #[] #[],cB p,.slice (some ⟨b,o,none⟩) vs.length c] [] (.slice none 0 0) []
   (dE hl (.p rfl (.e rfl iw .nil)) (x:=.func 104) k_ k_ rfl),.gt 47 0 0 false rfl,.sum 20 i 1 (i+1) rfl o_])
theorem aS3{i m cc:Nat}{p:HS K}{cells:aj}(hi:i<ps.length)(hp:ps[i]?=some p)(bW:∀ p∈ps,bo m p/\p.n≠0)(aN:∀ v∈vs,aF m v)(hm:300*m+1000<=aC)(h63:ps.length<=500)(iq:vs.length<900000)(ht:pG ps i p=false)
  (iw:∀ w,Bs.G w->cK w (.slice (some ⟨b,o,none⟩) vs.length c) vs.length (aR vs)) (ho:¬(cv p vs vs.length).length<3) (hk:I0 p vs) (hc:cells.length=cc*2) (LF:cc<=500) (Ei:∀ v∈cells,v.oneCell'=true) :
  ah prog Bs 57 (aE (af f62 0)) (Eb ps.length i (.slice (some ⟨b,o,none⟩) vs.length c)) (yc ps (.slice (some ⟨b,o,none⟩) vs.length c) cells cc) 5
   ⟨.normal,Eb ps.length (i+1) (.slice (some ⟨b,o,none⟩) vs.length c),[(0,.view (aQ ps)),(1,.aI [.slice none 0 0,.slice none 0 0,.slice none 0 0] 26),(2,.row (aQ ps) 35 40),(3,.aI [sl 2 ps.length,.slice (some ⟨b,o,none⟩) vs.length c,sl 7 (cc+1)] 26),(5,.row (ai (order p.n (aL vs) (cv p vs vs.length))) 3 1),(7,.row (cells++[vI i,sl 5 (ai (order p.n (aL vs) (cv p vs vs.length))).length]) 63 2)],8⟩:=by
 have sp:=bW p (cQ hp);have hl:=aV4 sp.1 sp.2 aN hm iq ho hk.flat hk.seq;have hlen:=hk.len;rw[lM];generalize order p.n (aL vs) (cv p vs vs.length)=l at *;generalize mz:cells++[vI i,sl 5 l.length]=cells' at *;exact aA (rcS hi hp bW hm h63 ht [.step 44 (av f62 44) [.func (.func 104) #[] #[],cB p,.slice (some ⟨b,o,none⟩) vs.length c] [(5,none)] (sl 5 l.length) [(5,.row (ai l) 3 1)]
   (qL hl (.p rfl (.e rfl iw .nil)) (x:=.func 104) k_ k_ (gV l) 5),.gt 47 l.length 0 true (aB o_),
  .step 52 (av f62 52) [vI i,sl 5 l.length] [] (.agg #[vI i,sl 5 l.length]) [] (Pp (t:=63) (idx:=[0,1]) k_ (λit z h1 h2=>aEv h1 h2) k_),
  .bsM f62 53 6 1 63 2 [0] (.agg #[vI 0,.slice none 0 0]) [.agg #[vI i,sl 5 l.length]] #[vI i,sl 5 l.length] (.row [vI i,sl 5 l.length] 63 2) rfl (λv hv=>by
   have hv:v∈[vI 0,.slice none 0 0]:=hv;simp at hv;rcases hv with rfl|rfl<;>rfl) d_ k_ rfl d_ d_ k_,.pj f62 54 7 4 cc 1 (cc+1) 63 2 32 cells 6 (.row [vI i,sl 5 l.length] 63 2) cells' rfl rfl rfl hc mz (λv hv=>by
   simp[Obj.cells]at hv;rcases hv with rfl|rfl<;>rfl) d_ (by simp[maxLen];omega) o_ k_,.sum 20 i 1 (i+1) rfl o_])
end
end
end
theorem aM.aS4{B:aa}{ks:List (Value×aj)}{ι:Map}{c:Nat->Option Obj}{w:World}(h:aM (B.gB ks) ι c w):aM B ι c w:=
 ⟨h.base.1,h.dr,h.born,λk x b o cap e hx hl=>⟨(h.own k x b o cap e hx hl).1,λhF=>(h.own k x b o cap e hx hl).2 (.inl hF)⟩,h.inj,h.apart,h.seen,h.fa,h.one,h.oC⟩
def Kept(ks:List (Value×aj))(cs:aj):Prop:=∀ v∈cs,∀ b,iF v=some b->∃ p∈ks,iF p.1=some b
theorem Kept.snoc{ks:List (Value×aj)}{cs:aj}(h:Kept ks cs)(i:Nat)(u:Value)(xs:aj):Kept ((u,xs)::ks) (cs++[vI i,u]):=λv hv b hb=>by
 rcases dY.1 hv with hv|hv
 ·obtain⟨p,hp,e⟩:=h v hv b hb;exact⟨p,bB _ hp,e⟩
 ·simp at hv;rcases hv with rfl|rfl
  ·cases hb
  ·exact⟨_,aT ..,hb⟩
section
open V3 (dot ax cL smul)
section
variable{ps:List (HS K)}{vs:List (V3 K)}{b o c:Nat}
noncomputable def rC0:Code:=qV (eK f62)
noncomputable def rC1:Code:=qV (mS (eK f62))
noncomputable def rC2:Code:=qV (qV (mS (mS (eK f62))))
noncomputable def rC3:Code:=qV (mS (mS (mS (eK f62))))
theorem aS5:(f62).body=some (.seq rC0 (.seq rC1 (.seq (.seq rC2 (.block 0 (.loop (aE (af f62 0))))) (.seq rC3 .ret)))):=k_
theorem aFL{cells:aj}{cc:Nat}(cN:∀ v∈cells,flat v=true){r:List (Nat×Nat)}(h1:(([.slice none 0 0,.slice none 0 0,.slice none 0 0]:aj).all (tG r))=true)(h3:([sl 2 ps.length,.slice (some ⟨b,o,none⟩) vs.length c,sl 4 cc].all (tG r))=true):∀ p∈yc ps (.slice (some ⟨b,o,none⟩) vs.length c) cells cc,FT r p.2:=λp hp=>by
 simp only[yc,cy,jh,ji]at hp;rcases hp with rfl|rfl|rfl|rfl|rfl
 ·exact λv hv=>bf.1 (cZ ps) v hv
 ·exact h1
 ·exact λv hv=>bf.1 (cZ ps) v hv
 ·exact h3
 ·exact cN
def QM(B:aa)(ps:List (HS K))(vs:List (V3 K))(v2:Value)(i:Nat)(a:Act)(w:World):Prop:=
 ∃ ks cells,Af B ((eX ps vs i).map rh) ks cells/\Kept ks cells/\St (B.gB ks) 57 (Eb ps.length i v2) (yc ps v2 cells (eX ps vs i).length) 5 a w
theorem aS6{B:aa}{m i:Nat}(po:∀ k,B.mp k=none)(hi:i<ps.length)(bW:∀ p∈ps,bo m p/\p.n≠0)(aN:∀ v∈vs,aF m v)(hm:300*m+1000<=aC)(h63:ps.length<=500)(iq:vs.length<900000)
  (iw:∀ w,B.G w->cK w (.slice (some ⟨b,o,none⟩) vs.length c) vs.length (aR vs)) (dL:∀ p∈ps,¬(cv p vs vs.length).length<3->I0 p vs) {a:Act} {w:World} (h:QM B ps vs (.slice (some ⟨b,o,none⟩) vs.length c) i a w)
  (K:Act->World->Prop) (Q:Exit->Act->World->Prop) (hK:∀ a' w',QM B ps vs (.slice (some ⟨b,o,none⟩) vs.length c) (i+1) a' w'->K a' w'):(aE (af f62 0)).wpIn (FW none) 0 prog (Exit.then K Q) a w:=by
 obtain⟨ks,cells,hF,QN,hS⟩:=h;have ja:ps[i]?=some ps[i]:=bd hi;have mB:jW ps vs i=oZ ps vs i ps[i]:=by unfold jW;rw[ja]
 obtain⟨iH,Ei⟩:=aEw hF hS;have LF:(eX ps vs i).length<=500:=by have:=Qh ps vs i;omega
 have aFM:∀ w,(B.gB ks).G w->cK w (.slice (some ⟨b,o,none⟩) vs.length c) vs.length (aR vs):=λw h=>iw w h.1;have stay:jW ps vs i=[]->∀ a' w',St (B.gB ks) 57 (Eb ps.length (i+1) (.slice (some ⟨b,o,none⟩) vs.length c)) (yc ps (.slice (some ⟨b,o,none⟩) vs.length c) cells (eX ps vs i).length) 5 a' w'->K a' w':=by
  intro he a' w' h';have e:eX ps vs (i+1)=eX ps vs i:=by rw[D0,he,iY]
  exact hK a' w' ⟨ks,cells,by rw[e];exact hF,QN,by rw[e];exact h'⟩
 by_cases tR:pG ps i ps[i]=true
 ·have he:jW ps vs i=[]:=by rw[mB];unfold oZ;rw[aw (show(ps.take i).any (λq=>decide (canon ps[i]=canon q))=true from tR)]
  exact lh (aS1 hi ja bW hm h63 tR) hS λa' w' h'=>stay he a' w' h'
 ·have IH:pG ps i ps[i]=false:=by simpa using tR
  by_cases ho:(cv ps[i] vs vs.length).length<3
  ·have he:jW ps vs i=[]:=by rw[mB];unfold oZ;rw[ao (show ¬(ps.take i).any (λq=>decide (canon ps[i]=canon q))=true from tR),aw ho]
   exact lh (aS2 hi ja bW aN hm h63 iq IH aFM ho) hS λa' w' h'=>stay he a' w' h'
  ·have hlk:=dL _ (dS hi) ho;have he:jW ps vs i=[(i,order ps[i].n (aL vs) (cv ps[i] vs vs.length))]:=by rw[mB];unfold oZ;rw[ao (show ¬(ps.take i).any (λq=>decide (canon ps[i]=canon q))=true from tR),ao ho,aw (by rw[hlk.len];omega)]
   refine lh (aS3 hi ja bW aN hm h63 iq IH aFM ho hlk iH LF Ei) hS λa' w' h'=>?_;show K a' w';obtain⟨u,hu,uI,h2⟩:=h'.Py (m:=5) (k:=7) rfl (gV _) rfl d_;have e:eX ps vs (i+1)=eX ps vs i++[(i,order ps[i].n (aL vs) (cv ps[i] vs vs.length))]:=by rw[D0,he]
   have vH:=hF.snoc (i:=i) (l:=order ps[i].n (aL vs) (cv ps[i] vs vs.length)) hu uI;refine hK a' w' ⟨_,cells++[vI i,u],by rw[e,sW];exact vH,QN.snoc i u _,?_⟩;rw[e,iJ];have cN:=vH.flat;generalize cells++[vI i,u]=cells' at *;exact h2.Ij po [(0,0),(1,1),(2,2),(3,3),(4,7)] k_ rfl (aFL cN k_ k_) k_ k_ k_ k_ k_
theorem aS7(ps:List (HS K)):((aQ ps).drop 0).take (ps.length*40)=aQ ps:=by rw[l5,kj (by rw[Ac];exact bh _)]
theorem aS8{m:Nat}(bW:∀ p∈ps,bo m p/\p.n≠0)(aN:∀ v∈vs,aF m v)(hm:300*m+1000<=aC)(h63:ps.length<=500)(iq:vs.length<900000)(dL:∀ p∈ps,¬(cv p vs vs.length).length<3->I0 p vs):
  aFC prog 62 35 40 ps.length (aQ ps) vs.length (aR vs) (fo ((eX ps vs ps.length).map rh)):=by
 intro w v1 b o c tL nB;have ct:r7 w [fC ps,.p (.slice (some ⟨b,o,none⟩) vs.length c)] [v1,.slice (some ⟨b,o,none⟩) vs.length c]:=.cons tL (.cons rfl .nil);have ay:([fC ps,.p (.slice (some ⟨b,o,none⟩) vs.length c)].all aP.ok)=true:=by simp only[dG,fB,Ws,lD,jk];rfl
 obtain⟨ι,cc,h1,h2,h3,h4,h5,h6,h7⟩:=vK ct (bf.1 ay) 0 _ _ (qB w) n_ (λ_ _=>rfl);have po:∀ k,(aa.at w).mp k=none:=λ_=>rfl;have iw:∀ w',(aa.at w).G w'->cK w' (.slice (some ⟨b,o,none⟩) vs.length c) vs.length (aR vs):=λw' hb=>nB.gB hb;refine Vb (N:=57) (B:=(aa.at w).gB []) func62 aS5 k_ h6 (aCD h2) h4 h3 rfl λa bJ=>?_;have CT:=aS7 ps;have qZ:=Ac ps
 have g0:∀ B:aa,ah prog B 57 rC0 (jA 0 (eL 0 [fC ps,.p (.slice (some ⟨b,o,none⟩) vs.length c)])) (jt 0 [fC ps,.p (.slice (some ⟨b,o,none⟩) vs.length c)]) 1
   ⟨.normal,[(4,ptr 1),(0,sl 0 ps.length),(1,.slice (some ⟨b,o,none⟩) vs.length c)],[(0,.view (aQ ps)),(1,.aI [.slice none 0 0,.slice none 0 0,.slice none 0 0] 26)],2⟩:=λB=>aA []
 have g1:∀ B:aa,ah prog B 57 rC1 [(4,ptr 1),(0,sl 0 ps.length),(1,.slice (some ⟨b,o,none⟩) vs.length c)] [(0,.view (aQ ps)),(1,.aI [.slice none 0 0,.slice none 0 0,.slice none 0 0] 26)] 2
   ⟨.normal,[(4,ptr 1),(5,ptr 4),(0,sl 0 ps.length),(1,.slice (some ⟨b,o,none⟩) vs.length c)],[(0,.view (aQ ps)),(1,.aI [.slice none 0 0,.slice none 0 0,.slice none 0 0] 26),(3,.row (aQ ps) 35 40),(4,.aI [sl 3 ps.length,.slice (some ⟨b,o,none⟩) vs.length c,.slice none 0 0] 26)],5⟩:=λB=>
  aA [.Lc f62 10 2 35 40 (RP.v ⟨sJ,Gf⟩) k_,.Qx f62 12 3 2 0 ps.length ps.length 35 40 480 0 0 [] 0 (.view (aQ ps)) (aQ ps) (jZ _) rfl (by show(((aQ ps).drop 0).take (ps.length*40)).length=_;rw[CT,qZ]) rfl (by show[]++((aQ ps).drop 0).take (ps.length*40)=_;rw[CT,jo]) (aEa ps) d_ (by simp[maxLen];omega) o_ k_,.step 14 (av f62 14) [sl 3 ps.length,.slice (some ⟨b,o,none⟩) vs.length c] [] (.agg #[sl 3 ps.length,.slice (some ⟨b,o,none⟩) vs.length c,.slice none 0 0]) [] (Pp (t:=26) (idx:=[0,1]) k_ (λit z h1 h2=>aEF h1 h2) k_)]
 have g2:∀ B:aa,ah prog B 57 rC2 [(4,ptr 1),(5,ptr 4),(0,sl 0 ps.length),(1,.slice (some ⟨b,o,none⟩) vs.length c)]
    [(0,.view (aQ ps)),(1,.aI [.slice none 0 0,.slice none 0 0,.slice none 0 0] 26),(3,.row (aQ ps) 35 40),(4,.aI [sl 3 ps.length,.slice (some ⟨b,o,none⟩) vs.length c,.slice none 0 0] 26)] 5
   ⟨.normal,[(6,vI 0),(0,sl 0 ps.length),(1,.slice (some ⟨b,o,none⟩) vs.length c),(4,ptr 1),(5,ptr 4)],[(0,.view (aQ ps)),(1,.aI [.slice none 0 0,.slice none 0 0,.slice none 0 0] 26),(3,.row (aQ ps) 35 40),(4,.aI [sl 3 ps.length,.slice (some ⟨b,o,none⟩) vs.length c,.slice none 0 0] 26)],5⟩:=λB=>aA []
 refine lA (lh (g0 _) bJ λa1 w1 s1=>?_);refine lA (lh (g1 _) s1 λa2 w2 s2=>?_);refine lA (lA (lh (g2 _) s2 λa3 w3 s3=>?_));refine Jw ?_;have s4:=St.aSF (k:=4) (pre:=[sl 3 ps.length,.slice (some ⟨b,o,none⟩) vs.length c]) (post:=[]) (tb:=26) s3 rfl 63 2;have i0:QM (aa.at w) ps vs (.slice (some ⟨b,o,none⟩) vs.length c) 0 a3 w3:=⟨[],[],.nil,λv h=>(by cases h),s4.Ij po [(0,0),(1,1),(2,3),(3,4),(4,5)] k_ rfl (aFL n_ k_ k_) k_ k_ k_ k_ k_⟩;refine Va ps.length (QM (aa.at w) ps vs (.slice (some ⟨b,o,none⟩) vs.length c)) i0 (λi hi a' w' h' K hK=>aS6 po hi bW aN hm h63 iq iw dL h' K _ hK) λa' w' h'=>?_;obtain⟨ks,cells,hF,QN,hS⟩:=h';have fM:aH:=yc ps (.slice (some ⟨b,o,none⟩) vs.length c) cells (eX ps vs ps.length).length;refine lh (r:=⟨.exit 0,[(4,ptr 1),(5,ptr 3)],yc ps (.slice (some ⟨b,o,none⟩) vs.length c) cells (eX ps vs ps.length).length,5⟩) (aA [.lt 18 ps.length ps.length false s_]) hS λa4 w4 s4=>?_;show Code.wpIn _ _ _ _ _ _ _;refine lA (lh (r:=⟨.normal,[(4,ptr 1)],[(1,.aI [sl 2 ps.length,.slice (some ⟨b,o,none⟩) vs.length c,sl 4 (eX ps vs ps.length).length] 26),(2,.row (aQ ps) 35 40),(4,.row cells 63 2)],5⟩) (aA []) s4 λa5 w5 s5=>?_);refine Jx ?_;refine(Vc s5 rfl (v:=.agg #[sl 2 ps.length,.slice (some ⟨b,o,none⟩) vs.length c,sl 4 (eX ps vs ps.length).length]) k_ λau bY v' bj xW hc=>?_).1;obtain⟨us,rfl,Fz⟩:=hc.Jf;obtain⟨u1,u2,u3,e3,c1,c2,c3⟩:=Jl Fz;have e2:=c2.eR rfl;subst e2;rw[show(eX ps vs ps.length).length=((eX ps vs ps.length).map rh).length by rw[ek]]at c3;have ho:=hF.out bj (xW 4 _ rfl) c3;have jm:=vo bj.aS4 (xW 2 _ rfl) c1 (by rw[qZ];exact bh _) (bf.1 (cZ ps));rw[<-qZ,nI]at jm;refine⟨u1,u3,?_,jm,ho.1,λb' jz=>Ox (ho.2 b' jz),λb' jz vH=>?_,bj.base.1⟩
 ·congr 2
  rw[<-zi (xs:=us),e3]
 ·obtain⟨o1,lS,q1⟩:=Il bj c1 jz;have EF:=bj.own 2 _ b' o1 lS (xW 2 _ rfl) rfl q1;rcases vH with vH|⟨b2,oo,rl,j,u,e,hj,lV,gw⟩
  ·obtain⟨o4,aS9,q4⟩:=Il bj c3 vH;have:=bj.inj 2 4 _ _ b' o1 lS o4 aS9 (xW 2 _ rfl) rfl (xW 4 _ rfl) rfl q1 q4;cases this
  ·have hf:=hF.cells _ bj.base.2;have hl:=hf.length;have hr:=oH (len:=((eX ps vs ps.length).map rh).length*2) bj (xW 4 _ rfl) rfl hF.flat (λe=>by rw[e]) c3;have hr:cK w5 u3 ((eX ps vs ps.length).map rh).length cells:=by
    have e:((Obj.row cells 63 2).cells.drop 0).take (((eX ps vs ps.length).map rh).length*2)=cells:=by rw[l5];exact kj (u9 hl)
    rwa[e]at hr
   obtain⟨q,hq,e'⟩:=QN u (Pr hr hf e hj lV) b' gw;exact EF.2 (.inr ⟨q,hq,e'⟩)
end
section
variable{ps:List (HS K)}{m M:Nat}
structure pJ(ps:List (HS K))(m M:Nat):Prop where
 len:ps.length<=9
 pl:∀ p∈ps,bo m p/\p.n≠0
 low:120*m+365<=M
 lim:1000*M+10000<=aC
theorem pJ.sz(h:pJ ps m M):(∀ v∈eP ps,aF M v)/\(eP ps).length<=81*9:=by obtain⟨h1,h2⟩:=WK h.pl h.low h.len ps.length (bh _);refine⟨h1,dh h2 ?_⟩;have:=h.len;omega
theorem pJ.qw(h:pJ ps m M):m<=M/\1000*m+10000<=aC/\200*m+1000<=aC/\100*M+1000<=aC/\300*M+1000<=aC/\m<=aC/\M<=aC:=by have h1:=h.low;have h2:=h.lim;have hmM:m<=M:=dh (dh (UZ m (by decide:0<120)) (JS _ 365)) h1;have q1:1000*m+10000<=aC:=dh (LI (jr _ hmM) _) h2;have q2:200*m+1000<=aC:=dh (Kw (e8 m (by decide:200<=1000)) d_) q1;have q3:100*M+1000<=aC:=dh (Kw (e8 M (by decide:100<=1000)) d_) h2;have q4:300*M+1000<=aC:=dh (Kw (e8 M (by decide:300<=1000)) d_) h2;have q5:m<=aC:=dh (dh (UZ m (by decide:0<200)) (JS _ 1000)) q2;have q6:M<=aC:=dh (dh (UZ M (by decide:0<1000)) (JS _ 10000)) h2;exact⟨hmM,q1,q2,q3,q4,q5,q6⟩
theorem pJ.all(h:pJ ps m M):cD prog 58 [fC ps] (.bool true):=by
 have:=aEU (ps:=ps.map cF) (m:=m) (λx hx=>by obtain⟨p,hp,rfl⟩:=di.1 hx;exact aDL (h.pl p hp).1) h.qw.2.2.2.2.2.1 (by rw[ek];have:=h.len;omega)
 rw[ek,show(ps.map cF).all oz=true by rw[bf];intro x hx;obtain⟨p,hp,rfl⟩:=di.1 hx;rw[aDK];exact aB (h.pl p hp).2]at this
 exact this
noncomputable def Xf{Bs:aa}{t:Bool}(h:pJ ps m M)(ht:wk ps=t)(more:bE prog Bs 29):bE prog Bs 29:=
 .step 7 (av f37 7) [.func (.func 58) #[] #[],sl 0 ps.length] [(0,some (.view (aQ ps)))] (.bool true) []
  (dE h.all (.w (x:=.view (aQ ps)) rfl (cZ ps) iE .nil) (x:=.func 58) k_ k_ rfl)::
 .gt 13 ps.length 100 false (aJ (by have:=h.len;omega))::
 .step 17 (av f37 17) [.func (.func 59) #[] #[],sl 0 ps.length] [(0,some (.view (aQ ps)))] (.bool t) []
  (dE (ht▸aRz (λp hp=>(h.pl p hp).1) h.qw.2.1 (by have:=h.len;omega)) (.w (x:=.view (aQ ps)) rfl (cZ ps) iE .nil) (x:=.func 59) k_ k_ rfl)::more
noncomputable def aFN{Bs:aa}{t:Bool}(h:pJ ps m M)(ht:u4 (eP ps)=!t)(more:bE prog Bs 29):bE prog Bs 29:=
 .step 21 (av f37 21) [.func (.func 60) #[] #[],sl 0 ps.length] [(2,none),(0,some (.view (aQ ps)))] (sl 2 (eP ps).length) [(2,.row (aR (eP ps)) 33 30)]
  (qL (aRV h.pl h.qw.2.2.1 h.low h.qw.2.2.2.1 h.len) (.w (x:=.view (aQ ps)) rfl (cZ ps) iE .nil) (x:=.func 60) k_ k_ (dW _) 2)::
 .step 23 (av f37 23) [.func (.func 61) #[] #[],sl 2 (eP ps).length] [(2,some (.row (aR (eP ps)) 33 30))] (.bool t) []
  (dE (by have:=aR0 h.sz.1 h.qw.2.2.2.2.1 (by have:=h.sz.2;omega);rw[ht,Bool.not_not]at this;exact this) (.w (x:=.row (aR (eP ps)) 33 30) rfl (dW _) xB .nil) (x:=.func 61) k_ k_ rfl)::more
theorem aTa{rs:List RP}(hs:∀ x∈rs,Ab m x)(hm:m<=aC)(h63:rs.length<9223372036854775807)(hb:rs.all oz=false):cD prog 37 [.r rs.length (da rs)] (.tuple #[ri,iR 1]):=by
 have ha:=aEU hs hm h63;rw[hb]at ha;have ay:([aP.r rs.length (da rs)].all aP.ok)=true:=by simp only[dG,fB,aP.ok,gU iD,jk]
 exact dV func37 ay 29 (λ_=>[.step 7 (av f37 7) [.func (.func 58) #[] #[],sl 0 rs.length] [(0,some (.view (da rs)))] (.bool false) []
  (dE ha (.w (x:=.view (da rs)) rfl (gU iD rs) (λh=>by rw[lq h];rfl) .nil) (x:=.func 58) k_ k_ rfl)])
theorem aTb(h:pJ ps m M)(hc:wk ps=false):cD prog 37 [fC ps] (.tuple #[ri,iR 13]):=
 dV func37 (D1 ps) 29 (λ_=>Xf h hc [])
theorem aTc(h:pJ ps m M)(hc:wk ps=true)(hi:u4 (eP ps)=true):cD prog 37 [fC ps] (.tuple #[ri,iR 12]):=
 dV func37 (D1 ps) 29 (λ_=>Xf h hc (aFN (t:=false) h hi []))
def yd(ps:List (HS K)):List (Int×List Int):=(eX ps (eP ps) ps.length).map rh
theorem aFO(h:pJ ps m M)(hc:wk ps=true)(hi:u4 (eP ps)=false)(dL:∀ p∈ps,¬(cv p (eP ps) (eP ps).length).length<3->I0 p (eP ps)):
  tH prog 37 [fC ps] 35 40 ps.length (aQ ps) 33 30 (eP ps).length (aR (eP ps)) (fo (yd ps)) [iR 0]:=by
 have aTd:=aS8 (ps:=ps) (vs:=eP ps) (m:=M) (λp hp=>⟨(h.pl p hp).1.mono h.qw.1,(h.pl p hp).2⟩) h.sz.1 h.qw.2.2.2.2.1 (by have:=h.len;omega) (by have:=h.sz.2;omega) dL;have yQ:0<(eP ps).length:=by
  rcases nZ (eP ps).length with h0|h0
  ·rw[lq h0]at hi;cases hi
  ·exact h0
 refine PB (k1:=3) (k2:=2) (k3:=4) mixed func37 (D1 ps) 100 (N:=29) k_ (λw=>Xf h hc (aFN (t:=true) h hi [
  .step 28 (av f37 28) [.func (.func 62) #[] #[],sl 0 ps.length,sl 2 (eP ps).length] [(3,none),(4,none),(0,some (.view (aQ ps))),(2,some (.row (aR (eP ps)) 33 30))]
   (.agg #[sl 3 ps.length,sl 2 (eP ps).length,eQ 4]) [(4,.fact ((fo (yd ps)).jJ w.heap.size)),(3,.row (aQ ps) 35 40)]
   (aSG (B:=aa.at w) (S:=w.heap.size) aTd (.w (x:=.view (aQ ps)) rfl (cZ ps) iE (.w (x:=.row (aR (eP ps)) 33 30) rfl (dW _) xB .nil)) (x:=.func 62) k_ k_ rfl (cZ ps) yQ (λw' hb=>Below.size hb) 3)])) (λw=>?_) d_ (cZ ps) (Ac ps) (dW _) (su _) k_
 kernel_rfl
end
end
section
variable{P:Program}{B:aa}{N:Nat}
end
section
variable{P:Program}{B:aa}{N:Nat}
theorem Xg{o:Oper}(ho:FV P o=true){k:Nat}{fs:List (Int×List Int)}{F:Fact}(hF:∀ v w,F.G v w->(fo fs).G v w):cA P B o [.pointer (some ⟨k,0,some 9⟩)] [(k,some (.fact F))] (vI fs.length) []:=by
 obtain⟨x,t,e,bN,ht⟩:=Pz ho;refine gY.step λι c ρ w aN hm oE=>?_;rw[bN]at aN;obtain⟨u,hu,hc⟩:=lT aN;have hu:ρ x=u:=by simpa[Op.operands,Call.operands]using hu
 have Gt:=Bq hm (oE (k,_) (aT ..)) hc;obtain⟨cs,hr,_⟩:=hF _ _ Gt.1;refine⟨ι,vI fs.length,w,Map.le.refl _,.same rfl,hm,.inl ?_⟩;rcases hr with ⟨q1,q2,_⟩|⟨b,o',c',q1,_⟩
 ·subst q1;simp[execOp,bN,resolve,invoke,builtin,Builtin.len_,hu,iI ht,goInt,q2,vI]
 ·subst q1;simp[execOp,bN,resolve,invoke,builtin,Builtin.len_,hu,iI ht,goInt,vI]
end
def pK(w:World)(v:Value)(n:Nat)(xs:aj):Prop:=cK w v n xs\/(n=0/\∃ a,v=.slice (some a) 0 0)
theorem Xh{w w':World}{u:Value}{l:List Int}(h:pK w u l.length (eB l))(hs:w.heap.size<=w'.heap.size)(hk:0<l.length->∀ b,iF u=some b->xD w w' b):pK w' u l.length (eB l):=by
 rcases h with h|h
 ·rcases nZ l.length with h0|h0
  ·rcases h with h|⟨b,o,c,h1,h2,h3,h4⟩
   ·exact .inl (.inl h)
   ·refine .inl (.inr ⟨b,o,c,h1,h2,cx h3 hs,λj u hj=>?_⟩);rw[lq h0]at hj;simp[eB]at hj
  ·exact .inl (h.kept hs (hk h0))
 ·exact .inr h
theorem pK.lt{w:World}{u:Value}{n:Nat}{xs:aj}(h:pK w u n xs)(h0:0<n){b:Nat}(hb:iF u=some b):b<w.heap.size:=by
 rcases h with h|⟨h,_⟩
 ·exact h.lt hb
 ·omega
theorem pK.row{w:World}{u:Value}{n:Nat}{xs:aj}(h:pK w u n xs)(h0:0<n):cK w u n xs:=by
 rcases h with h|⟨h,_⟩
 ·exact h
 ·omega
theorem pK.one{w:World}{u:Value}{n:Nat}{xs:aj}(h:pK w u n xs):u.cells=#[u]/\u.oneCell'=true:=by rcases h with (⟨e,_⟩|⟨_,_,_,e,_⟩)|⟨_,_,e⟩<;>rw[e]<;>exact⟨rfl,rfl⟩
theorem pK.form{w:World}{u:Value}{n:Nat}{xs:aj}(h:pK w u n xs):(u=.slice none 0 0/\n=0)\/∃ a c,u=.slice (some a) n c:=by
 rcases h with (⟨e,e2,_⟩|⟨_,_,_,e,_⟩)|⟨e1,_,e⟩
 ·exact .inl ⟨e,e2⟩
 ·exact .inr ⟨_,_,e⟩
 ·subst e1;exact .inr ⟨_,_,e⟩
def nO(l:List Int):Fact where
 G u w:=pK w u l.length (eB l)
 cO u w k:=0<l.length/\iF u=some k
 lt u w k h hF:=h.lt hF.1 hF.2
 dep u w w' h hs hk:=⟨Xh h hs λh0 b hb cs ty f hc=>(hk b ⟨h0,hb⟩).trans hc,λk hF=>hF⟩
 soft _ u w w' h hs hk:=⟨Xh h hs λh0 b hb=>hk b ⟨h0,hb⟩,λk hF=>hF⟩
inductive rk(w:World):List (Int×List Int)->aj->Prop
 |nil:rk w [] []
 |cons {i:Int} {l:List Int} {u:Value} {fs:List (Int×List Int)} {cs:aj}:pK w u l.length (eB l)->rk w fs cs->rk w ((i,l)::fs) (iV i::u::cs)
theorem rk.length{w:World}{fs:List (Int×List Int)}{cs:aj}(h:rk w fs cs):cs.length=fs.length*2:=by
 induction h with
 |nil=>rfl
 |cons _ _ ih=>simp only[oD,ih];omega
theorem aFP{w:World}:∀{fs:List (Int×List Int)} {cs:aj},rk w fs cs->∀{i:Nat} {f:Int×List Int},fs[i]?=some f->∃ u,cs[i*2]?=some (iV f.1)/\cs[i*2+1]?=some u/\pK w u f.2.length (eB f.2)
 |_,_,.nil,i,f,h=>by simp at h
 |_,_,.cons (u:=u) h1 h2,0,f,h=>by simp at h;subst h;exact⟨u,rfl,rfl,h1⟩
 |_,_,.cons h1 h2,i+1,f,h=>by
  obtain⟨u,q1,q2,q3⟩:=aFP h2 (i:=i) (by simpa using h);refine⟨u,?_,?_,q3⟩
  ·rw[show(i+1)*2=i*2+2 by omega];exact q1
  ·rw[show(i+1)*2+1=i*2+1+2 by omega];exact q2
def LX(u:Value)(k:Nat):Prop:=∃ a n c,u=.slice (some a) n c/\0<n/\a.block=k
theorem aTe{u:Value}{k:Nat}(h:LX u k):iF u=some k:=by obtain⟨a,n,c,rfl,_,e⟩:=h;show some a.block=_;rw[e]
theorem rk.kept{w w':World}{fs:List (Int×List Int)}{cs:aj}(h:rk w fs cs)(hs:w.heap.size<=w'.heap.size)(hk:∀ u∈cs,∀ b,LX u b->xD w w' b):rk w' fs cs:=by
 induction h with
 |nil=>exact .nil
 |cons h1 _ ih=>
  refine .cons (Xh h1 hs λh0 b hb=>hk _ (bB _ (aT ..)) b ?_) (ih λu hu=>hk u (bB _ (bB _ hu)));rcases h1.form with ⟨e,e2⟩|⟨a,c,e⟩
  ·omega
  ·subst e;injection hb with hb;exact⟨a,_,c,rfl,h0,hb⟩
theorem rk.lt{w:World}{fs:List (Int×List Int)}{cs:aj}(h:rk w fs cs):∀ u∈cs,∀ b,LX u b->b<w.heap.size:=by
 induction h with
 |nil=>intro u hu;cases hu
 |cons h1 _ ih=>
  intro u hu b hb;rcases cy.1 hu with rfl|hu
  ·obtain⟨a,n,c,e,_⟩:=hb;cases e
  ·rcases cy.1 hu with rfl|hu
   ·obtain⟨a,n,c,e,h0,e2⟩:=hb;rcases h1.form with ⟨e',e3⟩|⟨a',c',e'⟩
    ·rw[e']at e;cases e
    ·rw[e']at e;injection e with e1 Cw e3;subst Cw;exact h1.lt h0 (by rw[e'];injection e1 with e1;subst e1;show some a'.block=_;rw[e2])
   ·exact ih u hu b hb
def QO(w:World)(v:Value)(fs:List (Int×List Int)):Prop:=∃ cs,cK w v fs.length cs/\rk w fs cs
def QP(n:Nat)(v:Value)(w:World)(k:Nat):Prop:=
 iF v=some k\/∃ b o c j u,v=.slice (some ⟨b,o,none⟩) n c/\j<n*2/\w.cell? ⟨b,o+j,none⟩=some u/\LX u k
theorem aTf{w:World}{v:Value}{fs:List (Int×List Int)}{cs:aj}(h1:cK w v fs.length cs)(h2:rk w fs cs){b o c j:Nat}{u:Value}(hv:v=.slice (some ⟨b,o,none⟩) fs.length c)(hj:j<fs.length*2)(hu:w.cell? ⟨b,o+j,none⟩=some u):u∈cs:=by
 rcases h1 with ⟨h,_⟩|⟨b',o',c',e,_,_,h4⟩
 ·rw[h]at hv;cases hv
 ·rw[e]at hv;injection hv with hv _ _;injection hv with hv;injection hv with e1 e2 _;subst e1;subst e2;have al:j<cs.length:=by rw[h2.length];exact hj
  have pC:cs[j]?=some cs[j]:=bd al;have:=h4 j _ pC;rw[hu]at this;injection this with this;rw[this];exact dS al
theorem aFQ{w w':World}{v:Value}{fs:List (Int×List Int)}(h:QO w v fs)(hs:w.heap.size<=w'.heap.size)(hk:∀ k,QP fs.length v w k->xD w w' k):
  QO w' v fs/\∀ k,QP fs.length v w' k->QP fs.length v w k:=by
 obtain⟨cs,h1,h2⟩:=h;have Ib:∀ b,iF v=some b->xD w w' b:=λb hb=>hk b (.inl hb);have Ps:∀ u∈cs,∀ b,LX u b->xD w w' b:=λu hu b hb=>by
  rcases h1 with ⟨_,_,h⟩|⟨b',o',c',e,_,_,h4⟩
  ·rw[h]at hu;cases hu
  ·obtain⟨j,hj,rfl⟩:=kN hu;refine hk b (.inr ⟨b',o',c',j,_,e,by rw[<-h2.length];exact hj,h4 j _ (bd hj),hb⟩)
 refine⟨⟨cs,h1.kept hs Ib,h2.kept hs Ps⟩,λk hF=>?_⟩;rcases hF with hF|⟨b,o,c,j,u,e,hj,hc,hb⟩
 ·exact .inl hF
 ·rcases h1 with ⟨h,_⟩|⟨b',o',c',e',_,_,h4⟩
  ·rw[h]at e;cases e
  ·rw[e']at e;injection e with e1 _ e3;injection e1 with e1;injection e1 with e1 e2 _;subst e1;subst e2;subst e3;have al:j<cs.length:=by rw[h2.length];exact hj
   have h5:=h4 j _ (bd al);have h6:=U4 (Ib b' (by rw[e'];rfl)) h5;rw[hc]at h6;injection h6 with h6;exact .inr ⟨b',o',c',j,u,e',hj,by rw[h6];exact h5,hb⟩
def mZ(fs:List (Int×List Int)):Fact where
 G v w:=QO w v fs
 cO v w k:=QP fs.length v w k
 lt v w k h hF:=by
  obtain⟨cs,h1,h2⟩:=h;rcases hF with hF|⟨b,o,c,j,u,e,hj,hc,hb⟩
  ·exact h1.lt hF
  ·exact h2.lt u (aTf h1 h2 e hj hc) k hb
 dep v w w' h hs hk:=aFQ h hs λk hF cs ty f hc=>(hk k hF).trans hc
 soft _ v w w' h hs hk:=aFQ h hs hk
structure B0(fs:List (Int×List Int))(F:Fact):Prop where
 G:∀ v w,F.G v w->(mZ fs).G v w
 cO:∀ v w k,(mZ fs).cO v w k->F.cO v w k
theorem B0.self(fs:List (Int×List Int)):B0 fs (mZ fs):=⟨λ_ _ h=>h,λ_ _ _ h=>h⟩
theorem ku.aTg{w:World}{fs:List (Int×List Int)}{cs:aj}(h:ku w fs cs):rk w fs cs:=by
 induction h with
 |nil=>exact .nil
 |cons h1 _ _ ih=>exact .cons (.inl h1) ih
theorem B0.full(fs:List (Int×List Int)):B0 fs (fo fs):=by
 refine⟨λv w h=>?_,λv w k h=>?_⟩
 ·obtain⟨cs,h1,h2⟩:=h;exact⟨cs,h1,h2.aTg⟩
 ·rcases h with h|⟨b,o,c,j,u,e,hj,hc,hb⟩
  ·exact .inl h
  ·exact .inr ⟨b,o,c,j,u,e,hj,hc,aTe hb⟩
theorem aTh{w:World}{v:Value}{fs:List (Int×List Int)}(h:QO w v fs)(hl:∀ f∈fs,0<f.2.length):K7 w v fs:=by
 obtain⟨cs,h1,h2⟩:=h;refine⟨cs,h1,?_⟩;clear h1;induction h2 with
 |nil=>exact .nil
 |cons h3 _ ih=>
  have hr:=h3.row (hl _ (aT ..));refine .cons hr ?_ (ih λf hf=>hl f (bB _ hf));rcases hr with ⟨e,_⟩|⟨_,_,_,e,_⟩<;>rw[e]<;>rfl
section
variable{P:Program}{B:aa}{N:Nat}
theorem I3{o:Oper}(ho:FV P o=true){k:Nat}{fs:List (Int×List Int)}{F:Fact}(hF:B0 fs F):cA P B o [.pointer (some ⟨k,0,some 9⟩)] [(k,some (.fact F))] (vI fs.length) []:=by
 obtain⟨x,t,e,bN,ht⟩:=Pz ho;refine gY.step λι c ρ w aN hm oE=>?_;rw[bN]at aN;obtain⟨u,hu,hc⟩:=lT aN;have hu:ρ x=u:=by simpa[Op.operands,Call.operands]using hu
 have Gt:=Bq hm (oE (k,_) (aT ..)) hc;obtain⟨cs,hr,_⟩:=hF.G _ _ Gt.1;refine⟨ι,vI fs.length,w,Map.le.refl _,.same rfl,hm,.inl ?_⟩;rcases hr with ⟨q1,q2,_⟩|⟨b,o',c',q1,_⟩
 ·subst q1;simp[execOp,bN,resolve,invoke,builtin,Builtin.len_,hu,iI ht,goInt,q2,vI]
 ·subst q1;simp[execOp,bN,resolve,invoke,builtin,Builtin.len_,hu,iI ht,goInt,vI]
theorem I4{o:Oper}(ho:FV P o=true){k:Nat}{l:List Int}:cA P B o [.pointer (some ⟨k,0,some 9⟩)] [(k,some (.fact (nO l)))] (vI l.length) []:=by
 obtain⟨x,t,e,bN,ht⟩:=Pz ho;refine gY.step λι c ρ w aN hm oE=>?_;rw[bN]at aN;obtain⟨u,hu,hc⟩:=lT aN;have hu:ρ x=u:=by simpa[Op.operands,Call.operands]using hu
 have Gt:=Bq hm (oE (k,_) (aT ..)) hc;have hw:pK w u l.length (eB l):=Gt.1;refine⟨ι,vI l.length,w,Map.le.refl _,.same rfl,hm,.inl ?_⟩;rcases hw.form with ⟨q1,q2⟩|⟨a,c',q1⟩
 ·subst q1;simp[execOp,bN,resolve,invoke,builtin,Builtin.len_,hu,iI ht,goInt,q2,vI]
 ·subst q1;simp[execOp,bN,resolve,invoke,builtin,Builtin.len_,hu,iI ht,goInt,vI]
theorem aFR{o:Oper}(ho:AN P o=some 2){m i:Nat}{fs:List (Int×List Int)}{f:Int×List Int}{F:Fact}(hF:B0 fs F)(hi:fs[i]?=some f){k:Nat}(Ig:m<k):
  cA P B o [.pointer (some ⟨m,0,some 9⟩),vI i] [(k,none),(k+1,none),(m,some (.fact F))] (.pointer (some ⟨k,0,some 7⟩)) [(k,.view [iV f.1,.pointer (some ⟨k+1,0,some 9⟩)]),(k+1,.fact (nO f.2))]:=by
 unfold AN at ho;split at ho
 ·rename_i t x y bN;split at ho
  ·rename_i e ht;split at ho
   ·rename_i inf Ej;injection ho with ho;refine gY.step λι c ρ w aN hm oE=>?_;rw[bN]at aN;obtain⟨v,v2,hu,hc,dj⟩:=jx aN;have dK:ρ x=v:=by simp[Op.operands]at hu;exact hu.1
    have fq:ρ y=v2:=by simp[Op.operands]at hu;exact hu.2
    have dj:=dj.eR rfl;have Xi:c m=some (.fact F):=oE (m,some (.fact F)) s_;have k0:c k=none:=oE (k,none) s_;have k1:c (k+1)=none:=oE (k+1,none) s_;have Gt:=Bq hm Xi hc;have loc:ι m=some (.val v):=by
     obtain⟨lc,q1,u,q2,q3⟩:=hm.born m _ Xi;subst q2;generalize hp:Value.pointer (some ⟨m,0,some 9⟩)=p at hc;cases hc with
     |same h=>subst hp;cases h
     |ptr h=>injection hp with hp;injection hp with hp;injection hp with _ _ hp;cases hp
     |slc h=>cases hp
     |slcN h=>cases hp
     |opq h4 h5 h6=>injection hp with hp;injection hp with hp;injection hp with gZ;subst gZ;exact h4
     |fn=>cases hp
     |agg=>cases hp
     |tup=>cases hp
    obtain⟨cs,hr,jc⟩:=hF.G _ _ Gt.1;obtain⟨u,a1,a2,a3⟩:=aFP jc hi;have al:=(eE.1 hi).1;rcases hr with ⟨_,q2,_⟩|⟨b,o',c',q1,q2,q3,q4⟩
    ·omega
    have own:∀ bb,F.cO v w bb->∀ j y o' aO,c j=some y->y.owns=true->ι j≠some (.at bb o' aO):=λbb hb j y o1 lS hj hy he=>hm.apart j m y F bb o1 lS v hj hy he Xi loc hb;have hFb:F.cO v w b:=hF.cO _ _ _ (.inl (by rw[q1];rfl));have hFu:∀ bb,(nO f.2).cO u w bb->F.cO v w bb:=λbb hb=>hF.cO _ _ _ (.inr ⟨b,o',c',i*2+1,u,q1,by omega,q4 _ _ a2,by
     obtain⟨h0,hb⟩:=hb;rcases a3.form with ⟨e',e2⟩|⟨a,c2,e'⟩
     ·omega
     ·subst e';injection hb with hb;exact⟨a,_,c2,rfl,h0,hb⟩⟩)
    have m1:aM B (dB ι (k+1) (.val u)) (aY c (k+1) (.fact (nO f.2))) w:=hm.add k1 ⟨u,rfl,a3⟩ n_ (λF' v' b' e1 e2 hb j y o1 lS hj hy he=>by injection e1 with e1;subst e1;injection e2 with e2;subst e2;exact own b' (hFu b' hb) j y o1 lS hj hy he) n_ λF' e hr=>by injection e with e;subst e;cases hr
    have k0':aY c (k+1) (.fact (nO f.2)) k=none:=by unfold aY;rw[ao o_];exact k0
    have l1:Map.le ι (dB ι (k+1) (.val u)):=gC (hm.dr _ k1);have cu:aG (dB ι (k+1) (.val u)) (.pointer (some ⟨k+1,0,some 9⟩)) u:=.opq (fE _ _ _) a3.one.1 a3.one.2;have l2:Map.le (dB ι (k+1) (.val u)) (dB (dB ι (k+1) (.val u)) k (.at b (o'+i*2) 0)):=gC (m1.dr _ k0');have back:∀ j y b' o1 lS,aY c (k+1) (.fact (nO f.2)) j=some y->y.owns=true->dB ι (k+1) (.val u) j=some (.at b' o1 lS)->c j=some y/\ι j=some (.at b' o1 lS):=λj y b' o1 lS hj hy he=>by
     unfold aY at hj;unfold dB at he;by_cases bL:j=k+1
     ·rw[aw bL]at hj;injection hj with hj;subst hj;cases hy
     ·rw[ao bL]at hj he;exact⟨hj,he⟩
    have m2:aM B (dB (dB ι (k+1) (.val u)) k (.at b (o'+i*2) 0)) (aY (aY c (k+1) (.fact (nO f.2))) k (.view [iV f.1,.pointer (some ⟨k+1,0,some 9⟩)])) w:=
     m1.add k0' (.inr ⟨b,o'+i*2,0,[iV f.1,u],rfl,.cons (.same rfl) (.cons (cu.mono l2) .nil),λj x hj=>by
      cases j with
      |zero=>simp at hj;subst hj;have:=q4 _ _ a1;simpa using this
      |succ j=>cases j with
       |zero=>simp at hj;subst hj;have:=q4 _ _ a2;rw[ug];exact this
       |succ j=>simp at hj⟩) n_ n_ (λb1 o1 lS _ e=>by
      injection e with e1 e2 e3;subst e1;exact⟨q3,λj y o2 rl hj hy he=>by obtain⟨hj,he⟩:=back j y b o2 rl hj hy he;exact own b hFb j y o2 rl hj hy he⟩)
    refine⟨_,.pointer (some ⟨b,o'+i*2,none⟩),w,l1.trans l2,?_,m2,.inl ?_⟩
    ·have:=aG.ptr (off:=0) (fE (dB ι (k+1) (.val u)) k (.at b (o'+i*2) 0));rwa[jn]at this
    ·subst q1;simp only[execOp,bN,dK,fq,dj];have h0:(0:Int)<=(i:Int):=by omega
     simp[Instr.indexAt,asIntOf,iI ht,sizeOf,typeInfo,Ej,h0,Aw,vI,ho];intro dM;omega
   ·cases ho
  ·cases ho
 ·cases ho
end
section
open V3 (dot ax cL smul)
theorem cD.Xj{P:Program}{f:FuncId}{n1 n2:Nat}{x1 x2:aj}{F F':Fact}{l:List aP}{res:Value}(h:cD P f (.s n1 x1 n2 x2 F::l) res)(hF:∀ v w,F'.G v w->F.G v w):cD P f (.s n1 x1 n2 x2 F'::l) res:=by
 intro w vs ct;cases ct with
 |cons h1 h2=>
  obtain⟨u1,u2,u3,e,r1,r2,r3⟩:=h1;exact h w _ (.cons ⟨u1,u2,u3,e,r1,r2,hF _ _ r3.1,r3.2⟩ h2)
def iS(rs:List RP)(vs:List RV)(fs:List (Int×List Int)):aP:=.s rs.length (da rs) vs.length (cE vs) (mZ fs)
theorem Xk(rs:List RP)(vs:List RV)(fs:List (Int×List Int)):(iS rs vs fs).ok=true:=by show((da rs).all flat&&((cE vs).all flat&&true))=true;rw[gU iD,gU gh];rfl
theorem Xl{rs:List RP}(h:rs.length=0):da rs=[]:=by rw[lq h];rfl
theorem aTi{a b:List Int}(h63:a.length<9223372036854775807):cD prog 25 [.o (nO a),.o (nO b)] (.bool (decide (a=b))):=by
 have ay:([aP.o (nO a),.o (nO b)].all aP.ok)=true:=rfl;by_cases hl:a.length=b.length
 ·rcases nZ a.length with h0|h0
  ·have ha:=lq h0;have hb:=lq (hl▸h0);subst ha;subst hb;exact dV func25 ay 26 (λw=>[.step 7 (av Tryz.f25 7) [eQ 0] [(0,some (.fact (nO [])))] (vI 0) [] (I4 k_),.step 9 (av Tryz.f25 9) [eQ 1] [(1,some (.fact (nO [])))] (vI 0) [] (I4 k_),.step 13 (av Tryz.f25 13) [eQ 0] [(0,some (.fact (nO [])))] (vI 0) [] (I4 k_)])
  ·intro w vs ct;cases ct with
   |cons h1 ct=>
   cases ct with
   |cons h2 ct=>
   cases ct;have r1:cK w _ a.length (eB a):=pK.row h1.1 h0;have r2:cK w _ b.length (eB b):=pK.row h2.1 o_;exact aP9 h63 w _ (.cons r1 (.cons r2 .nil))
 ·have bZ:a≠b:=λh=>hl (by rw[h]);rw[aJ bZ];exact dV func25 ay 26 (λw=>[.step 7 (av Tryz.f25 7) [eQ 0] [(0,some (.fact (nO a)))] (vI a.length) [] (I4 k_),.step 9 (av Tryz.f25 9) [eQ 1] [(1,some (.fact (nO b)))] (vI b.length) [] (I4 k_),.rw 10 _ (.bool true) (tK (x:=a.length) (y:=b.length) (by simp[hl]))])
section
variable{Bs:aa}{ra rb:List RP}{va vb:List RV}{fa fb:List (Int×List Int)}
def LY(ra:List RP)(va:List RV)(fa:List (Int×List Int))(k:Nat):Obj:=.aI [sl k ra.length,sl (k+1) va.length,eQ (k+2)] 26
def aVC(i:Nat):aV:=[(5,vI i),(2,ptr 6),(3,ptr 7)]
def wA(ra rb:List RP)(va vb:List RV)(fa fb:List (Int×List Int)):aH:=[(0,.view (da ra)),(3,.view (da rb)),(6,LY ra va fa 0),(7,LY rb vb fb 3)]
noncomputable def smS{i:Nat}{x y:RP}{t:Bool}(hi:i<ra.length)(hY:i<rb.length)(hx:ra[i]?=some x)(hy:rb[i]?=some y)(sx:x.Sm)(sy:y.Sm)(ht:(!t)=true↔x=y)(more:bE prog Bs 85):bE prog Bs 85:=
 .lt 35 i ra.length true (aB hi)::.c9 Tryz.f24 41 0 ra.length i 40 hi k_::.ld Tryz.f24 42 35 0 (i*40) (.view (da ra)) x.v rfl (vT hx) k_::.c9 Tryz.f24 46 3 rb.length i 40 hY k_::.ld Tryz.f24 47 35 3 (i*40) (.view (da rb)) y.v rfl (vT hy) k_::
  .step 48 (av Tryz.f24 48) [x.v,y.v] [] (.bool t) [] (TP (neg:=false) k_ x y sx sy ht)::more
theorem aVs{i:Nat}{x:RP}(hi:i<ra.length)(hY:i<rb.length)(hx:ra[i]?=some x)(hy:rb[i]?=some x)(sx:x.Sm)(h63:ra.length<9223372036854775807):
  ah prog Bs 85 (aE (af Tryz.f24 0)) (aVC i) (wA ra rb va vb fa fb) 8 ⟨.normal,aVC (i+1),wA ra rb va vb fa fb,8⟩:=
 aA (smS (t:=false) hi hY hx hy sx sx s_ [.sum 37 i 1 (i+1) rfl o_])
theorem aTj{i:Nat}{x y:RP}(hi:i<ra.length)(hY:i<rb.length)(hx:ra[i]?=some x)(hy:rb[i]?=some y)(sx:x.Sm)(sy:y.Sm)(aU:x≠y):
  ah prog Bs 85 (aE (af Tryz.f24 0)) (aVC i) (wA ra rb va vb fa fb) 8 ⟨.ret,[(4,.bool false)],wA ra rb va vb fa fb,8⟩:=
 aA (smS (t:=true) hi hY hx hy sx sy (by simp[aU]) [])
theorem aTk:ah prog Bs 85 (aE (af Tryz.f24 0)) (aVC ra.length) (wA ra rb va vb fa fb) 8 ⟨.exit 0,[(2,ptr 6),(3,ptr 7)],wA ra rb va vb fa fb,8⟩:=
 aA [.lt 35 ra.length ra.length false s_]
def ye(i:Nat):aV:=[(6,vI i),(2,ptr 6),(3,ptr 7)]
def o7(ra rb:List RP)(va vb:List RV)(fa fb:List (Int×List Int)):aH:=[(2,.fact (mZ fa)),(5,.fact (mZ fb)),(6,LY ra va fa 0),(7,LY rb vb fb 3)]
theorem aTl:∀ x∈o7 ra rb va vb fa fb,fP 8 x.2:=λx hx=>by
 simp only[o7,cy,jh,ji]at hx;rcases hx with rfl|rfl|rfl|rfl
 ·exact λv hv=>(by cases hv)
 ·exact λv hv=>(by cases hv)
 ·intro v hv;have hv:v∈[sl 0 ra.length,sl 1 va.length,eQ 2]:=hv;simp at hv;rcases hv with rfl|rfl|rfl<;>rfl
 ·intro v hv;have hv:v∈[sl 3 rb.length,sl 4 vb.length,eQ 5]:=hv;simp at hv;rcases hv with rfl|rfl|rfl<;>rfl
def vw(f:Int×List Int)(k:Nat):Obj:=.view [iV f.1,eQ (k+1)]
noncomputable def QQ(key m k i:Nat){fs:List (Int×List Int)}{f:Int×List Int}(hi:fs[i]?=some f)(Ig:m<k)(ho:AN prog (av Tryz.f24 key)=some 2):aX prog Bs 85:=
 .step key (av Tryz.f24 key) [eQ m,vI i] [(k,none),(k+1,none),(m,some (.fact (mZ fs)))] (ptr k) [(k,vw f k),(k+1,.fact (nO f.2))] (aFR ho (.self fs) hi Ig)
noncomputable def Xm{i:Nat}{f f':Int×List Int}{t:Bool}(hi:i<fa.length)(h1:fa[i]?=some f)(h2:fb[i]?=some f')(ht:decide (f.1≠f'.1)=t)(more:bE prog Bs 85):bE prog Bs 85:=
 .step 52 (av Tryz.f24 52) [eQ 2] [(2,some (.fact (mZ fa)))] (vI fa.length) [] (I3 k_ (.self fa))::.lt 53 i fa.length true (aB hi)::QQ 59 2 8 i h1 d_ k_::QQ 65 5 10 i h2 d_ k_::.rw 68 _ (.bool t) (neZ ht)::more
noncomputable def sfT{i:Nat}{f f':Int×List Int}{t:Bool}(h1:fa[i]?=some f)(h2:fb[i]?=some f')(h63:f.2.length<9223372036854775807)(ht:decide (f.2=f'.2)=t)(more:bE prog Bs 85):bE prog Bs 85:=
 QQ 73 2 12 i h1 d_ k_::QQ 79 5 14 i h2 d_ k_::
  .step 82 (av Tryz.f24 82) [.func (.func 25) #[] #[],eQ 13,eQ 15] [(13,some (.fact (nO f.2))),(15,some (.fact (nO f'.2)))] (.bool t) []
   (dE (ht▸aTi h63) (.o (.o .nil)) (x:=.func 25) k_ k_ rfl)::more
theorem aFS{i:Nat}{f f':Int×List Int}(hi:i<fa.length)(q1:fa[i]?=some f)(q2:fb[i]?=some f')(h63:f.2.length<9223372036854775807)(aRi:fa.length<9223372036854775807)(ht:f=f'):
  ah prog Bs 85 (aE (af Tryz.f24 2)) (ye i) (o7 ra rb va vb fa fb) 8 ⟨.normal,ye (i+1),o7 ra rb va vb fa fb,8⟩:=by
 have h1:decide (f.1≠f'.1)=false:=by rw[ht];simp
 have h2:decide (f.2=f'.2)=true:=by rw[ht];simp
 exact vn mixed 100 (ij:=16) (Xm hi q1 q2 h1 (sfT q1 q2 h63 h2 [.sum 55 i 1 (i+1) rfl o_])) k_ rfl k_ aTl k_
theorem aTm:ah prog Bs 85 (aE (af Tryz.f24 2)) (ye fa.length) (o7 ra rb va vb fa fb) 8 ⟨.exit 2,[],o7 ra rb va vb fa fb,8⟩:=
 aA [.step 52 (av Tryz.f24 52) [eQ 2] [(2,some (.fact (mZ fa)))] (vI fa.length) [] (I3 k_ (.self fa)),.lt 53 fa.length fa.length false s_]
def Xn(ra rb:List RP)(va vb:List RV)(fa fb:List (Int×List Int)):Bool:=decide (ra=rb)&&(decide (va=vb)&&decide (fa=fb))
noncomputable def Gu{na:Bool}(h1:decide (ra.length≠rb.length)=na)(more:bE prog Bs 85):bE prog Bs 85:=.rw 13 _ (.bool na) (tK h1)::more
noncomputable def I5{nb:Bool}(h2:decide (fa.length≠fb.length)=nb)(more:bE prog Bs 85):bE prog Bs 85:=
 .step 17 (av Tryz.f24 17) [eQ 2] [(2,some (.fact (mZ fa)))] (vI fa.length) [] (I3 k_ (.self fa))::.step 20 (av Tryz.f24 20) [eQ 5] [(5,some (.fact (mZ fb)))] (vI fb.length) [] (I3 k_ (.self fb))::.rw 21 _ (.bool nb) (tK h2)::more
noncomputable def LZ{t:Bool}(hV:cD prog 20 [.r va.length (cE va),.r vb.length (cE vb)] (.bool t))(more:bE prog Bs 85):bE prog Bs 85:=
 .step 28 (av Tryz.f24 28) [.func (.func 20) #[] #[],sl 1 va.length,sl 4 vb.length] [(1,some (.view (cE va))),(4,some (.view (cE vb)))] (.bool t) []
  (dE hV (.w (x:=.view (cE va)) rfl (gU gh _) wy (.w (x:=.view (cE vb)) rfl (gU gh _) wy .nil)) (x:=.func 20) k_ k_ rfl)::more
theorem aTn(ha:∀ x∈ra,x.Sm)(hb:∀ x∈rb,x.Sm)(ga:∀ x∈va,x.Sm)(kY:∀ x∈vb,x.Sm)(hn:ra.length<9223372036854775807)(iq:va.length<9223372036854775807)(wz:fa.length<9223372036854775807)(rf:∀ f∈fa,f.2.length<9223372036854775807):
  cD prog 24 [iS ra va fa,iS rb vb fb] (.bool (Xn ra rb va vb fa fb)):=by
 have ay:([iS ra va fa,iS rb vb fb].all aP.ok)=true:=by simp only[dG,fB,Xk,vU]
 have hV:=aDO ga kY iq;unfold Xn;unfold iS at *;by_cases hl:ra.length=rb.length
 ·have n13:decide (ra.length≠rb.length)=false:=by simp[hl]
  by_cases hf:fa.length=fb.length
  ·have n21:decide (fa.length≠fb.length)=false:=by simp[hf]
   by_cases QR:va=vb
   ·rw[aB QR]at hV;rw[aB QR,lD];rcases Du ra rb hl with hp|⟨e,x,y,q1,q2,q3,q4⟩
    ·rw[aB hp,lD];have lo:∀ B:aa,ah prog B 85 (.block 0 (af Tryz.f24 0)) (aVC 0) (wA ra rb va vb fa fb) 8 ⟨.normal,[(2,ptr 6),(3,ptr 7)],wA ra rb va vb fa fb,8⟩:=λB=>
      bO (id:=0) (ch ra.length (λi=>aVC i) (λ_=>wA ra rb va vb fa fb) (λi k _=>Iff.rfl) (λi hi=>by have hx:ra[i]?=some ra[i]:=bd hi;exact aVs hi o_ hx (by rw[<-hp];exact hx) (ha _ (dS hi)) hn) aTk n_)
     rcases Du fa fb hf with ON|⟨e,x,y,q1,q2,q3,q4⟩
     ·rw[aB ON];have vN:∀ B:aa,ah prog B 85 (.block 2 (af Tryz.f24 2)) (ye 0) (o7 ra rb va vb fa fb) 8 ⟨.normal,[],o7 ra rb va vb fa fb,8⟩:=λB=>
       bO (id:=2) (ch fa.length (λi=>ye i) (λ_=>o7 ra rb va vb fa fb) (λi k _=>Iff.rfl) (λi hi=>by have hx:fa[i]?=some fa[i]:=bd hi;exact aFS hi hx (by rw[<-ON];exact hx) (rf _ (dS hi)) wz rfl) aTm n_)
      exact fJ mixed func24 ay 200 (N:=85) k_ (λw=>Gu n13 (I5 n21 (LZ hV [.code 0 _ _ _ _ _ (lo _),.code 2 _ _ _ _ _ (vN _)]))) (λ_=>k_) k_
     ·have bZ:fa≠fb:=λh=>by subst h;rw[q1]at q2;injection q2 with q2;exact q3 q2
      rw[aJ bZ];have al:=(eE.1 q1).1;have rounds:∀{B:aa},∀ i,i<e->ah prog B 85 (aE (af Tryz.f24 2)) (ye i) (o7 ra rb va vb fa fb) 8 ⟨.normal,ye (i+1),o7 ra rb va vb fa fb,8⟩:=λi hi=>by have hx:fa[i]?=some fa[i]:=bd o_;have hy:fb[i]?=some fb[i]:=bd o_;exact aFS o_ hx hy (rf _ (dS _)) wz (q4 i _ _ hi hx hy)
      by_cases he:x.1=y.1
      ·have h1:decide (x.1≠y.1)=false:=by rw[he];simp
       have h2:decide (x.2=y.2)=false:=aJ λe=>q3 (Prod.ext he e);have vN:∀ B:aa,ah prog B 85 (.block 2 (af Tryz.f24 2)) (ye 0) (o7 ra rb va vb fa fb) 8 ⟨.ret,[(4,.bool false)],o7 ra rb va vb fa fb,16⟩:=λB=>
        bO (id:=2) (ch (r:=⟨.ret,[(4,.bool false)],o7 ra rb va vb fa fb,16⟩) e (λi=>ye i) (λ_=>o7 ra rb va vb fa fb) (λi k _=>Iff.rfl) rounds (aA (Xm al q1 q2 h1 (sfT q1 q2 (rf _ (cQ q1)) h2 []))) n_)
       exact fJ mixed func24 ay 200 (N:=85) k_ (λw=>Gu n13 (I5 n21 (LZ hV [.code 0 _ _ _ _ _ (lo _),.code 2 _ _ _ _ _ (vN _)]))) (λ_=>k_) k_
      ·have h1:decide (x.1≠y.1)=true:=aB he;have vN:∀ B:aa,ah prog B 85 (.block 2 (af Tryz.f24 2)) (ye 0) (o7 ra rb va vb fa fb) 8 ⟨.ret,[(4,.bool false)],o7 ra rb va vb fa fb,12⟩:=λB=>
        bO (id:=2) (ch (r:=⟨.ret,[(4,.bool false)],o7 ra rb va vb fa fb,12⟩) e (λi=>ye i) (λ_=>o7 ra rb va vb fa fb) (λi k _=>Iff.rfl) rounds (aA (Xm al q1 q2 h1 [])) n_)
       exact fJ mixed func24 ay 200 (N:=85) k_ (λw=>Gu n13 (I5 n21 (LZ hV [.code 0 _ _ _ _ _ (lo _),.code 2 _ _ _ _ _ (vN _)]))) (λ_=>k_) k_
    ·have bZ:ra≠rb:=λh=>by subst h;rw[q1]at q2;injection q2 with q2;exact q3 q2
     rw[aJ bZ,yJ];have al:=(eE.1 q1).1;have lo:∀ B:aa,ah prog B 85 (.block 0 (af Tryz.f24 0)) (aVC 0) (wA ra rb va vb fa fb) 8 ⟨.ret,[(4,.bool false)],wA ra rb va vb fa fb,8⟩:=λB=>
      bO (id:=0) (ch e (λi=>aVC i) (λ_=>wA ra rb va vb fa fb) (λi k _=>Iff.rfl) (λi hi=>by have hx:ra[i]?=some ra[i]:=bd o_;have hy:rb[i]?=some rb[i]:=bd o_;have:=q4 i _ _ hi hx hy;exact aVs o_ o_ hx (by rw[this];exact hy) (ha _ (dS _)) hn) (aTj al o_ q1 q2 (ha _ (cQ q1)) (hb _ (cQ q2)) q3) n_)
     exact fJ mixed func24 ay 200 (N:=85) k_ (λw=>Gu n13 (I5 n21 (LZ hV [.code 0 _ _ _ _ _ (lo _)]))) (λ_=>k_) k_
   ·rw[aJ QR]at hV;rw[aJ QR,yJ,M8];exact fJ mixed func24 ay 200 (N:=85) k_ (λw=>Gu n13 (I5 n21 (LZ hV []))) (λ_=>k_) k_
  ·have n21:decide (fa.length≠fb.length)=true:=by simp[hf]
   have bZ:fa≠fb:=λh=>hf (by rw[h]);rw[aJ bZ,M8,M8];exact fJ mixed func24 ay 200 (N:=85) k_ (λw=>Gu n13 (I5 n21 [])) (λ_=>k_) k_
 ·have n13:decide (ra.length≠rb.length)=true:=by simp[hl]
  have bZ:ra≠rb:=λh=>hl (by rw[h]);rw[aJ bZ,yJ];exact fJ mixed func24 ay 200 (N:=85) k_ (λw=>Gu n13 []) (λ_=>k_) k_
end
theorem aTo(fs:List (Int×List Int))(S:Nat):∀ v w,((fo fs).jJ S).G v w->(mZ fs).G v w:=λv w h=>(B0.full fs).G v w h.1
section
variable{ps:List (HS K)}{m M:Nat}{rs:List RP}{vs:List RV}{fs:List (Int×List Int)}
def Ec(ps:List (HS K))(vs:List RV)(fs:List (Int×List Int)):Bool:=
 !decide (fs.length<4)&&(!decide (vs.length<4)&&(wk ps&&(!u4 (eP ps)&&(decide (vs=(eP ps).map cC)&&decide (fs=yd ps)))))
theorem L0(rs:List RP)(vs:List RV)(fs:List (Int×List Int)):([iS rs vs fs].all aP.ok)=true:=by simp only[dG,fB,Xk,vU]
noncomputable def I6{Bs:aa}(k:Nat)(fs:List (Int×List Int)):aX prog Bs 28:=.step 7 (av f11 7) [eQ k] [(k,some (.fact (mZ fs)))] (vI fs.length) [] (I3 k_ (.self fs))
theorem aFT(hf:fs.length<4):cD prog 11 [iS rs vs fs] (.bool false):=by have ay:=L0 rs vs fs;unfold iS at *;exact fJ mixed func11 ay 100 (N:=28) k_ (λw=>[I6 2 fs,.lt 8 fs.length 4 true (aB hf)]) (λw=>k_) k_
theorem aFU(hf:¬fs.length<4)(hv:vs.length<4):cD prog 11 [iS rs vs fs] (.bool false):=by have ay:=L0 rs vs fs;unfold iS at *;exact fJ mixed func11 ay 100 (N:=28) k_ (λw=>[I6 2 fs,.lt 8 fs.length 4 false (aJ hf),.lt 13 vs.length 4 true (aB hv)]) (λw=>k_) k_
theorem aTp(hs:∀ x∈rs,Ab m x)(hm:m<=aC)(h63:rs.length<9223372036854775807)(hb:rs.all oz=false):cD prog 11 [iS rs vs fs] (.bool false):=by
 by_cases hf:fs.length<4
 ·exact aFT hf
 by_cases hv:vs.length<4
 ·exact aFU hf hv
 have ay:=L0 rs vs fs;have mq:=aTa hs hm h63 hb;unfold iS at *;exact fJ mixed func11 ay 100 (N:=28) k_ (λw=>[I6 2 fs,.lt 8 fs.length 4 false (aJ hf),.lt 13 vs.length 4 false (aJ hv),.step 18 (av f11 18) [.func (.func 37) #[] #[],sl 0 rs.length] [(0,some (.view (da rs)))] (.tuple #[ri,iR 1]) []
   (dE mq (.w (x:=.view (da rs)) rfl (gU iD rs) Xl .nil) (x:=.func 37) k_ k_ k_)]) (λw=>k_) k_
theorem aFV(h:pJ ps m M)(dL:wk ps=true->u4 (eP ps)=false->∀ p∈ps,¬(cv p (eP ps) (eP ps).length).length<3->I0 p (eP ps))(aN:∀ x∈vs,x.Sm)(iq:vs.length<9223372036854775807)(wz:fs.length<9223372036854775807)(rf:∀ f∈fs,f.2.length<9223372036854775807):
  cD prog 11 [iS (ps.map cF) vs fs] (.bool (Ec ps vs fs)):=by
 unfold Ec;by_cases hf:fs.length<4
 ·rw[aB hf];exact aFT hf
 by_cases hv:vs.length<4
 ·rw[aB hv,aJ hf];exact aFU hf hv
 rw[aJ hf,aJ hv];have ay:=L0 (ps.map cF) vs fs;by_cases hc:wk ps=true
 ·rw[hc];by_cases hi:u4 (eP ps)=true
  ·rw[hi];have mq:=aTc h hc hi;unfold iS at *;rw[ek,show da (ps.map cF)=aQ ps from rfl]at *;exact fJ mixed func11 ay 100 (N:=28) k_ (λw=>[I6 2 fs,.lt 8 fs.length 4 false (aJ hf),.lt 13 vs.length 4 false (aJ hv),.step 18 (av f11 18) [.func (.func 37) #[] #[],sl 0 ps.length] [(0,some (.view (aQ ps)))] (.tuple #[ri,iR 12]) []
     (dE mq (.w (x:=.view (aQ ps)) rfl (cZ ps) iE .nil) (x:=.func 37) k_ k_ k_)]) (λw=>k_) k_
  ·have hi:u4 (eP ps)=false:=by simpa using hi
   rw[hi];have mq:=aFO h hc hi (dL hc hi);have smv:∀ x∈(eP ps).map cC,x.Sm:=λx hx=>by obtain⟨v,hv,rfl⟩:=di.1 hx;exact(h.sz.1 v hv).sm h.qw.2.2.2.2.2.2
   have smp:∀ x∈ps.map cF,x.Sm:=λx hx=>by obtain⟨p,hp,rfl⟩:=di.1 hx;exact(h.pl p hp).1.sm (by have:=h.qw.2.2.2.2.2.1;exact this)
   have Au:=aTn (ra:=ps.map cF) (rb:=ps.map cF) (va:=vs) (vb:=(eP ps).map cC) (fa:=fs) (fb:=yd ps) smp smp aN smv (by rw[ek];have:=h.len;omega) iq wz rf;unfold Xn at Au;rw[aB rfl]at Au;unfold aR at mq;unfold iS at *;rw[ek,show da (ps.map cF)=aQ ps from rfl]at ay Au ⊢;have hlen:(eP ps).length=((eP ps).map cC).length:=by rw[ek]
   rw[hlen]at mq;generalize (eP ps).map cC=cM at *;rw[lD]at Au;have e0:(!false&&(!false&&(true&&(!false&&(decide (vs=cM)&&decide (fs=yd ps))))))=(decide (vs=cM)&&decide (fs=yd ps)):=by simp
   rw[e0];generalize (decide (vs=cM)&&decide (fs=yd ps))=t at *;refine fJ mixed func11 ay 100 (N:=28) k_ (λw=>[I6 2 fs,.lt 8 fs.length 4 false (aJ hf),.lt 13 vs.length 4 false (aJ hv),.step 18 (av f11 18) [.func (.func 37) #[] #[],sl 0 ps.length] [(4,none),(5,none),(6,none),(0,some (.view (aQ ps)))] (.tuple #[.agg #[sl 4 ps.length,sl 5 cM.length,eQ 6],iR 0]) [(6,.fact ((fo (yd ps)).jJ w.heap.size)),(5,.row (cE cM) 33 30),(4,.row (aQ ps) 35 40)]
     (Dz (B:=aa.at w) (S:=w.heap.size) mq (.w (x:=.view (aQ ps)) rfl (cZ ps) iE .nil) (x:=.func 37) k_ k_ rfl (cZ ps) (gU gh _) rfl (λw' hb=>Below.size hb) 4),
    .step 26 (av f11 26) [.func (.func 24) #[] #[],.agg #[sl 0 ps.length,sl 1 vs.length,eQ 2],.agg #[sl 4 ps.length,sl 5 cM.length,eQ 6]] [(0,some (.view (aQ ps))),(1,some (.view (cE vs))),(2,some (.fact (mZ fs))),(4,some (.row (aQ ps) 35 40)),(5,some (.row (cE cM) 33 30)),(6,some (.fact ((fo (yd ps)).jJ w.heap.size)))] (.bool t) []
     (dE Au (.s (x1:=.view (aQ ps)) (x2:=.view (cE vs)) rfl (cZ ps) iE rfl (gU gh _) wy (.si (aTo _ _) (x1:=.row (aQ ps) 35 40) (x2:=.row (cE cM) 33 30) rfl (cZ ps) iE rfl (gU gh _) wy .nil)) (x:=.func 24) k_ k_ rfl)]) (λw=>?_) k_
   kernel_rfl
 ·have hc:wk ps=false:=by simpa using hc
  rw[hc];have mq:=aTb h hc;unfold iS at *;rw[ek,show da (ps.map cF)=aQ ps from rfl]at *;exact fJ mixed func11 ay 100 (N:=28) k_ (λw=>[I6 2 fs,.lt 8 fs.length 4 false (aJ hf),.lt 13 vs.length 4 false (aJ hv),.step 18 (av f11 18) [.func (.func 37) #[] #[],sl 0 ps.length] [(0,some (.view (aQ ps)))] (.tuple #[ri,iR 13]) []
    (dE mq (.w (x:=.view (aQ ps)) rfl (cZ ps) iE .nil) (x:=.func 37) k_ k_ k_)]) (λw=>k_) k_
end
section
variable{Bs:aa}{ps:List (HS K)}{v:V3 K}{m n:Nat}
end
section
variable{Bs:aa}{rs:List RP}{vs:List RV}{fs:List (Int×List Int)}
def Gv(i:Nat):aV:=[(3,vI i),(1,ptr 3)]
def tY(rs:List RP)(vs:List RV)(fs:List (Int×List Int)):aH:=[(2,.fact (mZ fs)),(3,LY rs vs fs 0)]
theorem aTq:∀ x∈tY rs vs fs,fP 4 x.2:=λx hx=>by
 simp only[tY,cy,jh,ji]at hx;rcases hx with rfl|rfl
 ·exact λv hv=>(by cases hv)
 ·intro v hv;have hv:v∈[sl 0 rs.length,sl 1 vs.length,eQ 2]:=hv;simp at hv;rcases hv with rfl|rfl|rfl<;>rfl
noncomputable def Xo(fs:List (Int×List Int))(key:Nat)(ho:FV prog (av Tryz.f8 key)=true):aX prog Bs 33:=.step key (av Tryz.f8 key) [eQ 2] [(2,some (.fact (mZ fs)))] (vI fs.length) [] (I3 ho (.self fs))
noncomputable def fwS{i:Nat}{f:Int×List Int}{t:Bool}(hi:i<fs.length)(h1:fs[i]?=some f)(ht:decide (f.2.length>12)=t)(more:bE prog Bs 33):bE prog Bs 33:=
 Xo fs 7 k_::.lt 8 i fs.length true (aB hi)::.step 14 (av Tryz.f8 14) [eQ 2,vI i] [(4,none),(4+1,none),(2,some (.fact (mZ fs)))] (ptr 4) [(4,vw f 4),(4+1,.fact (nO f.2))] (aFR k_ (.self fs) h1 d_)::
  .step 17 (av Tryz.f8 17) [eQ 5] [(5,some (.fact (nO f.2)))] (vI f.2.length) [] (I4 k_)::.gt 18 f.2.length 12 t ht::more
theorem aFW{i:Nat}{f:Int×List Int}(hi:i<fs.length)(h1:fs[i]?=some f)(h63:fs.length<9223372036854775807)(ht:f.2.length<=12):
  ah prog Bs 33 (aE (af Tryz.f8 0)) (Gv i) (tY rs vs fs) 4 ⟨.normal,Gv (i+1),tY rs vs fs,4⟩:=
 vn mixed 100 (ij:=6) (fwS (f:=f) hi h1 (aJ o_) [.sum 10 i 1 (i+1) rfl o_]) k_ rfl k_ aTq k_
theorem aTr{i:Nat}{f:Int×List Int}(hi:i<fs.length)(h1:fs[i]?=some f)(ht:¬f.2.length<=12):
  ah prog Bs 33 (aE (af Tryz.f8 0)) (Gv i) (tY rs vs fs) 4 ⟨.ret,[(2,.bool false)],tY rs vs fs,6⟩:=
 aA (fwS (f:=f) hi h1 (aB o_) [])
def L3(rs:List RP)(vs:List RV)(fs:List (Int×List Int)):Bool:=
 fs.all (λf=>decide (f.2.length<=12))&&(LM rs 9&&((vs.all (λx=>qm x 12)&&decide (vs.length<=20))&&decide (fs.length<=12)))
noncomputable def Xp{t1:Bool}(hP:cD prog 30 [.r rs.length (da rs),.p (vI 9)] (.bool t1))(more:bE prog Bs 33):bE prog Bs 33:=
 .step 21 (av Tryz.f8 21) [.func (.func 30) #[] #[],sl 0 rs.length,vI 9] [(0,some (.view (da rs)))] (.bool t1) [] (dE hP (.w (x:=.view (da rs)) rfl (gU iD rs) Xl (.p rfl .nil)) (x:=.func 30) k_ k_ rfl)::more
noncomputable def fwV{t2:Bool}(hV:cD prog 31 [.r vs.length (cE vs),.p (vI 20),.p (vI 12)] (.bool t2))(more:bE prog Bs 33):bE prog Bs 33:=
 .step 25 (av Tryz.f8 25) [.func (.func 31) #[] #[],sl 1 vs.length,vI 20,vI 12] [(1,some (.view (cE vs)))] (.bool t2) [] (dE hV (.w (x:=.view (cE vs)) rfl (gU gh vs) wy (.p rfl (.p rfl .nil))) (x:=.func 31) k_ k_ rfl)::more
theorem aTs(QS:rs.length<9223372036854775807)(iq:vs.length<9223372036854775807)(wz:fs.length<9223372036854775807):cD prog 8 [iS rs vs fs] (.bool (L3 rs vs fs)):=by
 have ay:=L0 rs vs fs;unfold L3;unfold iS at *;have hP:=aRs (ps:=rs) 9 QS;have hV:=aRn (vs:=vs) (k:=12) 20 iq;rcases BU (λf:Int×List Int=>decide (f.2.length<=12)) fs with h|⟨e,x,h1,h2,h3,h4⟩
 ·rw[h,lD];have lo:∀ B:aa,ah prog B 33 (.block 0 (af Tryz.f8 0)) (Gv 0) (tY rs vs fs) 4 ⟨.normal,[(1,ptr 3)],tY rs vs fs,4⟩:=λB=>
   bO (id:=0) (ch (r:=⟨.exit 0,[(1,ptr 3)],tY rs vs fs,4⟩) fs.length (λi=>Gv i) (λ_=>tY rs vs fs) (λi k _=>Iff.rfl) (λi hi=>by have hx:fs[i]?=some fs[i]:=bd hi;exact aFW hi hx wz (kH (D4 h hx))) (aA [Xo fs 7 k_,.lt 8 fs.length fs.length false s_]) n_)
  generalize LM rs 9=t1 at *;generalize (vs.all (λx=>qm x 12)&&decide (vs.length<=20))=t2 at *;cases t1 with
  |false=>exact dV func8 ay 33 (λw=>.code 0 _ _ _ _ _ (lo _)::Xp hP [])
  |true=>
  cases t2 with
  |false=>exact dV func8 ay 33 (λw=>.code 0 _ _ _ _ _ (lo _)::Xp hP (fwV hV []))
  |true=>
   rw[lD,lD];exact dV func8 ay 33 (λw=>.code 0 _ _ _ _ _ (lo _)::Xp hP (fwV hV [Xo fs 30 k_,.rw 31 _ (.bool (decide (fs.length<=12))) (LL (a:=fs.length) (b:=12) rfl)]))
 ·rw[h4,yJ];have al:=(eE.1 h1).1;have lo:∀ B:aa,ah prog B 33 (.block 0 (af Tryz.f8 0)) (Gv 0) (tY rs vs fs) 4 ⟨.ret,[(2,.bool false)],tY rs vs fs,6⟩:=λB=>
   bO (id:=0) (ch (r:=⟨.ret,[(2,.bool false)],tY rs vs fs,6⟩) e (λi=>Gv i) (λ_=>tY rs vs fs) (λi k _=>Iff.rfl) (λi hi=>by have hx:fs[i]?=some fs[i]:=bd o_;exact aFW o_ hx wz (kH (h3 i _ hi hx))) (aTr al h1 (Hs h2)) n_)
  exact dV func8 ay 33 (λw=>[.code 0 _ _ _ _ _ (lo _)])
end
section
variable{Bs:aa}{vs:List (V3 K)}{m:Nat}
end
theorem aTt{cs:aj}{i:Nat}{v:Value}(h:cs[i]?=some v):du prog 56 cs i=some v:=by have e:du prog 56 cs i=cs[i]?:=k_;rw[e,h]
section
variable{w:World}{fs:List (Int×List Int)}{cs:aj}
def o8(fs:List (Int×List Int)):Nat:=(fs.map λf=>f.2.length).sum
def L4(i s:Nat):aV:=[(4,vI i),(3,vI s),(1,ptr 3)]
def I7(n1 n2:Nat)(fs:List (Int×List Int))(cs:aj):aH:=[(2,.view cs),(3,.aI [sl 0 n1,sl 1 n2,sl 2 fs.length] 26)]
theorem aTu{i s n1 n2:Nat}{f:Int×List Int}{u:Value}(hi:i<fs.length)(c2:cs[i*2+1]?=some u)(hu:cK w u f.2.length (eB f.2))(h63:fs.length<900000)(hs:s+f.2.length<9223372036854775807):
  ah prog (aa.at w) 23 (aE (af Tryz.f29 0)) (L4 i s) (I7 n1 n2 fs cs) 4 ⟨.normal,L4 (i+1) (s+f.2.length),I7 n1 n2 fs cs,4⟩:=by
 have k1:=hu;rcases k1 with ⟨rfl,_⟩|⟨b,o,c,rfl,_⟩<;>
  exact aA [.lt 9 i fs.length true (aB hi),.c9 Tryz.f29 16 2 fs.length i 2 hi k_,.ld Tryz.f29 18 56 2 (i*2+1) (.view cs) _ rfl (aTt c2) k_,.step 19 (av Tryz.f29 19) [_] [] (vI f.2.length) [] (aMY k_ rfl (λw' hb=>hu.gB hb)),.sum 20 s f.2.length (s+f.2.length) rfl o_,.sum 11 i 1 (i+1) rfl o_]
theorem aTv{n1 n2:Nat}{x1 x2:aj}(h1:x1.all flat=true)(h2:x2.all flat=true)(h63:fs.length<900000)(hs:o8 fs<9223372036854775807):cD prog 29 [.s n1 x1 n2 x2 (fo fs)] (vI (o8 fs/2)):=by
 intro w vv ct;cases ct with
 |@cons _ v1 _ _ hv ct=>
 cases ct;obtain⟨u1,u2,u3,rfl,r1,r2,⟨cs,r3,f1⟩,_⟩:=hv;have BQ:r7 w [.a n1 x1 n2 x2 fs.length cs] [.agg #[u1,u2,u3]]:=.cons ⟨u1,u2,u3,rfl,r1,r2,r3⟩ .nil;have ay:([aP.a n1 x1 n2 x2 fs.length cs].all aP.ok)=true:=by show((x1.all flat&&(x2.all flat&&cs.all flat))&&true)=true;rw[h1,h2,show cs.all flat=true from bf.2 f1.flat];rfl
 have le:∀ i,o8 (fs.take i)<=o8 fs:=λi=>by
  have:o8 fs=o8 (fs.take i)+o8 (fs.drop i):=by unfold o8;rw[<-List.sum_append,<-sW,Ik]
  omega
 have lo:ah prog (aa.at w) 23 (.block 0 (af Tryz.f29 0)) (L4 0 0) (I7 n1 n2 fs cs) 4 ⟨.normal,[(3,vI (o8 fs))],I7 n1 n2 fs cs,4⟩:=
  bO (id:=0) (ch (r:=⟨.exit 0,[(3,vI (o8 fs))],I7 n1 n2 fs cs,4⟩) fs.length (λi=>L4 i (o8 (fs.take i))) (λ_=>I7 n1 n2 fs cs) (λi k _=>Iff.rfl) (λi hi=>by
   have hx:fs[i]?=some fs[i]:=bd hi;obtain⟨u,_,a2,a3,_⟩:=D2 f1 hx;have e:o8 (fs.take (i+1))=o8 (fs.take i)+fs[i].2.length:=by unfold o8;rw[vV,hx,sW,List.sum_append];simp
   have:=le (i+1);show ah _ _ _ _ _ _ _ ⟨_,L4 (i+1) (o8 (fs.take (i+1))),_,_⟩;rw[e];exact aTu hi a2 a3 h63 o_) (by
   rw[nI];generalize o8 fs=s;exact aA [.lt 9 fs.length fs.length false s_]) n_)
 generalize o8 fs=s at *;have hq:IntKind.i64.wrap ((s:Int).tdiv 2)=((s/2:Nat):Int):=by rw[yO o_,c8];omega
 exact Qo mixed func29 BQ ay 100 (N:=23) k_ [.code 0 _ _ _ _ _ lo,.pW Tryz.f29 22 .i64 (s:Int) 2 ((s/2:Nat):Int) d_ hq k_] k_ rfl
end
theorem aFX(l:List (HS K))(p:HS K):aQ l++(cF p).cs=aQ (l++[p]):=by unfold aQ;rw[sW];show dc RP.cs _++_=dc RP.cs _;rw[H6];simp[dc]
theorem aTw(p:HS K):(cF p).cs=aQ [p]:=by have:=aFX [] p;rwa[show aQ ([]:List (HS K))=[]from rfl,jo,jo]at this
section
noncomputable def I8{Bs:aa}(k:Nat)(p:HS K):aX prog Bs 43:=
 .bs Tryz.f26 37 k 1 35 40 [0] (RP.v ⟨sJ,Gf⟩) [cB p] (cF p).cs.toArray (.row (cF p).cs 35 40) rfl (λv hv=>by simp at hv;subst hv;rfl) (λv hv=>iD.flat _ v hv) k_ rfl d_ d_ k_
noncomputable def L5{Bs:aa}(k n:Nat)(l l':List (HS K))(p:HS K)(hl:l.length=n)(hn:n<=6)(cg:l'=l++[p]):aX prog Bs 43:=
 .pj Tryz.f26 38 (k+2) (k-1) n 1 (n+1) 35 40 480 (aQ l) (k+1) (.row (cF p).cs 35 40) (aQ l') rfl rfl rfl (by rw[Ac,hl]) (by subst cg;exact aFX l p) (iD.one _) d_ (by simp[maxLen];omega) o_ k_
variable{n1 n2 n3 n4 n5 n6:V3 K}{q:K}
structure aTx(n1 n2 n3 n4 n5 n6:V3 K)(q:K):Prop where
 c1:aD prog 27 [.int .i64 1,.int .i64 0,.int .i64 0] (bP n1)
 c2:aD prog 27 [.int .i64 (-1),.int .i64 0,.int .i64 0] (bP n2)
 c3:aD prog 27 [.int .i64 0,.int .i64 1,.int .i64 0] (bP n3)
 c4:aD prog 27 [.int .i64 0,.int .i64 (-1),.int .i64 0] (bP n4)
 c5:aD prog 27 [.int .i64 0,.int .i64 0,.int .i64 1] (bP n5)
 c6:aD prog 27 [.int .i64 0,.int .i64 0,.int .i64 (-1)] (bP n6)
 d:aD prog 28 [.int .i64 1] (b9 q)
def B3(n1 n2 n3 n4 n5 n6:V3 K)(q:K):List (HS K):=[⟨n1,q⟩,⟨n2,q⟩,⟨n3,q⟩,⟨n4,q⟩,⟨n5,q⟩,⟨n6,q⟩]
theorem aTy{n:Nat}{xs:aj}{F:Fact}(h:aTx n1 n2 n3 n4 n5 n6 q)(hx:xs.all flat=true)(hl:xs.length=n*30)(wC:F.rc=false)(mq:tH prog 37 [fC (B3 n1 n2 n3 n4 n5 n6 q)] 35 40 6 (aQ (B3 n1 n2 n3 n4 n5 n6 q)) 33 30 n xs F [iR 0]):
  tH prog 26 [.p (vI 1)] 35 40 6 (aQ (B3 n1 n2 n3 n4 n5 n6 q)) 33 30 n xs F [iR 0]:=by
 refine PB (k1:=19) (k2:=20) (k3:=21) mixed func26 rfl 300 (N:=43) k_ (λw=>[
  h.c1.at 33,h.d.at 35,I8 2 ⟨n1,q⟩,.ap0 Tryz.f26 38 3 1 35 40 480 2 (.row (cF ⟨n1,q⟩).cs 35 40) (aQ [⟨n1,q⟩]) rfl rfl (aTw _) d_ d_ d_ k_,
  h.c2.at 33,h.d.at 35,I8 5 ⟨n2,q⟩,L5 4 1 [⟨n1,q⟩] [⟨n1,q⟩,⟨n2,q⟩] ⟨n2,q⟩ rfl d_ rfl,
  h.c3.at 33,h.d.at 35,I8 8 ⟨n3,q⟩,L5 7 2 [⟨n1,q⟩,⟨n2,q⟩] [⟨n1,q⟩,⟨n2,q⟩,⟨n3,q⟩] ⟨n3,q⟩ rfl d_ rfl,
  h.c4.at 33,h.d.at 35,I8 11 ⟨n4,q⟩,L5 10 3 [⟨n1,q⟩,⟨n2,q⟩,⟨n3,q⟩] [⟨n1,q⟩,⟨n2,q⟩,⟨n3,q⟩,⟨n4,q⟩] ⟨n4,q⟩ rfl d_ rfl,
  h.c5.at 33,h.d.at 35,I8 14 ⟨n5,q⟩,L5 13 4 [⟨n1,q⟩,⟨n2,q⟩,⟨n3,q⟩,⟨n4,q⟩] [⟨n1,q⟩,⟨n2,q⟩,⟨n3,q⟩,⟨n4,q⟩,⟨n5,q⟩] ⟨n5,q⟩ rfl d_ rfl,
  h.c6.at 33,h.d.at 35,I8 17 ⟨n6,q⟩,L5 16 5 [⟨n1,q⟩,⟨n2,q⟩,⟨n3,q⟩,⟨n4,q⟩,⟨n5,q⟩] (B3 n1 n2 n3 n4 n5 n6 q) ⟨n6,q⟩ rfl d_ rfl,
  .step 40 (av Tryz.f26 40) [.func (.func 37) #[] #[],sl 18 6] [(19,none),(20,none),(21,none),(18,some (.row (aQ (B3 n1 n2 n3 n4 n5 n6 q)) 35 40))] (.tuple #[.agg #[sl 19 6,sl 20 n,eQ 21],iR 0]) [(21,.fact (F.jJ w.heap.size)),(20,.row xs 33 30),(19,.row (aQ (B3 n1 n2 n3 n4 n5 n6 q)) 35 40)]
   (Dz (B:=aa.at w) (S:=w.heap.size) mq (.w (x:=.row (aQ (B3 n1 n2 n3 n4 n5 n6 q)) 35 40) rfl (cZ _) iE .nil) (x:=.func 37) k_ k_ wC (cZ _) hx rfl (λw' hb=>Below.size hb) 19)]) (λw=>?_) d_ (cZ _) (Ac _) hx hl k_
 kernel_rfl
end
end
section
open CR OF
open V3 (dot ax cL smul)
section
variable{ps:List (HS K)}{vs:List RV}{fs:List (Int×List Int)}{p:HS K}
theorem aFY(hc:Cl ps)(hp:gp ps)(hf:gJ ps):sS ps (bT ps):=⟨by unfold bT;exact KS _,λ_=>LW hc hp hf⟩
theorem Xq(hp:gp ps):BZ ps=true↔Cl ps/\gJ ps:=by
 unfold BZ;rw[db,QF,WT];constructor
 ·rintro⟨h1,_,h3⟩
  exact⟨h1,_,h3⟩
 ·rintro⟨h1,h2⟩
  exact⟨h1,aBV h1 hp (λv=>LW h1 hp h2) h2⟩
theorem Xr(hc:Cl ps)(hp:gp ps)(hf:gJ ps):∀ p∈ps,¬(cv p (bT ps) (bT ps).length).length<3->I0 p (bT ps):=λp iP hl=>by obtain⟨h1,h2,h3⟩:=(aFY hc hp hf).loop (hp p iP) hl;exact⟨h1,h2,h3⟩
theorem aFZ(hp:gp ps)(h:u4 (eP ps)=false):gJ ps:=
 aLq hp (λv hv=>(QI.1 hv).1) (W9.1 h)
theorem aF0(hc:Cl ps)(hp:gp ps)(hf:gJ ps):u4 (eP ps)=false:=
 W9.2 (aLr hc hp (λv=>QI) hf)
theorem aTz{l:List (V3 K)}(h:OU l):4<=l.length:=by
 obtain⟨o,rest,rfl,a,ha,b,hb,c,hc,hd⟩:=h;have ab:a≠b:=λe=>by subst e;exact hd (WV _ _)
 have bc:b≠c:=λe=>by subst e;exact hd (WW _ _)
 have ac:a≠c:=λe=>by subst e;exact hd (WX _ _)
 match rest,ha,hb,hc with
 |[],ha,_,_=>cases ha
 |[x],ha,hb,_=>simp at ha hb;exact absurd (ha.trans hb.symm) ab
 |[x,y],ha,hb,hc=>
  simp at ha hb hc;rcases ha with rfl|rfl<;>rcases hb with rfl|rfl<;>rcases hc with rfl|rfl<;>first|exact absurd rfl ab|exact absurd rfl bc|exact absurd rfl ac
 |_::_::_::_,_,_,_=>simp only[oD];omega
theorem Xs(hc:Cl ps)(hp:gp ps)(hf:gJ ps):yd ps=fD ps:=by unfold yd fD;rw[tW hc hp hf]
theorem aTA(hp:gp ps)(h:Ec ps vs fs=true):Cl ps/\gJ ps/\vs=(bT ps).map cC/\fs=fD ps:=by unfold Ec at h;simp only[db,AD,sY]at h;obtain⟨_,_,h3,h4,h5,h6⟩:=h;have hc:=QH.1 h3;have hf:=aFZ hp h4;exact⟨hc,hf,by rw[tW hc hp hf];exact h5,by rw[<-Xs hc hp hf];exact h6⟩
theorem aTB(hc:Cl ps)(hp:gp ps)(hf:gJ ps):Ec ps ((bT ps).map cC) (fD ps)=true:=by
 unfold Ec;have h1:4<=(fD ps).length:=by unfold fD;rw[ek];exact aSB hc hp (aFY hc hp hf) hf
 have hs:=aF0 hc hp hf;have h2:4<=((bT ps).map cC).length:=by rw[ek,tW hc hp hf];exact aTz (W9.1 hs)
 rw[aJ o_,aJ o_,QH.2 hc,hs,Xs hc hp hf,<-tW hc hp hf,aB rfl,aB rfl];rfl
theorem QT(hc:Cl ps)(hp:gp ps):Cl (ps++[p]):=Cl.more hc hp λ_ hq=>sR _ hq
theorem aTC(hp:gp ps)(hn:p.n≠0):gp (ps++[p]):=λq hq=>by
 rcases dY.1 hq with hq|hq
 ·exact hp q hq
 ·simp at hq;subst hq;exact hn
theorem aTD(hc:Cl ps)(hp:gp ps):qR ps (bT ps)=true↔gJ ps:=by
 constructor
 ·intro h;exact⟨_,(WT.1 h).2⟩
 ·intro h;have:=(Xq hp).2 ⟨hc,h⟩;unfold BZ at this;rw[db]at this;exact this.2
end
def gi:List (HS K):=B3 ⟨kI 1,kI 0,kI 0⟩ ⟨kI (-1),kI 0,kI 0⟩ ⟨kI 0,kI 1,kI 0⟩ ⟨kI 0,kI (-1),kI 0⟩ ⟨kI 0,kI 0,kI 1⟩ ⟨kI 0,kI 0,kI (-1)⟩ (kI 1)
def kS:HS K:=⟨⟨kI 1,kI 1,kI 1⟩,kI 2⟩
def pL(a b c:Int):V3 K:=⟨kI a,kI b,kI c⟩
def QU:List (V3 K):=[pL (-1) (-1) (-1),pL (-1) (-1) 1,pL (-1) 1 (-1),pL (-1) 1 1,pL 1 (-1) (-1),pL 1 (-1) 1,pL 1 1 (-1),pL 1 1 1]
def QV:List (V3 K):=[pL (-1) (-1) (-1),pL (-1) (-1) 1,pL (-1) 1 (-1),pL (-1) 1 1,pL 0 1 1,pL 1 (-1) (-1),pL 1 (-1) 1,pL 1 0 1,pL 1 1 (-1),pL 1 1 0]
theorem aTE:qN gi=true:=by kernel_rfl
theorem aTF:eP gi=QU:=by kernel_rfl
theorem aTG:eP (gi++[kS])=QV:=by kernel_rfl
theorem aTH:(eX (gi++[kS]) QV 7).length=7:=by kernel_rfl
theorem aTI:((eX (gi++[kS]) QV 7).map λf=>f.2.length).sum=30:=by kernel_rfl
theorem aTJ:(ke kS QU 8).length=1:=by kernel_rfl
theorem Xt{p:HS K}(h:p∈gi++[kS]):∃ a b c d:Int,p=⟨⟨kI a,kI b,kI c⟩,kI d⟩/\(a.natAbs<=1/\b.natAbs<=1/\c.natAbs<=1)/\(0<d/\d<=2)/\(a≠0\/b≠0\/c≠0):=by
 simp only[gi,B3,dY,cy,jh,ji]at h;rcases h with (rfl|rfl|rfl|rfl|rfl|rfl)|rfl
 ·exact⟨1,0,0,1,rfl,by decide,by decide,by decide⟩
 ·exact⟨-1,0,0,1,rfl,by decide,by decide,by decide⟩
 ·exact⟨0,1,0,1,rfl,by decide,by decide,by decide⟩
 ·exact⟨0,-1,0,1,rfl,by decide,by decide,by decide⟩
 ·exact⟨0,0,1,1,rfl,by decide,by decide,by decide⟩
 ·exact⟨0,0,-1,1,rfl,by decide,by decide,by decide⟩
 ·exact⟨1,1,1,2,rfl,by decide,by decide,by decide⟩
theorem aF1{p:HS K}(h:p∈gi++[kS]):bo 2 p:=by obtain⟨a,b,c,d,rfl,⟨h1,h2,h3⟩,⟨h4,h5⟩,_⟩:=Xt h;exact⟨⟨qH o_ d_,qH o_ d_,qH o_ d_⟩,qH o_ d_⟩
theorem Xu{a b:Int}(h:kI a=kI b):a=b:=by
 have h1:((a:Rat))=(b:Rat):=cI (λx:K=>x.re.re) h
 exact_mod_cast h1
theorem QW{p:HS K}(h:p∈gi++[kS]):p.n≠0:=by
 obtain⟨a,b,c,d,rfl,_,_,h6⟩:=Xt h;intro e;have e1:kI a=kI 0:=cI V3.x e;have e2:kI b=kI 0:=cI V3.y e;have e3:kI c=kI 0:=cI V3.z e;rcases h6 with h|h|h
 ·exact h (Xu e1)
 ·exact h (Xu e2)
 ·exact h (Xu e3)
theorem aF2{p:HS K}(h:p∈gi++[kS]):dot p.n 0<p.d:=by
 obtain⟨a,b,c,d,rfl,_,⟨h4,h5⟩,_⟩:=Xt h;rw[V3.Df];have hd:d=1\/d=2:=by omega
 rcases hd with rfl|rfl
 ·show OF.az (kI 1-0)=1;kernel_rfl
 ·show OF.az (kI 2-0)=1;kernel_rfl
theorem aTK:gp (gi++[kS]):=λ_ h=>QW h
theorem Xv:gp gi:=λ_ h=>QW (sR _ h)
theorem aF3:gJ (gi++[kS]):=⟨0,λ_ h=>aF2 h⟩
theorem Xw:gJ gi:=⟨0,λ_ h=>aF2 (sR _ h)⟩
theorem QX:Cl gi:=QF.1 aTE
theorem aTL:Cl (gi++[kS]):=QT QX Xv
theorem Xx:(gi++[kS]).length=7:=rfl
theorem aTM:pH (gi++[kS]) 2:=⟨by rw[Xx];decide,λ_ h=>aF1 h,λ_ h=>QW h,by decide⟩
theorem aTN:pJ gi 2 1000:=⟨by decide,λp h=>⟨aF1 (sR _ h),QW (sR _ h)⟩,by decide,by decide⟩
theorem aTO{ps:List (HS K)}{m M:Nat}(h:pJ ps m M)(hc:Cl ps)(hp:gp ps)(hf:gJ ps):
  tH prog 37 [fC ps] 35 40 ps.length (aQ ps) 33 30 (bT ps).length (aR (bT ps)) (fo (fD ps)) [iR 0]:=by
 have dL:=Xr hc hp hf;rw[tW hc hp hf]at dL;have:=aFO h (QH.2 hc) (aF0 hc hp hf) dL;rw[Xs hc hp hf]at this;rw[tW hc hp hf];exact this
theorem aTP:tH prog 26 [.p (vI 1)] 35 40 6 (aQ gi) 33 30 (bT gi).length (aR (bT gi)) (fo (fD gi)) [iR 0]:=by
 have mq:=aTO aTN QX Xv Xw
 exact aTy ⟨aVt d_ d_ d_,aVt d_ d_ d_,aVt d_ d_ d_,aVt d_ d_ d_,aVt d_ d_ d_,aVt d_ d_ d_,aVU d_⟩
  (dW _) (su _) rfl mq
theorem Xy:(bT (gi++[kS]))=QV:=(tW aTL aTK aF3).trans aTG
theorem Xz:bT gi=QU:=(tW QX Xv Xw).trans aTF
theorem aF4:(fD (gi++[kS])).length=7:=by unfold fD;rw[ek,Xy,Xx];exact aTH
theorem aF5:o8 (fD (gi++[kS]))=30:=by
 unfold fD o8;rw[SC,Xy,Xx];have e:((λf:Int×List Int=>f.2.length)∘rh)=λf:Nat×List Nat=>f.2.length:=by funext f;simp[rh]
 rw[e];exact aTI
theorem aF6{ps:List (HS K)}{p:HS K}{m:Nat}(h:pH (ps++[p]) m)(hc:Cl ps)(hf:gJ ps)(oG:gJ (ps++[p])):
  tH prog 12 [Aq ps,.p (cB p)] 35 40 (ps.length+1) (aQ (ps++[p])) 33 30 (bT (ps++[p])).length (aR (bT (ps++[p]))) (fo (fD (ps++[p]))) [.bool (decide (0<(ke p (bT ps) (bT ps).length).length)),iR 0]:=by
 have hp:gp ps:=λq hq=>h.ne q (sR _ hq);have hn:p.n≠0:=h.ne p s_;exact aSY h ((Xq hp).2 ⟨hc,hf⟩) (QF.2 (QT hc hp)) ((aTD (QT hc hp) (aTC hp hn)).2 oG)
theorem aTQ:tH prog 12 [.s 6 (aQ gi) (bT gi).length (aR (bT gi)) (fo (fD gi)),.p (cB kS)] 35 40 7 (aQ (gi++[kS])) 33 30 10 (aR (bT (gi++[kS]))) (fo (fD (gi++[kS]))) [.bool true,iR 0]:=by have:=aF6 aTM QX Xw aF3;unfold Aq Ea at this;rw[ek,show(bT gi).length=8 by rw[Xz];rfl,show ke kS (bT gi) 8=ke kS QU 8 by rw[Xz],aTJ,show(bT (gi++[kS])).length=10 by rw[Xy];rfl]at this;rw[show(bT gi).length=8 by rw[Xz];rfl];exact this
theorem aTR{np nv L6:Nat}{xp xv Gw I9:aj}{F:Fact}{gs:List (Int×List Int)}{n:V3 K}{q:K}(hF:F.rc=false)(f1:xp.all flat=true)(f2:xv.all flat=true)(f3:Gw.all flat=true)(f4:I9.all flat=true)(z1:np=0->xp=[])(z2:nv=0->xv=[])(z3:L6=0->Gw=[])
  (hB:tH prog 26 [.p (vI 1)] 35 40 np xp 33 30 nv xv F [iR 0]) (hn:aD prog 27 [.int .i64 1,.int .i64 1,.int .i64 1] (bP n)) (hq:aD prog 28 [.int .i64 2] (b9 q))
  (hC:tH prog 12 [.s np xp nv xv F,.p (cB ⟨n,q⟩)] 35 40 L6 Gw 33 30 10 I9 (fo gs) [.bool true,iR 0]) (hg:gs.length=7) (hE:cD prog 29 [.s L6 Gw 10 I9 (fo gs)] (vI 15)) :
  cD prog 7 [] (.bool true):=
 fJ mixed func7 rfl 200 (N:=41) k_ (λw=>[
  .step 7 (av f7 7) [.func (.func 26) #[] #[],vI 1] [(0,none),(1,none),(2,none)] (.tuple #[.agg #[sl 0 np,sl 1 nv,eQ 2],iR 0]) [(2,.fact (F.jJ w.heap.size)),(1,.row xv 33 30),(0,.row xp 35 40)]
   (Dz (B:=aa.at w) (S:=w.heap.size) hB (.p rfl .nil) (x:=.func 26) k_ k_ hF f1 f2 rfl (λw' hb=>Below.size hb) 0),
  hn.at 12,hq.at 13,
  .step 15 (av f7 15) [.func (.func 12) #[] #[],.agg #[sl 0 np,sl 1 nv,eQ 2],cB ⟨n,q⟩] [(4,none),(5,none),(6,none),(0,some (.row xp 35 40)),(1,some (.row xv 33 30)),(2,some (.fact (F.jJ w.heap.size)))]
   (.tuple #[.agg #[sl 4 L6,sl 5 10,eQ 6],.bool true,iR 0]) [(6,.fact ((fo gs).jJ w.heap.size)),(5,.row I9 33 30),(4,.row Gw 35 40)]
   (Dz (B:=aa.at w) (S:=w.heap.size) hC (.si (Gs _ _) (x1:=.row xp 35 40) (x2:=.row xv 33 30) rfl f1 z1 rfl f2 z2 (.p k_ .nil)) (x:=.func 12) k_ k_ rfl f3 f4 rfl (λw' hb=>Below.size hb) 4),
  .step 33 (av f7 33) [eQ 6] [(6,some (.fact ((fo gs).jJ w.heap.size)))] (vI 7) [] (hg▸Xg k_ (Gs _ _)),
  .step 38 (av f7 38) [.func (.func 29) #[] #[],.agg #[sl 4 L6,sl 5 10,eQ 6]] [(4,some (.row Gw 35 40)),(5,some (.row I9 33 30)),(6,some (.fact ((fo gs).jJ w.heap.size)))] (vI 15) []
   (dE hE (.si (Gs _ _) (x1:=.row Gw 35 40) (x2:=.row I9 33 30) rfl f3 z3 rfl f4 n_ .nil) (x:=.func 29) k_ k_ rfl)]) (λw=>k_) k_
theorem aF7:cD prog 7 [] (.bool true):=by have hE:=aTv (n1:=7) (n2:=10) (x1:=aQ (gi++[kS])) (x2:=aR (bT (gi++[kS]))) (fs:=fD (gi++[kS])) (cZ _) (dW _) (by rw[aF4];decide) (by rw[aF5];decide);rw[aF5]at hE;exact aTR rfl (cZ _) (dW _) (cZ _) (dW _) n_ xB n_ aTP (aVt d_ d_ d_) (aVU d_) aTQ aF4 hE
end
end Go.Proofs.YtjjefbkbljlgdaaGreatDoor
