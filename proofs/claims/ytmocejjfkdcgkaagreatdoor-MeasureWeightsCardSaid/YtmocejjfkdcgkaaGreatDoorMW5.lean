/- Weights of solids: the proof of MeasureWeightsCardSaid (the law's function answers true at every record and all densities it can be given; theorem measureWeights_card, last part), part 5 of 7; no condition. -/
import Derived.Test.YtmocejjfkdcgkaaGreatDoorMW4
namespace Go.Proofs.YtmocejjfkdcgkaaGreatDoor
open Go Go.RowKit Tryz
variable{e N off cc cap L np A U n':Nat}{w':h_}{ι:Map}{o:Oper}{f:FuncId}{Bs:aa}{t:Bool}{fr:aX}{ty:TypeId}{xs args cells' eU pre post xp:ak}{va res u':i_}{fn:Func}{α β:Type}{P:j_}{z:Int}{acc:e_}{f':Int×List Int}
section
open V3 (dot af aW smul)
theorem XE(ps:c_):(fZ ps).ok=true:=dC ps
theorem aFc(vs:e_):(vR vs).ok=true:=ee vs
theorem aRP(vs:e_):(aR.b vs.length (aV vs)).ok=true:=ee vs
theorem aRQ(v:V3 K):(aR.q (cK v).cs).ok=true:=bB.2 (RV.oB _)
theorem aRR(v:V3 K):(aR.p (bZ v)).ok=true:=rfl
theorem aW2(p:HS K):(aR.p (dK p)).ok=true:=rfl
def aA(vs:e_)(i:Nat):V3 K:=(vs[i]?).getD 0
theorem kJ{vs:e_}{i:Nat}(h:i<vs.length):vs[i]?=some (aA vs i):=by unfold aA;rw[bo h];rfl
theorem aFd{x:K}:0<x↔OF.aG x>0:=by rw[OF.gk];rcases OF.iY x with h|h|h<;>rw[h]<;>decide
def yQ(n:V3 K)(pt:Nat->V3 K)(p:Nat):List Nat->Nat
 |b::a::st=>if 0<turn n (pt a) (pt b) (pt p)then 0 else yQ n pt p (a::st)+1
 |_=>0
theorem Rl(n:V3 K)(pt:Nat->V3 K)(p:Nat):∀ st:List Nat,pop n pt p st=st.drop (yQ n pt p st)
 |[]=>rfl
 |[a]=>rfl
 |b::a::st=>by
  unfold pop yQ;split
  ·rfl
  ·exact Rl n pt p (a::st)
theorem aFe(n:V3 K)(pt:Nat->V3 K)(p:Nat):∀(st:l_) (d:Nat),d<yQ n pt p st->∃ b a fJ,st.drop d=b::a::fJ/\¬0<turn n (pt a) (pt b) (pt p)
 |[],d,h=>by simp[yQ]at h
 |[a],d,h=>by simp[yQ]at h
 |b::a::st,d,h=>by
  unfold yQ at h;split at h
  ·omega
  ·rename_i ht;cases d with
   |zero=>exact⟨b,a,st,rfl,ht⟩
   |succ d=>exact aFe n pt p (a::st) d o_
theorem aFf(n:V3 K)(pt:Nat->V3 K)(p:Nat):∀(st:l_),(∃ b a fJ,st.drop (yQ n pt p st)=b::a::fJ/\0<turn n (pt a) (pt b) (pt p))\/(st.drop (yQ n pt p st)).length<=1
 |[]=>.inr (lM _)
 |[a]=>.inr (bC _)
 |b::a::st=>by
  unfold yQ;split
  ·rename_i ht;exact .inl ⟨b,a,st,rfl,ht⟩
  ·exact aFf n pt p (a::st)
section
variable{Bs:aa}{vs:e_}{nn:V3 K}{l:l_}
def pM(l:l_)(vs:e_)(nn:V3 K):aL:=[(0,.view (au l)),(1,.view (aV vs)),(2,.view [sl 1 vs.length]),(3,.view (cK nn).cs)]
def mG(st:l_):List Obj:=[.row (au st.reverse) 3 1]
def ER(p L:Nat):aX:=[(7,vI p),(5,sl 4 L),(1,cq 2),(2,cq 3)]
def Rm(n i L:Nat):aX:=[(12,vI i),(10,sl 0 n),(11,vI n),(5,sl 4 L),(1,cq 2),(2,cq 3)]
theorem aFg{m:Nat}(hm:4<=m):∀ x∈pM l vs nn,fV m x.2:=λx hx=>by
 simp only[pM,cC,j6,j7]at hx;rcases hx with rfl|rfl|rfl|rfl
 ·exact λv hv=>iW (nk l v hv)
 ·exact λv hv=>iW (bB.1 (ee vs) v hv)
 ·intro v hv;have:v=sl 1 vs.length:=by simpa[Obj.cells]using hv
  subst this;show HK m ⟨1,0,some 7⟩=true;unfold HK;simp;omega
 ·exact λv hv=>iW (RV.oB _ v hv)
theorem aRS{m:Nat}{st:l_}:∀ x∈mG st,fV m x:=λx hx=>by simp only[mG,cC,j6,j7]at hx;subst hx;exact λv hv=>iW (nk _ v hv)
theorem aFh{m:Nat}(hm:5<=m){st:l_}:∀ x∈pM l vs nn++marks 4 (mG st),fV m x.2:=λx hx=>by
 rcases eW.1 hx with h|h
 ·exact aFg o_ x h
 ·simp only[mG,marks,cC,j6,j7]at h;subst h;exact λv hv=>iW (nk _ v hv)
noncomputable def hiS{p a b m q:Nat}{r:l_}(hL:r.length=L+2)(ha:r[L]?=some a)(hb:r[L+1]?=some b)(lF:a<vs.length)(lR:b<vs.length)(sk:p<vs.length)(aZ:∀ v∈vs,aI q v)(hn:aI m nn)(hm:100*(m+q)+1000<=aD)(h63:L<1000000)
  (ht:decide (OF.aG (turn nn (aA vs a) (aA vs b) (aA vs p))>0)=t) (more:bM prog Bs 66):bM prog Bs 66:=
 have sa:=aZ _ (cL (kJ lF));have sb:=aZ _ (cL (kJ lR));have sp:=aZ _ (cL (kJ sk))
 .gt 18 (L+2) 1 true s_::.fp 23 (L+2) 2 L rfl o_::.ix f215 24 4 (L+2) L o_ k_::.ld f215 25 3 4 L (.row (au r) 3 1) (vI a) rfl (ev ha) k_::
  .dj f215 26 1 vs.length a 30 lF k_::.ld f215 27 44 1 (a*30) (.view (aV vs)) (bZ (aA vs a)) rfl (mE (kJ lF)) k_::.fp 32 (L+2) 1 (L+1) rfl o_::.ix f215 33 4 (L+2) (L+1) o_ k_::
  .ld f215 34 3 4 (L+1) (.row (au r) 3 1) (vI b) rfl (ev hb) k_::.dj f215 35 1 vs.length b 30 lR k_::.ld f215 36 44 1 (b*30) (.view (aV vs)) (bZ (aA vs b)) rfl (mE (kJ lR)) k_::
  (CD sb sa o_).at 40::.dj f215 43 1 vs.length p 30 sk k_::.ld f215 44 44 1 (p*30) (.view (aV vs)) (bZ (aA vs p)) rfl (mE (kJ sk)) k_::(CD sp sa o_).at 46::
  (vP (sb.sub sa) (sp.sub sa) o_).at 47::(uB hn ((sb.sub sa).af (sp.sub sa)) o_).at 48::(nP (hn.dot ((sb.sub sa).af (sp.sub sa))) o_).at 49::
  .rw 50 (.bool (decide (OF.aG (dot nn (af (aA vs b-aA vs a) (aA vs p-aA vs a)))>0))) (.bool t) (by rw[<-ht];rfl)::more
theorem aFi{st fJ:l_}{a b:Nat}(h:st=b::a::fJ):st.reverse.length=fJ.length+2/\st.reverse[fJ.length]?=some a/\st.reverse[fJ.length+1]?=some b/\st.reverse.take (fJ.length+1)=(a::fJ).reverse:=by
 subst h;have e:(b::a::fJ).reverse=fJ.reverse++[a,b]:=by simp
 rw[e];refine⟨by simp,?_,?_,?_⟩
 ·rw[Fg s_];simp
 ·rw[Fg s_];simp
 ·rw[aC4];simp[kT]
theorem aFj(l:l_)(m:Nat):(au l).take (m*1)=au (l.take m):=by rw[gS];simp[au,Dk]
theorem aRT{st fJ:l_}{p a b m q:Nat}(bP:st=b::a::fJ)(bh:∀ x∈st,x<vs.length)(sk:p<vs.length)(aZ:∀ v∈vs,aI q v)(hn:aI m nn)(hm:100*(m+q)+1000<=aD)(h63:st.length<1000000)
  (ht:¬0<turn nn (aA vs a) (aA vs b) (aA vs p)):ai prog Bs 66 (aJ (ah f215 2)) (ER p st.length) (pM l vs nn++marks 4 (mG st)) 5 ⟨.normal,ER p (a::fJ).length,pM l vs nn++marks 4 (mG (a::fJ)),5⟩:=by
 obtain⟨r1,r2,r3,r4⟩:=aFi bP;have lF:=bh a (by rw[bP];simp);have lR:=bh b (by rw[bP];simp);have hl:st.length=fJ.length+2:=by rw[bP];rfl
 have hd:decide (OF.aG (turn nn (aA vs a) (aA vs b) (aA vs p))>0)=false:=aP λh=>ht (aFd.2 h);have GX:(au st.reverse).take ((fJ.length+1)*1)=au (a::fJ).reverse:=by rw[aFj,r4]
 have dJ:=aFh (l:=l) (vs:=vs) (nn:=nn) (m:=5) (bC _) (st:=a::fJ);unfold mG at *;rw[hl]at h63 ⊢;rw[show(a::fJ).length=fJ.length+1 from rfl];generalize st.reverse=r at *;generalize (a::fJ).reverse=r' at *;exact vn mixed 100 (gH:=7) (hiS r1 r2 r3 lF lR sk aZ hn hm o_ hd [.fp 54 (fJ.length+2) 1 (fJ.length+1) rfl o_,.cut f215 55 4 (fJ.length+2) (fJ.length+1) ((fJ.length+1)*1) 1 1 3 (au r) (au r') o_ GX k_]) k_ rfl k_ dJ k_
theorem aRU{st:l_}{p m q:Nat}(bh:∀ x∈st,x<vs.length)(sk:p<vs.length)(aZ:∀ v∈vs,aI q v)(hn:aI m nn)(hm:100*(m+q)+1000<=aD)(h63:st.length<1000000)
  (h:(∃ b a fJ,st=b::a::fJ/\0<turn nn (aA vs a) (aA vs b) (aA vs p))\/st.length<=1):ai prog Bs 66 (aJ (ah f215 2)) (ER p st.length) (pM l vs nn++marks 4 (mG st)) 5 ⟨.exit 2,ER p st.length,pM l vs nn++marks 4 (mG st),5⟩:=by
 have dJ:=aFh (l:=l) (vs:=vs) (nn:=nn) (m:=5) (bC _) (st:=st);rcases h with ⟨b,a,fJ,bP,ht⟩|h
 ·obtain⟨r1,r2,r3,r4⟩:=aFi bP;have lF:=bh a (by rw[bP];simp);have lR:=bh b (by rw[bP];simp);have hl:st.length=fJ.length+2:=by rw[bP];rfl
  have hd:decide (OF.aG (turn nn (aA vs a) (aA vs b) (aA vs p))>0)=true:=aH (aFd.1 ht);unfold mG at *;rw[hl]at h63 ⊢;generalize st.reverse=r at *;exact vn mixed 100 (gH:=7) (hiS r1 r2 r3 lF lR sk aZ hn hm o_ hd []) k_ rfl k_ dJ k_
 ·exact aE [.gt 18 st.length 1 false (by simp;omega)]
theorem aFk{st:l_}{n d:Nat}(h:∀ x∈st,x<n):∀ x∈st.drop d,x<n:=λx hx=>h x (XF hx)
theorem aRV{st:l_}{p m q:Nat}(bh:∀ x∈st,x<vs.length)(sk:p<vs.length)(aZ:∀ v∈vs,aI q v)(hn:aI m nn)(hm:100*(m+q)+1000<=aD)(h63:st.length<1000000):
  ai prog Bs 66 (.block 2 (ah f215 2)) (ER p st.length) (pM l vs nn++marks 4 (mG st)) 5 ⟨.normal,ER p (pop nn (aA vs) p st).length,pM l vs nn++marks 4 (mG (pop nn (aA vs) p st)),5⟩:=by
 have hlen:∀ d,(st.drop d).length<1000000:=λd=>by rw[wy];omega
 have:=cA (P:=prog) (B:=Bs) (N:=66) (b:=aJ (ah f215 2)) (next:=5) (yQ nn (aA vs) p st) (λd=>ER p (st.drop d).length) (λd=>pM l vs nn++marks 4 (mG (st.drop d)))
  (r:=⟨.exit 2,ER p (pop nn (aA vs) p st).length,pM l vs nn++marks 4 (mG (pop nn (aA vs) p st)),5⟩) (λi k _=>km (l:=pM l vs nn++marks 4 (mG (st.drop i))) (m:=pM l vs nn++marks 4 (mG (st.drop 0))) rfl k)
  (λd hd=>by
   obtain⟨b,a,fJ,h1,h2⟩:=aFe nn (aA vs) p st d hd;have h3:st.drop (d+1)=a::fJ:=by rw[<-Ou,h1];rfl
   rw[h3];exact aRT h1 (aFk bh) sk aZ hn hm (hlen d) h2)
  (by rw[Rl];exact aRU (aFk bh) sk aZ hn hm (hlen _) (aFf nn (aA vs) p st)) n_
 exact cd (id:=2) this
def bP(nn:V3 K)(vs:e_)(l:l_)(i:Nat):List Nat:=half nn (aA vs) (l.take i)
theorem aFl{i p:Nat}(h:l[i]?=some p):bP nn vs l (i+1)=p::pop nn (aA vs) p (bP nn vs l i):=by unfold bP half;rw[vS,h,Option.toList,aDh];rfl
theorem aRW(n:V3 K)(pt:Nat->V3 K)(p:Nat)(st:l_):∀ x∈pop n pt p st,x∈st:=λx hx=>by rw[Rl]at hx;exact XF hx
theorem aFm(n:V3 K)(pt:Nat->V3 K)(p:Nat)(st:l_):(pop n pt p st).length<=st.length:=by rw[Rl,wy];omega
theorem MN:∀ i,i<=l.length->(∀ x∈bP nn vs l i,x∈l)/\(bP nn vs l i).length<=i
 |0,_=>⟨λx hx=>by simp[bP,half]at hx,bC _⟩
 |i+1,h=>by
  obtain⟨h1,h2⟩:=MN i o_;have hp:l[i]?=some l[i]:=bo o_;rw[aFl hp];refine⟨λx hx=>?_,?_⟩
  ·rcases cC.1 hx with rfl|hx
   ·exact dB o_
   ·exact h1 x (aRW _ _ _ _ x hx)
  ·have:=aFm nn (aA vs) l[i] (bP nn vs l i);rw[pS];omega
theorem aRX{i p m q:Nat}{st:l_}(hi:i<l.length)(hp:l[i]?=some p)(bh:∀ x∈st,x<vs.length)(sk:p<vs.length)(aZ:∀ v∈vs,aI q v)(hn:aI m nn)(hm:100*(m+q)+1000<=aD)(h63:st.length<900000)(sn:l.length<1000000):
  ai prog Bs 66 (aJ (ah f215 0)) (Rm l.length i st.length) (pM l vs nn++marks 4 (mG st)) 5
   ⟨.normal,gZ 4 [some 6] (Rm l.length (i+1) (p::pop nn (aA vs) p st).length),pM l vs nn++dY [some 6] (mG (p::pop nn (aA vs) p st)),7⟩:=by
 have lo:=aRV (Bs:=Bs) (l:=l) bh sk aZ hn hm (show st.length<1000000 by omega);have EF:=aFm nn (aA vs) p st;generalize pop nn (aA vs) p st=r at *;have hr:au r.reverse++[vI p]=au (p::r).reverse:=by simp[au]
 have ES:(au r.reverse).length=r.length*1:=by rw[oF,G9,gS]
 have h1:=MM r.reverse;unfold mG at *;rw[show(p::r).length=r.length+1 from rfl];generalize st.reverse=s0 at *;generalize au r.reverse=c0 at *;generalize au (p::r).reverse=c1 at *;exact aE [.lt 13 i l.length true (aH hi),.ix f215 14 0 l.length i hi k_,.ld f215 15 3 0 i (.view (au l)) (vI p) rfl (ev hp) k_,.code 2 _ _ _ _ _ lo,.bs f215 58 5 1 3 1 [0] (vI 0) [vI p] #[vI p] (.row [vI p] 3 1) rfl (λv hv=>by simp at hv;subst hv;rfl) (λv hv=>by simp at hv;subst hv;rfl) k_ rfl d_ d_ k_,.qH f215 59 6 4 r.length 1 (r.length+1) 3 1 8 c0 5 (.row [vI p] 3 1) c1 rfl rfl rfl ES hr (λv hv=>by simp[Obj.cells]at hv;subst hv;rfl) d_ (by simp[maxLen];omega) o_ k_,.sum 60 i 1 (i+1) rfl o_]
theorem aRY{m q:Nat}(bh:∀ x∈l,x<vs.length)(aZ:∀ v∈vs,aI q v)(hn:aI m nn)(hm:100*(m+q)+1000<=aD)(h63:l.length<900000):
  ai prog Bs 66 (.block 0 (ah f215 0)) (gZ 4 [none] (Rm l.length 0 0)) (pM l vs nn++dY [none] (mG [])) 4 ⟨.normal,[(5,sl 4 (half nn (aA vs) l).length)],pM l vs nn++marks 4 (mG (half nn (aA vs) l)),5⟩:=by
 have EA:bP nn vs l l.length=half nn (aA vs) l:=by unfold bP;rw[o5]
 have:=rJ (P:=prog) (B:=Bs) (N:=66) (b:=aJ (ah f215 0)) (next:=4) (p:=1) (r:=⟨.exit 0,[(5,sl 4 (half nn (aA vs) l).length)],pM l vs nn++marks 4 (mG (half nn (aA vs) l)),5⟩) l.length
  (λi=>Rm l.length i (bP nn vs l i).length) (λ_=>pM l vs nn) (λi=>mG (bP nn vs l i)) [none] (λ_ _=>rfl) (λj _=>⟨aFg (bC _),aRS⟩) k_ k_
  (λi hi=>by have hp:l[i]?=some l[i]:=bo hi;obtain⟨f1,f2⟩:=MN (nn:=nn) (vs:=vs) (l:=l) i o_;refine⟨[some 6],7,k_,?_⟩;rw[aFl hp];exact aRX hi hp (λx hx=>bh x (f1 x hx)) (bh _ (dB hi)) aZ hn hm o_ o_)
  (by rw[EA];generalize half nn (aA vs) l=a;exact aE [.lt 13 l.length l.length false s_]) n_
 exact cd (id:=0) this
theorem aRZ(nn:V3 K)(pt:Nat->V3 K){l:l_}(h:l≠[]):half nn pt l≠[]:=by
 have:∀(l st:l_),st≠[]->l.foldl (λst p=>p::pop nn pt p st) st≠[]:=by
  intro l;induction l with
  |nil=>exact λ_ h=>h
  |cons a l ih=>exact λst _=>ih _ n_
 cases l with
 |nil=>exact absurd rfl h
 |cons a l=>exact this l _ n_
def kK(nn:V3 K)(vs:e_)(l:l_):List Nat:=(half nn (aA vs) l).tail.reverse
theorem aFn{m q:Nat}(ry:0<l.length)(bh:∀ x∈l,x<vs.length)(aZ:∀ v∈vs,aI q v)(hn:aI m nn)(hm:100*(m+q)+1000<=aD)(h63:l.length<900000):
  lV prog 215 [G8 l,.b vs.length (aV vs),.q (cK nn).cs] 3 1 (kK nn vs l).length (au (kK nn vs l)):=by
 have aC:([G8 l,.b vs.length (aV vs),.q (cK nn).cs].all aR.ok)=true:=by simp only[dL,eX,XC,aRP,aRQ,AA]
 have lo:=λBs=>aRY (Bs:=Bs) bh aZ hn hm h63;have aQ:=aRZ nn (aA vs) (l:=l) (λe=>by rw[e]at ry;cases ry);have hlen:(half nn (aA vs) l).length<=l.length:=by have:=(MN (nn:=nn) (vs:=vs) (l:=l) l.length (bC _)).2;unfold bP at this;rwa[o5]at this
 unfold kK;cases hh:half nn (aA vs) l with
 |nil=>exact absurd hh aQ
 |cons a st=>
  rw[hh]at lo hlen;simp only[List.tail_cons,G9];have GX:(au (a::st).reverse).take (st.length*1)=au st.reverse:=by rw[aFj,wU,Su s_]
  unfold mG at lo;rw[show(a::st).length=st.length+1 from rfl]at lo hlen;have hx:=iK st.reverse;have XG:(au st.reverse).length=st.length*1:=by rw[oF,G9,gS]
  generalize au (a::st).reverse=c0 at *;generalize au st.reverse=c1 at *;exact yo (k:=4) mixed func215 aC 100 (N:=66) k_ (λ_=>[.code 0 _ _ _ _ _ (lo _),.fp 64 (st.length+1) 1 st.length rfl o_,.cut f215 65 4 (st.length+1) st.length (st.length*1) 1 1 3 c0 c1 o_ GX k_]) (λ_=>k_) hx XG
end
theorem aFo(nn:V3 K)(vs:e_)(l:l_):order nn (aA vs) l=kK nn vs l++kK nn vs l.reverse:=rfl
theorem XH{vs:e_}{nn:V3 K}{l:l_}{m q:Nat}(ry:0<l.length)(bh:∀ x∈l,x<vs.length)(aZ:∀ v∈vs,aI q v)(hn:aI m nn)(hm:100*(m+q)+1000<=aD)(h63:l.length<900000):
  lV prog 192 [vR vs,G8 l,.p (bZ nn)] 3 1 (order nn (aA vs) l).length (au (order nn (aA vs) l)):=by
 have aC:([vR vs,G8 l,.p (bZ nn)].all aR.ok)=true:=by simp only[dL,eX,XC,aFc,aRR,AA]
 have h1:=aFn ry bh aZ hn hm h63;have h2:=aFn (l:=l.reverse) (by simpa using ry) (λx hx=>bh x (LL.1 hx)) aZ hn hm (by simpa using h63);have hc:=aRH ry o_;have hr:=aRO ry o_;rw[aFo];have e1:au (kK nn vs l)++au (kK nn vs l.reverse)=au (kK nn vs l++kK nn vs l.reverse):=aRG _ _;have bH:∀ l:List Nat,(∀ x∈l,x∈l)->(kK nn vs l).length<=l.length:=λl _=>by have:=(MN (nn:=nn) (vs:=vs) (l:=l) l.length (bC _)).2;unfold bP at this;rw[o5]at this;unfold kK;rw[G9,List.length_tail];omega
 have s1:=bH l λ_ h=>h;have s2:=bH l.reverse λ_ h=>h;have g1:=oF (kK nn vs l);have g2:=oF (kK nn vs l.reverse);have o2:=MM (kK nn vs l.reverse);have f3:=iK (kK nn vs l++kK nn vs l.reverse);have g3:=oF (kK nn vs l++kK nn vs l.reverse);have f1:=iK (kK nn vs l);have f2:=iK (kK nn vs l.reverse);rw[lh]at g3 ⊢;rw[G9]at s2;have hb:∀{l:l_},l.length=0->(Obj.view (au l)).cells=[]:=λh=>Rj h;unfold yP at hr;have aFp:l.reverse.length=l.length:=G9 ..;unfold G8 at h2;rw[aFp]at h2;have ir:l.length=0->au l.reverse=[]:=λh=>Rj (by rw[aFp];exact h);have irf:=iK l.reverse;generalize (kK nn vs l).length=a1 at *;generalize (kK nn vs l.reverse).length=a2 at *;generalize au (kK nn vs l++kK nn vs l.reverse)=i3 at *;generalize au (kK nn vs l)=i1 at *;generalize au (kK nn vs l.reverse)=i2 at *;generalize au l.reverse=lr at *;exact yo (k:=7) mixed func192 aC 100 (N:=23) k_ (λ_=>[
  .step 13 (aw f192 13) [.func (.func 215) #[] #[cq 2,cq 3],sl 1 l.length] [(4,none),(1,some (.view (au l))),(2,some (.aM [sl 0 vs.length] 23)),(0,some (.view (aV vs))),(3,some (.aM (cK nn).cs 44))] (sl 4 a1) [(4,.row i1 3 1)]
   (aDL (vs:=[sl 1 l.length]) (ca:=[cq 2,cq 3]) h1 (.w (x:=.view (au l)) rfl (iK l) hb (.b (x:=.view (aV vs)) (y:=.aM [sl 0 vs.length] 23) (cc:=0) rfl rfl rfl (ee vs) w9 (.q (x:=.aM (cK nn).cs 44) rfl (bB.2 (RV.oB _)) .nil))) (x:=.tmp 11) k_ k_ f1 4),
  .step 15 (aw f192 15) [.func (.func 216) #[] #[],sl 1 l.length] [(5,none),(1,some (.view (au l)))] (sl 5 l.length) [(5,.row (au l) 3 1)]
   (rR hc (.w (x:=.view (au l)) rfl (iK l) hb .nil) (x:=.func 216) k_ k_ (iK l) 5),
  .step 17 (aw f192 17) [.func (.func 217) #[] #[],sl 5 l.length] [(5,some (.row (au l) 3 1))] (.tuple #[]) [(5,.row lr 3 1)]
   (L3 (args:=[sl 5 l.length]) (ca:=[]) (x:=.func 217) hr k_ k_ k_ k_ (by
    show((Nat.blt 5 6&&mY 6 (5,.row (au l) 3 1))&&true)=true;rw[rX (x:=.row (au l) 3 1) λv hv=>nk l v hv];rfl) (by
    show(mY 6 (5,.row lr 3 1)&&true)=true;rw[rX (x:=.row lr 3 1) λv hv=>bB.1 irf v hv];rfl) k_ k_ k_ k_),.step 21 (aw f192 21) [.func (.func 215) #[] #[cq 2,cq 3],sl 5 l.length] [(6,none),(5,some (.row lr 3 1)),(2,some (.aM [sl 0 vs.length] 23)),(0,some (.view (aV vs))),(3,some (.aM (cK nn).cs 44))] (sl 6 a2) [(6,.row i2 3 1)]
   (aDL (vs:=[sl 5 l.length]) (ca:=[cq 2,cq 3]) h2 (.w (x:=.row lr 3 1) rfl irf ir (.b (x:=.view (aV vs)) (y:=.aM [sl 0 vs.length] 23) (cc:=0) rfl rfl rfl (ee vs) w9 (.q (x:=.aM (cK nn).cs 44) rfl (bB.2 (RV.oB _)) .nil))) (x:=.tmp 19) k_ k_ f2 6),
  .qH f192 22 7 4 a1 a2 (a1+a2) 3 1 8 i1 6 (.row i2 3 1) i3 rfl rfl (by rw[gS];exact g2) (by rw[gS];exact g1) e1 o2 d_ (by simp[maxLen];omega) o_ k_]) (λ_=>k_) f3 (by rw[gS];exact g3)
def bY(p:HS K)(vs:e_)(j:Nat):List Nat:=(List.range j).filter λk=>decide (dot p.n (aA vs k)-p.d=0)
theorem aFq(p:HS K)(vs:e_)(j:Nat):bY p vs (j+1)=bY p vs j++(if dot p.n (aA vs j)-p.d=0 then[j]else[]):=by
 unfold bY;rw[Li,List.filter_append]
 congr 1
 by_cases h:dot p.n (aA vs j)-p.d=0<;>simp[h]
theorem XI{p:HS K}{vs:e_}{j x:Nat}(h:x∈bY p vs j):x<j:=by unfold bY at h;rw[aFr,jT]at h;exact h.1
theorem Jx(p:HS K)(vs:e_)(j:Nat):(bY p vs j).length<=j:=by have:=List.length_filter_le (λk=>decide (dot p.n (aA vs k)-p.d=0)) (List.range j);rw[zD]at this;exact this
def qk(ps:c_)(vs:e_)(i:Nat)(p:HS K):List (Nat×List Nat):=
 if(ps.take i).any (λq=>decide (canon p=canon q))then[]
 else if(bY p vs vs.length).length<3 then[]
 else if(order p.n (aA vs) (bY p vs vs.length)).length>2 then[(i,order p.n (aA vs) (bY p vs vs.length))]else[]
def ga(ps:c_)(vs:e_)(i:Nat):List (Nat×List Nat):=match ps[i]? with|some p=>qk ps vs i p|none=>[]
def dE(ps:c_)(vs:e_)(n:Nat):List (Nat×List Nat):=(List.range n).flatMap (ga ps vs)
theorem MO(ps:c_)(vs:e_)(n:Nat):dE ps vs (n+1)=dE ps vs n++ga ps vs n:=by unfold dE;rw[Li,VX];simp
theorem aR0(ps:c_)(vs:e_)(i:Nat)(p:HS K):(qk ps vs i p).length<=1:=by
 unfold qk;split
 ·exact lM _
 ·split
  ·exact lM _
  ·split
   ·exact bC _
   ·exact lM _
theorem Jy(ps:c_)(vs:e_):∀ n,(dE ps vs n).length<=n
 |0=>bC _
 |n+1=>by
  rw[MO,lh];have h1:=Jy ps vs n;have h2:(ga ps vs n).length<=1:=by
   unfold ga;split
   ·exact aR0 _ _ _ _
   ·exact lM _
  omega
def fB(f:Nat×List Nat):Int×List Int:=((f.1:Int),f.2.map λx:Nat=>(x:Int))
section
variable{Bs:aa}{ps:c_}{vs:e_}
def MP(nv j L:Nat):aX:=[(26,vI j),(24,sl 1 nv),(25,vI nv),(7,cq 3),(8,sl 4 L)]
def A4(vs:e_)(p:HS K):aL:=[(1,.view (aV vs)),(3,.aM (c9 p).cs 54)]
def ky(l:l_):List Obj:=[.row (au l) 3 1]
theorem aR1{p:HS K}{m:Nat}:∀ x∈A4 vs p,fV m x.2:=λx hx=>by
 simp only[A4,cC,j6,j7]at hx;rcases hx with rfl|rfl
 ·exact λv hv=>iW (bB.1 (ee vs) v hv)
 ·exact λv hv=>iW (jP.flat _ v hv)
theorem XJ{m:Nat}{l:l_}:∀ x∈ky l,fV m x:=λx hx=>by simp only[ky,cC,j6,j7]at hx;subst hx;exact λv hv=>iW (nk _ v hv)
theorem aR2{j m q:Nat}{p:HS K}{l:l_}(hj:j<vs.length)(hp:bO m p)(jO:p.n≠0)(aZ:∀ v∈vs,aI q v)(hm:100*(m+q)+1000<=aD)(h63:l.length<900000)(sn:vs.length<1000000):
  ∃ σ gH,(∀ l0:List Nat,DI (A4 vs p++dY [none] (ky l0)) 4 σ (MP vs.length (j+1) (l++if dot p.n (aA vs j)-p.d=0 then[j]else[]).length) (A4 vs p) (ky (l++if dot p.n (aA vs j)-p.d=0 then[j]else[]))=true)/\
   ai prog Bs 59 (aJ (ah f150 2)) (MP vs.length j l.length) (A4 vs p++marks 4 (ky l)) 5 ⟨.normal,gZ 4 σ (MP vs.length (j+1) (l++if dot p.n (aA vs j)-p.d=0 then[j]else[]).length),A4 vs p++dY σ (ky (l++if dot p.n (aA vs j)-p.d=0 then[j]else[])),gH⟩:=by
 have hv:=kJ hj;have hs:=LX hp (aZ _ (cL hv)) o_ jO;by_cases h:dot p.n (aA vs j)-p.d=0
 ·rw[aB h];have e:(Value.bool (OF.aG (dot p.n (aA vs j)-p.d)==0))=.bool true:=by rw[OF.O5.1 h];rfl
  have hr:au l++[vI j]=au (l++[j]):=by simp[au]
  have ES:(au l).length=l.length*1:=by rw[oF,gS]
  have h1:=MM l;rw[show(l++[j]).length=l.length+1 by simp];unfold ky;refine⟨[some 7],8,λl0=>k_,?_⟩;generalize OF.aG (dot p.n (aA vs j)-p.d)=z at *;generalize aA vs j=v at *;generalize au l=c0 at *;generalize au (l++[j])=c1 at *;exact aE [.lt 27 j vs.length true (aH hj),.dj f150 29 1 vs.length j 30 hj k_,.ld f150 30 44 1 (j*30) (.view (aV vs)) (bZ v) rfl (mE hv) k_,hs.at 33,.rw 34 (.bool (z==0)) b_ e,.bs f150 37 6 1 3 1 [0] (vI 0) [vI j] #[vI j] (.row [vI j] 3 1) rfl (λv hv=>by simp at hv;subst hv;rfl) (λv hv=>by simp at hv;subst hv;rfl) k_ rfl d_ d_ k_,.qH f150 38 7 4 l.length 1 (l.length+1) 3 1 8 c0 6 (.row [vI j] 3 1) c1 rfl rfl rfl ES hr (λv hv=>by simp[Obj.cells]at hv;subst hv;rfl) d_ (by simp[maxLen];omega) o_ k_,.sum 39 j 1 (j+1) rfl o_]
 ·rw[av h,jL];have e:(Value.bool (OF.aG (dot p.n (aA vs j)-p.d)==0))=.bool false:=by
   congr 1
   have:OF.aG (dot p.n (aA vs j)-p.d)≠0:=λe=>h (OF.O5.2 e);simpa using this
  refine⟨[some 4],6,λl0=>k_,?_⟩;generalize OF.aG (dot p.n (aA vs j)-p.d)=z at *;generalize aA vs j=v at *;exact aE [.lt 27 j vs.length true (aH hj),.dj f150 29 1 vs.length j 30 hj k_,.ld f150 30 44 1 (j*30) (.view (aV vs)) (bZ v) rfl (mE hv) k_,hs.at 33,.rw 34 (.bool (z==0)) a_ e,.sum 39 j 1 (j+1) rfl o_]
theorem XK{m q:Nat}{p:HS K}(hp:bO m p)(jO:p.n≠0)(aZ:∀ v∈vs,aI q v)(hm:100*(m+q)+1000<=aD)(h63:vs.length<900000):
  ai prog Bs 59 (.block 2 (ah f150 2)) (gZ 4 [none] (MP vs.length 0 0)) (A4 vs p++dY [none] (ky [])) 4 ⟨.normal,[(8,sl 4 (bY p vs vs.length).length),(7,cq 3)],A4 vs p++marks 4 (ky (bY p vs vs.length)),5⟩:=by
 have:=rJ (P:=prog) (B:=Bs) (N:=59) (b:=aJ (ah f150 2)) (next:=4) (p:=1) (r:=⟨.exit 2,[(8,sl 4 (bY p vs vs.length).length),(7,cq 3)],A4 vs p++marks 4 (ky (bY p vs vs.length)),5⟩) vs.length
  (λj=>MP vs.length j (bY p vs j).length) (λ_=>A4 vs p) (λj=>ky (bY p vs j)) [none] (λ_ _=>rfl) (λj _=>⟨aR1,XJ⟩) k_ k_
  (λj hj=>by have hl:=Jx p vs j;obtain⟨σ,gH,h1,h2⟩:=aR2 (Bs:=Bs) (l:=bY p vs j) hj hp jO aZ hm o_ o_;rw[aFq];exact⟨σ,gH,h1 _,h2⟩)
  (by generalize bY p vs vs.length=a;exact aE [.lt 27 vs.length vs.length false s_]) n_
 exact cd (id:=2) this
def fI(n nv i c:Nat):aX:=[(14,vI i),(12,sl 0 n),(13,vI n),(0,sl 0 n),(1,sl 1 nv),(5,sl 2 c)]
def fM(ps:c_)(vs:e_)(cells:ak):aL:=[(0,.view (bt ps)),(1,.view (aV vs)),(2,.row cells 51 2)]
def lf(ps:c_)(i:Nat)(p:HS K):Bool:=(ps.take i).any λq=>decide (canon p=canon q)
noncomputable def fS{i m:Nat}{p:HS K}(hi:i<ps.length)(jr:ps[i]?=some p)(ck:∀ p∈ps,bO m p/\p.n≠0)(hm:100*m+1000<=aD)(h63:ps.length<=500)(ht:lf ps i p=t)(more:bM prog Bs 59):bM prog Bs 59:=
 .lt 15 i ps.length true (aH hi)::.dj f150 17 0 ps.length i 40 hi k_::.ld f150 18 54 0 (i*40) (.view (bt ps)) (dK p) rfl (AB jr) k_::.upto f150 21 0 ps.length i 40 o_ k_::
  .step 23 (aw f150 23) [.func (.func 143) #[] #[],sl 0 i,.func (.func 190) #[] #[cq 3]] [(0,some (.view (bt ps))),(3,some (.aM (c9 p).cs 54))] (.bool t) [] (by
   have hp:=ck p (cL jr);have hc:=V4 (g:=190) (caps:=(c9 p).cs) (ps:=ps.take i) (b:=λq=>decide (canon p=canon q)) k_ (bB.2 (jP.flat _)) (by rw[jH];omega) λq hq=>
    aM1 hp.1 (ck q (I5 hq)).1 o_ o_ hp.2 (ck q (I5 hq)).2
   rw[show(ps.take i).any (λq=>decide (canon p=canon q))=t from ht]at hc;have hl:(ps.take i).length=i:=by rw[jH];omega
   have e:bt (ps.take i)=((Obj.view (bt ps)).cells.drop 0).take (i*40):=by show _=((bt ps).drop 0).take (i*40);rw[mT];unfold bt;rw[VZ jP,<-Dk]
   unfold fZ at hc;rw[hl,e]at hc;exact dR hc (.r (x:=.view (bt ps)) rfl (dC ps) (λh=>by rw[h]) (.f (x:=.aM (c9 p).cs 54) rfl (bB.2 (jP.flat _)) .nil)) (x:=.func 143) k_ k_ rfl)::more
theorem aR3{i c m:Nat}{p:HS K}{cells:ak}(hi:i<ps.length)(jr:ps[i]?=some p)(ck:∀ p∈ps,bO m p/\p.n≠0)(hm:100*m+1000<=aD)(h63:ps.length<=500)(ht:lf ps i p=true):
  ai prog Bs 59 (aJ (ah f150 0)) (fI ps.length vs.length i c) (fM ps vs cells) 3 ⟨.normal,fI ps.length vs.length (i+1) c,fM ps vs cells,4⟩:=
 aE (fS hi jr ck hm h63 ht [.sum 57 i 1 (i+1) rfl o_])
theorem aR4{i c m q:Nat}{p:HS K}{cells:ak}(hi:i<ps.length)(jr:ps[i]?=some p)(ck:∀ p∈ps,bO m p/\p.n≠0)(aZ:∀ v∈vs,aI q v)(hm:100*(m+q)+1000<=aD)(h63:ps.length<=500)(jt:vs.length<900000)(ht:lf ps i p=false)(ho:(bY p vs vs.length).length<3):
  ai prog Bs 59 (aJ (ah f150 0)) (fI ps.length vs.length i c) (fM ps vs cells) 3 ⟨.normal,fI ps.length vs.length (i+1) c,fM ps vs cells,5⟩:=by
 have hp:=ck p (cL jr);have lo:=XK (Bs:=Bs) hp.1 hp.2 aZ hm jt;generalize bY p vs vs.length=on at *;exact aE (fS hi jr ck o_ h63 ht [.code 2 _ _ _ _ _ lo,.lt 42 on.length 3 true (aH ho),.sum 57 i 1 (i+1) rfl o_])
noncomputable def fL{m q:Nat}{p:HS K}{on l:l_}(hl:order p.n (aA vs) on=l)(hp:bO m p)(aZ:∀ v∈vs,aI q v)(hm:100*(m+q)+1000<=aD)(iq:∀ x∈on,x<vs.length)(h3:0<on.length)(h63:on.length<900000):bd prog Bs 59:=
 .step 47 (aw f150 47) [.func (.func 192) #[] #[],sl 1 vs.length,sl 4 on.length,bZ p.n] [(5,none),(1,some (.view (aV vs))),(4,some (.row (au on) 3 1))] (sl 5 l.length) [(5,.row (au l) 3 1)]
  (rR (hl▸XH h3 iq aZ hp.1 hm h63) (.w (x:=.view (aV vs)) rfl (ee vs) w9 (.w (x:=.row (au on) 3 1) rfl (iK on) (λh=>Rj h) (.p k_ .nil))) (x:=.func 192) k_ k_ (iK l) 5)
theorem aR5{i c m q:Nat}{p:HS K}{cells:ak}(hi:i<ps.length)(jr:ps[i]?=some p)(ck:∀ p∈ps,bO m p/\p.n≠0)(aZ:∀ v∈vs,aI q v)(hm:100*(m+q)+1000<=aD)(h63:ps.length<=500)(jt:vs.length<900000)(ht:lf ps i p=false)(ho:¬(bY p vs vs.length).length<3)
  (hl:¬(order p.n (aA vs) (bY p vs vs.length)).length>2):ai prog Bs 59 (aJ (ah f150 0)) (fI ps.length vs.length i c) (fM ps vs cells) 3 ⟨.normal,fI ps.length vs.length (i+1) c,fM ps vs cells,6⟩:=by
 have hp:=ck p (cL jr);have lo:=XK (Bs:=Bs) hp.1 hp.2 aZ hm jt;have iq:∀ x∈bY p vs vs.length,x<vs.length:=λx hx=>XI hx;have hol:=Jx p vs vs.length;obtain⟨l,cB⟩:∃ l,order p.n (aA vs) (bY p vs vs.length)=l:=⟨_,rfl⟩;rw[cB]at hl;generalize bY p vs vs.length=on at *;exact aE (fS hi jr ck o_ h63 ht [.code 2 _ _ _ _ _ lo,.lt 42 on.length 3 false (aP ho),fL cB hp.1 aZ hm iq o_ o_,.gt 50 l.length 2 false (aP o_),.sum 57 i 1 (i+1) rfl o_])
theorem aFs{it:TypeInfo}{z:i_}(h1:prog.info? 51=some it)(h2:it.zero=some z):∀ v∈z.cells.toList,flat v=true:=by have e:(prog.info? 51).bind (·.zero)=some (.agg #[vI 0,.slice none 0 0]):=k_;rw[h1]at e;have e:it.zero=some (.agg #[vI 0,.slice none 0 0]):=e;rw[h2]at e;injection e with e;subst e;intro v hv;have hv:v∈[vI 0,.slice none 0 0]:=hv;simp at hv;rcases hv with rfl|rfl<;>rfl
theorem aR6{i c m q:Nat}{p:HS K}{cells:ak}(hi:i<ps.length)(jr:ps[i]?=some p)(ck:∀ p∈ps,bO m p/\p.n≠0)(aZ:∀ v∈vs,aI q v)(hm:100*(m+q)+1000<=aD)(h63:ps.length<=500)(jt:vs.length<900000)(ht:lf ps i p=false)(ho:¬(bY p vs vs.length).length<3)
  (hl:(order p.n (aA vs) (bY p vs vs.length)).length>2) (hc:cells.length=c*2) (MQ:c<=500) (E6:∀ v∈cells,v.oneCell'=true) :
  ai prog Bs 59 (aJ (ah f150 0)) (fI ps.length vs.length i c) (fM ps vs cells) 3
   ⟨.normal,[(14,vI (i+1)),(12,sl 0 ps.length),(13,vI ps.length),(0,sl 0 ps.length),(1,sl 1 vs.length),(5,sl 7 (c+1))],[(0,.view (bt ps)),(1,.view (aV vs)),(5,.row (au (order p.n (aA vs) (bY p vs vs.length))) 3 1),(7,.row (cells++[vI i,sl 5 (au (order p.n (aA vs) (bY p vs vs.length))).length]) 51 2)],8⟩:=by
 have hp:=ck p (cL jr);have lo:=XK (Bs:=Bs) hp.1 hp.2 aZ hm jt;have iq:∀ x∈bY p vs vs.length,x<vs.length:=λx hx=>XI hx;have hol:=Jx p vs vs.length;obtain⟨l,cB⟩:∃ l,order p.n (aA vs) (bY p vs vs.length)=l:=⟨_,rfl⟩;rw[cB]at hl ⊢;rw[oF];generalize bY p vs vs.length=on at *;generalize nA:cells++[vI i,sl 5 l.length]=cells' at *;exact aE (fS hi jr ck o_ h63 ht [.code 2 _ _ _ _ _ lo,.lt 42 on.length 3 false (aP ho),fL cB hp.1 aZ hm iq o_ o_,.gt 50 l.length 2 true (aH hl),.step 54 (aw f150 54) [vI i,sl 5 l.length] [] (.agg #[vI i,sl 5 l.length]) [] (Qx (t:=51) (idx:=[0,1]) k_ (λit z h1 h2=>aFs h1 h2) k_),.bsM f150 55 6 1 51 2 [0] (.agg #[vI 0,.slice none 0 0]) [.agg #[vI i,sl 5 l.length]] #[vI i,sl 5 l.length] (.row [vI i,sl 5 l.length] 51 2) rfl (λv hv=>by
   have hv:v∈[vI 0,.slice none 0 0]:=hv;simp at hv;rcases hv with rfl|rfl<;>rfl) d_ k_ rfl d_ d_ k_,.qH f150 56 7 2 c 1 (c+1) 51 2 32 cells 6 (.row [vI i,sl 5 l.length] 51 2) cells' rfl rfl rfl hc nA (λv hv=>by
   simp[Obj.cells]at hv;rcases hv with rfl|rfl<;>rfl) d_ (by simp[maxLen];omega) o_ k_,.sum 57 i 1 (i+1) rfl o_])
end
end
theorem k7.one{w:h_}{fs:f_}{cs:ak}(h:k7 w fs cs):∀ v∈cs,v.oneCell'=true:=by
 induction h with
 |nil=>intro v hv;cases hv
 |cons h1 _ _ ih=>
  intro v hv;rcases cC.1 hv with rfl|hv
  ·rfl
  rcases cC.1 hv with rfl|hv
  ·rcases h1 with ⟨e,_⟩|⟨_,_,_,e,_⟩<;>rw[e]<;>rfl
  ·exact ih v hv
structure A5(B:aa)(fs:f_)(ks:List (Value×ak))(cs:ak):Prop where
 flat:∀ v∈cs,Go.Proofs.YtmocejjfkdcgkaaGreatDoor.flat v=true
 cells:∀ w,(∀ p∈ks,cW w p.1 p.2.length p.2)->k7 w fs cs
 slice:∀ v∈cs,∀ b,iU v=some b->¬B.cU b
theorem A5.nil{B:aa}:A5 B [] [] []:=⟨λv h=>(by cases h),λw _=>.nil,λv h=>(by cases h)⟩
variable{b:Nat}{B:aa}{ks:List (Value×ak)}
theorem A5.snoc{fs:f_}{cells:ak}(h:A5 B fs ks cells){i:Nat}{l:l_}{u:i_}(hu:Go.Proofs.YtmocejjfkdcgkaaGreatDoor.flat u=true)(hb:∀ b,iU u=some b->¬B.cU b):
  A5 B (fs++[fB (i,l)]) ((u,au l)::ks) (cells++[vI i,u]):=by
 refine⟨λv hv=>?_,λw hw=>?_,λv hv b tQ=>?_⟩
 ·rcases eW.1 hv with hv|hv
  ·exact h.flat v hv
  ·simp at hv;rcases hv with rfl|rfl
   ·rfl
   ·exact hu
 ·have h1:=h.cells w λp hp=>hw p (bF _ hp);have h2:=hw (u,au l) (aT ..);have h2:cW w u (au l).length (au l):=h2;rw[aN7]at h2;have e:(eK (l.map λx:Nat=>(x:Int))).length=(l.map λx:Nat=>(x:Int)).length:=by simp[eK]
  rw[e]at h2;exact h1.snoc (i:=(i:Int)) h2 hu
 ·rcases eW.1 hv with hv|hv
  ·exact h.slice v hv b tQ
  ·simp at hv;rcases hv with rfl|rfl
   ·cases tQ
   ·exact hb b tQ
theorem A5.out{fs:f_}{cells:ak}(h:A5 B fs ks cells){c:g_}{w:h_}{k:Nat}{v:i_}(hm:aO (B.iu ks) ι c w)(hk:c k=some (.row cells ty 2))(hc:aK ι (.slice (some ⟨k,0,some 7⟩) fs.length 0) v):
  Ct w v (jE fs)/\∀ b,(jE fs).cU v w b->¬B.cU b:=by
 have hf:=h.cells w hm.base.2;have hl:=hf.length;have hr:=po (len:=fs.length*2) hm hk rfl h.flat (λe=>by rw[e]) hc;have hr:cW w v fs.length cells:=by
  have e:((Obj.row cells ty 2).cells.drop 0).take (fs.length*2)=cells:=by rw[mT];exact kT (u5 hl)
  rwa[e]at hr
 have jA:Me w v fs:=⟨cells,hr,hf⟩;have own:∀ b,iU v=some b->¬B.cU b:=by
  intro b hb hF;rcases hc.iF rfl with ⟨_,_,_,_,q5⟩|⟨b',oo,cap,c',q1,_,_,q5⟩
  ·rw[q5]at hb;cases hb
  ·rw[q5]at hb;injection hb with hb;subst hb;exact(hm.own k _ b' oo cap hk rfl q1).2 (.inl hF)
 refine⟨⟨jA,?_,?_⟩,λb hF=>?_⟩
 ·rcases hr with ⟨e,_⟩|⟨_,_,_,e,_⟩<;>rw[e]<;>rfl
 ·rcases hr with ⟨e,_⟩|⟨_,_,_,e,_⟩<;>rw[e]<;>rfl
 ·rcases hF with hF|⟨b',o,c',j,u,e,hj,lK,hb⟩
  ·exact own b hF
  ·have hu:=Qz hr hf e hj lK;exact h.slice u hu b hb
section
variable{ps:c_}{vs:e_}
noncomputable def fC0:Code:=AH (fY f150)
noncomputable def fC1:Code:=AH (xf (fY f150))
noncomputable def fC2:Code:=AH (AH (xf (xf (fY f150))))
noncomputable def fC3:Code:=AH (xf (xf (xf (fY f150))))
theorem aR7:(f150).body=some (.seq fC0 (.seq fC1 (.seq (.seq fC2 (.block 0 (.loop (aJ (ah f150 0))))) (.seq fC3 .ret)))):=k_
theorem XL{cells:ak}(cR:∀ v∈cells,flat v=true)(r:List (Nat×Nat)):∀ p∈fM ps vs cells,Jb r p.2:=λp hp=>by
 simp only[fM,cC,j6,j7]at hp;rcases hp with rfl|rfl|rfl
 ·exact λv hv=>bB.1 (dC ps) v hv
 ·exact λv hv=>bB.1 (ee vs) v hv
 ·exact cR
def Rn(B:aa)(ps:c_)(vs:e_)(i:Nat)(a:Act)(w:h_):Prop:=
 ∃ ks cells,A5 B ((dE ps vs i).map fB) ks cells/\St (B.iu ks) 59 (fI ps.length vs.length i (dE ps vs i).length) (fM ps vs cells) 3 a w
theorem aFt{cells:ak}{fs:List (Nat×List Nat)}{next:Nat}{M:aL}{a:Act}{w:h_}(h:A5 B (fs.map fB) ks cells)(hs:St (B.iu ks) N fr M next a w):cells.length=fs.length*2/\∀ v∈cells,v.oneCell'=true:=by obtain⟨ι,cc,_,h2,_,_⟩:=hs;have:=h.cells w h2.base.2;exact⟨by rw[this.length,eH],this.one⟩
theorem aR8{m q i:Nat}(rM:∀ k,B.mp k=none)(hi:i<ps.length)(ck:∀ p∈ps,bO m p/\p.n≠0)(aZ:∀ v∈vs,aI q v)(hm:100*(m+q)+1000<=aD)(h63:ps.length<=500)(jt:vs.length<900000){a:Act}{w:h_}(h:Rn B ps vs i a w)
  (K:Act->World->Prop) (Q:Exit->Act->World->Prop) (hK:∀ a' w',Rn B ps vs (i+1) a' w'->K a' w'):(aJ (ah f150 0)).wpIn (FW none) 0 prog (Exit.then K Q) a w:=by
 obtain⟨ks,cells,hF,hS⟩:=h;have jr:ps[i]?=some ps[i]:=bo hi;have mg:ga ps vs i=qk ps vs i ps[i]:=by unfold ga;rw[jr]
 obtain⟨iG,E6⟩:=aFt hF hS;have MQ:(dE ps vs i).length<=500:=by have:=Jy ps vs i;omega
 have stay:ga ps vs i=[]->∀ next a' w',St (B.iu ks) 59 (fI ps.length vs.length (i+1) (dE ps vs i).length) (fM ps vs cells) next a' w'->K a' w':=by
  intro he next a' w' h';have e:dE ps vs (i+1)=dE ps vs i:=by rw[MO,he,jL]
  refine hK a' w' ⟨ks,cells,by rw[e];exact hF,?_⟩;rw[e];exact h'.Mi rM [(0,0),(1,1),(2,2)] k_ rfl (XL hF.flat _) k_ k_ k_ k_ k_
 by_cases su:lf ps i ps[i]=true
 ·have he:ga ps vs i=[]:=by rw[mg];unfold qk;rw[aB (show(ps.take i).any (λq=>decide (canon ps[i]=canon q))=true from su)]
  exact qU (aR3 hi jr ck o_ h63 su) hS λa' w' h'=>stay he _ a' w' h'
 ·have Jz:lf ps i ps[i]=false:=by simpa using su
  by_cases ho:(bY ps[i] vs vs.length).length<3
  ·have he:ga ps vs i=[]:=by rw[mg];unfold qk;rw[av (show ¬(ps.take i).any (λq=>decide (canon ps[i]=canon q))=true from su),aB ho]
   exact qU (aR4 hi jr ck aZ hm h63 jt Jz ho) hS λa' w' h'=>stay he _ a' w' h'
  ·by_cases hl:(order ps[i].n (aA vs) (bY ps[i] vs vs.length)).length>2
   ·have he:ga ps vs i=[(i,order ps[i].n (aA vs) (bY ps[i] vs vs.length))]:=by rw[mg];unfold qk;rw[av (show ¬(ps.take i).any (λq=>decide (canon ps[i]=canon q))=true from su),av ho,aB hl]
    refine qU (aR6 hi jr ck aZ hm h63 jt Jz ho hl iG MQ E6) hS λa' w' h'=>?_;show K a' w';obtain⟨u,hu,vH,h2⟩:=h'.QH (m:=5) (k:=7) rfl (iK _) rfl d_;have e:dE ps vs (i+1)=dE ps vs i++[(i,order ps[i].n (aA vs) (bY ps[i] vs vs.length))]:=by rw[MO,he]
    have wR:=hF.snoc (i:=i) (l:=order ps[i].n (aA vs) (bY ps[i] vs vs.length)) hu vH;refine hK a' w' ⟨_,cells++[vI i,u],by rw[e,vf];exact wR,?_⟩;rw[e,lh];have cR:=wR.flat;generalize cells++[vI i,u]=cells' at *;exact h2.Mi rM [(0,0),(1,1),(2,7)] k_ rfl (XL cR _) k_ k_ k_ k_ k_
   ·have he:ga ps vs i=[]:=by rw[mg];unfold qk;rw[av (show ¬(ps.take i).any (λq=>decide (canon ps[i]=canon q))=true from su),av ho,av hl]
    exact qU (aR5 hi jr ck aZ hm h63 jt Jz ho hl) hS λa' w' h'=>stay he _ a' w' h'
theorem aR9{m q:Nat}(ck:∀ p∈ps,bO m p/\p.n≠0)(aZ:∀ v∈vs,aI q v)(hm:100*(m+q)+1000<=aD)(h63:ps.length<=500)(jt:vs.length<900000):
  aDN prog 150 [fZ ps,vR vs] (jE ((dE ps vs ps.length).map fB)):=by
 intro w args cz;have aC:([fZ ps,vR vs].all aR.ok)=true:=by simp only[dL,eX,XE,aFc,AA]
 obtain⟨ι,c,h1,h2,h3,h4,h5,h6,h7⟩:=wS cz (bB.1 aC) 0 _ _ (rG w) n_ (λ_ _=>rfl);have rM:∀ k,(aa.at w).mp k=none:=λ_=>rfl;refine aDI (N:=59) (B:=(aa.at w).iu []) func150 aR7 k_ h6 (aDB h2) h4 h3 rfl λa bP=>?_;have g0:∀ B:aa,ai prog B 59 fC0 (jh 0 (eC 0 [fZ ps,vR vs])) (ja 0 [fZ ps,vR vs]) 2 ⟨.normal,[(0,sl 0 ps.length),(1,sl 1 vs.length)],[(0,.view (bt ps)),(1,.view (aV vs))],2⟩:=λB=>aE [];have g1:∀ B:aa,ai prog B 59 fC1 [(0,sl 0 ps.length),(1,sl 1 vs.length)] [(0,.view (bt ps)),(1,.view (aV vs))] 2 ⟨.normal,[(5,.slice none 0 0),(0,sl 0 ps.length),(1,sl 1 vs.length)],[(0,.view (bt ps)),(1,.view (aV vs))],2⟩:=λB=>aE []
 have g2:∀ B:aa,ai prog B 59 fC2 [(5,.slice none 0 0),(0,sl 0 ps.length),(1,sl 1 vs.length)] [(0,.view (bt ps)),(1,.view (aV vs))] 2
   ⟨.normal,[(14,vI 0),(12,sl 0 ps.length),(13,vI ps.length),(0,sl 0 ps.length),(1,sl 1 vs.length),(5,.slice none 0 0)],[(0,.view (bt ps)),(1,.view (aV vs))],2⟩:=λB=>aE []
 refine mR (qU (g0 _) bP λa1 w1 s1=>?_);refine mR (qU (g1 _) s1 λa2 w2 s2=>?_);refine mR (mR (qU (g2 _) s2 λa3 w3 s3=>?_));refine Kn ?_;have i0:Rn (aa.at w) ps vs 0 a3 w3:=⟨[],[],.nil,(s3.nil 5 rfl 51 2).Mi rM [(0,0),(1,1),(2,2)] k_ rfl (XL n_ _) k_ k_ k_ k_ k_⟩;refine aDG ps.length (Rn (aa.at w) ps vs) i0 (λi hi a' w' h' K hK=>aR8 rM hi ck aZ hm h63 jt h' K _ hK) λa' w' h'=>?_;obtain⟨ks,cells,hF,hS⟩:=h';refine qU (r:=⟨.exit 0,[(5,sl 2 (dE ps vs ps.length).length)],[(2,.row cells 51 2)],3⟩) (aE [.lt 15 ps.length ps.length false s_]) hS λa4 w4 s4=>?_;show Code.wpIn _ _ _ _ _ _ _;refine mR (qU (r:=⟨.normal,[(4,sl 2 (dE ps vs ps.length).length)],[(2,.row cells 51 2)],3⟩) (aE []) s4 λa5 w5 s5=>?_);refine wpIn_ret ?_;refine(aDJ s5 rfl (v:=sl 2 (dE ps vs ps.length).length) k_ λaz cr v' bE CX hc=>⟨v',rfl,?_,?_,bE.base.1⟩).1
 ·rw[show(dE ps vs ps.length).length=((dE ps vs ps.length).map fB).length by rw[eH]]at hc;exact(hF.out bE (CX 2 _ rfl) hc).1
 ·rw[show(dE ps vs ps.length).length=((dE ps vs ps.length).map fB).length by rw[eH]]at hc;intro b hb;have:=(hF.out bE (CX 2 _ rfl) hc).2 b hb;exact PH this
end
section
open V3 (dot af aW smul)
section
variable{Bs:aa}{g:FuncId}{ps:List RP}{b:RP->Bool}
def A6(g:FuncId):Value:=.func (.func g) #[] #[]
def A7(g:FuncId)(n i:Nat):aX:=[(8,vI i),(6,sl 0 n),(7,vI n),(0,sl 0 n),(1,A6 g)]
def uQ(ps:List RP):aL:=[(0,.view (dx ps))]
noncomputable def igS{i:Nat}{p:RP}{b:Bool}(hc:gO prog g=true)(hi:i<ps.length)(hp:ps[i]?=some p)(h:aF prog g [p.v] (.bool b))(more:bM prog Bs 19):bM prog Bs 19:=
 .lt 9 i ps.length true (aH hi)::.dj f181 14 0 ps.length i 40 hi k_::.ld f181 15 54 0 (i*40) (.view (dx ps)) p.v rfl (w7 hp) k_::
  .step 16 (aw f181 16) [A6 g,p.v] [] (.bool b) [] (dR (l:=[.p p.v]) (x:=.tmp 11) (λw vs cz=>by
   cases cz with
   |cons h1 h2=>
    cases h2;cases h1;exact h w) (.p rfl .nil) k_ hc rfl)::more
theorem aSa{i:Nat}{p:RP}(hc:gO prog g=true)(hi:i<ps.length)(hp:ps[i]?=some p)(h:aF prog g [p.v] a_)(h63:ps.length<9223372036854775807):
  ai prog Bs 19 (aJ (ah f181 0)) (A7 g ps.length i) (uQ ps) 1 ⟨.normal,A7 g ps.length (i+1),uQ ps,1⟩:=
 aE (igS hc hi hp h [.sum 18 i 1 (i+1) rfl o_])
theorem aSb{i:Nat}{p:RP}(hc:gO prog g=true)(hi:i<ps.length)(hp:ps[i]?=some p)(h:aF prog g [p.v] b_):
  ai prog Bs 19 (aJ (ah f181 0)) (A7 g ps.length i) (uQ ps) 1 ⟨.ret,[(4,vI i)],uQ ps,1⟩:=
 aE (igS hc hi hp h [])
theorem aSc:ai prog Bs 19 (aJ (ah f181 0)) (A7 g ps.length ps.length) (uQ ps) 1 ⟨.exit 0,[],uQ ps,1⟩:=
 aE [.lt 9 ps.length ps.length false s_]
theorem aFu(ps:List RP):(aR.r ps.length (dx ps)).ok=true:=iT jP ps
theorem aFv(g:FuncId):(aR.p (A6 g)).ok=true:=rfl
theorem aSd{ps:List RP}(h:ps.length=0):dx ps=[]:=by rw[mf h];rfl
theorem aSe(hc:gO prog g=true)(h63:ps.length<9223372036854775807)(h:∀ p∈ps,aF prog g [p.v] (.bool (b p))):cE prog 181 [.r ps.length (dx ps),.p (A6 g)] (.int .i64 (yy b ps 0)):=by
 have aC:([aR.r ps.length (dx ps),.p (A6 g)].all aR.ok)=true:=by simp only[dL,eX,aFu,aFv,AA]
 have uE:∀(B:aa) e,e<=ps.length->(∀ j y,j<e->ps[j]?=some y->b y=false)->∀ i,i<e->ai prog B 19 (aJ (ah f181 0)) (A7 g ps.length i) (uQ ps) 1 ⟨.normal,A7 g ps.length (i+1),uQ ps,1⟩:=λB e he hb i hi=>by
  have al:i<ps.length:=by omega
  have hp:ps[i]?=some ps[i]:=bo al;have hh:=h ps[i] (dB al);rw[hb i ps[i] hi hp]at hh;exact aSa hc al hp hh h63
 rcases Gz b ps with hn|⟨e,x,h1,h2,h3⟩
 ·rw[Qg 0 hn];have lo:∀ B:aa,ai prog B 19 (.block 0 (ah f181 0)) (A7 g ps.length 0) (uQ ps) 1 ⟨.normal,[],uQ ps,1⟩:=λB=>
   cd (id:=0) (cA ps.length (λi=>A7 g ps.length i) (λ_=>uQ ps) (λi k _=>Iff.rfl) (uE B ps.length (bC _) λj y _ hy=>hn y (cL hy)) aSc n_)
  exact dV func181 aC 19 (λw=>[.code 0 _ _ _ _ _ (lo _)])
 ·have al:=(eA.1 h1).1;have hh:=h x (cL h1);rw[h2]at hh;rw[Qh 0 h1 h2 h3,kA];have lo:∀ B:aa,ai prog B 19 (.block 0 (ah f181 0)) (A7 g ps.length 0) (uQ ps) 1 ⟨.ret,[(4,vI e)],uQ ps,1⟩:=λB=>
   cd (id:=0) (cA e (λi=>A7 g ps.length i) (λ_=>uQ ps) (λi k _=>Iff.rfl) (uE B e o_ h3) (aSb hc al h1 hh) n_)
  exact dV func181 aC 19 (λw=>[.code 0 _ _ _ _ _ (lo _)])
theorem aSf(hc:gO prog g=true)(h63:ps.length<9223372036854775807)(h:∀ p∈ps,aF prog g [p.v] (.bool (b p))):cE prog 143 [.r ps.length (dx ps),.p (A6 g)] (.bool (ps.any b)):=by
 have aC:([aR.r ps.length (dx ps),.p (A6 g)].all aR.ok)=true:=by simp only[dL,eX,aFu,aFv,AA]
 rw[<-aC7];exact dV func143 aC 9 (λw=>[.step 7 (aw f143 7) [.func (.func 181) #[] #[],sl 0 ps.length,A6 g] [(0,some (.view (dx ps)))] (.int .i64 (yy b ps 0)) []
  (dR (aSe hc h63 h) (.w (x:=.view (dx ps)) rfl (iT jP ps) aSd (.p rfl .nil)) (x:=.func 181) k_ k_ rfl)])
end
theorem aSg{r:RP}{b:Bool}(h:aF prog 145 [r.v] (.bool b)):aF prog 144 [r.v] (.bool (!b)):=aN func144 (λ_=>[h.at 4])
section
variable{F:Type}[OF F]
open OF
def MR(s:fk F)(a b:F):fk F:=
 if OF.aG a=0 then s
 else if OF.aG a>0 then(match s.hi with|some h=>if OF.aG (b*a⁻¹-h)<0 then⟨s.lo,some (b*a⁻¹)⟩else s|none=>⟨s.lo,some (b*a⁻¹)⟩)
 else(match s.lo with|some l=>if OF.aG (b*a⁻¹-l)>0 then⟨some (b*a⁻¹),s.hi⟩else s|none=>⟨some (b*a⁻¹),s.hi⟩)
def Ro(s:fk F):Bool:=match s.lo,s.hi with
 |some l,some h=>decide (OF.aG (l-h)<0)
 |_,_=>true
def Rp(s:fk F)(a b:F):Bool:=if OF.aG a=0 then decide (OF.aG b>=0)else Ro (MR s a b)
theorem aFw{x:F}:OF.aG x>0↔OF.aG x=1:=by rcases OF.iY x with h|h|h<;>rw[h]<;>decide
theorem aFx{x:F}:OF.aG x<0↔OF.aG x=-1:=by rcases OF.iY x with h|h|h<;>rw[h]<;>decide
theorem aSh{x:F}:OF.aG x>=0↔OF.aG x≠-1:=by rcases OF.iY x with h|h|h<;>rw[h]<;>decide
theorem Rq{x y:F}:OF.aG (x-y)<0↔x<y:=by rw[aFx,OF.F0,OF.lt_def];omega
theorem aFy{x y:F}:OF.aG (x-y)>0↔y<x:=by rw[aFw,OF.lt_def]
theorem Rr{x:F}:OF.aG x>0↔0<x:=by rw[aFw,OF.gk]
theorem Rt{x:F}:OF.aG x>=0↔0<=x:=by rw[aSh,OF.Lb]
theorem aSi(s:fk F)(a b:F):CB s a b=if Rp s a b then some (MR s a b)else none:=by
 unfold CB Rp MR;by_cases ha:OF.aG a=0
 ·rw[aB ha,aB ha,aB ha];by_cases hb:0<=b
  ·rw[aB hb,aH (Rt.2 hb)];rfl
  ·rw[av hb,aP (λh=>hb (Rt.1 h))];rfl
 ·rw[av ha,av ha,av ha];obtain⟨lo,hi⟩:=s;dsimp only;generalize b*a⁻¹=t;have fin:∀ s':fk F,(match s'.lo,s'.hi with|some l,some h=>if l<h then some s' else none|_,_=>some s')=if Ro s'=true then some s' else none:=by
   rintro⟨l,h⟩
   unfold Ro;cases l with
   |none=>rfl
   |some l=>
    cases h with
    |none=>rfl
    |some h=>
     dsimp only;by_cases al:l<h
     ·exact(aB al).trans (aB (aH (Rq.2 al))).symm
     ·exact(av al).trans (av (λh=>al (Rq.1 (kX h)))).symm
  by_cases hp:0<a
  ·rw[aB hp,aB (Rr.2 hp)];cases hi with
   |none=>exact fin ⟨lo,some t⟩
   |some h=>
    dsimp only;by_cases al:t<h
    ·simp only[aB al,aB (Rq.2 al)];exact fin ⟨lo,some t⟩
    ·simp only[av al,av (λe=>al (Rq.1 e))];exact fin ⟨lo,some h⟩
  ·rw[av hp,av (λe=>hp (Rr.1 e))];cases lo with
   |none=>exact fin ⟨some t,hi⟩
   |some l=>
    dsimp only;by_cases al:l<t
    ·simp only[aB al,aB (aFy.2 al)];exact fin ⟨some t,hi⟩
    ·simp only[av al,av (λe=>al (aFy.1 e))];exact fin ⟨some l,hi⟩
end
theorem aSj(s:fk K)(a b:K):CB s a b=if tD s a b then some (rW s a b)else none:=by
 have h1:∀ s:fk K,aDb s=Ro s:=λs=>by obtain⟨lo,hi⟩:=s;cases lo<;>cases hi<;>rfl
 have h2:rW s a b=MR s a b:=by unfold rW MR;obtain⟨lo,hi⟩:=s;cases lo<;>cases hi<;>rfl
 have h3:tD s a b=Rp s a b:=by unfold tD Rp;rw[h2,h1]
 rw[h2,h3];exact aSi s a b
theorem aFz(b d:V3 K):∀(l:c_) (s:fk K),Gv s (l.map λp=>(dot p.n d,p.d-dot p.n b))=if xb s b d l then some (o8 s b d l)else none
 |[],s=>rfl
 |p::l,s=>by
  show(CB s (dot p.n d) (p.d-dot p.n b)).bind _=_;rw[aSj];unfold xb o8;by_cases h:tD s (dot p.n d) (p.d-dot p.n b)=true
  ·rw[aB h,h,kF];exact aFz b d l _
  ·rw[av h];have:tD s (dot p.n d) (p.d-dot p.n b)=false:=by simpa using h
   rw[this,zL];rfl
theorem aFA(p q:HS K):xa p q=nh p q:=by unfold xa nh eE;rw[show kI 1*(dot (af p.n q.n) (af p.n q.n))⁻¹=(dot (af p.n q.n) (af p.n q.n))⁻¹ from CR.one_mul _]
theorem aFB(p q:HS K):eE p q≠0->dot (eE p q) (eE p q)≠0:=λh=>V3.Ap h
theorem aSk(ps:c_)(p q:HS K):GB ps p q=Ax ps p q:=by
 unfold GB Ax;have hd:eE p q=af p.n q.n:=rfl;rw[aFA];dsimp only;by_cases h0:eE p q=0
 ·rw[aB h0,aB ((P0 (af p.n q.n)).2 h0)]
 ·rw[av h0,av (λh=>h0 ((P0 (af p.n q.n)).1 h))];rw[aFz];unfold L8;rw[aFA,hd];by_cases hs:xb ⟨none,none⟩ (nh p q) (af p.n q.n) ps=true
  ·rw[aB hs,aB hs];generalize o8 ⟨none,none⟩ (nh p q) (af p.n q.n) ps=s;obtain⟨lo,hi⟩:=s;cases lo<;>cases hi<;>rfl
  ·rw[av hs,av hs]
theorem XM{ps:c_}{p q:HS K}{v:V3 K}:v∈rY ps p q↔∃ u w,Ax ps p q=some (u,w)/\(v=u\/v=w):=by
 unfold rY;rw[aSk];cases h:Ax ps p q with
 |none=>simp
 |some uw=>
  obtain⟨u,w⟩:=uw;simp only[cC,j6,j7];exact⟨λhv=>⟨u,w,rfl,hv⟩,λ⟨u',w',e,hv⟩=>by injection e with e;injection e with e1 e2;subst e1;subst e2;exact hv⟩
theorem aSl{ps:c_}{v:V3 K}:v∈nR ps ps.length↔∃(i j:Nat) (p q:HS K),j<i/\ps[i]?=some p/\ps[j]?=some q/\v∈rY ps p q:=by
 unfold nR;rw[w6];constructor
 ·rintro⟨i,hi,hv⟩
  have al:=jT.1 hi;have hp:ps[i]?=some ps[i]:=bo al;rw[Qt hp]at hv;unfold lY at hv;obtain⟨q,hq,hv⟩:=w6.1 hv;obtain⟨j,hj,rfl⟩:=k8 hq;rw[jH]at hj;refine⟨i,j,_,_,by omega,hp,?_,hv⟩;rw[Ru];exact bo o_
 ·rintro⟨i,j,p,q,oT,hp,hq,hv⟩
  have al:=(eA.1 hp).1;refine⟨i,jT.2 al,?_⟩;rw[Qt hp];refine w6.2 ⟨q,?_,hv⟩;exact cL (i:=j) (by rw[u4,aB oT];exact hq)
theorem aSm{ps:c_}(hc:Cl ps)(hp:fH ps)(hf:∀ v:V3 K,∃ x,dZ ps x/\x≠v)(v:V3 K):v∈nR ps ps.length↔j5 ps v:=by
 rw[aSl];constructor
 ·rintro⟨i,j,p,q,_,h1,h2,hv⟩
  obtain⟨u,w,he,hv⟩:=XM.1 hv;have:=aMv (cL h1) (cL h2) he;rcases hv with rfl|rfl
  ·exact this.1
  ·exact this.2
 ·intro hv;obtain⟨x,hx,aQ⟩:=hf v;obtain⟨p,gQ,q,vB,hd,h1,h2⟩:=aMx hc hp hv hx aQ;obtain⟨i,hi,rfl⟩:=k8 gQ;obtain⟨j,hj,rfl⟩:=k8 vB;rcases tR i j with h|h|h
  ·exact⟨j,i,_,_,h,bo hj,bo hi,XM.2 h2⟩
  ·subst h;exfalso;apply hd;exact V3.LC _
  ·exact⟨i,j,_,_,h,bo hi,bo hj,XM.2 h1⟩
def xj:Value:=.agg #[.slice none 0 0,.slice none 0 0,.slice none 0 0]
def hZ(n:Int):Value:=.int .i64 n
def lI(ps:c_):f_:=(dE ps (cQ ps) ps.length).map fB
structure A8(ps:c_)(m:Nat):Prop where
 len:ps.length<=20
 sz:∀ p∈ps,bO m p
 ne:∀ p∈ps,p.n≠0
 bound:1000000000*(m+10)<=aD
theorem MS(ps:c_)(h:ps.length<=20):(cQ ps).length<=800:=by
 have h1:(cQ ps).length<=(nR ps ps.length).length:=by
  unfold cQ;rw[<-aE6];have:∀ l:e_,(dd l).length<=l.length:=λl=>by have:=(Rf l l.length).2;unfold js at this;rwa[o5]at this
  exact dq (this _) (u5 (MK _).length_eq)
 have h2:=Qu ps.length (bC _) (ps:=ps);have h3:ps.length*(2*ps.length)<=20*40:=qG h o_;omega
theorem Rv{ps:c_}{m:Nat}(ck:∀ p∈ps,bO m p):∀ v∈cQ ps,aI (10000*(m+10)) v:=λv hv=>by unfold cQ at hv;rw[VP]at hv;exact aE7 ck aFB ps.length v hv
theorem Ha{m n:Nat}(hm:1000000000*(m+10)<=aD)(hn:n<=800):100*(m+n*(10000*(m+10)+1))+10000<=aD/\10000000*(m+10)<=aD/\100*(m+10000*(m+10))+1000<=aD/\m<=aD/\100*m+1000<=aD:=by
 have h0:m<=1089:=by
  rcases e7 m 1090 with h|h
  ·exact Nat.le_of_lt_succ h
  ·have h2:1000000000*(1090+10)<=1000000000*(m+10):=jK _ (Hb h 10);exact absurd (dq h2 hm) d_
 clear hm;have q:10000*(m+10)+1<=10990001:=by omega
 obtain⟨x,hx⟩:∃ x,x=n*(10000*(m+10)+1):=⟨_,rfl⟩;have h1:x<=8792000800:=by rw[hx];exact qG hn q
 rw[<-hx];clear hx;have h2:100*(m+x)+10000<=100*(1089+8792000800)+10000:=Hb (jK _ (Ln h0 h1)) _;have h6:m+10<=1099:=Hb h0 10;have h3:10000000*(m+10)<=10000000*1099:=jK _ h6;have h4:100*(m+10000*(m+10))+1000<=100*(1089+10000*1099)+1000:=Hb (jK _ (Ln h0 (jK _ h6))) _;have h5:100*m+1000<=100*1089+1000:=Hb (jK _ h0) _;exact⟨dq h2 (sF rfl),dq h3 (sF rfl),dq h4 (sF rfl),dq h0 (sF rfl),dq h5 (sF rfl)⟩
theorem aFC{it:TypeInfo}{z:i_}(h1:prog.info? 26=some it)(h2:it.zero=some z):∀ v∈z.cells.toList,flat v=true:=by have e:(prog.info? 26).bind (·.zero)=some xj:=k_;rw[h1]at e;have e:it.zero=some xj:=e;rw[h2]at e;injection e with e;subst e;intro v hv;have hv:v∈[.slice none 0 0,.slice none 0 0,.slice none 0 0]:=hv;simp at hv;subst hv;rfl
section
variable{ps:c_}{m:Nat}
theorem aSn(h:A8 ps m):cE prog 143 [fZ ps,.p (A6 144)] a_:=by
 obtain⟨_,_,_,b4,_⟩:=Ha (n:=0) h.bound o_;have hc:=aSf (g:=144) (ps:=ps.map c9) (b:=λ_=>false) k_ (by rw[eH];have:=h.len;omega) (λr hr=>by obtain⟨p,hp,rfl⟩:=db.1 hr;have hv:=CF (h.sz p hp) b4;rw[aH (h.ne p hp)]at hv;exact aSg hv)
 rw[eH,show(ps.map c9).any (λ_=>false)=false by simp]at hc;exact hc
theorem ET(ps:c_):([fZ ps].all aR.ok)=true:=by simp only[dL,eX,XE,AA]
noncomputable def XN(h:A8 ps m)(ht:uG ps=t)(more:bM prog Bs 33):bM prog Bs 33:=
 .step 7 (aw f89 7) [.func (.func 143) #[] #[],sl 0 ps.length,A6 144] [(0,some (.view (bt ps)))] a_ []
  (dR (aSn h) (.w (x:=.view (bt ps)) rfl (dC ps) jD (.p rfl .nil)) (x:=.func 143) k_ k_ rfl)::
 .gt 12 ps.length 100 false (aP (by have:=h.len;omega))::
 .step 16 (aw f89 16) [.func (.func 146) #[] #[],sl 0 ps.length] [(0,some (.view (bt ps)))] (.bool t) []
  (dR (ht▸aNb h.sz (Ha (n:=0) h.bound o_).2.2.2.2 (by have:=h.len;omega)) (.w (x:=.view (bt ps)) rfl (dC ps) jD .nil) (x:=.func 146) k_ k_ rfl)::more
noncomputable def aFD(h:A8 ps m)(ht:yz ps (cQ ps)=t)(more:bM prog Bs 33):bM prog Bs 33:=
 .step 20 (aw f89 20) [.func (.func 147) #[] #[],sl 0 ps.length] [(2,none),(0,some (.view (bt ps)))] (sl 2 (cQ ps).length) [(2,.row (aV (cQ ps)) 44 30)]
  (rR (aRF h.sz (Ha (n:=0) h.bound o_).2.1 (by have:=h.len;omega) aFB) (.w (x:=.view (bt ps)) rfl (dC ps) jD .nil) (x:=.func 147) k_ k_ (ee _) 2)::
 .step 23 (aw f89 23) [.func (.func 148) #[] #[],sl 0 ps.length,sl 2 (cQ ps).length] [(0,some (.view (bt ps))),(2,some (.row (aV (cQ ps)) 44 30))] (.bool t) []
  (dR (ht▸aNu (λp hp=>⟨h.sz p hp,h.ne p hp⟩) (Rv h.sz) (Ha h.bound (MS ps h.len)).1 (by have:=MS ps h.len;omega) (by have:=h.len;omega))
   (.w (x:=.view (bt ps)) rfl (dC ps) jD (.w (x:=.row (aV (cQ ps)) 44 30) rfl (ee _) w9 .nil)) (x:=.func 148) k_ k_ rfl)::more
theorem aSo(h:A8 ps m)(hc:uG ps=false):cE prog 89 [fZ ps] (.tuple #[xj,hZ 13]):=
 dV func89 (ET ps) 33 (λ_=>XN h hc [])
theorem aSp(h:A8 ps m)(hc:uG ps=true)(hi:yz ps (cQ ps)=false):cE prog 89 [fZ ps] (.tuple #[xj,hZ 12]):=
 dV func89 (ET ps) 33 (λ_=>XN h hc (aFD h hi []))
theorem aSq(hc:uG ps=true):0<ps.length:=by
 cases ps with
 |nil=>exact absurd hc d_
 |cons p l=>simp
theorem aSr(h:A8 ps m)(hc:uG ps=true)(hi:yz ps (cQ ps)=true):
  CL prog 89 [fZ ps] 54 40 ps.length (bt ps) 44 30 (cQ ps).length (aV (cQ ps)) (jE (lI ps)) [hZ 0]:=by
 have hf:=aR9 (ps:=ps) (vs:=cQ ps) (λp hp=>⟨h.sz p hp,h.ne p hp⟩) (Rv h.sz) (Ha (n:=0) h.bound o_).2.2.1 (by have:=h.len;omega) (by have:=MS ps h.len;omega);have iG:=aRI (aSq hc) (by have:=h.len;omega);refine Wo (k1:=3) (k2:=2) (k3:=4) mixed func89 (ET ps) 100 (N:=33) k_ (λw=>XN h hc (aFD h hi [
  .step 27 (aw f89 27) [.func (.func 149) #[] #[],sl 0 ps.length] [(3,none),(0,some (.view (bt ps)))] (sl 3 ps.length) [(3,.row (bt ps) 54 40)]
   (rR iG (.w (x:=.view (bt ps)) rfl (dC ps) jD .nil) (x:=.func 149) k_ k_ (dC ps) 3),
  .step 31 (aw f89 31) [.func (.func 150) #[] #[],sl 0 ps.length,sl 2 (cQ ps).length] [(4,none),(0,some (.view (bt ps))),(2,some (.row (aV (cQ ps)) 44 30))] (.pointer (some ⟨4,0,some 9⟩)) [(4,.fact ((jE (lI ps)).nq w.heap.size))]
   (aOa (B:=aa.at w) (S:=w.heap.size) hf (.w (x:=.view (bt ps)) rfl (dC ps) jD (.w (x:=.row (aV (cQ ps)) 44 30) rfl (ee _) w9 .nil)) (x:=.func 150) k_ k_ rfl (λw' hb=>Below.size hb) 4),
  .step 32 (aw f89 32) [sl 3 ps.length,sl 2 (cQ ps).length,.pointer (some ⟨4,0,some 9⟩)] [] (.agg #[sl 3 ps.length,sl 2 (cQ ps).length,.pointer (some ⟨4,0,some 9⟩)]) [] (Qx (t:=26) (idx:=[0,1,2]) k_ (λit z h1 h2=>aFC h1 h2) k_)])) (λw=>?_) d_ (dC ps) (EP ps) (ee _) (rZ _) k_
 kernel_rfl
end
theorem MT{v:i_}{w:h_}(gW:P.follows .mixedOrders=true)(hf:P.funcs[f]?=some fn)(n:Nat)(hN:N=args.length+(fn.ntmps-args.length))(rs:bM P (aa.at w) N)
  (h:oq (gv (P:=P) fn n args [] 0 rs) []=ou (gv fn n args [] 0 rs) v []) (du:args.all flat=true) (hv:flat v=true):Calls P f args.toArray w λe w'=>e=.returned v/\Below w.heap.size w w':=
 sO gW hf hN n h (kO λv hv=>bB.1 du v hv) (rG w) n_ (λ_ _=>rfl) λaz cr v' w' _ hc hm _=>⟨by rw[hc.eZ hv],hm.base⟩
theorem XO{l:List aR}{vs:ak}{v:i_}{w:h_}(gW:P.follows .mixedOrders=true)(hf:P.funcs[f]?=some fn)(cz:uA w l vs)(hl:(l.all aR.ok)=true)(n:Nat)(hN:N=(eC 0 l).length+(fn.ntmps-(eC 0 l).length))(rs:bM P (aa.at w) N)
  (h:oq (gv (P:=P) fn n (eC 0 l) (ja 0 l) (jo 0 l) rs) []=ou (gv fn n (eC 0 l) (ja 0 l) (jo 0 l) rs) v []) (hv:flat v=true):Calls P f vs.toArray w λe w'=>e=.returned v/\Below w.heap.size w w':=by
 obtain⟨ι,c,h1,h2,h3,h4,h5,h6,h7⟩:=wS cz (bB.1 hl) 0 _ _ (rG w) n_ (λ_ _=>rfl);exact sO gW hf hN n h h6 h2 h4 h3 λaz cr v' w' hle hc hm _=>⟨by rw[hc.eZ hv],hm.base⟩
theorem aSs{w:h_}{u:i_}{i j:Int}{l l':List Int}(hu:mJ u=true)(ki:mJ u'=true)(h:cW w u l.length (eK l))(h':cW w u' l'.length (eK l'))(h63:l.length<9223372036854775807):
  Calls prog 90 #[.agg #[iV i,u],.agg #[iV j,u']] w λe w'=>e=.returned (.bool (decide ((i,l)=(j,l'))))/\Below w.heap.size w w':=by
 have fl:∀{i:Int} {u:i_},mJ u=true->flat (.agg #[iV i,u])=true:=λ{i u} hu=>by have h0:oL u=true:=Nt hu;show([iV i,u].all oL)=true;rw[dL,dL,h0];rfl
 have fu:∀{u:i_},mJ u=true->flat u=true:=λhu=>Ns (Nt hu);have aW3:∀{u:i_} {n:Nat} {xs:ak},cW w u n xs->mK u=false:=λh=>by rcases h with ⟨e,_⟩|⟨_,_,_,e,_⟩<;>rw[e]<;>rfl
 have du:([.agg #[iV i,u],.agg #[iV j,u']].all flat)=true:=by rw[dL,dL,fl hu,fl ki];rfl
 have he:=aNJ (a:=l) (b:=l') h63;by_cases kP:i=j
 ·subst kP;have e0:(Value.bool (i==i))=.bool true:=by simp
  have e1:decide ((i,l)=(i,l'))=decide (l=l'):=by simp
  rw[e1];generalize decide (l=l')=t at *;rcases h with ⟨rfl,hn,hx⟩|⟨b,o,c,rfl,hr⟩<;>rcases h' with ⟨rfl,mP,sZ⟩|⟨b',o',c',rfl,ph⟩
  ·exact MT mixed func90 100 (N:=17) k_ [.rw 9 _ _ e0,.step 15 (aw f90 15) [.func (.func 91) #[] #[],.slice none 0 0,.slice none 0 0] [] (.bool t) [] (dR he (.e rfl (λ_ _=>.inl ⟨rfl,hn,hx⟩) (.e rfl (λ_ _=>.inl ⟨rfl,mP,sZ⟩) .nil)) (x:=.func 91) k_ k_ rfl)] k_ du rfl
  ·exact MT mixed func90 100 (N:=17) k_ [.rw 9 _ _ e0,.step 15 (aw f90 15) [.func (.func 91) #[] #[],.slice none 0 0,.slice (some ⟨b',o',none⟩) l'.length c'] [] (.bool t) []
    (dR he (.e rfl (λ_ _=>.inl ⟨rfl,hn,hx⟩) (.e rfl (λ_ hb=>cW.iu (.inr ⟨b',o',c',rfl,ph⟩) hb) .nil)) (x:=.func 91) k_ k_ rfl)] k_ du rfl
  ·exact MT mixed func90 100 (N:=17) k_ [.rw 9 _ _ e0,.step 15 (aw f90 15) [.func (.func 91) #[] #[],.slice (some ⟨b,o,none⟩) l.length c,.slice none 0 0] [] (.bool t) []
    (dR he (.e rfl (λ_ hb=>cW.iu (.inr ⟨b,o,c,rfl,hr⟩) hb) (.e rfl (λ_ _=>.inl ⟨rfl,mP,sZ⟩) .nil)) (x:=.func 91) k_ k_ rfl)] k_ du rfl
  ·exact MT mixed func90 100 (N:=17) k_ [.rw 9 _ _ e0,.step 15 (aw f90 15) [.func (.func 91) #[] #[],.slice (some ⟨b,o,none⟩) l.length c,.slice (some ⟨b',o',none⟩) l'.length c'] [] (.bool t) []
    (dR he (.e rfl (λ_ hb=>cW.iu (.inr ⟨b,o,c,rfl,hr⟩) hb) (.e rfl (λ_ hb=>cW.iu (.inr ⟨b',o',c',rfl,ph⟩) hb) .nil)) (x:=.func 91) k_ k_ rfl)] k_ du rfl
 ·have e0:(Value.bool (i==j))=.bool false:=by simp[kP]
  have e1:decide ((i,l)=(j,l'))=false:=by simp[kP]
  rw[e1];rcases h with ⟨rfl,hn,hx⟩|⟨b,o,c,rfl,hr⟩<;>rcases h' with ⟨rfl,mP,sZ⟩|⟨b',o',c',rfl,ph⟩<;>exact MT mixed func90 100 (N:=17) k_ [.rw 9 _ _ e0] k_ du rfl
theorem Hc{w:h_}:∀{fs:f_} {cs:ak},k7 w fs cs->∀{i:Nat} {f:Int×List Int},fs[i]?=some f->∃ u,cs[i*2]?=some (iV f.1)/\cs[i*2+1]?=some u/\cW w u f.2.length (eK f.2)/\flat u=true
 |_,_,.nil,i,f,h=>by simp at h
 |_,_,.cons (u:=u) h1 h2 h3,0,f,h=>by simp at h;subst h;exact⟨u,rfl,rfl,h1,h2⟩
 |_,_,.cons h1 h2 h3,i+1,f,h=>by
  obtain⟨u,q1,q2,q3,q4⟩:=Hc h3 (i:=i) (by simpa using h);refine⟨u,?_,?_,q3,q4⟩
  ·rw[show(i+1)*2=i*2+2 by omega];exact q1
  ·rw[show(i+1)*2+1=i*2+1+2 by omega];exact q2
theorem aFE{w:h_}{u:i_}{n:Nat}(h:cW w u n xs):mJ u=true:=by rcases h with ⟨e,_⟩|⟨_,_,_,e,_⟩<;>rw[e]<;>rfl
theorem aSt{cs:ak}{m:Nat}{a b:i_}(ha:cs[m]?=some a)(hb:cs[m+1]?=some b):(cs.drop m).take 2=[a,b]/\m+2<=cs.length:=by obtain⟨ry,ha⟩:=eA.1 ha;obtain⟨hl,hb⟩:=eA.1 hb;refine⟨?_,hl⟩;rw[Qd ry,ha,Qd hl,hb];rfl
theorem aFF{cs:ak}{i:Nat}{a b:i_}(ha:cs[i*2]?=some a)(hb:cs[i*2+1]?=some b):dI prog 51 cs (i*2)=some (.agg #[a,b]):=by
 have e:dI prog 51 cs (i*2)=if Nat.ble (i*2+2) cs.length then some (.agg ((cs.drop (i*2)).take 2).toArray)else none:=k_
 obtain⟨h1,h2⟩:=aSt ha hb;rw[e,aB (NM h2),h1]
section
variable{w:h_}{fs fs':f_}{cs bL:ak}
def MU:Value:=.func (.func 90) #[] #[]
def EU(n n' i:Nat):aX:=[(17,vI i),(15,sl 0 n),(16,vI n),(1,sl 1 n'),(2,MU)]
def uR(cs bL:ak):aL:=[(0,.view cs),(1,.view bL)]
theorem aSu(h:k7 w fs cs)(h':k7 w fs' bL):∀ x∈uR cs bL,fV 2 x.2:=λx hx=>by
 simp only[uR,cC,j6,j7]at hx;rcases hx with rfl|rfl
 ·exact λv hv=>iW (h.flat v hv)
 ·exact λv hv=>iW (h'.flat v hv)
noncomputable def efS{i n:Nat}{f:Int×List Int}{u:i_}(hi:i<n)(gu:i<n')(hu:cW w u f.2.length (eK f.2))(ki:cW w u' f'.2.length (eK f'.2))(c1:cs[i*2]?=some (iV f.1))(c2:cs[i*2+1]?=some u)(Ca:bL[i*2]?=some (iV f'.1))(B9:bL[i*2+1]?=some u')(h63:f.2.length<9223372036854775807)
  (ht:decide (f=f')=t) (more:bM prog (aa.at w) 32):bM prog (aa.at w) 32:=
 .lt 18 i n true (aH hi)::.dj f93 20 0 n i 2 hi k_::.ld f93 21 51 0 (i*2) (.view cs) (.agg #[iV f.1,u]) rfl (aFF c1 c2) k_::.dj f93 24 1 n' i 2 gu k_::.ld f93 25 51 1 (i*2) (.view bL) (.agg #[iV f'.1,u']) rfl (aFF Ca B9) k_::
  .call 29 90 [.agg #[iV f.1,u],.agg #[iV f'.1,u']] (.bool t) (λw' hb=>ht▸aSs (aFE hu) (aFE ki) (hu.iu hb) (ki.iu hb) h63)::more
theorem aFG{i n:Nat}{f:Int×List Int}{u:i_}(h:k7 w fs cs)(h':k7 w fs' bL)(hi:i<n)(gu:i<n')(hu:cW w u f.2.length (eK f.2))(ki:cW w u' f'.2.length (eK f'.2))(c1:cs[i*2]?=some (iV f.1))(c2:cs[i*2+1]?=some u)(Ca:bL[i*2]?=some (iV f'.1))(B9:bL[i*2+1]?=some u')
  (h63:f.2.length<9223372036854775807) (aSv:n<9223372036854775807) (ht:f=f'):ai prog (aa.at w) 32 (aJ (ah f93 0)) (EU n n' i) (uR cs bL) 2 ⟨.normal,EU n n' (i+1),uR cs bL,2⟩:=by
 have hl:=aSu h h';have xG:decide (f=f')=true:=aH ht;have k1:=hu;have k2:=ki;rcases k1 with ⟨rfl,_⟩|⟨b,o,c,rfl,_⟩<;>rcases k2 with ⟨rfl,_⟩|⟨b',o',c',rfl,_⟩<;>
  exact vn mixed 100 (gH:=4) (efS hi gu hu ki c1 c2 Ca B9 h63 xG [.sum 31 i 1 (i+1) rfl o_]) k_ rfl k_ hl k_
theorem aSw{i n:Nat}{f:Int×List Int}{u:i_}(hi:i<n)(gu:i<n')(hu:cW w u f.2.length (eK f.2))(ki:cW w u' f'.2.length (eK f'.2))(c1:cs[i*2]?=some (iV f.1))(c2:cs[i*2+1]?=some u)(Ca:bL[i*2]?=some (iV f'.1))(B9:bL[i*2+1]?=some u')
  (h63:f.2.length<9223372036854775807) (ht:f≠f'):ai prog (aa.at w) 32 (aJ (ah f93 0)) (EU n n' i) (uR cs bL) 2 ⟨.ret,[(6,.bool false)],uR cs bL,4⟩:=by
 have xG:decide (f=f')=false:=aP ht;have k1:=hu;have k2:=ki;rcases k1 with ⟨rfl,_⟩|⟨b,o,c,rfl,_⟩<;>rcases k2 with ⟨rfl,_⟩|⟨b',o',c',rfl,_⟩<;>
  exact aE (efS hi gu hu ki c1 c2 Ca B9 h63 xG [])
theorem aSx{n:Nat}:ai prog B 32 (aJ (ah f93 0)) (EU n n' n) (uR cs bL) 2 ⟨.exit 0,[],uR cs bL,2⟩:=
 aE [.lt 18 n n false s_]
theorem aSy(h63:fs.length<9223372036854775807)(sn:∀ f∈fs,f.2.length<9223372036854775807):cE prog 93 [.o (jE fs),.o (jE fs'),.p MU] (.bool (decide (fs=fs'))):=by
 intro w vs cz;cases cz with
 |@cons _ v1 _ _ h1 cz=>
 cases cz with
 |@cons _ v2 _ _ h2 cz=>
 obtain⟨⟨cs,r1,f1⟩,_⟩:=h1;obtain⟨⟨bL,r2,f2⟩,_⟩:=h2;have CT:uA w [.r fs.length cs,.r fs'.length bL,.p MU] (v1::v2::_):=.cons r1 (.cons r2 cz);have aC:([aR.r fs.length cs,.r fs'.length bL,.p MU].all aR.ok)=true:=by rw[dL,dL,dL];rw[show(aR.r fs.length cs).ok=true from bB.2 f1.flat,show(aR.r fs'.length bL).ok=true from bB.2 f2.flat];rfl
 by_cases hl:fs.length=fs'.length
 ·have aQ:(Value.bool (!((fs.length:Int)==(fs'.length:Int))))=.bool false:=by rw[hl];simp
  rcases Ek fs fs' hl with h|⟨e,x,y,q1,q2,q3,q4⟩
  ·rw[aH h];subst h;have lo:ai prog (aa.at w) 32 (.block 0 (ah f93 0)) (EU fs.length fs.length 0) (uR cs bL) 2 ⟨.normal,[],uR cs bL,2⟩:=
    cd (id:=0) (cA fs.length (λi=>EU fs.length fs.length i) (λ_=>uR cs bL) (λi k _=>Iff.rfl) (λi hi=>by have hx:fs[i]?=some fs[i]:=bo hi;obtain⟨u,a1,a2,a3,_⟩:=Hc f1 hx;obtain⟨u',b1,b2,b3,_⟩:=Hc f2 hx;exact aFG f1 f2 hi hi a3 b3 a1 a2 b1 b2 (sn _ (dB hi)) h63 rfl) aSx n_)
   exact XO mixed func93 CT aC 100 (N:=32) k_ [.rw 14 _ _ aQ,.code 0 _ _ _ _ _ lo] k_ rfl
  ·have ch:fs≠fs':=λh=>by subst h;rw[q1]at q2;injection q2 with q2;exact q3 q2
   rw[aP ch];have al:=(eA.1 q1).1;have lo:ai prog (aa.at w) 32 (.block 0 (ah f93 0)) (EU fs.length fs'.length 0) (uR cs bL) 2 ⟨.ret,[(6,.bool false)],uR cs bL,4⟩:=
    cd (id:=0) (cA e (λi=>EU fs.length fs'.length i) (λ_=>uR cs bL) (λi k _=>Iff.rfl) (λi hi=>by
     have hx:fs[i]?=some fs[i]:=bo o_;have hy:fs'[i]?=some fs'[i]:=bo o_;have:=q4 i _ _ hi hx hy;obtain⟨u,a1,a2,a3,_⟩:=Hc f1 hx;obtain⟨u',b1,b2,b3,_⟩:=Hc f2 hy;exact aFG f1 f2 o_ o_ a3 b3 a1 a2 b1 b2 (sn _ (dB _)) h63 this) (by
     obtain⟨u,a1,a2,a3,_⟩:=Hc f1 q1;obtain⟨u',b1,b2,b3,_⟩:=Hc f2 q2;exact aSw al o_ a3 b3 a1 a2 b1 b2 (sn _ (cL q1)) q3) n_)
   exact XO mixed func93 CT aC 100 (N:=32) k_ [.rw 14 _ _ aQ,.code 0 _ _ _ _ _ lo] k_ rfl
 ·have ch:fs≠fs':=λh=>hl (by rw[h]);rw[aP ch];exact XO mixed func93 CT aC 100 (N:=32) k_ [.rw 14 (.bool (!((fs.length:Int)==(fs'.length:Int)))) b_ (by congr 1;simp;omega)] k_ rfl
end
end
theorem aFH{t:TypeId}{s:Nat}(ht:I2 P t=some s){cells:ak}(hl:off+s<=cells.length):dI P t cells off=some (.agg ((cells.drop off).take s).toArray):=by
 unfold I2 at ht;split at ht
 ·rename_i d inf h1 h2;split at ht
  ·rename_i hr;injection ht with ht;unfold dI;rw[h1,h2];dsimp only;rw[aB hr,ht,aB (by rw[Nat.ble_eq];exact hl)]
  ·cases ht
 ·cases ht
theorem aFI{l:List RP}{i:Nat}{p:RP}(h:l[i]?=some p):i*40+40<=(dx l).length:=by rw[uC jP];have al:=(eA.1 h).1;have:=eV 40 al;omega
theorem Rw{l:List RP}{i:Nat}{p:RP}(h:l[i]?=some p):dI prog 44 (dx l) (i*40)=some p.n.v:=by
 rw[aFH (s:=30) k_ (by have:=aFI h;omega)];have e:=Qc jP h;have e2:((dx l).drop (i*40)).take 30=p.n.cs:=by
  have:((dx l).drop (i*40)).take 30=(((dx l).drop (i*40)).take 40).take 30:=by rw[NC];rfl
  rw[this,e];rfl
 rw[e2];rfl
theorem aFJ{l:List RP}{i:Nat}{p:RP}(h:l[i]?=some p):dI prog 34 (dx l) (i*40+30)=some p.d.v:=by
 rw[aFH (s:=10) k_ (by have:=aFI h;omega)];have e:=Qc jP h;have e2:((dx l).drop (i*40+30)).take 10=p.d.cs:=by
  rw[<-Ou];have:(((dx l).drop (i*40)).drop 30).take 10=(((dx l).drop (i*40)).take 40).drop 30:=by rw[List.drop_take]
  rw[this,e];rfl
 rw[e2];rfl
theorem CY(b:α->Bool)(l:List α):l.all b=true\/∃(n:Nat) (x:α),l[n]?=some x/\b x=false/\(∀(i:Nat) (y:α),i<n->l[i]?=some y->b y=true)/\l.all b=false:=by
 induction l with
 |nil=>exact .inl rfl
 |cons x l ih=>
  rcases hb:b x with _|_
  ·exact .inr ⟨0,x,rfl,hb,λi y hi=>by omega,by simp[hb]⟩
  ·rcases ih with h|⟨n,y,h1,h2,h3,h4⟩
   ·exact .inl (by rw[dL,hb,h];rfl)
   ·refine .inr ⟨n+1,y,by simpa using h1,h2,λi z hi hz=>?_,by rw[dL,h4,On]⟩;cases i with
    |zero=>simp at hz;rw[<-hz];exact hb
    |succ i=>exact h3 i z o_ (by simpa using hz)
theorem EV{b:α->Bool}{l:List α}(h:l.all b=true){i:Nat}{x:α}(hx:l[i]?=some x):b x=true:=bB.1 h x (cL hx)
theorem Hd{a:Nat}(h:decide (a<=b)=t):Value.bool (decide ((a:Int)<=(b:Int)))=.bool t:=by rw[<-h];congr 1;rw[sQ];omega
section
variable{Bs:aa}{vs:List RV}{k:Nat}
def He(n k i:Nat):aX:=[(7,vI i),(0,sl 0 n),(2,vI k)]
def yR(vs:List RV):aL:=[(0,.view (cV vs))]
theorem aFK{n i:Nat}{x:RV}(hi:i<n)(hx:vs[i]?=some x)(hb:rf x k=true)(h63:n<9223372036854775807):
  ai prog Bs 25 (aJ (ah f53 0)) (He n k i) (yR vs) 1 ⟨.normal,He n k (i+1),yR vs,1⟩:=by
 have hr:=Xu x k;rw[hb]at hr;exact aE [.lt 11 i n true (aH hi),.dj f53 16 0 n i 30 hi k_,.ld f53 17 44 0 (i*30) (.view (cV vs)) x.v rfl (tB hx) k_,hr.at 19,.sum 13 i 1 (i+1) rfl o_]
theorem aSz{n i:Nat}{x:RV}(hi:i<n)(hx:vs[i]?=some x)(hb:rf x k=false):
  ai prog Bs 25 (aJ (ah f53 0)) (He n k i) (yR vs) 1 ⟨.ret,[(6,.bool false)],yR vs,1⟩:=by
 have hr:=Xu x k;rw[hb]at hr;exact aE [.lt 11 i n true (aH hi),.dj f53 16 0 n i 30 hi k_,.ld f53 17 44 0 (i*30) (.view (cV vs)) x.v rfl (tB hx) k_,hr.at 19]
theorem aSA(m:Nat)(h63:vs.length<9223372036854775807):cE prog 53 [.r vs.length (cV vs),.p (vI m),.p (vI k)] (.bool (vs.all (λx=>rf x k)&&decide (vs.length<=m))):=by
 have aC:([aR.r vs.length (cV vs),.p (vI m),.p (vI k)].all aR.ok)=true:=by simp only[dL,eX,aR.ok,iT gL,iJ];rfl
 rcases CY (λx=>rf x k) vs with h|⟨n,x,h1,h2,h3,h4⟩
 ·rw[h,kF];have lo:∀ B:aa,ai prog B 25 (.block 0 (ah f53 0)) (He vs.length k 0) (yR vs) 1 ⟨.normal,[(0,sl 0 vs.length)],yR vs,1⟩:=λB=>
   cd (id:=0) (cA vs.length (λi=>He vs.length k i) (λ_=>yR vs) (λi k _=>Iff.rfl) (r:=⟨.exit 0,[(0,sl 0 vs.length)],yR vs,1⟩) (λi hi=>by have hx:vs[i]?=some vs[i]:=bo hi;exact aFK hi hx (EV h hx) h63) (aE [.lt 11 vs.length vs.length false s_]) n_)
  exact dV func53 aC 25 (λw=>[.code 0 _ _ _ _ _ (lo _),.rw 24 _ (.bool (decide (vs.length<=m))) (Hd rfl)])
 ·rw[h4,zL];have al:=(eA.1 h1).1;have lo:∀ B:aa,ai prog B 25 (.block 0 (ah f53 0)) (He vs.length k 0) (yR vs) 1 ⟨.ret,[(6,.bool false)],yR vs,1⟩:=λB=>
   cd (id:=0) (cA n (λi=>He vs.length k i) (λ_=>yR vs) (λi k _=>Iff.rfl) (λi hi=>by have hx:vs[i]?=some vs[i]:=bo o_;exact aFK o_ hx (h3 i _ hi hx) h63) (aSz al h1 h2) n_)
  exact dV func53 aC 25 (λw=>[.code 0 _ _ _ _ _ (lo _)])
end
def Rx(p:RP):Bool:=decide (24<wV p.n)||decide (15<wN p.d)
def tS(ps:List RP)(i:Nat):Nat:=((ps.take i).filter Rx).length
theorem aSB{ps:List RP}{i:Nat}{p:RP}(h:ps[i]?=some p):tS ps (i+1)=tS ps i+if Rx p then 1 else 0:=by unfold tS;rw[vS,h];simp only[Option.toList,List.filter_append,lh];rcases hb:Rx p with _|_<;>simp[hb]
theorem aSC(ps:List RP)(i:Nat):tS ps i<=i:=by unfold tS;refine dq (List.length_filter_le _ _) ?_;rw[jH];omega
theorem Ry{r:RN}{k:Nat}(h:tL r k=true):wN r<=5*k:=by unfold tL at h;simp only[dr,tZ]at h;unfold wN;omega
theorem aSD{r:RV}{k:Nat}(h:rf r k=true):wV r<=15*k:=by unfold rf at h;simp only[dr]at h;have h1:=Ry h.1;have h2:=Ry h.2.1;have h3:=Ry h.2.2;unfold wV;omega
section
variable{Bs:aa}{ps:List RP}
def A9(ps:List RP)(n i:Nat):aX:=[(6,vI i),(0,sl 0 n),(5,vI (tS ps i))]
def yS(ps:List RP):aL:=[(0,.view (dx ps))]
theorem aFL{n i:Nat}{x:RP}(hi:i<n)(hx:ps[i]?=some x)(hb:CW x 3=true)(h63:n<9223372036854775807):
  ai prog Bs 45 (aJ (ah f52 0)) (A9 ps n i) (yS ps) 1 ⟨.normal,A9 ps n (i+1),yS ps,1⟩:=by
 have hr:=aEM x 3;rw[hb]at hr;have gF:rf x.n 3=true/\tL x.d 3=true:=by unfold CW at hb;simpa using hb
 have w1:=aSD gF.1;have w2:=Ry gF.2;have q1:=aQ3 (r:=x.n) o_;have q2:=Q3 (r:=x.d) o_;have hs:=aSB hx;have hle:=aSC ps i;unfold A9;rw[hs];generalize tS ps i=c at *;unfold Rx;by_cases g1:24<wV x.n
 ·rw[aH g1];exact aE [.lt 10 i n true (aH hi),.dj f52 15 0 n i 40 hi k_,.ld f52 16 54 0 (i*40) (.view (dx ps)) x.v rfl (w7 hx) k_,hr.at 17,.dj f52 21 0 n i 40 hi k_,.ld f52 23 44 0 (i*40) (.view (dx ps)) x.n.v rfl (Rw hx) k_,q1.at 24,.gt 25 (wV x.n) 24 true (aH g1),.sum 36 c 1 (c+1) rfl o_,.sum 12 i 1 (i+1) rfl o_]
 ·rw[aP g1];by_cases g2:15<wN x.d
  ·rw[aH g2];exact aE [.lt 10 i n true (aH hi),.dj f52 15 0 n i 40 hi k_,.ld f52 16 54 0 (i*40) (.view (dx ps)) x.v rfl (w7 hx) k_,hr.at 17,.dj f52 21 0 n i 40 hi k_,.ld f52 23 44 0 (i*40) (.view (dx ps)) x.n.v rfl (Rw hx) k_,q1.at 24,.gt 25 (wV x.n) 24 false (aP g1),.dj f52 29 0 n i 40 hi k_,.ld f52 31 34 0 (i*40+30) (.view (dx ps)) x.d.v rfl (aFJ hx) k_,q2.at 32,.gt 33 (wN x.d) 15 true (aH g2),.sum 36 c 1 (c+1) rfl o_,.sum 12 i 1 (i+1) rfl o_]
  ·rw[aP g2];exact aE [.lt 10 i n true (aH hi),.dj f52 15 0 n i 40 hi k_,.ld f52 16 54 0 (i*40) (.view (dx ps)) x.v rfl (w7 hx) k_,hr.at 17,.dj f52 21 0 n i 40 hi k_,.ld f52 23 44 0 (i*40) (.view (dx ps)) x.n.v rfl (Rw hx) k_,q1.at 24,.gt 25 (wV x.n) 24 false (aP g1),.dj f52 29 0 n i 40 hi k_,.ld f52 31 34 0 (i*40+30) (.view (dx ps)) x.d.v rfl (aFJ hx) k_,q2.at 32,.gt 33 (wN x.d) 15 false (aP g2),.sum 12 i 1 (i+1) rfl o_]
theorem aSE{n i:Nat}{x:RP}(hi:i<n)(hx:ps[i]?=some x)(hb:CW x 3=false):
  ai prog Bs 45 (aJ (ah f52 0)) (A9 ps n i) (yS ps) 1 ⟨.ret,[(4,.bool false)],yS ps,1⟩:=by
 have hr:=aEM x 3;rw[hb]at hr;exact aE [.lt 10 i n true (aH hi),.dj f52 15 0 n i 40 hi k_,.ld f52 16 54 0 (i*40) (.view (dx ps)) x.v rfl (w7 hx) k_,hr.at 17]
def MV(ps:List RP)(k:Nat):Bool:=ps.all (λx=>CW x 3)&&(decide (tS ps ps.length<=1)&&decide (ps.length<=k))
theorem aSF(k:Nat)(h63:ps.length<9223372036854775807):cE prog 52 [.r ps.length (dx ps),.p (vI k)] (.bool (MV ps k)):=by
 have aC:([aR.r ps.length (dx ps),.p (vI k)].all aR.ok)=true:=by simp only[dL,eX,aR.ok,iT jP,iJ];rfl
 unfold MV;rcases CY (λx=>CW x 3) ps with h|⟨n,x,h1,h2,h3,h4⟩
 ·rw[h,kF];have lo:∀ B:aa,ai prog B 45 (.block 0 (ah f52 0)) (A9 ps ps.length 0) (yS ps) 1 ⟨.normal,[(0,sl 0 ps.length),(5,vI (tS ps ps.length))],yS ps,1⟩:=λB=>
   cd (id:=0) (cA ps.length (λi=>A9 ps ps.length i) (λ_=>yS ps) (λi k _=>Iff.rfl) (r:=⟨.exit 0,[(0,sl 0 ps.length),(5,vI (tS ps ps.length))],yS ps,1⟩) (λi hi=>by have hx:ps[i]?=some ps[i]:=bo hi;exact aFL hi hx (EV h hx) h63) (aE [.lt 10 ps.length ps.length false s_]) n_)
  unfold A9 at lo;have e0:tS ps 0=0:=by unfold tS;simp
  rw[e0]at lo;generalize tS ps ps.length=c at *;by_cases hc:c<=1
  ·rw[aH hc,kF];exact dV func52 aC 45 (λw=>[.code 0 _ _ _ _ _ (lo _),.rw 38 _ b_ (Hd (a:=c) (b:=1) (aH hc)),.rw 43 _ (.bool (decide (ps.length<=k))) (Hd rfl)])
  ·rw[aP hc,zL];exact dV func52 aC 45 (λw=>[.code 0 _ _ _ _ _ (lo _),.rw 38 _ a_ (Hd (a:=c) (b:=1) (aP hc))])
 ·rw[h4,zL];have al:=(eA.1 h1).1;have lo:∀ B:aa,ai prog B 45 (.block 0 (ah f52 0)) (A9 ps ps.length 0) (yS ps) 1 ⟨.ret,[(4,.bool false)],yS ps,1⟩:=λB=>
   cd (id:=0) (cA n (λi=>A9 ps ps.length i) (λ_=>yS ps) (λi k _=>Iff.rfl) (λi hi=>by have hx:ps[i]?=some ps[i]:=bo o_;exact aFL o_ hx (h3 i _ hi hx) h63) (aSE al h1 h2) n_)
  have e0:tS ps 0=0:=by unfold tS;simp
  unfold A9 at lo;rw[e0]at lo;exact dV func52 aC 45 (λw=>[.code 0 _ _ _ _ _ (lo _)])
end
section
open V3 (dot af aW smul)
theorem aFM{ps:c_}{i:Nat}{p:HS K}(h:ps[i]?=some p):(ps.map c9)[i]?=some (c9 p):=by rw[vi,h];rfl
theorem MW{ps:c_}{i:Nat}{p:HS K}(h:ps[i]?=some p):dI prog 44 (bt ps) (i*40)=some (bZ p.n):=Rw (aFM h)
theorem Rz{ps:c_}{i:Nat}{p:HS K}(h:ps[i]?=some p):dI prog 54 (bt ps) (i*40)=some (dK p):=w7 (aFM h)
section
variable{Bs:aa}{ps:List RP}{m:Nat}
def Hf(n i:Nat):aX:=[(3,vI i),(0,sl 0 n)]
def xk(ps:List RP):aL:=[(0,.view (dx ps))]
theorem aFN{n i:Nat}{x:RP}(hi:i<n)(hx:ps[i]?=some x)(hs:A3 m x)(hm:m<=aD)(hb:r8 x=true)(h63:n<9223372036854775807):
  ai prog Bs 16 (aJ (ah f129 0)) (Hf n i) (xk ps) 1 ⟨.normal,Hf n (i+1),xk ps,1⟩:=by
 have hv:=Xv hs hm;rw[hb]at hv;exact aE [.lt 7 i n true (aH hi),.dj f129 12 0 n i 40 hi k_,.ld f129 13 54 0 (i*40) (.view (dx ps)) x.v rfl (w7 hx) k_,hv.at 14,.sum 9 i 1 (i+1) rfl o_]
theorem aSG{n i:Nat}{x:RP}(hi:i<n)(hx:ps[i]?=some x)(hs:A3 m x)(hm:m<=aD)(hb:r8 x=false):
  ai prog Bs 16 (aJ (ah f129 0)) (Hf n i) (xk ps) 1 ⟨.ret,[(2,.bool false)],xk ps,1⟩:=by
 have hv:=Xv hs hm;rw[hb]at hv;exact aE [.lt 7 i n true (aH hi),.dj f129 12 0 n i 40 hi k_,.ld f129 13 54 0 (i*40) (.view (dx ps)) x.v rfl (w7 hx) k_,hv.at 14]
theorem aFO(hs:∀ x∈ps,A3 m x)(hm:m<=aD)(h63:ps.length<9223372036854775807):cE prog 129 [.r ps.length (dx ps)] (.bool (ps.all r8)):=by
 have aC:([aR.r ps.length (dx ps)].all aR.ok)=true:=by simp only[dL,eX,aR.ok,iT jP,iJ]
 rcases CY r8 ps with h|⟨n,x,h1,h2,h3,h4⟩
 ·rw[h];have lo:∀ B:aa,ai prog B 16 (.block 0 (ah f129 0)) (Hf ps.length 0) (xk ps) 1 ⟨.normal,[],xk ps,1⟩:=λB=>
   cd (id:=0) (cA ps.length (λi=>Hf ps.length i) (λ_=>xk ps) (λi k _=>Iff.rfl) (r:=⟨.exit 0,[],xk ps,1⟩) (λi hi=>by have hx:ps[i]?=some ps[i]:=bo hi;exact aFN hi hx (hs _ (dB hi)) hm (EV h hx) h63) (aE [.lt 7 ps.length ps.length false s_]) n_)
  exact dV func129 aC 16 (λw=>[.code 0 _ _ _ _ _ (lo _)])
 ·rw[h4];have al:=(eA.1 h1).1;have lo:∀ B:aa,ai prog B 16 (.block 0 (ah f129 0)) (Hf ps.length 0) (xk ps) 1 ⟨.ret,[(2,.bool false)],xk ps,1⟩:=λB=>
   cd (id:=0) (cA n (λi=>Hf ps.length i) (λ_=>xk ps) (λi k _=>Iff.rfl) (r:=⟨.ret,[(2,.bool false)],xk ps,1⟩) (λi hi=>by
    have lX:i<ps.length:=by omega
    have hx:ps[i]?=some ps[i]:=bo lX;exact aFN lX hx (hs _ (dB lX)) hm (h3 i _ hi hx) h63) (aSG al h1 (hs x (cL h1)) hm h2) n_)
  exact dV func129 aC 16 (λw=>[.code 0 _ _ _ _ _ (lo _)])
end
section
variable{Bs:aa}{ps:c_}{m:Nat}{d:V3 K}
def yT(ps:c_)(d:V3 K):Bool:=ps.all λp=>decide (OF.aG (dot p.n d)<=0)
def Hg(n i:Nat):aX:=[(5,vI i),(0,sl 0 n),(3,ptr 1)]
def yU(ps:c_)(d:V3 K):aL:=[(0,.view (bt ps)),(1,.aM (cK d).cs 44)]
theorem RA(h:decide (z<=0)=!t):Value.bool (decide (z>0))=.bool t:=by
 congr 1
 cases t
 ·have:=kX h;exact aP o_
 ·have:=Ir h;exact aH o_
theorem aFP{n i:Nat}{p:HS K}(hi:i<n)(hx:ps[i]?=some p)(hp:bO m p)(hd:aI m d)(hm:100*m+1000<=aD)(hb:decide (OF.aG (dot p.n d)<=0)=true)(h63:n<9223372036854775807):
  ai prog Bs 21 (aJ (ah f170 0)) (Hg n i) (yU ps d) 2 ⟨.normal,Hg n (i+1),yU ps d,2⟩:=
 aE [.lt 9 i n true (aH hi),.dj f170 14 0 n i 40 hi k_,.ld f170 16 44 0 (i*40) (.view (bt ps)) (bZ p.n) rfl (MW hx) k_,(aXr hp.1 hd o_).at 18,(aXu (hp.1.dot hd) o_).at 19,.rw 20 _ a_ (RA (t:=false) hb),.sum 11 i 1 (i+1) rfl o_]
theorem aSH{n i:Nat}{p:HS K}(hi:i<n)(hx:ps[i]?=some p)(hp:bO m p)(hd:aI m d)(hm:100*m+1000<=aD)(hb:decide (OF.aG (dot p.n d)<=0)=false):
  ai prog Bs 21 (aJ (ah f170 0)) (Hg n i) (yU ps d) 2 ⟨.ret,[(4,.bool false)],yU ps d,2⟩:=
 aE [.lt 9 i n true (aH hi),.dj f170 14 0 n i 40 hi k_,.ld f170 16 44 0 (i*40) (.view (bt ps)) (bZ p.n) rfl (MW hx) k_,(aXr hp.1 hd o_).at 18,(aXu (hp.1.dot hd) o_).at 19,.rw 20 _ b_ (RA (t:=true) hb)]
theorem RB(hs:∀ p∈ps,bO m p)(hd:aI m d)(hm:100*m+1000<=aD)(h63:ps.length<9223372036854775807):cE prog 170 [.r ps.length (bt ps),.p (bZ d)] (.bool (yT ps d)):=by
 have aC:([aR.r ps.length (bt ps),.p (bZ d)].all aR.ok)=true:=by simp only[dL,eX,aR.ok,iJ];rw[show(bt ps).all flat=true from dC ps];rfl
 unfold yT;rcases CY (λp=>decide (OF.aG (dot p.n d)<=0)) ps with h|⟨n,x,h1,h2,h3,h4⟩
 ·rw[h];have lo:∀ B:aa,ai prog B 21 (.block 0 (ah f170 0)) (Hg ps.length 0) (yU ps d) 2 ⟨.normal,[],yU ps d,2⟩:=λB=>
   cd (id:=0) (cA ps.length (λi=>Hg ps.length i) (λ_=>yU ps d) (λi k _=>Iff.rfl) (r:=⟨.exit 0,[],yU ps d,2⟩) (λi hi=>by have hx:ps[i]?=some ps[i]:=bo hi;exact aFP hi hx (hs _ (dB hi)) hd hm (EV h hx) h63) (aE [.lt 9 ps.length ps.length false s_]) n_)
  exact dV func170 aC 21 (λw=>[.code 0 _ _ _ _ _ (lo _)])
 ·rw[h4];have al:=(eA.1 h1).1;have lo:∀ B:aa,ai prog B 21 (.block 0 (ah f170 0)) (Hg ps.length 0) (yU ps d) 2 ⟨.ret,[(4,.bool false)],yU ps d,2⟩:=λB=>
   cd (id:=0) (cA n (λi=>Hg ps.length i) (λ_=>yU ps d) (λi k _=>Iff.rfl) (λi hi=>by
    have lX:i<ps.length:=by omega
    have hx:ps[i]?=some ps[i]:=bo lX;exact aFP lX hx (hs _ (dB lX)) hd hm (h3 i _ hi hx) h63) (aSH al h1 (hs x (cL h1)) hd hm h2) n_)
  exact dV func170 aC 21 (λw=>[.code 0 _ _ _ _ _ (lo _)])
end
def CZ(ps:c_)(d:V3 K):Bool:=ps.all λp=>decide (dot p.n d=0)
def RC(ps:c_)(i:Nat):V3 K:=match ps[i]? with|some p=>p.n|none=>0
def nW(ps:c_)(i j:Nat):V3 K:=af (RC ps i) (RC ps j)
def Ba(ps:c_)(i j:Nat):Bool:=decide (nW ps i j≠0)&&(yT ps (nW ps i j)||yT ps (-nW ps i j))
def pN(ps:c_)(f:Bool)(i:Nat):Nat->Bool
 |0=>f
 |j+1=>if nW ps i j=0 then pN ps f i j else pN ps f i j&&CZ ps (nW ps i j)
def nr(ps:c_):Nat->Bool
 |0=>true
 |i+1=>pN ps (nr ps i) i i
def EW(ps:c_)(i:Nat):Bool:=(List.range i).all λj=>!Ba ps i j
def xl(ps:c_):Bool:=(List.range ps.length).all (EW ps)&&!nr ps ps.length
theorem JA(b:Nat->Bool)(n:Nat):(List.range n).all b=true\/∃ e,e<n/\b e=false/\(∀ i,i<e->b i=true)/\(List.range n).all b=false:=by
 rcases CY b (List.range n)with h|⟨e,x,h1,h2,h3,h4⟩
 ·exact .inl h
 ·have al:=(eA.1 h1).1;rw[zD]at al;rw[L7 al]at h1;injection h1 with h1;subst h1;exact .inr ⟨e,al,h2,λi hi=>h3 i i hi (L7 o_),h4⟩
theorem JB{b:Nat->Bool}{n:Nat}(h:(List.range n).all b=true){i:Nat}(hi:i<n):b i=true:=bB.1 h i (jT.2 hi)
section
variable{Bs:aa}{ps:c_}{m:Nat}{d:V3 K}
def Hh(n k:Nat)(f:Bool):aX:=[(7,vI k),(0,sl 0 n),(3,.bool f),(6,ptr 1)]
def xm(ps:c_)(d:V3 K):aL:=[(0,.view (bt ps)),(1,.aM (cK d).cs 44)]
theorem aFQ{n k:Nat}{p:HS K}(hk:k<n)(hx:ps[k]?=some p)(hp:bO m p)(hd:aI m d)(hm:100*m+1000<=aD)(ht:decide (dot p.n d=0)=t)(h63:n<9223372036854775807):
  ai prog Bs 61 (aJ (ah f130 4)) (Hh n k true) (xm ps d) 2 ⟨.normal,Hh n (k+1) t,xm ps d,2⟩:=by
 have h49:Value.bool (OF.aG (dot p.n d)==0)=.bool t:=by
  by_cases h:dot p.n d=0
  ·rw[aH h]at ht;subst ht;exact yO ((OF.fF _).2 h)
  ·rw[aP h]at ht;subst ht;exact qj (λe=>h ((OF.fF _).1 e))
 exact aE [.lt 35 k n true (aH hk),.dj f130 43 0 n k 40 hk k_,.ld f130 45 44 0 (k*40) (.view (bt ps)) (bZ p.n) rfl (MW hx) k_,(aXr hp.1 hd o_).at 47,(aXu (hp.1.dot hd) o_).at 48,.rw 49 _ (.bool t) h49,.sum 40 k 1 (k+1) rfl o_]
theorem aFR{n k:Nat}:ai prog Bs 61 (aJ (ah f130 4)) (Hh n k false) (xm ps d) 2 ⟨.exit 4,[(0,sl 0 n),(3,.bool false),(6,ptr 1)],xm ps d,2⟩:=by
 by_cases h:k<n
 ·exact aE [.lt 35 k n true (aH h)]
 ·exact aE [.lt 35 k n false (aP h)]
theorem aFS(hs:∀ p∈ps,bO m p)(hd:aI m d)(hm:100*m+1000<=aD)(h63:ps.length<9223372036854775807)(f:Bool):
  ai prog Bs 61 (.block 4 (ah f130 4)) (Hh ps.length 0 f) (xm ps d) 2 ⟨.normal,[(0,sl 0 ps.length),(3,.bool (f&&CZ ps d)),(6,ptr 1)],xm ps d,2⟩:=by
 cases f with
 |false=>exact cd (id:=4) (cA 0 (λ_=>Hh ps.length 0 false) (λ_=>xm ps d) (λ_ _ _=>Iff.rfl) (r:=⟨.exit 4,[(0,sl 0 ps.length),(3,.bool false),(6,ptr 1)],xm ps d,2⟩) (λi hi=>by omega) aFR n_)
 |true=>
  unfold CZ;rcases CY (λp=>decide (dot p.n d=0)) ps with h|⟨n,x,h1,h2,h3,h4⟩
  ·rw[h];exact cd (id:=4) (cA ps.length (λi=>Hh ps.length i true) (λ_=>xm ps d) (λ_ _ _=>Iff.rfl) (r:=⟨.exit 4,[(0,sl 0 ps.length),(3,.bool true),(6,ptr 1)],xm ps d,2⟩) (λi hi=>by have hx:ps[i]?=some ps[i]:=bo hi;exact aFQ hi hx (hs _ (dB hi)) hd hm (EV h hx) h63) (aE [.lt 35 ps.length ps.length false s_]) n_)
  ·rw[h4];have al:=(eA.1 h1).1;exact cd (id:=4) (cA (n+1) (λi=>Hh ps.length i (decide (i<=n))) (λ_=>xm ps d) (λ_ _ _=>Iff.rfl) (r:=⟨.exit 4,[(0,sl 0 ps.length),(3,.bool false),(6,ptr 1)],xm ps d,2⟩) (λi hi=>by
    have lX:i<ps.length:=by omega
    have hx:ps[i]?=some ps[i]:=bo lX;simp only[aH (show i<=n by omega)];refine aFQ lX hx (hs _ (dB lX)) hd hm ?_ h63;by_cases he:i=n
    ·subst he;rw[hx]at h1;injection h1 with h1;rw[h1,h2];exact(aP o_).symm
    ·have:=h3 i _ o_ hx;rw[this];exact(aH o_).symm) (by
    simp only[aP (show ¬n+1<=n by omega)];exact aFR) n_)
def yV(ps:c_)(f:Bool)(n i j:Nat):aX:=[(5,vI j),(4,vI i),(0,sl 0 n),(3,.bool (pN ps f i j))]
def oI(ps:c_):aL:=[(0,.view (bt ps))]
theorem JC{i:Nat}{p:HS K}(h:ps[i]?=some p):RC ps i=p.n:=by unfold RC;rw[h]
noncomputable def RD{n i j:Nat}{p q:HS K}(hi:i<n)(kP:j<i)(hp:ps[i]?=some p)(hq:ps[j]?=some q)(sp:bO m p)(sq:bO m q)(hm:1000*m+10000<=aD)(ht:decide (af p.n q.n=0)=t)(more:bM prog Bs 61):bM prog Bs 61:=
 .lt 16 j i true (aH kP)::.dj f130 21 0 n i 40 hi k_::.ld f130 23 44 0 (i*40) (.view (bt ps)) (bZ p.n) rfl (MW hp) k_::.dj f130 26 0 n j 40 o_ k_::.ld f130 28 44 0 (j*40) (.view (bt ps)) (bZ q.n) rfl (MW hq) k_::
 (aXU sp.1 sq.1 o_).at 29::(ht▸aXY (sp.1.af sq.1) o_:aF prog 24 [bZ (af p.n q.n)] (.bool t)).at 31::more
theorem aFT(hs:∀ p∈ps,bO m p)(hm:1000*m+10000<=aD){f:Bool}{i j:Nat}(hi:i<ps.length)(kP:j<i)(hb:Ba ps i j=false)(h63:ps.length<9223372036854775807):
  ai prog Bs 61 (aJ (ah f130 2)) (yV ps f ps.length i j) (oI ps++marks 1 []) 1 ⟨.normal,gZ 1 [] (yV ps f ps.length i (j+1)),oI ps++dY [] [],2⟩:=by
 have hj:j<ps.length:=by omega
 have hp:ps[i]?=some ps[i]:=bo hi;have hq:ps[j]?=some ps[j]:=bo hj;have sp:=hs _ (dB hi);have sq:=hs _ (dB hj);generalize ps[i]=p at *;generalize ps[j]=q at *;have hd:nW ps i j=af p.n q.n:=by unfold nW;rw[JC hp,JC hq]
 have pU:∀ r∈ps,bO (4*m+9) r:=λr hr=>(hs r hr).mono o_;have C0:aI (4*m+9) (af p.n q.n):=(sp.1.af sq.1).mono o_;unfold Ba at hb;have er:pN ps f i (j+1)=if nW ps i j=0 then pN ps f i j else pN ps f i j&&CZ ps (nW ps i j):=rfl
 unfold yV;rw[er];rw[hd]at hb ⊢;by_cases hz:af p.n q.n=0
 ·rw[aB hz];exact aE (RD hi kP hp hq sp sq hm (aH hz) [.sum 18 j 1 (j+1) rfl o_])
 ·rw[av hz];rw[aH hz,kF]at hb;have nB:yT ps (af p.n q.n)=false:=by revert hb;cases yT ps (af p.n q.n)<;>simp
  have gF:yT ps (-af p.n q.n)=false:=by revert hb;cases yT ps (-af p.n q.n)<;>simp
  have l1:=RB pU C0 o_ h63;have l2:=RB pU C0.neg o_ h63;rw[nB]at l1;rw[gF]at l2;have c4:=aFS (Bs:=Bs) pU C0 o_ h63 (pN ps f i j);generalize pN ps f i j=ff at *;generalize (ff&&CZ ps (af p.n q.n))=fg at *;exact aE (RD hi kP hp hq sp sq hm (aP hz) [.code 4 _ _ _ _ _ c4,.step 52 (aw f130 52) [.func (.func 170) #[] #[],sl 0 ps.length,bZ (af p.n q.n)] [(0,some (.view (bt ps)))] a_ [] (dR l1 (.w (x:=.view (bt ps)) rfl (dC ps) jD (.p rfl .nil)) (x:=.func 170) k_ k_ rfl),(aXH C0 o_).at 56,.step 57 (aw f130 57) [.func (.func 170) #[] #[],sl 0 ps.length,bZ (-af p.n q.n)] [(0,some (.view (bt ps)))] a_ [] (dR l2 (.w (x:=.view (bt ps)) rfl (dC ps) jD (.p rfl .nil)) (x:=.func 170) k_ k_ rfl),.sum 18 j 1 (j+1) rfl o_])
theorem aSI(hs:∀ p∈ps,bO m p)(hm:1000*m+10000<=aD){f:Bool}{i j:Nat}(hi:i<ps.length)(kP:j<i)(hb:Ba ps i j=true)(h63:ps.length<9223372036854775807):
  ai prog Bs 61 (aJ (ah f130 2)) (yV ps f ps.length i j) (oI ps++marks 1 []) 1 ⟨.ret,[(2,.bool false)],[],2⟩:=by
 have hj:j<ps.length:=by omega
 have hp:ps[i]?=some ps[i]:=bo hi;have hq:ps[j]?=some ps[j]:=bo hj;have sp:=hs _ (dB hi);have sq:=hs _ (dB hj);generalize ps[i]=p at *;generalize ps[j]=q at *;have hd:nW ps i j=af p.n q.n:=by unfold nW;rw[JC hp,JC hq]
 have pU:∀ r∈ps,bO (4*m+9) r:=λr hr=>(hs r hr).mono o_;have C0:aI (4*m+9) (af p.n q.n):=(sp.1.af sq.1).mono o_;unfold Ba at hb;unfold yV;rw[hd]at hb;have hz:af p.n q.n≠0:=by intro e;rw[aP (λh=>h e)]at hb;cases hb
 rw[aH hz,kF]at hb;have l1:=RB pU C0 o_ h63;have l2:=RB pU C0.neg o_ h63;have c4:=aFS (Bs:=Bs) pU C0 o_ h63 (pN ps f i j);generalize pN ps f i j=ff at *;generalize (ff&&CZ ps (af p.n q.n))=fg at *;rcases nB:yT ps (af p.n q.n)with _|_
 ·rw[nB]at l1 hb;rw[zM]at hb;rw[hb]at l2;exact aE (RD hi kP hp hq sp sq hm (aP hz) [.code 4 _ _ _ _ _ c4,.step 52 (aw f130 52) [.func (.func 170) #[] #[],sl 0 ps.length,bZ (af p.n q.n)] [(0,some (.view (bt ps)))] a_ [] (dR l1 (.w (x:=.view (bt ps)) rfl (dC ps) jD (.p rfl .nil)) (x:=.func 170) k_ k_ rfl),(aXH C0 o_).at 56,.step 57 (aw f130 57) [.func (.func 170) #[] #[],sl 0 ps.length,bZ (-af p.n q.n)] [(0,some (.view (bt ps)))] b_ [] (dR l2 (.w (x:=.view (bt ps)) rfl (dC ps) jD (.p rfl .nil)) (x:=.func 170) k_ k_ rfl)])
 ·rw[nB]at l1;exact aE (RD hi kP hp hq sp sq hm (aP hz) [.code 4 _ _ _ _ _ c4,.step 52 (aw f130 52) [.func (.func 170) #[] #[],sl 0 ps.length,bZ (af p.n q.n)] [(0,some (.view (bt ps)))] b_ [] (dR l1 (.w (x:=.view (bt ps)) rfl (dC ps) jD (.p rfl .nil)) (x:=.func 170) k_ k_ rfl)])
theorem aFU(q:Nat×Obj)(hq:q∈oI ps):fV 1 q.2:=by unfold oI at hq;simp at hq;subst hq;exact H4 (bB.1 (dC ps))
theorem aSJ(hs:∀ p∈ps,bO m p)(hm:1000*m+10000<=aD){f:Bool}{i:Nat}(hi:i<ps.length)(hb:EW ps i=true)(h63:ps.length<9223372036854775807):
  ai prog Bs 61 (.block 2 (ah f130 2)) (yV ps f ps.length i 0) (oI ps) 1 ⟨.normal,[(4,vI i),(0,sl 0 ps.length),(3,.bool (pN ps f i i))],oI ps,1⟩:=by
 have:=rJ (P:=prog) (B:=Bs) (N:=61) (b:=aJ (ah f130 2)) (next:=1) (p:=0) (r:=⟨.exit 2,[(4,vI i),(0,sl 0 ps.length),(3,.bool (pN ps f i i))],oI ps,1⟩) i (yV ps f ps.length i) (λ_=>oI ps) (λ_=>[]) [] (λ_ _=>rfl)
  (λj _=>⟨aFU,λz hz=>by cases hz⟩) k_ k_
  (λj hj=>⟨[],2,k_,aFT hs hm hi hj (by have:=JB hb hj;simpa using this) h63⟩)
  (aE [.lt 16 i i false s_]) n_
 exact cd (id:=2) this
theorem aSK(hs:∀ p∈ps,bO m p)(hm:1000*m+10000<=aD){f:Bool}{i:Nat}(hi:i<ps.length)(hb:EW ps i=false)(h63:ps.length<9223372036854775807):
  ai prog Bs 61 (.block 2 (ah f130 2)) (yV ps f ps.length i 0) (oI ps) 1 ⟨.ret,[(2,.bool false)],[],2⟩:=by
 rcases JA (λj=>!Ba ps i j) i with h|⟨e,h1,h2,h3,_⟩
 ·unfold EW at hb;rw[h]at hb;cases hb
 ·have:=rJ (P:=prog) (B:=Bs) (N:=61) (b:=aJ (ah f130 2)) (next:=1) (p:=0) (r:=⟨.ret,[(2,.bool false)],[],2⟩) e (yV ps f ps.length i) (λ_=>oI ps) (λ_=>[]) [] (λ_ _=>rfl)
   (λj _=>⟨aFU,λz hz=>by cases hz⟩) k_ k_
   (λj hj=>⟨[],2,k_,aFT hs hm hi o_ (by have:=h3 j hj;simpa using this) h63⟩)
   (aSI hs hm hi h1 (by simpa using h2) h63) n_
  exact cd (id:=2) this
def yW(ps:c_)(n i:Nat):aX:=[(4,vI i),(0,sl 0 n),(3,.bool (nr ps i))]
theorem aFV(hs:∀ p∈ps,bO m p)(hm:1000*m+10000<=aD){i:Nat}(hi:i<ps.length)(hb:EW ps i=true)(h63:ps.length<9223372036854775807):
  ai prog Bs 61 (aJ (ah f130 0)) (yW ps ps.length i) (oI ps) 1 ⟨.normal,yW ps ps.length (i+1),oI ps,1⟩:=by
 have lo:=aSJ (Bs:=Bs) (f:=nr ps i) hs hm hi hb h63;unfold yV at lo;unfold yW;show ai _ _ _ _ _ _ _ ⟨.normal,[(4,vI (i+1)),(0,sl 0 ps.length),(3,.bool (pN ps (nr ps i) i i))],oI ps,1⟩;have e0:pN ps (nr ps i) i 0=nr ps i:=rfl;rw[e0]at lo;generalize pN ps (nr ps i) i i=g at *;generalize nr ps i=f at *;exact aE [.lt 11 i ps.length true (aH hi),.code 2 _ _ _ _ _ lo,.sum 13 i 1 (i+1) rfl o_]
theorem aSL(hs:∀ p∈ps,bO m p)(hm:1000*m+10000<=aD){i:Nat}(hi:i<ps.length)(hb:EW ps i=false)(h63:ps.length<9223372036854775807):
  ai prog Bs 61 (aJ (ah f130 0)) (yW ps ps.length i) (oI ps) 1 ⟨.ret,[(2,.bool false)],[],2⟩:=by
 have lo:=aSK (Bs:=Bs) (f:=nr ps i) hs hm hi hb h63;unfold yV at lo;unfold yW;have e0:pN ps (nr ps i) i 0=nr ps i:=rfl;rw[e0]at lo;generalize nr ps i=f at *;exact aE [.lt 11 i ps.length true (aH hi),.code 2 _ _ _ _ _ lo]
theorem aSM(hs:∀ p∈ps,bO m p)(hm:1000*m+10000<=aD)(h63:ps.length<9223372036854775807):cE prog 130 [fZ ps] (.bool (xl ps)):=by
 unfold xl;rcases JA (EW ps) ps.length with h|⟨e,h1,h2,h3,h4⟩
 ·rw[h,kF];have lo:∀ B:aa,ai prog B 61 (.block 0 (ah f130 0)) (yW ps ps.length 0) (oI ps) 1 ⟨.normal,[(3,.bool (nr ps ps.length))],oI ps,1⟩:=λB=>
   cd (id:=0) (cA ps.length (yW ps ps.length) (λ_=>oI ps) (λ_ _ _=>Iff.rfl) (r:=⟨.exit 0,[(3,.bool (nr ps ps.length))],oI ps,1⟩) (λi hi=>aFV hs hm hi (JB h hi) h63) (aE [.lt 11 ps.length ps.length false s_]) n_)
  unfold yW at lo;have e0:nr ps 0=true:=rfl;rw[e0]at lo;generalize nr ps ps.length=g at *;cases g<;>exact dV func130 (ET ps) 61 (λw=>[.code 0 _ _ _ _ _ (lo _)])
 ·rw[h4,zL];have lo:∀ B:aa,ai prog B 61 (.block 0 (ah f130 0)) (yW ps ps.length 0) (oI ps) 1 ⟨.ret,[(2,.bool false)],[],2⟩:=λB=>
   cd (id:=0) (cA e (yW ps ps.length) (λ_=>oI ps) (λ_ _ _=>Iff.rfl) (r:=⟨.ret,[(2,.bool false)],[],2⟩) (λi hi=>aFV hs hm o_ (h3 i hi) h63) (aSL hs hm h1 h2 h63) n_)
  unfold yW at lo;have e0:nr ps 0=true:=rfl;rw[e0]at lo;exact dV func130 (ET ps) 61 (λw=>[.code 0 _ _ _ _ _ (lo _)])
end
end
section
variable{P:j_}{B:aa}{N:Nat}
def bd.RE(fn:Func)(key k j n m nm e size bytes off cc:Nat)(cells:ak)(q:Nat)(x:Obj)(new:ak)(kE:n+m=nm)(hx:x.reads=true)(hlen:((x.cells.drop off).take (m*size)).length=m*size)(jw:cells.length=n*size)(lL:cells++(x.cells.drop off).take (m*size)=new)
  (h1:∀ v∈x.cells,v.oneCell'=true) (bH:0<size) (h63:nm<=maxLen) (hb:nm*bytes<=140737488355328) (ho:FH P (aw fn key)=some (e,size,bytes,size,true)):bd P B N:=
 .step key (aw fn key) [.slice (some ⟨j,0,some 7⟩) n 0,.slice (some ⟨q,off,some 7⟩) m cc] [(k,none),(j,some (.row cells e size)),(q,some x)] (.slice (some ⟨k,0,some 7⟩) nm 0) [(k,.row new e size),(j,.dead)] (by subst kE;have hs:C9 B (.slice (some ⟨q,off,some 7⟩) m cc) m ((x.cells.drop off).take (m*size)) [(q,some x)]:=Ny (B:=B) (k:=q) (off:=off) (m:=m) (cc:=cc) hx (len:=m*size) (λh=>by rw[h,lP]);have:=aAA (B:=B) ho bH hs hlen (λv hv=>h1 v (XF (I5 hv))) (j:=j) (n:=n) (cells:=cells) (u5 jw.symm) h63 hb k;rw[kT (u5 jw),lL]at this;exact this)
def bd.aSN(fn:Func)(key k n s:Nat)(ho:sR P (aw fn key)=some (true,false,s)):bd P B N:=
 .step key (aw fn key) [.slice (some ⟨k,0,some 7⟩) n 0,vI 0] [] (.slice (some ⟨k,0,some 7⟩) n 0) [] (by have:=HM (B:=B) ho (k:=k) (off:=0) (n:=n) (cc:=0) (l:=0) (h:=n) n_ (λ_=>rfl) (lM _) (bC _) (.inr rfl);simpa using this)
theorem aSO{s:Nat}(ho:sR P o=some (true,false,s)){k n:Nat}{x:Obj}(hx:x.kh=true)(j:Nat):
  cI P B o [.slice (some ⟨k,off,some 7⟩) n cc,vI n] [(j,none),(k,some x)] (.slice (some ⟨j,0,some 7⟩) 0 0) [(j,.view [])]:=by
 unfold sR at ho;split at ho
 ·rename_i t y lo hi cg;split at ho
  ·rename_i e ht;split at ho
   ·rename_i i gu;injection ho with ho;injection ho with h1 ho;injection ho with h2 h3;cases lo with
    |none=>cases h1
    |some yl=>
    cases hi with
    |some yh=>cases h2
    |none=>
    refine iN.step λι c ρ w aZ hm hn=>?_;have hj:c j=none:=hn (j,none) s_;have hk:c k=some x:=hn (k,some x) s_;rw[cg]at aZ;obtain⟨u,u2,hu,hc,dp⟩:=jv aZ;have dT:ρ y=u:=by simp[Op.operands]at hu;exact hu.1
    have e6:ρ yl=u2:=by simp[Op.operands]at hu;exact hu.2
    have dp:=dp.eZ rfl;have Mr:∀ y code,n<=y->(Instr.sliceBound (.int .i64 n) y code).run P w=.ok n w:=by intro y code hq;have:(0:Int)<=n/\(n:Int)<=y:=⟨by omega,by omega⟩;simp[Instr.sliceBound,asIntOf,this]
    rcases hc.iF rfl with ⟨hb,kQ,qB,zo,he⟩|⟨b,oo,cap,c',hb,lg,nA,he⟩
    ·refine⟨dS ι j .nil,.slice none 0 0,w,ij (hm.dF j hj),.slcN (gg _ _ _),hm.add hj (.inl ⟨rfl,rfl⟩) n_ n_ n_,.inl ?_⟩;subst kQ;have lB:∀ code,(Instr.sliceBound (.int .i64 0) 0 code).run P w=.ok 0 w:=λcode=>by simp[Instr.sliceBound,asIntOf]
     simp only[execOp,cg];simp[Instr.sliceAt,jJ ht,Instr.slice,dT,e6,dp,he,vI,Instr.sliceBounds,lB,sizeOf,typeInfo,gu]
    ·dsimp only at hb he;obtain⟨o1,xV⟩:∃ o1,o1=(if c'=n then oo+off else oo+off+n*i.size):=⟨_,rfl⟩;have hsn:=hm.seen k x b oo cap hk hx hb;refine⟨dS ι j (.at b o1 (c'-n)),.slice (some ⟨b,o1+0,none⟩) 0 (c'-n),w,ij (hm.dF j hj),.slc (gg _ _ _) (lM _) (kA _),hm.add hj (.inr ⟨b,o1,c'-n,[],rfl,.nil,λj u h=>by simp at h⟩) n_ n_ (λb1 o2 l8 _ e=>?_),.inl ?_⟩
     ·injection e with e1 e2 e3;subst e1;exact hsn
     ·simp only[execOp,cg];by_cases iG:c'=n
      ·rw[aB iG]at xV;subst xV;subst iG;simp[Instr.sliceAt,jJ ht,Instr.slice,dT,e6,dp,he,vI,Instr.sliceBounds,Mr c' _ (bC _),sizeOf,typeInfo,gu]
      ·rw[av iG]at xV;subst xV;simp[Instr.sliceAt,jJ ht,Instr.slice,dT,e6,dp,he,vI,Instr.sliceBounds,Mr n _ (bC _),sizeOf,typeInfo,gu,iG,zn]
   ·cases ho
  ·cases ho
 ·cases ho
def bd.aSP(fn:Func)(key k off n cc s j:Nat)(x:Obj)(hx:x.kh=true)(ho:sR P (aw fn key)=some (true,false,s)):bd P B N:=
 .step key (aw fn key) [.slice (some ⟨k,off,some 7⟩) n cc,vI n] [(j,none),(k,some x)] (.slice (some ⟨j,0,some 7⟩) 0 0) [(j,.view [])] (aSO ho hx j)
end
section
open V3 (dot af aW smul)
def aXT:e_->V3 K->List (V3 K)
 |[],v=>[v]
 |p::l,v=>if eD p v=0 then p::l else if 0<eD p v then v::p::l else p::aXT l v
theorem RF(v:V3 K):∀ vs:e_,(∃(i:Nat) (p:V3 K),vs[i]?=some p/\eD p v=0/\(∀(j:Nat) (q:V3 K),j<i->vs[j]?=some q->eD q v<0)/\aXT vs v=vs)\/
  ∃ i:Nat,i<=vs.length/\(∀(j:Nat) (q:V3 K),j<i->vs[j]?=some q->eD q v<0)/\(i=vs.length\/∃ p,vs[i]?=some p/\0<eD p v)/\aXT vs v=vs.take i++[v]++vs.drop i
 |[]=>.inr ⟨0,bC _,λj q hj=>by omega,.inl rfl,rfl⟩
 |p::l=>by
  unfold aXT;by_cases h0:eD p v=0
  ·rw[aB h0];exact .inl ⟨0,p,rfl,h0,λj q hj=>by omega,rfl⟩
  ·rw[av h0];by_cases h1:0<eD p v
   ·rw[aB h1];exact .inr ⟨0,lM _,λj q hj=>by omega,.inr ⟨p,rfl,h1⟩,rfl⟩
   ·rw[av h1];have dJ:∀{i:Nat} (H:∀(j:Nat) (q:V3 K),j<i->l[j]?=some q->eD q v<0) (j:Nat) (q:V3 K),j<i+1->(p::l)[j]?=some q->eD q v<0:=λ{i} H j q hj hq=>by
     cases j with
     |zero=>simp at hq;subst hq;omega
     |succ j=>exact H j q o_ (by simpa using hq)
    rcases RF v l with ⟨i,q,q1,q2,q3,q4⟩|⟨i,q1,q2,q3,q4⟩
    ·exact .inl ⟨i+1,q,by simpa using q1,q2,dJ q3,by rw[q4]⟩
    ·refine .inr ⟨i+1,by simpa using q1,dJ q2,?_,by rw[q4];rfl⟩;rcases q3 with h|⟨q,h,h2⟩
     ·exact .inl (by rw[h];rfl)
     ·exact .inr ⟨q,by simpa using h,h2⟩
theorem aSQ{a b:Int}(h:decide (a=b)=t):Value.bool (a==b)=.bool t:=by
 by_cases e:a=b
 ·rw[aH e]at h;subst h;exact yO e
 ·rw[aP e]at h;subst h;exact qj e
theorem aSR{vs:e_}{i:Nat}{p:V3 K}(h:vs[i]?=some p):dI prog 44 (aV vs) (i*30)=some (bZ p):=tB (by rw[vi,h];rfl)
theorem aFW(vs:e_)(i:Nat):(aV vs).drop (i*30)=aV (vs.drop i):=by unfold aV;rw[VY gL,List.map_drop]
theorem RG(vs:e_)(i:Nat):(aV vs).take (i*30)=aV (vs.take i):=by unfold aV;rw[VZ gL,Dk]
section
variable{Bs:aa}{vs:e_}{v:V3 K}{m:Nat}
def yX(n i:Nat):aX:=[(5,vI i),(0,sl 0 n),(3,ptr 1)]
def uT(vs:e_)(v:V3 K):aL:=[(0,.view (aV vs)),(1,.aM (cK v).cs 44)]
noncomputable def XP{n i:Nat}{p:V3 K}(hi:i<n)(hp:vs[i]?=some p)(sp:aI m p)(sv:aI m v)(hm:8*m+100<=aD)(ht:decide (eD p v=0)=t)(more:bM prog Bs 36):bM prog Bs 36:=
 .lt 10 i n true (aH hi)::.dj f172 13 0 n i 30 hi k_::.ld f172 14 44 0 (i*30) (.view (aV vs)) (bZ p) rfl (aSR hp) k_::(aXi sp sv o_).at 16::.rw 18 _ (.bool t) (aSQ ht)::more
theorem aFX{n i:Nat}{p:V3 K}(hi:i<n)(hp:vs[i]?=some p)(sp:aI m p)(sv:aI m v)(hm:8*m+100<=aD)(hb:eD p v<0)(h63:n<1000):
  ai prog Bs 36 (aJ (ah f172 0)) (yX n i) (uT vs v) 2 ⟨.normal,yX n (i+1),uT vs v,2⟩:=
 aE (XP hi hp sp sv hm (aP o_) [.rw 21 _ a_ (RA (z:=eD p v) (t:=false) (aH o_)),.sum 23 i 1 (i+1) rfl o_])
theorem aSS{n i:Nat}{p:V3 K}(hi:i<n)(hp:vs[i]?=some p)(sp:aI m p)(sv:aI m v)(hm:8*m+100<=aD)(hb:eD p v=0):
  ai prog Bs 36 (aJ (ah f172 0)) (yX n i) (uT vs v) 2 ⟨.ret,[(4,sl 0 n)],uT vs v,2⟩:=
 aE (XP hi hp sp sv hm (aH hb) [])
theorem aST{n i:Nat}{p:V3 K}(hi:i<n)(hp:vs[i]?=some p)(sp:aI m p)(sv:aI m v)(hm:8*m+100<=aD)(hb:0<eD p v):
  ai prog Bs 36 (aJ (ah f172 0)) (yX n i) (uT vs v) 2 ⟨.exit 0,yX n i,uT vs v,2⟩:=
 aE (XP hi hp sp sv hm (aP o_) [.rw 21 _ b_ (RA (z:=eD p v) (t:=true) (aP o_))])
theorem aSU(hs:∀ p∈vs,aI m p)(sv:aI m v)(hm:8*m+100<=aD)(h63:vs.length<1000){i:Nat}(hi:i<=vs.length)(h1:∀(j:Nat) (q:V3 K),j<i->vs[j]?=some q->eD q v<0)(h2:i=vs.length\/∃ p,vs[i]?=some p/\0<eD p v):
  ai prog Bs 36 (.block 0 (ah f172 0)) (yX vs.length 0) (uT vs v) 2 ⟨.normal,yX vs.length i,uT vs v,2⟩:=
 cd (id:=0) (cA i (yX vs.length) (λ_=>uT vs v) (λ_ _ _=>Iff.rfl) (r:=⟨.exit 0,yX vs.length i,uT vs v,2⟩) (λj hj=>by
  have hx:vs[j]?=some vs[j]:=bo o_;exact aFX o_ hx (hs _ (dB _)) sv hm (h1 j _ hj hx) h63) (by
  rcases h2 with rfl|⟨p,h2,h3⟩
  ·exact aE [.lt 10 vs.length vs.length false s_]
  ·exact aST (eA.1 h2).1 h2 (hs p (cL h2)) sv hm h3) n_)
theorem aSV(hs:∀ p∈vs,aI m p)(sv:aI m v)(hm:8*m+100<=aD)(h63:vs.length<1000){i:Nat}{p:V3 K}(hp:vs[i]?=some p)(h0:eD p v=0)(h1:∀(j:Nat) (q:V3 K),j<i->vs[j]?=some q->eD q v<0){w:h_}(gJ:cW w va vs.length (aV vs)):
  Calls prog 172 #[va,bZ v] w λe w'=>e=.returned va/\Below w.heap.size w w':=by
 have hl:∀ s∈[cH.row va vs.length (aV vs),cH.plain (bZ v)],s.OK w:=by
  intro s hs;simp at hs;rcases hs with rfl|rfl
  ·exact⟨gJ,bB.1 (ee _)⟩
  ·rfl
 have al:=(eA.1 hp).1;have lo:ai prog (aa.at w) 36 (.block 0 (ah f172 0)) (yX vs.length 0) (uT vs v) 2 ⟨.ret,[(4,sl 0 vs.length)],uT vs v,2⟩:=
  cd (id:=0) (cA i (yX vs.length) (λ_=>uT vs v) (λ_ _ _=>Iff.rfl) (r:=⟨.ret,[(4,sl 0 vs.length)],uT vs v,2⟩) (λj hj=>by have hx:vs[j]?=some vs[j]:=bo o_;exact aFX o_ hx (hs _ (dB _)) sv hm (h1 j _ hj hx) h63) (aSS al hp (hs p (cL hp)) sv hm h0) n_)
 refine mh (Q:=λe w'=>e=.returned va/\Below w.heap.size w w') mixed func172 [cH.row va vs.length (aV vs),cH.plain (bZ v)] hl 100 (N:=36) k_
  (rs:=[(.code 0 _ _ _ _ _ lo:bd prog (aa.at w) 36)]) (v:=sl 0 vs.length) (ms:=[]) k_ λaz cr v' w' kz bE _ du=>⟨?_,bE.base⟩
 cases du with
 |cons h5 _=>rw[Ko kz h5];rfl
end
section
variable{vs:e_}{v:V3 K}{m:Nat}
noncomputable def XQ(Bs:aa)(vs:e_)(v:V3 K)(i:Nat)(hi:i<=vs.length)(h63:vs.length<1000)(more:bM prog Bs 36):bM prog Bs 36:=
 .Mj f172 24 2 44 30 zV.v k_::.upto f172 27 0 vs.length i 30 hi k_::
 .RE f172 28 3 2 0 i i 44 30 360 0 0 [] 0 (.view (aV vs)) (aV (vs.take i)) (kA i) rfl (by
   show((aV vs).drop 0 |>.take (i*30)).length=i*30;rw[mT,RG,rZ,jH,oP hi]) rfl (by
   show[]++(((aV vs).drop 0).take (i*30))=_;rw[mT,RG];rfl) (Mb vs) d_ (by simp[maxLen];omega) o_ k_::
 .bs f172 30 4 1 44 30 [0] zV.v [bZ v] (aV [v]).toArray (.row (aV [v]) 44 30) rfl (bB.1 k_) (bB.1 (ee _)) k_ k_ d_ d_ k_::
 .qH f172 31 5 3 i 1 (i+1) 44 30 360 (aV (vs.take i)) 4 (.row (aV [v]) 44 30) (aV (vs.take i++[v])) rfl rfl (rZ _) (by rw[rZ,jH,oP hi]) (Qs _ _) (Mb _) d_ (by simp[maxLen];omega) o_ k_::more
theorem aSW(hs:∀ p∈vs,aI m p)(sv:aI m v)(hm:8*m+100<=aD)(h63:vs.length<1000){i:Nat}(hi:i<=vs.length)(h1:∀(j:Nat) (q:V3 K),j<i->vs[j]?=some q->eD q v<0)(h2:i=vs.length\/∃ p,vs[i]?=some p/\0<eD p v):
  lV prog 172 [vR vs,.p (bZ v)] 44 30 (vs.length+1) (aV (vs.take i++[v]++vs.drop i)):=by
 have aC:([vR vs,aR.p (bZ v)].all aR.ok)=true:=by simp only[dL,eX,iJ];rw[show(vR vs).ok=true from ee vs];rfl
 have lo:=λBs=>aSU (Bs:=Bs) hs sv hm h63 hi h1 h2;have hlen:(aV (vs.take i++[v]++vs.drop i)).length=(vs.length+1)*30:=by
  rw[rZ];congr 1
  simp[jH];omega
 have gm:(aV (vs.take i++[v])).length=(i+1)*30:=by
  rw[rZ];congr 1
  simp[jH];omega
 rcases e7 i vs.length with al|ep
 ·refine yo (k:=6) mixed func172 aC 200 (N:=36) k_ (λw=>.code 0 _ _ _ _ _ (lo _)::XQ _ vs v i hi h63 [.behind f172 34 0 vs.length i (vs.length-i) 30 o_ o_ k_,.RE f172 35 6 5 (i+1) (vs.length-i) (vs.length+1) 44 30 360 (i*30) i (aV (vs.take i++[v])) 0 (.view (aV vs)) (aV (vs.take i++[v]++vs.drop i)) o_ rfl (by
    show(((aV vs).drop (i*30)).take ((vs.length-i)*30)).length=(vs.length-i)*30;rw[aFW,RG,rZ,jH,wy,Nat.min_self]) gm (by
    show _++(((aV vs).drop (i*30)).take ((vs.length-i)*30))=_;rw[aFW,RG,show(vs.drop i).take (vs.length-i)=vs.drop i from kT (by rw[wy];exact bC _),Qs]) (Mb vs) d_ (by simp[maxLen];omega) o_ k_]) (λw=>k_) (ee _) hlen
 ·have cz:i=vs.length:=by omega
  subst cz;have e:vs.take vs.length++[v]++vs.drop vs.length=vs.take vs.length++[v]:=by rw[List.drop_length,jL]
  rw[e]at hlen ⊢;by_cases h0:vs.length=0
  ·refine yo (k:=6) mixed func172 aC 200 (N:=36) k_ (λw=>.code 0 _ _ _ _ _ (lo _)::XQ _ vs v vs.length hi h63 [.rw 33 (vI vs.length) (vI 0) (by rw[h0]),.aSN f172 34 0 vs.length 30 k_,.RE f172 35 6 5 (vs.length+1) vs.length (vs.length+1) 44 30 360 0 0 (aV (vs.take vs.length++[v])) 0 (.view (aV vs)) (aV (vs.take vs.length++[v])) o_ rfl (by
     show(((aV vs).drop 0).take (vs.length*30)).length=vs.length*30;rw[h0];rfl) gm (by
     show _++(((aV vs).drop 0).take (vs.length*30))=_;rw[show((aV vs).drop 0).take (vs.length*30)=[]by rw[h0,lP,aAL]];exact jL _) (Mb vs) d_ (by simp[maxLen];omega) o_ k_]) (λw=>k_) (ee _) hlen
  ·refine yo (k:=7) mixed func172 aC 200 (N:=36) k_ (λw=>.code 0 _ _ _ _ _ (lo _)::XQ _ vs v vs.length hi h63 [.aSP f172 34 0 0 vs.length 0 30 6 (.view (aV vs)) rfl k_,.qH f172 35 7 5 (vs.length+1) 0 (vs.length+1) 44 30 360 (aV (vs.take vs.length++[v])) 6 (.view []) (aV (vs.take vs.length++[v])) rfl rfl rfl gm (jL _) n_ d_ (by simp[maxLen];omega) o_ k_]) (λw=>k_) (ee _) hlen
end
def eM(ps:c_)(i:Nat):HS K:=match ps[i]? with|some p=>p|none=>⟨0,0⟩
theorem ql{ps:c_}{i:Nat}{p:HS K}(h:ps[i]?=some p):eM ps i=p:=by unfold eM;rw[h]
def JD(i j k:Nat)(x:V3 K)(l:Nat)(p:HS K):Bool:=decide (l=i)||(decide (l=j)||(decide (l=k)||decide (OF.aG (dot p.n x-p.d)<=0)))
def Bb(ps:c_)(i j k:Nat)(x:V3 K):Bool:=(List.range ps.length).all λl=>JD i j k x l (eM ps l)
def uU(ps:c_)(acc:e_)(i j k:Nat):e_:=
 if aW (eM ps i).n (eM ps j).n (eM ps k).n=0 then acc else if Bb ps i j k (lH (eM ps i) (eM ps j) (eM ps k))then aXT acc (lH (eM ps i) (eM ps j) (eM ps k))else acc
theorem aSX{vs:e_}{v:V3 K}{m:Nat}(hs:∀ p∈vs,aI m p)(sv:aI m v)(hm:8*m+100<=aD)(h63:vs.length<1000){i:Nat}{p:V3 K}(hp:vs[i]?=some p)(h0:eD p v=0)(h1:∀(j:Nat) (q:V3 K),j<i->vs[j]?=some q->eD q v<0)
  {o:Oper} {y:m_} (ho:dD o.op=some y) (k:Nat):cI prog Bs o [.func (.func 172) #[] #[],sl k vs.length,bZ v] [(k,some (.row (aV vs) 44 30))] (sl k vs.length) []:=by
 refine jV (fi:=[]) (ca:=[]) ho k_ λι c w bE hn args' bh=>?_;rw[jg,jL]at bh;obtain⟨va,vb,rfl,hv,iz⟩:=jv bh;rw[iz.eZ rfl];have hk:c k=some _:=hn _ (aT ..);have hr:=po (len:=vs.length*30) bE hk rfl (bB.1 (ee vs)) (λh=>by rw[h]) hv;have e:(((Obj.row (aV vs) 44 30).cells.drop 0).take (vs.length*30))=aV vs:=by show((aV vs).drop 0).take (vs.length*30)=_;rw[mT,kT (by rw[rZ];exact bC _)]
 rw[e]at hr;refine(aSV hs sv hm h63 hp h0 h1 hr).mono ?_
 rintro e w' ⟨rfl,hb⟩
 exact⟨ι,_,rfl,Map.le.refl _,hv,bE.call hb⟩
section
variable{Bs:aa}{ps:c_}{m:Nat}
def JE(n i j k l:Nat)(f:Bool):aX:=[(10,vI l),(9,.bool f),(0,sl 0 n),(4,vI i),(5,vI j),(6,vI k),(7,ptr 4)]
def Bc(ps:c_)(x:V3 K):aL:=[(0,.view (bt ps)),(4,.aM (cK x).cs 44)]
theorem aFY{i j k l:Nat}{p:HS K}{x:V3 K}(hl:l<ps.length)(hp:ps[l]?=some p)(sp:bO m p)(sx:aI m x)(pn:p.n≠0)(hm:100*m+1000<=aD)(ht:JD i j k x l p=t)(h63:ps.length<1000):
  ai prog Bs 81 (aJ (ah f131 6)) (JE ps.length i j k l true) (Bc ps x) 5 ⟨.normal,JE ps.length i j k (l+1) t,Bc ps x,5⟩:=by
 unfold JD at ht;have sd:=aX5 sp sx o_ pn;by_cases h1:l=i
 ·rw[aH h1,HI]at ht;subst ht;exact aE [.lt 48 l ps.length true (aH hl),.fN 56 l i true (aH h1),.sum 53 l 1 (l+1) rfl o_]
 rw[aP h1,zM]at ht;by_cases h2:l=j
 ·rw[aH h2,HI]at ht;subst ht;exact aE [.lt 48 l ps.length true (aH hl),.fN 56 l i false (aP h1),.fN 60 l j true (aH h2),.sum 53 l 1 (l+1) rfl o_]
 rw[aP h2,zM]at ht;by_cases h3:l=k
 ·rw[aH h3,HI]at ht;subst ht;exact aE [.lt 48 l ps.length true (aH hl),.fN 56 l i false (aP h1),.fN 60 l j false (aP h2),.fN 65 l k true (aH h3),.sum 53 l 1 (l+1) rfl o_]
 rw[aP h3,zM]at ht;exact aE [.lt 48 l ps.length true (aH hl),.fN 56 l i false (aP h1),.fN 60 l j false (aP h2),.fN 65 l k false (aP h3),.dj f131 70 0 ps.length l 40 hl k_,.ld f131 71 54 0 (l*40) (.view (bt ps)) (dK p) rfl (Rz hp) k_,sd.at 73,.rw 74 (.bool (decide (OF.aG (dot p.n x-p.d)<=0))) (.bool t) (by rw[ht]),.sum 53 l 1 (l+1) rfl o_]
theorem aSY{i j k l:Nat}{x:V3 K}:ai prog Bs 81 (aJ (ah f131 6)) (JE ps.length i j k l false) (Bc ps x) 5 ⟨.exit 6,[(9,.bool false)],Bc ps x,5⟩:=by
 by_cases h:l<ps.length
 ·exact aE [.lt 48 l ps.length true (aH h)]
 ·exact aE [.lt 48 l ps.length false (aP h)]
theorem aSZ{i j k:Nat}{x:V3 K}(hs:∀ p∈ps,bO m p/\p.n≠0)(sx:aI m x)(hm:100*m+1000<=aD)(h63:ps.length<1000):
  ai prog Bs 81 (.block 6 (ah f131 6)) (JE ps.length i j k 0 true) (Bc ps x) 5 ⟨.normal,[(9,.bool (Bb ps i j k x))],Bc ps x,5⟩:=by
 unfold Bb;rcases JA (λl=>JD i j k x l (eM ps l)) ps.length with h|⟨n,hn,h2,h3,h4⟩
 ·rw[h];exact cd (id:=6) (cA ps.length (λl=>JE ps.length i j k l true) (λ_=>Bc ps x) (λ_ _ _=>Iff.rfl) (r:=⟨.exit 6,[(9,.bool true)],Bc ps x,5⟩) (λl hl=>by have hx:ps[l]?=some ps[l]:=bo hl;have:=JB h hl;rw[ql hx]at this;exact aFY hl hx (hs _ (dB hl)).1 sx (hs _ (dB hl)).2 hm this h63) (aE [.lt 48 ps.length ps.length false s_]) n_)
 ·rw[h4];exact cd (id:=6) (cA (n+1) (λl=>JE ps.length i j k l (decide (l<=n))) (λ_=>Bc ps x) (λ_ _ _=>Iff.rfl) (r:=⟨.exit 6,[(9,.bool false)],Bc ps x,5⟩) (λl hl=>by
   have lX:l<ps.length:=by omega
   have hx:ps[l]?=some ps[l]:=bo lX;simp only[aH (show l<=n by omega)];refine aFY lX hx (hs _ (dB lX)).1 sx (hs _ (dB lX)).2 hm ?_ h63;by_cases he:l=n
   ·subst he;rw[ql hx]at h2;rw[h2];exact(aP o_).symm
   ·have:=h3 l o_;rw[ql hx]at this;rw[this];exact(aH o_).symm) (by
   simp only[aP (show ¬n+1<=n by omega)];exact aSY) n_)
def MX(n i j k L:Nat):aX:=[(6,vI k),(5,vI j),(4,vI i),(0,sl 0 n),(3,sl 3 L)]
def pc(ps:c_):aL:=[(0,.view (bt ps))]
def pd(acc:e_):List Obj:=[.row (aV acc) 44 30]
noncomputable def RH{i j k:Nat}{p q r:HS K}(hi:i<ps.length)(hj:j<i)(hk:k<j)(hp:ps[i]?=some p)(hq:ps[j]?=some q)(hr:ps[k]?=some r)(sp:bO m p)(sq:bO m q)(sr:bO m r)(pn:p.n≠0)(qn:q.n≠0)(rn:r.n≠0)(hm:200*m+1000<=aD){u:i_}
  (hu:(if aW p.n q.n r.n=0 then Value.tuple #[zV.v,.int .i64 11]else .tuple #[bZ (lH p q r),.int .i64 0])=u) (more:bM prog Bs 81):bM prog Bs 81:=
 .lt 24 k j true (aH hk)::.dj f131 30 0 ps.length i 40 hi k_::.ld f131 31 54 0 (i*40) (.view (bt ps)) (dK p) rfl (Rz hp) k_::.dj f131 34 0 ps.length j 40 o_ k_::.ld f131 35 54 0 (j*40) (.view (bt ps)) (dK q) rfl (Rz hq) k_::
 .dj f131 38 0 ps.length k 40 o_ k_::.ld f131 39 54 0 (k*40) (.view (bt ps)) (dK r) rfl (Rz hr) k_::(hu▸aRc sp sq sr hm pn qn rn:aF prog 171 [dK p,dK q,dK r] u).at 40::more
theorem aS0{i j k M:Nat}(hs:∀ p∈ps,bO m p/\p.n≠0)(hm:200*m+1000<=aD)(hM:120*m+365<=M)(Bd:100*M+1000<=aD)(ha:∀ v∈acc,aI M v)(hL:acc.length<1000)(hi:i<ps.length)(hj:j<i)(hk:k<j)(h63:ps.length<1000):
  ∃ σ gH,(∀ CJ:e_,DI (pc ps++dY [some 2] (pd CJ)) 3 σ (MX ps.length i j (k+1) (uU ps acc i j k).length) (pc ps) (pd (uU ps acc i j k))=true)/\
   ai prog Bs 81 (aJ (ah f131 4)) (MX ps.length i j k acc.length) (pc ps++marks 3 (pd acc)) 4 ⟨.normal,gZ 3 σ (MX ps.length i j (k+1) (uU ps acc i j k).length),pc ps++dY σ (pd (uU ps acc i j k)),gH⟩:=by
 have hp:ps[i]?=some ps[i]:=bo hi;have hq:ps[j]?=some ps[j]:=bo o_;have hr:ps[k]?=some ps[k]:=bo o_;obtain⟨sp,pn⟩:=hs _ (dB hi);obtain⟨sq,qn⟩:=hs _ (dB (show j<ps.length by omega));obtain⟨sr,rn⟩:=hs _ (dB (show k<ps.length by omega));unfold uU;rw[ql hp,ql hq,ql hr];generalize ps[i]=p at *;generalize ps[j]=q at *;generalize ps[k]=r at *;by_cases hd:aW p.n q.n r.n=0
 ·rw[aB hd];refine⟨[some 3],5,λCJ=>k_,?_⟩;exact fD mixed 200 (RH hi hj hk hp hq hr sp sq sr pn qn rn hm (aB hd) [.sum 26 k 1 (k+1) rfl o_]) k_
 ·rw[av hd];have sx:aI M (lH p q r):=(aI.lH sp sq sr hd).mono hM;have mM:m<=M:=by clear hm Bd;omega
  have pU:∀ p∈ps,bO M p/\p.n≠0:=λt ht=>⟨(hs t ht).1.mono mM,(hs t ht).2⟩;have lo:=aSZ (Bs:=Bs) (i:=i) (j:=j) (k:=k) pU sx Bd h63;generalize lH p q r=x at *;by_cases hb:Bb ps i j k x=true
  ·rw[aB hb];rw[hb]at lo;rcases RF x acc with ⟨t,y,h1,h2,h3,h4⟩|⟨t,h1,h2,h3,h4⟩
   ·rw[h4];refine⟨[some 3],5,λCJ=>k_,?_⟩;exact fD mixed 200 (RH hi hj hk hp hq hr sp sq sr pn qn rn hm (av hd) [.code 6 _ _ _ _ _ lo,.step 79 (aw f131 79) [.func (.func 172) #[] #[],sl 3 acc.length,bZ x] [(3,some (.row (aV acc) 44 30))] (sl 3 acc.length) [] (aSX ha sx (by clear hm;omega) hL h1 h2 h3 (y:=.func 172) k_ 3),.sum 26 k 1 (k+1) rfl o_]) k_
   ·have hlen:(aXT acc x).length=acc.length+1:=by rw[h4];simp only[lh,jH,wy,Qf];omega
    have hc:=aSW ha sx (by clear hm;omega) hL h1 h2 h3;rw[<-h4]at hc;rw[hlen];generalize aXT acc x=aFZ at *;refine⟨[some 5],6,λCJ=>k_,?_⟩;exact fD mixed 200 (RH hi hj hk hp hq hr sp sq sr pn qn rn hm (av hd) [.code 6 _ _ _ _ _ lo,.step 79 (aw f131 79) [.func (.func 172) #[] #[],sl 3 acc.length,bZ x] [(5,none),(3,some (.row (aV acc) 44 30))] (sl 5 (acc.length+1)) [(5,.row (aV aFZ) 44 30)]
      (rR hc (.w (x:=.row (aV acc) 44 30) rfl (ee acc) w9 (.p k_ .nil)) (x:=.func 172) k_ k_ (ee aFZ) 5),
     .sum 26 k 1 (k+1) rfl o_]) k_
  ·have jU:Bb ps i j k x=false:=by cases h:Bb ps i j k x<;>first|rfl|exact absurd h hb
   rw[av hb];rw[jU]at lo;refine⟨[some 3],5,λCJ=>k_,?_⟩;exact fD mixed 200 (RH hi hj hk hp hq hr sp sq sr pn qn rn hm (av hd) [.code 6 _ _ _ _ _ lo,.sum 26 k 1 (k+1) rfl o_]) k_
end
def pO(ps:c_)(acc:e_)(i j:Nat):Nat->List (V3 K)
 |0=>acc
 |k+1=>uU ps (pO ps acc i j k) i j k
def oJ(ps:c_)(acc:e_)(i:Nat):Nat->List (V3 K)
 |0=>acc
 |j+1=>pO ps (oJ ps acc i j) i j j
def sB(ps:c_):Nat->List (V3 K)
 |0=>[]
 |i+1=>oJ ps (sB ps i) i i
def fC(ps:c_):e_:=sB ps ps.length
theorem aS1{v x:V3 K}:∀{vs:e_},x∈aXT vs v->x∈vs\/x=v:=λ{vs} h=>by
 rcases RF v vs with ⟨_,_,_,_,_,h4⟩|⟨t,_,_,_,h4⟩
 ·rw[h4]at h;exact .inl h
 ·rw[h4]at h;simp only[eW,Cz]at h;rcases h with (h|h)|h
  ·exact .inl (I5 h)
  ·exact .inr h
  ·exact .inl (XF h)
theorem aS2(v:V3 K)(vs:e_):(aXT vs v).length<=vs.length+1:=by
 rcases RF v vs with ⟨_,_,_,_,_,h4⟩|⟨t,_,_,_,h4⟩
 ·rw[h4];omega
 ·rw[h4];simp only[lh,jH,wy,Qf];omega
theorem aS3(ps:c_)(acc:e_)(i j k:Nat):(uU ps acc i j k).length<=acc.length+1:=by
 unfold uU;by_cases h:aW (eM ps i).n (eM ps j).n (eM ps k).n=0
 ·rw[aB h];omega
 ·rw[av h];split
  ·exact aS2 _ _
  ·omega
theorem XR{ps:c_}{m:Nat}(hs:∀ p∈ps,bO m p/\p.n≠0){i:Nat}(hi:i<ps.length):bO m (eM ps i):=by rw[ql (bo hi)];exact(hs _ (dB hi)).1
theorem aS4{ps:c_}{m M:Nat}(hs:∀ p∈ps,bO m p/\p.n≠0)(hM:120*m+365<=M)(ha:∀ v∈acc,aI M v){i j k:Nat}(hi:i<ps.length)(hj:j<ps.length)(hk:k<ps.length):∀ v∈uU ps acc i j k,aI M v:=by
 unfold uU;by_cases h:aW (eM ps i).n (eM ps j).n (eM ps k).n=0
 ·rw[aB h];exact ha
 ·rw[av h];split
  ·intro v hv;rcases aS1 hv with hv|hv
   ·exact ha v hv
   ·rw[hv];exact(aI.lH (XR hs hi) (XR hs hj) (XR hs hk) h).mono hM
  ·exact ha
section
variable{ps:c_}{m M:Nat}
theorem XS(hs:∀ p∈ps,bO m p/\p.n≠0)(hM:120*m+365<=M){acc:e_}(ha:∀ v∈acc,aI M v){i j:Nat}(hi:i<ps.length)(hj:j<i):∀ k,k<=j->(∀ v∈pO ps acc i j k,aI M v)/\(pO ps acc i j k).length<=acc.length+k
 |0,_=>⟨ha,bC _⟩
 |k+1,h=>by obtain⟨h1,h2⟩:=XS hs hM ha hi hj k o_;have:=aS3 ps (pO ps acc i j k) i j k;exact⟨aS4 hs hM h1 hi o_ o_,by unfold pO;omega⟩
theorem XT(hs:∀ p∈ps,bO m p/\p.n≠0)(hM:120*m+365<=M)(h9:ps.length<=9){acc:e_}(ha:∀ v∈acc,aI M v){i:Nat}(hi:i<ps.length):∀ j,j<=i->(∀ v∈oJ ps acc i j,aI M v)/\(oJ ps acc i j).length<=acc.length+9*j
 |0,_=>⟨ha,bC _⟩
 |j+1,h=>by obtain⟨h1,h2⟩:=XT hs hM h9 ha hi j o_;obtain⟨h3,h4⟩:=XS hs hM h1 hi (show j<i by omega) j (bC _);exact⟨h3,by unfold oJ;omega⟩
theorem XU(hs:∀ p∈ps,bO m p/\p.n≠0)(hM:120*m+365<=M)(h9:ps.length<=9):∀ i,i<=ps.length->(∀ v∈sB ps i,aI M v)/\(sB ps i).length<=81*i
 |0,_=>⟨λv hv=>(by cases hv),bC _⟩
 |i+1,h=>by obtain⟨h1,h2⟩:=XU hs hM h9 i o_;obtain⟨h3,h4⟩:=XT hs hM h9 h1 (show i<ps.length by omega) i (bC _);exact⟨h3,by unfold sB;omega⟩
theorem XV{m:Nat}:∀ x∈pc ps,fV m x.2:=λx hx=>by simp only[pc,cC,j6,j7]at hx;subst hx;exact λv hv=>iW (bB.1 (dC ps) v hv)
theorem XW{m:Nat}:∀ x∈pd acc,fV m x:=λx hx=>by simp only[pd,cC,j6,j7]at hx;subst hx;exact λv hv=>iW (bB.1 (ee acc) v hv)
variable{Bs:aa}
theorem aS5{i j:Nat}(hs:∀ p∈ps,bO m p/\p.n≠0)(hm:200*m+1000<=aD)(hM:120*m+365<=M)(Bd:100*M+1000<=aD)(ha:∀ v∈acc,aI M v)(hi:i<ps.length)(hj:j<i)(h9:ps.length<=9)(hL:acc.length+j<1000):
  ai prog Bs 81 (.block 4 (ah f131 4)) (gZ 3 [some 2] (MX ps.length i j 0 acc.length)) (pc ps++dY [some 2] (pd acc)) 3 ⟨.normal,[(3,sl 3 (pO ps acc i j j).length)],pc ps++marks 3 (pd (pO ps acc i j j)),4⟩:=by
 have:=rJ (P:=prog) (B:=Bs) (N:=81) (b:=aJ (ah f131 4)) (next:=3) (p:=1) (r:=⟨.exit 4,[(3,sl 3 (pO ps acc i j j).length)],pc ps++marks 3 (pd (pO ps acc i j j)),4⟩) j
  (λk=>MX ps.length i j k (pO ps acc i j k).length) (λ_=>pc ps) (λk=>pd (pO ps acc i j k)) [some 2] (λ_ _=>rfl) (λ_ _=>⟨XV,XW⟩) k_ k_
  (λk hk=>by obtain⟨h1,h2⟩:=XS hs hM ha hi hj k o_;obtain⟨σ,gH,e1,e2⟩:=aS0 (Bs:=Bs) hs hm hM Bd h1 o_ hi hj hk o_;exact⟨σ,gH,e1 _,e2⟩)
  (by generalize pO ps acc i j j=a;exact aE [.lt 24 j j false s_]) n_
 exact cd (id:=4) this
def XX(n i j L:Nat):aX:=[(5,vI j),(4,vI i),(0,sl 0 n),(3,sl 2 L)]
theorem aS6{i:Nat}(hs:∀ p∈ps,bO m p/\p.n≠0)(hm:200*m+1000<=aD)(hM:120*m+365<=M)(Bd:100*M+1000<=aD)(ha:∀ v∈acc,aI M v)(hi:i<ps.length)(h9:ps.length<=9)(hL:acc.length+9*i<1000):
  ai prog Bs 81 (.block 2 (ah f131 2)) (gZ 2 [some 1] (XX ps.length i 0 acc.length)) (pc ps++dY [some 1] (pd acc)) 2 ⟨.normal,[(3,sl 2 (oJ ps acc i i).length)],pc ps++marks 2 (pd (oJ ps acc i i)),3⟩:=by
 have:=rJ (P:=prog) (B:=Bs) (N:=81) (b:=aJ (ah f131 2)) (next:=2) (p:=1) (r:=⟨.exit 2,[(3,sl 2 (oJ ps acc i i).length)],pc ps++marks 2 (pd (oJ ps acc i i)),3⟩) i
  (λj=>XX ps.length i j (oJ ps acc i j).length) (λ_=>pc ps) (λj=>pd (oJ ps acc i j)) [some 1] (λ_ _=>rfl) (λ_ _=>⟨XV,XW⟩) k_ k_
  (λj hj=>by obtain⟨h1,h2⟩:=XT hs hM h9 ha hi j o_;have lo:=aS5 (Bs:=Bs) hs hm hM Bd h1 hi hj h9 o_;refine⟨[some 3],4,k_,?_⟩;show ai _ _ _ _ _ _ _ ⟨.normal,gZ 2 [some 3] (XX ps.length i (j+1) (pO ps (oJ ps acc i j) i j j).length),pc ps++dY [some 3] (pd (pO ps (oJ ps acc i j) i j j)),4⟩;generalize oJ ps acc i j=a at *;generalize pO ps a i j j=b at *;exact aE [.lt 19 j i true (aH hj),.code 4 _ _ _ _ _ lo,.sum 21 j 1 (j+1) rfl o_])
  (by generalize oJ ps acc i i=a;exact aE [.lt 19 i i false s_]) n_
 exact cd (id:=2) this
def XY(n i L:Nat):aX:=[(4,vI i),(0,sl 0 n),(3,sl 1 L)]
theorem aS7(hs:∀ p∈ps,bO m p/\p.n≠0)(hm:200*m+1000<=aD)(hM:120*m+365<=M)(Bd:100*M+1000<=aD)(h9:ps.length<=9):
  ai prog Bs 81 (.block 0 (ah f131 0)) (gZ 1 [none] (XY ps.length 0 0)) (pc ps++dY [none] (pd [])) 1 ⟨.normal,[(3,sl 1 (fC ps).length)],pc ps++marks 1 (pd (fC ps)),2⟩:=by
 have:=rJ (P:=prog) (B:=Bs) (N:=81) (b:=aJ (ah f131 0)) (next:=1) (p:=1) (r:=⟨.exit 0,[(3,sl 1 (sB ps ps.length).length)],pc ps++marks 1 (pd (sB ps ps.length)),2⟩) ps.length
  (λi=>XY ps.length i (sB ps i).length) (λ_=>pc ps) (λi=>pd (sB ps i)) [none] (λ_ _=>rfl) (λ_ _=>⟨XV,XW⟩) k_ k_
  (λi hi=>by obtain⟨h1,h2⟩:=XU hs hM h9 i o_;have lo:=aS6 (Bs:=Bs) hs hm hM Bd h1 hi h9 o_;refine⟨[some 2],3,k_,?_⟩;show ai _ _ _ _ _ _ _ ⟨.normal,gZ 1 [some 2] (XY ps.length (i+1) (oJ ps (sB ps i) i i).length),pc ps++dY [some 2] (pd (oJ ps (sB ps i) i i)),3⟩;generalize sB ps i=a at *;generalize oJ ps a i i=b at *;exact aE [.lt 14 i ps.length true (aH hi),.code 2 _ _ _ _ _ lo,.sum 16 i 1 (i+1) rfl o_])
  (by generalize sB ps ps.length=a;exact aE [.lt 14 ps.length ps.length false s_]) n_
 exact cd (id:=0) this
theorem aS8(hs:∀ p∈ps,bO m p/\p.n≠0)(hm:200*m+1000<=aD)(hM:120*m+365<=M)(Bd:100*M+1000<=aD)(h9:ps.length<=9):lV prog 131 [fZ ps] 44 30 (fC ps).length (aV (fC ps)):=by
 have aC:([fZ ps].all aR.ok)=true:=by simp only[dL,eX,fZ,aR.ok,dC,iJ]
 have lo:=λBs=>aS7 (Bs:=Bs) hs hm hM Bd h9;generalize fC ps=c at *;exact yo (k:=1) mixed func131 aC 100 (N:=81) k_ (λ_=>[.code 0 _ _ _ _ _ (lo _)]) (λ_=>k_) (ee c) (rZ c)
end
def RJ(g:V3 K)(vs:e_)(o a b:Nat):Int:=OF.aG (aW g (aA vs a-aA vs o) (aA vs b-aA vs o))
def C1(g:V3 K)(vs:e_)(o a:Nat)(b:Nat):Bool:=decide (RJ g vs o a b=0)
section
variable{Bs:aa}{vs:e_}{p:HS K}{o a:Nat}{l:l_}{m:Nat}
def Hi(n r i:Nat):aX:=[(7,vI (i+2)),(1,sl 0 n),(2,sl 1 r),(3,ptr 2)]
def xn(vs:e_)(p:HS K)(on:l_):aL:=[(0,.view (aV vs)),(1,.view (au on)),(2,.aM (c9 p).cs 54)]
theorem neB(h:decide (z=0)=!t):Value.bool (z !=0)=.bool t:=by
 congr 1
 cases t
 ·have:=kX h;subst this;rfl
 ·have:=Ir h;exact vt.2 this
theorem kL(hs:∀ v∈vs,aI m v){i:Nat}(hi:i<vs.length):aI m (aA vs i):=hs _ (cL (kJ hi))
noncomputable def flS{i:Nat}(hb:l[i]?=some b)(hn:aI m p.n)(hs:∀ v∈vs,aI m v)(ho:o<vs.length)(ha:a<vs.length)(tQ:b<vs.length)(hm:200*m+400<=aD)(ht:C1 p.n vs o a b=!t)(more:bM prog Bs 37):bM prog Bs 37:=
 .lt 11 (i+2) (l.length+2) true (aH (by have:=(eA.1 hb).1;omega))::.ix f202 18 1 (l.length+2) 0 o_ k_::.ld f202 19 3 1 0 (.view (au (o::a::l))) (vI o) rfl (ev (l:=o::a::l) (i:=0) rfl) k_::
 .dj f202 20 0 vs.length o 30 ho k_::.ld f202 21 44 0 (o*30) (.view (aV vs)) (bZ (aA vs o)) rfl (mE (kJ ho)) k_::.ix f202 24 1 (l.length+2) 1 o_ k_::.ld f202 25 3 1 1 (.view (au (o::a::l))) (vI a) rfl (ev (l:=o::a::l) (i:=1) rfl) k_::
 .dj f202 26 0 vs.length a 30 ha k_::.ld f202 27 44 0 (a*30) (.view (aV vs)) (bZ (aA vs a)) rfl (mE (kJ ha)) k_::.ix f202 31 1 (l.length+2) (i+2) (by have:=(eA.1 hb).1;omega) k_::
 .ld f202 32 3 1 (i+2) (.view (au (o::a::l))) (vI b) rfl (ev (l:=o::a::l) (i:=i+2) hb) k_::.dj f202 33 0 vs.length b 30 tQ k_::.ld f202 34 44 0 (b*30) (.view (aV vs)) (bZ (aA vs b)) rfl (mE (kJ tQ)) k_::
 (aEN hn (kL hs ho) (kL hs ha) (kL hs tQ) hm).at 35::.rw 36 _ (.bool t) (neB ht)::more
theorem aF0{i:Nat}(hb:l[i]?=some b)(hn:aI m p.n)(hs:∀ v∈vs,aI m v)(ho:o<vs.length)(ha:a<vs.length)(tQ:b<vs.length)(hm:200*m+400<=aD)(ht:C1 p.n vs o a b=true)(h63:l.length<900000):
  ai prog Bs 37 (aJ (ah f202 0)) (Hi vs.length (l.length+2) i) (xn vs p (o::a::l)) 3 ⟨.normal,Hi vs.length (l.length+2) (i+1),xn vs p (o::a::l),3⟩:=by
 have hi:=(eA.1 hb).1;exact fD mixed 200 (flS (t:=false) hb hn hs ho ha tQ hm ht [.sum 13 (i+2) 1 (i+1+2) o_ o_]) k_
theorem aS9{i:Nat}(hb:l[i]?=some b)(hn:aI m p.n)(hs:∀ v∈vs,aI m v)(ho:o<vs.length)(ha:a<vs.length)(tQ:b<vs.length)(hm:200*m+400<=aD)(ht:C1 p.n vs o a b=false):
  ai prog Bs 37 (aJ (ah f202 0)) (Hi vs.length (l.length+2) i) (xn vs p (o::a::l)) 3 ⟨.ret,[(6,.bool false)],xn vs p (o::a::l),3⟩:=
 fD mixed 200 (flS (t:=true) hb hn hs ho ha tQ hm ht []) k_
theorem aTa(hn:aI m p.n)(hs:∀ v∈vs,aI m v)(iq:∀ x∈o::a::l,x<vs.length)(hm:200*m+400<=aD)(h63:l.length<900000):cE prog 202 [.p (dK p),.r vs.length (aV vs),.r (l.length+2) (au (o::a::l))] (.bool (l.all (C1 p.n vs o a))):=by
 have aC:([aR.p (dK p),.r vs.length (aV vs),.r (l.length+2) (au (o::a::l))].all aR.ok)=true:=by simp only[dL,eX,aR.ok,iJ];rw[show(aV vs).all flat=true from ee vs,show(au (o::a::l)).all flat=true from iK _];rfl
 have ho:=iq o (aT ..);have ha:=iq a (bF _ (aT ..));have hl:∀{i b:Nat},l[i]?=some b->b<vs.length:=λh=>iq _ (bF _ (bF _ (cL h)));rcases CY (C1 p.n vs o a) l with h|⟨n,x,h1,h2,h3,h4⟩
 ·rw[h];have lo:∀ B:aa,ai prog B 37 (.block 0 (ah f202 0)) (Hi vs.length (l.length+2) 0) (xn vs p (o::a::l)) 3 ⟨.normal,[],xn vs p (o::a::l),3⟩:=λB=>
   cd (id:=0) (cA l.length (λi=>Hi vs.length (l.length+2) i) (λ_=>xn vs p (o::a::l)) (λi k _=>Iff.rfl) (r:=⟨.exit 0,[],xn vs p (o::a::l),3⟩) (λi hi=>by have hx:l[i]?=some l[i]:=bo hi;exact aF0 hx hn hs ho ha (hl hx) hm (EV h hx) h63) (aE [.lt 11 (l.length+2) (l.length+2) false s_]) n_)
  exact dV func202 aC 37 (λw=>[.code 0 _ _ _ _ _ (lo _)])
 ·rw[h4];have lo:∀ B:aa,ai prog B 37 (.block 0 (ah f202 0)) (Hi vs.length (l.length+2) 0) (xn vs p (o::a::l)) 3 ⟨.ret,[(6,.bool false)],xn vs p (o::a::l),3⟩:=λB=>
   cd (id:=0) (cA n (λi=>Hi vs.length (l.length+2) i) (λ_=>xn vs p (o::a::l)) (λi k _=>Iff.rfl) (r:=⟨.ret,[(6,.bool false)],xn vs p (o::a::l),3⟩) (λi hi=>by have al:=(eA.1 h1).1;have hx:l[i]?=some l[i]:=bo o_;exact aF0 hx hn hs ho ha (hl hx) hm (h3 i _ hi hx) h63) (aS9 h1 hn hs ho ha (hl h1) hm h2) n_)
  exact dV func202 aC 37 (λw=>[.code 0 _ _ _ _ _ (lo _)])
end
def MY(vs:e_)(i k j:Nat):Bool:=decide (OF.aG (dot (af (aA vs (i+1)-aA vs 0) (aA vs (k+1)-aA vs 0)) (aA vs (j+1)-aA vs 0))=0)
def Hj(vs:e_)(i k:Nat):Bool:=(List.range k).all (MY vs i k)
def EX(vs:e_)(i:Nat):Bool:=(List.range i).all (Hj vs i)
def we(vs:e_):Bool:=(List.range (vs.length-1)).all (EX vs)
section
variable{Bs:aa}{vs:e_}{m:Nat}
def XZ(n i k j:Nat):aX:=[(7,vI (j+1)),(5,vI (k+1)),(0,sl 0 n),(6,ptr 2)]
def sjM(vs:e_)(a c:V3 K):aL:=[(0,.view (aV vs)),(1,.aM (cK a).cs 44),(2,.aM (cK c).cs 44)]
noncomputable def X0{i k j:Nat}(hs:∀ v∈vs,aI m v)(hi:i+1<vs.length)(hk:k<i)(hj:j<k)(hm:300*m+1000<=aD)(ht:MY vs i k j=!t)(more:bM prog Bs 54):bM prog Bs 54:=
 .lt 39 (j+1) (k+1) true (aH o_)::.dj f132 45 0 vs.length (j+1) 30 o_ k_::.ld f132 46 44 0 ((j+1)*30) (.view (aV vs)) (bZ (aA vs (j+1))) rfl (mE (kJ o_)) k_::
 .dj f132 48 0 vs.length 0 30 o_ k_::.ld f132 49 44 0 (0*30) (.view (aV vs)) (bZ (aA vs 0)) rfl (mE (kJ o_)) k_::
 (aX0 (kL hs (show j+1<vs.length by omega)) (kL hs (show 0<vs.length by omega)) o_).at 50::
 (aXr (((kL hs hi).sub (kL hs (show 0<vs.length by omega))).af ((kL hs (show k+1<vs.length by omega)).sub (kL hs (show 0<vs.length by omega)))) ((kL hs (show j+1<vs.length by omega)).sub (kL hs (show 0<vs.length by omega))) o_).at 51::
 (aXu ((((kL hs hi).sub (kL hs (show 0<vs.length by omega))).af ((kL hs (show k+1<vs.length by omega)).sub (kL hs (show 0<vs.length by omega)))).dot ((kL hs (show j+1<vs.length by omega)).sub (kL hs (show 0<vs.length by omega)))) o_).at 52::
 .rw 53 _ (.bool t) (neB ht)::more
def Hk(vs:e_)(i k:Nat):aL:=sjM vs (aA vs (i+1)-aA vs 0) (af (aA vs (i+1)-aA vs 0) (aA vs (k+1)-aA vs 0))
theorem aF1{i k:Nat}(hs:∀ v∈vs,aI m v)(hi:i+1<vs.length)(hk:k<i)(hm:300*m+1000<=aD)(h63:vs.length<900000):
  ai prog Bs 54 (.block 4 (ah f132 4)) (XZ vs.length i k 0) (Hk vs i k) 3 (if Hj vs i k then⟨.normal,[],Hk vs i k,3⟩else⟨.ret,[(2,.bool true)],Hk vs i k,3⟩):=by
 unfold Hj;rcases JA (MY vs i k) k with h|⟨n,hn,h2,h3,h4⟩
 ·rw[h];exact cd (id:=4) (cA k (λj=>XZ vs.length i k j) (λ_=>Hk vs i k) (λ_ _ _=>Iff.rfl) (r:=⟨.exit 4,[],Hk vs i k,3⟩) (λj hj=>
   fD mixed 200 (X0 (t:=false) hs hi hk hj hm (JB h hj) [.sum 41 (j+1) 1 (j+1+1) rfl o_]) k_) (aE [.lt 39 (k+1) (k+1) false s_]) n_)
 ·rw[h4];exact cd (id:=4) (cA n (λj=>XZ vs.length i k j) (λ_=>Hk vs i k) (λ_ _ _=>Iff.rfl) (r:=⟨.ret,[(2,.bool true)],Hk vs i k,3⟩) (λj hj=>
   fD mixed 200 (X0 (t:=false) hs hi hk o_ hm (h3 j hj) [.sum 41 (j+1) 1 (j+1+1) rfl o_]) k_) (fD mixed 200 (X0 (t:=true) hs hi hk hn hm h2 []) k_) n_)
def MZ(n i k:Nat):aX:=[(5,vI (k+1)),(3,vI (i+1)),(0,sl 0 n),(4,ptr 1)]
def yY(vs:e_)(i:Nat):aL:=[(0,.view (aV vs)),(1,.aM (cK (aA vs (i+1)-aA vs 0)).cs 44)]
theorem aTb{i n:Nat}:∀ x∈yY vs i,fV n x.2:=λx hx=>by
 simp only[yY,cC,j6,j7]at hx;rcases hx with rfl|rfl
 ·exact λv hv=>iW (bB.1 (ee vs) v hv)
 ·exact λv hv=>iW (RV.oB _ v hv)
noncomputable def skS{i k:Nat}(hs:∀ v∈vs,aI m v)(hi:i+1<vs.length)(hk:k<i)(hm:300*m+1000<=aD)(more:bM prog Bs 54):bM prog Bs 54:=
 .lt 24 (k+1) (i+1) true (aH o_)::.dj f132 30 0 vs.length (k+1) 30 o_ k_::.ld f132 31 44 0 ((k+1)*30) (.view (aV vs)) (bZ (aA vs (k+1))) rfl (mE (kJ o_)) k_::
 .dj f132 33 0 vs.length 0 30 o_ k_::.ld f132 34 44 0 (0*30) (.view (aV vs)) (bZ (aA vs 0)) rfl (mE (kJ o_)) k_::
 (aX0 (kL hs (show k+1<vs.length by omega)) (kL hs (show 0<vs.length by omega)) o_).at 35::
 (aXU ((kL hs hi).sub (kL hs (show 0<vs.length by omega))) ((kL hs (show k+1<vs.length by omega)).sub (kL hs (show 0<vs.length by omega))) o_).at 36::more
theorem aF2{i:Nat}(hs:∀ v∈vs,aI m v)(hi:i+1<vs.length)(hm:300*m+1000<=aD)(h63:vs.length<900000):
  ai prog Bs 54 (.block 2 (ah f132 2)) (MZ vs.length i 0) (yY vs i) 2 (if EX vs i then⟨.normal,[],yY vs i,2⟩else⟨.ret,[(2,.bool true)],yY vs i,3⟩):=by
 have M3:∀ k,k<i->Hj vs i k=true->ai prog Bs 54 (aJ (ah f132 2)) (MZ vs.length i k) (yY vs i) 2 ⟨.normal,MZ vs.length i (k+1),yY vs i,2⟩:=λk hk h=>by have lo:=aF1 (Bs:=Bs) hs hi hk hm h63;rw[aB h]at lo;exact vn mixed 200 (gH:=3) (skS hs hi hk hm [.code 4 _ _ _ _ _ lo,.sum 26 (k+1) 1 (k+1+1) rfl o_]) k_ rfl k_ aTb k_
 unfold EX;rcases JA (Hj vs i) i with h|⟨n,hn,h2,h3,h4⟩
 ·rw[h];exact cd (id:=2) (cA i (λk=>MZ vs.length i k) (λ_=>yY vs i) (λ_ _ _=>Iff.rfl) (r:=⟨.exit 2,[],yY vs i,2⟩) (λk hk=>M3 k hk (JB h hk)) (aE [.lt 24 (i+1) (i+1) false s_]) n_)
 ·rw[h4];exact cd (id:=2) (cA n (λk=>MZ vs.length i k) (λ_=>yY vs i) (λ_ _ _=>Iff.rfl) (r:=⟨.ret,[(2,.bool true)],yY vs i,3⟩) (λk hk=>M3 k o_ (h3 k hk)) (by have lo:=aF1 (Bs:=Bs) hs hi hn hm h63;rw[av (by rw[h2];decide)]at lo;exact fD mixed 200 (skS hs hi hn hm [.code 4 _ _ _ _ _ lo]) k_) n_)
def JF(n i:Nat):aX:=[(3,vI (i+1)),(0,sl 0 n)]
def xo(vs:e_):aL:=[(0,.view (aV vs))]
theorem aTc{n:Nat}:∀ x∈xo vs,fV n x.2:=λx hx=>by simp only[xo,cC,j6,j7]at hx;subst hx;exact λv hv=>iW (bB.1 (ee vs) v hv)
noncomputable def stS{i:Nat}(hs:∀ v∈vs,aI m v)(hi:i+1<vs.length)(hm:300*m+1000<=aD)(more:bM prog Bs 54):bM prog Bs 54:=
 .lt 11 (i+1) vs.length true (aH hi)::.dj f132 16 0 vs.length (i+1) 30 hi k_::.ld f132 17 44 0 ((i+1)*30) (.view (aV vs)) (bZ (aA vs (i+1))) rfl (mE (kJ hi)) k_::
 .dj f132 19 0 vs.length 0 30 o_ k_::.ld f132 20 44 0 (0*30) (.view (aV vs)) (bZ (aA vs 0)) rfl (mE (kJ o_)) k_::
 (aX0 (kL hs hi) (kL hs (show 0<vs.length by omega)) o_).at 21::more
theorem aTd(hs:∀ v∈vs,aI m v)(hm:300*m+1000<=aD)(h63:vs.length<900000):cE prog 132 [.r vs.length (aV vs)] (.bool (!we vs)):=by
 have aC:([aR.r vs.length (aV vs)].all aR.ok)=true:=by simp only[dL,eX,aR.ok,iJ];exact ee vs
 have M3:∀(B:aa) i,i<vs.length-1->EX vs i=true->ai prog B 54 (aJ (ah f132 0)) (JF vs.length i) (xo vs) 1 ⟨.normal,JF vs.length (i+1),xo vs,1⟩:=λB i hi h=>by have lo:=aF2 (Bs:=B) hs (show i+1<vs.length by omega) hm h63;rw[aB h]at lo;exact vn mixed 200 (gH:=2) (stS (i:=i) hs o_ hm [.code 2 _ _ _ _ _ lo,.sum 13 (i+1) 1 (i+1+1) rfl o_]) k_ rfl k_ aTc k_
 unfold we;rcases JA (EX vs) (vs.length-1)with h|⟨n,hn,h2,h3,h4⟩
 ·rw[h];have lo:∀ B:aa,ai prog B 54 (.block 0 (ah f132 0)) (JF vs.length 0) (xo vs) 1 ⟨.normal,[],xo vs,1⟩:=λB=>
   cd (id:=0) (cA (vs.length-1) (λi=>JF vs.length i) (λ_=>xo vs) (λ_ _ _=>Iff.rfl) (r:=⟨.exit 0,[],xo vs,1⟩) (λi hi=>M3 B i hi (JB h hi)) (aE [.lt 11 (vs.length-1+1) vs.length false (aP o_)]) n_)
  exact dV func132 aC 54 (λw=>[.code 0 _ _ _ _ _ (lo _)])
 ·rw[h4];have lo:∀ B:aa,ai prog B 54 (.block 0 (ah f132 0)) (JF vs.length 0) (xo vs) 1 ⟨.ret,[(2,.bool true)],xo vs,3⟩:=λB=>
   cd (id:=0) (cA n (λi=>JF vs.length i) (λ_=>xo vs) (λ_ _ _=>Iff.rfl) (r:=⟨.ret,[(2,.bool true)],xo vs,3⟩) (λi hi=>M3 B i o_ (h3 i hi)) (by have lo:=aF2 (Bs:=B) hs (show n+1<vs.length by omega) hm h63;rw[av (by rw[h2];decide)]at lo;exact fD mixed 200 (stS (i:=n) hs o_ hm [.code 2 _ _ _ _ _ lo]) k_) n_)
  exact dV func132 aC 54 (λw=>[.code 0 _ _ _ _ _ (lo _)])
end
section
variable{Bs:aa}{vs:e_}
def M4(n j L:Nat):aX:=[(6,vI j),(1,sl 0 n),(5,sl 2 L),(2,ptr 1)]
def Be(vs:e_)(p:HS K):aL:=[(0,.view (aV vs)),(1,.aM (c9 p).cs 54)]
theorem aTe{m:Nat}{p:HS K}:∀ x∈Be vs p,fV m x.2:=λx hx=>by
 simp only[Be,cC,j6,j7]at hx;rcases hx with rfl|rfl
 ·exact λv hv=>iW (bB.1 (ee vs) v hv)
 ·exact λv hv=>iW (jP.flat _ v hv)
theorem aTf{j m q:Nat}{p:HS K}{l:l_}(hj:j<vs.length)(hp:bO m p)(jO:p.n≠0)(aZ:∀ v∈vs,aI q v)(hm:100*(m+q)+1000<=aD)(h63:l.length<900000)(sn:vs.length<1000000):
  ∃ σ gH,(∀ l0:List Nat,DI (Be vs p++dY [none] (ky l0)) 2 σ (M4 vs.length (j+1) (l++if dot p.n (aA vs j)-p.d=0 then[j]else[]).length) (Be vs p) (ky (l++if dot p.n (aA vs j)-p.d=0 then[j]else[]))=true)/\
   ai prog Bs 124 (aJ (ah f174 0)) (M4 vs.length j l.length) (Be vs p++marks 2 (ky l)) 3 ⟨.normal,gZ 2 σ (M4 vs.length (j+1) (l++if dot p.n (aA vs j)-p.d=0 then[j]else[]).length),Be vs p++dY σ (ky (l++if dot p.n (aA vs j)-p.d=0 then[j]else[])),gH⟩:=by
 have hv:=kJ hj;have hs:=aX5 hp (aZ _ (cL hv)) o_ jO;by_cases h:dot p.n (aA vs j)-p.d=0
 ·rw[aB h];have e:(Value.bool (OF.aG (dot p.n (aA vs j)-p.d)==0))=.bool true:=by rw[OF.O5.1 h];rfl
  have hr:au l++[vI j]=au (l++[j]):=by simp[au]
  have ES:(au l).length=l.length*1:=by rw[oF,gS]
  have h1:=MM l;rw[show(l++[j]).length=l.length+1 by simp];unfold ky;refine⟨[some 4],5,λl0=>k_,?_⟩;generalize OF.aG (dot p.n (aA vs j)-p.d)=z at *;generalize aA vs j=v at *;generalize au l=c0 at *;generalize au (l++[j])=c1 at *;exact aE [.lt 15 j vs.length true (aH hj),.dj f174 21 0 vs.length j 30 hj k_,.ld f174 22 44 0 (j*30) (.view (aV vs)) (bZ v) rfl (mE hv) k_,hs.at 23,.rw 24 (.bool (z==0)) b_ e,.bs f174 27 3 1 3 1 [0] (vI 0) [vI j] #[vI j] (.row [vI j] 3 1) rfl (λv hv=>by simp at hv;subst hv;rfl) (λv hv=>by simp at hv;subst hv;rfl) k_ rfl d_ d_ k_,.qH f174 28 4 2 l.length 1 (l.length+1) 3 1 8 c0 3 (.row [vI j] 3 1) c1 rfl rfl rfl ES hr (λv hv=>by simp[Obj.cells]at hv;subst hv;rfl) d_ (by simp[maxLen];omega) o_ k_,.sum 17 j 1 (j+1) rfl o_]
 ·rw[av h,jL];have e:(Value.bool (OF.aG (dot p.n (aA vs j)-p.d)==0))=.bool false:=by
   congr 1
   have:OF.aG (dot p.n (aA vs j)-p.d)≠0:=λe=>h (OF.O5.2 e);simpa using this
  refine⟨[some 2],3,λl0=>k_,?_⟩;generalize OF.aG (dot p.n (aA vs j)-p.d)=z at *;generalize aA vs j=v at *;exact aE [.lt 15 j vs.length true (aH hj),.dj f174 21 0 vs.length j 30 hj k_,.ld f174 22 44 0 (j*30) (.view (aV vs)) (bZ v) rfl (mE hv) k_,hs.at 23,.rw 24 (.bool (z==0)) a_ e,.sum 17 j 1 (j+1) rfl o_]
theorem aF3{m q:Nat}{p:HS K}(hp:bO m p)(jO:p.n≠0)(aZ:∀ v∈vs,aI q v)(hm:100*(m+q)+1000<=aD)(h63:vs.length<900000):
  ai prog Bs 124 (.block 0 (ah f174 0)) (gZ 2 [none] (M4 vs.length 0 0)) (Be vs p++dY [none] (ky [])) 2 ⟨.normal,[(5,sl 2 (bY p vs vs.length).length)],Be vs p++marks 2 (ky (bY p vs vs.length)),3⟩:=by
 have:=rJ (P:=prog) (B:=Bs) (N:=124) (b:=aJ (ah f174 0)) (next:=2) (p:=1) (r:=⟨.exit 0,[(5,sl 2 (bY p vs vs.length).length)],Be vs p++marks 2 (ky (bY p vs vs.length)),3⟩) vs.length
  (λj=>M4 vs.length j (bY p vs j).length) (λ_=>Be vs p) (λj=>ky (bY p vs j)) [none] (λ_ _=>rfl) (λj _=>⟨aTe,XJ⟩) k_ k_
  (λj hj=>by have hl:=Jx p vs j;obtain⟨σ,gH,h1,h2⟩:=aTf (Bs:=Bs) (l:=bY p vs j) hj hp jO aZ hm o_ o_;rw[aFq];exact⟨σ,gH,h1 _,h2⟩)
  (by generalize bY p vs vs.length=a;exact aE [.lt 15 vs.length vs.length false s_]) n_
 exact cd (id:=0) this
end
def JG(g:V3 K)(vs:e_)(a c b:Nat):Bool:=decide (b=a)||(decide (b=c)||decide (0<RJ g vs a c b))
section
variable{Bs:aa}{vs:e_}{on:l_}{p:HS K}{m:Nat}
def JH(n L a k j:Nat)(f:Bool):aX:=[(11,vI j),(10,.bool f),(5,sl 2 L),(8,vI a),(9,vI k),(1,sl 0 n),(2,ptr 1)]
def nX(vs:e_)(p:HS K)(on:l_):aL:=[(0,.view (aV vs)),(1,.aM (c9 p).cs 54),(2,.row (au on) 3 1)]
theorem gtB(h:decide (0<z)=t):Value.bool (decide (z>0))=.bool t:=by rw[<-h]
theorem aF4{a c k j:Nat}(hb:on[j]?=some b)(hc:on[k]?=some c)(iq:∀ x∈on,x<vs.length)(ha:a<vs.length)(hn:aI m p.n)(hs:∀ v∈vs,aI m v)(hm:200*m+400<=aD)(ht:JG p.n vs a c b=t)(h63:on.length<900000):
  ai prog Bs 124 (aJ (ah f174 6)) (JH vs.length on.length a k j true) (nX vs p on) 5 ⟨.normal,JH vs.length on.length a k (j+1) t,nX vs p on,5⟩:=by
 have hj:=(eA.1 hb).1;have hk:=(eA.1 hc).1;have tQ:=iq b (cL hb);have kz:=iq c (cL hc);unfold JG at ht;by_cases h1:b=a
 ·rw[aH h1,HI]at ht;subst ht;exact fD mixed 200 [.lt 68 j on.length true (aH hj),.ix f174 76 2 on.length j hj k_,.ld f174 77 3 2 j (.row (au on) 3 1) (vI b) rfl (ev hb) k_,.fN 79 b a true (aH h1),.sum 73 j 1 (j+1) rfl o_] k_
 rw[aP h1,zM]at ht;by_cases h2:b=c
 ·rw[aH h2,HI]at ht;subst ht;exact fD mixed 200 [.lt 68 j on.length true (aH hj),.ix f174 76 2 on.length j hj k_,.ld f174 77 3 2 j (.row (au on) 3 1) (vI b) rfl (ev hb) k_,.fN 79 b a false (aP h1),.ix f174 83 2 on.length j hj k_,.ld f174 84 3 2 j (.row (au on) 3 1) (vI b) rfl (ev hb) k_,.ix f174 87 2 on.length k hk k_,.ld f174 88 3 2 k (.row (au on) 3 1) (vI c) rfl (ev hc) k_,.fN 89 b c true (aH h2),.sum 73 j 1 (j+1) rfl o_] k_
 rw[aP h2,zM]at ht;exact fD mixed 200 [.lt 68 j on.length true (aH hj),.ix f174 76 2 on.length j hj k_,.ld f174 77 3 2 j (.row (au on) 3 1) (vI b) rfl (ev hb) k_,.fN 79 b a false (aP h1),.ix f174 83 2 on.length j hj k_,.ld f174 84 3 2 j (.row (au on) 3 1) (vI b) rfl (ev hb) k_,.ix f174 87 2 on.length k hk k_,.ld f174 88 3 2 k (.row (au on) 3 1) (vI c) rfl (ev hc) k_,.fN 89 b c false (aP h2),.dj f174 96 0 vs.length a 30 ha k_,.ld f174 97 44 0 (a*30) (.view (aV vs)) (bZ (aA vs a)) rfl (mE (kJ ha)) k_,.ix f174 101 2 on.length k hk k_,.ld f174 102 3 2 k (.row (au on) 3 1) (vI c) rfl (ev hc) k_,.dj f174 103 0 vs.length c 30 kz k_,.ld f174 104 44 0 (c*30) (.view (aV vs)) (bZ (aA vs c)) rfl (mE (kJ kz)) k_,.ix f174 108 2 on.length j hj k_,.ld f174 109 3 2 j (.row (au on) 3 1) (vI b) rfl (ev hb) k_,.dj f174 110 0 vs.length b 30 tQ k_,.ld f174 111 44 0 (b*30) (.view (aV vs)) (bZ (aA vs b)) rfl (mE (kJ tQ)) k_,(aEN hn (kL hs ha) (kL hs kz) (kL hs tQ) hm).at 112,.rw 113 _ (.bool t) (gtB ht),.sum 73 j 1 (j+1) rfl o_] k_
theorem aTg{a k j:Nat}:ai prog Bs 124 (aJ (ah f174 6)) (JH vs.length on.length a k j false) (nX vs p on) 5 ⟨.exit 6,[(10,.bool false)],nX vs p on,5⟩:=by
 by_cases h:j<on.length
 ·exact aE [.lt 68 j on.length true (aH h)]
 ·exact aE [.lt 68 j on.length false (aP h)]
def M5(g:V3 K)(vs:e_)(on:l_)(a c:Nat):Bool:=on.all (JG g vs a c)
theorem aF5{a c k:Nat}(hc:on[k]?=some c)(iq:∀ x∈on,x<vs.length)(ha:a<vs.length)(hn:aI m p.n)(hs:∀ v∈vs,aI m v)(hm:200*m+400<=aD)(h63:on.length<900000):
  ai prog Bs 124 (.block 6 (ah f174 6)) (JH vs.length on.length a k 0 true) (nX vs p on) 5 ⟨.normal,[(10,.bool (M5 p.n vs on a c))],nX vs p on,5⟩:=by
 unfold M5;rcases CY (JG p.n vs a c) on with h|⟨n,x,h1,h2,h3,h4⟩
 ·rw[h];exact cd (id:=6) (cA on.length (λj=>JH vs.length on.length a k j true) (λ_=>nX vs p on) (λ_ _ _=>Iff.rfl) (r:=⟨.exit 6,[(10,.bool true)],nX vs p on,5⟩) (λj hj=>by have hx:on[j]?=some on[j]:=bo hj;exact aF4 hx hc iq ha hn hs hm (EV h hx) h63) (aE [.lt 68 on.length on.length false s_]) n_)
 ·rw[h4];have al:=(eA.1 h1).1;exact cd (id:=6) (cA (n+1) (λj=>JH vs.length on.length a k j (decide (j<=n))) (λ_=>nX vs p on) (λ_ _ _=>Iff.rfl) (r:=⟨.exit 6,[(10,.bool false)],nX vs p on,5⟩) (λj hj=>by
   have JI:j<on.length:=by omega
   have hx:on[j]?=some on[j]:=bo JI;simp only[aH (show j<=n by omega)];refine aF4 hx hc iq ha hn hs hm ?_ h63;by_cases he:j=n
   ·subst he;rw[h1]at hx;injection hx with hx;rw[<-hx,h2];exact(aP o_).symm
   ·rw[h3 j _ o_ hx];exact(aH o_).symm) (by
   simp only[aP (show ¬n+1<=n by omega)];exact aTg) n_)
end
def wh(g:V3 K)(vs:e_)(on:l_)(a c:Nat):Bool:=!decide (c=a)&&M5 g vs on a c
section
variable{Bs:aa}{vs:e_}{on:l_}{p:HS K}{m:Nat}
def M6(n L R a k:Nat):aX:=[(9,vI k),(5,sl 2 L),(7,sl 4 R),(8,vI a),(1,sl 0 n),(2,ptr 1)]
def Hl(vs:e_)(p:HS K)(on out:l_):aL:=nX vs p on++marks 4 (ky out)
theorem aTh{a c k:Nat}{out:l_}(hc:on[k]?=some c)(iq:∀ x∈on,x<vs.length)(ha:a<vs.length)(hn:aI m p.n)(hs:∀ v∈vs,aI m v)(hm:200*m+400<=aD)(h63:on.length<900000)(hf:wh p.n vs on a c=false):
  ai prog Bs 124 (aJ (ah f174 4)) (M6 vs.length on.length out.length a k) (Hl vs p on out) 5 ⟨.normal,M6 vs.length on.length out.length a (k+1),Hl vs p on out,5⟩:=by
 have hk:=(eA.1 hc).1;by_cases h:c=a
 ·exact fD mixed 200 [.lt 56 k on.length true (aH hk),.ix f174 61 2 on.length k hk k_,.ld f174 62 3 2 k (.row (au on) 3 1) (vI c) rfl (ev hc) k_,.fN 64 c a true (aH h),.sum 58 k 1 (k+1) rfl o_] k_
 ·have lo:=aF5 (Bs:=Bs) hc iq ha hn hs hm h63;unfold wh at hf;rw[aP h]at hf;have hf:M5 p.n vs on a c=false:=hf;rw[hf]at lo;exact fD mixed 200 [.lt 56 k on.length true (aH hk),.ix f174 61 2 on.length k hk k_,.ld f174 62 3 2 k (.row (au on) 3 1) (vI c) rfl (ev hc) k_,.fN 64 c a false (aP h),.code 6 _ _ _ _ _ lo,.sum 58 k 1 (k+1) rfl o_] k_
theorem aTi{a c k:Nat}{out:l_}(hc:on[k]?=some c)(iq:∀ x∈on,x<vs.length)(ha:a<vs.length)(hn:aI m p.n)(hs:∀ v∈vs,aI m v)(hm:200*m+400<=aD)(h63:on.length<900000)(ho:out.length<900000)(hf:wh p.n vs on a c=true):
  ai prog Bs 124 (aJ (ah f174 4)) (M6 vs.length on.length out.length a k) (Hl vs p on out) 5 ⟨.exit 4,[(7,sl 6 (out++[c]).length)],nX vs p on++[(6,.row (au (out++[c])) 3 1)],7⟩:=by
 have hk:=(eA.1 hc).1;have lo:=aF5 (Bs:=Bs) hc iq ha hn hs hm h63;unfold wh at hf;rw[dr]at hf;obtain⟨h1,h2⟩:=hf;have h:¬c=a:=by intro e;rw[aH e]at h1;cases h1
 rw[h2]at lo;have hr:au out++[vI c]=au (out++[c]):=by simp[au]
 have ES:(au out).length=out.length*1:=by rw[oF,gS]
 rw[show(out++[c]).length=out.length+1 by simp];have jm:=ev hc;unfold Hl ky;generalize au out=c0 at *;generalize au (out++[c])=c1 at *;exact fD mixed 200 [.lt 56 k on.length true (aH hk),.ix f174 61 2 on.length k hk k_,.ld f174 62 3 2 k (.row (au on) 3 1) (vI c) rfl jm k_,.fN 64 c a false (aP h),.code 6 _ _ _ _ _ lo,.ix f174 119 2 on.length k hk k_,.ld f174 120 3 2 k (.row (au on) 3 1) (vI c) rfl jm k_,.bs f174 121 5 1 3 1 [0] (vI 0) [vI c] #[vI c] (.row [vI c] 3 1) rfl (λv hv=>by simp at hv;subst hv;rfl) (λv hv=>by simp at hv;subst hv;rfl) k_ rfl d_ d_ k_,.qH f174 122 6 4 out.length 1 (out.length+1) 3 1 8 c0 5 (.row [vI c] 3 1) c1 rfl rfl rfl ES hr (λv hv=>by simp[Obj.cells]at hv;subst hv;rfl) d_ (by simp[maxLen];omega) o_ k_] k_
theorem aTj{a c k:Nat}{out:l_}(hc:on[k]?=some c)(iq:∀ x∈on,x<vs.length)(ha:a<vs.length)(hn:aI m p.n)(hs:∀ v∈vs,aI m v)(hm:200*m+400<=aD)(h63:on.length<900000)(ho:out.length<900000)(hf:wh p.n vs on a c=true)
  (hb:∀(i:Nat) (x:Nat),i<k->on[i]?=some x->wh p.n vs on a x=false) :
  ai prog Bs 124 (.block 4 (ah f174 4)) (M6 vs.length on.length out.length a 0) (Hl vs p on out) 5 ⟨.normal,[(7,sl 6 (out++[c]).length)],nX vs p on++[(6,.row (au (out++[c])) 3 1)],7⟩:=
 cd (id:=4) (cA k (λi=>M6 vs.length on.length out.length a i) (λ_=>Hl vs p on out) (λ_ _ _=>Iff.rfl) (r:=⟨.exit 4,[(7,sl 6 (out++[c]).length)],nX vs p on++[(6,.row (au (out++[c])) 3 1)],7⟩) (λi hi=>by have hk:=(eA.1 hc).1;have hx:on[i]?=some on[i]:=bo o_;exact aTh hx iq ha hn hs hm h63 (hb i _ hi hx)) (aTi hc iq ha hn hs hm h63 ho hf) n_)
end
section
variable{Bs:aa}{vs:e_}{on:l_}{p:HS K}{m:Nat}
def RK(n L R:Nat):aX:=[(7,sl 4 R),(5,sl 2 L),(1,sl 0 n),(2,ptr 1)]
theorem aTk{a c k R:Nat}{out:l_}(hR:out.length=R+1)(al:out.length<on.length)(hl:out[R]?=some a)(hc:on[k]?=some c)(iq:∀ x∈on,x<vs.length)(ha:a<vs.length)(hn:aI m p.n)(hs:∀ v∈vs,aI m v)(hm:200*m+400<=aD)(h63:on.length<900000)(hf:wh p.n vs on a c=true)
  (hb:∀(i:Nat) (x:Nat),i<k->on[i]?=some x->wh p.n vs on a x=false) :
  ai prog Bs 124 (aJ (ah f174 2)) (RK vs.length on.length out.length) (nX vs p on++marks 4 (ky out)) 5 ⟨.normal,gZ 4 [some 6] (RK vs.length on.length (out++[c]).length),nX vs p on++dY [some 6] (ky (out++[c])),7⟩:=by
 have lo:=aTj (Bs:=Bs) hc iq ha hn hs hm h63 o_ hf hb (out:=out);have jm:=ev hl;have e:(out++[c]).length=R+2:=by simp[hR]
 rw[e]at lo ⊢;unfold Hl at lo;rw[hR]at lo ⊢;unfold ky at *;generalize au out=c0 at *;generalize au (out++[c])=c1 at *;exact fD mixed 200 [.lt 46 (R+1) on.length true (aH o_),.fp 50 (R+1) 1 R rfl o_,.ix f174 51 4 (R+1) R o_ k_,.ld f174 52 3 4 R (.row c0 3 1) (vI a) rfl jm k_,.code 4 _ _ _ _ _ lo] k_
end
structure aXZ(g:V3 K)(vs:e_)(on sq:l_):Prop where
 len:sq.length=on.length
 head:sq[0]?=on[0]?
 step:∀(i a c:Nat),sq[i]?=some a->sq[i+1]?=some c->∃ k:Nat,on[k]?=some c/\wh g vs on a c=true/\∀(j x:Nat),j<k->on[j]?=some x->wh g vs on a x=false
section
variable{Bs:aa}{vs:e_}{on sq:l_}{p:HS K}{m:Nat}
theorem aTl{n:Nat}:∀ x∈nX vs p on,fV n x.2:=λx hx=>by
 simp only[nX,cC,j6,j7]at hx;rcases hx with rfl|rfl|rfl
 ·exact λv hv=>iW (bB.1 (ee vs) v hv)
 ·exact λv hv=>iW (jP.flat _ v hv)
 ·exact λv hv=>iW (nk _ v hv)
theorem aTm{o:Nat}(h:aXZ p.n vs on sq)(h0:on[0]?=some o)(iq:∀ x∈on,x<vs.length)(hn:aI m p.n)(hs:∀ v∈vs,aI m v)(hm:200*m+400<=aD)(h63:on.length<900000):
  ai prog Bs 124 (.block 2 (ah f174 2)) (gZ 4 [some 3] (RK vs.length on.length 1)) (nX vs p on++dY [some 3] (ky [o])) 4 ⟨.normal,[(7,sl 4 sq.length)],nX vs p on++marks 4 (ky sq),5⟩:=by
 have ry:=(eA.1 h0).1;have hlen:=h.len;have rQ:∀ x∈sq,x<vs.length:=λx hx=>by
  obtain⟨i,hi,rfl⟩:=k8 hx;cases i with
  |zero=>
   have e:=h.head;rw[bo hi,h0]at e;injection e with e;rw[e];exact iq _ (cL h0)
  |succ i=>
   obtain⟨k,e,_⟩:=h.step i _ _ (bo o_) (bo hi);exact iq _ (cL e)
 have e1:sq.take 1=[o]:=by have e:=h.head;rw[h0]at e;rw[List.take_one,List.head?_eq_getElem?,e];rfl
 have tl:∀ i,i<on.length->(sq.take (i+1)).length=i+1:=λi hi=>by rw[jH];omega
 have:=rJ (P:=prog) (B:=Bs) (N:=124) (b:=aJ (ah f174 2)) (next:=4) (p:=1) (r:=⟨.exit 2,[(7,sl 4 sq.length)],nX vs p on++marks 4 (ky sq),5⟩) (on.length-1)
  (λi=>RK vs.length on.length (sq.take (i+1)).length) (λ_=>nX vs p on) (λi=>ky (sq.take (i+1))) [some 3] (λ_ _=>rfl) (λi _=>⟨aTl,XJ⟩) k_ k_
  (λi hi=>by
   have ha:sq[i]?=some sq[i]:=bo o_;have hc:sq[i+1]?=some sq[i+1]:=bo o_;obtain⟨k,q1,q2,q3⟩:=h.step i _ _ ha hc;have e:sq.take (i+1+1)=sq.take (i+1)++[sq[i+1]]:=by rw[vS,hc];rfl
   have hl:=tl i o_;have hr:=aTk (Bs:=Bs) (R:=i) hl o_ (by rw[u4,aB o_];exact ha) q1 iq (rQ _ (cL ha)) hn hs hm h63 q2 q3;refine⟨[some 6],7,k_,?_⟩;rw[e];exact hr)
  (by rw[show on.length-1+1=sq.length by omega,o5];rw[hlen];exact aE [.lt 46 on.length on.length false s_]) n_
 simp only[kA,e1]at this;exact cd (id:=2) this
end
def RL(g:V3 K)(vs:e_):List Nat->Bool
 |o::a::l=>l.all (C1 g vs o a)
 |_=>true
section
variable{vs:e_}{p:HS K}{m q:Nat}
noncomputable def aTn{on:l_}(h3:3<=on.length)(ht:RL p.n vs on=t)(hn:aI m p.n)(hs:∀ v∈vs,aI m v)(iq:∀ x∈on,x<vs.length)(hm:200*m+400<=aD)(h63:on.length<900000):bd prog Bs 124:=
 .step 36 (aw f174 36) [.func (.func 202) #[] #[],dK p,sl 0 vs.length,sl 2 on.length] [(0,some (.view (aV vs))),(2,some (.row (au on) 3 1))] (.bool t) []
  (dR (by
   match on,h3,iq,ht,h63 with
   |o::a::l,_,iq,ht,h63=>
    have:=aTa hn hs iq hm (by simp only[pS]at h63;omega);rw[show l.all (C1 p.n vs o a)=t from ht]at this;exact this) (.p rfl (.w (x:=.view (aV vs)) rfl (ee vs) w9 (.w (x:=.row (au on) 3 1) rfl (iK on) (λh=>Rj h) .nil))) (x:=.func 202) k_ k_ rfl)
theorem aF6:([aR.p (dK p),.r vs.length (aV vs)].all aR.ok)=true:=by simp only[dL,eX,aR.ok,iJ];rw[show(aV vs).all flat=true from ee vs];rfl
theorem aTo(hp:bO m p)(jO:p.n≠0)(aZ:∀ v∈vs,aI q v)(hm:100*(m+q)+1000<=aD)(h63:vs.length<900000)(h:(bY p vs vs.length).length<3):
  cE prog 174 [.p (dK p),.r vs.length (aV vs)] (.slice none 0 0):=by
 have lo:=λBs=>aF3 (Bs:=Bs) hp jO aZ hm h63;generalize bY p vs vs.length=on at *;exact jC mixed func174 aF6 200 (N:=124) k_ (λw=>[.code 0 _ _ _ _ _ (lo _),.lt 31 on.length 3 true (aH h)]) (λ_=>k_) k_
theorem aXQ{sq:l_}(hp:bO m p)(jO:p.n≠0)(aZ:∀ v∈vs,aI m v)(hm:300*m+1000<=aD)(h63:vs.length<900000)(h:¬(bY p vs vs.length).length<3)(hf:RL p.n vs (bY p vs vs.length)=false)(rQ:aXZ p.n vs (bY p vs vs.length) sq):
  lV prog 174 [.p (dK p),.r vs.length (aV vs)] 3 1 sq.length (au sq):=by
 have lo:=λBs=>aF3 (Bs:=Bs) hp jO aZ o_ h63;have iq:∀ x∈bY p vs vs.length,x<vs.length:=λx hx=>XI hx;have hol:=Jx p vs vs.length;generalize bY p vs vs.length=on at *;obtain⟨o,h0⟩:∃ o,on[0]?=some o:=⟨_,bo o_⟩;have l2:=λBs=>aTm (Bs:=Bs) rQ h0 iq hp.1 aZ o_ o_;exact yo (k:=4) mixed func174 aF6 200 (N:=124) k_ (λw=>[.code 0 _ _ _ _ _ (lo _),.lt 31 on.length 3 false (aP h),aTn o_ hf hp.1 aZ iq o_ o_,.ix f174 39 2 on.length 0 o_ k_,.ld f174 40 3 2 0 (.row (au on) 3 1) (vI o) rfl (ev h0) k_,.bs f174 41 3 1 3 1 [0] (vI 0) [vI o] #[vI o] (.row [vI o] 3 1) rfl (λv hv=>by simp at hv;subst hv;rfl) (λv hv=>by simp at hv;subst hv;rfl) k_ rfl d_ d_ k_,.code 2 _ _ _ _ _ (l2 _)]) (λ_=>k_) (iK sq) (by rw[oF,gS])
end
theorem aF7{ps:c_}{v:V3 K}:Eh ps v=false↔(v=0\/∃ r∈ps,0<dot r.n v):=by
 unfold Eh;rw[Bool.and_eq_false_iff,Bool.not_eq_false',Bool.not_eq_false',CE,rD];constructor
 ·rintro(h|⟨r,hr,h⟩)
  ·exact .inl h
  ·exact .inr ⟨r,hr,Rr.1 (kX h)⟩
 ·rintro(h|⟨r,hr,h⟩)
  ·exact .inl h
  ·exact .inr ⟨r,hr,aH (Rr.2 h)⟩
theorem X1{ps:c_}{u:V3 K}:qS ps u=false↔(u≠0->(∃ r∈ps,0<dot r.n u)/\∃ r∈ps,0<dot r.n (-u)):=by
 unfold qS;rw[NN,aF7,aF7];constructor
 ·rintro⟨h1,h2⟩ hu
  exact⟨h1.resolve_left hu,h2.resolve_left λe=>hu (V3.neg_eq_zero.1 e)⟩
 ·intro h;by_cases hu:u=0
  ·exact⟨.inl hu,.inl (V3.neg_eq_zero.2 hu)⟩
  ·exact⟨.inr (h hu).1,.inr (h hu).2⟩
theorem aF8{ps:c_}:∀ n,n<=ps.length->(uF ps n=true↔∃(i j:Nat) (p q:HS K),i<n/\j<i/\ps[i]?=some p/\ps[j]?=some q/\af p.n q.n≠0)
 |0,_=>by
  constructor
  ·intro h;cases h
  ·rintro⟨i,_,_,_,h,_⟩;omega
 |n+1,hn=>by
  have hp:ps[n]?=some ps[n]:=bo o_;rw[aDa hp,vl,aF8 n o_];unfold qT;rw[rD];constructor
  ·rintro(⟨i,j,p,q,h1,h2,h3⟩|⟨q,hq,h⟩)
   ·exact⟨i,j,p,q,by omega,h2,h3⟩
   ·obtain⟨j,hj,rfl⟩:=k8 hq;rw[jH]at hj;rw[Ru]at h;exact⟨n,j,ps[n],ps[j],by omega,by omega,hp,bo o_,by simpa using h⟩
  ·rintro⟨i,j,p,q,h1,h2,h3,h4,h5⟩
   rcases e7 i n with h|h
   ·exact .inl ⟨i,j,p,q,h,h2,h3,h4,h5⟩
   ·have:i=n:=by omega
    subst this;rw[hp]at h3;injection h3 with h3;subst h3;exact .inr ⟨q,cL (i:=j) (by rw[u4,aB h2];exact h4),by simpa using h5⟩
theorem aTp{ps:c_}:Qk ps ps.length=false↔∀(i j:Nat) (p q:HS K),j<i->ps[i]?=some p->ps[j]?=some q->qS ps (af p.n q.n)=false:=by
 unfold Qk;rw[Kk];constructor
 ·intro h i j p q oT hp hq;have al:=(eA.1 hp).1;have:=h i (jT.2 al);rw[Ql hp,rD]at this;cases hb:qS ps (af p.n q.n)with
  |false=>rfl
  |true=>exact absurd ⟨q,cL (i:=j) (by rw[u4,aB oT];exact hq),hb⟩ this
 ·intro h i hi;have al:=jT.1 hi;have hp:ps[i]?=some ps[i]:=bo al;rw[Ql hp,rD]
  rintro⟨q,hq,hb⟩
  obtain⟨j,hj,rfl⟩:=k8 hq;rw[jH]at hj;have xy:ps[j]?=some ps[j]:=bo o_;rw[Ru]at hb;rw[h i j _ _ o_ hp xy]at hb;cases hb
theorem aF9{ps:c_}:uG ps=true↔Cl ps:=by
 unfold uG;rw[dr,zr,aF8 _ (bC _),aTp];have sw:∀ p q:HS K,af q.n p.n=-af p.n q.n:=λp q=>V3.Gl _ _;constructor
 ·rintro⟨h1,i,j,p,q,hi,oT,hp,hq,hc⟩
  refine⟨⟨p,cL hp,q,cL hq,hc⟩,λp hp q hq aQ=>?_⟩;obtain⟨i,hi,rfl⟩:=k8 hp;obtain⟨j,hj,rfl⟩:=k8 hq;rcases tR i j with h|h|h
  ·have:=X1.1 (h1 j i _ _ h (bo hj) (bo hi)) (λe=>aQ (by rw[sw,e];exact V3.neg_eq_zero.2 rfl));rw[sw ps[j] ps[i]];exact this.2
  ·subst h;exact absurd (V3.LC _) aQ
  ·exact(X1.1 (h1 i j _ _ h (bo hi) (bo hj)) aQ).1
 ·rintro⟨⟨p,hp,q,hq,aQ⟩,bh⟩
  refine⟨λi j p q _ hp hq=>X1.2 λhu=>?_,?_⟩
  ·have fE:=cL hp;have pJ:=cL hq;refine⟨bh p fE q pJ hu,?_⟩;rw[<-sw];exact bh q pJ p fE (λe=>hu (by rw[sw q p,e];exact V3.neg_eq_zero.2 rfl))
  ·obtain⟨i,hi,rfl⟩:=k8 hp;obtain⟨j,hj,rfl⟩:=k8 hq;rcases tR i j with h|h|h
   ·exact⟨j,i,_,_,hj,h,bo hj,bo hi,λe=>aQ (by rw[sw,e];exact V3.neg_eq_zero.2 rfl)⟩
   ·subst h;exact absurd (V3.LC _) aQ
   ·exact⟨i,j,_,_,hi,h,bo hi,bo hj,aQ⟩
theorem JJ:∀ n:Nat,(CR.ofNat n:K)=kI (n:Int)
 |0=>rfl
 |n+1=>by
  show(CR.ofNat n:K)+1=_;rw[JJ n];refine bK.ext (bK.ext ?_ ?_) (bK.ext ?_ ?_)
  ·show((n:Int):Rat)+1=(((n+1:Nat):Int):Rat)
   push_cast;rfl
  ·show(0:Rat)+0=0;exact Rat.add_zero 0
  ·show(0:Rat)+0=0;exact Rat.add_zero 0
  ·show(0:Rat)+0=0;exact Rat.add_zero 0
theorem aGa(z:Int):kI z=(Fr.mk z 0 0 0 1).val:=by have h:=US z;have:=pF (kI z);rw[show bT (kI z)=⟨z,0,0,0,1⟩from h]at this;exact this.symm
theorem aGb{n:Nat}(hn:n≠0):fK 1 (n:Int)*kI (n:Int)=1:=by
 rw[aGa];unfold fK;rw[<-IK (by simpa using hn) s_];have e:fe ⟨1,0,0,0,(n:Int)⟩ ⟨(n:Int),0,0,0,1⟩=⟨(n:Int),0,0,0,(n:Int)⟩:=by unfold fe;simp
 rw[e];unfold Fr.val;dsimp only;have h1:Rat.divInt (n:Int) (n:Int)=1:=by rw[Ck,F6];exact II _ (by simpa using hn)
 rw[h1,Rat.zero_divInt];rfl
theorem aGc{n:Nat}(hn:n≠0):fK 1 (n:Int)=(CR.ofNat n:K)⁻¹:=by
 have h:=aGb hn;rw[<-JJ]at h;have aQ:(CR.ofNat n:K)≠0:=OF.ne_of_gt (LP o_);have h2:=OF.jn _ aQ
 calc fK 1 (n:Int)=fK 1 (n:Int)*(CR.ofNat n*(CR.ofNat n:K)⁻¹):=by rw[h2,CR.mul_one]
  _=(CR.ofNat n:K)⁻¹:=by rw[<-CR.mul_assoc,h,CR.one_mul]
theorem aGd{l:e_}(h:l≠[]):CI l=CC l:=by have hl:l.length≠0:=λe=>h (mf e);unfold CI CC;rw[aGc hl];rfl
theorem aTq{ps:c_}{vs:e_}:yz ps vs=true↔vs≠[]/\wY ps (CC vs):=by
 unfold yz;rw[dr,zr,zr,aAy,Kk];have hl:¬vs.length=0↔vs≠[]:=⟨λh e=>h (by rw[e];rfl),λh e=>h (mf e)⟩;rw[hl];constructor
 ·rintro⟨h1,h2⟩
  refine⟨h1,λp hp=>?_⟩;have:=h2 p hp;rw[CE,Rt,aGd h1,OF.sub_nonneg]at this;exact OF.not_le.1 this
 ·rintro⟨h1,h2⟩
  refine⟨h1,λp hp=>?_⟩;rw[CE,Rt,aGd h1,OF.sub_nonneg];exact OF.not_le.2 (h2 p hp)
theorem aTr{x:K}(h:x≠0):0<iZ x:=by
 unfold iZ;by_cases hs:OF.aG x<0
 ·rw[aB hs,OF.gk,OF.pY,aFx.1 hs];rfl
 ·rw[av hs,OF.gk];rcases OF.iY x with e|e|e
  ·rw[e]at hs;exact absurd d_ hs
  ·exact absurd ((OF.fF x).1 e) h
  ·exact e
theorem aGe{x:K}(h:x≠0):0<nj x:=by unfold nj;rw[show kI 1*(iZ x)⁻¹=(iZ x)⁻¹ from CR.one_mul _];exact OF.inv_pos (aTr h)
def C2(p:HS K)(k:K):HS K:=⟨smul p.n k,p.d*k⟩
theorem RM(p:HS K):canon p=C2 p (nj (qR p.n)):=rfl
theorem aTs(v:V3 K)(a b:K):smul (smul v a) b=smul v (a*b):=V3.ext (CR.mul_assoc _ _ _) (CR.mul_assoc _ _ _) (CR.mul_assoc _ _ _)
theorem aTt(v:V3 K):smul v 1=v:=V3.ext (CR.mul_one _) (CR.mul_one _) (CR.mul_one _)
theorem X2(p:HS K)(a b:K):C2 (C2 p a) b=C2 p (a*b):=HS.ext (aTs _ _ _) (CR.mul_assoc _ _ _)
theorem aTu(p:HS K):C2 p 1=p:=HS.ext (aTt _) (CR.mul_one _)
theorem aTv{v:V3 K}{k:K}(hk:k≠0):qR (smul v k)=qR v*k:=by
 have z:∀ x:K,x*k≠0↔x≠0:=λx=>⟨λh e=>h (by rw[e,CR.zero_mul]),λh=>OF.mul_ne_zero h hk⟩;unfold qR;show(if v.x*k≠0 then v.x*k else if v.y*k≠0 then v.y*k else v.z*k)=_;by_cases hx:v.x≠0
 ·rw[aB ((z _).2 hx),aB hx]
 ·rw[av (λh=>hx ((z _).1 h)),av hx];by_cases hy:v.y≠0
  ·rw[aB ((z _).2 hy),aB hy]
  ·rw[av (λh=>hy ((z _).1 h)),av hy]
theorem aTw{x k:K}(hk:0<k):iZ (x*k)=iZ x*k:=by
 unfold iZ;have e:OF.aG (x*k)=OF.aG x:=by rw[CR.mul_comm,OF.Ld hk]
 rw[e];by_cases h:OF.aG x<0
 ·rw[aB h,aB h,CR.neg_mul]
 ·rw[av h,av h]
theorem aTx{x k:K}(hx:x≠0)(hk:0<k):k*nj (x*k)=nj x:=by
 have e:∀ y:K,nj y=(iZ y)⁻¹:=λy=>CR.one_mul _;have yn:k≠0:=OF.ne_of_gt hk;have h0:iZ x≠0:=Qa hx;rw[e,e,aTw hk];have h1:=OF.jn _ h0;have h2:=OF.jn (iZ x*k) (OF.mul_ne_zero h0 yn)
 calc k*(iZ x*k)⁻¹=(iZ x*(iZ x)⁻¹)*(k*(iZ x*k)⁻¹):=by rw[h1,CR.one_mul]
  _=(iZ x)⁻¹*(iZ x*k*(iZ x*k)⁻¹):=by rw[CR.mul_comm (iZ x),CR.mul_assoc,CR.mul_assoc]
  _=(iZ x)⁻¹:=by rw[h2,CR.mul_one]
theorem X3{p q:HS K}(hp:p.n≠0)(hq:q.n≠0):canon p=canon q↔∃ k:K,0<k/\q=C2 p k:=by
 have ap:=aGe (Qb hp);have aq:=aGe (Qb hq);constructor
 ·intro h;rw[RM,RM]at h;have h1:=OF.jn _ (OF.ne_of_gt aq);refine⟨nj (qR p.n)*(nj (qR q.n))⁻¹,OF.mul_pos ap (OF.inv_pos aq),?_⟩;rw[<-X2,h,X2,h1,aTu]
 ·rintro⟨k,hk,rfl⟩
  rw[RM,RM];have e:qR (C2 p k).n=qR p.n*k:=aTv (OF.ne_of_gt hk);rw[e,X2,aTx (Qb hp) hk]
end
variable{a j:Nat}{c:g_}
section
open CR OF V3
section
variable{F:Type}[OF F]
theorem aTy(a b c:V3 F)(x y z:F):dot a (smul (af b c) x+smul (af c a) y+smul (af a b) z)=x*aW a b c:=
 ring [a,b,c] [x,y,z] (λV S=>dot (V 0) (smul (af (V 1) (V 2)) (S 0)+smul (af (V 2) (V 0)) (S 1)+smul (af (V 0) (V 1)) (S 2))) (λV S=>S 0*aW (V 0) (V 1) (V 2)) d_
theorem aTz(a b c:V3 F)(x y z:F):dot b (smul (af b c) x+smul (af c a) y+smul (af a b) z)=y*aW a b c:=
 ring [a,b,c] [x,y,z] (λV S=>dot (V 1) (smul (af (V 1) (V 2)) (S 0)+smul (af (V 2) (V 0)) (S 1)+smul (af (V 0) (V 1)) (S 2))) (λV S=>S 1*aW (V 0) (V 1) (V 2)) d_
theorem aTA(a b c:V3 F)(x y z:F):dot c (smul (af b c) x+smul (af c a) y+smul (af a b) z)=z*aW a b c:=
 ring [a,b,c] [x,y,z] (λV S=>dot (V 2) (smul (af (V 1) (V 2)) (S 0)+smul (af (V 2) (V 0)) (S 1)+smul (af (V 0) (V 1)) (S 2))) (λV S=>S 2*aW (V 0) (V 1) (V 2)) d_
theorem aGf(u w:V3 F):aW u u w=0:=ring [u,w] [] (λV _=>aW (V 0) (V 0) (V 1)) (λ_ _=>0) d_
theorem aGg(u w:V3 F):aW u w w=0:=ring [u,w] [] (λV _=>aW (V 0) (V 1) (V 1)) (λ_ _=>0) d_
theorem aGh(u w:V3 F):aW u w u=0:=ring [u,w] [] (λV _=>aW (V 0) (V 1) (V 0)) (λ_ _=>0) d_
theorem RO:∀(l:List (F×F)),(∀ x∈l,0<x.2)->∃ e:F,0<e/\∀ x∈l,x.1*e<=x.2
 |[],_=>⟨1,OF.zero_lt_one,λx h=>(by cases h)⟩
 |(a,b)::l,h=>by
  obtain⟨e,he,hl⟩:=RO l λx hx=>h x (bF _ hx);have hb:0<b:=h (a,b) (aT ..);by_cases ch:a*e<=b
  ·refine⟨e,he,λx hx=>?_⟩;rcases cC.1 hx with rfl|hx
   ·exact ch
   ·exact hl x hx
  ·have ch:=OF.not_le.1 ch;have ha:0<a:=by
    apply gR;intro Ce;have Ce:=OF.not_lt.1 Ce;have:a*e<=0:=by rw[<-CR.neg_neg (a*e),OF.DT,<-CR.neg_mul];exact OF.mul_nonneg (OF.neg_nonneg.2 Ce) (OF.le_of_lt he)
    exact OF.lt_irrefl _ (OF.lt_of_lt_of_le (OF.lt_trans hb ch) this)
   have hi:0<b*a⁻¹:=OF.mul_pos hb (OF.inv_pos ha);have hae:a*(b*a⁻¹)=b:=by rw[CR.mul_left_comm,OF.jn _ (OF.ne_of_gt ha),CR.mul_one]
   have al:b*a⁻¹<e:=by rw[<-OF.mul_lt_mul_left ha,hae];exact ch
   refine⟨b*a⁻¹,hi,λx hx=>?_⟩;rcases cC.1 hx with rfl|hx
   ·exact OF.le_of_eq hae
   ·by_cases lC:0<x.1
    ·exact OF.le_trans ((OF.mul_le_mul_left lC).2 (OF.le_of_lt al)) (hl x hx)
    ·have lC:=OF.not_lt.1 lC;have:x.1*(b*a⁻¹)<=0:=by rw[<-CR.neg_neg (x.1*(b*a⁻¹)),OF.DT,<-CR.neg_mul];exact OF.mul_nonneg (OF.neg_nonneg.2 lC) (OF.le_of_lt hi)
     exact OF.le_trans this (OF.le_of_lt (h x (bF _ hx)))
structure nY(ps S:List (HS F)):Prop where
 sub:∀ p∈S,p∈ps
 same:∀ v,dZ S v↔dZ ps v
 least:∀ T:List (HS F),(∀ p∈T,p∈ps)->(∀ v,dZ T v↔dZ ps v)->S.length<=T.length
theorem aGi(ps:List (HS F)):∃ S,nY ps S:=by
 have key:∀ n,∀ S:List (HS F),S.length=n->(∀ p∈S,p∈ps)->(∀ v,dZ S v↔dZ ps v)->∃ S,nY ps S:=by
  intro n;induction n using Nat.strongRecOn with
  |ind n ih=>
   intro S hl h1 h2;by_cases h:∃ T:List (HS F),(∀ p∈T,p∈ps)/\(∀ v,dZ T v↔dZ ps v)/\T.length<n
   ·obtain⟨T,t1,t2,t3⟩:=h;exact ih _ t3 T rfl t1 t2
   ·refine⟨S,h1,h2,λT t1 t2=>?_⟩;rcases e7 T.length S.length with al|ep
    ·exact(h ⟨T,t1,t2,by omega⟩).elim
    ·exact ep
 exact key _ ps rfl (λ_ h=>h) (λ_=>Iff.rfl)
theorem nY.alone{ps A B:List (HS F)}{p:HS F}(h:nY ps (A++p::B)):∃ y,dZ (A++B) y/\p.d<dot p.n y:=by
 apply gR;intro fX;have hT:∀ v,dZ (A++B) v↔dZ ps v:=by
  intro v;rw[<-h.same v];constructor
  ·intro hv q hq;rcases eW.1 hq with hq|hq
   ·exact hv q (sC _ hq)
   ·rcases cC.1 hq with rfl|hq
    ·exact OF.not_lt.1 λal=>fX ⟨v,hv,al⟩
    ·exact hv q (yZ _ hq)
  ·intro hv q hq;refine hv q ?_;rcases eW.1 hq with hq|hq
   ·exact sC _ hq
   ·exact yZ _ (bF _ hq)
 have:=h.least (A++B) (λq hq=>h.sub q (by
  rcases eW.1 hq with hq|hq
  ·exact sC _ hq
  ·exact yZ _ (bF _ hq))) hT
 simp at this;omega
theorem nY.LO{ps A B:List (HS F)}{p:HS F}(h:nY ps (A++p::B)){x:V3 F}(hx:wY ps x):∃ z,cy p z/\∀ q∈A++B,dot q.n z<q.d:=by
 obtain⟨y,hy,hpy⟩:=h.alone;have hpx:dot p.n x<p.d:=hx p (h.sub p (yZ _ (aT ..)));have qQ:0<dot p.n y-dot p.n x:=OF.sub_pos.2 (OF.lt_trans hpx hpy);have hda:0<p.d-dot p.n x:=OF.sub_pos.2 hpx;obtain⟨t,ht⟩:∃ t,t=(p.d-dot p.n x)*(dot p.n y-dot p.n x)⁻¹:=⟨_,rfl⟩;have wX:0<t:=ht▸OF.mul_pos hda (OF.inv_pos qQ);have Oo:(dot p.n y-dot p.n x)*t=p.d-dot p.n x:=by rw[ht,CR.mul_left_comm,OF.jn _ (OF.ne_of_gt qQ),CR.mul_one]
 have kk:t<1:=by rw[<-OF.mul_lt_mul_left qQ,Oo,CR.mul_one];rw[<-OF.sub_pos,show dot p.n y-dot p.n x-(p.d-dot p.n x)=dot p.n y-p.d from ku (dot p.n x) (dot p.n y) p.d (λa b d=>b-a-(d-a)) (λa b d=>b-d) d_];exact OF.sub_pos.2 hpy
 refine⟨x+smul (y-x) t,?_,λq hq=>?_⟩
 ·unfold cy;rw[jq,gC,gT,Oo];exact jN (dot p.n x) p.d (λa d=>a+(d-a)) (λa d=>d) d_
 ·rw[jq,gC,gT];have q1:dot q.n x<q.d:=hx q (h.sub q (by
   rcases eW.1 hq with hq|hq
   ·exact sC _ hq
   ·exact yZ _ (bF _ hq)))
  have q2:=hy q hq;have e:q.d-(dot q.n x+(dot q.n y-dot q.n x)*t)=(1-t)*(q.d-dot q.n x)+t*(q.d-dot q.n y):=Aa (dot q.n x) (dot q.n y) q.d t (λa b d t=>d-(a+(b-a)*t)) (λa b d t=>(1-t)*(d-a)+t*(d-b)) d_;rw[<-OF.sub_pos,e];exact OF.IA (OF.mul_pos (OF.sub_pos.2 kk) (OF.sub_pos.2 q1)) (OF.mul_nonneg (OF.le_of_lt wX) (OF.sub_nonneg.2 q2))
theorem j5.back{ps:List (HS F)}{p:HS F}(hp:p∈ps){v:V3 F}(h:j5 (⟨-p.n,-p.d⟩::ps) v):j5 ps v/\cy p v:=by
 obtain⟨cz,a,ha,b,hb,c,hc,hd,ta,tb,tc⟩:=h;have tp:cy p v:=by
  have h1:=cz _ (aT ..);dsimp only at h1;rw[yq]at h1;have h1:p.d<=dot p.n v:=by rw[<-OF.sub_nonneg]at h1 ⊢;rwa[show -p.d - -dot p.n v=dot p.n v-p.d from jN (dot p.n v) p.d (λa d=>-d - -a) (λa d=>a-d) d_]at h1
  exact OF.le_antisymm (cz p (bF _ hp)) h1
 have aTB:dZ ps v:=λq hq=>cz q (bF _ hq)
 -- a qg of the list with the same normal,wG for VB sign
 have bT:∀ q∈(⟨-p.n,-p.d⟩::ps:List (HS F)),cy q v->∃ q'∈ps,cy q' v/\(q'.n=q.n\/q.n=-q'.n):=by
  intro q hq tq;rcases cC.1 hq with rfl|hq
  ·exact⟨p,hp,tp,.inr rfl⟩
  ·exact⟨q,hq,tq,.inl rfl⟩
 obtain⟨a',jk,ta',ea⟩:=bT a ha ta;obtain⟨b',jU,tb',eb⟩:=bT b hb tb;obtain⟨c',kS,tc',ec⟩:=bT c hc tc;refine⟨⟨aTB,a',jk,b',jU,c',kS,λe=>hd ?_,ta',tb',tc'⟩,tp⟩;have n1:∀ u v w:V3 F,aW (-u) v w=-aW u v w:=λu v w=>ring [u,v,w] [] (λV _=>aW (-V 0) (V 1) (V 2)) (λV _=>-aW (V 0) (V 1) (V 2)) d_;have n2:∀ u v w:V3 F,aW u (-v) w=-aW u v w:=λu v w=>ring [u,v,w] [] (λV _=>aW (V 0) (-V 1) (V 2)) (λV _=>-aW (V 0) (V 1) (V 2)) d_;have n3:∀ u v w:V3 F,aW u v (-w)=-aW u v w:=λu v w=>ring [u,v,w] [] (λV _=>aW (V 0) (V 1) (-V 2)) (λV _=>-aW (V 0) (V 1) (V 2)) d_;rcases ea with ea|ea<;>rcases eb with eb|eb<;>rcases ec with ec|ec<;>
  (first|rw[<-ea]|rw[ea,n1])<;>(first|rw[<-eb]|rw[eb,n2])<;>(first|rw[<-ec]|rw[ec,n3])<;>rw[e]<;>(try simp only[CR.neg_zero])
theorem nY.Bf{ps A B:List (HS F)}{p:HS F}(hc:Cl ps)(hp:fH ps)(h:nY ps (A++p::B)){x m:V3 F}(hx:wY ps x)(hm:af p.n m≠0):
  ∃ v w,j5 ps v/\cy p v/\j5 ps w/\cy p w/\dot m w<dot m v:=by
 obtain⟨z,hz,hq⟩:=h.LO hx;have jb:p∈ps:=h.sub p (yZ _ (aT ..));obtain⟨e,he⟩:∃ e,e=af (af p.n m) p.n:=⟨_,rfl⟩;have pe:dot p.n e=0:=by rw[he];exact Ao _ _
 have me:0<dot m e:=by
  have:dot m e=dot (af p.n m) (af p.n m):=by rw[he];exact ring [p.n,m] [] (λV _=>dot (V 1) (af (af (V 0) (V 1)) (V 0))) (λV _=>dot (af (V 0) (V 1)) (af (V 0) (V 1))) d_
  rw[this];exact Cw hm
 obtain⟨t,ht,qW⟩:=RO ((A++B).map (λq=>(dot q.n e,q.d-dot q.n z))++(A++B).map (λq=>(-dot q.n e,q.d-dot q.n z))) λy hy=>by
  rcases eW.1 hy with hy|hy
  ·obtain⟨q,lW,rfl⟩:=db.1 hy;exact OF.sub_pos.2 (hq q lW)
  ·obtain⟨q,lW,rfl⟩:=db.1 hy;exact OF.sub_pos.2 (hq q lW)
 have aGj:∀ s:F,(∀ q∈A++B,dot q.n e*s<=q.d-dot q.n z)->dZ (⟨-p.n,-p.d⟩::ps) (z+smul e s):=by
  intro s hs;have hS:dZ (A++p::B) (z+smul e s):=by
   intro q lW;rw[jq,gC];have other:q∈A++B->dot q.n z+dot q.n e*s<=q.d:=λlW=>by have:=hs q lW;rw[<-OF.sub_nonneg]at this ⊢;rwa[show q.d-dot q.n z-dot q.n e*s=q.d-(dot q.n z+dot q.n e*s)from ku q.d (dot q.n z) (dot q.n e*s) (λa b c=>a-b-c) (λa b c=>a-(b+c)) d_]at this
   rcases eW.1 lW with lW|lW
   ·exact other (sC _ lW)
   ·rcases cC.1 lW with rfl|lW
    ·rw[pe,CR.zero_mul,CR.add_zero];exact OF.le_of_eq hz
    ·exact other (yZ _ lW)
  have cz:=(h.same _).1 hS;intro q lW;rcases cC.1 lW with rfl|lW
  ·dsimp only;rw[yq,jq,gC,pe,CR.zero_mul,CR.add_zero,show dot p.n z=p.d from hz];exact OF.le_refl _
  ·exact cz q lW
 have kS:Cl (⟨-p.n,-p.d⟩::ps):=Cl.more hc hp λq hq=>bF _ hq;have fE:fH (⟨-p.n,-p.d⟩::ps):=λq hq=>by
  rcases cC.1 hq with rfl|hq
  ·exact λe=>hp p jb (V3.neg_eq_zero.1 e)
  ·exact hp q hq
 have i1:=aGj t λq lW=>qW _ (sC _ (db.2 ⟨q,lW,rfl⟩));have i2:=aGj (-t) λq lW=>by have:=qW _ (yZ _ (db.2 ⟨q,lW,rfl⟩));dsimp only at this;rwa[CR.neg_mul,<-CR.mul_neg]at this
 obtain⟨v,hv,hmv⟩:=top kS fE (m:=m) i1;obtain⟨w,hw,vV⟩:=top kS fE (m:=-m) i2;obtain⟨v1,v2⟩:=hv.back jb;obtain⟨w1,w2⟩:=hw.back jb;refine⟨v,w,v1,v2,w1,w2,?_⟩;rw[yq,yq]at vV;have vV:dot m w<=dot m (z+smul e (-t)):=by rw[<-OF.sub_nonneg]at vV ⊢;rwa[show -dot m w - -dot m (z+smul e (-t))=dot m (z+smul e (-t))-dot m w from jN (dot m w) (dot m (z+smul e (-t))) (λa b=>-a - -b) (λa b=>b-a) d_]at vV
 refine OF.lt_of_le_of_lt vV (OF.lt_of_lt_of_le ?_ hmv);rw[jq,gC,jq,gC,<-OF.sub_pos,show dot m z+dot m e*t-(dot m z+dot m e*-t)=dot m e*t+dot m e*t from ku (dot m z) (dot m e) t (λa b t=>a+b*t-(a+b*-t)) (λa b t=>b*t+b*t) d_];have:=OF.mul_pos me ht;exact OF.add_pos this this
theorem aTC{a b:V3 F}(ha:a≠0):∃ u:V3 F,u≠0/\dot a u=0/\dot b u=0:=by
 by_cases h:af a b=0
 ·obtain⟨u,hu,P4⟩:=LF ha;exact⟨u,hu,P4,LG ha h P4⟩
 ·exact⟨_,h,Ea _ _,Ao _ _⟩
theorem X4{a b c:V3 F}(ha:a≠0):∃ u:V3 F,u≠0/\dot a u<=0/\dot b u<=0/\dot c u<=0:=by
 obtain⟨u,hu,h1,h2⟩:=aTC (b:=b) ha;rcases OF.le_total (dot c u) 0 with h|h
 ·exact⟨u,hu,OF.le_of_eq h1,OF.le_of_eq h2,h⟩
 ·refine⟨-u,λe=>hu (V3.neg_eq_zero.1 e),?_,?_,?_⟩
  ·rw[rS,h1,CR.neg_zero];exact OF.le_refl _
  ·rw[rS,h2,CR.neg_zero];exact OF.le_refl _
  ·rw[rS];exact OF.DT.2 h
theorem nY.four{ps S:List (HS F)}(hc:Cl ps)(hp:fH ps)(h:nY ps S){x:V3 F}(hx:wY ps x):4<=S.length:=by
 apply gR;intro al;have hu:∃ u:V3 F,u≠0/\∀ p∈S,dot p.n u<=0:=by
  match S,al,h with
  |[],_,_=>
   obtain⟨⟨p,jb,_⟩,_⟩:=hc;exact⟨p.n,hp p jb,λq hq=>(by cases hq)⟩
  |[a],_,h=>
   obtain⟨u,hu,h1,_,_⟩:=X4 (a:=a.n) (b:=a.n) (c:=a.n) (hp a (h.sub a s_));exact⟨u,hu,λq hq=>by simp at hq;subst hq;exact h1⟩
  |[a,b],_,h=>
   obtain⟨u,hu,h1,h2,_⟩:=X4 (a:=a.n) (b:=b.n) (c:=a.n) (hp a (h.sub a s_));exact⟨u,hu,λq hq=>by simp at hq;rcases hq with rfl|rfl<;>assumption⟩
  |[a,b,c],_,h=>
   obtain⟨u,hu,h1,h2,h3⟩:=X4 (a:=a.n) (b:=b.n) (c:=c.n) (hp a (h.sub a s_));exact⟨u,hu,λq hq=>by simp at hq;rcases hq with rfl|rfl|rfl<;>assumption⟩
  |_::_::_::_::_,al,_=>simp at al
 obtain⟨u,hu,bh⟩:=hu;obtain⟨r,hr,M7⟩:=hc.bounds hp hu;have hrx:=hx r hr;obtain⟨t,ht⟩:∃ t,t=(r.d-dot r.n x)*(dot r.n u)⁻¹+1:=⟨_,rfl⟩;have wX:0<t:=ht▸OF.add_pos (OF.mul_pos (OF.sub_pos.2 hrx) (OF.inv_pos M7)) OF.zero_lt_one;have cz:dZ ps (x+smul u t):=by
  rw[<-h.same];intro q hq;rw[jq,gC];have h1:=bh q hq;have h2:dot q.n u*t<=0:=by rw[<-CR.neg_neg (dot q.n u*t),OF.DT,<-CR.neg_mul];exact OF.mul_nonneg (OF.neg_nonneg.2 h1) (OF.le_of_lt wX)
  have h3:=OF.add_le_add (OF.le_of_lt (hx q (h.sub q hq))) h2;rwa[CR.add_zero]at h3
 have h1:=cz r hr;rw[jq,gC,ht,CR.mul_add,CR.mul_left_comm,OF.jn _ (OF.ne_of_gt M7),CR.mul_one,CR.mul_one]at h1;rw[<-OF.sub_nonneg,show r.d-(dot r.n x+(r.d-dot r.n x+dot r.n u))=-dot r.n u from ku r.d (dot r.n x) (dot r.n u) (λd a b=>d-(a+(d-a+b))) (λd a b=>-b) d_,OF.neg_nonneg]at h1;exact OF.lt_irrefl _ (OF.lt_of_lt_of_le M7 h1)
end
end
section
open CR OF
open V3 (dot af aW smul)
theorem aGk{x:K}:¬OF.aG x<=0↔0<x:=by rw[OF.gk];rcases OF.iY x with h|h|h<;>rw[h]<;>decide
theorem aGl{x:K}:OF.aG x<=0↔x<=0:=by rw[OF.Up];rcases OF.iY x with h|h|h<;>rw[h]<;>decide
theorem aGm{ps:c_}{d:V3 K}:yT ps d=false↔∃ r∈ps,0<dot r.n d:=by
 unfold yT;rw[JK];constructor
 ·rintro⟨r,hr,h⟩
  exact⟨r,hr,aGk.1 (by simpa using h)⟩
 ·rintro⟨r,hr,h⟩
  exact⟨r,hr,by simpa using aGk.2 h⟩
theorem X5{ps:c_}{f:Bool}{i:Nat}:∀ n,pN ps f i n=true↔f=true/\∀ j,j<n->nW ps i j=0\/CZ ps (nW ps i j)=true
 |0=>⟨λh=>⟨h,λj hj=>by omega⟩,λh=>h.1⟩
 |n+1=>by
  unfold pN;by_cases h:nW ps i n=0
  ·rw[aB h,X5 n];refine⟨λ⟨h1,h2⟩=>⟨h1,λj hj=>?_⟩,λ⟨h1,h2⟩=>⟨h1,λj hj=>h2 j o_⟩⟩;rcases e7 j n with hl|hl
   ·exact h2 j hl
   ·have:j=n:=by omega
    subst this;exact .inl h
  ·rw[av h,dr,X5 n];refine⟨λ⟨⟨h1,h2⟩,h3⟩=>⟨h1,λj hj=>?_⟩,λ⟨h1,h2⟩=>⟨⟨h1,λj hj=>h2 j o_⟩,(h2 n o_).resolve_left h⟩⟩;rcases e7 j n with hl|hl
   ·exact h2 j hl
   ·have:j=n:=by omega
    subst this;exact .inr h3
theorem X6{ps:c_}:∀ n,nr ps n=true↔∀ i j,i<n->j<i->nW ps i j=0\/CZ ps (nW ps i j)=true
 |0=>⟨λ_ i j hi=>by omega,λ_=>rfl⟩
 |n+1=>by
  unfold nr;rw[X5,X6 n];refine⟨λ⟨h1,h2⟩ i j hi hj=>?_,λh=>⟨λi j hi hj=>h i j o_ hj,λj hj=>h n j o_ hj⟩⟩;rcases e7 i n with hl|hl
  ·exact h1 i j hl hj
  ·have:i=n:=by omega
   subst this;exact h2 j hj
theorem X7{ps:c_}:xl ps=true↔Cl ps:=by
 unfold xl EW;rw[dr,bB];have sw:∀ p q:HS K,af q.n p.n=-af p.n q.n:=λp q=>V3.Gl _ _;have bad:∀{i j:Nat},Ba ps i j=false↔(nW ps i j≠0->(∃ r∈ps,0<dot r.n (nW ps i j))/\∃ r∈ps,0<dot r.n (-nW ps i j)):=by
  intro i j;unfold Ba;rw[Bool.and_eq_false_iff,NN,aGm,aGm,aAy];constructor
  ·rintro(h|h) h0
   ·exact absurd h0 h
   ·exact h
  ·intro h;by_cases h0:nW ps i j≠0
   ·exact .inr (h h0)
   ·exact .inl h0
 have Bg:∀{p q:HS K} {i j:Nat},ps[i]?=some p->ps[j]?=some q->nW ps i j=af p.n q.n:=λhp hq=>by unfold nW;rw[JC hp,JC hq]
 constructor
 ·rintro⟨h1,h2⟩
  have hb:∀ i j,i<ps.length->j<i->Ba ps i j=false:=λi j hi hj=>by have:=h1 i (jT.2 hi);rw[bB]at this;simpa using this j (jT.2 hj)
  have qv:¬nr ps ps.length=true:=by simpa using h2
  rw[X6]at qv;refine⟨?_,λp hp q hq aQ=>?_⟩
  ·apply gR;intro fX;refine qv λi j hi hj=>.inl ?_;rw[Bg (bo hi) (bo (mU hj hi))];exact gR λh=>fX ⟨_,dB _,_,dB _,h⟩
  ·obtain⟨i,hi,rfl⟩:=k8 hp;obtain⟨j,hj,rfl⟩:=k8 hq;rcases tR i j with h|h|h
   ·have:=bad.1 (hb j i hj h);rw[Bg (bo hj) (bo hi)]at this;rw[sw ps[j] ps[i]];exact(this λe=>aQ (by rw[sw,e];exact V3.neg_eq_zero.2 rfl)).2
   ·subst h;exact absurd (V3.LC _) aQ
   ·have:=bad.1 (hb i j hi h);rw[Bg (bo hi) (bo hj)]at this;exact(this aQ).1
 ·rintro⟨⟨p,hp,q,hq,aQ⟩,bh⟩
  refine⟨λi hi=>?_,?_⟩
  ·have hi:=jT.1 hi;rw[bB];intro j hj;have hj:=jT.1 hj;have hp:=bo hi;have hq:=bo (mU hj hi);have:Ba ps i j=false:=bad.2 λh0=>by rw[Bg hp hq]at h0 ⊢;refine⟨bh _ (cL hp) _ (cL hq) h0,?_⟩;rw[<-sw];exact bh _ (cL hq) _ (cL hp) λe=>h0 (by rw[sw,e];exact V3.neg_eq_zero.2 rfl)
   rw[this];rfl
  ·obtain⟨i,hi,rfl⟩:=k8 hp;obtain⟨j,hj,rfl⟩:=k8 hq;have key:∀ i j (hi:i<ps.length) (hj:j<ps.length),j<i->af ps[i].n ps[j].n≠0->(!nr ps ps.length)=true:=by
    intro i j hi hj oT aQ;have:nr ps ps.length≠true:=λhf=>by
     rcases(X6 _).1 hf i j hi oT with h|h
     ·rw[Bg (bo hi) (bo hj)]at h;exact aQ h
     ·rw[Bg (bo hi) (bo hj)]at h;obtain⟨r,hr,nK⟩:=bh _ (dB hi) _ (dB hj) aQ;unfold CZ at h;rw[bB]at h;have:=kX (h r hr);rw[this]at nK;exact OF.lt_irrefl _ nK
    simpa using this
   rcases tR i j with h|h|h
   ·exact key j i hj hi h λe=>aQ (by rw[sw,e];exact V3.neg_eq_zero.2 rfl)
   ·subst h;exact absurd (V3.LC _) aQ
   ·exact key i j hi hj h aQ
theorem X8(v:V3 K):∀ l:e_,aXT l v=ni v l
 |[]=>rfl
 |a::l=>by
  unfold aXT ni;rw[X8 v l];have:(0<eD a v)↔eD a v=1:=by rcases IZ a v with h|h|h<;>rw[h]<;>decide
  by_cases h0:eD a v=0
  ·rw[aB h0,aB h0]
  ·rw[av h0,av h0];by_cases h1:eD a v=1
   ·rw[aB h1,aB (this.2 h1)]
   ·rw[av h1,av (λh=>h1 (this.1 h))]
theorem aGn{p q r:HS K}(h:aW p.n q.n r.n≠0):cy p (lH p q r)/\cy q (lH p q r)/\cy r (lH p q r):=by unfold cy lH Jt;rw[V3.gC,V3.gC,V3.gC,aQW,CR.one_mul];have e1:=aTy p.n q.n r.n p.d q.d r.d;have e2:=aTz p.n q.n r.n p.d q.d r.d;have e3:=aTA p.n q.n r.n p.d q.d r.d;rw[e1,e2,e3,CR.mul_assoc,CR.mul_assoc,CR.mul_assoc,OF.jn _ h,CR.mul_one,CR.mul_one,CR.mul_one];exact⟨rfl,rfl,rfl⟩
theorem aTD{p q r:HS K}(h:aW p.n q.n r.n≠0){x:V3 K}(hp:cy p x)(hq:cy q x)(hr:cy r x):x=lH p q r:=by
 obtain⟨h1,h2,h3⟩:=aGn h;refine V3.sub_eq_zero.1 (V3.Gn h ?_ ?_ ?_)
 ·rw[V3.gT,show dot p.n x=p.d from hp,show dot p.n (lH p q r)=p.d from h1,OF.sub_self]
 ·rw[V3.gT,show dot q.n x=q.d from hq,show dot q.n (lH p q r)=q.d from h2,OF.sub_self]
 ·rw[V3.gT,show dot r.n x=r.d from hr,show dot r.n (lH p q r)=r.d from h3,OF.sub_self]
def EY(ps:c_)(i j k:Nat):Prop:=aW (eM ps i).n (eM ps j).n (eM ps k).n≠0/\Bb ps i j k (lH (eM ps i) (eM ps j) (eM ps k))=true
theorem aTE{ps:c_}{i k:Nat}{x:V3 K}:x∈uU ps acc i j k↔x∈acc\/(EY ps i j k/\x=lH (eM ps i) (eM ps j) (eM ps k)):=by
 unfold uU EY;by_cases h:aW (eM ps i).n (eM ps j).n (eM ps k).n=0
 ·rw[aB h];exact⟨.inl,λe=>e.elim id λe=>absurd h e.1.1⟩
 ·rw[av h];by_cases h2:Bb ps i j k (lH (eM ps i) (eM ps j) (eM ps k))=true
  ·rw[aB h2,X8,P6];exact⟨λe=>e.elim (λe=>.inr ⟨⟨h,h2⟩,e⟩) .inl,λe=>e.elim .inr λe=>.inl e.2⟩
  ·rw[av h2];exact⟨.inl,λe=>e.elim id λe=>absurd e.1.2 h2⟩
theorem aTF{ps:c_}{i k:Nat}(h:acc.Pairwise j8):(uU ps acc i j k).Pairwise j8:=by
 unfold uU;split
 ·exact h
 ·split
  ·rw[X8];exact VN h
  ·exact h
theorem aGo{ps:c_}{acc:e_}{i j:Nat}{x:V3 K}:∀ n,x∈pO ps acc i j n↔x∈acc\/∃ k,k<n/\EY ps i j k/\x=lH (eM ps i) (eM ps j) (eM ps k)
 |0=>⟨.inl,λe=>e.elim id λ⟨k,h,_⟩=>by omega⟩
 |n+1=>by
  unfold pO;rw[aTE,aGo n];constructor
  ·rintro((h|⟨k,h1,h2⟩)|h)
   ·exact .inl h
   ·exact .inr ⟨k,by omega,h2⟩
   ·exact .inr ⟨n,by omega,h⟩
  ·rintro(h|⟨k,h1,h2⟩)
   ·exact .inl (.inl h)
   ·rcases e7 k n with hl|hl
    ·exact .inl (.inr ⟨k,hl,h2⟩)
    ·have:k=n:=by omega
     subst this;exact .inr h2
theorem aGp{ps:c_}{acc:e_}{i:Nat}{x:V3 K}:∀ n,x∈oJ ps acc i n↔x∈acc\/∃ j k,j<n/\k<j/\EY ps i j k/\x=lH (eM ps i) (eM ps j) (eM ps k)
 |0=>⟨.inl,λe=>e.elim id λ⟨k,_,h,_⟩=>by omega⟩
 |n+1=>by
  unfold oJ;rw[aGo,aGp n];constructor
  ·rintro((h|⟨j,k,h1,h2⟩)|⟨k,h⟩)
   ·exact .inl h
   ·exact .inr ⟨j,k,by omega,h2⟩
   ·exact .inr ⟨n,k,by omega,h⟩
  ·rintro(h|⟨j,k,h1,h2⟩)
   ·exact .inl (.inl h)
   ·rcases e7 j n with hl|hl
    ·exact .inl (.inr ⟨j,k,hl,h2⟩)
    ·have:j=n:=by omega
     subst this;exact .inr ⟨k,h2⟩
theorem aGq{ps:c_}{x:V3 K}:∀ n,x∈sB ps n↔∃ i j k,i<n/\j<i/\k<j/\EY ps i j k/\x=lH (eM ps i) (eM ps j) (eM ps k)
 |0=>⟨λh=>(by cases h),λ⟨i,_,_,h,_⟩=>by omega⟩
 |n+1=>by
  unfold sB;rw[aGp,aGq n];constructor
  ·rintro(⟨i,j,k,h1,h2⟩|⟨j,k,h⟩)
   ·exact⟨i,j,k,by omega,h2⟩
   ·exact⟨n,j,k,by omega,h⟩
  ·rintro⟨i,j,k,h1,h2⟩
   rcases e7 i n with hl|hl
   ·exact .inl ⟨i,j,k,hl,h2⟩
   ·have:i=n:=by omega
    subst this;exact .inr ⟨j,k,h2⟩
theorem aGr{ps:c_}{acc:e_}{i j:Nat}(h:acc.Pairwise j8):∀ n,(pO ps acc i j n).Pairwise j8
 |0=>h
 |n+1=>aTF (aGr h n)
theorem aGs{ps:c_}{acc:e_}{i:Nat}(h:acc.Pairwise j8):∀ n,(oJ ps acc i n).Pairwise j8
 |0=>h
 |n+1=>aGr (aGs h n) _
theorem aGt{ps:c_}:∀ n,(sB ps n).Pairwise j8
 |0=>aCZ
 |n+1=>aGs (aGt n) _
theorem aTG{ps:c_}{i k:Nat}(hi:i<ps.length)(hj:j<ps.length)(hk:k<ps.length)(h:EY ps i j k):j5 ps (lH (eM ps i) (eM ps j) (eM ps k)):=by
 obtain⟨hd,hb⟩:=h;obtain⟨t1,t2,t3⟩:=aGn hd;have gu:=bo hi;have gM:=bo hj;have gN:=bo hk;have mi:eM ps i∈ps:=by rw[ql gu];exact dB hi
 have mj:eM ps j∈ps:=by rw[ql gM];exact dB hj
 have mk:eM ps k∈ps:=by rw[ql gN];exact dB hk
 refine⟨λp hp=>?_,_,mi,_,mj,_,mk,hd,t1,t2,t3⟩;obtain⟨l,hl,rfl⟩:=k8 hp;unfold Bb at hb;rw[bB]at hb;have:=hb l (jT.2 hl);unfold JD at this;rw[ql (bo hl)]at this;simp only[vl,tZ]at this;rcases this with rfl|rfl|rfl|h
 ·rw[ql gu]at t1 ⊢;exact OF.le_of_eq t1
 ·rw[ql gM]at t2 ⊢;exact OF.le_of_eq t2
 ·rw[ql gN]at t3 ⊢;exact OF.le_of_eq t3
 ·have:=aGl.1 h;rw[<-OF.sub_nonneg];rw[<-OF.neg_nonneg,OF.neg_sub]at this;exact this
theorem JL{ps:c_}{i k:Nat}{p q r:HS K}{x:V3 K}(hp:ps[i]?=some p)(hq:ps[j]?=some q)(hr:ps[k]?=some r)(hd:aW p.n q.n r.n≠0)(hx:dZ ps x)(t1:cy p x)(t2:cy q x)(t3:cy r x):
  EY ps i j k/\x=lH (eM ps i) (eM ps j) (eM ps k):=by
 unfold EY;rw[ql hp,ql hq,ql hr];have e:=aTD hd t1 t2 t3;refine⟨⟨hd,?_⟩,e⟩;rw[<-e];unfold Bb;rw[bB];intro l hl;have hl:=jT.1 hl;rw[ql (bo hl)];unfold JD;simp only[vl,tZ];refine .inr (.inr (.inr (aGl.2 ?_)));have:=hx _ (dB hl);rw[<-OF.neg_nonneg,OF.neg_sub];exact OF.sub_nonneg.2 this
theorem RQ{ps:c_}{x:V3 K}:x∈fC ps↔j5 ps x:=by
 unfold fC;rw[aGq];constructor
 ·rintro⟨i,j,k,h1,h2,h3,h4,rfl⟩
  exact aTG h1 o_ o_ h4
 ·rintro⟨cz,p,hp,q,hq,r,hr,hd,t1,t2,t3⟩
  obtain⟨a,ha,rfl⟩:=k8 hp;obtain⟨b,hb,rfl⟩:=k8 hq;obtain⟨c,hc,rfl⟩:=k8 hr;have jk:=bo ha;have jU:=bo hb;have kS:=bo hc;have same:∀ u w:V3 K,aW u u w=0:=aGf;have X9:∀ u w:V3 K,aW u w w=0:=aGg;have Ya:∀ u w:V3 K,aW u w u=0:=aGh;have ab:a≠b:=λe=>by subst e;exact hd (same _ _)
  have bc:b≠c:=λe=>by subst e;exact hd (X9 _ _)
  have ac:a≠c:=λe=>by subst e;exact hd (Ya _ _)
  have s1:∀{u v w:V3 K},aW u v w≠0->aW u w v≠0:=λ{u v w} h e=>h (by rw[V3.Vk,e,CR.neg_zero]);have r1:∀{u v w:V3 K},aW u v w≠0->aW v w u≠0:=λ{u v w} h e=>h (by rw[V3.Gm];exact e);rcases tR a b with h1|h1|h1
  ·rcases tR b c with h2|h2|h2
   ·exact⟨c,b,a,hc,h2,h1,JL kS jU jk (r1 (s1 (r1 (r1 (r1 hd))))) cz t3 t2 t1⟩
   ·exact absurd h2 bc
   ·rcases tR a c with h3|h3|h3
    ·exact⟨b,c,a,hb,h2,h3,JL jU kS jk (r1 hd) cz t2 t3 t1⟩
    ·exact absurd h3 ac
    ·exact⟨b,a,c,hb,h1,h3,JL jU jk kS (s1 (r1 hd)) cz t2 t1 t3⟩
  ·exact absurd h1 ab
  ·rcases tR a c with h2|h2|h2
   ·exact⟨c,a,b,hc,h2,h1,JL kS jk jU (r1 (r1 hd)) cz t3 t1 t2⟩
   ·exact absurd h2 ac
   ·rcases tR b c with h3|h3|h3
    ·exact⟨a,c,b,ha,h2,h3,JL jk kS jU (s1 hd) cz t1 t3 t2⟩
    ·exact absurd h3 bc
    ·exact⟨a,b,c,ha,h1,h3,JL jk jU kS hd cz t1 t2 t3⟩
theorem aTH(ps:c_):(fC ps).Pairwise j8:=aGt _
theorem EZ{ps:c_}(hc:Cl ps)(hp:fH ps)(hf:lD ps):cQ ps=fC ps:=by unfold cQ;refine VO (VQ _) (aTH ps) λx=>?_;rw[VP,RQ,aSm hc hp (aMz hc hp hf)]
theorem aGu{ps:c_}(hc:Cl ps)(hp:fH ps)(hf:lD ps){x:V3 K}:x∈cQ ps↔j5 ps x:=by rw[EZ hc hp hf,RQ]
theorem aGv{vs:e_}:we vs=false↔VM vs:=by
 unfold we;rw[JK];constructor
 ·rintro⟨i,hi,h⟩
  have hi:=jT.1 hi;unfold EX at h;rw[Qj,JK]at h;obtain⟨k,hk,h⟩:=h;have hk:=jT.1 hk;unfold Hj at h;rw[Qj,JK]at h;obtain⟨j,hj,h⟩:=h;have hj:=jT.1 hj;unfold MY at h;cases vs with
  |nil=>simp at hi
  |cons o rest=>
   simp only[pS,OG]at hi;have get:∀{n:Nat} (hn:n<rest.length),aA (o::rest) (n+1)=rest[n]:=λhn=>by unfold aA;simp[bo hn]
   rw[get hi,get o_,get o_,show aA (o::rest) 0=o from rfl]at h;refine⟨o,rest,rfl,rest[j],dB _,rest[i],dB _,rest[k],dB _,λe=>?_⟩;refine h (aH ((OF.fF _).2 ?_));rw[V3.yp];exact e
 ·rintro⟨o,rest,rfl,a,ha,b,hb,c,hc,hd⟩
  obtain⟨a,la,rfl⟩:=k8 ha;obtain⟨b,lb,rfl⟩:=k8 hb;obtain⟨c,lc,rfl⟩:=k8 hc;have get:∀{n:Nat} (hn:n<rest.length),aA (o::rest) (n+1)=rest[n]:=λhn=>by unfold aA;simp[bo hn]
  have fin:∀(i k j:Nat) (hi:i<rest.length) (hk:k<rest.length) (hj:j<rest.length),k<i->j<k->aW (rest[j]-o) (rest[i]-o) (rest[k]-o)≠0->∃ x∈List.range ((o::rest).length-1),¬EX (o::rest) x=true:=by intro i k j hi hk hj hki b9 hd;refine⟨i,jT.2 (by simpa using hi),?_⟩;unfold EX;rw[Qj,JK];refine⟨k,jT.2 hki,?_⟩;unfold Hj;rw[Qj,JK];refine⟨j,jT.2 b9,?_⟩;unfold MY;rw[get hi,get hk,get hj,show aA (o::rest) 0=o from rfl,tZ,OF.fF,V3.yp];exact hd
  have same:∀ u w:V3 K,aW u u w=0:=aGf;have X9:∀ u w:V3 K,aW u w w=0:=aGg;have Ya:∀ u w:V3 K,aW u w u=0:=aGh;have ab:a≠b:=λe=>by subst e;exact hd (same _ _)
  have bc:b≠c:=λe=>by subst e;exact hd (X9 _ _)
  have ac:a≠c:=λe=>by subst e;exact hd (Ya _ _)
  have s1:∀{u v w:V3 K},aW u v w≠0->aW u w v≠0:=λ{u v w} h e=>h (by rw[V3.Vk,e,CR.neg_zero]);have r1:∀{u v w:V3 K},aW u v w≠0->aW v w u≠0:=λ{u v w} h e=>h (by rw[V3.Gm];exact e);rcases tR a b with h1|h1|h1
  ·rcases tR b c with h2|h2|h2
   ·exact fin c b a lc lb la h2 h1 (s1 hd)
   ·exact absurd h2 bc
   ·rcases tR a c with h3|h3|h3
    ·exact fin b c a lb lc la h2 h3 hd
    ·exact absurd h3 ac
    ·exact fin b a c lb la lc h1 h3 (r1 (s1 hd))
  ·exact absurd h1 ab
  ·rcases tR a c with h2|h2|h2
   ·exact fin c a b lc la lb h2 h1 (r1 hd)
   ·exact absurd h2 ac
   ·rcases tR b c with h3|h3|h3
    ·exact fin a c b la lc lb h2 h3 (r1 (r1 (s1 hd)))
    ·exact absurd h3 bc
    ·exact fin a b c la lb lc h1 h3 (r1 (r1 hd))
theorem aGw{ι:Type}{R:ι->ι->Prop}:∀{l:List ι},mD R l->∀(i:Nat) (x y:ι),l[i]?=some x->l[i+1]?=some y->R x y
 |[],_,i,x,y,h,_=>by simp at h
 |[a],_,i,x,y,_,h=>by simp at h
 |a::b::l,hs,0,x,y,h,k=>by simp at h k;subst h;subst k;exact hs.1
 |a::b::l,hs,i+1,x,y,h,k=>aGw hs.2 i x y (by simpa using h) (by simpa using k)
theorem aGx{g:V3 K}{vs:e_}{on:l_}{c:Nat}:wh g vs on a c=true↔c≠a/\mZ g (aA vs) on a c:=by
 unfold wh M5;rw[dr,bB];have e:∀ b,JG g vs a c b=true↔(b=a\/b=c\/0<turn g (aA vs a) (aA vs c) (aA vs b)):=by
  intro b;unfold JG RJ;simp only[vl,tZ];have:(0<OF.aG (aW g (aA vs c-aA vs a) (aA vs b-aA vs a)))↔0<turn g (aA vs a) (aA vs c) (aA vs b):=by rw[OF.gk];show 0<OF.aG (turn g (aA vs a) (aA vs c) (aA vs b))↔_;rcases OF.iY (turn g (aA vs a) (aA vs c) (aA vs b))with h|h|h<;>rw[h]<;>decide
  rw[this]
 constructor
 ·rintro⟨h1,h2⟩
  refine⟨by simpa using h1,λb hb qQ As=>?_⟩;rcases(e b).1 (h2 b hb)with h|h|h
  ·exact absurd h qQ
  ·exact absurd h As
  ·exact h
 ·rintro⟨h1,h2⟩
  refine⟨by simpa using h1,λb hb=>(e b).2 ?_⟩;by_cases qQ:b=a
  ·exact .inl qQ
  ·by_cases As:b=c
   ·exact .inr (.inl As)
   ·exact .inr (.inr (h2 b hb qQ As))
theorem kM{p:HS K}{vs:e_}{i:Nat}:i∈bY p vs vs.length↔i<vs.length/\cy p (aA vs i):=by unfold bY cy;rw[aFr,jT,tZ,OF.sub_eq_zero]
theorem aGy(p:HS K)(vs:e_):(bY p vs vs.length).Pairwise (·<·):=by unfold bY;exact List.Pairwise.filter _ List.pairwise_lt_range
theorem JM{vs:e_}{i:Nat}(h:i<vs.length):aA vs i∈vs:=cL (kJ h)
theorem aGz{vs:e_}{v:V3 K}(h:v∈vs):∃ i,i<vs.length/\aA vs i=v:=by obtain⟨i,hi,rfl⟩:=k8 h;refine⟨i,hi,?_⟩;have:=kJ hi;rw[bo hi]at this;injection this with this;exact this.symm
structure iM(ps:c_)(vs:e_):Prop where
 sorted:vs.Pairwise j8
 mem:∀ v,v∈vs↔j5 ps v
theorem iM.lt{ps:c_}{vs:e_}(h:iM ps vs){i:Nat}(kP:i<j)(hj:j<vs.length):j8 (aA vs i) (aA vs j):=by have h1:=kJ (vs:=vs) (i:=i) o_;have h2:=kJ hj;rw[bo o_]at h1 h2;injection h1 with h1;injection h2 with h2;rw[<-h1,<-h2];exact Ri.1 h.sorted i j o_ hj kP
theorem iM.inj{ps:c_}{vs:e_}(h:iM ps vs){i:Nat}(hi:i<vs.length)(hj:j<vs.length)(e:aA vs i=aA vs j):i=j:=by
 rcases tR i j with hl|hl|hl
 ·have:=h.lt hl hj;rw[e]at this;exact absurd this (Ed _)
 ·exact hl
 ·have:=h.lt hl hi;rw[e]at this;exact absurd this (Ed _)
section
variable{ps:c_}{vs:e_}{p:HS K}
theorem iM.conv(h:iM ps vs):Conv p.n (aA vs) (bY p vs vs.length):=
 aMs (ps:=ps) (p:=p) (λi hi=>by obtain⟨h1,h2⟩:=kM.1 hi;exact⟨(h.mem _).1 (JM h1),h2⟩) λi hi j hj e=>h.inj (kM.1 hi).1 (kM.1 hj).1 e
theorem iM.sort(h:iM ps vs):yu (aA vs) aCF (bY p vs vs.length):=by unfold yu;refine aGA (λ{a b} ha hb al=>?_) (aGy p vs);have:=h.lt al (kM.1 hb).1;exact LQ.1 this
theorem Hm(p:HS K)(vs:e_):(bY p vs vs.length).Nodup:=(aGy p vs).imp λ{a b} h=>Nat.ne_of_lt h
theorem iM.loop(h:iM ps vs)(hp:p.n≠0)(hl:¬(bY p vs vs.length).length<3):
  RL p.n vs (bY p vs vs.length)=false/\aXZ p.n vs (bY p vs vs.length) (order p.n (aA vs) (bY p vs vs.length))/\(order p.n (aA vs) (bY p vs vs.length)).length=(bY p vs vs.length).length:=by
 have hc:=h.conv (p:=p);have hs:=h.sort (p:=p);have fv:=Hm p vs;have cz:∀ a∈bY p vs vs.length,∀ b∈bY p vs vs.length,aA vs a=aA vs b->a=b:=λa ha b hb e=>h.inj (kM.1 ha).1 (kM.1 hb).1 e;generalize iq:bY p vs vs.length=on at *
 match on,hl,hc,hs,fv,cz with
 |a::b::c::l,_,hc,hs,fv,cz=>
  obtain⟨m,e1,e2,e3,e4⟩:=aCC hp hc hs;have hlen:(a::m).length=(a::b::c::l).length:=((aTI e2 fv).2 e3).length_eq;refine⟨?_,⟨?_,?_,λi x y hx hy=>?_⟩,?_⟩
  ·show(c::l).all (C1 p.n vs a b)=false;rw[JK];refine⟨c,aT ..,?_⟩;unfold C1 RJ;rw[tZ,OF.fF];simp only[Yb,cC,not_or]at fv;exact hc.PU hp (aT ..) (bF _ (aT ..)) (bF _ (bF _ (aT ..))) fv.1.1 fv.1.2.1 fv.2.1.1
  ·rw[e1,hlen]
  ·rw[e1];rfl
  ·rw[e1]at hx hy;have HB:=(eA.1 hy).1;have lF:=aGw e4 i x y (by rw[Kj o_];exact hx) (by rw[Kj HB];exact hy);have hym:=(e3 y).1 (cL hy);have kU:y≠x:=by intro e;subst e;have XG:=(eA.1 hx).1;have h1:=(eA.1 hx).2;have h2:=(eA.1 hy).2;have:=(Ri.1 e2) i (i+1) XG HB o_;exact this (h1.trans h2.symm)
   obtain⟨k,hk,hke⟩:=k8 hym;refine⟨k,by rw[bo hk,hke],aGx.2 ⟨kU,lF⟩,λj z hj hz=>?_⟩;cases hf:wh p.n vs (a::b::c::l) x z with
   |false=>rfl
   |true=>
    obtain⟨q1,q2⟩:=aGx.1 hf;have:=Vy (pt:=aA vs) (n:=p.n) cz hym (cL hz) kU q1 lF q2;subst this;have JI:=(eA.1 hz).1;have hje:=(eA.1 hz).2;exact absurd (hje.trans hke.symm) (Ri.1 fv j k JI hk hj)
  ·rw[e1,hlen]
 |[],hl,_,_,_,_=>simp at hl
 |[_],hl,_,_,_,_=>simp at hl
 |[_,_],hl,_,_,_,_=>simp at hl
theorem iM.Bf(h:iM ps vs)(hp:p.n≠0)(i:Nat):qk ps vs i p=if lf ps i p then[]else if(bY p vs vs.length).length<3 then[]else[(i,order p.n (aA vs) (bY p vs vs.length))]:=by
 unfold qk;by_cases h1:lf ps i p=true
 ·rw[aB h1];exact aB h1
 ·rw[av h1];refine(av h1).trans ?_;by_cases h2:(bY p vs vs.length).length<3
  ·rw[aB h2,aB h2]
  ·rw[av h2,av h2,aB (by rw[(h.loop hp h2).2.2];omega)]
theorem Hn:∀{I J:l_},I.Nodup->(∀ x∈I,x∈J)->I.length<=J.length
 |[],_,_,_=>lM _
 |x::I,J,hn,hs=>by
  obtain⟨A,B,rfl⟩:=List.append_of_mem (hs x (aT ..));rw[Yb]at hn;have:=Hn (J:=A++B) hn.2 λy hy=>by
   have h1:=hs y (bF _ hy);rcases eW.1 h1 with h|h
   ·exact sC _ h
   ·rcases cC.1 h with rfl|h
    ·exact absurd hy hn.1
    ·exact yZ _ h
  simp only[lh,pS]at this ⊢;omega
theorem aGB(f:Nat->List (Nat×List Nat))(P:Nat->Bool)(h:∀ i,P i=true->f i≠[]):∀ l:List Nat,(l.filter P).length<=(l.flatMap f).length
 |[]=>bC _
 |i::l=>by
  rw[List.flatMap_cons,lh,NS];have:=aGB f P h l;split
  ·rename_i hp;have:=List.length_pos_iff.2 (h i hp);rw[pS];omega
  ·omega
theorem M8{p q:HS K}(hp:p.n≠0)(hq:q.n≠0)(h:canon p=canon q)(v:V3 K):(dot p.n v<=p.d↔dot q.n v<=q.d)/\(cy p v↔cy q v):=by
 obtain⟨k,hk,rfl⟩:=(X3 hp hq).1 h;unfold cy C2
 try dsimp only
 rw[V3.LB,CR.mul_comm (dot p.n v),CR.mul_comm p.d];refine⟨(OF.mul_le_mul_left hk).symm,λh=>by rw[h],λh=>?_⟩;have yn:k≠0:=OF.ne_of_gt hk;have:k⁻¹*(k*dot p.n v)=k⁻¹*(k*p.d):=by rw[h]
 rwa[<-CR.mul_assoc,<-CR.mul_assoc,OF.inv_mul yn,CR.one_mul,CR.one_mul]at this
theorem nY.on(hc:Cl ps)(hp:fH ps)(hv:iM ps vs){x:V3 K}(hx:wY ps x){A B:c_}(h:nY ps (A++p::B)):¬(bY p vs vs.length).length<3:=by
 intro al;have jO:=hp p (h.sub p (yZ _ (aT ..)));have idx:∀ v,j5 ps v->cy p v->∃ i∈bY p vs vs.length,aA vs i=v:=by intro v h1 h2;obtain⟨i,hi,e⟩:=aGz ((hv.mem v).2 h1);exact⟨i,kM.2 ⟨hi,by rw[e];exact h2⟩,e⟩
 have pl:∀ i∈bY p vs vs.length,dot p.n (aA vs i)=p.d:=λi hi=>(kM.1 hi).2;obtain⟨u,hu,Cx⟩:=LF jO;generalize bY p vs vs.length=on at *
 match on,al,idx,pl with
 |[],_,idx,_=>
  obtain⟨v,w,v1,v2,_⟩:=h.Bf hc hp hx (Gp jO hu Cx);obtain⟨i,hi,_⟩:=idx v v1 v2;cases hi
 |[o],_,idx,_=>
  obtain⟨v,w,v1,v2,w1,w2,al⟩:=h.Bf hc hp hx (Gp jO hu Cx);obtain⟨i,hi,e⟩:=idx v v1 v2;obtain⟨j,hj,e'⟩:=idx w w1 w2;simp at hi hj;subst hi;subst hj;rw[<-e,<-e']at al;exact OF.lt_irrefl _ al
 |[o,a],_,idx,pl=>
  by_cases hd:aA vs a-aA vs o=0
  ·have hd:=V3.sub_eq_zero.1 hd;obtain⟨v,w,v1,v2,w1,w2,al⟩:=h.Bf hc hp hx (Gp jO hu Cx);obtain⟨i,hi,e⟩:=idx v v1 v2;obtain⟨j,hj,e'⟩:=idx w w1 w2;simp at hi hj;rw[<-e,<-e']at al;rcases hi with rfl|rfl<;>rcases hj with rfl|rfl<;>first|exact OF.lt_irrefl _ al|(rw[hd]at al;exact OF.lt_irrefl _ al)
  ·have hdp:dot p.n (aA vs a-aA vs o)=0:=by rw[V3.gT,pl a s_,pl o s_,OF.sub_self]
   have c8:=Gp jO hd hdp;have dH:=Gp jO c8 (V3.Ea _ _);obtain⟨v,w,v1,v2,w1,w2,al⟩:=h.Bf hc hp hx dH;obtain⟨i,hi,e⟩:=idx v v1 v2;obtain⟨j,hj,e'⟩:=idx w w1 w2;have heq:dot (af p.n (aA vs a-aA vs o)) (aA vs a)=dot (af p.n (aA vs a-aA vs o)) (aA vs o):=by rw[<-OF.sub_eq_zero,<-V3.gT,V3.yp];exact V3.Ao _ _
   simp at hi hj;rw[<-e,<-e']at al;rcases hi with rfl|rfl<;>rcases hj with rfl|rfl<;>first|exact OF.lt_irrefl _ al|(rw[heq]at al;exact OF.lt_irrefl _ al)
 |_::_::_::_,al,_,_=>simp only[pS]at al;omega
theorem aTJ(hc:Cl ps)(hp:fH ps)(hv:iM ps vs)(hf:lD ps):4<=(dE ps vs ps.length).length:=by
 obtain⟨x,hx⟩:=hf;obtain⟨S,hS⟩:=aGi ps;have h4:=hS.four hc hp hx;obtain⟨fi,jA⟩:∃ fi:HS K->Nat,fi=λp=>ps.findIdx λq=>decide (canon q=canon p):=⟨_,rfl⟩;have Yc:∀ p∈S,fi p<ps.length:=λp hp=>by rw[jA];exact aTK ⟨p,hS.sub p hp,by simp⟩
 have Bg:∀ p (hp:p∈S),canon (ps[fi p]'(Yc p hp))=canon p:=λp hp=>by have h1:=Yc p hp;have:=List.findIdx_getElem (xs:=ps) (p:=λq=>decide (canon q=canon p)) (w:=by rw[jA]at h1;exact h1);subst jA;simpa using this
 have split:∀ i (hi:i<S.length),S=S.take i++S[i]::S.drop (i+1):=λi hi=>by rw[<-Qd hi,Ml]
 have aQ:S.Pairwise λp q=>canon p≠canon q:=by
  rw[Ri];intro i j hi hj kP e;have hl:nY ps (S.take i++S[i]::S.drop (i+1)):=by rw[<-split i hi];exact hS
  obtain⟨y,hy,al⟩:=hl.alone;have hm:S[j]∈S.drop (i+1):=cL (i:=j-(i+1)) (by rw[E5,show i+1+(j-(i+1))=j by omega,bo hj])
  have:=hy _ (yZ _ hm);have hs:=(M8 (hp _ (hS.sub _ (dB hi))) (hp _ (hS.sub _ (dB hj))) e y).1;exact OF.lt_irrefl _ (OF.lt_of_lt_of_le al (hs.2 this))
 have hI:(S.map fi).Nodup:=by
  unfold List.Nodup;rw[List.pairwise_map];refine aGA (λ{a b} ha hb ch e=>ch ?_) aQ;have h1:=Bg a ha;have h2:=Bg b hb;rw[<-h1,<-h2]
  congr 1
  have:∀(i j:Nat) (hi:i<ps.length) (hj:j<ps.length),i=j->ps[i]=ps[j]:=λi j hi hj e=>by subst e;rfl
  exact this _ _ _ _ e
 have aTL:∀ i∈S.map fi,i<ps.length/\ga ps vs i≠[]:=by
  intro i hi;obtain⟨p,C3,rfl⟩:=db.1 hi;have al:=Yc p C3;have JN:=Bg p C3;refine⟨al,?_⟩;unfold ga;rw[bo al];dsimp only;have jO:=hp _ (hS.sub p C3);have Ay:=hp _ (dB al);rw[hv.Bf Ay];have su:¬lf ps (fi p) ps[fi p]=true:=by
   unfold lf;rw[rD]
   rintro⟨q,hq,hd⟩
   obtain⟨j,hj,rfl⟩:=k8 hq;rw[jH]at hj;rw[Ru,JN]at hd;have hd:=kX hd;have M9:j<fi p:=by omega
   rw[jA]at M9;have:=List.not_of_lt_findIdx M9;simp[hd]at this
  rw[av su];obtain⟨k,hk,rfl⟩:=k8 C3;have hl:nY ps (S.take k++S[k]::S.drop (k+1)):=by rw[<-split k hk];exact hS
  have iq:=nY.on hc hp hv hx hl;have heq:bY ps[fi S[k]] vs vs.length=bY S[k] vs vs.length:=by unfold bY;refine List.filter_congr λi _=>?_;have hs:=(M8 Ay jO JN (aA vs i)).2;unfold cy at hs;rw[sQ,OF.sub_eq_zero,OF.sub_eq_zero];exact hs
  rw[heq,av iq];exact n_
 have h1:=Hn (J:=(List.range ps.length).filter λi=>decide (ga ps vs i≠[])) hI λi hi=>by rw[aFr,jT,tZ];exact aTL i hi
 have h2:=aGB (ga ps vs) (λi=>decide (ga ps vs i≠[])) (λi hi=>kX hi) (List.range ps.length);rw[eH]at h1;unfold dE;omega
end
end
theorem bW.swap{R:α->β->Prop}{a a':α}(h:∀ b,R a b->R a' b):∀(pre:List α) {post:List α} {m:List β},bW R (pre++a::post) m->bW R (pre++a'::post) m
 |[],_,_,h1=>by cases h1 with|cons h2 h3=>exact .cons (h _ h2) h3
 |_::pre,_,_,h1=>by cases h1 with|cons h2 h3=>exact .cons h2 (bW.swap h pre h3)
theorem aGC{M:aL}(h:cY c M)(k:Nat)(x:Obj):cY (bA c k x) ((k,x)::M):=λj y e=>by
 unfold ag at e;unfold bA;split at e
 ·rename_i hb;injection e with e;subst e;rw[aB (lj hb).symm]
 ·rename_i hb;rw[av (λe'=>hb (by rw[e'];exact HJ k))];exact h j y e
theorem aTM{n:Nat}(h:eF c n){k:Nat}(hk:k<n)(x:Obj):eF (bA c k x) n:=λj hj=>by unfold bA;rw[av o_];exact h j hj
section
variable{P:j_}{B:aa}{N:Nat}
theorem aO.aTN{w:h_}(hm:aO B ι c w){k:Nat}{cells:ak}(hk:c k=some (.aM cells ty))(h:∀ bL,bW (aK ι) cells bL->bW (aK ι) cells' bL):aO B ι (bA c k (.aM cells' ty)) w:=by obtain⟨l,h1,b,bL,e1,e2,e3⟩:=hm.born k _ hk;subst e1;exact hm.write hk rfl h1 (.refl w) rfl rfl (bC _) (λ_ _ _=>rfl) ⟨b,bL,rfl,h _ e2,e3⟩ n_ rfl
theorem St.aTO{M:aL}{next:Nat}{a:Act}{w:h_}(h:St B N fr M next a w){k:Nat}{tb:TypeId}(hk:ag M k=some (.aM (pre++.slice none 0 0::post) tb))(ty:TypeId)(s:Nat):
  St B N fr ((k,.aM (pre++.slice (some ⟨next,0,some 7⟩) 0 0::post) tb)::(next,.row [] ty s)::M) (next+1) a w:=by
 obtain⟨ι,cc,h1,h2,h3,h4⟩:=h;have hn:=h4 next (bC _);have hle:Map.le ι (dS ι next .nil):=ij (h2.dF next hn);have GI:=h3 k _ hk;have oU:k≠next:=λe=>by subst e;rw[hn]at GI;cases GI
 have al:k<next:=by
  rcases e7 k next with h|h
  ·exact h
  ·rw[h4 k h]at GI;cases GI
 have m1:aO B (dS ι next .nil) (bA cc next (.row [] ty s)) w:=h2.add hn (.inl ⟨rfl,rfl⟩) n_ n_ n_;have m2:=m1.aTN (k:=k) (cells:=pre++.slice none 0 0::post) (cells':=pre++.slice (some ⟨next,0,some 7⟩) 0 0::post) (ty:=tb) (by unfold bA;rw[av oU];exact GI) λbL hc=>
  bW.swap (λb hb=>by rw[hb.eZ rfl];exact .slcN (gg _ _ _)) pre hc
 refine⟨_,_,⟨h1.defers,h1.size,λt=>(h1.slot t).mono hle⟩,m2,aGC (aGC h3 _ _) _ _,aTM (λj hj=>?_) o_ _⟩;unfold bA;rw[av o_];exact h4 j o_
def aGD(P:j_)(f:FuncId)(lE s1 np:Nat)(xp:ak)(nv:Nat)(xv:ak)(F:Fact):Prop:=
 ∀ w v1 b o c,cW w v1 np xp->cW w (.slice (some ⟨b,o,none⟩) nv c) nv xv->Calls P f #[v1,.slice (some ⟨b,o,none⟩) nv c] w λe w'=>∃ u1 u3,e=.returned (.agg #[u1,.slice (some ⟨b,o,none⟩) nv c,u3])/\
  w'.ownsRow w.heap.size lE s1 u1 np xp/\Ct w' u3 F/\(∀ b,F.cU u3 w' b->w.heap.size<=b)/\(∀ b,iU u1=some b->¬F.cU u3 w' b)/\Below w.heap.size w w'
theorem aTP{n2:Nat}{F:Fact}{a2:i_}{nd:q_}{x:m_}{S:Nat}(h:aGD P f n2 A np xp U eU F)(hs:gB B [.r np xp,.r U eU] [u',a2] nd)(ho:dD o.op=some x)(e8:gO P f=true)(xw:F.rc=false)
  (f1:(xp.all flat)=true) (hnv:0<U) (hS:∀ w,B.G w->S<=w.heap.size) (k:Nat) :
  cI P B o (.func (.func f) #[] #[]::[u',a2]) ((k,none)::(k+1,none)::nd) (.agg #[.slice (some ⟨k,0,some 7⟩) np 0,a2,.pointer (some ⟨k+1,0,some 9⟩)])
   [(k+1,.fact (F.nq S)),(k,.row xp n2 A)]:=by
 have:=jV (P:=P) (B:=B) (o:=o) (x:=x) (f:=f) (fi:=[]) (args:=[u',a2]) (ca:=[]) (need:=(k,none)::(k+1,none)::nd)
  (val:=.agg #[.slice (some ⟨k,0,some 7⟩) np 0,a2,.pointer (some ⟨k+1,0,some 9⟩)]) (cZ:=[(k+1,.fact (F.nq S)),(k,.row xp n2 A)]) ho e8 ?_
 ·simpa using this
 ·intro ι c w hm hn args' ha;rw[jg,jL]at ha;have k0:c k=none:=hn (k,none) s_;have k1:c (k+1)=none:=hn (k+1,none) s_;have cz:=Cv hs hm (λp hp=>hn p (by simp[hp])) ha;obtain⟨v1,v2,rfl,ca1,ZX⟩:=jv ha;cases cz with
  |cons i1 cz=>
  cases cz with
  |cons i2 _=>
  have i1:cW w v1 np xp:=i1;have i2:cW w v2 U eU:=i2;have i3:=i2;rcases i2 with ⟨_,e,_⟩|⟨b,o',c',rfl,_⟩
  ·omega
  refine(h w v1 b o' c' i1 i3).mono ?_
  rintro e w' ⟨u1,u3,rfl,r1,r3,f3,QI,hb⟩
  have Mm:=hS w hm.base;have vV:=hm.call hb;have da:∀ j y b o cap,c j=some y->ι j=some (.at b o cap)->y.owns=true\/y.kh=true->b<w.heap.size:=λj y b o cap hj hl hy=>by
   rcases hy with hy|hy
   ·exact(hm.own j y b o cap hj hy hl).1
   ·exact(hm.seen j y b o cap hj hy hl).1
  have QJ:∀ j F u b,c j=some (.fact F)->ι j=some (.val u)->F.cU u w' b->b<w.heap.size:=λj F u b hj hu hF=>by have hF:=hm.C6 hj hu hb.size (λk hk _=>hb.block k hk) hF;obtain⟨l,q1,q2⟩:=hm.born j _ hj;rw[hu]at q1;injection q1 with q1;exact q2.xu q1.symm hF
  have Mo:∀ b,iU u1=some b->w.heap.size<=b:=λb hb=>by
   rcases r1.2 with ⟨h1,_⟩|⟨g,cap,cur,h1,h2,_⟩
   ·rw[h1]at hb;cases hb
   ·rw[h1]at hb;injection hb with hb;subst hb;exact h2
  have QK:∀ b,B.cU b->b<w.heap.size:=λb hF=>B.lt w b hm.base hF;obtain⟨bX,l1,m1,c1,p1⟩:=Wp vV k0 r1 f1 QK (λj y b o cap hj hl hy e=>by have a:=da j y b o cap hj hl hy;have b:=Mo b e;omega) (λj F u b hj hu e hF=>by have a:=QJ j F u b hj hu hF;have b:=Mo b e;omega);have back:∀ j y l,c j=some y->bX j=some l->ι j=some l:=λj y l hj hl=>by obtain⟨l',cB,_⟩:=vV.born j y hj;have:=l1 j l' cB;rw[hl]at this;injection this with this;rw[this];exact cB
  have QL:bA c k (.row xp n2 A) (k+1)=none:=by unfold bA;rw[av o_];exact k1
  have Mp:∀ j y,bA c k (.row xp n2 A) j=some y->(j=k/\y=.row xp n2 A)\/(j≠k/\c j=some y):=λj y hj=>by
   unfold bA at hj;by_cases b9:j=k
   ·rw[aB b9]at hj;injection hj with hj;exact .inl ⟨b9,hj.symm⟩
   ·rw[av b9]at hj;exact .inr ⟨b9,hj⟩
  have m3:aO B (dS bX (k+1) (.val u3)) (bA (bA c k (.row xp n2 A)) (k+1) (.fact (F.nq S))) w':=
   m1.add QL ⟨u3,rfl,r3.1,λb hF=>dq Mm (f3 b hF)⟩ n_ (λF' v b e1 e2 hF j y o' aU hj hy he=>by
    injection e1 with e1;subst e1;injection e2 with e2;subst e2;have hF:F.cU u3 w' b:=hF;rcases Mp j y hj with ⟨rfl,rfl⟩|⟨_,hj⟩
    ·exact QI b (p1 b o' aU he) hF
    ·have h1:=da j y b o' aU hj (back j y _ hj he) (.inl hy);have h2:=f3 b hF;omega) n_ λF' e hr=>by
    injection e with e;subst e;have:F.rc=true:=hr;rw[xw]at this;cases this
  have l3:Map.le bX (dS bX (k+1) (.val u3)):=ij (m1.dF _ QL);exact⟨_,_,rfl,l1.trans l3,.agg (.cons (c1.mono l3) (.cons (ZX.mono (l1.trans l3)) (.cons (.opq (gg _ _ _) r3.2.1 r3.2.2) .nil))),m3⟩
end
section
open V3 (dot af aW smul)
theorem Yd(F:Fact)(S:Nat):∀ v w,(F.nq S).G v w->F.G v w:=λ_ _ h=>h.1
def JO(ps:c_)(vs:List RV)(fs:f_):aR:=.s ps.length (bt ps) vs.length (cV vs) (jE fs)
theorem aTQ(ps:c_)(vs:List RV)(fs:f_):(JO ps vs fs).ok=true:=by show((bt ps).all flat&&((cV vs).all flat&&true))=true;rw[dC,iT gL];rfl
def Ye(ps:c_)(vs:List RV)(fs:f_):Bool:=uG ps&&(yz ps (cQ ps)&&(decide (vs=(cQ ps).map cK)&&decide (fs=lI ps)))
section
variable{ps:c_}{m:Nat}{vs:List RV}{fs:f_}
def eg(k:Nat):Value:=.pointer (some ⟨k,0,some 9⟩)
theorem aTR(ps:c_)(vs:List RV)(fs:f_):([JO ps vs fs].all aR.ok)=true:=by simp only[dL,eX,aTQ,AA]
theorem Bh{vs:List RV}(h:vs.length=0):cV vs=[]:=by rw[mf h];rfl
theorem aTS(h:A8 ps m)(aZ:∀ x∈vs,x.Sm)(jt:vs.length<9223372036854775807)(tT:fs.length<9223372036854775807)(sn:∀ f∈fs,f.2.length<9223372036854775807):cE prog 40 [JO ps vs fs] (.bool (Ye ps vs fs)):=by
 unfold Ye;have aC:=aTR ps vs fs;unfold JO at *;by_cases hc:uG ps=true
 ·by_cases hi:yz ps (cQ ps)=true
  ·have qm:=aSr h hc hi;rw[hc,hi];have qW:∀ x∈(cQ ps).map cK,x.Sm:=λx hx=>by obtain⟨v,hv,rfl⟩:=db.1 hx;exact(Rv h.sz v hv).sm (XB (Ha (n:=0) h.bound o_).2.1).2.2
   have heq:=aNG (a:=vs) (b:=(cQ ps).map cK) aZ qW jt;have hef:=aSy (fs:=fs) (fs':=lI ps) tT sn;unfold aV at qm;have hlen:(cQ ps).length=((cQ ps).map cK).length:=by rw[eH]
   rw[hlen]at qm;generalize (cQ ps).map cK=cT at *;have e0:decide (vs=cT)=true\/decide (vs=cT)=false:=by cases decide (vs=cT)<;>simp
   rcases e0 with e0|e0
   ·rw[e0]at heq ⊢;rw[kF,kF,kF];generalize decide (fs=lI ps)=t at *;refine jC mixed func40 aC 100 (N:=29) k_ (λw=>[
     .step 9 (aw f40 9) [.func (.func 89) #[] #[],sl 0 ps.length] [(4,none),(5,none),(6,none),(0,some (.view (bt ps)))] (.tuple #[.agg #[sl 4 ps.length,sl 5 cT.length,eg 6],hZ 0]) [(6,.fact ((jE (lI ps)).nq w.heap.size)),(5,.row (cV cT) 44 30),(4,.row (bt ps) 54 40)]
      (Mn (B:=aa.at w) (S:=w.heap.size) qm (.w (x:=.view (bt ps)) rfl (dC ps) jD .nil) (x:=.func 89) k_ k_ rfl (dC ps) (iT gL _) rfl (λw' hb=>Below.size hb) 4),
     .step 19 (aw f40 19) [.func (.func 92) #[] #[],sl 1 vs.length,sl 5 cT.length] [(1,some (.view (cV vs))),(5,some (.row (cV cT) 44 30))] b_ []
      (dR heq (.w (x:=.view (cV vs)) rfl (iT gL _) Bh (.w (x:=.row (cV cT) 44 30) rfl (iT gL _) Bh .nil)) (x:=.func 92) k_ k_ rfl),
     .step 27 (aw f40 27) [.func (.func 93) #[] #[],eg 2,eg 6,MU] [(2,some (.fact (jE fs))),(6,some (.fact ((jE (lI ps)).nq w.heap.size)))] (.bool t) []
      (dR hef (.o (.oi (Yd _ _) (.p rfl .nil))) (x:=.func 93) k_ k_ rfl)]) (λw=>?_) k_
    kernel_rfl
   ·rw[e0]at heq ⊢;refine jC mixed func40 aC 100 (N:=29) k_ (λw=>[
     .step 9 (aw f40 9) [.func (.func 89) #[] #[],sl 0 ps.length] [(4,none),(5,none),(6,none),(0,some (.view (bt ps)))] (.tuple #[.agg #[sl 4 ps.length,sl 5 cT.length,eg 6],hZ 0]) [(6,.fact ((jE (lI ps)).nq w.heap.size)),(5,.row (cV cT) 44 30),(4,.row (bt ps) 54 40)]
      (Mn (B:=aa.at w) (S:=w.heap.size) qm (.w (x:=.view (bt ps)) rfl (dC ps) jD .nil) (x:=.func 89) k_ k_ rfl (dC ps) (iT gL _) rfl (λw' hb=>Below.size hb) 4),
     .step 19 (aw f40 19) [.func (.func 92) #[] #[],sl 1 vs.length,sl 5 cT.length] [(1,some (.view (cV vs))),(5,some (.row (cV cT) 44 30))] a_ []
      (dR heq (.w (x:=.view (cV vs)) rfl (iT gL _) Bh (.w (x:=.row (cV cT) 44 30) rfl (iT gL _) Bh .nil)) (x:=.func 92) k_ k_ rfl)]) (λw=>?_) k_
    kernel_rfl
  ·have hi:yz ps (cQ ps)=false:=by simpa using hi
   rw[hc,hi];exact jC mixed func40 aC 100 (N:=29) k_ (λw=>[.step 9 (aw f40 9) [.func (.func 89) #[] #[],sl 0 ps.length] [(0,some (.view (bt ps)))] (.tuple #[xj,hZ 12]) []
    (dR (aSp h hc hi) (.w (x:=.view (bt ps)) rfl (dC ps) jD .nil) (x:=.func 89) k_ k_ k_)]) (λw=>k_) k_
 ·have hc:uG ps=false:=by simpa using hc
  rw[hc];exact jC mixed func40 aC 100 (N:=29) k_ (λw=>[.step 9 (aw f40 9) [.func (.func 89) #[] #[],sl 0 ps.length] [(0,some (.view (bt ps)))] (.tuple #[xj,hZ 13]) []
   (dR (aSo h hc) (.w (x:=.view (bt ps)) rfl (dC ps) jD .nil) (x:=.func 89) k_ k_ k_)]) (λw=>k_) k_
end
def aGE(ps:c_):aR:=JO ps ((cQ ps).map cK) (lI ps)
def Na(ps:c_):Bool:=uG ps&&yz ps (cQ ps)
theorem aTT(ps:c_):(lI ps).length<=ps.length:=by unfold lI;rw[eH];exact Jy ps _ _
theorem aTU(nn:V3 K)(vs:e_)(l:l_):(order nn (aA vs) l).length<=2*l.length:=by
 have bH:∀ l:List Nat,(kK nn vs l).length<=l.length:=λl=>by have:=(MN (nn:=nn) (vs:=vs) (l:=l) l.length (bC _)).2;unfold bP at this;rw[o5]at this;unfold kK;rw[G9,List.length_tail];omega
 rw[aFo,lh];have h1:=bH l;have h2:=bH l.reverse;rw[G9]at h2;omega
theorem aTV{ps:c_}(h:ps.length<=20):∀ f∈lI ps,f.2.length<=1600:=by
 intro f hf;unfold lI at hf;obtain⟨g,hg,rfl⟩:=db.1 hf;unfold dE at hg;rw[w6]at hg;obtain⟨i,_,hg⟩:=hg;unfold ga at hg;split at hg
 ·rename_i p hp;unfold qk at hg;split at hg
  ·cases hg
  ·split at hg
   ·cases hg
   ·split at hg
    ·simp at hg;subst hg;show(List.map _ _).length<=_;rw[eH];show(order p.n (aA (cQ ps)) (bY p (cQ ps) (cQ ps).length)).length<=1600;have h1:=aTU p.n (cQ ps) (bY p (cQ ps) (cQ ps).length);have h2:=Jx p (cQ ps) (cQ ps).length;have h3:=MS ps h;omega
    ·cases hg
 ·cases hg
section
variable{ps:c_}{m:Nat}{p:HS K}
theorem vsm(h:A8 ps m):∀ x∈(cQ ps).map cK,x.Sm:=λx hx=>by obtain⟨v,hv,rfl⟩:=db.1 hx;exact(Rv h.sz v hv).sm (XB (Ha (n:=0) h.bound o_).2.1).2.2
theorem aTW(h:A8 ps m)(hs:Na ps=true):cE prog 40 [aGE ps] b_:=by have h1:=MS ps h.len;have h2:=aTT ps;have h3:=h.len;have:=aTS (vs:=(cQ ps).map cK) (fs:=lI ps) h (vsm h) (by rw[eH];omega) o_ λf hf=>fq (aTV h3 f hf) d_;unfold Na at hs;unfold Ye at this;rw[dr]at hs;rw[hs.1,hs.2,aH rfl,aH rfl]at this;exact this
end
structure JP(p:HS K)(vs:e_):Prop where
 flat:RL p.n vs (bY p vs vs.length)=false
 seq:aXZ p.n vs (bY p vs vs.length) (order p.n (aA vs) (bY p vs vs.length))
 len:(order p.n (aA vs) (bY p vs vs.length)).length=(bY p vs vs.length).length
def JQ(ps:c_)(k:Nat)(p:HS K):Bool:=(ps.take k).any λq=>decide (canon p=canon q)
theorem aTX{ps:c_}{k:Nat}{q:HS K}(h:ps[k]?=some q)(p:HS K):JQ ps (k+1) p=(JQ ps k p||decide (canon p=canon q)):=by unfold JQ;rw[vS,h,List.any_append];simp
section
variable{Bs:aa}{ps:c_}{vs:e_}
def RR(n i k:Nat)(b:Bool):aX:=[(8,vI k),(7,.bool b),(6,vI i),(0,sl 0 n)]
def JR(ps:c_):aL:=[(0,.view (bt ps))]
theorem aTY{i k m:Nat}{p q:HS K}{b:Bool}(hk:k<i)(hi:i<ps.length)(hp:ps[i]?=some p)(hq:ps[k]?=some q)(ck:∀ p∈ps,bO m p/\p.n≠0)(hm:100*m+1000<=aD)(h63:ps.length<=500)(ht:(b||decide (canon p=canon q))=t):
  ai prog Bs 57 (aJ (ah f133 2)) (RR ps.length i k b) (JR ps) 5 ⟨.normal,RR ps.length i (k+1) t,JR ps,5⟩:=by
 have sp:=ck p (cL hp);have sq:=ck q (cL hq);have hs:=aXc sp.1 sq.1 o_ o_ sp.2 sq.2;cases b with
 |true=>
  rw[HI]at ht;subst ht;exact aE [.lt 23 k i true (aH hk),.sum 25 k 1 (k+1) rfl o_]
 |false=>
  rw[zM]at ht;rw[ht]at hs;exact aE [.lt 23 k i true (aH hk),.dj f133 30 0 ps.length i 40 hi k_,.ld f133 31 54 0 (i*40) (.view (bt ps)) (dK p) rfl (AB hp) k_,.dj f133 34 0 ps.length k 40 o_ k_,.ld f133 35 54 0 (k*40) (.view (bt ps)) (dK q) rfl (AB hq) k_,hs.at 36,.sum 25 k 1 (k+1) rfl o_]
theorem aGF{i m:Nat}{p:HS K}(hi:i<ps.length)(hp:ps[i]?=some p)(ck:∀ p∈ps,bO m p/\p.n≠0)(hm:100*m+1000<=aD)(h63:ps.length<=500):
  ai prog Bs 57 (.block 2 (ah f133 2)) (RR ps.length i 0 false) (JR ps) 5 ⟨.normal,[(7,.bool (lf ps i p))],JR ps,5⟩:=
 cd (id:=2) (cA (r:=⟨.exit 2,[(7,.bool (JQ ps i p))],JR ps,5⟩) i (λk=>RR ps.length i k (JQ ps k p)) (λ_=>JR ps) (λi k _=>Iff.rfl) (λk hk=>by
  have hq:=bo (l:=ps) (i:=k) o_;exact aTY hk hi hp hq ck hm h63 (aTX hq p).symm) (by
  generalize JQ ps i p=b;exact aE [.lt 23 i i false s_]) n_)
def E0(n i:Nat)(v2:i_):aX:=[(6,vI i),(0,sl 0 n),(1,v2),(4,ptr 1),(5,ptr 3)]
def y0(ps:c_)(v2:i_)(cells:ak)(c:Nat):aL:=
 [(0,.view (bt ps)),(1,.aM [.slice none 0 0,.slice none 0 0,.slice none 0 0] 26),(2,.row (bt ps) 54 40),(3,.aM [sl 2 ps.length,v2,sl 4 c] 26),(4,.row cells 51 2)]
section
variable{b o c:Nat}
theorem aTZ{i m:Nat}{p:HS K}{cells:ak}(hi:i<ps.length)(hp:ps[i]?=some p)(ck:∀ p∈ps,bO m p/\p.n≠0)(hm:300*m+1000<=aD)(h63:ps.length<=500)(ht:lf ps i p=true):
  ai prog Bs 57 (aJ (ah f133 0)) (E0 ps.length i (.slice (some ⟨b,o,none⟩) vs.length c)) (y0 ps (.slice (some ⟨b,o,none⟩) vs.length c) cells cc) 5
   ⟨.normal,E0 ps.length (i+1) (.slice (some ⟨b,o,none⟩) vs.length c),y0 ps (.slice (some ⟨b,o,none⟩) vs.length c) cells cc,5⟩:=by
 have lo:=aGF (Bs:=Bs) hi hp ck o_ h63;rw[ht]at lo;exact aE [.lt 18 i ps.length true (aH hi),.code 2 _ _ _ _ _ lo,.sum 20 i 1 (i+1) rfl o_]
noncomputable def rcS{i m:Nat}{p:HS K}(hi:i<ps.length)(hp:ps[i]?=some p)(ck:∀ p∈ps,bO m p/\p.n≠0)(hm:300*m+1000<=aD)(h63:ps.length<=500)(ht:lf ps i p=false)(more:bM prog Bs 57):bM prog Bs 57:=
 .lt 18 i ps.length true (aH hi)::.code 2 _ _ _ _ _ (ht▸aGF (Bs:=Bs) hi hp ck o_ h63)::.dj f133 41 0 ps.length i 40 hi k_::.ld f133 42 54 0 (i*40) (.view (bt ps)) (dK p) rfl (AB hp) k_::more
theorem aT0{i m:Nat}{p:HS K}{cells:ak}(hi:i<ps.length)(hp:ps[i]?=some p)(ck:∀ p∈ps,bO m p/\p.n≠0)(aZ:∀ v∈vs,aI m v)(hm:300*m+1000<=aD)(h63:ps.length<=500)(jt:vs.length<900000)(ht:lf ps i p=false)
  (iz:∀ w,Bs.G w->cW w (.slice (some ⟨b,o,none⟩) vs.length c) vs.length (aV vs)) (ho:(bY p vs vs.length).length<3) :
  ai prog Bs 57 (aJ (ah f133 0)) (E0 ps.length i (.slice (some ⟨b,o,none⟩) vs.length c)) (y0 ps (.slice (some ⟨b,o,none⟩) vs.length c) cells cc) 5
   ⟨.normal,E0 ps.length (i+1) (.slice (some ⟨b,o,none⟩) vs.length c),y0 ps (.slice (some ⟨b,o,none⟩) vs.length c) cells cc,5⟩:=by
 have sp:=ck p (cL hp);have hl:=aTo sp.1 sp.2 aZ o_ jt ho;exact aE (rcS hi hp ck hm h63 ht [.step 44 (aw f133 44) [.func (.func 174) #[] #[],dK p,.slice (some ⟨b,o,none⟩) vs.length c] [] (.slice none 0 0) []
   (dR hl (.p rfl (.e rfl iz .nil)) (x:=.func 174) k_ k_ rfl),.gt 47 0 0 false rfl,.sum 20 i 1 (i+1) rfl o_])
theorem aT1{i m:Nat}{p:HS K}{cells:ak}(hi:i<ps.length)(hp:ps[i]?=some p)(ck:∀ p∈ps,bO m p/\p.n≠0)(aZ:∀ v∈vs,aI m v)(hm:300*m+1000<=aD)(h63:ps.length<=500)(jt:vs.length<900000)(ht:lf ps i p=false)
  (iz:∀ w,Bs.G w->cW w (.slice (some ⟨b,o,none⟩) vs.length c) vs.length (aV vs)) (ho:¬(bY p vs vs.length).length<3) (hk:JP p vs) (hc:cells.length=cc*2) (MQ:cc<=500) (E6:∀ v∈cells,v.oneCell'=true) :
  ai prog Bs 57 (aJ (ah f133 0)) (E0 ps.length i (.slice (some ⟨b,o,none⟩) vs.length c)) (y0 ps (.slice (some ⟨b,o,none⟩) vs.length c) cells cc) 5
   ⟨.normal,E0 ps.length (i+1) (.slice (some ⟨b,o,none⟩) vs.length c),[(0,.view (bt ps)),(1,.aM [.slice none 0 0,.slice none 0 0,.slice none 0 0] 26),(2,.row (bt ps) 54 40),(3,.aM [sl 2 ps.length,.slice (some ⟨b,o,none⟩) vs.length c,sl 7 (cc+1)] 26),(5,.row (au (order p.n (aA vs) (bY p vs vs.length))) 3 1),(7,.row (cells++[vI i,sl 5 (au (order p.n (aA vs) (bY p vs vs.length))).length]) 51 2)],8⟩:=by
 have sp:=ck p (cL hp);have hl:=aXQ sp.1 sp.2 aZ hm jt ho hk.flat hk.seq;have hlen:=hk.len;rw[oF];generalize order p.n (aA vs) (bY p vs vs.length)=l at *;generalize nA:cells++[vI i,sl 5 l.length]=cells' at *;exact aE (rcS hi hp ck hm h63 ht [.step 44 (aw f133 44) [.func (.func 174) #[] #[],dK p,.slice (some ⟨b,o,none⟩) vs.length c] [(5,none)] (sl 5 l.length) [(5,.row (au l) 3 1)]
   (rR hl (.p rfl (.e rfl iz .nil)) (x:=.func 174) k_ k_ (iK l) 5),.gt 47 l.length 0 true (aH o_),
  .step 52 (aw f133 52) [vI i,sl 5 l.length] [] (.agg #[vI i,sl 5 l.length]) [] (Qx (t:=51) (idx:=[0,1]) k_ (λit z h1 h2=>aFs h1 h2) k_),
  .bsM f133 53 6 1 51 2 [0] (.agg #[vI 0,.slice none 0 0]) [.agg #[vI i,sl 5 l.length]] #[vI i,sl 5 l.length] (.row [vI i,sl 5 l.length] 51 2) rfl (λv hv=>by
   have hv:v∈[vI 0,.slice none 0 0]:=hv;simp at hv;rcases hv with rfl|rfl<;>rfl) d_ k_ rfl d_ d_ k_,.qH f133 54 7 4 cc 1 (cc+1) 51 2 32 cells 6 (.row [vI i,sl 5 l.length] 51 2) cells' rfl rfl rfl hc nA (λv hv=>by
   simp[Obj.cells]at hv;rcases hv with rfl|rfl<;>rfl) d_ (by simp[maxLen];omega) o_ k_,.sum 20 i 1 (i+1) rfl o_])
end
end
end
theorem aO.aT2{w:h_}(h:aO (B.iu ks) ι c w):aO B ι c w:=
 ⟨h.base.1,h.dF,h.born,λk x b o cap e hx hl=>⟨(h.own k x b o cap e hx hl).1,λhF=>(h.own k x b o cap e hx hl).2 (.inl hF)⟩,h.inj,h.apart,h.seen,h.fa,h.one,h.pg⟩
def Kept(ks:List (Value×ak))(cs:ak):Prop:=∀ v∈cs,∀ b,iU v=some b->∃ p∈ks,iU p.1=some b
theorem Kept.snoc{cs:ak}(h:Kept ks cs)(i:Nat)(u:i_)(xs:ak):Kept ((u,xs)::ks) (cs++[vI i,u]):=λv hv b hb=>by
 rcases eW.1 hv with hv|hv
 ·obtain⟨p,hp,e⟩:=h v hv b hb;exact⟨p,bF _ hp,e⟩
 ·simp at hv;rcases hv with rfl|rfl
  ·cases hb
  ·exact⟨_,aT ..,hb⟩
section
open V3 (dot af aW smul)
section
variable{ps:c_}{vs:e_}{b o c:Nat}
noncomputable def rC0:Code:=AH (fY f133)
noncomputable def rC1:Code:=AH (xf (fY f133))
noncomputable def rC2:Code:=AH (AH (xf (xf (fY f133))))
noncomputable def rC3:Code:=AH (xf (xf (xf (fY f133))))
theorem aT3:(f133).body=some (.seq rC0 (.seq rC1 (.seq (.seq rC2 (.block 0 (.loop (aJ (ah f133 0))))) (.seq rC3 .ret)))):=k_
theorem aGG{cells:ak}(cR:∀ v∈cells,flat v=true){r:List (Nat×Nat)}(h1:(([.slice none 0 0,.slice none 0 0,.slice none 0 0]:ak).all (AG r))=true)(h3:([sl 2 ps.length,.slice (some ⟨b,o,none⟩) vs.length c,sl 4 cc].all (AG r))=true):∀ p∈y0 ps (.slice (some ⟨b,o,none⟩) vs.length c) cells cc,Jb r p.2:=λp hp=>by
 simp only[y0,cC,j6,j7]at hp;rcases hp with rfl|rfl|rfl|rfl|rfl
 ·exact λv hv=>bB.1 (dC ps) v hv
 ·exact h1
 ·exact λv hv=>bB.1 (dC ps) v hv
 ·exact h3
 ·exact cR
def RS(B:aa)(ps:c_)(vs:e_)(v2:i_)(i:Nat)(a:Act)(w:h_):Prop:=
 ∃ ks cells,A5 B ((dE ps vs i).map fB) ks cells/\Kept ks cells/\St (B.iu ks) 57 (E0 ps.length i v2) (y0 ps v2 cells (dE ps vs i).length) 5 a w
theorem aT4{m i:Nat}(rM:∀ k,B.mp k=none)(hi:i<ps.length)(ck:∀ p∈ps,bO m p/\p.n≠0)(aZ:∀ v∈vs,aI m v)(hm:300*m+1000<=aD)(h63:ps.length<=500)(jt:vs.length<900000)
  (iz:∀ w,B.G w->cW w (.slice (some ⟨b,o,none⟩) vs.length c) vs.length (aV vs)) (eO:∀ p∈ps,¬(bY p vs vs.length).length<3->JP p vs) {a:Act} {w:h_} (h:RS B ps vs (.slice (some ⟨b,o,none⟩) vs.length c) i a w)
  (K:Act->World->Prop) (Q:Exit->Act->World->Prop) (hK:∀ a' w',RS B ps vs (.slice (some ⟨b,o,none⟩) vs.length c) (i+1) a' w'->K a' w'):(aJ (ah f133 0)).wpIn (FW none) 0 prog (Exit.then K Q) a w:=by
 obtain⟨ks,cells,hF,RT,hS⟩:=h;have jr:ps[i]?=some ps[i]:=bo hi;have mg:ga ps vs i=qk ps vs i ps[i]:=by unfold ga;rw[jr]
 obtain⟨iG,E6⟩:=aFt hF hS;have MQ:(dE ps vs i).length<=500:=by have:=Jy ps vs i;omega
 have aGH:∀ w,(B.iu ks).G w->cW w (.slice (some ⟨b,o,none⟩) vs.length c) vs.length (aV vs):=λw h=>iz w h.1;have stay:ga ps vs i=[]->∀ a' w',St (B.iu ks) 57 (E0 ps.length (i+1) (.slice (some ⟨b,o,none⟩) vs.length c)) (y0 ps (.slice (some ⟨b,o,none⟩) vs.length c) cells (dE ps vs i).length) 5 a' w'->K a' w':=by
  intro he a' w' h';have e:dE ps vs (i+1)=dE ps vs i:=by rw[MO,he,jL]
  exact hK a' w' ⟨ks,cells,by rw[e];exact hF,RT,by rw[e];exact h'⟩
 by_cases su:lf ps i ps[i]=true
 ·have he:ga ps vs i=[]:=by rw[mg];unfold qk;rw[aB (show(ps.take i).any (λq=>decide (canon ps[i]=canon q))=true from su)]
  exact qU (aTZ hi jr ck hm h63 su) hS λa' w' h'=>stay he a' w' h'
 ·have Jz:lf ps i ps[i]=false:=by simpa using su
  by_cases ho:(bY ps[i] vs vs.length).length<3
  ·have he:ga ps vs i=[]:=by rw[mg];unfold qk;rw[av (show ¬(ps.take i).any (λq=>decide (canon ps[i]=canon q))=true from su),aB ho]
   exact qU (aT0 hi jr ck aZ hm h63 jt Jz aGH ho) hS λa' w' h'=>stay he a' w' h'
  ·have hlk:=eO _ (dB hi) ho;have he:ga ps vs i=[(i,order ps[i].n (aA vs) (bY ps[i] vs vs.length))]:=by rw[mg];unfold qk;rw[av (show ¬(ps.take i).any (λq=>decide (canon ps[i]=canon q))=true from su),av ho,aB (by rw[hlk.len];omega)]
   refine qU (aT1 hi jr ck aZ hm h63 jt Jz aGH ho hlk iG MQ E6) hS λa' w' h'=>?_;show K a' w';obtain⟨u,hu,vH,h2⟩:=h'.QH (m:=5) (k:=7) rfl (iK _) rfl d_;have e:dE ps vs (i+1)=dE ps vs i++[(i,order ps[i].n (aA vs) (bY ps[i] vs vs.length))]:=by rw[MO,he]
   have wR:=hF.snoc (i:=i) (l:=order ps[i].n (aA vs) (bY ps[i] vs vs.length)) hu vH;refine hK a' w' ⟨_,cells++[vI i,u],by rw[e,vf];exact wR,RT.snoc i u _,?_⟩;rw[e,lh];have cR:=wR.flat;generalize cells++[vI i,u]=cells' at *;exact h2.Mi rM [(0,0),(1,1),(2,2),(3,3),(4,7)] k_ rfl (aGG cR k_ k_) k_ k_ k_ k_ k_
theorem aT5(ps:c_):((bt ps).drop 0).take (ps.length*40)=bt ps:=by rw[mT,kT (by rw[EP];exact bC _)]
theorem aT6{m:Nat}(ck:∀ p∈ps,bO m p/\p.n≠0)(aZ:∀ v∈vs,aI m v)(hm:300*m+1000<=aD)(h63:ps.length<=500)(jt:vs.length<900000)(eO:∀ p∈ps,¬(bY p vs vs.length).length<3->JP p vs):
  aGD prog 133 54 40 ps.length (bt ps) vs.length (aV vs) (jE ((dE ps vs ps.length).map fB)):=by
 intro w v1 b o c uL lv;have cz:uA w [fZ ps,.p (.slice (some ⟨b,o,none⟩) vs.length c)] [v1,.slice (some ⟨b,o,none⟩) vs.length c]:=.cons uL (.cons rfl .nil);have aC:([fZ ps,.p (.slice (some ⟨b,o,none⟩) vs.length c)].all aR.ok)=true:=by simp only[dL,eX,XE,kF,iJ];rfl
 obtain⟨ι,cc,h1,h2,h3,h4,h5,h6,h7⟩:=wS cz (bB.1 aC) 0 _ _ (rG w) n_ (λ_ _=>rfl);have rM:∀ k,(aa.at w).mp k=none:=λ_=>rfl;have iz:∀ w',(aa.at w).G w'->cW w' (.slice (some ⟨b,o,none⟩) vs.length c) vs.length (aV vs):=λw' hb=>lv.iu hb;refine aDI (N:=57) (B:=(aa.at w).iu []) func133 aT3 k_ h6 (aDB h2) h4 h3 rfl λa bP=>?_;have DP:=aT5 ps;have sk:=EP ps
 have g0:∀ B:aa,ai prog B 57 rC0 (jh 0 (eC 0 [fZ ps,.p (.slice (some ⟨b,o,none⟩) vs.length c)])) (ja 0 [fZ ps,.p (.slice (some ⟨b,o,none⟩) vs.length c)]) 1
   ⟨.normal,[(4,ptr 1),(0,sl 0 ps.length),(1,.slice (some ⟨b,o,none⟩) vs.length c)],[(0,.view (bt ps)),(1,.aM [.slice none 0 0,.slice none 0 0,.slice none 0 0] 26)],2⟩:=λB=>aE []
 have g1:∀ B:aa,ai prog B 57 rC1 [(4,ptr 1),(0,sl 0 ps.length),(1,.slice (some ⟨b,o,none⟩) vs.length c)] [(0,.view (bt ps)),(1,.aM [.slice none 0 0,.slice none 0 0,.slice none 0 0] 26)] 2
   ⟨.normal,[(4,ptr 1),(5,ptr 4),(0,sl 0 ps.length),(1,.slice (some ⟨b,o,none⟩) vs.length c)],[(0,.view (bt ps)),(1,.aM [.slice none 0 0,.slice none 0 0,.slice none 0 0] 26),(3,.row (bt ps) 54 40),(4,.aM [sl 3 ps.length,.slice (some ⟨b,o,none⟩) vs.length c,.slice none 0 0] 26)],5⟩:=λB=>
  aE [.Mj f133 10 2 54 40 (RP.v ⟨tO,wb⟩) k_,.RE f133 12 3 2 0 ps.length ps.length 54 40 480 0 0 [] 0 (.view (bt ps)) (bt ps) (kA _) rfl (by show(((bt ps).drop 0).take (ps.length*40)).length=_;rw[DP,sk]) rfl (by show[]++((bt ps).drop 0).take (ps.length*40)=_;rw[DP,jg]) (aFa ps) d_ (by simp[maxLen];omega) o_ k_,.step 14 (aw f133 14) [sl 3 ps.length,.slice (some ⟨b,o,none⟩) vs.length c] [] (.agg #[sl 3 ps.length,.slice (some ⟨b,o,none⟩) vs.length c,.slice none 0 0]) [] (Qx (t:=26) (idx:=[0,1]) k_ (λit z h1 h2=>aFC h1 h2) k_)]
 have g2:∀ B:aa,ai prog B 57 rC2 [(4,ptr 1),(5,ptr 4),(0,sl 0 ps.length),(1,.slice (some ⟨b,o,none⟩) vs.length c)]
    [(0,.view (bt ps)),(1,.aM [.slice none 0 0,.slice none 0 0,.slice none 0 0] 26),(3,.row (bt ps) 54 40),(4,.aM [sl 3 ps.length,.slice (some ⟨b,o,none⟩) vs.length c,.slice none 0 0] 26)] 5
   ⟨.normal,[(6,vI 0),(0,sl 0 ps.length),(1,.slice (some ⟨b,o,none⟩) vs.length c),(4,ptr 1),(5,ptr 4)],[(0,.view (bt ps)),(1,.aM [.slice none 0 0,.slice none 0 0,.slice none 0 0] 26),(3,.row (bt ps) 54 40),(4,.aM [sl 3 ps.length,.slice (some ⟨b,o,none⟩) vs.length c,.slice none 0 0] 26)],5⟩:=λB=>aE []
 refine mR (qU (g0 _) bP λa1 w1 s1=>?_);refine mR (qU (g1 _) s1 λa2 w2 s2=>?_);refine mR (mR (qU (g2 _) s2 λa3 w3 s3=>?_));refine Kn ?_;have s4:=St.aTO (k:=4) (pre:=[sl 3 ps.length,.slice (some ⟨b,o,none⟩) vs.length c]) (post:=[]) (tb:=26) s3 rfl 51 2;have i0:RS (aa.at w) ps vs (.slice (some ⟨b,o,none⟩) vs.length c) 0 a3 w3:=⟨[],[],.nil,λv h=>(by cases h),s4.Mi rM [(0,0),(1,1),(2,3),(3,4),(4,5)] k_ rfl (aGG n_ k_ k_) k_ k_ k_ k_ k_⟩;refine aDG ps.length (RS (aa.at w) ps vs (.slice (some ⟨b,o,none⟩) vs.length c)) i0 (λi hi a' w' h' K hK=>aT4 rM hi ck aZ hm h63 jt iz eO h' K _ hK) λa' w' h'=>?_;obtain⟨ks,cells,hF,RT,hS⟩:=h';have fM:aL:=y0 ps (.slice (some ⟨b,o,none⟩) vs.length c) cells (dE ps vs ps.length).length;refine qU (r:=⟨.exit 0,[(4,ptr 1),(5,ptr 3)],y0 ps (.slice (some ⟨b,o,none⟩) vs.length c) cells (dE ps vs ps.length).length,5⟩) (aE [.lt 18 ps.length ps.length false s_]) hS λa4 w4 s4=>?_;show Code.wpIn _ _ _ _ _ _ _;refine mR (qU (r:=⟨.normal,[(4,ptr 1)],[(1,.aM [sl 2 ps.length,.slice (some ⟨b,o,none⟩) vs.length c,sl 4 (dE ps vs ps.length).length] 26),(2,.row (bt ps) 54 40),(4,.row cells 51 2)],5⟩) (aE []) s4 λa5 w5 s5=>?_);refine wpIn_ret ?_;refine(aDJ s5 rfl (v:=.agg #[sl 2 ps.length,.slice (some ⟨b,o,none⟩) vs.length c,sl 4 (dE ps vs ps.length).length]) k_ λaz cr v' bE CX hc=>?_).1;obtain⟨us,rfl,LA⟩:=hc.Hy;obtain⟨u1,u2,u3,e3,c1,c2,c3⟩:=J9 LA;have e2:=c2.eZ rfl;subst e2;rw[show(dE ps vs ps.length).length=((dE ps vs ps.length).map fB).length by rw[eH]]at c3;have ho:=hF.out bE (CX 4 _ rfl) c3;have jI:=xI bE.aT2 (CX 2 _ rfl) c1 (by rw[sk];exact bC _) (bB.1 (dC ps));rw[<-sk,o5]at jI;refine⟨u1,u3,?_,jI,ho.1,λb' jU=>PH (ho.2 b' jU),λb' jU wR=>?_,bE.base.1⟩
 ·congr 2
  rw[<-An (xs:=us),e3]
 ·obtain⟨o1,l8,q1⟩:=Jd bE c1 jU;have Fv:=bE.own 2 _ b' o1 l8 (CX 2 _ rfl) rfl q1;rcases wR with wR|⟨b2,oo,qx,j,u,e,hj,lK,gF⟩
  ·obtain⟨o4,aT7,q4⟩:=Jd bE c3 wR;have:=bE.inj 2 4 _ _ b' o1 l8 o4 aT7 (CX 2 _ rfl) rfl (CX 4 _ rfl) rfl q1 q4;cases this
  ·have hf:=hF.cells _ bE.base.2;have hl:=hf.length;have hr:=po (len:=((dE ps vs ps.length).map fB).length*2) bE (CX 4 _ rfl) rfl hF.flat (λe=>by rw[e]) c3;have hr:cW w5 u3 ((dE ps vs ps.length).map fB).length cells:=by
    have e:((Obj.row cells 51 2).cells.drop 0).take (((dE ps vs ps.length).map fB).length*2)=cells:=by rw[mT];exact kT (u5 hl)
    rwa[e]at hr
   obtain⟨q,hq,e'⟩:=RT u (Qz hr hf e hj lK) b' gF;exact Fv.2 (.inr ⟨q,hq,e'⟩)
end
section
variable{ps:c_}{m M:Nat}
structure sD(ps:c_)(m M:Nat):Prop where
 len:ps.length<=9
 pl:∀ p∈ps,bO m p/\p.n≠0
 low:120*m+365<=M
 lim:1000*M+10000<=aD
theorem sD.sz(h:sD ps m M):(∀ v∈fC ps,aI M v)/\(fC ps).length<=81*9:=by obtain⟨h1,h2⟩:=XU h.pl h.low h.len ps.length (bC _);refine⟨h1,dq h2 ?_⟩;have:=h.len;omega
theorem sD.tX(h:sD ps m M):m<=M/\1000*m+10000<=aD/\200*m+1000<=aD/\100*M+1000<=aD/\300*M+1000<=aD/\m<=aD/\M<=aD:=by have h1:=h.low;have h2:=h.lim;have hmM:m<=M:=dq (dq (Wb m (by decide:0<120)) (KJ _ 365)) h1;have q1:1000*m+10000<=aD:=dq (Hb (jK _ hmM) _) h2;have q2:200*m+1000<=aD:=dq (Ln (eV m (by decide:200<=1000)) d_) q1;have q3:100*M+1000<=aD:=dq (Ln (eV M (by decide:100<=1000)) d_) h2;have q4:300*M+1000<=aD:=dq (Ln (eV M (by decide:300<=1000)) d_) h2;have q5:m<=aD:=dq (dq (Wb m (by decide:0<200)) (KJ _ 1000)) q2;have q6:M<=aD:=dq (dq (Wb M (by decide:0<1000)) (KJ _ 10000)) h2;exact⟨hmM,q1,q2,q3,q4,q5,q6⟩
theorem sD.all(h:sD ps m M):cE prog 129 [fZ ps] b_:=by
 have:=aFO (ps:=ps.map c9) (m:=m) (λx hx=>by obtain⟨p,hp,rfl⟩:=db.1 hx;exact aEK (h.pl p hp).1) h.tX.2.2.2.2.2.1 (by rw[eH];have:=h.len;omega)
 rw[eH,show(ps.map c9).all r8=true by rw[bB];intro x hx;obtain⟨p,hp,rfl⟩:=db.1 hx;rw[aEJ];exact aH (h.pl p hp).2]at this
 exact this
noncomputable def Yf(h:sD ps m M)(ht:xl ps=t)(more:bM prog Bs 29):bM prog Bs 29:=
 .step 7 (aw f79 7) [.func (.func 129) #[] #[],sl 0 ps.length] [(0,some (.view (bt ps)))] b_ []
  (dR h.all (.w (x:=.view (bt ps)) rfl (dC ps) jD .nil) (x:=.func 129) k_ k_ rfl)::
 .gt 13 ps.length 100 false (aP (by have:=h.len;omega))::
 .step 17 (aw f79 17) [.func (.func 130) #[] #[],sl 0 ps.length] [(0,some (.view (bt ps)))] (.bool t) []
  (dR (ht▸aSM (λp hp=>(h.pl p hp).1) h.tX.2.1 (by have:=h.len;omega)) (.w (x:=.view (bt ps)) rfl (dC ps) jD .nil) (x:=.func 130) k_ k_ rfl)::more
noncomputable def aGI(h:sD ps m M)(ht:we (fC ps)=!t)(more:bM prog Bs 29):bM prog Bs 29:=
 .step 21 (aw f79 21) [.func (.func 131) #[] #[],sl 0 ps.length] [(2,none),(0,some (.view (bt ps)))] (sl 2 (fC ps).length) [(2,.row (aV (fC ps)) 44 30)]
  (rR (aS8 h.pl h.tX.2.2.1 h.low h.tX.2.2.2.1 h.len) (.w (x:=.view (bt ps)) rfl (dC ps) jD .nil) (x:=.func 131) k_ k_ (ee _) 2)::
 .step 23 (aw f79 23) [.func (.func 132) #[] #[],sl 2 (fC ps).length] [(2,some (.row (aV (fC ps)) 44 30))] (.bool t) []
  (dR (by have:=aTd h.sz.1 h.tX.2.2.2.2.1 (by have:=h.sz.2;omega);rw[ht,Bool.not_not]at this;exact this) (.w (x:=.row (aV (fC ps)) 44 30) rfl (ee _) w9 .nil) (x:=.func 132) k_ k_ rfl)::more
theorem aT8{rs:List RP}(hs:∀ x∈rs,A3 m x)(hm:m<=aD)(h63:rs.length<9223372036854775807)(hb:rs.all r8=false):cE prog 79 [.r rs.length (dx rs)] (.tuple #[xj,hZ 1]):=by
 have ha:=aFO hs hm h63;rw[hb]at ha;have aC:([aR.r rs.length (dx rs)].all aR.ok)=true:=by simp only[dL,eX,aR.ok,iT jP,iJ]
 exact dV func79 aC 29 (λ_=>[.step 7 (aw f79 7) [.func (.func 129) #[] #[],sl 0 rs.length] [(0,some (.view (dx rs)))] a_ []
  (dR ha (.w (x:=.view (dx rs)) rfl (iT jP rs) (λh=>by rw[mf h];rfl) .nil) (x:=.func 129) k_ k_ rfl)])
theorem aT9(h:sD ps m M)(hc:xl ps=false):cE prog 79 [fZ ps] (.tuple #[xj,hZ 13]):=
 dV func79 (ET ps) 29 (λ_=>Yf h hc [])
theorem aUa(h:sD ps m M)(hc:xl ps=true)(hi:we (fC ps)=true):cE prog 79 [fZ ps] (.tuple #[xj,hZ 12]):=
 dV func79 (ET ps) 29 (λ_=>Yf h hc (aGI (t:=false) h hi []))
def y7(ps:c_):f_:=(dE ps (fC ps) ps.length).map fB
theorem aGJ(h:sD ps m M)(hc:xl ps=true)(hi:we (fC ps)=false)(eO:∀ p∈ps,¬(bY p (fC ps) (fC ps).length).length<3->JP p (fC ps)):
  CL prog 79 [fZ ps] 54 40 ps.length (bt ps) 44 30 (fC ps).length (aV (fC ps)) (jE (y7 ps)) [hZ 0]:=by
 have aUb:=aT6 (ps:=ps) (vs:=fC ps) (m:=M) (λp hp=>⟨(h.pl p hp).1.mono h.tX.1,(h.pl p hp).2⟩) h.sz.1 h.tX.2.2.2.2.1 (by have:=h.len;omega) (by have:=h.sz.2;omega) eO;have zR:0<(fC ps).length:=by
  rcases oV (fC ps).length with h0|h0
  ·rw[mf h0]at hi;cases hi
  ·exact h0
 refine Wo (k1:=3) (k2:=2) (k3:=4) mixed func79 (ET ps) 100 (N:=29) k_ (λw=>Yf h hc (aGI (t:=true) h hi [
  .step 28 (aw f79 28) [.func (.func 133) #[] #[],sl 0 ps.length,sl 2 (fC ps).length] [(3,none),(4,none),(0,some (.view (bt ps))),(2,some (.row (aV (fC ps)) 44 30))]
   (.agg #[sl 3 ps.length,sl 2 (fC ps).length,eg 4]) [(4,.fact ((jE (y7 ps)).nq w.heap.size)),(3,.row (bt ps) 54 40)]
   (aTP (B:=aa.at w) (S:=w.heap.size) aUb (.w (x:=.view (bt ps)) rfl (dC ps) jD (.w (x:=.row (aV (fC ps)) 44 30) rfl (ee _) w9 .nil)) (x:=.func 133) k_ k_ rfl (dC ps) zR (λw' hb=>Below.size hb) 3)])) (λw=>?_) d_ (dC ps) (EP ps) (ee _) (rZ _) k_
 kernel_rfl
end
end
variable{m len:Nat}{p:HS K}{ps:c_}
section
variable{P:j_}{B:aa}{N:Nat}
end
section
variable{P:j_}{B:aa}{N:Nat}
end
def pP(w:h_)(v:i_)(n:Nat)(xs:ak):Prop:=cW w v n xs\/(n=0/\∃ a,v=.slice (some a) 0 0)
theorem Yg{w:h_}{u:i_}{l:List Int}(h:pP w u l.length (eK l))(hs:w.heap.size<=w'.heap.size)(hk:0<l.length->∀ b,iU u=some b->yB w w' b):pP w' u l.length (eK l):=by
 rcases h with h|h
 ·rcases oV l.length with h0|h0
  ·rcases h with h|⟨b,o,c,h1,h2,h3,h4⟩
   ·exact .inl (.inl h)
   ·refine .inl (.inr ⟨b,o,c,h1,h2,cG h3 hs,λj u hj=>?_⟩);rw[mf h0]at hj;simp[eK]at hj
  ·exact .inl (h.kept hs (hk h0))
 ·exact .inr h
theorem pP.lt{w:h_}{u:i_}{n:Nat}(h:pP w u n xs)(h0:0<n)(hb:iU u=some b):b<w.heap.size:=by
 rcases h with h|⟨h,_⟩
 ·exact h.lt hb
 ·omega
theorem pP.row{w:h_}{u:i_}{n:Nat}(h:pP w u n xs)(h0:0<n):cW w u n xs:=by
 rcases h with h|⟨h,_⟩
 ·exact h
 ·omega
theorem pP.one{w:h_}{u:i_}{n:Nat}(h:pP w u n xs):u.cells=#[u]/\u.oneCell'=true:=by rcases h with (⟨e,_⟩|⟨_,_,_,e,_⟩)|⟨_,_,e⟩<;>rw[e]<;>exact⟨rfl,rfl⟩
theorem pP.form{w:h_}{u:i_}{n:Nat}(h:pP w u n xs):(u=.slice none 0 0/\n=0)\/∃ a c,u=.slice (some a) n c:=by
 rcases h with (⟨e,e2,_⟩|⟨_,_,_,e,_⟩)|⟨e1,_,e⟩
 ·exact .inl ⟨e,e2⟩
 ·exact .inr ⟨_,_,e⟩
 ·subst e1;exact .inr ⟨_,_,e⟩
def jG(l:List Int):Fact where
 G u w:=pP w u l.length (eK l)
 cU u w k:=0<l.length/\iU u=some k
 lt u w k h hF:=h.lt hF.1 hF.2
 dep u w w' h hs hk:=⟨Yg h hs λh0 b hb cs ty f hc=>(hk b ⟨h0,hb⟩).trans hc,λk hF=>hF⟩
 soft _ u w w' h hs hk:=⟨Yg h hs λh0 b hb=>hk b ⟨h0,hb⟩,λk hF=>hF⟩
inductive sE(w:h_):f_->ak->Prop
 |nil:sE w [] []
 |cons {i:Int} {l:List Int} {u:i_} {fs:f_} {cs:ak}:pP w u l.length (eK l)->sE w fs cs->sE w ((i,l)::fs) (iV i::u::cs)
theorem sE.length{w:h_}{fs:f_}{cs:ak}(h:sE w fs cs):cs.length=fs.length*2:=by
 induction h with
 |nil=>rfl
 |cons _ _ ih=>simp only[pS,ih];omega
variable{i:Nat}{u:i_}{l:List aR}
theorem aGK{w:h_}:∀{fs:f_} {cs:ak},sE w fs cs->∀{i:Nat} {f:Int×List Int},fs[i]?=some f->∃ u,cs[i*2]?=some (iV f.1)/\cs[i*2+1]?=some u/\pP w u f.2.length (eK f.2)
 |_,_,.nil,i,f,h=>by simp at h
 |_,_,.cons (u:=u) h1 h2,0,f,h=>by simp at h;subst h;exact⟨u,rfl,rfl,h1⟩
 |_,_,.cons h1 h2,i+1,f,h=>by
  obtain⟨u,q1,q2,q3⟩:=aGK h2 (i:=i) (by simpa using h);refine⟨u,?_,?_,q3⟩
  ·rw[show(i+1)*2=i*2+2 by omega];exact q1
  ·rw[show(i+1)*2+1=i*2+1+2 by omega];exact q2
def Nb(u:i_)(k:Nat):Prop:=∃ a n c,u=.slice (some a) n c/\0<n/\a.block=k
theorem aUc{k:Nat}(h:Nb u k):iU u=some k:=by obtain⟨a,n,c,rfl,_,e⟩:=h;show some a.block=_;rw[e]
theorem sE.kept{w:h_}{fs:f_}{cs:ak}(h:sE w fs cs)(hs:w.heap.size<=w'.heap.size)(hk:∀ u∈cs,∀ b,Nb u b->yB w w' b):sE w' fs cs:=by
 induction h with
 |nil=>exact .nil
 |cons h1 _ ih=>
  refine .cons (Yg h1 hs λh0 b hb=>hk _ (bF _ (aT ..)) b ?_) (ih λu hu=>hk u (bF _ (bF _ hu)));rcases h1.form with ⟨e,e2⟩|⟨a,c,e⟩
  ·omega
  ·subst e;injection hb with hb;exact⟨a,_,c,rfl,h0,hb⟩
theorem sE.lt{w:h_}{fs:f_}{cs:ak}(h:sE w fs cs):∀ u∈cs,∀ b,Nb u b->b<w.heap.size:=by
 induction h with
 |nil=>intro u hu;cases hu
 |cons h1 _ ih=>
  intro u hu b hb;rcases cC.1 hu with rfl|hu
  ·obtain⟨a,n,c,e,_⟩:=hb;cases e
  ·rcases cC.1 hu with rfl|hu
   ·obtain⟨a,n,c,e,h0,e2⟩:=hb;rcases h1.form with ⟨e',e3⟩|⟨a',c',e'⟩
    ·rw[e']at e;cases e
    ·rw[e']at e;injection e with e1 Dt e3;subst Dt;exact h1.lt h0 (by rw[e'];injection e1 with e1;subst e1;show some a'.block=_;rw[e2])
   ·exact ih u hu b hb
def RU(w:h_)(v:i_)(fs:f_):Prop:=∃ cs,cW w v fs.length cs/\sE w fs cs
def RW(n:Nat)(v:i_)(w:h_)(k:Nat):Prop:=
 iU v=some k\/∃ b o c j u,v=.slice (some ⟨b,o,none⟩) n c/\j<n*2/\w.cell? ⟨b,o+j,none⟩=some u/\Nb u k
theorem aUd{w:h_}{v:i_}{fs:f_}{cs:ak}(h1:cW w v fs.length cs)(h2:sE w fs cs){o c:Nat}(hv:v=.slice (some ⟨b,o,none⟩) fs.length c)(hj:j<fs.length*2)(hu:w.cell? ⟨b,o+j,none⟩=some u):u∈cs:=by
 rcases h1 with ⟨h,_⟩|⟨b',o',c',e,_,_,h4⟩
 ·rw[h]at hv;cases hv
 ·rw[e]at hv;injection hv with hv _ _;injection hv with hv;injection hv with e1 e2 _;subst e1;subst e2;have al:j<cs.length:=by rw[h2.length];exact hj
  have oC:cs[j]?=some cs[j]:=bo al;have:=h4 j _ oC;rw[hu]at this;injection this with this;rw[this];exact dB al
theorem aGL{w:h_}{v:i_}{fs:f_}(h:RU w v fs)(hs:w.heap.size<=w'.heap.size)(hk:∀ k,RW fs.length v w k->yB w w' k):
  RU w' v fs/\∀ k,RW fs.length v w' k->RW fs.length v w k:=by
 obtain⟨cs,h1,h2⟩:=h;have I6:∀ b,iU v=some b->yB w w' b:=λb hb=>hk b (.inl hb);have QA:∀ u∈cs,∀ b,Nb u b->yB w w' b:=λu hu b hb=>by
  rcases h1 with ⟨_,_,h⟩|⟨b',o',c',e,_,_,h4⟩
  ·rw[h]at hu;cases hu
  ·obtain⟨j,hj,rfl⟩:=k8 hu;refine hk b (.inr ⟨b',o',c',j,_,e,by rw[<-h2.length];exact hj,h4 j _ (bo hj),hb⟩)
 refine⟨⟨cs,h1.kept hs I6,h2.kept hs QA⟩,λk hF=>?_⟩;rcases hF with hF|⟨b,o,c,j,u,e,hj,hc,hb⟩
 ·exact .inl hF
 ·rcases h1 with ⟨h,_⟩|⟨b',o',c',e',_,_,h4⟩
  ·rw[h]at e;cases e
  ·rw[e']at e;injection e with e1 _ e3;injection e1 with e1;injection e1 with e1 e2 _;subst e1;subst e2;subst e3;have al:j<cs.length:=by rw[h2.length];exact hj
   have h5:=h4 j _ (bo al);have h6:=Wg (I6 b' (by rw[e'];rfl)) h5;rw[hc]at h6;injection h6 with h6;exact .inr ⟨b',o',c',j,u,e',hj,by rw[h6];exact h5,hb⟩
def oK(fs:f_):Fact where
 G v w:=RU w v fs
 cU v w k:=RW fs.length v w k
 lt v w k h hF:=by
  obtain⟨cs,h1,h2⟩:=h;rcases hF with hF|⟨b,o,c,j,u,e,hj,hc,hb⟩
  ·exact h1.lt hF
  ·exact h2.lt u (aUd h1 h2 e hj hc) k hb
 dep v w w' h hs hk:=aGL h hs λk hF cs ty f hc=>(hk k hF).trans hc
 soft _ v w w' h hs hk:=aGL h hs hk
structure Bi(fs:f_)(F:Fact):Prop where
 G:∀ v w,F.G v w->(oK fs).G v w
 cU:∀ v w k,(oK fs).cU v w k->F.cU v w k
theorem Bi.self(fs:f_):Bi fs (oK fs):=⟨λ_ _ h=>h,λ_ _ _ h=>h⟩
variable{k:Nat}{w:h_}{fs:f_}
theorem k7.aUe{cs:ak}(h:k7 w fs cs):sE w fs cs:=by
 induction h with
 |nil=>exact .nil
 |cons h1 _ _ ih=>exact .cons (.inl h1) ih
theorem Bi.full(fs:f_):Bi fs (jE fs):=by
 refine⟨λv w h=>?_,λv w k h=>?_⟩
 ·obtain⟨cs,h1,h2⟩:=h;exact⟨cs,h1,h2.aUe⟩
 ·rcases h with h|⟨b,o,c,j,u,e,hj,hc,hb⟩
  ·exact .inl h
  ·exact .inr ⟨b,o,c,j,u,e,hj,hc,aUc hb⟩
theorem aUf{v:i_}(h:RU w v fs)(hl:∀ f∈fs,0<f.2.length):Me w v fs:=by
 obtain⟨cs,h1,h2⟩:=h;refine⟨cs,h1,?_⟩;clear h1;induction h2 with
 |nil=>exact .nil
 |cons h3 _ ih=>
  have hr:=h3.row (hl _ (aT ..));refine .cons hr ?_ (ih λf hf=>hl f (bF _ hf));rcases hr with ⟨e,_⟩|⟨_,_,_,e,_⟩<;>rw[e]<;>rfl
section
variable{P:j_}{B:aa}{N:Nat}
theorem Ho(ho:Mk P o=true){F:Fact}(hF:Bi fs F):cI P B o [.pointer (some ⟨k,0,some 9⟩)] [(k,some (.fact F))] (vI fs.length) []:=by
 obtain⟨x,t,e,cg,ht⟩:=aDM ho;refine iN.step λι c ρ w aZ hm pk=>?_;rw[cg]at aZ;obtain⟨u,hu,hc⟩:=ob aZ;have hu:ρ x=u:=by simpa[Op.operands,Call.operands]using hu
 have Hp:=Am hm (pk (k,_) (aT ..)) hc;obtain⟨cs,hr,_⟩:=hF.G _ _ Hp.1;refine⟨ι,vI fs.length,w,Map.le.refl _,.same rfl,hm,.inl ?_⟩;rcases hr with ⟨q1,q2,_⟩|⟨b,o',c',q1,_⟩
 ·subst q1;simp[execOp,cg,resolve,invoke,builtin,Builtin.len_,hu,jJ ht,goInt,q2,vI]
 ·subst q1;simp[execOp,cg,resolve,invoke,builtin,Builtin.len_,hu,jJ ht,goInt,vI]
theorem Hq(ho:Mk P o=true){l:List Int}:cI P B o [.pointer (some ⟨k,0,some 9⟩)] [(k,some (.fact (jG l)))] (vI l.length) []:=by
 obtain⟨x,t,e,cg,ht⟩:=aDM ho;refine iN.step λι c ρ w aZ hm pk=>?_;rw[cg]at aZ;obtain⟨u,hu,hc⟩:=ob aZ;have hu:ρ x=u:=by simpa[Op.operands,Call.operands]using hu
 have Hp:=Am hm (pk (k,_) (aT ..)) hc;have hw:pP w u l.length (eK l):=Hp.1;refine⟨ι,vI l.length,w,Map.le.refl _,.same rfl,hm,.inl ?_⟩;rcases hw.form with ⟨q1,q2⟩|⟨a,c',q1⟩
 ·subst q1;simp[execOp,cg,resolve,invoke,builtin,Builtin.len_,hu,jJ ht,goInt,q2,vI]
 ·subst q1;simp[execOp,cg,resolve,invoke,builtin,Builtin.len_,hu,jJ ht,goInt,vI]
theorem Yh(ho:xJ P o=some 2){f:Int×List Int}{F:Fact}(hF:Bi fs F)(hi:fs[i]?=some f)(I9:m<k):
  cI P B o [.pointer (some ⟨m,0,some 9⟩),vI i] [(k,none),(k+1,none),(m,some (.fact F))] (.pointer (some ⟨k,0,some 7⟩)) [(k,.view [iV f.1,.pointer (some ⟨k+1,0,some 9⟩)]),(k+1,.fact (jG f.2))]:=by
 unfold xJ at ho;split at ho
 ·rename_i t x y cg;split at ho
  ·rename_i e ht;split at ho
   ·rename_i inf Bt;injection ho with ho;refine iN.step λι c ρ w aZ hm pk=>?_;rw[cg]at aZ;obtain⟨v,v2,hu,hc,dp⟩:=jv aZ;have dT:ρ x=v:=by simp[Op.operands]at hu;exact hu.1
    have e6:ρ y=v2:=by simp[Op.operands]at hu;exact hu.2
    have dp:=dp.eZ rfl;have Hr:c m=some (.fact F):=pk (m,some (.fact F)) s_;have k0:c k=none:=pk (k,none) s_;have k1:c (k+1)=none:=pk (k+1,none) s_;have Hp:=Am hm Hr hc;have loc:ι m=some (.val v):=by
     obtain⟨lc,q1,u,q2,q3⟩:=hm.born m _ Hr;subst q2;generalize hp:Value.pointer (some ⟨m,0,some 9⟩)=p at hc;cases hc with
     |same h=>subst hp;cases h
     |ptr h=>injection hp with hp;injection hp with hp;injection hp with _ _ hp;cases hp
     |slc h=>cases hp
     |slcN h=>cases hp
     |opq h4 h5 h6=>injection hp with hp;injection hp with hp;injection hp with gQ;subst gQ;exact h4
     |fn=>cases hp
     |agg=>cases hp
     |tup=>cases hp
    obtain⟨cs,hr,jw⟩:=hF.G _ _ Hp.1;obtain⟨u,a1,a2,a3⟩:=aGK jw hi;have al:=(eA.1 hi).1;rcases hr with ⟨_,q2,_⟩|⟨b,o',c',q1,q2,q3,q4⟩
    ·omega
    have own:∀ bb,F.cU v w bb->∀ j y o' aU,c j=some y->y.owns=true->ι j≠some (.at bb o' aU):=λbb hb j y o1 l8 hj hy he=>hm.apart j m y F bb o1 l8 v hj hy he Hr loc hb;have hFb:F.cU v w b:=hF.cU _ _ _ (.inl (by rw[q1];rfl));have hFu:∀ bb,(jG f.2).cU u w bb->F.cU v w bb:=λbb hb=>hF.cU _ _ _ (.inr ⟨b,o',c',i*2+1,u,q1,by omega,q4 _ _ a2,by
     obtain⟨h0,hb⟩:=hb;rcases a3.form with ⟨e',e2⟩|⟨a,c2,e'⟩
     ·omega
     ·subst e';injection hb with hb;exact⟨a,_,c2,rfl,h0,hb⟩⟩)
    have m1:aO B (dS ι (k+1) (.val u)) (bA c (k+1) (.fact (jG f.2))) w:=hm.add k1 ⟨u,rfl,a3⟩ n_ (λF' v' b' e1 e2 hb j y o1 l8 hj hy he=>by injection e1 with e1;subst e1;injection e2 with e2;subst e2;exact own b' (hFu b' hb) j y o1 l8 hj hy he) n_ λF' e hr=>by injection e with e;subst e;cases hr
    have k0':bA c (k+1) (.fact (jG f.2)) k=none:=by unfold bA;rw[av o_];exact k0
    have l1:Map.le ι (dS ι (k+1) (.val u)):=ij (hm.dF _ k1);have cu:aK (dS ι (k+1) (.val u)) (.pointer (some ⟨k+1,0,some 9⟩)) u:=.opq (gg _ _ _) a3.one.1 a3.one.2;have l2:Map.le (dS ι (k+1) (.val u)) (dS (dS ι (k+1) (.val u)) k (.at b (o'+i*2) 0)):=ij (m1.dF _ k0');have back:∀ j y b' o1 l8,bA c (k+1) (.fact (jG f.2)) j=some y->y.owns=true->dS ι (k+1) (.val u) j=some (.at b' o1 l8)->c j=some y/\ι j=some (.at b' o1 l8):=λj y b' o1 l8 hj hy he=>by
     unfold bA at hj;unfold dS at he;by_cases b9:j=k+1
     ·rw[aB b9]at hj;injection hj with hj;subst hj;cases hy
     ·rw[av b9]at hj he;exact⟨hj,he⟩
    have m2:aO B (dS (dS ι (k+1) (.val u)) k (.at b (o'+i*2) 0)) (bA (bA c (k+1) (.fact (jG f.2))) k (.view [iV f.1,.pointer (some ⟨k+1,0,some 9⟩)])) w:=
     m1.add k0' (.inr ⟨b,o'+i*2,0,[iV f.1,u],rfl,.cons (.same rfl) (.cons (cu.mono l2) .nil),λj x hj=>by
      cases j with
      |zero=>simp at hj;subst hj;have:=q4 _ _ a1;simpa using this
      |succ j=>cases j with
       |zero=>simp at hj;subst hj;have:=q4 _ _ a2;rw[u9];exact this
       |succ j=>simp at hj⟩) n_ n_ (λb1 o1 l8 _ e=>by
      injection e with e1 e2 e3;subst e1;exact⟨q3,λj y o2 qx hj hy he=>by obtain⟨hj,he⟩:=back j y b o2 qx hj hy he;exact own b hFb j y o2 qx hj hy he⟩)
    refine⟨_,.pointer (some ⟨b,o'+i*2,none⟩),w,l1.trans l2,?_,m2,.inl ?_⟩
    ·have:=aK.ptr (off:=0) (gg (dS ι (k+1) (.val u)) k (.at b (o'+i*2) 0));rwa[jf]at this
    ·subst q1;simp only[execOp,cg,dT,e6,dp];have h0:(0:Int)<=(i:Int):=by omega
     simp[Instr.indexAt,asIntOf,jJ ht,sizeOf,typeInfo,Bt,h0,zn,vI,ho];intro ep;omega
   ·cases ho
  ·cases ho
 ·cases ho
end
section
open V3 (dot af aW smul)
theorem cE.aGM{n1 n2:Nat}{x1 x2:ak}{F F':Fact}(h:cE P f (.s n1 x1 n2 x2 F::l) res)(hF:∀ v w,F'.G v w->F.G v w):cE P f (.s n1 x1 n2 x2 F'::l) res:=by
 intro w vs cz;cases cz with
 |cons h1 h2=>
  obtain⟨u1,u2,u3,e,r1,r2,r3⟩:=h1;exact h w _ (.cons ⟨u1,u2,u3,e,r1,r2,hF _ _ r3.1,r3.2⟩ h2)
def ig(rs:List RP)(vs:List RV)(fs:f_):aR:=.s rs.length (dx rs) vs.length (cV vs) (oK fs)
theorem RX(rs:List RP)(vs:List RV)(fs:f_):(ig rs vs fs).ok=true:=by show((dx rs).all flat&&((cV vs).all flat&&true))=true;rw[iT jP,iT gL];rfl
theorem Yi{rs:List RP}(h:rs.length=0):dx rs=[]:=by rw[mf h];rfl
theorem aUg{a b:List Int}(h63:a.length<9223372036854775807):cE prog 139 [.o (jG a),.o (jG b)] (.bool (decide (a=b))):=by
 have aC:([aR.o (jG a),.o (jG b)].all aR.ok)=true:=rfl;by_cases hl:a.length=b.length
 ·rcases oV a.length with h0|h0
  ·have ha:=mf h0;have hb:=mf (hl▸h0);subst ha;subst hb;exact dV func139 aC 26 (λw=>[.step 7 (aw f139 7) [eg 0] [(0,some (.fact (jG [])))] (vI 0) [] (Hq k_),.step 9 (aw f139 9) [eg 1] [(1,some (.fact (jG [])))] (vI 0) [] (Hq k_),.step 13 (aw f139 13) [eg 0] [(0,some (.fact (jG [])))] (vI 0) [] (Hq k_)])
  ·intro w vs cz;cases cz with
   |cons h1 cz=>
   cases cz with
   |cons h2 cz=>
   cases cz;have r1:cW w _ a.length (eK a):=pP.row h1.1 h0;have r2:cW w _ b.length (eK b):=pP.row h2.1 o_;exact aRi h63 w _ (.cons r1 (.cons r2 .nil))
 ·have ch:a≠b:=λh=>hl (by rw[h]);rw[aP ch];exact dV func139 aC 26 (λw=>[.step 7 (aw f139 7) [eg 0] [(0,some (.fact (jG a)))] (vI a.length) [] (Hq k_),.step 9 (aw f139 9) [eg 1] [(1,some (.fact (jG b)))] (vI b.length) [] (Hq k_),.rw 10 _ b_ (uK (x:=a.length) (y:=b.length) (by simp[hl]))])
section
variable{Bs:aa}{ra rb:List RP}{va vb:List RV}{fa fb:f_}
def Nc(ra:List RP)(va:List RV)(fa:f_)(k:Nat):Obj:=.aM [sl k ra.length,sl (k+1) va.length,eg (k+2)] 26
def aXd(i:Nat):aX:=[(5,vI i),(2,ptr 6),(3,ptr 7)]
def xq(ra rb:List RP)(va vb:List RV)(fa fb:f_):aL:=[(0,.view (dx ra)),(3,.view (dx rb)),(6,Nc ra va fa 0),(7,Nc rb vb fb 3)]
noncomputable def smS{x y:RP}(hi:i<ra.length)(gu:i<rb.length)(hx:ra[i]?=some x)(hy:rb[i]?=some y)(sx:x.Sm)(sy:y.Sm)(ht:(!t)=true↔x=y)(more:bM prog Bs 85):bM prog Bs 85:=
 .lt 35 i ra.length true (aH hi)::.dj f86 41 0 ra.length i 40 hi k_::.ld f86 42 54 0 (i*40) (.view (dx ra)) x.v rfl (w7 hx) k_::.dj f86 46 3 rb.length i 40 gu k_::.ld f86 47 54 3 (i*40) (.view (dx rb)) y.v rfl (w7 hy) k_::
  .step 48 (aw f86 48) [x.v,y.v] [] (.bool t) [] (UP (neg:=false) k_ x y sx sy ht)::more
theorem aXX{x:RP}(hi:i<ra.length)(gu:i<rb.length)(hx:ra[i]?=some x)(hy:rb[i]?=some x)(sx:x.Sm)(h63:ra.length<9223372036854775807):
  ai prog Bs 85 (aJ (ah f86 0)) (aXd i) (xq ra rb va vb fa fb) 8 ⟨.normal,aXd (i+1),xq ra rb va vb fa fb,8⟩:=
 aE (smS (t:=false) hi gu hx hy sx sx s_ [.sum 37 i 1 (i+1) rfl o_])
theorem aUh{x y:RP}(hi:i<ra.length)(gu:i<rb.length)(hx:ra[i]?=some x)(hy:rb[i]?=some y)(sx:x.Sm)(sy:y.Sm)(aQ:x≠y):
  ai prog Bs 85 (aJ (ah f86 0)) (aXd i) (xq ra rb va vb fa fb) 8 ⟨.ret,[(4,.bool false)],xq ra rb va vb fa fb,8⟩:=
 aE (smS (t:=true) hi gu hx hy sx sy (by simp[aQ]) [])
theorem aUi:ai prog Bs 85 (aJ (ah f86 0)) (aXd ra.length) (xq ra rb va vb fa fb) 8 ⟨.exit 0,[(2,ptr 6),(3,ptr 7)],xq ra rb va vb fa fb,8⟩:=
 aE [.lt 35 ra.length ra.length false s_]
def y8(i:Nat):aX:=[(6,vI i),(2,ptr 6),(3,ptr 7)]
def pQ(ra rb:List RP)(va vb:List RV)(fa fb:f_):aL:=[(2,.fact (oK fa)),(5,.fact (oK fb)),(6,Nc ra va fa 0),(7,Nc rb vb fb 3)]
theorem aUj:∀ x∈pQ ra rb va vb fa fb,fV 8 x.2:=λx hx=>by
 simp only[pQ,cC,j6,j7]at hx;rcases hx with rfl|rfl|rfl|rfl
 ·exact λv hv=>(by cases hv)
 ·exact λv hv=>(by cases hv)
 ·intro v hv;have hv:v∈[sl 0 ra.length,sl 1 va.length,eg 2]:=hv;simp at hv;rcases hv with rfl|rfl|rfl<;>rfl
 ·intro v hv;have hv:v∈[sl 3 rb.length,sl 4 vb.length,eg 5]:=hv;simp at hv;rcases hv with rfl|rfl|rfl<;>rfl
def vw(f:Int×List Int)(k:Nat):Obj:=.view [iV f.1,eg (k+1)]
noncomputable def RY(key m k i:Nat){f:Int×List Int}(hi:fs[i]?=some f)(I9:m<k)(ho:xJ prog (aw f86 key)=some 2):bd prog Bs 85:=
 .step key (aw f86 key) [eg m,vI i] [(k,none),(k+1,none),(m,some (.fact (oK fs)))] (ptr k) [(k,vw f k),(k+1,.fact (jG f.2))] (Yh ho (.self fs) hi I9)
noncomputable def Yj{f:Int×List Int}(hi:i<fa.length)(h1:fa[i]?=some f)(h2:fb[i]?=some f')(ht:decide (f.1≠f'.1)=t)(more:bM prog Bs 85):bM prog Bs 85:=
 .step 52 (aw f86 52) [eg 2] [(2,some (.fact (oK fa)))] (vI fa.length) [] (Ho k_ (.self fa))::.lt 53 i fa.length true (aH hi)::RY 59 2 8 i h1 d_ k_::RY 65 5 10 i h2 d_ k_::.rw 68 _ (.bool t) (neZ ht)::more
noncomputable def sfT{f:Int×List Int}(h1:fa[i]?=some f)(h2:fb[i]?=some f')(h63:f.2.length<9223372036854775807)(ht:decide (f.2=f'.2)=t)(more:bM prog Bs 85):bM prog Bs 85:=
 RY 73 2 12 i h1 d_ k_::RY 79 5 14 i h2 d_ k_::
  .step 82 (aw f86 82) [.func (.func 139) #[] #[],eg 13,eg 15] [(13,some (.fact (jG f.2))),(15,some (.fact (jG f'.2)))] (.bool t) []
   (dR (ht▸aUg h63) (.o (.o .nil)) (x:=.func 139) k_ k_ rfl)::more
theorem aGN{f:Int×List Int}(hi:i<fa.length)(q1:fa[i]?=some f)(q2:fb[i]?=some f')(h63:f.2.length<9223372036854775807)(aSv:fa.length<9223372036854775807)(ht:f=f'):
  ai prog Bs 85 (aJ (ah f86 2)) (y8 i) (pQ ra rb va vb fa fb) 8 ⟨.normal,y8 (i+1),pQ ra rb va vb fa fb,8⟩:=by
 have h1:decide (f.1≠f'.1)=false:=by rw[ht];simp
 have h2:decide (f.2=f'.2)=true:=by rw[ht];simp
 exact vn mixed 100 (gH:=16) (Yj hi q1 q2 h1 (sfT q1 q2 h63 h2 [.sum 55 i 1 (i+1) rfl o_])) k_ rfl k_ aUj k_
theorem aUk:ai prog Bs 85 (aJ (ah f86 2)) (y8 fa.length) (pQ ra rb va vb fa fb) 8 ⟨.exit 2,[],pQ ra rb va vb fa fb,8⟩:=
 aE [.step 52 (aw f86 52) [eg 2] [(2,some (.fact (oK fa)))] (vI fa.length) [] (Ho k_ (.self fa)),.lt 53 fa.length fa.length false s_]
def Yk(ra rb:List RP)(va vb:List RV)(fa fb:f_):Bool:=decide (ra=rb)&&(decide (va=vb)&&decide (fa=fb))
noncomputable def Hs{na:Bool}(h1:decide (ra.length≠rb.length)=na)(more:bM prog Bs 85):bM prog Bs 85:=.rw 13 _ (.bool na) (uK h1)::more
noncomputable def JS{nb:Bool}(h2:decide (fa.length≠fb.length)=nb)(more:bM prog Bs 85):bM prog Bs 85:=
 .step 17 (aw f86 17) [eg 2] [(2,some (.fact (oK fa)))] (vI fa.length) [] (Ho k_ (.self fa))::.step 20 (aw f86 20) [eg 5] [(5,some (.fact (oK fb)))] (vI fb.length) [] (Ho k_ (.self fb))::.rw 21 _ (.bool nb) (uK h2)::more
noncomputable def Nd(hV:cE prog 138 [.r va.length (cV va),.r vb.length (cV vb)] (.bool t))(more:bM prog Bs 85):bM prog Bs 85:=
 .step 28 (aw f86 28) [.func (.func 138) #[] #[],sl 1 va.length,sl 4 vb.length] [(1,some (.view (cV va))),(4,some (.view (cV vb)))] (.bool t) []
  (dR hV (.w (x:=.view (cV va)) rfl (iT gL _) Bh (.w (x:=.view (cV vb)) rfl (iT gL _) Bh .nil)) (x:=.func 138) k_ k_ rfl)::more
theorem aUl(ha:∀ x∈ra,x.Sm)(hb:∀ x∈rb,x.Sm)(gJ:∀ x∈va,x.Sm)(lQ:∀ x∈vb,x.Sm)(hn:ra.length<9223372036854775807)(jt:va.length<9223372036854775807)(tT:fa.length<9223372036854775807)(sn:∀ f∈fa,f.2.length<9223372036854775807):
  cE prog 86 [ig ra va fa,ig rb vb fb] (.bool (Yk ra rb va vb fa fb)):=by
 have aC:([ig ra va fa,ig rb vb fb].all aR.ok)=true:=by simp only[dL,eX,RX,AA]
 have hV:=aRf gJ lQ jt;unfold Yk;unfold ig at *;by_cases hl:ra.length=rb.length
 ·have n13:decide (ra.length≠rb.length)=false:=by simp[hl]
  by_cases hf:fa.length=fb.length
  ·have n21:decide (fa.length≠fb.length)=false:=by simp[hf]
   by_cases RZ:va=vb
   ·rw[aH RZ]at hV;rw[aH RZ,kF];rcases Ek ra rb hl with hp|⟨e,x,y,q1,q2,q3,q4⟩
    ·rw[aH hp,kF];have lo:∀ B:aa,ai prog B 85 (.block 0 (ah f86 0)) (aXd 0) (xq ra rb va vb fa fb) 8 ⟨.normal,[(2,ptr 6),(3,ptr 7)],xq ra rb va vb fa fb,8⟩:=λB=>
      cd (id:=0) (cA ra.length (λi=>aXd i) (λ_=>xq ra rb va vb fa fb) (λi k _=>Iff.rfl) (λi hi=>by have hx:ra[i]?=some ra[i]:=bo hi;exact aXX hi o_ hx (by rw[<-hp];exact hx) (ha _ (dB hi)) hn) aUi n_)
     rcases Ek fa fb hf with PX|⟨e,x,y,q1,q2,q3,q4⟩
     ·rw[aH PX];have wW:∀ B:aa,ai prog B 85 (.block 2 (ah f86 2)) (y8 0) (pQ ra rb va vb fa fb) 8 ⟨.normal,[],pQ ra rb va vb fa fb,8⟩:=λB=>
       cd (id:=2) (cA fa.length (λi=>y8 i) (λ_=>pQ ra rb va vb fa fb) (λi k _=>Iff.rfl) (λi hi=>by have hx:fa[i]?=some fa[i]:=bo hi;exact aGN hi hx (by rw[<-PX];exact hx) (sn _ (dB hi)) tT rfl) aUk n_)
      exact jC mixed func86 aC 200 (N:=85) k_ (λw=>Hs n13 (JS n21 (Nd hV [.code 0 _ _ _ _ _ (lo _),.code 2 _ _ _ _ _ (wW _)]))) (λ_=>k_) k_
     ·have ch:fa≠fb:=λh=>by subst h;rw[q1]at q2;injection q2 with q2;exact q3 q2
      rw[aP ch];have al:=(eA.1 q1).1;have rounds:∀{B:aa},∀ i,i<e->ai prog B 85 (aJ (ah f86 2)) (y8 i) (pQ ra rb va vb fa fb) 8 ⟨.normal,y8 (i+1),pQ ra rb va vb fa fb,8⟩:=λi hi=>by have hx:fa[i]?=some fa[i]:=bo o_;have hy:fb[i]?=some fb[i]:=bo o_;exact aGN o_ hx hy (sn _ (dB _)) tT (q4 i _ _ hi hx hy)
      by_cases he:x.1=y.1
      ·have h1:decide (x.1≠y.1)=false:=by rw[he];simp
       have h2:decide (x.2=y.2)=false:=aP λe=>q3 (Prod.ext he e);have wW:∀ B:aa,ai prog B 85 (.block 2 (ah f86 2)) (y8 0) (pQ ra rb va vb fa fb) 8 ⟨.ret,[(4,.bool false)],pQ ra rb va vb fa fb,16⟩:=λB=>
        cd (id:=2) (cA (r:=⟨.ret,[(4,.bool false)],pQ ra rb va vb fa fb,16⟩) e (λi=>y8 i) (λ_=>pQ ra rb va vb fa fb) (λi k _=>Iff.rfl) rounds (aE (Yj al q1 q2 h1 (sfT q1 q2 (sn _ (cL q1)) h2 []))) n_)
       exact jC mixed func86 aC 200 (N:=85) k_ (λw=>Hs n13 (JS n21 (Nd hV [.code 0 _ _ _ _ _ (lo _),.code 2 _ _ _ _ _ (wW _)]))) (λ_=>k_) k_
      ·have h1:decide (x.1≠y.1)=true:=aH he;have wW:∀ B:aa,ai prog B 85 (.block 2 (ah f86 2)) (y8 0) (pQ ra rb va vb fa fb) 8 ⟨.ret,[(4,.bool false)],pQ ra rb va vb fa fb,12⟩:=λB=>
        cd (id:=2) (cA (r:=⟨.ret,[(4,.bool false)],pQ ra rb va vb fa fb,12⟩) e (λi=>y8 i) (λ_=>pQ ra rb va vb fa fb) (λi k _=>Iff.rfl) rounds (aE (Yj al q1 q2 h1 [])) n_)
       exact jC mixed func86 aC 200 (N:=85) k_ (λw=>Hs n13 (JS n21 (Nd hV [.code 0 _ _ _ _ _ (lo _),.code 2 _ _ _ _ _ (wW _)]))) (λ_=>k_) k_
    ·have ch:ra≠rb:=λh=>by subst h;rw[q1]at q2;injection q2 with q2;exact q3 q2
     rw[aP ch,zL];have al:=(eA.1 q1).1;have lo:∀ B:aa,ai prog B 85 (.block 0 (ah f86 0)) (aXd 0) (xq ra rb va vb fa fb) 8 ⟨.ret,[(4,.bool false)],xq ra rb va vb fa fb,8⟩:=λB=>
      cd (id:=0) (cA e (λi=>aXd i) (λ_=>xq ra rb va vb fa fb) (λi k _=>Iff.rfl) (λi hi=>by have hx:ra[i]?=some ra[i]:=bo o_;have hy:rb[i]?=some rb[i]:=bo o_;have:=q4 i _ _ hi hx hy;exact aXX o_ o_ hx (by rw[this];exact hy) (ha _ (dB _)) hn) (aUh al o_ q1 q2 (ha _ (cL q1)) (hb _ (cL q2)) q3) n_)
     exact jC mixed func86 aC 200 (N:=85) k_ (λw=>Hs n13 (JS n21 (Nd hV [.code 0 _ _ _ _ _ (lo _)]))) (λ_=>k_) k_
   ·rw[aP RZ]at hV;rw[aP RZ,zL,On];exact jC mixed func86 aC 200 (N:=85) k_ (λw=>Hs n13 (JS n21 (Nd hV []))) (λ_=>k_) k_
  ·have n21:decide (fa.length≠fb.length)=true:=by simp[hf]
   have ch:fa≠fb:=λh=>hf (by rw[h]);rw[aP ch,On,On];exact jC mixed func86 aC 200 (N:=85) k_ (λw=>Hs n13 (JS n21 [])) (λ_=>k_) k_
 ·have n13:decide (ra.length≠rb.length)=true:=by simp[hl]
  have ch:ra≠rb:=λh=>hl (by rw[h]);rw[aP ch,zL];exact jC mixed func86 aC 200 (N:=85) k_ (λw=>Hs n13 []) (λ_=>k_) k_
end
theorem aUm(fs:f_)(S:Nat):∀ v w,((jE fs).nq S).G v w->(oK fs).G v w:=λv w h=>(Bi.full fs).G v w h.1
section
variable{ps:c_}{m M:Nat}{rs:List RP}{vs:List RV}{fs:f_}
def JT(ps:c_)(vs:List RV)(fs:f_):Bool:=
 !decide (fs.length<4)&&(!decide (vs.length<4)&&(xl ps&&(!we (fC ps)&&(decide (vs=(fC ps).map cK)&&decide (fs=y7 ps)))))
theorem Nf(rs:List RP)(vs:List RV)(fs:f_):([ig rs vs fs].all aR.ok)=true:=by simp only[dL,eX,RX,AA]
noncomputable def JU(k:Nat)(fs:f_):bd prog Bs 28:=.step 7 (aw f37 7) [eg k] [(k,some (.fact (oK fs)))] (vI fs.length) [] (Ho k_ (.self fs))
theorem aGO(hf:fs.length<4):cE prog 37 [ig rs vs fs] a_:=by have aC:=Nf rs vs fs;unfold ig at *;exact jC mixed func37 aC 100 (N:=28) k_ (λw=>[JU 2 fs,.lt 8 fs.length 4 true (aH hf)]) (λw=>k_) k_
theorem aGP(hf:¬fs.length<4)(hv:vs.length<4):cE prog 37 [ig rs vs fs] a_:=by have aC:=Nf rs vs fs;unfold ig at *;exact jC mixed func37 aC 100 (N:=28) k_ (λw=>[JU 2 fs,.lt 8 fs.length 4 false (aP hf),.lt 13 vs.length 4 true (aH hv)]) (λw=>k_) k_
theorem aUn(hs:∀ x∈rs,A3 m x)(hm:m<=aD)(h63:rs.length<9223372036854775807)(hb:rs.all r8=false):cE prog 37 [ig rs vs fs] a_:=by
 by_cases hf:fs.length<4
 ·exact aGO hf
 by_cases hv:vs.length<4
 ·exact aGP hf hv
 have aC:=Nf rs vs fs;have qm:=aT8 hs hm h63 hb;unfold ig at *;exact jC mixed func37 aC 100 (N:=28) k_ (λw=>[JU 2 fs,.lt 8 fs.length 4 false (aP hf),.lt 13 vs.length 4 false (aP hv),.step 18 (aw f37 18) [.func (.func 79) #[] #[],sl 0 rs.length] [(0,some (.view (dx rs)))] (.tuple #[xj,hZ 1]) []
   (dR qm (.w (x:=.view (dx rs)) rfl (iT jP rs) Yi .nil) (x:=.func 79) k_ k_ k_)]) (λw=>k_) k_
theorem aUo(h:sD ps m M)(eO:xl ps=true->we (fC ps)=false->∀ p∈ps,¬(bY p (fC ps) (fC ps).length).length<3->JP p (fC ps))(aZ:∀ x∈vs,x.Sm)(jt:vs.length<9223372036854775807)(tT:fs.length<9223372036854775807)(sn:∀ f∈fs,f.2.length<9223372036854775807):
  cE prog 37 [ig (ps.map c9) vs fs] (.bool (JT ps vs fs)):=by
 unfold JT;by_cases hf:fs.length<4
 ·rw[aH hf];exact aGO hf
 by_cases hv:vs.length<4
 ·rw[aH hv,aP hf];exact aGP hf hv
 rw[aP hf,aP hv];have aC:=Nf (ps.map c9) vs fs;by_cases hc:xl ps=true
 ·rw[hc];by_cases hi:we (fC ps)=true
  ·rw[hi];have qm:=aUa h hc hi;unfold ig at *;rw[eH,show dx (ps.map c9)=bt ps from rfl]at *;exact jC mixed func37 aC 100 (N:=28) k_ (λw=>[JU 2 fs,.lt 8 fs.length 4 false (aP hf),.lt 13 vs.length 4 false (aP hv),.step 18 (aw f37 18) [.func (.func 79) #[] #[],sl 0 ps.length] [(0,some (.view (bt ps)))] (.tuple #[xj,hZ 12]) []
     (dR qm (.w (x:=.view (bt ps)) rfl (dC ps) jD .nil) (x:=.func 79) k_ k_ k_)]) (λw=>k_) k_
  ·have hi:we (fC ps)=false:=by simpa using hi
   rw[hi];have qm:=aGJ h hc hi (eO hc hi);have smv:∀ x∈(fC ps).map cK,x.Sm:=λx hx=>by obtain⟨v,hv,rfl⟩:=db.1 hx;exact(h.sz.1 v hv).sm h.tX.2.2.2.2.2.2
   have smp:∀ x∈ps.map c9,x.Sm:=λx hx=>by obtain⟨p,hp,rfl⟩:=db.1 hx;exact(h.pl p hp).1.sm (by have:=h.tX.2.2.2.2.2.1;exact this)
   have Bq:=aUl (ra:=ps.map c9) (rb:=ps.map c9) (va:=vs) (vb:=(fC ps).map cK) (fa:=fs) (fb:=y7 ps) smp smp aZ smv (by rw[eH];have:=h.len;omega) jt tT sn;unfold Yk at Bq;rw[aH rfl]at Bq;unfold aV at qm;unfold ig at *;rw[eH,show dx (ps.map c9)=bt ps from rfl]at aC Bq ⊢;have hlen:(fC ps).length=((fC ps).map cK).length:=by rw[eH]
   rw[hlen]at qm;generalize (fC ps).map cK=cT at *;rw[kF]at Bq;have e0:(!false&&(!false&&(true&&(!false&&(decide (vs=cT)&&decide (fs=y7 ps))))))=(decide (vs=cT)&&decide (fs=y7 ps)):=by simp
   rw[e0];generalize (decide (vs=cT)&&decide (fs=y7 ps))=t at *;refine jC mixed func37 aC 100 (N:=28) k_ (λw=>[JU 2 fs,.lt 8 fs.length 4 false (aP hf),.lt 13 vs.length 4 false (aP hv),.step 18 (aw f37 18) [.func (.func 79) #[] #[],sl 0 ps.length] [(4,none),(5,none),(6,none),(0,some (.view (bt ps)))] (.tuple #[.agg #[sl 4 ps.length,sl 5 cT.length,eg 6],hZ 0]) [(6,.fact ((jE (y7 ps)).nq w.heap.size)),(5,.row (cV cT) 44 30),(4,.row (bt ps) 54 40)]
     (Mn (B:=aa.at w) (S:=w.heap.size) qm (.w (x:=.view (bt ps)) rfl (dC ps) jD .nil) (x:=.func 79) k_ k_ rfl (dC ps) (iT gL _) rfl (λw' hb=>Below.size hb) 4),
    .step 26 (aw f37 26) [.func (.func 86) #[] #[],.agg #[sl 0 ps.length,sl 1 vs.length,eg 2],.agg #[sl 4 ps.length,sl 5 cT.length,eg 6]] [(0,some (.view (bt ps))),(1,some (.view (cV vs))),(2,some (.fact (oK fs))),(4,some (.row (bt ps) 54 40)),(5,some (.row (cV cT) 44 30)),(6,some (.fact ((jE (y7 ps)).nq w.heap.size)))] (.bool t) []
     (dR Bq (.s (x1:=.view (bt ps)) (x2:=.view (cV vs)) rfl (dC ps) jD rfl (iT gL _) Bh (.si (aUm _ _) (x1:=.row (bt ps) 54 40) (x2:=.row (cV cT) 44 30) rfl (dC ps) jD rfl (iT gL _) Bh .nil)) (x:=.func 86) k_ k_ rfl)]) (λw=>?_) k_
   kernel_rfl
 ·have hc:xl ps=false:=by simpa using hc
  rw[hc];have qm:=aT9 h hc;unfold ig at *;rw[eH,show dx (ps.map c9)=bt ps from rfl]at *;exact jC mixed func37 aC 100 (N:=28) k_ (λw=>[JU 2 fs,.lt 8 fs.length 4 false (aP hf),.lt 13 vs.length 4 false (aP hv),.step 18 (aw f37 18) [.func (.func 79) #[] #[],sl 0 ps.length] [(0,some (.view (bt ps)))] (.tuple #[xj,hZ 13]) []
    (dR qm (.w (x:=.view (bt ps)) rfl (dC ps) jD .nil) (x:=.func 79) k_ k_ k_)]) (λw=>k_) k_
end
section
variable{Bs:aa}{ps:c_}{v:V3 K}{m n:Nat}
end
section
variable{Bs:aa}{rs:List RP}{vs:List RV}{fs:f_}
def Ht(i:Nat):aX:=[(3,vI i),(1,ptr 3)]
def uV(rs:List RP)(vs:List RV)(fs:f_):aL:=[(2,.fact (oK fs)),(3,Nc rs vs fs 0)]
theorem aUp:∀ x∈uV rs vs fs,fV 4 x.2:=λx hx=>by
 simp only[uV,cC,j6,j7]at hx;rcases hx with rfl|rfl
 ·exact λv hv=>(by cases hv)
 ·intro v hv;have hv:v∈[sl 0 rs.length,sl 1 vs.length,eg 2]:=hv;simp at hv;rcases hv with rfl|rfl|rfl<;>rfl
noncomputable def Yl(fs:f_)(key:Nat)(ho:Mk prog (aw f13 key)=true):bd prog Bs 33:=.step key (aw f13 key) [eg 2] [(2,some (.fact (oK fs)))] (vI fs.length) [] (Ho ho (.self fs))
noncomputable def fwS{f:Int×List Int}(hi:i<fs.length)(h1:fs[i]?=some f)(ht:decide (f.2.length>12)=t)(more:bM prog Bs 33):bM prog Bs 33:=
 Yl fs 7 k_::.lt 8 i fs.length true (aH hi)::.step 14 (aw f13 14) [eg 2,vI i] [(4,none),(4+1,none),(2,some (.fact (oK fs)))] (ptr 4) [(4,vw f 4),(4+1,.fact (jG f.2))] (Yh k_ (.self fs) h1 d_)::
  .step 17 (aw f13 17) [eg 5] [(5,some (.fact (jG f.2)))] (vI f.2.length) [] (Hq k_)::.gt 18 f.2.length 12 t ht::more
theorem aGQ{f:Int×List Int}(hi:i<fs.length)(h1:fs[i]?=some f)(h63:fs.length<9223372036854775807)(ht:f.2.length<=12):
  ai prog Bs 33 (aJ (ah f13 0)) (Ht i) (uV rs vs fs) 4 ⟨.normal,Ht (i+1),uV rs vs fs,4⟩:=
 vn mixed 100 (gH:=6) (fwS (f:=f) hi h1 (aP o_) [.sum 10 i 1 (i+1) rfl o_]) k_ rfl k_ aUp k_
theorem aUq{f:Int×List Int}(hi:i<fs.length)(h1:fs[i]?=some f)(ht:¬f.2.length<=12):
  ai prog Bs 33 (aJ (ah f13 0)) (Ht i) (uV rs vs fs) 4 ⟨.ret,[(2,.bool false)],uV rs vs fs,6⟩:=
 aE (fwS (f:=f) hi h1 (aH o_) [])
def Ng(rs:List RP)(vs:List RV)(fs:f_):Bool:=
 fs.all (λf=>decide (f.2.length<=12))&&(MV rs 9&&((vs.all (λx=>rf x 12)&&decide (vs.length<=20))&&decide (fs.length<=12)))
noncomputable def Ym{t1:Bool}(hP:cE prog 52 [.r rs.length (dx rs),.p (vI 9)] (.bool t1))(more:bM prog Bs 33):bM prog Bs 33:=
 .step 21 (aw f13 21) [.func (.func 52) #[] #[],sl 0 rs.length,vI 9] [(0,some (.view (dx rs)))] (.bool t1) [] (dR hP (.w (x:=.view (dx rs)) rfl (iT jP rs) Yi (.p rfl .nil)) (x:=.func 52) k_ k_ rfl)::more
noncomputable def fwV{t2:Bool}(hV:cE prog 53 [.r vs.length (cV vs),.p (vI 20),.p (vI 12)] (.bool t2))(more:bM prog Bs 33):bM prog Bs 33:=
 .step 25 (aw f13 25) [.func (.func 53) #[] #[],sl 1 vs.length,vI 20,vI 12] [(1,some (.view (cV vs)))] (.bool t2) [] (dR hV (.w (x:=.view (cV vs)) rfl (iT gL vs) Bh (.p rfl (.p rfl .nil))) (x:=.func 53) k_ k_ rfl)::more
theorem aUr(JV:rs.length<9223372036854775807)(jt:vs.length<9223372036854775807)(tT:fs.length<9223372036854775807):cE prog 13 [ig rs vs fs] (.bool (Ng rs vs fs)):=by
 have aC:=Nf rs vs fs;unfold Ng;unfold ig at *;have hP:=aSF (ps:=rs) 9 JV;have hV:=aSA (vs:=vs) (k:=12) 20 jt;rcases CY (λf:Int×List Int=>decide (f.2.length<=12)) fs with h|⟨e,x,h1,h2,h3,h4⟩
 ·rw[h,kF];have lo:∀ B:aa,ai prog B 33 (.block 0 (ah f13 0)) (Ht 0) (uV rs vs fs) 4 ⟨.normal,[(1,ptr 3)],uV rs vs fs,4⟩:=λB=>
   cd (id:=0) (cA (r:=⟨.exit 0,[(1,ptr 3)],uV rs vs fs,4⟩) fs.length (λi=>Ht i) (λ_=>uV rs vs fs) (λi k _=>Iff.rfl) (λi hi=>by have hx:fs[i]?=some fs[i]:=bo hi;exact aGQ hi hx tT (kX (EV h hx))) (aE [Yl fs 7 k_,.lt 8 fs.length fs.length false s_]) n_)
  generalize MV rs 9=t1 at *;generalize (vs.all (λx=>rf x 12)&&decide (vs.length<=20))=t2 at *;cases t1 with
  |false=>exact dV func13 aC 33 (λw=>.code 0 _ _ _ _ _ (lo _)::Ym hP [])
  |true=>
  cases t2 with
  |false=>exact dV func13 aC 33 (λw=>.code 0 _ _ _ _ _ (lo _)::Ym hP (fwV hV []))
  |true=>
   rw[kF,kF];exact dV func13 aC 33 (λw=>.code 0 _ _ _ _ _ (lo _)::Ym hP (fwV hV [Yl fs 30 k_,.rw 31 _ (.bool (decide (fs.length<=12))) (Hd (a:=fs.length) (b:=12) rfl)]))
 ·rw[h4,zL];have al:=(eA.1 h1).1;have lo:∀ B:aa,ai prog B 33 (.block 0 (ah f13 0)) (Ht 0) (uV rs vs fs) 4 ⟨.ret,[(2,.bool false)],uV rs vs fs,6⟩:=λB=>
   cd (id:=0) (cA (r:=⟨.ret,[(2,.bool false)],uV rs vs fs,6⟩) e (λi=>Ht i) (λ_=>uV rs vs fs) (λi k _=>Iff.rfl) (λi hi=>by have hx:fs[i]?=some fs[i]:=bo o_;exact aGQ o_ hx tT (kX (h3 i _ hi hx))) (aUq al h1 (Ir h2)) n_)
  exact dV func13 aC 33 (λw=>[.code 0 _ _ _ _ _ (lo _)])
end
theorem aGR(l:c_)(p:HS K):bt l++(c9 p).cs=bt (l++[p]):=by unfold bt;rw[vf];show dy RP.cs _++_=dy RP.cs _;rw[L5];simp[dy]
theorem aUs(p:HS K):(c9 p).cs=bt [p]:=by have:=aGR [] p;rwa[show bt ([]:c_)=[]from rfl,jg,jg]at this
section
noncomputable def JW(k:Nat)(p:HS K):bd prog Bs 43:=
 .bs f34 37 k 1 54 40 [0] (RP.v ⟨tO,wb⟩) [dK p] (c9 p).cs.toArray (.row (c9 p).cs 54 40) rfl (λv hv=>by simp at hv;subst hv;rfl) (λv hv=>jP.flat _ v hv) k_ rfl d_ d_ k_
noncomputable def Nh(k n:Nat)(l l':c_)(p:HS K)(hl:l.length=n)(hn:n<=6)(cB:l'=l++[p]):bd prog Bs 43:=
 .qH f34 38 (k+2) (k-1) n 1 (n+1) 54 40 480 (bt l) (k+1) (.row (c9 p).cs 54 40) (bt l') rfl rfl rfl (by rw[EP,hl]) (by subst cB;exact aGR l p) (jP.one _) d_ (by simp[maxLen];omega) o_ k_
variable{n1 n2 n3 n4 n5 n6:V3 K}{q:K}
structure aUt(n1 n2 n3 n4 n5 n6:V3 K)(q:K):Prop where
 c1:aF prog 20 [.int .i64 1,.int .i64 0,.int .i64 0] (bZ n1)
 c2:aF prog 20 [.int .i64 (-1),.int .i64 0,.int .i64 0] (bZ n2)
 c3:aF prog 20 [.int .i64 0,.int .i64 1,.int .i64 0] (bZ n3)
 c4:aF prog 20 [.int .i64 0,.int .i64 (-1),.int .i64 0] (bZ n4)
 c5:aF prog 20 [.int .i64 0,.int .i64 0,.int .i64 1] (bZ n5)
 c6:aF prog 20 [.int .i64 0,.int .i64 0,.int .i64 (-1)] (bZ n6)
 d:aF prog 35 [.int .i64 1] (bI q)
def C4(n1 n2 n3 n4 n5 n6:V3 K)(q:K):c_:=[⟨n1,q⟩,⟨n2,q⟩,⟨n3,q⟩,⟨n4,q⟩,⟨n5,q⟩,⟨n6,q⟩]
theorem aUu{n:Nat}{F:Fact}(h:aUt n1 n2 n3 n4 n5 n6 q)(hx:xs.all flat=true)(hl:xs.length=n*30)(xw:F.rc=false)(qm:CL prog 79 [fZ (C4 n1 n2 n3 n4 n5 n6 q)] 54 40 6 (bt (C4 n1 n2 n3 n4 n5 n6 q)) 44 30 n xs F [hZ 0]):
  CL prog 34 [.p (vI 1)] 54 40 6 (bt (C4 n1 n2 n3 n4 n5 n6 q)) 44 30 n xs F [hZ 0]:=by
 refine Wo (k1:=19) (k2:=20) (k3:=21) mixed func34 rfl 300 (N:=43) k_ (λw=>[
  h.c1.at 33,h.d.at 35,JW 2 ⟨n1,q⟩,.ap0 f34 38 3 1 54 40 480 2 (.row (c9 ⟨n1,q⟩).cs 54 40) (bt [⟨n1,q⟩]) rfl rfl (aUs _) d_ d_ d_ k_,
  h.c2.at 33,h.d.at 35,JW 5 ⟨n2,q⟩,Nh 4 1 [⟨n1,q⟩] [⟨n1,q⟩,⟨n2,q⟩] ⟨n2,q⟩ rfl d_ rfl,
  h.c3.at 33,h.d.at 35,JW 8 ⟨n3,q⟩,Nh 7 2 [⟨n1,q⟩,⟨n2,q⟩] [⟨n1,q⟩,⟨n2,q⟩,⟨n3,q⟩] ⟨n3,q⟩ rfl d_ rfl,
  h.c4.at 33,h.d.at 35,JW 11 ⟨n4,q⟩,Nh 10 3 [⟨n1,q⟩,⟨n2,q⟩,⟨n3,q⟩] [⟨n1,q⟩,⟨n2,q⟩,⟨n3,q⟩,⟨n4,q⟩] ⟨n4,q⟩ rfl d_ rfl,
  h.c5.at 33,h.d.at 35,JW 14 ⟨n5,q⟩,Nh 13 4 [⟨n1,q⟩,⟨n2,q⟩,⟨n3,q⟩,⟨n4,q⟩] [⟨n1,q⟩,⟨n2,q⟩,⟨n3,q⟩,⟨n4,q⟩,⟨n5,q⟩] ⟨n5,q⟩ rfl d_ rfl,
  h.c6.at 33,h.d.at 35,JW 17 ⟨n6,q⟩,Nh 16 5 [⟨n1,q⟩,⟨n2,q⟩,⟨n3,q⟩,⟨n4,q⟩,⟨n5,q⟩] (C4 n1 n2 n3 n4 n5 n6 q) ⟨n6,q⟩ rfl d_ rfl,
  .step 40 (aw f34 40) [.func (.func 79) #[] #[],sl 18 6] [(19,none),(20,none),(21,none),(18,some (.row (bt (C4 n1 n2 n3 n4 n5 n6 q)) 54 40))] (.tuple #[.agg #[sl 19 6,sl 20 n,eg 21],hZ 0]) [(21,.fact (F.nq w.heap.size)),(20,.row xs 44 30),(19,.row (bt (C4 n1 n2 n3 n4 n5 n6 q)) 54 40)]
   (Mn (B:=aa.at w) (S:=w.heap.size) qm (.w (x:=.row (bt (C4 n1 n2 n3 n4 n5 n6 q)) 54 40) rfl (dC _) jD .nil) (x:=.func 79) k_ k_ xw (dC _) hx rfl (λw' hb=>Below.size hb) 19)]) (λw=>?_) d_ (dC _) (EP _) hx hl k_
 kernel_rfl
end
end
variable{q n2 n1:Nat}
section
open CR OF
open V3 (dot af aW smul)
section
variable{ps:c_}{vs:List RV}{fs:f_}{p:HS K}
theorem aGS(hc:Cl ps)(hp:fH ps)(hf:lD ps):iM ps (cQ ps):=⟨by unfold cQ;exact VQ _,λ_=>aGu hc hp hf⟩
theorem aUv(hp:fH ps):Na ps=true↔Cl ps/\lD ps:=by
 unfold Na;rw[dr,aF9,aTq];constructor
 ·rintro⟨h1,_,h3⟩
  exact⟨h1,_,h3⟩
 ·rintro⟨h1,h2⟩
  exact⟨h1,aCU h1 hp (λv=>aGu h1 hp h2) h2⟩
theorem aGT(hc:Cl ps)(hp:fH ps)(hf:lD ps):∀ p∈ps,¬(bY p (cQ ps) (cQ ps).length).length<3->JP p (cQ ps):=λp jb hl=>by obtain⟨h1,h2,h3⟩:=(aGS hc hp hf).loop (hp p jb) hl;exact⟨h1,h2,h3⟩
theorem aGU(hp:fH ps)(h:we (fC ps)=false):lD ps:=
 aMA hp (λv hv=>(RQ.1 hv).1) (aGv.1 h)
theorem aUw(hc:Cl ps)(hp:fH ps)(hf:lD ps):we (fC ps)=false:=
 aGv.2 (aMB hc hp (λv=>RQ) hf)
theorem aGV(hc:Cl ps)(hp:fH ps)(hf:lD ps):y7 ps=lI ps:=by unfold y7 lI;rw[EZ hc hp hf]
theorem aUx(hp:fH ps)(h:JT ps vs fs=true):Cl ps/\lD ps/\vs=(cQ ps).map cK/\fs=lI ps:=by unfold JT at h;simp only[dr,zr,tZ]at h;obtain⟨_,_,h3,h4,h5,h6⟩:=h;have hc:=X7.1 h3;have hf:=aGU hp h4;exact⟨hc,hf,by rw[EZ hc hp hf];exact h5,by rw[<-aGV hc hp hf];exact h6⟩
end
def qo:c_:=C4 ⟨kI 1,kI 0,kI 0⟩ ⟨kI (-1),kI 0,kI 0⟩ ⟨kI 0,kI 1,kI 0⟩ ⟨kI 0,kI (-1),kI 0⟩ ⟨kI 0,kI 0,kI 1⟩ ⟨kI 0,kI 0,kI (-1)⟩ (kI 1)
def R0:HS K:=⟨⟨kI 1,kI 1,kI 1⟩,kI 2⟩
def E1(a b c:Int):V3 K:=⟨kI a,kI b,kI c⟩
def aGW:e_:=[E1 (-1) (-1) (-1),E1 (-1) (-1) 1,E1 (-1) 1 (-1),E1 (-1) 1 1,E1 1 (-1) (-1),E1 1 (-1) 1,E1 1 1 (-1),E1 1 1 1]
theorem aUy:uG qo=true:=by kernel_rfl
theorem aUz:fC qo=aGW:=by kernel_rfl
theorem Yn(h:p∈qo++[R0]):∃ a b c d:Int,p=⟨⟨kI a,kI b,kI c⟩,kI d⟩/\(a.natAbs<=1/\b.natAbs<=1/\c.natAbs<=1)/\(0<d/\d<=2)/\(a≠0\/b≠0\/c≠0):=by
 simp only[qo,C4,eW,cC,j6,j7]at h;rcases h with (rfl|rfl|rfl|rfl|rfl|rfl)|rfl
 ·exact⟨1,0,0,1,rfl,by decide,by decide,by decide⟩
 ·exact⟨-1,0,0,1,rfl,by decide,by decide,by decide⟩
 ·exact⟨0,1,0,1,rfl,by decide,by decide,by decide⟩
 ·exact⟨0,-1,0,1,rfl,by decide,by decide,by decide⟩
 ·exact⟨0,0,1,1,rfl,by decide,by decide,by decide⟩
 ·exact⟨0,0,-1,1,rfl,by decide,by decide,by decide⟩
 ·exact⟨1,1,1,2,rfl,by decide,by decide,by decide⟩
theorem aGX(h:p∈qo++[R0]):bO 2 p:=by obtain⟨a,b,c,d,rfl,⟨h1,h2,h3⟩,⟨h4,h5⟩,_⟩:=Yn h;exact⟨⟨qe o_ d_,qe o_ d_,qe o_ d_⟩,qe o_ d_⟩
theorem Yo{a b:Int}(h:kI a=kI b):a=b:=by
 have h1:((a:Rat))=(b:Rat):=cO (λx:K=>x.re.re) h
 exact_mod_cast h1
theorem Yp(h:p∈qo++[R0]):p.n≠0:=by
 obtain⟨a,b,c,d,rfl,_,_,h6⟩:=Yn h;intro e;have e1:kI a=kI 0:=cO V3.x e;have e2:kI b=kI 0:=cO V3.y e;have e3:kI c=kI 0:=cO V3.z e;rcases h6 with h|h|h
 ·exact h (Yo e1)
 ·exact h (Yo e2)
 ·exact h (Yo e3)
theorem aUA(h:p∈qo++[R0]):dot p.n 0<p.d:=by
 obtain⟨a,b,c,d,rfl,_,⟨h4,h5⟩,_⟩:=Yn h;rw[V3.yr];have hd:d=1\/d=2:=by omega
 rcases hd with rfl|rfl
 ·show OF.aG (kI 1-0)=1;kernel_rfl
 ·show OF.aG (kI 2-0)=1;kernel_rfl
theorem aGY:fH qo:=λ_ h=>Yp (sC _ h)
theorem Yq:lD qo:=⟨0,λ_ h=>aUA (sC _ h)⟩
theorem Yr:Cl qo:=aF9.1 aUy
theorem aUB:sD qo 2 1000:=⟨by decide,λp h=>⟨aGX (sC _ h),Yp (sC _ h)⟩,by decide,by decide⟩
theorem aUC{M:Nat}(h:sD ps m M)(hc:Cl ps)(hp:fH ps)(hf:lD ps):
  CL prog 79 [fZ ps] 54 40 ps.length (bt ps) 44 30 (cQ ps).length (aV (cQ ps)) (jE (lI ps)) [hZ 0]:=by
 have eO:=aGT hc hp hf;rw[EZ hc hp hf]at eO;have:=aGJ h (X7.2 hc) (aUw hc hp hf) eO;rw[aGV hc hp hf]at this;rw[EZ hc hp hf];exact this
theorem aUD:CL prog 34 [.p (vI 1)] 54 40 6 (bt qo) 44 30 (cQ qo).length (aV (cQ qo)) (jE (lI qo)) [hZ 0]:=by
 have qm:=aUC aUB Yr aGY Yq
 exact aUu ⟨aXk d_ d_ d_,aXk d_ d_ d_,aXk d_ d_ d_,aXk d_ d_ d_,aXk d_ d_ d_,aXk d_ d_ d_,aXp d_⟩
  (ee _) (rZ _) rfl qm
theorem aUE:cQ qo=aGW:=(EZ Yr aGY Yq).trans aUz
theorem Ni{q:RI}(h:decide (tK q<=k)=true)(hk:k<=maxLen):q.Sm:=by have h:=kX h;unfold RI.Sm;unfold tK at h;exact dq h hk
theorem Ys{r:RN}(h:tL r k=true)(hk:k<=maxLen):r.Sm:=by unfold tL at h;simp only[dr]at h;exact⟨Ni h.1 hk,Ni h.2.1 hk,Ni h.2.2.1 hk,Ni h.2.2.2.1 hk,Ni h.2.2.2.2 hk⟩
theorem aUF{r:RV}(h:rf r k=true)(hk:k<=maxLen):r.Sm:=by unfold rf at h;simp only[dr]at h;exact⟨Ys h.1 hk,Ys h.2.1 hk,Ys h.2.2 hk⟩
section
variable{ps:c_}{p:HS K}
def sA(n nv:Nat):Value:=.agg #[sl 0 n,sl 1 nv,eg 2]
end
theorem aUG{rs:List RP}(h:rs.all r8=true):rs=(rs.map pZ).map c9/\∀ q∈rs.map pZ,q.n≠0:=by
 rw[bB]at h;constructor
 ·rw[TG]
  conv=>lhs;rw[<-List.map_id rs]
  exact vm λr hr=>(aEL (h r hr)).1
 ·intro q hq;obtain⟨r,hr,rfl⟩:=db.1 hq;exact(aEL (h r hr)).2
theorem aUH(ps:c_):∀ f∈lI ps,0<f.2.length:=by
 intro f hf;unfold lI at hf;obtain⟨g,hg,rfl⟩:=db.1 hf;unfold dE at hg;rw[w6]at hg;obtain⟨i,_,hg⟩:=hg;unfold ga at hg;split at hg
 ·unfold qk at hg;split at hg
  ·cases hg
  ·split at hg
   ·cases hg
   ·split at hg
    ·rename_i al;simp at hg;subst hg;show 0<(List.map _ _).length;rw[eH];exact mU d_ al
    ·cases hg
 ·cases hg
theorem cE.aUI{x1 x2:ak}(h:cE P f (.s n1 x1 n2 x2 (jE fs)::l) res)(hl:∀ f∈fs,0<f.2.length):cE P f (.s n1 x1 n2 x2 (oK fs)::l) res:=
 cE.aGM h λ_ _ hG=>aUf hG hl
section
variable{rs:List RP}{vs:List RV}{fs:f_}
def R1(rs:List RP)(vs:List RV)(fs:f_):q_:=[(0,some (.view (dx rs))),(1,some (.view (cV vs))),(2,some (.fact (oK fs)))]
theorem Yt(h:gB Bs l xs []):gB Bs (.s rs.length (dx rs) vs.length (cV vs) (oK fs)::l) (sA rs.length vs.length::xs) (R1 rs vs fs):=
 .s (x1:=.view (dx rs)) (x2:=.view (cV vs)) rfl (iT jP rs) Yi rfl (iT gL _) Bh h
end
end
section
variable{H:Type}{enc:TypeId×Value->H}{P:j_}{w:h_}{base:Nat}{spare:Nat->Bool}{held:Bool}{fuel:Nat}{t:TypeId}{cs:ak}{x:DataW H×List MemPlace}
def JX(P:j_)(t:TypeId)(i:Nat):Option (TypeId×Nat):=match P.underlying t with
 |some (.struct fs)=>(fs[i]?).map λf=>(f.type,f.offset)
 |_=>none
def aGZ(P:j_)(t:TypeId):Option (Nat×TypeId):=match P.underlying t with
 |some (.array n e)=>some (n,e)
 |_=>none
theorem Nj{u o:Nat}(hf:JX P t i=some (u,o))(h:DataW.trod enc P w base spare held fuel t cs=some x):cs.length=P.cellsOf t:=by
 unfold JX at hf;split at hf
 ·rename_i fs ht;obtain⟨_,_,_,_,hl,_⟩:=aG0 ht h;exact hl
 ·cases hf
theorem y9{u o:Nat}(hf:JX P t i=some (u,o))(h:DataW.trod enc P w base spare held fuel t cs=some x):∃ n y,DataW.trod enc P w base spare held n u ((cs.drop o).take (P.cellsOf u))=some y:=by
 unfold JX at hf;split at hf
 ·rename_i fs ht;obtain⟨xs,n,_,_,_,hlen,bh⟩:=aG0 ht h;rw[Option.map_eq_some_iff]at hf;obtain⟨f,jA,he⟩:=hf;injection he with e1 e2;subst e1;subst e2;have:=bh i f jA;have hi:i<xs.length:=by rw[hlen];exact(zx.1 jA).1
  rw[bo hi]at this;exact⟨n,_,this⟩
 ·cases hf
theorem aG1{u k:Nat}{d:DataW H}:∀{ts:List TypeId} {ds:List (DataW H)} {i:Nat},ts[i]?=some u->ds[i]?=some d->k∈d.weights P u->k∈DataW.weightsEach P ts ds
 |[],_,i,h,_,_=>by simp at h
 |_::_,[],i,_,h,_=>by simp at h
 |t::ts,e::ds,0,h1,h2,h3=>by simp at h1 h2;subst h1;subst h2;unfold DataW.weightsEach;exact sC _ h3
 |t::ts,e::ds,i+1,h1,h2,h3=>by unfold DataW.weightsEach;exact yZ _ (aG1 (by simpa using h1) (by simpa using h2) h3)
theorem Yu{u o:Nat}(hf:JX P t i=some (u,o))(h:DataW.trod enc P w base spare held fuel t cs=some x):∃ n y,DataW.trod enc P w base spare held n u ((cs.drop o).take (P.cellsOf u))=some y/\∀ k∈y.1.weights P u,k∈x.1.weights P t:=by
 unfold JX at hf;split at hf
 ·rename_i fs ht;obtain⟨xs,n,_,hx,_,hlen,bh⟩:=aG0 ht h;rw[Option.map_eq_some_iff]at hf;obtain⟨f,jA,he⟩:=hf;injection he with e1 e2;subst e1;subst e2;have:=bh i f jA;have hi:i<xs.length:=by rw[hlen];exact(zx.1 jA).1
  have hxi:=bo hi;rw[hxi]at this;refine⟨n,_,this,λk hk=>?_⟩;rw[hx];show k∈(DataW.agg (xs.map (·.1))).weights P t;unfold DataW.weights;rw[ht];refine aG1 (i:=i) (u:=f.type) (d:=xs[i].1) ?_ ?_ hk
  ·rw[vi,show fs.toList[i]?=some f by rw[Array.getElem?_toList];exact jA];rfl
  ·rw[vi,hxi];rfl
 ·cases hf
theorem aUJ{e:TypeId}{a:Addr}(ht:P.underlying t=some (.slice e))(hb:0<P.bytesOf e)(h:DataW.trod enc P w base spare held fuel t [.slice (some a) len cap]=some x)(hw:∀ k∈x.1.weights P t,k<=reachBytes):len<=reachBytes:=by
 rcases DataW.trod_slice ht h with ⟨h1,_⟩|⟨a',mn,aU,elems,rest,n,_,h1,hx,_,_,_,hlen,_⟩
 ·cases h1
 ·injection h1 with h1;injection h1 with _ e2 _;subst e2;have:=hw ((elems.length+rest.length)*P.bytesOf e) (by rw[hx];show _∈(DataW.slice (elems.map (·.1)) (rest.map (·.1))).weights P t;unfold DataW.weights;rw[ht];simp)
  have h2:elems.length+rest.length<=(elems.length+rest.length)*P.bytesOf e:=FG _ hb;omega
theorem aUK{n:Nat}(he:aGZ P t=some (n,e))(h:DataW.trod enc P w base spare held fuel t cs=some x):cs.length=P.cellsOf t/\∀ i,i<n->∃ m y,DataW.trod enc P w base spare held m e ((cs.drop (i*P.cellsOf e)).take (P.cellsOf e))=some y:=by
 unfold aGZ at he;split at he
 ·rename_i n' e' ht;injection he with he;injection he with e1 e2;subst e1;subst e2;obtain⟨xs,m,_,_,hl,hlen,bh⟩:=DataW.trod_array ht h;refine⟨hl,λi hi=>?_⟩;have:=bh i hi;rw[bo o_]at this;exact⟨m,_,this⟩
 ·cases he
theorem aG2{α:Type}{p:Nat->α->Prop}:∀ n,(∀ i,i<n->∃ r,p i r)->∃ rs:List α,rs.length=n/\∀ i r,rs[i]?=some r->p i r
 |0,_=>⟨[],rfl,λi r h=>by simp at h⟩
 |n+1,h=>by
  obtain⟨rs,h1,h2⟩:=aG2 n λi hi=>h i o_;obtain⟨r,hr⟩:=h n o_;refine⟨rs++[r],by rw[lh,h1];rfl,λi r' hi=>?_⟩;rcases e7 i rs.length with al|ep
  ·rw[Kj al]at hi;exact h2 i r' hi
  ·rw[Fg ep]at hi;have hi0:i-rs.length=0:=by have:=(eA.1 hi).1;simp at this;omega
   rw[hi0]at hi;simp at hi;subst hi;have:i=n:=by omega
   subst this;exact hr
theorem aG3{f:α->ak}{s:Nat}(hE:∀ x,(f x).length=s)(qN:0<s){e:TypeId}(ht:P.underlying t=some (.slice e))(hs:P.cellsOf e=s)(Yv:∀ n cs y,DataW.trod enc P w 0 (λ_=>true) true n e cs=some y->∃ r,cs=f r)
  {v:i_} (h:DataW.trod enc P w 0 (λ_=>true) true fuel t [v]=some x) :
  v=.slice none 0 0\/∃ a len cap,∃ rs:List α,v=.slice (some a) len cap/\len<=cap/\cap<=maxLen/\rs.length=len/\(∀ i r j u,rs[i]?=some r->(f r)[j]?=some u->w.cell? ((a.add (i*s)).add j)=some u)/\(0<cap->∃ u,w.cell? (a.add 0)=some u):=by
 rcases DataW.trod_slice ht h with ⟨h1,_⟩|⟨a,len,cap,elems,rest,n,_,h1,_,hb,hl,hc,hlen,tn,vT,_⟩
 ·injection h1 with h1;exact .inl h1
 ·injection h1 with h1;subst h1;refine .inr ⟨a,len,cap,?_⟩;have key:∀ i,i<len->∃ r:α,∀ j u,(f r)[j]?=some u->w.cell? ((a.add (i*s)).add j)=some u:=by intro i hi;have:=tn i hi;rw[bo o_,aG4]at this;obtain⟨bL,h2,h3⟩:=this;obtain⟨r,rfl⟩:=Yv _ _ _ h3;refine⟨r,λj u hj=>?_⟩;rw[hs]at h2;obtain⟨_,ju,bh⟩:=World.cells?_some h2;have JI:=(eA.1 hj).1;rw[bh j o_];exact hj
  obtain⟨rs,q1,q2⟩:=aG2 len key;refine⟨rs,rfl,hl,hc,q1,λi r j u hi hj=>q2 i r hi j u hj,λzR=>?_⟩;have any:∃ bL,w.cells? 0 (a.add (0*s)) s=some bL:=by
   rcases oV len with h0|h0
   ·obtain⟨ES,hr⟩:=vT rfl;have:=hr 0 o_;rw[bo o_,aG4]at this;obtain⟨bL,h2,_⟩:=this;rw[h0,hs]at h2;exact⟨bL,h2⟩
   ·have:=tn 0 h0;rw[bo o_,aG4]at this;obtain⟨bL,h2,_⟩:=this;rw[hs]at h2;exact⟨bL,h2⟩
  obtain⟨bL,h2⟩:=any;obtain⟨_,ju,bh⟩:=World.cells?_some h2;have:=bh 0 qN;rw[bo (by rw[ju];exact qN),lP]at this;exact⟨_,this⟩
theorem aG5{α:Type}{f:α->ak}{s:Nat}(hE:∀ x,(f x).length=s):∀{l:List α} {k:Nat} {u:i_},(dy f l)[k]?=some u->∃ i r j,l[i]?=some r/\(f r)[j]?=some u/\k=i*s+j
 |[],k,u,h=>by simp[dy]at h
 |x::l,k,u,h=>by
  rw[show dy f (x::l)=f x++dy f l from rfl]at h;rcases e7 k (f x).length with al|ep
  ·rw[Kj al]at h;exact⟨0,x,k,rfl,h,by rw[lP,kA]⟩
  ·rw[Fg ep]at h;obtain⟨i,r,j,h1,h2,h3⟩:=aG5 hE h;refine⟨i+1,r,j,by simpa using h1,h2,?_⟩;rw[hE]at h3 ep;rw[sS];omega
theorem aUL(b o i j:Nat):((⟨b,o,none⟩:Addr).add i).add j=⟨b,o+(i+j),none⟩:=by unfold Addr.add;by_cases hi:i=0<;>by_cases hj:j=0<;>simp[hi,hj,u9]
def isAgg(P:j_)(T:TypeId):Bool:=match P.underlying T with|some (.struct _)=>true|some (.array _ _)=>true|_=>false
theorem aUM{T:TypeId}{v:i_}{r:Reach}(hs:isAgg P T=true)(hv:Value.okWide P w r base T v):∃ cs,v=.agg cs/\cs.size=P.cellsOf T/\Row.okWide P w r base T cs:=by
 unfold Value.okWide at hv;unfold isAgg at hs;split at hs
 ·rename_i e;rw[e]at hv;exact hv
 ·rename_i e;rw[e]at hv;exact hv
 ·cases hs
theorem aUN{T e:TypeId}{a:Addr}{r:Reach}(ht:P.underlying T=some (.slice e))(h:Cell.okWide P w r base T (.slice (some a) len cap)):a.spot=none/\a.block<w.heap.size:=by
 unfold Cell.okWide at h;rw[ht]at h;have h:Cell.ok P w r base T (.slice (some a) len cap):=h;unfold Cell.ok at h;rw[ht]at h;obtain⟨_,_,_,h1,row,cells,h2,_⟩:=h;refine⟨h1,?_⟩;unfold World.shape? at h2;split at h2
 ·rename_i c t f he;exact(zx.1 he).1
 ·cases h2
theorem aG6{f:α->ak}{s:Nat}(hE:∀ x,(f x).length=s){o:Nat}{rs:List α}(hl:len<=cap)(hb:b<w.heap.size)(hlen:rs.length=len)(h:∀ i r j u,rs[i]?=some r->(f r)[j]?=some u->w.cell? (((⟨b,o,none⟩:Addr).add (i*s)).add j)=some u):
  cW w (.slice (some ⟨b,o,none⟩) len cap) rs.length (dy f rs):=by
 refine .inr ⟨b,o,cap,by rw[hlen],by omega,hb,λk u hk=>?_⟩;obtain⟨i,r,j,h1,h2,rfl⟩:=aG5 hE hk;have:=h i r j u h1 h2;rwa[aUL]at this
end
section
variable{H:Type}{enc:TypeId×Value->H}{w:h_}{base:Nat}{spare:Nat->Bool}{held:Bool}{fuel:Nat}{cs:ak}{x:DataW H×List MemPlace}
theorem aG7{cs:ak}(h:cs.length=2):∃ a b,cs=[a,b]:=by
 match cs,h with
 |[a,b],_=>exact⟨a,b,rfl⟩
theorem aUO(h:DataW.trod enc prog w base spare held fuel 4 cs=some x):∃ b,cs=[.bool b]:=by obtain⟨b,h1,_⟩:=DataW.trod_bool (P:=prog) k_ h;exact⟨b,h1⟩
theorem aUP(h:DataW.trod enc prog w base spare held fuel 9 cs=some x):∃ l:List UInt8,cs=[.string (BA l)]:=by obtain⟨s,h1,_⟩:=DataW.trod_string (P:=prog) k_ h;exact⟨s.data.toList,by rw[h1];rfl⟩
theorem aG8(h:DataW.trod enc prog w base spare held fuel 3 cs=some x):∃ z,cs=[iV z]:=by obtain⟨z,h1,_⟩:=DataW.trod_int (P:=prog) (k:=.i64) k_ h;exact⟨z,h1⟩
theorem Nk(h:DataW.trod enc prog w base spare held fuel 31 cs=some x):∃ q:RI,cs=q.cs:=by have hl:=Nj (P:=prog) (i:=0) (u:=4) (o:=0) k_ h;rw[show prog.cellsOf 31=2 from k_]at hl;obtain⟨_,_,h0⟩:=y9 (P:=prog) (i:=0) (u:=4) (o:=0) k_ h;obtain⟨_,_,h1⟩:=y9 (P:=prog) (i:=1) (u:=9) (o:=1) k_ h;rw[show prog.cellsOf 4=1 from k_]at h0;rw[show prog.cellsOf 9=1 from k_]at h1;obtain⟨a,b,rfl⟩:=aG7 hl;obtain⟨b0,e0⟩:=aUO h0;obtain⟨l,e1⟩:=aUP h1;simp at e0 e1;subst e0;subst e1;exact⟨⟨b0,l⟩,rfl⟩
theorem aUQ(h:DataW.trod enc prog w base spare held fuel 32 cs=some x):∃ a b c e:RI,cs=a.cs++(b.cs++(c.cs++e.cs)):=by
 obtain⟨hl,bh⟩:=aUK (P:=prog) (n:=4) (e:=31) k_ h;rw[show prog.cellsOf 32=8 from k_]at hl;rw[show prog.cellsOf 31=2 from k_]at bh;obtain⟨_,_,h0⟩:=bh 0 d_;obtain⟨_,_,h1⟩:=bh 1 d_;obtain⟨_,_,h2⟩:=bh 2 d_;obtain⟨_,_,h3⟩:=bh 3 d_;obtain⟨a,e0⟩:=Nk h0;obtain⟨b,e1⟩:=Nk h1;obtain⟨c,e2⟩:=Nk h2;obtain⟨e,e3⟩:=Nk h3;refine⟨a,b,c,e,?_⟩;rw[<-e0,<-e1,<-e2,<-e3]
 match cs,hl with
 |[_,_,_,_,_,_,_,_],_=>rfl
theorem R2(h:DataW.trod enc prog w base spare held fuel 34 cs=some x):∃ r:RN,cs=r.cs:=by
 have hl:=Nj (P:=prog) (i:=0) (u:=32) (o:=0) k_ h;rw[show prog.cellsOf 34=10 from k_]at hl;obtain⟨_,_,h0⟩:=y9 (P:=prog) (i:=0) (u:=32) (o:=0) k_ h;obtain⟨_,_,h1⟩:=y9 (P:=prog) (i:=1) (u:=31) (o:=8) k_ h;rw[show prog.cellsOf 32=8 from k_]at h0;rw[show prog.cellsOf 31=2 from k_]at h1;obtain⟨a,b,c,e,e0⟩:=aUQ h0;obtain⟨d,e1⟩:=Nk h1;have:cs=(cs.drop 0).take 8++(cs.drop 8).take 2:=by
  match cs,hl with
  |[_,_,_,_,_,_,_,_,_,_],_=>rfl
 refine⟨⟨a,b,c,e,d⟩,?_⟩;rw[this,e0,e1];rfl
theorem aG9(h:DataW.trod enc prog w base spare held fuel 44 cs=some x):∃ r:RV,cs=r.cs:=by
 have hl:=Nj (P:=prog) (i:=0) (u:=34) (o:=0) k_ h;rw[show prog.cellsOf 44=30 from k_]at hl;obtain⟨_,_,h0⟩:=y9 (P:=prog) (i:=0) (u:=34) (o:=0) k_ h;obtain⟨_,_,h1⟩:=y9 (P:=prog) (i:=1) (u:=34) (o:=10) k_ h;obtain⟨_,_,h2⟩:=y9 (P:=prog) (i:=2) (u:=34) (o:=20) k_ h;rw[show prog.cellsOf 34=10 from k_]at h0 h1 h2;obtain⟨a,e0⟩:=R2 h0;obtain⟨b,e1⟩:=R2 h1;obtain⟨c,e2⟩:=R2 h2;have:cs=(cs.drop 0).take 10++((cs.drop 10).take 10++(cs.drop 20).take 10):=by
  have t2:(cs.drop 20).take 10=cs.drop 20:=kT (by rw[wy];omega);have t1:(cs.drop 10).take 10++cs.drop 20=cs.drop 10:=by have:=Ml 10 (cs.drop 10);rwa[Ou]at this
  rw[t2,t1,mT,Ml]
 refine⟨⟨a,b,c⟩,?_⟩;rw[this,e0,e1,e2];rfl
theorem aUR(h:DataW.trod enc prog w base spare held fuel 54 cs=some x):∃ r:RP,cs=r.cs:=by
 have hl:=Nj (P:=prog) (i:=0) (u:=44) (o:=0) k_ h;rw[show prog.cellsOf 54=40 from k_]at hl;obtain⟨_,_,h0⟩:=y9 (P:=prog) (i:=0) (u:=44) (o:=0) k_ h;obtain⟨_,_,h1⟩:=y9 (P:=prog) (i:=1) (u:=34) (o:=30) k_ h;rw[show prog.cellsOf 44=30 from k_]at h0;rw[show prog.cellsOf 34=10 from k_]at h1;obtain⟨a,e0⟩:=aG9 h0;obtain⟨b,e1⟩:=R2 h1;have:cs=(cs.drop 0).take 30++(cs.drop 30).take 10:=by have t2:(cs.drop 30).take 10=cs.drop 30:=kT (by rw[wy];omega);rw[t2,mT,Ml]
 refine⟨⟨a,b⟩,?_⟩;rw[this,e0,e1];rfl
def R3(z:Int):ak:=[iV z]
theorem aUS(l:List Int):dy R3 l=eK l:=by
 induction l with
 |nil=>rfl
 |cons z l ih=>show[iV z]++dy R3 l=_;rw[ih];rfl
theorem aUT{w:h_}{a:Addr}(h:w.cell? a=some u):a.spot=none/\a.block<w.heap.size:=by
 unfold World.cell? at h;split at h
 ·rename_i c t f he;refine⟨?_,(zx.1 he).1⟩;cases hs:a.spot with
  |none=>rfl
  |some s=>rw[hs]at h;simp at h
 ·cases h
theorem aUU{v:i_}(h:DataW.trod enc prog w 0 (λ_=>true) true fuel 49 [v]=some x):∃ l:List Int,pP w v l.length (eK l):=by
 rcases aG3 (P:=prog) (f:=R3) (s:=1) (λ_=>rfl) d_ (e:=3) k_ k_ (λn cs y hy=>aG8 hy) h with h1|⟨a,len,cap,rs,h1,hl,hc,hlen,lK,BW⟩
 ·exact⟨[],.inl (.inl ⟨h1,rfl,rfl⟩)⟩
 ·refine⟨rs,?_⟩;subst h1;rcases oV cap with h0|h0
  ·refine .inr ⟨by omega,a,?_⟩;rw[show len=0 by omega,h0]
  ·obtain⟨u,hu⟩:=BW h0;have e0:a.add 0=a:=rfl;rw[e0]at hu;obtain⟨hs,hb⟩:=aUT hu;obtain⟨b,o,sp⟩:=a;dsimp only at hs hb;subst hs;have:=aG6 (f:=R3) (s:=1) (λ_=>rfl) hl hb hlen lK;rw[aUS]at this;exact .inl this
def Yw(w:h_):Type:={ r:(Int×List Int)×Value // pP w r.2 r.1.2.length (eK r.1.2)}
def Nl{w:h_}(r:Yw w):ak:=[iV r.1.1.1,r.1.2]
theorem aUV{n:Nat}{cs:ak}{y:DataW H×List MemPlace}(h:DataW.trod enc prog w 0 (λ_=>true) true n 51 cs=some y):∃ r:Yw w,cs=Nl r:=by have hl:=Nj (P:=prog) (i:=0) (u:=3) (o:=0) k_ h;rw[show prog.cellsOf 51=2 from k_]at hl;obtain⟨_,_,h0⟩:=y9 (P:=prog) (i:=0) (u:=3) (o:=0) k_ h;obtain⟨_,_,h1⟩:=y9 (P:=prog) (i:=1) (u:=49) (o:=1) k_ h;rw[show prog.cellsOf 3=1 from k_]at h0;rw[show prog.cellsOf 49=1 from k_]at h1;obtain⟨a,b,rfl⟩:=aG7 hl;obtain⟨z,e0⟩:=aG8 h0;obtain⟨l,hw⟩:=aUU h1;simp at e0;subst e0;exact⟨⟨((z,l),b),hw⟩,rfl⟩
theorem aHa{w:h_}:∀ rs:List (Yw w),sE w (rs.map λr=>r.1.1) (dy Nl rs)
 |[]=>.nil
 |r::rs=>by show sE w (r.1.1::rs.map λr=>r.1.1) (Nl r++dy Nl rs);obtain⟨⟨⟨z,l⟩,u⟩,hw⟩:=r;exact .cons hw (aHa rs)
set_option maxRecDepth 100000 in
theorem Yx{f:α->ak}{s:Nat}(hE:∀ x,(f x).length=s)(qN:0<s){T e:TypeId}(ht:prog.underlying T=some (.slice e))(hs:prog.cellsOf e=s)(hb:0<prog.bytesOf e)(Yv:∀ n cs (y:DataW H×List MemPlace),DataW.trod enc prog w 0 (λ_=>true) true n e cs=some y->∃ r,cs=f r)
  {v:i_} {r:Reach} (aC:Cell.okWide prog w r base T v) (h:DataW.trod enc prog w 0 (λ_=>true) true fuel T [v]=some x) (hw:∀ k∈x.1.weights prog T,k<=reachBytes):∃ rs:List α,cW w v rs.length (dy f rs)/\rs.length<=reachBytes:=by
 rcases aG3 hE qN ht hs Yv h with h1|⟨a,len,cap,rs,h1,hl,hc,hlen,lK,_⟩
 ·exact⟨[],.inl ⟨h1,rfl,rfl⟩,lM _⟩
 ·subst h1;obtain⟨q1,q2⟩:=aUN ht aC;have PZ:=aUJ ht hb h hw;obtain⟨b,o,sp⟩:=a;dsimp only at q1 q2;subst q1;exact⟨rs,aG6 hE hl q2 hlen lK,by omega⟩
set_option maxRecDepth 100000 in
theorem aUW{v:i_}{d:DataW H}{p:List MemPlace}(hv:Value.okWide prog w .any base 26 v)(h:DataW.Trod enc prog w 0 (λ_=>true) true 26 v d p)(hw:∀ k∈d.weights prog 26,k<=reachBytes):
  ∃ rs vs fs,(ig rs vs fs).In w v/\rs.length<=reachBytes/\vs.length<=reachBytes/\fs.length<=reachBytes:=by
 obtain⟨fuel,h⟩:=h;obtain⟨cs,rfl,bH,jI⟩:=aUM k_ hv;rw[show prog.cellsOf 26=3 from k_]at bH;obtain⟨c0,c1,c2,rfl⟩:∃ a b c,cs=#[a,b,c]:=by
  obtain⟨l⟩:=cs
  match l,bH with
  |[a,b,c],_=>exact⟨a,b,c,rfl⟩
 obtain⟨ts,hts,_,jw⟩:=jI;have R4:prog.cellTypes prog.depth 26=some [22,23,24]:=k_;rw[hts]at R4;injection R4 with R4;subst R4;have k0:Cell.okWide prog w .any base 22 c0:=by obtain⟨u,hu,aC⟩:=jw 0 c0 rfl;simp at hu;subst hu;exact aC
 have k1:Cell.okWide prog w .any base 23 c1:=by obtain⟨u,hu,aC⟩:=jw 1 c1 rfl;simp at hu;subst hu;exact aC
 have k2:Cell.okWide prog w .any base 24 c2:=by obtain⟨u,hu,aC⟩:=jw 2 c2 rfl;simp at hu;subst hu;exact aC
 have h:DataW.trod enc prog w 0 (λ_=>true) true fuel 26 [c0,c1,c2]=some (d,p):=h;obtain⟨_,_,h0,w0⟩:=Yu (P:=prog) (i:=0) (u:=22) (o:=0) k_ h;obtain⟨_,_,h1,w1⟩:=Yu (P:=prog) (i:=1) (u:=23) (o:=1) k_ h;obtain⟨_,_,h2,w2⟩:=Yu (P:=prog) (i:=2) (u:=24) (o:=2) k_ h;rw[show prog.cellsOf 22=1 from k_]at h0;rw[show prog.cellsOf 23=1 from k_]at h1;rw[show prog.cellsOf 24=1 from k_]at h2;obtain⟨rs,q0,l0⟩:=Yx (f:=RP.cs) (s:=40) jP.len d_ (e:=54) k_ k_ (kX k_) (λn cs y hy=>aUR hy) k0 h0 (λk hk=>hw k (w0 k hk));obtain⟨vs,q1,l1⟩:=Yx (f:=RV.cs) (s:=30) gL.len d_ (e:=44) k_ k_ (kX k_) (λn cs y hy=>aG9 hy) k1 h1 (λk hk=>hw k (w1 k hk));obtain⟨fs,q2,l2⟩:=Yx (f:=Nl (w:=w)) (s:=2) (λ_=>rfl) d_ (e:=51) k_ k_ (kX k_) (λn cs y hy=>aUV hy) k2 h2 (λk hk=>hw k (w2 k hk));refine⟨rs,vs,fs.map λr=>r.1.1,⟨c0,c1,c2,rfl,q0,q1,⟨_,by rw[eH];exact q2,aHa fs⟩,?_⟩,l0,l1,by rw[eH];exact l2⟩;rcases q2 with ⟨e,_⟩|⟨_,_,_,e,_⟩<;>rw[e]<;>exact⟨rfl,rfl⟩
end
theorem aUX{ns:l_}:∀{Os cx:aL},cx.map (·.1)=Os.map (·.1)++ns->∀ k,ag cx k=none↔(ag Os k=none/\ns.contains k=false):=by
 have look:∀(l:aL) (k:Nat),ag l k=none↔(l.map (·.1)).contains k=false:=by
  intro l k;induction l with
  |nil=>exact⟨λ_=>rfl,λ_=>rfl⟩
  |cons p l ih=>
   obtain⟨a,x⟩:=p;rw[show ag ((a,x)::l) k=if Nat.beq a k=true then some x else ag l k from rfl,nE,List.contains_cons];by_cases h:Nat.beq a k=true
   ·rw[aB h];have:=lj h;subst this;simp
   ·rw[av h,ih];have:(k==a)=false:=by
     cases e:k==a with
     |false=>rfl
     |true=>have:=eq_of_beq e;subst this;exact absurd (HJ k) h
    rw[this,zM]
 intro Os cx h k;rw[look,look,h,List.contains_append,NN]
section
variable{P:j_}{B:aa}{N:Nat}
theorem aUY(ho:xJ P o=some 1){l:List Int}(hi:l[i]?=some z):
  cI P B o [.pointer (some ⟨m,0,some 9⟩),vI i] [(k,none),(m,some (.fact (jG l)))] (.pointer (some ⟨k,0,some 7⟩)) [(k,.view [iV z])]:=by
 unfold xJ at ho;split at ho
 ·rename_i t x y cg;split at ho
  ·rename_i e ht;split at ho
   ·rename_i inf Bt;injection ho with ho;refine iN.step λι c ρ w aZ hm pk=>?_;rw[cg]at aZ;obtain⟨v,v2,hu,hc,dp⟩:=jv aZ;have dT:ρ x=v:=by simp[Op.operands]at hu;exact hu.1
    have e6:ρ y=v2:=by simp[Op.operands]at hu;exact hu.2
    have dp:=dp.eZ rfl;have Hr:c m=some (.fact (jG l)):=pk (m,some (.fact (jG l))) s_;have k0:c k=none:=pk (k,none) s_;have Hp:=Am hm Hr hc;have loc:ι m=some (.val v):=by
     obtain⟨lc,q1,u,q2,q3⟩:=hm.born m _ Hr;subst q2;generalize hp:Value.pointer (some ⟨m,0,some 9⟩)=p at hc;cases hc with
     |same h=>subst hp;cases h
     |ptr h=>injection hp with hp;injection hp with hp;injection hp with _ _ hp;cases hp
     |slc h=>cases hp
     |slcN h=>cases hp
     |opq h4 h5 h6=>injection hp with hp;injection hp with hp;injection hp with gQ;subst gQ;exact h4
     |fn=>cases hp
     |agg=>cases hp
     |tup=>cases hp
    have al:=(eA.1 hi).1;have hw:pP w v l.length (eK l):=Hp.1;have lK:(eK l)[i]?=some (iV z):=by unfold eK;rw[vi,hi];rfl
    rcases hw.row o_ with ⟨_,q2,_⟩|⟨b,o',c',q1,q2,q3,q4⟩
    ·omega
    have hF:(jG l).cU v w b:=⟨by omega,by rw[q1];rfl⟩;have m2:aO B (dS ι k (.at b (o'+i*1) 0)) (bA c k (.view [iV z])) w:=
     hm.add k0 (.inr ⟨b,o'+i*1,0,[iV z],rfl,.cons (.same rfl) .nil,λj x hj=>by
      cases j with
      |zero=>simp at hj;subst hj;have:=q4 _ _ lK;simpa using this
      |succ j=>simp at hj⟩) n_ n_ (λb1 o1 l8 _ e=>by
      injection e with e1 e2 e3;subst e1;exact⟨q3,λj y o2 qx hj hy he=>hm.apart j m y _ b o2 qx v hj hy he Hr loc hF⟩)
    refine⟨_,.pointer (some ⟨b,o'+i*1,none⟩),w,ij (hm.dF k k0),?_,m2,.inl ?_⟩
    ·have:=aK.ptr (off:=0) (gg ι k (.at b (o'+i*1) 0));rwa[jf]at this
    ·subst q1;simp only[execOp,cg,dT,e6,dp];have h0:(0:Int)<=(i:Int):=by omega
     simp[Instr.indexAt,asIntOf,jJ ht,sizeOf,typeInfo,Bt,h0,zn,vI,ho];intro ep;omega
   ·cases ho
  ·cases ho
 ·cases ho
end
section
open V3 (dot af aW smul)
section
variable{Bs:aa}{vs:e_}{L:l_}
def kf(L:l_):List Int:=L.map λx:Nat=>(x:Int)
def kN(vs:e_)(L:l_):e_:=L.map (aA vs)
def R5(n j:Nat):aX:=[(11,vI j),(9,eg 3),(10,vI n),(2,cq 4),(5,sl 6 j)]
def E2(np:Nat)(vs:e_)(L:l_):aL:=[(1,.view (aV vs)),(3,.fact (jG (kf L))),(4,.aM [sl 0 np,sl 1 vs.length,eg 2] 26)]
theorem aUZ:∀ x∈E2 np vs L,fV 6 x.2:=λx hx=>by
 simp only[E2,cC,j6,j7]at hx;rcases hx with rfl|rfl|rfl
 ·exact λv hv=>iW (bB.1 (ee vs) v hv)
 ·exact n_
 ·intro v hv;have hv:v∈[sl 0 np,sl 1 vs.length,eg 2]:=hv;simp at hv;rcases hv with rfl|rfl|rfl<;>rfl
theorem aU0{z:Nat}{v:V3 K}(hj:j<(kf L).length)(hz:(kf L)[j]?=some (z:Int))(hv:vs[z]?=some v)(hl:acc.length=j)(h63:(kf L).length<1000000):
  ai prog Bs 25 (aJ (ah f112 0)) (R5 (kf L).length j) (E2 np vs L++marks 6 (nQ acc)) 7 ⟨.normal,gZ 6 [some 9] (R5 (kf L).length (j+1)),E2 np vs L++dY [some 9] (nQ (acc++[v])),10⟩:=by
 have al:=(eA.1 hv).1;have hc:(aV acc).length=j*30:=by rw[rZ,hl]
 exact aE [.lt 12 j (kf L).length true (aH hj),.step 13 (aw f112 13) [eg 3,vI j] [(7,none),(3,some (.fact (jG (kf L))))] (cq 7) [(7,.view [iV z])] (aUY k_ hz),.dj f112 19 1 vs.length z 30 al k_,.ld f112 20 44 1 (z*30) (.view (aV vs)) (bZ v) rfl (mE hv) k_,.bs f112 21 8 1 44 30 [0] (RV.v tO) [bZ v] (cK v).cs.toArray (.row (cK v).cs 44 30) rfl (λv hv=>by simp at hv;subst hv;rfl) (λv hv=>gL.flat _ v hv) k_ rfl d_ d_ k_,.qH f112 22 9 6 j 1 (j+1) 44 30 360 (aV acc) 8 (.row (cK v).cs 44 30) (aV (acc++[v])) rfl rfl rfl hc (by rw[<-Qs];congr 1) (gL.one _) d_ (by simp[maxLen];omega) o_ k_,.sum 23 j 1 (j+1) rfl o_]
theorem aU1(hL:∀ x∈L,x<vs.length)(h63:L.length<1000000):
  ai prog Bs 25 (.block 0 (ah f112 0)) (gZ 6 [none] (R5 (kf L).length 0)) (E2 np vs L++dY [none] (nQ [])) 6 ⟨.normal,[(5,sl 6 (kf L).length)],E2 np vs L++marks 6 (nQ (kN vs L)),7⟩:=by
 have hlen:(kf L).length=L.length:=eH ..
 have:=rJ (P:=prog) (B:=Bs) (N:=25) (b:=aJ (ah f112 0)) (next:=6) (p:=1) (r:=⟨.exit 0,[(5,sl 6 (kf L).length)],E2 np vs L++marks 6 (nQ (kN vs L)),7⟩) (kf L).length
  (λj=>R5 (kf L).length j) (λ_=>E2 np vs L) (λj=>nQ (kN vs (L.take j))) [none] (λ_ _=>rfl) (λj _=>⟨aUZ,We⟩) k_ k_
  (λj hj=>by
   have gM:j<L.length:=by omega
   have hq:L[j]?=some L[j]:=bo gM;have hz:(kf L)[j]?=some ((L[j]:Nat):Int):=by unfold kf;rw[vi,hq];rfl
   have e:kN vs (L.take (j+1))=kN vs (L.take j)++[aA vs L[j]]:=by unfold kN;rw[vS,hq,vf];rfl
   rw[e];exact⟨[some 9],10,k_,aU0 (Bs:=Bs) hj hz (kJ (hL _ (dB gM))) (by unfold kN;rw[eH,jH];omega) o_⟩)
  (by rw[show L.take (kf L).length=L from kT o_];generalize kN vs L=a;exact aE [.lt 12 (kf L).length (kf L).length false s_]) n_
 exact cd (id:=0) this
theorem aU2{F:Fact}{i:Int}(hu:u=iV i)(hL:∀ x∈L,x<vs.length)(h63:L.length<1000000)(jZ:xp.all flat=true)(hF:F.rc=false):
  lV prog 112 [.s np xp vs.length (aV vs) F,.c u (jG (kf L))] 44 30 (kf L).length (aV (kN vs L)):=by
 subst hu;have aC:([aR.s np xp vs.length (aV vs) F,.c (iV i) (jG (kf L))].all aR.ok)=true:=by
  have e:(aR.s np xp vs.length (aV vs) F).ok=true:=by show(xp.all flat&&((aV vs).all flat&&!F.rc))=true;rw[jZ,ee,hF];rfl
  simp only[dL,eX,e,kF,iJ];rfl
 have lo:=λBs=>aU1 (Bs:=Bs) (np:=np) hL h63;have hlen:(aV (kN vs L)).length=(kf L).length*30:=by rw[rZ];unfold kN kf;rw[eH,eH]
 generalize kN vs L=a at *;exact yo (k:=6) mixed func112 aC 100 (N:=25) k_ (λ_=>[.step 10 (aw f112 10) [eg 3] [(3,some (.fact (jG (kf L))))] (vI (kf L).length) [] (Hq k_),.code 0 _ _ _ _ _ (lo _)]) (λ_=>k_) (ee a) hlen
end
theorem Ra{u v t:V3 K}{n:Nat}(hu:aI m u)(hv:aI n v)(ht:aI q t)(cN:3*m+6*(n+q)+50<aD):aF prog 59 [bZ u,bZ v,bZ t] (bI (aW u v t)):=
 aN func59 (λ_=>[(vP hv ht o_).at 10,(uB hu (hv.af ht) o_).at 11])
end
end Go.Proofs.YtmocejjfkdcgkaaGreatDoor
