/- Centroid and extent of solids: the proof of MeasureInsideCardSaid (the law's function answers true at every record and every direction it can be given; theorem measureInside_card, last part), part 5 of 7; no condition. -/
import Derived.Test.YtgpahigmalfpdaaGreatDoorIC4
namespace Go.Proofs.YtgpahigmalfpdaaGreatDoor
open Go Go.RowKit Tryz
variable{i k a b j e off N cc cap n2 len np n1 A U nv:Nat}{w w':h_}{ι:Map}{o:Oper}{c:g_}{B Bs:aa}{f:FuncId}{t:Bool}{x:K}{ps:c_}{fr:aU}{M Os cA:aL}{ty:TypeId}{xs cells' e6 pre post xp:al}{α β:Type}{fn:Func}{l:List aQ}{u va res:i_}{fs:f_}{P:j_}{z:Int}{acc:e_}{ks:List (Value×al)}{f':Int×List Int}
theorem pd.one{cs:al}(h:pd w fs cs):∀ v∈cs,v.oneCell'=true:=by
 induction h with
 |nil=>intro v hv;cases hv
 |cons h1 _ _ ih=>
  intro v hv;rcases cE.1 hv with rfl|hv
  ·rfl
  rcases cE.1 hv with rfl|hv
  ·rcases h1 with ⟨e,_⟩|⟨_,_,_,e,_⟩<;>rw[e]<;>rfl
  ·exact ih v hv
structure Bm(B:aa)(fs:f_)(ks:List (Value×al))(cs:al):Prop where
 flat:∀ v∈cs,Go.Proofs.YtgpahigmalfpdaaGreatDoor.flat v=true
 cells:∀ w,(∀ p∈ks,dr w p.1 p.2.length p.2)->pd w fs cs
 slice:∀ v∈cs,∀ b,jg v=some b->¬B.cY b
theorem Bm.nil{B:aa}:Bm B [] [] []:=⟨λv h=>(by cases h),λw _=>.nil,λv h=>(by cases h)⟩
theorem Bm.snoc{cells:al}(h:Bm B fs ks cells){l:l_}(hu:Go.Proofs.YtgpahigmalfpdaaGreatDoor.flat u=true)(hb:∀ b,jg u=some b->¬B.cY b):
  Bm B (fs++[dS (i,l)]) ((u,aw l)::ks) (cells++[vI i,u]):=by
 refine⟨λv hv=>?_,λw hw=>?_,λv hv b ue=>?_⟩
 ·rcases fh.1 hv with hv|hv
  ·exact h.flat v hv
  ·simp at hv;rcases hv with rfl|rfl
   ·rfl
   ·exact hu
 ·have h1:=h.cells w λp hp=>hw p (bK _ hp);have h2:=hw (u,aw l) (aR ..);have h2:dr w u (aw l).length (aw l):=h2;rw[aOF]at h2;have e:(fY (l.map λx:Nat=>(x:Int))).length=(l.map λx:Nat=>(x:Int)).length:=by simp[fY]
  rw[e]at h2;exact h1.snoc (i:=(i:Int)) h2 hu
 ·rcases fh.1 hv with hv|hv
  ·exact h.slice v hv b ue
  ·simp at hv;rcases hv with rfl|rfl
   ·cases ue
   ·exact hb b ue
theorem Bm.out{cells:al}(h:Bm B fs ks cells){v:i_}(hm:aO (B.jU ks) ι c w)(hk:c k=some (.row cells ty 2))(hc:aM ι (.slice (some ⟨k,0,some 7⟩) fs.length 0) v):
  CK w v (jC fs)/\∀ b,(jC fs).cY v w b->¬B.cY b:=by
 have hf:=h.cells w hm.base.2;have hl:=hf.length;have hr:=pA (len:=fs.length*2) hm hk rfl h.flat (λe=>by rw[e]) hc;have hr:dr w v fs.length cells:=by
  have e:((Obj.row cells ty 2).cells.drop 0).take (fs.length*2)=cells:=by rw[nk];exact lh (wG hl)
  rwa[e]at hr
 have jO:Mq w v fs:=⟨cells,hr,hf⟩;have own:∀ b,jg v=some b->¬B.cY b:=by
  intro b hb hF;rcases hc.iM rfl with ⟨_,_,_,_,q5⟩|⟨b',oo,cap,c',q1,_,_,q5⟩
  ·rw[q5]at hb;cases hb
  ·rw[q5]at hb;injection hb with hb;subst hb;exact(hm.own k _ b' oo cap hk rfl q1).2 (.inl hF)
 refine⟨⟨jO,?_,?_⟩,λb hF=>?_⟩
 ·rcases hr with ⟨e,_⟩|⟨_,_,_,e,_⟩<;>rw[e]<;>rfl
 ·rcases hr with ⟨e,_⟩|⟨_,_,_,e,_⟩<;>rw[e]<;>rfl
 ·rcases hF with hF|⟨b',o,c',j,u,e,hj,lW,hb⟩
  ·exact own b hF
  ·have hu:=QU hr hf e hj lW;exact h.slice u hu b hb
section
variable{ps:c_}{vs:e_}
noncomputable def fC0:Code:=A8 (fC f120)
noncomputable def fC1:Code:=A8 (xu (fC f120))
noncomputable def fC2:Code:=A8 (A8 (xu (xu (fC f120))))
noncomputable def fC3:Code:=A8 (xu (xu (xu (fC f120))))
theorem aSb:(f120).body=some (.seq fC0 (.seq fC1 (.seq (.seq fC2 (.block 0 (.loop (aK (ai f120 0))))) (.seq fC3 .ret)))):=k_
theorem X3{cells:al}(cV:∀ v∈cells,flat v=true)(r:List (Nat×Nat)):∀ p∈fM ps vs cells,Js r p.2:=λp hp=>by
 simp only[fM,cE,jR,jS]at hp;rcases hp with rfl|rfl|rfl
 ·exact λv hv=>bC.1 (dp ps) v hv
 ·exact λv hv=>bC.1 (dR vs) v hv
 ·exact cV
def RF(B:aa)(ps:c_)(vs:e_)(i:Nat)(a:Act)(w:h_):Prop:=
 ∃ ks cells,Bm B ((da ps vs i).map dS) ks cells/\St (B.jU ks) 59 (fI ps.length vs.length i (da ps vs i).length) (fM ps vs cells) 3 a w
theorem aFR{cells:al}{fs:List (Nat×List Nat)}{next:Nat}{a:Act}(h:Bm B (fs.map dS) ks cells)(hs:St (B.jU ks) N fr M next a w):cells.length=fs.length*2/\∀ v∈cells,v.oneCell'=true:=by obtain⟨ι,cc,_,h2,_,_⟩:=hs;have:=h.cells w h2.base.2;exact⟨by rw[this.length,eO],this.one⟩
theorem aSc{m q:Nat}(r5:∀ k,B.mp k=none)(hi:i<ps.length)(cq:∀ p∈ps,bP m p/\p.n≠0)(aW:∀ v∈vs,aD q v)(hm:100*(m+q)+1000<=aF)(h63:ps.length<=500)(jh:vs.length<900000){a:Act}(h:RF B ps vs i a w)
  (K:Act->World->Prop) (Q:Exit->Act->World->Prop) (hK:∀ a' w',RF B ps vs (i+1) a' w'->K a' w'):(aK (ai f120 0)).wpIn (FW none) 0 prog (Exit.then K Q) a w:=by
 obtain⟨ks,cells,hF,hS⟩:=h;have jB:ps[i]?=some ps[i]:=bt hi;have mI:gn ps vs i=qB ps vs i ps[i]:=by unfold gn;rw[jB]
 obtain⟨iN,Fu⟩:=aFR hF hS;have Na:(da ps vs i).length<=500:=by have:=JN ps vs i;omega
 have stay:gn ps vs i=[]->∀ next a' w',St (B.jU ks) 59 (fI ps.length vs.length (i+1) (da ps vs i).length) (fM ps vs cells) next a' w'->K a' w':=by
  intro he next a' w' h';have e:da ps vs (i+1)=da ps vs i:=by rw[M8,he,jZ]
  refine hK a' w' ⟨ks,cells,by rw[e];exact hF,?_⟩;rw[e];exact h'.Mv r5 [(0,0),(1,1),(2,2)] k_ rfl (X3 hF.flat _) k_ k_ k_ k_ k_
 by_cases sQ:lC ps i ps[i]=true
 ·have he:gn ps vs i=[]:=by rw[mI];unfold qB;rw[aA (show(ps.take i).any (λq=>decide (canon ps[i]=canon q))=true from sQ)]
  exact rE (aR7 hi jB cq o_ h63 sQ) hS λa' w' h'=>stay he _ a' w' h'
 ·have JO:lC ps i ps[i]=false:=by simpa using sQ
  by_cases ho:(bZ ps[i] vs vs.length).length<3
  ·have he:gn ps vs i=[]:=by rw[mI];unfold qB;rw[au (show ¬(ps.take i).any (λq=>decide (canon ps[i]=canon q))=true from sQ),aA ho]
   exact rE (aR8 hi jB cq aW hm h63 jh JO ho) hS λa' w' h'=>stay he _ a' w' h'
  ·by_cases hl:(order ps[i].n (af vs) (bZ ps[i] vs vs.length)).length>2
   ·have he:gn ps vs i=[(i,order ps[i].n (af vs) (bZ ps[i] vs vs.length))]:=by rw[mI];unfold qB;rw[au (show ¬(ps.take i).any (λq=>decide (canon ps[i]=canon q))=true from sQ),au ho,aA hl]
    refine rE (aSa hi jB cq aW hm h63 jh JO ho hl iN Na Fu) hS λa' w' h'=>?_;show K a' w';obtain⟨u,hu,vU,h2⟩:=h'.Q2 (m:=5) (k:=7) rfl (iU _) rfl d_;have e:da ps vs (i+1)=da ps vs i++[(i,order ps[i].n (af vs) (bZ ps[i] vs vs.length))]:=by rw[M8,he]
    have w9:=hF.snoc (i:=i) (l:=order ps[i].n (af vs) (bZ ps[i] vs vs.length)) hu vU;refine hK a' w' ⟨_,cells++[vI i,u],by rw[e,vA];exact w9,?_⟩;rw[e,lH];have cV:=w9.flat;generalize cells++[vI i,u]=cells' at *;exact h2.Mv r5 [(0,0),(1,1),(2,7)] k_ rfl (X3 cV _) k_ k_ k_ k_ k_
   ·have he:gn ps vs i=[]:=by rw[mI];unfold qB;rw[au (show ¬(ps.take i).any (λq=>decide (canon ps[i]=canon q))=true from sQ),au ho,au hl]
    exact rE (aR9 hi jB cq aW hm h63 jh JO ho hl) hS λa' w' h'=>stay he _ a' w' h'
theorem aSd{m q:Nat}(cq:∀ p∈ps,bP m p/\p.n≠0)(aW:∀ v∈vs,aD q v)(hm:100*(m+q)+1000<=aF)(h63:ps.length<=500)(jh:vs.length<900000):
  aD8 prog 120 [gm ps,wj vs] (jC ((da ps vs ps.length).map dS)):=by
 intro w args cy;have aC:([gm ps,wj vs].all aQ.ok)=true:=by simp only[eA,e8,XW,aFA,A3]
 obtain⟨ι,c,h1,h2,h3,h4,h5,h6,h7⟩:=yJ cy (bC.1 aC) 0 _ _ (uE w) n_ (λ_ _=>rfl);have r5:∀ k,(aa.at w).mp k=none:=λ_=>rfl;refine aD3 (N:=59) (B:=(aa.at w).jU []) func120 aSb k_ h6 (aDW h2) h4 h3 rfl λa bW=>?_;have g0:∀ B:aa,ah prog B 59 fC0 (jb 0 (eY 0 [gm ps,wj vs])) (jq 0 [gm ps,wj vs]) 2 ⟨.normal,[(0,sl 0 ps.length),(1,sl 1 vs.length)],[(0,.view (bf ps)),(1,.view (aP vs))],2⟩:=λB=>aG [];have g1:∀ B:aa,ah prog B 59 fC1 [(0,sl 0 ps.length),(1,sl 1 vs.length)] [(0,.view (bf ps)),(1,.view (aP vs))] 2 ⟨.normal,[(5,.slice none 0 0),(0,sl 0 ps.length),(1,sl 1 vs.length)],[(0,.view (bf ps)),(1,.view (aP vs))],2⟩:=λB=>aG []
 have g2:∀ B:aa,ah prog B 59 fC2 [(5,.slice none 0 0),(0,sl 0 ps.length),(1,sl 1 vs.length)] [(0,.view (bf ps)),(1,.view (aP vs))] 2
   ⟨.normal,[(14,vI 0),(12,sl 0 ps.length),(13,vI ps.length),(0,sl 0 ps.length),(1,sl 1 vs.length),(5,.slice none 0 0)],[(0,.view (bf ps)),(1,.view (aP vs))],2⟩:=λB=>aG []
 refine kY (rE (g0 _) bW λa1 w1 s1=>?_);refine kY (rE (g1 _) s1 λa2 w2 s2=>?_);refine kY (kY (rE (g2 _) s2 λa3 w3 s3=>?_));refine H4 ?_;have i0:RF (aa.at w) ps vs 0 a3 w3:=⟨[],[],.nil,(s3.nil 5 rfl 86 2).Mv r5 [(0,0),(1,1),(2,2)] k_ rfl (X3 n_ _) k_ k_ k_ k_ k_⟩;refine aD1 ps.length (RF (aa.at w) ps vs) i0 (λi hi a' w' h' K hK=>aSc r5 hi cq aW hm h63 jh h' K _ hK) λa' w' h'=>?_;obtain⟨ks,cells,hF,hS⟩:=h';refine rE (r:=⟨.exit 0,[(5,sl 2 (da ps vs ps.length).length)],[(2,.row cells 86 2)],3⟩) (aG [.lt 15 ps.length ps.length false s_]) hS λa4 w4 s4=>?_;show Code.wpIn _ _ _ _ _ _ _;refine kY (rE (r:=⟨.normal,[(4,sl 2 (da ps vs ps.length).length)],[(2,.row cells 86 2)],3⟩) (aG []) s4 λa5 w5 s5=>?_);refine wpIn_ret ?_;refine(aD4 s5 rfl (v:=sl 2 (da ps vs ps.length).length) k_ λaB cr v' bJ Dd hc=>⟨v',rfl,?_,?_,bJ.base.1⟩).1
 ·rw[show(da ps vs ps.length).length=((da ps vs ps.length).map dS).length by rw[eO]]at hc;exact(hF.out bJ (Dd 2 _ rfl) hc).1
 ·rw[show(da ps vs ps.length).length=((da ps vs ps.length).map dS).length by rw[eO]]at hc;intro b hb;have:=(hF.out bJ (Dd 2 _ rfl) hc).2 b hb;exact P3 this
end
section
open V3 (dot ag aN smul)
section
variable{Bs:aa}{g:FuncId}{ps:List RP}{b:RP->Bool}
def Bn(g:FuncId):Value:=.func (.func g) #[] #[]
def Bo(g:FuncId)(n i:Nat):aU:=[(8,vI i),(6,sl 0 n),(7,vI n),(0,sl 0 n),(1,Bn g)]
def vj(ps:List RP):aL:=[(0,.view (dx ps))]
noncomputable def igS{p:RP}{b:Bool}(hc:gW prog g=true)(hi:i<ps.length)(hp:ps[i]?=some p)(h:aH prog g [p.v] (.bool b))(more:bN prog Bs 19):bN prog Bs 19:=
 .lt 9 i ps.length true (aJ hi)::.di f148 14 0 ps.length i 40 hi k_::.ld f148 15 73 0 (i*40) (.view (dx ps)) p.v rfl (xl hp) k_::
  .step 16 (az f148 16) [Bn g,p.v] [] (.bool b) [] (dJ (l:=[.p p.v]) (x:=.tmp 11) (λw vs cy=>by
   cases cy with
   |cons h1 h2=>
    cases h2;cases h1;exact h w) (.p rfl .nil) k_ hc rfl)::more
theorem aSe{p:RP}(hc:gW prog g=true)(hi:i<ps.length)(hp:ps[i]?=some p)(h:aH prog g [p.v] a_)(h63:ps.length<9223372036854775807):
  ah prog Bs 19 (aK (ai f148 0)) (Bo g ps.length i) (vj ps) 1 ⟨.normal,Bo g ps.length (i+1),vj ps,1⟩:=
 aG (igS hc hi hp h [.sum 18 i 1 (i+1) rfl o_])
theorem aSf{p:RP}(hc:gW prog g=true)(hi:i<ps.length)(hp:ps[i]?=some p)(h:aH prog g [p.v] b_):
  ah prog Bs 19 (aK (ai f148 0)) (Bo g ps.length i) (vj ps) 1 ⟨.ret,[(4,vI i)],vj ps,1⟩:=
 aG (igS hc hi hp h [])
theorem aSg:ah prog Bs 19 (aK (ai f148 0)) (Bo g ps.length ps.length) (vj ps) 1 ⟨.exit 0,[],vj ps,1⟩:=
 aG [.lt 9 ps.length ps.length false s_]
theorem aFS(ps:List RP):(aQ.r ps.length (dx ps)).ok=true:=jf j6 ps
theorem aFT(g:FuncId):(aQ.p (Bn g)).ok=true:=rfl
theorem aSh{ps:List RP}(h:ps.length=0):dx ps=[]:=by rw[lG h];rfl
theorem aSi(hc:gW prog g=true)(h63:ps.length<9223372036854775807)(h:∀ p∈ps,aH prog g [p.v] (.bool (b p))):cx prog 148 [.r ps.length (dx ps),.p (Bn g)] (.int .i64 (yQ b ps 0)):=by
 have aC:([aQ.r ps.length (dx ps),.p (Bn g)].all aQ.ok)=true:=by simp only[eA,e8,aFS,aFT,A3]
 have rz:∀(B:aa) e,e<=ps.length->(∀ j y,j<e->ps[j]?=some y->b y=false)->∀ i,i<e->ah prog B 19 (aK (ai f148 0)) (Bo g ps.length i) (vj ps) 1 ⟨.normal,Bo g ps.length (i+1),vj ps,1⟩:=λB e he hb i hi=>by
  have ao:i<ps.length:=by omega
  have hp:ps[i]?=some ps[i]:=bt ao;have hh:=h ps[i] (dy ao);rw[hb i ps[i] hi hp]at hh;exact aSe hc ao hp hh h63
 rcases G3 b ps with hn|⟨e,x,h1,h2,h3⟩
 ·rw[QB 0 hn];have lo:∀ B:aa,ah prog B 19 (.block 0 (ai f148 0)) (Bo g ps.length 0) (vj ps) 1 ⟨.normal,[],vj ps,1⟩:=λB=>
   cg (id:=0) (cz ps.length (λi=>Bo g ps.length i) (λ_=>vj ps) (λi k _=>Iff.rfl) (rz B ps.length (bF _) λj y _ hy=>hn y (cM hy)) aSg n_)
  exact dF func148 aC 19 (λw=>[.code 0 _ _ _ _ _ (lo _)])
 ·have ao:=(eP.1 h1).1;have hh:=h x (cM h1);rw[h2]at hh;rw[QC 0 h1 h2 h3,kT];have lo:∀ B:aa,ah prog B 19 (.block 0 (ai f148 0)) (Bo g ps.length 0) (vj ps) 1 ⟨.ret,[(4,vI e)],vj ps,1⟩:=λB=>
   cg (id:=0) (cz e (λi=>Bo g ps.length i) (λ_=>vj ps) (λi k _=>Iff.rfl) (rz B e o_ h3) (aSf hc ao h1 hh) n_)
  exact dF func148 aC 19 (λw=>[.code 0 _ _ _ _ _ (lo _)])
theorem aSj(hc:gW prog g=true)(h63:ps.length<9223372036854775807)(h:∀ p∈ps,aH prog g [p.v] (.bool (b p))):cx prog 113 [.r ps.length (dx ps),.p (Bn g)] (.bool (ps.any b)):=by
 have aC:([aQ.r ps.length (dx ps),.p (Bn g)].all aQ.ok)=true:=by simp only[eA,e8,aFS,aFT,A3]
 rw[<-aDt];exact dF func113 aC 9 (λw=>[.step 7 (az f113 7) [.func (.func 148) #[] #[],sl 0 ps.length,Bn g] [(0,some (.view (dx ps)))] (.int .i64 (yQ b ps 0)) []
  (dJ (aSi hc h63 h) (.w (x:=.view (dx ps)) rfl (jf j6 ps) aSh (.p rfl .nil)) (x:=.func 148) k_ k_ rfl)])
end
theorem aSk{r:RP}{b:Bool}(h:aH prog 115 [r.v] (.bool b)):aH prog 114 [r.v] (.bool (!b)):=bI func114 (λ_=>[h.at 4])
section
variable{F:Type}[OF F]
open OF
def Nb(s:fG F)(a b:F):fG F:=
 if OF.aE a=0 then s
 else if OF.aE a>0 then(match s.hi with|some h=>if OF.aE (b*a⁻¹-h)<0 then⟨s.lo,some (b*a⁻¹)⟩else s|none=>⟨s.lo,some (b*a⁻¹)⟩)
 else(match s.lo with|some l=>if OF.aE (b*a⁻¹-l)>0 then⟨some (b*a⁻¹),s.hi⟩else s|none=>⟨some (b*a⁻¹),s.hi⟩)
def RG(s:fG F):Bool:=match s.lo,s.hi with
 |some l,some h=>decide (OF.aE (l-h)<0)
 |_,_=>true
def RH(s:fG F)(a b:F):Bool:=if OF.aE a=0 then decide (OF.aE b>=0)else RG (Nb s a b)
theorem aFU{x:F}:OF.aE x>0↔OF.aE x=1:=by rcases OF.iJ x with h|h|h<;>rw[h]<;>decide
theorem aFV{x:F}:OF.aE x<0↔OF.aE x=-1:=by rcases OF.iJ x with h|h|h<;>rw[h]<;>decide
theorem aSl{x:F}:OF.aE x>=0↔OF.aE x≠-1:=by rcases OF.iJ x with h|h|h<;>rw[h]<;>decide
theorem RJ{x y:F}:OF.aE (x-y)<0↔x<y:=by rw[aFV,OF.AA,OF.lt_def];omega
theorem aFW{x y:F}:OF.aE (x-y)>0↔y<x:=by rw[aFU,OF.lt_def]
theorem RK{x:F}:OF.aE x>0↔0<x:=by rw[aFU,OF.gj]
theorem RL{x:F}:OF.aE x>=0↔0<=x:=by rw[aSl,OF.Lk]
theorem aSm(s:fG F)(a b:F):CT s a b=if RH s a b then some (Nb s a b)else none:=by
 unfold CT RH Nb;by_cases ha:OF.aE a=0
 ·rw[aA ha,aA ha,aA ha];by_cases hb:0<=b
  ·rw[aA hb,aJ (RL.2 hb)];rfl
  ·rw[au hb,aY (λh=>hb (RL.1 h))];rfl
 ·rw[au ha,au ha,au ha];obtain⟨lo,hi⟩:=s;dsimp only;generalize b*a⁻¹=t;have fin:∀ s':fG F,(match s'.lo,s'.hi with|some l,some h=>if l<h then some s' else none|_,_=>some s')=if RG s'=true then some s' else none:=by
   rintro⟨l,h⟩
   unfold RG;cases l with
   |none=>rfl
   |some l=>
    cases h with
    |none=>rfl
    |some h=>
     dsimp only;by_cases ao:l<h
     ·exact(aA ao).trans (aA (aJ (RJ.2 ao))).symm
     ·exact(au ao).trans (au (λh=>ao (RJ.1 (jN h)))).symm
  by_cases hp:0<a
  ·rw[aA hp,aA (RK.2 hp)];cases hi with
   |none=>exact fin ⟨lo,some t⟩
   |some h=>
    dsimp only;by_cases ao:t<h
    ·simp only[aA ao,aA (RJ.2 ao)];exact fin ⟨lo,some t⟩
    ·simp only[au ao,au (λe=>ao (RJ.1 e))];exact fin ⟨lo,some h⟩
  ·rw[au hp,au (λe=>hp (RK.1 e))];cases lo with
   |none=>exact fin ⟨some t,hi⟩
   |some l=>
    dsimp only;by_cases ao:l<t
    ·simp only[aA ao,aA (aFW.2 ao)];exact fin ⟨some t,hi⟩
    ·simp only[au ao,au (λe=>ao (aFW.1 e))];exact fin ⟨some l,hi⟩
end
theorem aSn(s:fG K)(a b:K):CT s a b=if tT s a b then some (sF s a b)else none:=by
 have h1:∀ s:fG K,aDx s=RG s:=λs=>by obtain⟨lo,hi⟩:=s;cases lo<;>cases hi<;>rfl
 have h2:sF s a b=Nb s a b:=by unfold sF Nb;obtain⟨lo,hi⟩:=s;cases lo<;>cases hi<;>rfl
 have h3:tT s a b=RH s a b:=by unfold tT RH;rw[h2,h1]
 rw[h2,h3];exact aSm s a b
theorem aFX(b d:V3 K):∀(l:c_) (s:fG K),GY s (l.map λp=>(dot p.n d,p.d-dot p.n b))=if xn s b d l then some (pc s b d l)else none
 |[],s=>rfl
 |p::l,s=>by
  show(CT s (dot p.n d) (p.d-dot p.n b)).bind _=_;rw[aSn];unfold xn pc;by_cases h:tT s (dot p.n d) (p.d-dot p.n b)=true
  ·rw[aA h,h,kp];exact aFX b d l _
  ·rw[au h];have:tT s (dot p.n d) (p.d-dot p.n b)=false:=by simpa using h
   rw[this,An];rfl
theorem aFY(p q:HS K):xm p q=nA p q:=by unfold xm nA eL;rw[show kI 1*(dot (ag p.n q.n) (ag p.n q.n))⁻¹=(dot (ag p.n q.n) (ag p.n q.n))⁻¹ from CR.one_mul _]
theorem aFZ(p q:HS K):eL p q≠0->dot (eL p q) (eL p q)≠0:=λh=>V3.AP h
theorem aSo(ps:c_)(p q:HS K):G6 ps p q=AY ps p q:=by
 unfold G6 AY;have hd:eL p q=ag p.n q.n:=rfl;rw[aFY];dsimp only;by_cases h0:eL p q=0
 ·rw[aA h0,aA ((Ql (ag p.n q.n)).2 h0)]
 ·rw[au h0,au (λh=>h0 ((Ql (ag p.n q.n)).1 h))];rw[aFX];unfold Mj;rw[aFY,hd];by_cases hs:xn ⟨none,none⟩ (nA p q) (ag p.n q.n) ps=true
  ·rw[aA hs,aA hs];generalize pc ⟨none,none⟩ (nA p q) (ag p.n q.n) ps=s;obtain⟨lo,hi⟩:=s;cases lo<;>cases hi<;>rfl
  ·rw[au hs,au hs]
theorem X4{p q:HS K}{v:V3 K}:v∈sG ps p q↔∃ u w,AY ps p q=some (u,w)/\(v=u\/v=w):=by
 unfold sG;rw[aSo];cases h:AY ps p q with
 |none=>simp
 |some uw=>
  obtain⟨u,w⟩:=uw;simp only[cE,jR,jS];exact⟨λhv=>⟨u,w,rfl,hv⟩,λ⟨u',w',e,hv⟩=>by injection e with e;injection e with e1 e2;subst e1;subst e2;exact hv⟩
theorem aSp{v:V3 K}:v∈nW ps ps.length↔∃(i j:Nat) (p q:HS K),j<i/\ps[i]?=some p/\ps[j]?=some q/\v∈sG ps p q:=by
 unfold nW;rw[xk];constructor
 ·rintro⟨i,hi,hv⟩
  have ao:=kh.1 hi;have hp:ps[i]?=some ps[i]:=bt ao;rw[QO hp]at hv;unfold mC at hv;obtain⟨q,hq,hv⟩:=xk.1 hv;obtain⟨j,hj,rfl⟩:=lA hq;rw[jV]at hj;refine⟨i,j,_,_,by omega,hp,?_,hv⟩;rw[RM];exact bt o_
 ·rintro⟨i,j,p,q,mJ,hp,hq,hv⟩
  have ao:=(eP.1 hp).1;refine⟨i,kh.2 ao,?_⟩;rw[QO hp];refine xk.2 ⟨q,?_,hv⟩;exact cM (i:=j) (by rw[vx,aA mJ];exact hq)
theorem aSq(hc:Cl ps)(hp:fE ps)(hf:∀ v:V3 K,∃ x,ep ps x/\x≠v)(v:V3 K):v∈nW ps ps.length↔kz ps v:=by
 rw[aSp];constructor
 ·rintro⟨i,j,p,q,_,h1,h2,hv⟩
  obtain⟨u,w,he,hv⟩:=X4.1 hv;have:=aM4 (cM h1) (cM h2) he;rcases hv with rfl|rfl
  ·exact this.1
  ·exact this.2
 ·intro hv;obtain⟨x,hx,bB⟩:=hf v;obtain⟨p,jk,q,Cw,hd,h1,h2⟩:=aM6 hc hp hv hx bB;obtain⟨i,hi,rfl⟩:=lA jk;obtain⟨j,hj,rfl⟩:=lA Cw;rcases uf i j with h|h|h
  ·exact⟨j,i,_,_,h,bt hj,bt hi,X4.2 h2⟩
  ·subst h;exfalso;apply hd;exact V3.LN _
  ·exact⟨i,j,_,_,h,bt hi,bt hj,X4.2 h1⟩
def xA:Value:=.agg #[.slice none 0 0,.slice none 0 0,.slice none 0 0]
def gT(n:Int):Value:=.int .i64 n
def lD(ps:c_):f_:=(da ps (bh ps) ps.length).map dS
structure zt(ps:c_)(m:Nat):Prop where
 len:ps.length<=20
 sz:∀ p∈ps,bP m p
 ne:∀ p∈ps,p.n≠0
 bound:1000000000*(m+10)<=aF
theorem Nc(ps:c_)(h:ps.length<=20):(bh ps).length<=800:=by
 have h1:(bh ps).length<=(nW ps ps.length).length:=by
  unfold bh;rw[<-aFu];have:∀ l:e_,(dd l).length<=l.length:=λl=>by have:=(Rx l l.length).2;unfold jE at this;rwa[oD]at this
  exact dq (this _) (wG (M4 _).length_eq)
 have h2:=QP ps.length (bF _) (ps:=ps);have h3:ps.length*(2*ps.length)<=20*40:=yf h o_;omega
theorem RO{m:Nat}(cq:∀ p∈ps,bP m p):∀ v∈bh ps,aD (10000*(m+10)) v:=λv hv=>by unfold bh at hv;rw[Wn]at hv;exact aFv cq aFZ ps.length v hv
theorem Hv{m n:Nat}(hm:1000000000*(m+10)<=aF)(hn:n<=800):100*(m+n*(10000*(m+10)+1))+10000<=aF/\10000000*(m+10)<=aF/\100*(m+10000*(m+10))+1000<=aF/\m<=aF/\100*m+1000<=aF:=by
 have h0:m<=1089:=by
  rcases fo m 1090 with h|h
  ·exact Nat.le_of_lt_succ h
  ·have h2:1000000000*(1090+10)<=1000000000*(m+10):=jY _ (Nd h 10);exact absurd (dq h2 hm) d_
 clear hm;have q:10000*(m+10)+1<=10990001:=by omega
 obtain⟨x,hx⟩:∃ x,x=n*(10000*(m+10)+1):=⟨_,rfl⟩;have h1:x<=8792000800:=by rw[hx];exact yf hn q
 rw[<-hx];clear hx;have h2:100*(m+x)+10000<=100*(1089+8792000800)+10000:=Nd (jY _ (Lw h0 h1)) _;have h6:m+10<=1099:=Nd h0 10;have h3:10000000*(m+10)<=10000000*1099:=jY _ h6;have h4:100*(m+10000*(m+10))+1000<=100*(1089+10000*1099)+1000:=Nd (jY _ (Lw h0 (jY _ h6))) _;have h5:100*m+1000<=100*1089+1000:=Nd (jY _ h0) _;exact⟨dq h2 (sY rfl),dq h3 (sY rfl),dq h4 (sY rfl),dq h0 (sY rfl),dq h5 (sY rfl)⟩
theorem aF0{it:TypeInfo}{z:i_}(h1:prog.info? 26=some it)(h2:it.zero=some z):∀ v∈z.cells.toList,flat v=true:=by have e:(prog.info? 26).bind (·.zero)=some xA:=k_;rw[h1]at e;have e:it.zero=some xA:=e;rw[h2]at e;injection e with e;subst e;intro v hv;have hv:v∈[.slice none 0 0,.slice none 0 0,.slice none 0 0]:=hv;simp at hv;subst hv;rfl
section
variable{ps:c_}{m:Nat}
theorem aSr(h:zt ps m):cx prog 113 [gm ps,.p (Bn 114)] a_:=by
 obtain⟨_,_,_,b4,_⟩:=Hv (n:=0) h.bound o_;have hc:=aSj (g:=114) (ps:=ps.map db) (b:=λ_=>false) k_ (by rw[eO];have:=h.len;omega) (λr hr=>by obtain⟨p,hp,rfl⟩:=df.1 hr;have hv:=CW (h.sz p hp) b4;rw[aJ (h.ne p hp)]at hv;exact aSk hv)
 rw[eO,show(ps.map db).any (λ_=>false)=false by simp]at hc;exact hc
theorem E4(ps:c_):([gm ps].all aQ.ok)=true:=by simp only[eA,e8,XW,A3]
noncomputable def X5(h:zt ps m)(ht:u4 ps=t)(more:bN prog Bs 33):bN prog Bs 33:=
 .step 7 (az f62 7) [.func (.func 113) #[] #[],sl 0 ps.length,Bn 114] [(0,some (.view (bf ps)))] a_ []
  (dJ (aSr h) (.w (x:=.view (bf ps)) rfl (dp ps) jt (.p rfl .nil)) (x:=.func 113) k_ k_ rfl)::
 .gt 12 ps.length 100 false (aY (by have:=h.len;omega))::
 .step 16 (az f62 16) [.func (.func 116) #[] #[],sl 0 ps.length] [(0,some (.view (bf ps)))] (.bool t) []
  (dJ (ht▸aNJ h.sz (Hv (n:=0) h.bound o_).2.2.2.2 (by have:=h.len;omega)) (.w (x:=.view (bf ps)) rfl (dp ps) jt .nil) (x:=.func 116) k_ k_ rfl)::more
noncomputable def aF1(h:zt ps m)(ht:yT ps (bh ps)=t)(more:bN prog Bs 33):bN prog Bs 33:=
 .step 20 (az f62 20) [.func (.func 117) #[] #[],sl 0 ps.length] [(2,none),(0,some (.view (bf ps)))] (sl 2 (bh ps).length) [(2,.row (aP (bh ps)) 33 30)]
  (sn (aRJ h.sz (Hv (n:=0) h.bound o_).2.1 (by have:=h.len;omega) aFZ) (.w (x:=.view (bf ps)) rfl (dp ps) jt .nil) (x:=.func 117) k_ k_ (dR _) 2)::
 .step 23 (az f62 23) [.func (.func 118) #[] #[],sl 0 ps.length,sl 2 (bh ps).length] [(0,some (.view (bf ps))),(2,some (.row (aP (bh ps)) 33 30))] (.bool t) []
  (dJ (ht▸aN2 (λp hp=>⟨h.sz p hp,h.ne p hp⟩) (RO h.sz) (Hv h.bound (Nc ps h.len)).1 (by have:=Nc ps h.len;omega) (by have:=h.len;omega))
   (.w (x:=.view (bf ps)) rfl (dp ps) jt (.w (x:=.row (aP (bh ps)) 33 30) rfl (dR _) wk .nil)) (x:=.func 118) k_ k_ rfl)::more
theorem aSs(h:zt ps m)(hc:u4 ps=false):cx prog 62 [gm ps] (.tuple #[xA,gT 13]):=
 dF func62 (E4 ps) 33 (λ_=>X5 h hc [])
theorem aSt(h:zt ps m)(hc:u4 ps=true)(hi:yT ps (bh ps)=false):cx prog 62 [gm ps] (.tuple #[xA,gT 12]):=
 dF func62 (E4 ps) 33 (λ_=>X5 h hc (aF1 h hi []))
theorem aSu(hc:u4 ps=true):0<ps.length:=by
 cases ps with
 |nil=>exact absurd hc d_
 |cons p l=>simp
theorem aSv(h:zt ps m)(hc:u4 ps=true)(hi:yT ps (bh ps)=true):
  C3 prog 62 [gm ps] 73 40 ps.length (bf ps) 33 30 (bh ps).length (aP (bh ps)) (jC (lD ps)) [gT 0]:=by
 have hf:=aSd (ps:=ps) (vs:=bh ps) (λp hp=>⟨h.sz p hp,h.ne p hp⟩) (RO h.sz) (Hv (n:=0) h.bound o_).2.2.1 (by have:=h.len;omega) (by have:=Nc ps h.len;omega);have iN:=aRM (aSu hc) (by have:=h.len;omega);refine WW (k1:=3) (k2:=2) (k3:=4) mixed func62 (E4 ps) 100 (N:=33) k_ (λw=>X5 h hc (aF1 h hi [
  .step 27 (az f62 27) [.func (.func 119) #[] #[],sl 0 ps.length] [(3,none),(0,some (.view (bf ps)))] (sl 3 ps.length) [(3,.row (bf ps) 73 40)]
   (sn iN (.w (x:=.view (bf ps)) rfl (dp ps) jt .nil) (x:=.func 119) k_ k_ (dp ps) 3),
  .step 31 (az f62 31) [.func (.func 120) #[] #[],sl 0 ps.length,sl 2 (bh ps).length] [(4,none),(0,some (.view (bf ps))),(2,some (.row (aP (bh ps)) 33 30))] (.pointer (some ⟨4,0,some 9⟩)) [(4,.fact ((jC (lD ps)).nE w.heap.size))]
   (aOI (B:=aa.at w) (S:=w.heap.size) hf (.w (x:=.view (bf ps)) rfl (dp ps) jt (.w (x:=.row (aP (bh ps)) 33 30) rfl (dR _) wk .nil)) (x:=.func 120) k_ k_ rfl (λw' hb=>Below.size hb) 4),
  .step 32 (az f62 32) [sl 3 ps.length,sl 2 (bh ps).length,.pointer (some ⟨4,0,some 9⟩)] [] (.agg #[sl 3 ps.length,sl 2 (bh ps).length,.pointer (some ⟨4,0,some 9⟩)]) [] (QS (t:=26) (idx:=[0,1,2]) k_ (λit z h1 h2=>aF0 h1 h2) k_)])) (λw=>?_) d_ (dp ps) (E1 ps) (dR _) (sH _) k_
 kernel_rfl
end
end
section
variable{P:j_}{B:aa}{N:Nat}
def aZ.RQ(fn:Func)(key k j n m nm e size bytes off cc:Nat)(cells:al)(q:Nat)(x:Obj)(new:al)(kX:n+m=nm)(hx:x.reads=true)(hlen:((x.cells.drop off).take (m*size)).length=m*size)(jI:cells.length=n*size)(lX:cells++(x.cells.drop off).take (m*size)=new)
  (h1:∀ v∈x.cells,v.oneCell'=true) (bL:0<size) (h63:nm<=maxLen) (hb:nm*bytes<=140737488355328) (ho:F6 P (az fn key)=some (e,size,bytes,size,true)):aZ P B N:=
 .step key (az fn key) [.slice (some ⟨j,0,some 7⟩) n 0,.slice (some ⟨q,off,some 7⟩) m cc] [(k,none),(j,some (.row cells e size)),(q,some x)] (.slice (some ⟨k,0,some 7⟩) nm 0) [(k,.row new e size),(j,.dead)] (by subst kX;have hs:Ds B (.slice (some ⟨q,off,some 7⟩) m cc) m ((x.cells.drop off).take (m*size)) [(q,some x)]:=NS (B:=B) (k:=q) (off:=off) (m:=m) (cc:=cc) hx (len:=m*size) (λh=>by rw[h,l9]);have:=aAY (B:=B) ho bL hs hlen (λv hv=>h1 v (XX (Jn hv))) (j:=j) (n:=n) (cells:=cells) (wG jI.symm) h63 hb k;rw[lh (wG jI),lX]at this;exact this)
def aZ.aSw(fn:Func)(key k n s:Nat)(ho:th P (az fn key)=some (true,false,s)):aZ P B N:=
 .step key (az fn key) [.slice (some ⟨k,0,some 7⟩) n 0,vI 0] [] (.slice (some ⟨k,0,some 7⟩) n 0) [] (by have:=H8 (B:=B) ho (k:=k) (off:=0) (n:=n) (cc:=0) (l:=0) (h:=n) n_ (λ_=>rfl) (lY _) (bF _) (.inr rfl);simpa using this)
theorem aSx{s:Nat}(ho:th P o=some (true,false,s)){n:Nat}{x:Obj}(hx:x.kF=true)(j:Nat):
  cI P B o [.slice (some ⟨k,off,some 7⟩) n cc,vI n] [(j,none),(k,some x)] (.slice (some ⟨j,0,some 7⟩) 0 0) [(j,.view [])]:=by
 unfold th at ho;split at ho
 ·rename_i t y lo hi ck;split at ho
  ·rename_i e ht;split at ho
   ·rename_i i fQ;injection ho with ho;injection ho with h1 ho;injection ho with h2 h3;cases lo with
    |none=>cases h1
    |some yl=>
    cases hi with
    |some yh=>cases h2
    |none=>
    refine iY.step λι c ρ w aW hm hn=>?_;have hj:c j=none:=hn (j,none) s_;have hk:c k=some x:=hn (k,some x) s_;rw[ck]at aW;obtain⟨u,u2,hu,hc,du⟩:=jH aW;have dO:ρ y=u:=by simp[Op.operands]at hu;exact hu.1
    have eM:ρ yl=u2:=by simp[Op.operands]at hu;exact hu.2
    have du:=du.fH rfl;have MF:∀ y code,n<=y->(Instr.sliceBound (.int .i64 n) y code).run P w=.ok n w:=by intro y code hq;have:(0:Int)<=n/\(n:Int)<=y:=⟨by omega,by omega⟩;simp[Instr.sliceBound,asIntOf,this]
    rcases hc.iM rfl with ⟨hb,k9,qN,zX,he⟩|⟨b,oo,cap,c',hb,lF,nK,he⟩
    ·refine⟨dT ι j .nil,.slice none 0 0,w,hZ (hm.dD j hj),.slcN (gu _ _ _),hm.add hj (.inl ⟨rfl,rfl⟩) n_ n_ n_,.inl ?_⟩;subst k9;have lO:∀ code,(Instr.sliceBound (.int .i64 0) 0 code).run P w=.ok 0 w:=λcode=>by simp[Instr.sliceBound,asIntOf]
     simp only[execOp,ck];simp[Instr.sliceAt,jX ht,Instr.slice,dO,eM,du,he,vI,Instr.sliceBounds,lO,sizeOf,typeInfo,fQ]
    ·dsimp only at hb he;obtain⟨o1,yk⟩:∃ o1,o1=(if c'=n then oo+off else oo+off+n*i.size):=⟨_,rfl⟩;have hsn:=hm.seen k x b oo cap hk hx hb;refine⟨dT ι j (.at b o1 (c'-n)),.slice (some ⟨b,o1+0,none⟩) 0 (c'-n),w,hZ (hm.dD j hj),.slc (gu _ _ _) (lY _) (kT _),hm.add hj (.inr ⟨b,o1,c'-n,[],rfl,.nil,λj u h=>by simp at h⟩) n_ n_ (λb1 o2 mG _ e=>?_),.inl ?_⟩
     ·injection e with e1 e2 e3;subst e1;exact hsn
     ·simp only[execOp,ck];by_cases iN:c'=n
      ·rw[aA iN]at yk;subst yk;subst iN;simp[Instr.sliceAt,jX ht,Instr.slice,dO,eM,du,he,vI,Instr.sliceBounds,MF c' _ (bF _),sizeOf,typeInfo,fQ]
      ·rw[au iN]at yk;subst yk;simp[Instr.sliceAt,jX ht,Instr.slice,dO,eM,du,he,vI,Instr.sliceBounds,MF n _ (bF _),sizeOf,typeInfo,fQ,iN,zW]
   ·cases ho
  ·cases ho
 ·cases ho
def aZ.aSy(fn:Func)(key k off n cc s j:Nat)(x:Obj)(hx:x.kF=true)(ho:th P (az fn key)=some (true,false,s)):aZ P B N:=
 .step key (az fn key) [.slice (some ⟨k,off,some 7⟩) n cc,vI n] [(j,none),(k,some x)] (.slice (some ⟨j,0,some 7⟩) 0 0) [(j,.view [])] (aSx ho hx j)
end
theorem bY.swap{R:α->β->Prop}{a a':α}(h:∀ b,R a b->R a' b):∀(pre:List α) {post:List α} {m:List β},bY R (pre++a::post) m->bY R (pre++a'::post) m
 |[],_,_,h1=>by cases h1 with|cons h2 h3=>exact .cons (h _ h2) h3
 |_::pre,_,_,h1=>by cases h1 with|cons h2 h3=>exact .cons h2 (bY.swap h pre h3)
theorem aF2(h:cZ c M)(k:Nat)(x:Obj):cZ (bA c k x) ((k,x)::M):=λj y e=>by
 unfold ak at e;unfold bA;split at e
 ·rename_i hb;injection e with e;subst e;rw[aA (lI hb).symm]
 ·rename_i hb;rw[au (λe'=>hb (by rw[e'];exact H5 k))];exact h j y e
theorem aSz{n:Nat}(h:eG c n)(hk:k<n)(x:Obj):eG (bA c k x) n:=λj hj=>by unfold bA;rw[au o_];exact h j hj
section
variable{P:j_}{B:aa}{N:Nat}
theorem aO.aSA(hm:aO B ι c w){cells:al}(hk:c k=some (.aI cells ty))(h:∀ ct,bY (aM ι) cells ct->bY (aM ι) cells' ct):aO B ι (bA c k (.aI cells' ty)) w:=by obtain⟨l,h1,b,ct,e1,e2,e3⟩:=hm.born k _ hk;subst e1;exact hm.write hk rfl h1 (.refl w) rfl rfl (bF _) (λ_ _ _=>rfl) ⟨b,ct,rfl,h _ e2,e3⟩ n_ rfl
theorem St.aSB{next:Nat}{a:Act}(h:St B N fr M next a w){tb:TypeId}(hk:ak M k=some (.aI (pre++.slice none 0 0::post) tb))(ty:TypeId)(s:Nat):
  St B N fr ((k,.aI (pre++.slice (some ⟨next,0,some 7⟩) 0 0::post) tb)::(next,.row [] ty s)::M) (next+1) a w:=by
 obtain⟨ι,cc,h1,h2,h3,h4⟩:=h;have hn:=h4 next (bF _);have hle:Map.le ι (dT ι next .nil):=hZ (h2.dD next hn);have Hb:=h3 k _ hk;have oU:k≠next:=λe=>by subst e;rw[hn]at Hb;cases Hb
 have ao:k<next:=by
  rcases fo k next with h|h
  ·exact h
  ·rw[h4 k h]at Hb;cases Hb
 have m1:aO B (dT ι next .nil) (bA cc next (.row [] ty s)) w:=h2.add hn (.inl ⟨rfl,rfl⟩) n_ n_ n_;have m2:=m1.aSA (k:=k) (cells:=pre++.slice none 0 0::post) (cells':=pre++.slice (some ⟨next,0,some 7⟩) 0 0::post) (ty:=tb) (by unfold bA;rw[au oU];exact Hb) λct hc=>
  bY.swap (λb hb=>by rw[hb.fH rfl];exact .slcN (gu _ _ _)) pre hc
 refine⟨_,_,⟨h1.defers,h1.size,λt=>(h1.slot t).mono hle⟩,m2,aF2 (aF2 h3 _ _) _ _,aSz (λj hj=>?_) o_ _⟩;unfold bA;rw[au o_];exact h4 j o_
def aF3(P:j_)(f:FuncId)(lR s1 np:Nat)(xp:al)(nv:Nat)(xv:al)(F:Fact):Prop:=
 ∀ w v1 b o c,dr w v1 np xp->dr w (.slice (some ⟨b,o,none⟩) nv c) nv xv->Calls P f #[v1,.slice (some ⟨b,o,none⟩) nv c] w λe w'=>∃ u1 u3,e=.returned (.agg #[u1,.slice (some ⟨b,o,none⟩) nv c,u3])/\
  w'.ownsRow w.heap.size lR s1 u1 np xp/\CK w' u3 F/\(∀ b,F.cY u3 w' b->w.heap.size<=b)/\(∀ b,jg u1=some b->¬F.cY u3 w' b)/\Below w.heap.size w w'
theorem aSC{F:Fact}{a1 a2:i_}{nd:q_}{x:m_}{S:Nat}(h:aF3 P f A U np xp nv e6 F)(hs:gC B [.r np xp,.r nv e6] [a1,a2] nd)(ho:dC o.op=some x)(fq:gW P f=true)(xM:F.rc=false)
  (f1:(xp.all flat)=true) (hnv:0<nv) (hS:∀ w,B.G w->S<=w.heap.size) (k:Nat) :
  cI P B o (.func (.func f) #[] #[]::[a1,a2]) ((k,none)::(k+1,none)::nd) (.agg #[.slice (some ⟨k,0,some 7⟩) np 0,a2,.pointer (some ⟨k+1,0,some 9⟩)])
   [(k+1,.fact (F.nE S)),(k,.row xp A U)]:=by
 have:=kj (P:=P) (B:=B) (o:=o) (x:=x) (f:=f) (fi:=[]) (args:=[a1,a2]) (ca:=[]) (need:=(k,none)::(k+1,none)::nd)
  (val:=.agg #[.slice (some ⟨k,0,some 7⟩) np 0,a2,.pointer (some ⟨k+1,0,some 9⟩)]) (c9:=[(k+1,.fact (F.nE S)),(k,.row xp A U)]) ho fq ?_
 ·simpa using this
 ·intro ι c w hm hn args' ha;rw[jJ,jZ]at ha;have k0:c k=none:=hn (k,none) s_;have k1:c (k+1)=none:=hn (k+1,none) s_;have cy:=CM hs hm (λp hp=>hn p (by simp[hp])) ha;obtain⟨v1,v2,rfl,ca1,ca2⟩:=jH ha;cases cy with
  |cons i1 cy=>
  cases cy with
  |cons i2 _=>
  have i1:dr w v1 np xp:=i1;have i2:dr w v2 nv e6:=i2;have i3:=i2;rcases i2 with ⟨_,e,_⟩|⟨b,o',c',rfl,_⟩
  ·omega
  refine(h w v1 b o' c' i1 i3).mono ?_
  rintro e w' ⟨u1,u3,rfl,r1,r3,f3,Q3,hb⟩
  have Mz:=hS w hm.base;have wx:=hm.call hb;have de:∀ j y b o cap,c j=some y->ι j=some (.at b o cap)->y.owns=true\/y.kF=true->b<w.heap.size:=λj y b o cap hj hl hy=>by
   rcases hy with hy|hy
   ·exact(hm.own j y b o cap hj hy hl).1
   ·exact(hm.seen j y b o cap hj hy hl).1
  have Q4:∀ j F u b,c j=some (.fact F)->ι j=some (.val u)->F.cY u w' b->b<w.heap.size:=λj F u b hj hu hF=>by have hF:=hm.Dq hj hu hb.size (λk hk _=>hb.block k hk) hF;obtain⟨l,q1,q2⟩:=hm.born j _ hj;rw[hu]at q1;injection q1 with q1;exact q2.xL q1.symm hF
  have MB:∀ b,jg u1=some b->w.heap.size<=b:=λb hb=>by
   rcases r1.2 with ⟨h1,_⟩|⟨g,cap,cur,h1,h2,_⟩
   ·rw[h1]at hb;cases hb
   ·rw[h1]at hb;injection hb with hb;subst hb;exact h2
  have Q5:∀ b,B.cY b->b<w.heap.size:=λb hF=>B.lt w b hm.base hF;obtain⟨b9,l1,m1,c1,p1⟩:=WX wx k0 r1 f1 Q5 (λj y b o cap hj hl hy e=>by have a:=de j y b o cap hj hl hy;have b:=MB b e;omega) (λj F u b hj hu e hF=>by have a:=Q4 j F u b hj hu hF;have b:=MB b e;omega);have back:∀ j y l,c j=some y->b9 j=some l->ι j=some l:=λj y l hj hl=>by obtain⟨l',cD,_⟩:=wx.born j y hj;have:=l1 j l' cD;rw[hl]at this;injection this with this;rw[this];exact cD
  have Q6:bA c k (.row xp A U) (k+1)=none:=by unfold bA;rw[au o_];exact k1
  have MC:∀ j y,bA c k (.row xp A U) j=some y->(j=k/\y=.row xp A U)\/(j≠k/\c j=some y):=λj y hj=>by
   unfold bA at hj;by_cases ch:j=k
   ·rw[aA ch]at hj;injection hj with hj;exact .inl ⟨ch,hj.symm⟩
   ·rw[au ch]at hj;exact .inr ⟨ch,hj⟩
  have m3:aO B (dT b9 (k+1) (.val u3)) (bA (bA c k (.row xp A U)) (k+1) (.fact (F.nE S))) w':=
   m1.add Q6 ⟨u3,rfl,r3.1,λb hF=>dq Mz (f3 b hF)⟩ n_ (λF' v b e1 e2 hF j y o' aT hj hy he=>by
    injection e1 with e1;subst e1;injection e2 with e2;subst e2;have hF:F.cY u3 w' b:=hF;rcases MC j y hj with ⟨rfl,rfl⟩|⟨_,hj⟩
    ·exact Q3 b (p1 b o' aT he) hF
    ·have h1:=de j y b o' aT hj (back j y _ hj he) (.inl hy);have h2:=f3 b hF;omega) n_ λF' e hr=>by
    injection e with e;subst e;have:F.rc=true:=hr;rw[xM]at this;cases this
  have l3:Map.le b9 (dT b9 (k+1) (.val u3)):=hZ (m1.dD _ Q6);exact⟨_,_,rfl,l1.trans l3,.agg (.cons (c1.mono l3) (.cons (ca2.mono (l1.trans l3)) (.cons (.opq (gu _ _ _) r3.2.1 r3.2.2) .nil))),m3⟩
end
section
variable{P:j_}{B:aa}{N:Nat}
theorem aSD(ho:JD o=true){x y r:Int}(hr:r=if x<y then y else x):cI P B o [.int .i64 x,.int .i64 y] [] (.int .i64 r) []:=by
 subst hr;unfold JD at ho;split at ho
 ·rename_i c ck;split at ho
  ·rename_i p q h1 h2;refine(BQ (λu hu=>by simp at hu;rcases hu with rfl|rfl<;>rfl) rfl λρ fP w _=>?_).step;obtain⟨ce,ar,at'⟩:=c;dsimp only at h1 h2;subst h1;have e1:ar=#[p,q]:=by rw[<-yL (xs:=ar),h2]
   subst e1;rw[ck]at fP;simp[Op.operands,Call.operands]at fP;simp[execOp,ck,resolve,invoke,builtin,Builtin.max_,Builtin.max2,fP.1,fP.2]
  ·cases ho
 ·cases ho
def aZ.aSE(fn:Func)(key:Nat)(x y r:Int)(hr:r=if x<y then y else x)(ho:JD (az fn key)=true):aZ P B N:=
 .step key (az fn key) [.int .i64 x,.int .i64 y] [] (.int .i64 r) [] (aSD ho hr)
end
section
variable{P:j_}{B:aa}{N:Nat}
end
def oJ(w:h_)(v:i_)(n:Nat)(xs:al):Prop:=dr w v n xs\/(n=0/\∃ a,v=.slice (some a) 0 0)
theorem X6{l:List Int}(h:oJ w u l.length (fY l))(hs:w.heap.size<=w'.heap.size)(hk:0<l.length->∀ b,jg u=some b->yV w w' b):oJ w' u l.length (fY l):=by
 rcases h with h|h
 ·rcases ow l.length with h0|h0
  ·rcases h with h|⟨b,o,c,h1,h2,h3,h4⟩
   ·exact .inl (.inl h)
   ·refine .inl (.inr ⟨b,o,c,h1,h2,cH h3 hs,λj u hj=>?_⟩);rw[lG h0]at hj;simp[fY]at hj
  ·exact .inl (h.kept hs (hk h0))
 ·exact .inr h
theorem oJ.lt{n:Nat}(h:oJ w u n xs)(h0:0<n)(hb:jg u=some b):b<w.heap.size:=by
 rcases h with h|⟨h,_⟩
 ·exact h.lt hb
 ·omega
theorem oJ.row{n:Nat}(h:oJ w u n xs)(h0:0<n):dr w u n xs:=by
 rcases h with h|⟨h,_⟩
 ·exact h
 ·omega
theorem oJ.one{n:Nat}(h:oJ w u n xs):u.cells=#[u]/\u.oneCell'=true:=by rcases h with (⟨e,_⟩|⟨_,_,_,e,_⟩)|⟨_,_,e⟩<;>rw[e]<;>exact⟨rfl,rfl⟩
theorem oJ.form{n:Nat}(h:oJ w u n xs):(u=.slice none 0 0/\n=0)\/∃ a c,u=.slice (some a) n c:=by
 rcases h with (⟨e,e2,_⟩|⟨_,_,_,e,_⟩)|⟨e1,_,e⟩
 ·exact .inl ⟨e,e2⟩
 ·exact .inr ⟨_,_,e⟩
 ·subst e1;exact .inr ⟨_,_,e⟩
def e9(l:List Int):Fact where
 G u w:=oJ w u l.length (fY l)
 cY u w k:=0<l.length/\jg u=some k
 lt u w k h hF:=h.lt hF.1 hF.2
 dep u w w' h hs hk:=⟨X6 h hs λh0 b hb cs ty f hc=>(hk b ⟨h0,hb⟩).trans hc,λk hF=>hF⟩
 soft _ u w w' h hs hk:=⟨X6 h hs λh0 b hb=>hk b ⟨h0,hb⟩,λk hF=>hF⟩
inductive sR(w:h_):f_->al->Prop
 |nil:sR w [] []
 |cons {i:Int} {l:List Int} {u:i_} {fs:f_} {cs:al}:oJ w u l.length (fY l)->sR w fs cs->sR w ((i,l)::fs) (iV i::u::cs)
theorem sR.length{cs:al}(h:sR w fs cs):cs.length=fs.length*2:=by
 induction h with
 |nil=>rfl
 |cons _ _ ih=>simp only[qd,ih];omega
theorem aF4{w:h_}:∀{fs:f_} {cs:al},sR w fs cs->∀{i:Nat} {f:Int×List Int},fs[i]?=some f->∃ u,cs[i*2]?=some (iV f.1)/\cs[i*2+1]?=some u/\oJ w u f.2.length (fY f.2)
 |_,_,.nil,i,f,h=>by simp at h
 |_,_,.cons (u:=u) h1 h2,0,f,h=>by simp at h;subst h;exact⟨u,rfl,rfl,h1⟩
 |_,_,.cons h1 h2,i+1,f,h=>by
  obtain⟨u,q1,q2,q3⟩:=aF4 h2 (i:=i) (by simpa using h);refine⟨u,?_,?_,q3⟩
  ·rw[show(i+1)*2=i*2+2 by omega];exact q1
  ·rw[show(i+1)*2+1=i*2+1+2 by omega];exact q2
def Nf(u:i_)(k:Nat):Prop:=∃ a n c,u=.slice (some a) n c/\0<n/\a.block=k
theorem aSF(h:Nf u k):jg u=some k:=by obtain⟨a,n,c,rfl,_,e⟩:=h;show some a.block=_;rw[e]
theorem sR.kept{cs:al}(h:sR w fs cs)(hs:w.heap.size<=w'.heap.size)(hk:∀ u∈cs,∀ b,Nf u b->yV w w' b):sR w' fs cs:=by
 induction h with
 |nil=>exact .nil
 |cons h1 _ ih=>
  refine .cons (X6 h1 hs λh0 b hb=>hk _ (bK _ (aR ..)) b ?_) (ih λu hu=>hk u (bK _ (bK _ hu)));rcases h1.form with ⟨e,e2⟩|⟨a,c,e⟩
  ·omega
  ·subst e;injection hb with hb;exact⟨a,_,c,rfl,h0,hb⟩
theorem sR.lt{cs:al}(h:sR w fs cs):∀ u∈cs,∀ b,Nf u b->b<w.heap.size:=by
 induction h with
 |nil=>intro u hu;cases hu
 |cons h1 _ ih=>
  intro u hu b hb;rcases cE.1 hu with rfl|hu
  ·obtain⟨a,n,c,e,_⟩:=hb;cases e
  ·rcases cE.1 hu with rfl|hu
   ·obtain⟨a,n,c,e,h0,e2⟩:=hb;rcases h1.form with ⟨e',e3⟩|⟨a',c',e'⟩
    ·rw[e']at e;cases e
    ·rw[e']at e;injection e with e1 DM e3;subst DM;exact h1.lt h0 (by rw[e'];injection e1 with e1;subst e1;show some a'.block=_;rw[e2])
   ·exact ih u hu b hb
def RR(w:h_)(v:i_)(fs:f_):Prop:=∃ cs,dr w v fs.length cs/\sR w fs cs
def RS(n:Nat)(v:i_)(w:h_)(k:Nat):Prop:=
 jg v=some k\/∃ b o c j u,v=.slice (some ⟨b,o,none⟩) n c/\j<n*2/\w.cell? ⟨b,o+j,none⟩=some u/\Nf u k
theorem aSG{v:i_}{cs:al}(h1:dr w v fs.length cs)(h2:sR w fs cs){o c:Nat}(hv:v=.slice (some ⟨b,o,none⟩) fs.length c)(hj:j<fs.length*2)(hu:w.cell? ⟨b,o+j,none⟩=some u):u∈cs:=by
 rcases h1 with ⟨h,_⟩|⟨b',o',c',e,_,_,h4⟩
 ·rw[h]at hv;cases hv
 ·rw[e]at hv;injection hv with hv _ _;injection hv with hv;injection hv with e1 e2 _;subst e1;subst e2;have ao:j<cs.length:=by rw[h2.length];exact hj
  have oC:cs[j]?=some cs[j]:=bt ao;have:=h4 j _ oC;rw[hu]at this;injection this with this;rw[this];exact dy ao
theorem aF5{v:i_}(h:RR w v fs)(hs:w.heap.size<=w'.heap.size)(hk:∀ k,RS fs.length v w k->yV w w' k):
  RR w' v fs/\∀ k,RS fs.length v w' k->RS fs.length v w k:=by
 obtain⟨cs,h1,h2⟩:=h;have Jo:∀ b,jg v=some b->yV w w' b:=λb hb=>hk b (.inl hb);have QV:∀ u∈cs,∀ b,Nf u b->yV w w' b:=λu hu b hb=>by
  rcases h1 with ⟨_,_,h⟩|⟨b',o',c',e,_,_,h4⟩
  ·rw[h]at hu;cases hu
  ·obtain⟨j,hj,rfl⟩:=lA hu;refine hk b (.inr ⟨b',o',c',j,_,e,by rw[<-h2.length];exact hj,h4 j _ (bt hj),hb⟩)
 refine⟨⟨cs,h1.kept hs Jo,h2.kept hs QV⟩,λk hF=>?_⟩;rcases hF with hF|⟨b,o,c,j,u,e,hj,hc,hb⟩
 ·exact .inl hF
 ·rcases h1 with ⟨h,_⟩|⟨b',o',c',e',_,_,h4⟩
  ·rw[h]at e;cases e
  ·rw[e']at e;injection e with e1 _ e3;injection e1 with e1;injection e1 with e1 e2 _;subst e1;subst e2;subst e3;have ao:j<cs.length:=by rw[h2.length];exact hj
   have h5:=h4 j _ (bt ao);have h6:=WM (Jo b' (by rw[e'];rfl)) h5;rw[hc]at h6;injection h6 with h6;exact .inr ⟨b',o',c',j,u,e',hj,by rw[h6];exact h5,hb⟩
def ji(fs:f_):Fact where
 G v w:=RR w v fs
 cY v w k:=RS fs.length v w k
 lt v w k h hF:=by
  obtain⟨cs,h1,h2⟩:=h;rcases hF with hF|⟨b,o,c,j,u,e,hj,hc,hb⟩
  ·exact h1.lt hF
  ·exact h2.lt u (aSG h1 h2 e hj hc) k hb
 dep v w w' h hs hk:=aF5 h hs λk hF cs ty f hc=>(hk k hF).trans hc
 soft _ v w w' h hs hk:=aF5 h hs hk
structure zu(fs:f_)(F:Fact):Prop where
 G:∀ v w,F.G v w->(ji fs).G v w
 cY:∀ v w k,(ji fs).cY v w k->F.cY v w k
theorem zu.self(fs:f_):zu fs (ji fs):=⟨λ_ _ h=>h,λ_ _ _ h=>h⟩
theorem pd.aSH{cs:al}(h:pd w fs cs):sR w fs cs:=by
 induction h with
 |nil=>exact .nil
 |cons h1 _ _ ih=>exact .cons (.inl h1) ih
theorem zu.full(fs:f_):zu fs (jC fs):=by
 refine⟨λv w h=>?_,λv w k h=>?_⟩
 ·obtain⟨cs,h1,h2⟩:=h;exact⟨cs,h1,h2.aSH⟩
 ·rcases h with h|⟨b,o,c,j,u,e,hj,hc,hb⟩
  ·exact .inl h
  ·exact .inr ⟨b,o,c,j,u,e,hj,hc,aSF hb⟩
theorem aSI{v:i_}(h:RR w v fs)(hl:∀ f∈fs,0<f.2.length):Mq w v fs:=by
 obtain⟨cs,h1,h2⟩:=h;refine⟨cs,h1,?_⟩;clear h1;induction h2 with
 |nil=>exact .nil
 |cons h3 _ ih=>
  have hr:=h3.row (hl _ (aR ..));refine .cons hr ?_ (ih λf hf=>hl f (bK _ hf));rcases hr with ⟨e,_⟩|⟨_,_,_,e,_⟩<;>rw[e]<;>rfl
section
variable{P:j_}{B:aa}{N:Nat}
theorem zv(ho:Mx P o=true){F:Fact}(hF:zu fs F):cI P B o [.pointer (some ⟨k,0,some 9⟩)] [(k,some (.fact F))] (vI fs.length) []:=by
 obtain⟨x,t,e,ck,ht⟩:=aD7 ho;refine iY.step λι c ρ w aW hm pr=>?_;rw[ck]at aW;obtain⟨u,hu,hc⟩:=oh aW;have hu:ρ x=u:=by simpa[Op.operands,Call.operands]using hu
 have Hw:=AN hm (pr (k,_) (aR ..)) hc;obtain⟨cs,hr,_⟩:=hF.G _ _ Hw.1;refine⟨ι,vI fs.length,w,Map.le.refl _,.same rfl,hm,.inl ?_⟩;rcases hr with ⟨q1,q2,_⟩|⟨b,o',c',q1,_⟩
 ·subst q1;simp[execOp,ck,resolve,invoke,builtin,Builtin.len_,hu,jX ht,goInt,q2,vI]
 ·subst q1;simp[execOp,ck,resolve,invoke,builtin,Builtin.len_,hu,jX ht,goInt,vI]
theorem xB(ho:Mx P o=true){l:List Int}:cI P B o [.pointer (some ⟨k,0,some 9⟩)] [(k,some (.fact (e9 l)))] (vI l.length) []:=by
 obtain⟨x,t,e,ck,ht⟩:=aD7 ho;refine iY.step λι c ρ w aW hm pr=>?_;rw[ck]at aW;obtain⟨u,hu,hc⟩:=oh aW;have hu:ρ x=u:=by simpa[Op.operands,Call.operands]using hu
 have Hw:=AN hm (pr (k,_) (aR ..)) hc;have hw:oJ w u l.length (fY l):=Hw.1;refine⟨ι,vI l.length,w,Map.le.refl _,.same rfl,hm,.inl ?_⟩;rcases hw.form with ⟨q1,q2⟩|⟨a,c',q1⟩
 ·subst q1;simp[execOp,ck,resolve,invoke,builtin,Builtin.len_,hu,jX ht,goInt,q2,vI]
 ·subst q1;simp[execOp,ck,resolve,invoke,builtin,Builtin.len_,hu,jX ht,goInt,vI]
theorem Ng(ho:xY P o=some 2){m:Nat}{f:Int×List Int}{F:Fact}(hF:zu fs F)(hi:fs[i]?=some f)(Jq:m<k):
  cI P B o [.pointer (some ⟨m,0,some 9⟩),vI i] [(k,none),(k+1,none),(m,some (.fact F))] (.pointer (some ⟨k,0,some 7⟩)) [(k,.view [iV f.1,.pointer (some ⟨k+1,0,some 9⟩)]),(k+1,.fact (e9 f.2))]:=by
 unfold xY at ho;split at ho
 ·rename_i t x y ck;split at ho
  ·rename_i e ht;split at ho
   ·rename_i inf BR;injection ho with ho;refine iY.step λι c ρ w aW hm pr=>?_;rw[ck]at aW;obtain⟨v,v2,hu,hc,du⟩:=jH aW;have dO:ρ x=v:=by simp[Op.operands]at hu;exact hu.1
    have eM:ρ y=v2:=by simp[Op.operands]at hu;exact hu.2
    have du:=du.fH rfl;have Hx:c m=some (.fact F):=pr (m,some (.fact F)) s_;have k0:c k=none:=pr (k,none) s_;have k1:c (k+1)=none:=pr (k+1,none) s_;have Hw:=AN hm Hx hc;have loc:ι m=some (.val v):=by
     obtain⟨lc,q1,u,q2,q3⟩:=hm.born m _ Hx;subst q2;generalize hp:Value.pointer (some ⟨m,0,some 9⟩)=p at hc;cases hc with
     |same h=>subst hp;cases h
     |ptr h=>injection hp with hp;injection hp with hp;injection hp with _ _ hp;cases hp
     |slc h=>cases hp
     |slcN h=>cases hp
     |opq h4 h5 h6=>injection hp with hp;injection hp with hp;injection hp with jk;subst jk;exact h4
     |fn=>cases hp
     |agg=>cases hp
     |tup=>cases hp
    obtain⟨cs,hr,jI⟩:=hF.G _ _ Hw.1;obtain⟨u,a1,a2,a3⟩:=aF4 jI hi;have ao:=(eP.1 hi).1;rcases hr with ⟨_,q2,_⟩|⟨b,o',c',q1,q2,q3,q4⟩
    ·omega
    have own:∀ bb,F.cY v w bb->∀ j y o' aT,c j=some y->y.owns=true->ι j≠some (.at bb o' aT):=λbb hb j y o1 mG hj hy he=>hm.apart j m y F bb o1 mG v hj hy he Hx loc hb;have hFb:F.cY v w b:=hF.cY _ _ _ (.inl (by rw[q1];rfl));have hFu:∀ bb,(e9 f.2).cY u w bb->F.cY v w bb:=λbb hb=>hF.cY _ _ _ (.inr ⟨b,o',c',i*2+1,u,q1,by omega,q4 _ _ a2,by
     obtain⟨h0,hb⟩:=hb;rcases a3.form with ⟨e',e2⟩|⟨a,c2,e'⟩
     ·omega
     ·subst e';injection hb with hb;exact⟨a,_,c2,rfl,h0,hb⟩⟩)
    have m1:aO B (dT ι (k+1) (.val u)) (bA c (k+1) (.fact (e9 f.2))) w:=hm.add k1 ⟨u,rfl,a3⟩ n_ (λF' v' b' e1 e2 hb j y o1 mG hj hy he=>by injection e1 with e1;subst e1;injection e2 with e2;subst e2;exact own b' (hFu b' hb) j y o1 mG hj hy he) n_ λF' e hr=>by injection e with e;subst e;cases hr
    have k0':bA c (k+1) (.fact (e9 f.2)) k=none:=by unfold bA;rw[au o_];exact k0
    have l1:Map.le ι (dT ι (k+1) (.val u)):=hZ (hm.dD _ k1);have cu:aM (dT ι (k+1) (.val u)) (.pointer (some ⟨k+1,0,some 9⟩)) u:=.opq (gu _ _ _) a3.one.1 a3.one.2;have l2:Map.le (dT ι (k+1) (.val u)) (dT (dT ι (k+1) (.val u)) k (.at b (o'+i*2) 0)):=hZ (m1.dD _ k0');have back:∀ j y b' o1 mG,bA c (k+1) (.fact (e9 f.2)) j=some y->y.owns=true->dT ι (k+1) (.val u) j=some (.at b' o1 mG)->c j=some y/\ι j=some (.at b' o1 mG):=λj y b' o1 mG hj hy he=>by
     unfold bA at hj;unfold dT at he;by_cases ch:j=k+1
     ·rw[aA ch]at hj;injection hj with hj;subst hj;cases hy
     ·rw[au ch]at hj he;exact⟨hj,he⟩
    have m2:aO B (dT (dT ι (k+1) (.val u)) k (.at b (o'+i*2) 0)) (bA (bA c (k+1) (.fact (e9 f.2))) k (.view [iV f.1,.pointer (some ⟨k+1,0,some 9⟩)])) w:=
     m1.add k0' (.inr ⟨b,o'+i*2,0,[iV f.1,u],rfl,.cons (.same rfl) (.cons (cu.mono l2) .nil),λj x hj=>by
      cases j with
      |zero=>simp at hj;subst hj;have:=q4 _ _ a1;simpa using this
      |succ j=>cases j with
       |zero=>simp at hj;subst hj;have:=q4 _ _ a2;rw[vz];exact this
       |succ j=>simp at hj⟩) n_ n_ (λb1 o1 mG _ e=>by
      injection e with e1 e2 e3;subst e1;exact⟨q3,λj y o2 qK hj hy he=>by obtain⟨hj,he⟩:=back j y b o2 qK hj hy he;exact own b hFb j y o2 qK hj hy he⟩)
    refine⟨_,.pointer (some ⟨b,o'+i*2,none⟩),w,l1.trans l2,?_,m2,.inl ?_⟩
    ·have:=aM.ptr (off:=0) (gu (dT ι (k+1) (.val u)) k (.at b (o'+i*2) 0));rwa[jv]at this
    ·subst q1;simp only[execOp,ck,dO,eM,du];have h0:(0:Int)<=(i:Int):=by omega
     simp[Instr.indexAt,asIntOf,jX ht,sizeOf,typeInfo,BR,h0,zW,vI,ho];intro gw;omega
   ·cases ho
  ·cases ho
 ·cases ho
end
section
open V3 (dot ag aN smul)
theorem cx.X7{x1 x2:al}{F F':Fact}(h:cx P f (.s n1 x1 n2 x2 F::l) res)(hF:∀ v w,F'.G v w->F.G v w):cx P f (.s n1 x1 n2 x2 F'::l) res:=by
 intro w vs cy;cases cy with
 |cons h1 h2=>
  obtain⟨u1,u2,u3,e,r1,r2,r3⟩:=h1;exact h w _ (.cons ⟨u1,u2,u3,e,r1,r2,hF _ _ r3.1,r3.2⟩ h2)
theorem aF6(fs:f_)(S:Nat):∀ v w,((jC fs).nE S).G v w->(ji fs).G v w:=λv w h=>(zu.full fs).G v w h.1
def cN(k:Nat):Value:=.pointer (some ⟨k,0,some 9⟩)
theorem aF7{x y:Nat}(h:decide (x≠y)=t):Value.bool ((x:Int)!=(y:Int))=.bool t:=by
 rw[<-h];congr 1
 by_cases e:x=y
 ·subst e;simp
 ·rw[aJ e,rW];omega
theorem aSJ{a b:List Int}(h63:a.length<9223372036854775807):cx prog 64 [.o (e9 a),.o (e9 b)] (.bool (decide (a=b))):=by
 have aC:([aQ.o (e9 a),.o (e9 b)].all aQ.ok)=true:=rfl;by_cases hl:a.length=b.length
 ·rcases ow a.length with h0|h0
  ·have ha:=lG h0;have hb:=lG (hl▸h0);subst ha;subst hb;exact dF func64 aC 26 (λw=>[.step 7 (az f64 7) [cN 0] [(0,some (.fact (e9 [])))] (vI 0) [] (xB k_),.step 9 (az f64 9) [cN 1] [(1,some (.fact (e9 [])))] (vI 0) [] (xB k_),.step 12 (az f64 12) [cN 0] [(0,some (.fact (e9 [])))] (vI 0) [] (xB k_)])
  ·intro w vs cy;cases cy with
   |cons h1 cy=>
   cases cy with
   |cons h2 cy=>
   cases cy;have r1:dr w _ a.length (fY a):=oJ.row h1.1 h0;have r2:dr w _ b.length (fY b):=oJ.row h2.1 o_;exact aOh h63 w _ (.cons r1 (.cons r2 .nil))
 ·have cd:a≠b:=λh=>hl (by rw[h]);rw[aY cd];exact dF func64 aC 26 (λw=>[.step 7 (az f64 7) [cN 0] [(0,some (.fact (e9 a)))] (vI a.length) [] (xB k_),.step 9 (az f64 9) [cN 1] [(1,some (.fact (e9 b)))] (vI b.length) [] (xB k_),.rw 10 _ b_ (aF7 (x:=a.length) (y:=b.length) (by simp[hl]))])
theorem aSK{i j:Int}{l l':List Int}(h63:l.length<9223372036854775807):cx prog 63 [.c (iV i) (e9 l),.c (iV j) (e9 l')] (.bool (decide ((i,l)=(j,l')))):=by
 have aC:([aQ.c (iV i) (e9 l),.c (iV j) (e9 l')].all aQ.ok)=true:=rfl;have he:=aSJ (a:=l) (b:=l') h63;have e1:decide ((i,l)=(j,l'))=(decide (i=j)&&decide (l=l')):=by rw[<-Bool.decide_and];exact qh.2 s_
 have e0:(Value.bool (i==j))=.bool (decide (i=j)):=rfl;rw[e1];generalize decide (i=j)=s at *;generalize decide (l=l')=t at *;refine iL mixed func63 aC 100 (N:=17) k_ (λw=>[.rw 9 _ _ e0,.step 15 (az f63 15) [.func (.func 64) #[] #[],cN 0,cN 1] [(0,some (.fact (e9 l))),(1,some (.fact (e9 l')))] (.bool t) [] (dJ he (.o (.o .nil)) (x:=.func 64) k_ k_ rfl)]) (λ_=>?_) ?_<;>cases s<;>kernel_rfl
section
variable{Bs:aa}{fs fs':f_}
def Nh:Value:=.func (.func 63) #[] #[]
def Bp(n i:Nat):aU:=[(17,vI i),(15,cN 0),(16,vI n),(1,cN 1),(2,Nh)]
def sS(fs fs':f_):aL:=[(0,.fact (ji fs)),(1,.fact (ji fs'))]
theorem aSL:∀ x∈sS fs fs',fR 2 x.2:=λx hx=>by simp only[sS,cE,jR,jS]at hx;rcases hx with rfl|rfl<;>exact λv hv=>(by cases hv)
noncomputable def efS{n:Nat}{f:Int×List Int}(hi:i<n)(h1:fs[i]?=some f)(h2:fs'[i]?=some f')(h63:f.2.length<9223372036854775807)(ht:decide (f=f')=t)(more:bN prog Bs 32):bN prog Bs 32:=
 .lt 18 i n true (aJ hi)::.step 20 (az f66 20) [cN 0,vI i] [(2,none),(2+1,none),(0,some (.fact (ji fs)))] (.pointer (some ⟨2,0,some 7⟩)) [(2,.view [iV f.1,cN 3]),(2+1,.fact (e9 f.2))] (Ng k_ (.self fs) h1 d_)::
 .step 24 (az f66 24) [cN 1,vI i] [(5,none),(5+1,none),(1,some (.fact (ji fs')))] (.pointer (some ⟨5,0,some 7⟩)) [(5,.view [iV f'.1,cN 6]),(5+1,.fact (e9 f'.2))] (Ng k_ (.self fs') h2 d_)::
 .step 29 (az f66 29) [Nh,.agg #[iV f.1,cN 3],.agg #[iV f'.1,cN 6]] [(3,some (.fact (e9 f.2))),(6,some (.fact (e9 f'.2)))] (.bool t) [] (dJ (ht▸aSK (i:=f.1) (j:=f'.1) h63) (.c rfl (λ_ _ h=>h) (.c rfl (λ_ _ h=>h) .nil)) (x:=.tmp 26) k_ k_ rfl)::more
theorem aSM{n:Nat}{f:Int×List Int}(hi:i<n)(h1:fs[i]?=some f)(h2:fs'[i]?=some f)(h63:f.2.length<9223372036854775807)(aSN:n<9223372036854775807):ah prog Bs 32 (aK (ai f66 0)) (Bp n i) (sS fs fs') 2 ⟨.normal,Bp n (i+1),sS fs fs',2⟩:=
 rU mixed 100 (gG:=8) (efS hi h1 h2 h63 (t:=true) s_ [.sum 31 i 1 (i+1) rfl o_]) k_ rfl k_ aSL k_
theorem aSO{n:Nat}{f:Int×List Int}(hi:i<n)(h1:fs[i]?=some f)(h2:fs'[i]?=some f')(h63:f.2.length<9223372036854775807)(ht:f≠f'):ah prog Bs 32 (aK (ai f66 0)) (Bp n i) (sS fs fs') 2 ⟨.ret,[(6,.bool false)],sS fs fs',8⟩:=
 aG (efS hi h1 h2 h63 (aY ht) [])
theorem aSP{n:Nat}:ah prog Bs 32 (aK (ai f66 0)) (Bp n n) (sS fs fs') 2 ⟨.exit 0,[],sS fs fs',2⟩:=
 aG [.lt 18 n n false s_]
noncomputable def X8(ht:decide (fs.length≠fs'.length)=t)(more:bN prog Bs 32):bN prog Bs 32:=
 .step 11 (az f66 11) [cN 0] [(0,some (.fact (ji fs)))] (vI fs.length) [] (zv k_ (.self fs))::.step 13 (az f66 13) [cN 1] [(1,some (.fact (ji fs')))] (vI fs'.length) [] (zv k_ (.self fs'))::.rw 14 _ (.bool t) (aF7 ht)::more
theorem aSQ(h63:fs.length<9223372036854775807)(rJ:∀ f∈fs,f.2.length<9223372036854775807):cx prog 66 [.o (ji fs),.o (ji fs'),.p Nh] (.bool (decide (fs=fs'))):=by
 have aC:([aQ.o (ji fs),.o (ji fs'),.p Nh].all aQ.ok)=true:=rfl;by_cases hl:fs.length=fs'.length
 ·have rz:∀(B:aa) e,e<=fs.length->(∀ i x y,i<e->fs[i]?=some x->fs'[i]?=some y->x=y)->∀ i,i<e->ah prog B 32 (aK (ai f66 0)) (Bp fs.length i) (sS fs fs') 2 ⟨.normal,Bp fs.length (i+1),sS fs fs',2⟩:=λB e he h4 i hi=>by have hx:fs[i]?=some fs[i]:=bt o_;have hy:fs'[i]?=some fs'[i]:=bt o_;have:=h4 i _ _ hi hx hy;rw[<-this]at hy;exact aSM o_ hx hy (rJ _ (dy _)) h63
  rcases EE fs fs' hl with h|⟨e,x,y,q1,q2,q3,q4⟩
  ·have lo:∀ B:aa,ah prog B 32 (.block 0 (ai f66 0)) (Bp fs.length 0) (sS fs fs') 2 ⟨.normal,[],sS fs fs',2⟩:=λB=>
    cg (id:=0) (cz fs.length (λi=>Bp fs.length i) (λ_=>sS fs fs') (λi k _=>Iff.rfl) (rz B fs.length (bF _) λi x y _ hx hy=>by rw[h,hy]at hx;injection hx with hx;exact hx.symm) aSP n_)
   rw[aJ h];exact dF func66 aC 32 (λw=>X8 (fs:=fs) (fs':=fs') (t:=false) (by simp[hl]) [.step 16 (az f66 16) [cN 0] [(0,some (.fact (ji fs)))] (vI fs.length) [] (zv k_ (.self fs)),.code 0 _ _ _ _ _ (lo _)])
  ·have cd:fs≠fs':=λh=>by subst h;rw[q1]at q2;injection q2 with q2;exact q3 q2
   rw[aY cd];have ao:=(eP.1 q1).1;have lo:∀ B:aa,ah prog B 32 (.block 0 (ai f66 0)) (Bp fs.length 0) (sS fs fs') 2 ⟨.ret,[(6,.bool false)],sS fs fs',8⟩:=λB=>
    cg (id:=0) (cz e (λi=>Bp fs.length i) (λ_=>sS fs fs') (λi k _=>Iff.rfl) (rz B e o_ q4) (aSO ao q1 q2 (rJ _ (cM q1)) q3) n_)
   exact dF func66 aC 32 (λw=>X8 (fs:=fs) (fs':=fs') (t:=false) (by simp[hl]) [.step 16 (az f66 16) [cN 0] [(0,some (.fact (ji fs)))] (vI fs.length) [] (zv k_ (.self fs)),.code 0 _ _ _ _ _ (lo _)])
 ·have cd:fs≠fs':=λh=>hl (by rw[h]);rw[aY cd];exact dF func66 aC 32 (λw=>X8 (fs:=fs) (fs':=fs') (t:=true) (by simp[hl]) [])
end
end
theorem aF8{t:TypeId}{s:Nat}(ht:Jk P t=some s){cells:al}(hl:off+s<=cells.length):dU P t cells off=some (.agg ((cells.drop off).take s).toArray):=by
 unfold Jk at ht;split at ht
 ·rename_i d inf h1 h2;split at ht
  ·rename_i hr;injection ht with ht;unfold dU;rw[h1,h2];dsimp only;rw[aA hr,ht,aA (by rw[Nat.ble_eq];exact hl)]
  ·cases ht
 ·cases ht
theorem aF9{l:List RP}{p:RP}(h:l[i]?=some p):i*40+40<=(dx l).length:=by rw[uW j6];have ao:=(eP.1 h).1;have:=fe 40 ao;omega
theorem RT{l:List RP}{p:RP}(h:l[i]?=some p):dU prog 33 (dx l) (i*40)=some p.n.v:=by
 rw[aF8 (s:=30) k_ (by have:=aF9 h;omega)];have e:=Qy j6 h;have e2:((dx l).drop (i*40)).take 30=p.n.cs:=by
  have:((dx l).drop (i*40)).take 30=(((dx l).drop (i*40)).take 40).take 30:=by rw[NW];rfl
  rw[this,e];rfl
 rw[e2];rfl
theorem aGa{l:List RP}{p:RP}(h:l[i]?=some p):dU prog 31 (dx l) (i*40+30)=some p.d.v:=by
 rw[aF8 (s:=10) k_ (by have:=aF9 h;omega)];have e:=Qy j6 h;have e2:((dx l).drop (i*40+30)).take 10=p.d.cs:=by
  rw[<-OO];have:(((dx l).drop (i*40)).drop 30).take 10=(((dx l).drop (i*40)).take 40).drop 30:=by rw[List.drop_take]
  rw[this,e];rfl
 rw[e2];rfl
theorem De(b:α->Bool)(l:List α):l.all b=true\/∃(n:Nat) (x:α),l[n]?=some x/\b x=false/\(∀(i:Nat) (y:α),i<n->l[i]?=some y->b y=true)/\l.all b=false:=by
 induction l with
 |nil=>exact .inl rfl
 |cons x l ih=>
  rcases hb:b x with _|_
  ·exact .inr ⟨0,x,rfl,hb,λi y hi=>by omega,by simp[hb]⟩
  ·rcases ih with h|⟨n,y,h1,h2,h3,h4⟩
   ·exact .inl (by rw[eA,hb,h];rfl)
   ·refine .inr ⟨n+1,y,by simpa using h1,h2,λi z hi hz=>?_,by rw[eA,h4,OJ]⟩;cases i with
    |zero=>simp at hz;rw[<-hz];exact hb
    |succ i=>exact h3 i z o_ (by simpa using hz)
theorem E5{b:α->Bool}{l:List α}(h:l.all b=true){x:α}(hx:l[i]?=some x):b x=true:=bC.1 h x (cM hx)
theorem Hy(h:decide (a<=b)=t):Value.bool (decide ((a:Int)<=(b:Int)))=.bool t:=by rw[<-h];congr 1;rw[qh];omega
section
variable{Bs:aa}{vs:List RV}{k:Nat}
def Hz(n k i:Nat):aU:=[(7,vI i),(0,sl 0 n),(2,vI k)]
def zw(vs:List RV):aL:=[(0,.view (cW vs))]
theorem aGb{n:Nat}{x:RV}(hi:i<n)(hx:vs[i]?=some x)(hb:pR x k=true)(h63:n<9223372036854775807):
  ah prog Bs 25 (aK (ai Tryz.f57 0)) (Hz n k i) (zw vs) 1 ⟨.normal,Hz n k (i+1),zw vs,1⟩:=by
 have hr:=Rt x k;rw[hb]at hr;exact aG [.lt 11 i n true (aJ hi),.di Tryz.f57 16 0 n i 30 hi k_,.ld Tryz.f57 17 33 0 (i*30) (.view (cW vs)) x.v rfl (tQ hx) k_,hr.at 19,.sum 13 i 1 (i+1) rfl o_]
theorem aSR{n:Nat}{x:RV}(hi:i<n)(hx:vs[i]?=some x)(hb:pR x k=false):
  ah prog Bs 25 (aK (ai Tryz.f57 0)) (Hz n k i) (zw vs) 1 ⟨.ret,[(6,.bool false)],zw vs,1⟩:=by
 have hr:=Rt x k;rw[hb]at hr;exact aG [.lt 11 i n true (aJ hi),.di Tryz.f57 16 0 n i 30 hi k_,.ld Tryz.f57 17 33 0 (i*30) (.view (cW vs)) x.v rfl (tQ hx) k_,hr.at 19]
theorem aSS(m:Nat)(h63:vs.length<9223372036854775807):cx prog 57 [.r vs.length (cW vs),.p (vI m),.p (vI k)] (.bool (vs.all (λx=>pR x k)&&decide (vs.length<=m))):=by
 have aC:([aQ.r vs.length (cW vs),.p (vI m),.p (vI k)].all aQ.ok)=true:=by simp only[eA,e8,aQ.ok,jf gS,iz];rfl
 rcases De (λx=>pR x k) vs with h|⟨n,x,h1,h2,h3,h4⟩
 ·rw[h,kp];have lo:∀ B:aa,ah prog B 25 (.block 0 (ai Tryz.f57 0)) (Hz vs.length k 0) (zw vs) 1 ⟨.normal,[(0,sl 0 vs.length)],zw vs,1⟩:=λB=>
   cg (id:=0) (cz vs.length (λi=>Hz vs.length k i) (λ_=>zw vs) (λi k _=>Iff.rfl) (r:=⟨.exit 0,[(0,sl 0 vs.length)],zw vs,1⟩) (λi hi=>by have hx:vs[i]?=some vs[i]:=bt hi;exact aGb hi hx (E5 h hx) h63) (aG [.lt 11 vs.length vs.length false s_]) n_)
  exact dF func57 aC 25 (λw=>[.code 0 _ _ _ _ _ (lo _),.rw 24 _ (.bool (decide (vs.length<=m))) (Hy rfl)])
 ·rw[h4,An];have ao:=(eP.1 h1).1;have lo:∀ B:aa,ah prog B 25 (.block 0 (ai Tryz.f57 0)) (Hz vs.length k 0) (zw vs) 1 ⟨.ret,[(6,.bool false)],zw vs,1⟩:=λB=>
   cg (id:=0) (cz n (λi=>Hz vs.length k i) (λ_=>zw vs) (λi k _=>Iff.rfl) (λi hi=>by have hx:vs[i]?=some vs[i]:=bt o_;exact aGb o_ hx (h3 i _ hi hx) h63) (aSR ao h1 h2) n_)
  exact dF func57 aC 25 (λw=>[.code 0 _ _ _ _ _ (lo _)])
end
def RU(p:RP):Bool:=decide (24<wV p.n)||decide (15<wN p.d)
def ug(ps:List RP)(i:Nat):Nat:=((ps.take i).filter RU).length
theorem aST{ps:List RP}{p:RP}(h:ps[i]?=some p):ug ps (i+1)=ug ps i+if RU p then 1 else 0:=by unfold ug;rw[uZ,h];simp only[Option.toList,List.filter_append,lH];rcases hb:RU p with _|_<;>simp[hb]
theorem aSU(ps:List RP)(i:Nat):ug ps i<=i:=by unfold ug;refine dq (List.length_filter_le _ _) ?_;rw[jV];omega
theorem RW{r:RN}(h:tZ r k=true):wN r<=5*k:=by unfold tZ at h;simp only[dc,uA]at h;unfold wN;omega
theorem aSV{r:RV}(h:pR r k=true):wV r<=15*k:=by unfold pR at h;simp only[dc]at h;have h1:=RW h.1;have h2:=RW h.2.1;have h3:=RW h.2.2;unfold wV;omega
section
variable{Bs:aa}{ps:List RP}
def Bq(ps:List RP)(n i:Nat):aU:=[(6,vI i),(0,sl 0 n),(5,vI (ug ps i))]
def zx(ps:List RP):aL:=[(0,.view (dx ps))]
theorem aGc{n:Nat}{x:RP}(hi:i<n)(hx:ps[i]?=some x)(hb:Dc x 3=true)(h63:n<9223372036854775807):
  ah prog Bs 45 (aK (ai f56 0)) (Bq ps n i) (zx ps) 1 ⟨.normal,Bq ps n (i+1),zx ps,1⟩:=by
 have hr:=aFa x 3;rw[hb]at hr;have gy:pR x.n 3=true/\tZ x.d 3=true:=by unfold Dc at hb;simpa using hb
 have w1:=aSV gy.1;have w2:=RW gy.2;have q1:=aQ8 (r:=x.n) o_;have q2:=Rl (r:=x.d) o_;have hs:=aST hx;have hle:=aSU ps i;unfold Bq;rw[hs];generalize ug ps i=c at *;unfold RU;by_cases g1:24<wV x.n
 ·rw[aJ g1];exact aG [.lt 10 i n true (aJ hi),.di f56 15 0 n i 40 hi k_,.ld f56 16 73 0 (i*40) (.view (dx ps)) x.v rfl (xl hx) k_,hr.at 17,.di f56 21 0 n i 40 hi k_,.ld f56 23 33 0 (i*40) (.view (dx ps)) x.n.v rfl (RT hx) k_,q1.at 24,.gt 25 (wV x.n) 24 true (aJ g1),.sum 36 c 1 (c+1) rfl o_,.sum 12 i 1 (i+1) rfl o_]
 ·rw[aY g1];by_cases g2:15<wN x.d
  ·rw[aJ g2];exact aG [.lt 10 i n true (aJ hi),.di f56 15 0 n i 40 hi k_,.ld f56 16 73 0 (i*40) (.view (dx ps)) x.v rfl (xl hx) k_,hr.at 17,.di f56 21 0 n i 40 hi k_,.ld f56 23 33 0 (i*40) (.view (dx ps)) x.n.v rfl (RT hx) k_,q1.at 24,.gt 25 (wV x.n) 24 false (aY g1),.di f56 29 0 n i 40 hi k_,.ld f56 31 31 0 (i*40+30) (.view (dx ps)) x.d.v rfl (aGa hx) k_,q2.at 32,.gt 33 (wN x.d) 15 true (aJ g2),.sum 36 c 1 (c+1) rfl o_,.sum 12 i 1 (i+1) rfl o_]
  ·rw[aY g2];exact aG [.lt 10 i n true (aJ hi),.di f56 15 0 n i 40 hi k_,.ld f56 16 73 0 (i*40) (.view (dx ps)) x.v rfl (xl hx) k_,hr.at 17,.di f56 21 0 n i 40 hi k_,.ld f56 23 33 0 (i*40) (.view (dx ps)) x.n.v rfl (RT hx) k_,q1.at 24,.gt 25 (wV x.n) 24 false (aY g1),.di f56 29 0 n i 40 hi k_,.ld f56 31 31 0 (i*40+30) (.view (dx ps)) x.d.v rfl (aGa hx) k_,q2.at 32,.gt 33 (wN x.d) 15 false (aY g2),.sum 12 i 1 (i+1) rfl o_]
theorem aSW{n:Nat}{x:RP}(hi:i<n)(hx:ps[i]?=some x)(hb:Dc x 3=false):
  ah prog Bs 45 (aK (ai f56 0)) (Bq ps n i) (zx ps) 1 ⟨.ret,[(4,.bool false)],zx ps,1⟩:=by
 have hr:=aFa x 3;rw[hb]at hr;exact aG [.lt 10 i n true (aJ hi),.di f56 15 0 n i 40 hi k_,.ld f56 16 73 0 (i*40) (.view (dx ps)) x.v rfl (xl hx) k_,hr.at 17]
def Ni(ps:List RP)(k:Nat):Bool:=ps.all (λx=>Dc x 3)&&(decide (ug ps ps.length<=1)&&decide (ps.length<=k))
theorem aSX(k:Nat)(h63:ps.length<9223372036854775807):cx prog 56 [.r ps.length (dx ps),.p (vI k)] (.bool (Ni ps k)):=by
 have aC:([aQ.r ps.length (dx ps),.p (vI k)].all aQ.ok)=true:=by simp only[eA,e8,aQ.ok,jf j6,iz];rfl
 unfold Ni;rcases De (λx=>Dc x 3) ps with h|⟨n,x,h1,h2,h3,h4⟩
 ·rw[h,kp];have lo:∀ B:aa,ah prog B 45 (.block 0 (ai f56 0)) (Bq ps ps.length 0) (zx ps) 1 ⟨.normal,[(0,sl 0 ps.length),(5,vI (ug ps ps.length))],zx ps,1⟩:=λB=>
   cg (id:=0) (cz ps.length (λi=>Bq ps ps.length i) (λ_=>zx ps) (λi k _=>Iff.rfl) (r:=⟨.exit 0,[(0,sl 0 ps.length),(5,vI (ug ps ps.length))],zx ps,1⟩) (λi hi=>by have hx:ps[i]?=some ps[i]:=bt hi;exact aGc hi hx (E5 h hx) h63) (aG [.lt 10 ps.length ps.length false s_]) n_)
  unfold Bq at lo;have e0:ug ps 0=0:=by unfold ug;simp
  rw[e0]at lo;generalize ug ps ps.length=c at *;by_cases hc:c<=1
  ·rw[aJ hc,kp];exact dF func56 aC 45 (λw=>[.code 0 _ _ _ _ _ (lo _),.rw 38 _ b_ (Hy (a:=c) (b:=1) (aJ hc)),.rw 43 _ (.bool (decide (ps.length<=k))) (Hy rfl)])
  ·rw[aY hc,An];exact dF func56 aC 45 (λw=>[.code 0 _ _ _ _ _ (lo _),.rw 38 _ a_ (Hy (a:=c) (b:=1) (aY hc))])
 ·rw[h4,An];have ao:=(eP.1 h1).1;have lo:∀ B:aa,ah prog B 45 (.block 0 (ai f56 0)) (Bq ps ps.length 0) (zx ps) 1 ⟨.ret,[(4,.bool false)],zx ps,1⟩:=λB=>
   cg (id:=0) (cz n (λi=>Bq ps ps.length i) (λ_=>zx ps) (λi k _=>Iff.rfl) (λi hi=>by have hx:ps[i]?=some ps[i]:=bt o_;exact aGc o_ hx (h3 i _ hi hx) h63) (aSW ao h1 h2) n_)
  have e0:ug ps 0=0:=by unfold ug;simp
  unfold Bq at lo;rw[e0]at lo;exact dF func56 aC 45 (λw=>[.code 0 _ _ _ _ _ (lo _)])
end
section
open V3 (dot ag aN smul)
theorem aGd{p:HS K}(h:ps[i]?=some p):(ps.map db)[i]?=some (db p):=by rw[wJ,h];rfl
theorem Nj{p:HS K}(h:ps[i]?=some p):dU prog 33 (bf ps) (i*40)=some (bE p.n):=RT (aGd h)
theorem RX{p:HS K}(h:ps[i]?=some p):dU prog 73 (bf ps) (i*40)=some (dK p):=xl (aGd h)
section
variable{Bs:aa}{ps:List RP}{m:Nat}
def HA(n i:Nat):aU:=[(3,vI i),(0,sl 0 n)]
def xC(ps:List RP):aL:=[(0,.view (dx ps))]
theorem aGe{n:Nat}{x:RP}(hi:i<n)(hx:ps[i]?=some x)(hs:Bk m x)(hm:m<=aF)(hb:sL x=true)(h63:n<9223372036854775807):
  ah prog Bs 16 (aK (ai f89 0)) (HA n i) (xC ps) 1 ⟨.normal,HA n (i+1),xC ps,1⟩:=by
 have hv:=XN hs hm;rw[hb]at hv;exact aG [.lt 7 i n true (aJ hi),.di f89 12 0 n i 40 hi k_,.ld f89 13 73 0 (i*40) (.view (dx ps)) x.v rfl (xl hx) k_,hv.at 14,.sum 9 i 1 (i+1) rfl o_]
theorem aSY{n:Nat}{x:RP}(hi:i<n)(hx:ps[i]?=some x)(hs:Bk m x)(hm:m<=aF)(hb:sL x=false):
  ah prog Bs 16 (aK (ai f89 0)) (HA n i) (xC ps) 1 ⟨.ret,[(2,.bool false)],xC ps,1⟩:=by
 have hv:=XN hs hm;rw[hb]at hv;exact aG [.lt 7 i n true (aJ hi),.di f89 12 0 n i 40 hi k_,.ld f89 13 73 0 (i*40) (.view (dx ps)) x.v rfl (xl hx) k_,hv.at 14]
theorem aGf(hs:∀ x∈ps,Bk m x)(hm:m<=aF)(h63:ps.length<9223372036854775807):cx prog 89 [.r ps.length (dx ps)] (.bool (ps.all sL)):=by
 have aC:([aQ.r ps.length (dx ps)].all aQ.ok)=true:=by simp only[eA,e8,aQ.ok,jf j6,iz]
 rcases De sL ps with h|⟨n,x,h1,h2,h3,h4⟩
 ·rw[h];have lo:∀ B:aa,ah prog B 16 (.block 0 (ai f89 0)) (HA ps.length 0) (xC ps) 1 ⟨.normal,[],xC ps,1⟩:=λB=>
   cg (id:=0) (cz ps.length (λi=>HA ps.length i) (λ_=>xC ps) (λi k _=>Iff.rfl) (r:=⟨.exit 0,[],xC ps,1⟩) (λi hi=>by have hx:ps[i]?=some ps[i]:=bt hi;exact aGe hi hx (hs _ (dy hi)) hm (E5 h hx) h63) (aG [.lt 7 ps.length ps.length false s_]) n_)
  exact dF func89 aC 16 (λw=>[.code 0 _ _ _ _ _ (lo _)])
 ·rw[h4];have ao:=(eP.1 h1).1;have lo:∀ B:aa,ah prog B 16 (.block 0 (ai f89 0)) (HA ps.length 0) (xC ps) 1 ⟨.ret,[(2,.bool false)],xC ps,1⟩:=λB=>
   cg (id:=0) (cz n (λi=>HA ps.length i) (λ_=>xC ps) (λi k _=>Iff.rfl) (r:=⟨.ret,[(2,.bool false)],xC ps,1⟩) (λi hi=>by
    have mB:i<ps.length:=by omega
    have hx:ps[i]?=some ps[i]:=bt mB;exact aGe mB hx (hs _ (dy mB)) hm (h3 i _ hi hx) h63) (aSY ao h1 (hs x (cM h1)) hm h2) n_)
  exact dF func89 aC 16 (λw=>[.code 0 _ _ _ _ _ (lo _)])
end
section
variable{Bs:aa}{ps:c_}{m:Nat}{d:V3 K}
def zy(ps:c_)(d:V3 K):Bool:=ps.all λp=>decide (OF.aE (dot p.n d)<=0)
def HB(n i:Nat):aU:=[(5,vI i),(0,sl 0 n),(3,ptr 1)]
def zz(ps:c_)(d:V3 K):aL:=[(0,.view (bf ps)),(1,.aI (cB d).cs 33)]
theorem RY(h:decide (z<=0)=!t):Value.bool (decide (z>0))=.bool t:=by
 congr 1
 cases t
 ·have:=jN h;exact aY o_
 ·have:=Ed h;exact aJ o_
theorem aGg{n:Nat}{p:HS K}(hi:i<n)(hx:ps[i]?=some p)(hp:bP m p)(hd:aD m d)(hm:100*m+1000<=aF)(hb:decide (OF.aE (dot p.n d)<=0)=true)(h63:n<9223372036854775807):
  ah prog Bs 21 (aK (ai f136 0)) (HB n i) (zz ps d) 2 ⟨.normal,HB n (i+1),zz ps d,2⟩:=
 aG [.lt 9 i n true (aJ hi),.di f136 14 0 n i 40 hi k_,.ld f136 16 33 0 (i*40) (.view (bf ps)) (bE p.n) rfl (Nj hx) k_,(aYl hp.1 hd o_).at 18,(aYc (hp.1.dot hd) o_).at 19,.rw 20 _ a_ (RY (t:=false) hb),.sum 11 i 1 (i+1) rfl o_]
theorem aSZ{n:Nat}{p:HS K}(hi:i<n)(hx:ps[i]?=some p)(hp:bP m p)(hd:aD m d)(hm:100*m+1000<=aF)(hb:decide (OF.aE (dot p.n d)<=0)=false):
  ah prog Bs 21 (aK (ai f136 0)) (HB n i) (zz ps d) 2 ⟨.ret,[(4,.bool false)],zz ps d,2⟩:=
 aG [.lt 9 i n true (aJ hi),.di f136 14 0 n i 40 hi k_,.ld f136 16 33 0 (i*40) (.view (bf ps)) (bE p.n) rfl (Nj hx) k_,(aYl hp.1 hd o_).at 18,(aYc (hp.1.dot hd) o_).at 19,.rw 20 _ b_ (RY (t:=true) hb)]
theorem RZ(hs:∀ p∈ps,bP m p)(hd:aD m d)(hm:100*m+1000<=aF)(h63:ps.length<9223372036854775807):cx prog 136 [.r ps.length (bf ps),.p (bE d)] (.bool (zy ps d)):=by
 have aC:([aQ.r ps.length (bf ps),.p (bE d)].all aQ.ok)=true:=by simp only[eA,e8,aQ.ok,iz];rw[show(bf ps).all flat=true from dp ps];rfl
 unfold zy;rcases De (λp=>decide (OF.aE (dot p.n d)<=0)) ps with h|⟨n,x,h1,h2,h3,h4⟩
 ·rw[h];have lo:∀ B:aa,ah prog B 21 (.block 0 (ai f136 0)) (HB ps.length 0) (zz ps d) 2 ⟨.normal,[],zz ps d,2⟩:=λB=>
   cg (id:=0) (cz ps.length (λi=>HB ps.length i) (λ_=>zz ps d) (λi k _=>Iff.rfl) (r:=⟨.exit 0,[],zz ps d,2⟩) (λi hi=>by have hx:ps[i]?=some ps[i]:=bt hi;exact aGg hi hx (hs _ (dy hi)) hd hm (E5 h hx) h63) (aG [.lt 9 ps.length ps.length false s_]) n_)
  exact dF func136 aC 21 (λw=>[.code 0 _ _ _ _ _ (lo _)])
 ·rw[h4];have ao:=(eP.1 h1).1;have lo:∀ B:aa,ah prog B 21 (.block 0 (ai f136 0)) (HB ps.length 0) (zz ps d) 2 ⟨.ret,[(4,.bool false)],zz ps d,2⟩:=λB=>
   cg (id:=0) (cz n (λi=>HB ps.length i) (λ_=>zz ps d) (λi k _=>Iff.rfl) (λi hi=>by
    have mB:i<ps.length:=by omega
    have hx:ps[i]?=some ps[i]:=bt mB;exact aGg mB hx (hs _ (dy mB)) hd hm (h3 i _ hi hx) h63) (aSZ ao h1 (hs x (cM h1)) hd hm h2) n_)
  exact dF func136 aC 21 (λw=>[.code 0 _ _ _ _ _ (lo _)])
end
def Df(ps:c_)(d:V3 K):Bool:=ps.all λp=>decide (dot p.n d=0)
def R0(ps:c_)(i:Nat):V3 K:=match ps[i]? with|some p=>p.n|none=>0
def ob(ps:c_)(i j:Nat):V3 K:=ag (R0 ps i) (R0 ps j)
def Br(ps:c_)(i j:Nat):Bool:=decide (ob ps i j≠0)&&(zy ps (ob ps i j)||zy ps (-ob ps i j))
def pT(ps:c_)(f:Bool)(i:Nat):Nat->Bool
 |0=>f
 |j+1=>if ob ps i j=0 then pT ps f i j else pT ps f i j&&Df ps (ob ps i j)
def nF(ps:c_):Nat->Bool
 |0=>true
 |i+1=>pT ps (nF ps i) i i
def E6(ps:c_)(i:Nat):Bool:=(List.range i).all λj=>!Br ps i j
def xD(ps:c_):Bool:=(List.range ps.length).all (E6 ps)&&!nF ps ps.length
theorem JP(b:Nat->Bool)(n:Nat):(List.range n).all b=true\/∃ e,e<n/\b e=false/\(∀ i,i<e->b i=true)/\(List.range n).all b=false:=by
 rcases De b (List.range n)with h|⟨e,x,h1,h2,h3,h4⟩
 ·exact .inl h
 ·have ao:=(eP.1 h1).1;rw[Ag]at ao;rw[Mi ao]at h1;injection h1 with h1;subst h1;exact .inr ⟨e,ao,h2,λi hi=>h3 i i hi (Mi o_),h4⟩
theorem JQ{b:Nat->Bool}{n:Nat}(h:(List.range n).all b=true)(hi:i<n):b i=true:=bC.1 h i (kh.2 hi)
section
variable{Bs:aa}{ps:c_}{m:Nat}{d:V3 K}
def HC(n k:Nat)(f:Bool):aU:=[(7,vI k),(0,sl 0 n),(3,.bool f),(6,ptr 1)]
def xE(ps:c_)(d:V3 K):aL:=[(0,.view (bf ps)),(1,.aI (cB d).cs 33)]
theorem aGh{n:Nat}{p:HS K}(hk:k<n)(hx:ps[k]?=some p)(hp:bP m p)(hd:aD m d)(hm:100*m+1000<=aF)(ht:decide (dot p.n d=0)=t)(h63:n<9223372036854775807):
  ah prog Bs 61 (aK (ai f90 4)) (HC n k true) (xE ps d) 2 ⟨.normal,HC n (k+1) t,xE ps d,2⟩:=by
 have h49:Value.bool (OF.aE (dot p.n d)==0)=.bool t:=by
  by_cases h:dot p.n d=0
  ·rw[aJ h]at ht;subst ht;exact zp ((OF.fU _).2 h)
  ·rw[aY h]at ht;subst ht;exact qA (λe=>h ((OF.fU _).1 e))
 exact aG [.lt 35 k n true (aJ hk),.di f90 43 0 n k 40 hk k_,.ld f90 45 33 0 (k*40) (.view (bf ps)) (bE p.n) rfl (Nj hx) k_,(aYl hp.1 hd o_).at 47,(aYc (hp.1.dot hd) o_).at 48,.rw 49 _ (.bool t) h49,.sum 40 k 1 (k+1) rfl o_]
theorem aGi{n:Nat}:ah prog Bs 61 (aK (ai f90 4)) (HC n k false) (xE ps d) 2 ⟨.exit 4,[(0,sl 0 n),(3,.bool false),(6,ptr 1)],xE ps d,2⟩:=by
 by_cases h:k<n
 ·exact aG [.lt 35 k n true (aJ h)]
 ·exact aG [.lt 35 k n false (aY h)]
theorem aGj(hs:∀ p∈ps,bP m p)(hd:aD m d)(hm:100*m+1000<=aF)(h63:ps.length<9223372036854775807)(f:Bool):
  ah prog Bs 61 (.block 4 (ai f90 4)) (HC ps.length 0 f) (xE ps d) 2 ⟨.normal,[(0,sl 0 ps.length),(3,.bool (f&&Df ps d)),(6,ptr 1)],xE ps d,2⟩:=by
 cases f with
 |false=>exact cg (id:=4) (cz 0 (λ_=>HC ps.length 0 false) (λ_=>xE ps d) (λ_ _ _=>Iff.rfl) (r:=⟨.exit 4,[(0,sl 0 ps.length),(3,.bool false),(6,ptr 1)],xE ps d,2⟩) (λi hi=>by omega) aGi n_)
 |true=>
  unfold Df;rcases De (λp=>decide (dot p.n d=0)) ps with h|⟨n,x,h1,h2,h3,h4⟩
  ·rw[h];exact cg (id:=4) (cz ps.length (λi=>HC ps.length i true) (λ_=>xE ps d) (λ_ _ _=>Iff.rfl) (r:=⟨.exit 4,[(0,sl 0 ps.length),(3,.bool true),(6,ptr 1)],xE ps d,2⟩) (λi hi=>by have hx:ps[i]?=some ps[i]:=bt hi;exact aGh hi hx (hs _ (dy hi)) hd hm (E5 h hx) h63) (aG [.lt 35 ps.length ps.length false s_]) n_)
  ·rw[h4];have ao:=(eP.1 h1).1;exact cg (id:=4) (cz (n+1) (λi=>HC ps.length i (decide (i<=n))) (λ_=>xE ps d) (λ_ _ _=>Iff.rfl) (r:=⟨.exit 4,[(0,sl 0 ps.length),(3,.bool false),(6,ptr 1)],xE ps d,2⟩) (λi hi=>by
    have mB:i<ps.length:=by omega
    have hx:ps[i]?=some ps[i]:=bt mB;simp only[aJ (show i<=n by omega)];refine aGh mB hx (hs _ (dy mB)) hd hm ?_ h63;by_cases he:i=n
    ·subst he;rw[hx]at h1;injection h1 with h1;rw[h1,h2];exact(aY o_).symm
    ·have:=h3 i _ o_ hx;rw[this];exact(aJ o_).symm) (by
    simp only[aY (show ¬n+1<=n by omega)];exact aGi) n_)
def zC(ps:c_)(f:Bool)(n i j:Nat):aU:=[(5,vI j),(4,vI i),(0,sl 0 n),(3,.bool (pT ps f i j))]
def oK(ps:c_):aL:=[(0,.view (bf ps))]
theorem JR{p:HS K}(h:ps[i]?=some p):R0 ps i=p.n:=by unfold R0;rw[h]
noncomputable def R1{n:Nat}{p q:HS K}(hi:i<n)(mX:j<i)(hp:ps[i]?=some p)(hq:ps[j]?=some q)(sp:bP m p)(sq:bP m q)(hm:1000*m+10000<=aF)(ht:decide (ag p.n q.n=0)=t)(more:bN prog Bs 61):bN prog Bs 61:=
 .lt 16 j i true (aJ mX)::.di f90 21 0 n i 40 hi k_::.ld f90 23 33 0 (i*40) (.view (bf ps)) (bE p.n) rfl (Nj hp) k_::.di f90 26 0 n j 40 o_ k_::.ld f90 28 33 0 (j*40) (.view (bf ps)) (bE q.n) rfl (Nj hq) k_::
 (aXG sp.1 sq.1 o_).at 29::(ht▸aYf (sp.1.ag sq.1) o_:aH prog 8 [bE (ag p.n q.n)] (.bool t)).at 31::more
theorem aGk(hs:∀ p∈ps,bP m p)(hm:1000*m+10000<=aF){f:Bool}(hi:i<ps.length)(mX:j<i)(hb:Br ps i j=false)(h63:ps.length<9223372036854775807):
  ah prog Bs 61 (aK (ai f90 2)) (zC ps f ps.length i j) (oK ps++marks 1 []) 1 ⟨.normal,ij 1 [] (zC ps f ps.length i (j+1)),oK ps++eg [] [],2⟩:=by
 have hj:j<ps.length:=by omega
 have hp:ps[i]?=some ps[i]:=bt hi;have hq:ps[j]?=some ps[j]:=bt hj;have sp:=hs _ (dy hi);have sq:=hs _ (dy hj);generalize ps[i]=p at *;generalize ps[j]=q at *;have hd:ob ps i j=ag p.n q.n:=by unfold ob;rw[JR hp,JR hq]
 have qg:∀ r∈ps,bP (4*m+9) r:=λr hr=>(hs r hr).mono o_;have Dg:aD (4*m+9) (ag p.n q.n):=(sp.1.ag sq.1).mono o_;unfold Br at hb;have er:pT ps f i (j+1)=if ob ps i j=0 then pT ps f i j else pT ps f i j&&Df ps (ob ps i j):=rfl
 unfold zC;rw[er];rw[hd]at hb ⊢;by_cases hz:ag p.n q.n=0
 ·rw[aA hz];exact aG (R1 hi mX hp hq sp sq hm (aJ hz) [.sum 18 j 1 (j+1) rfl o_])
 ·rw[au hz];rw[aJ hz,kp]at hb;have mK:zy ps (ag p.n q.n)=false:=by revert hb;cases zy ps (ag p.n q.n)<;>simp
  have gy:zy ps (-ag p.n q.n)=false:=by revert hb;cases zy ps (-ag p.n q.n)<;>simp
  have l1:=RZ qg Dg o_ h63;have l2:=RZ qg Dg.neg o_ h63;rw[mK]at l1;rw[gy]at l2;have c4:=aGj (Bs:=Bs) qg Dg o_ h63 (pT ps f i j);generalize pT ps f i j=ff at *;generalize (ff&&Df ps (ag p.n q.n))=fg at *;exact aG (R1 hi mX hp hq sp sq hm (aY hz) [.code 4 _ _ _ _ _ c4,.step 52 (az f90 52) [.func (.func 136) #[] #[],sl 0 ps.length,bE (ag p.n q.n)] [(0,some (.view (bf ps)))] a_ [] (dJ l1 (.w (x:=.view (bf ps)) rfl (dp ps) jt (.p rfl .nil)) (x:=.func 136) k_ k_ rfl),(aXx Dg o_).at 56,.step 57 (az f90 57) [.func (.func 136) #[] #[],sl 0 ps.length,bE (-ag p.n q.n)] [(0,some (.view (bf ps)))] a_ [] (dJ l2 (.w (x:=.view (bf ps)) rfl (dp ps) jt (.p rfl .nil)) (x:=.func 136) k_ k_ rfl),.sum 18 j 1 (j+1) rfl o_])
theorem aS0(hs:∀ p∈ps,bP m p)(hm:1000*m+10000<=aF){f:Bool}(hi:i<ps.length)(mX:j<i)(hb:Br ps i j=true)(h63:ps.length<9223372036854775807):
  ah prog Bs 61 (aK (ai f90 2)) (zC ps f ps.length i j) (oK ps++marks 1 []) 1 ⟨.ret,[(2,.bool false)],[],2⟩:=by
 have hj:j<ps.length:=by omega
 have hp:ps[i]?=some ps[i]:=bt hi;have hq:ps[j]?=some ps[j]:=bt hj;have sp:=hs _ (dy hi);have sq:=hs _ (dy hj);generalize ps[i]=p at *;generalize ps[j]=q at *;have hd:ob ps i j=ag p.n q.n:=by unfold ob;rw[JR hp,JR hq]
 have qg:∀ r∈ps,bP (4*m+9) r:=λr hr=>(hs r hr).mono o_;have Dg:aD (4*m+9) (ag p.n q.n):=(sp.1.ag sq.1).mono o_;unfold Br at hb;unfold zC;rw[hd]at hb;have hz:ag p.n q.n≠0:=by intro e;rw[aY (λh=>h e)]at hb;cases hb
 rw[aJ hz,kp]at hb;have l1:=RZ qg Dg o_ h63;have l2:=RZ qg Dg.neg o_ h63;have c4:=aGj (Bs:=Bs) qg Dg o_ h63 (pT ps f i j);generalize pT ps f i j=ff at *;generalize (ff&&Df ps (ag p.n q.n))=fg at *;rcases mK:zy ps (ag p.n q.n)with _|_
 ·rw[mK]at l1 hb;rw[Ao]at hb;rw[hb]at l2;exact aG (R1 hi mX hp hq sp sq hm (aY hz) [.code 4 _ _ _ _ _ c4,.step 52 (az f90 52) [.func (.func 136) #[] #[],sl 0 ps.length,bE (ag p.n q.n)] [(0,some (.view (bf ps)))] a_ [] (dJ l1 (.w (x:=.view (bf ps)) rfl (dp ps) jt (.p rfl .nil)) (x:=.func 136) k_ k_ rfl),(aXx Dg o_).at 56,.step 57 (az f90 57) [.func (.func 136) #[] #[],sl 0 ps.length,bE (-ag p.n q.n)] [(0,some (.view (bf ps)))] b_ [] (dJ l2 (.w (x:=.view (bf ps)) rfl (dp ps) jt (.p rfl .nil)) (x:=.func 136) k_ k_ rfl)])
 ·rw[mK]at l1;exact aG (R1 hi mX hp hq sp sq hm (aY hz) [.code 4 _ _ _ _ _ c4,.step 52 (az f90 52) [.func (.func 136) #[] #[],sl 0 ps.length,bE (ag p.n q.n)] [(0,some (.view (bf ps)))] b_ [] (dJ l1 (.w (x:=.view (bf ps)) rfl (dp ps) jt (.p rfl .nil)) (x:=.func 136) k_ k_ rfl)])
theorem aGl(q:Nat×Obj)(hq:q∈oK ps):fR 1 q.2:=by unfold oK at hq;simp at hq;subst hq;exact Ir (bC.1 (dp ps))
theorem aS1(hs:∀ p∈ps,bP m p)(hm:1000*m+10000<=aF){f:Bool}(hi:i<ps.length)(hb:E6 ps i=true)(h63:ps.length<9223372036854775807):
  ah prog Bs 61 (.block 2 (ai f90 2)) (zC ps f ps.length i 0) (oK ps) 1 ⟨.normal,[(4,vI i),(0,sl 0 ps.length),(3,.bool (pT ps f i i))],oK ps,1⟩:=by
 have:=rX (P:=prog) (B:=Bs) (N:=61) (b:=aK (ai f90 2)) (next:=1) (p:=0) (r:=⟨.exit 2,[(4,vI i),(0,sl 0 ps.length),(3,.bool (pT ps f i i))],oK ps,1⟩) i (zC ps f ps.length i) (λ_=>oK ps) (λ_=>[]) [] (λ_ _=>rfl)
  (λj _=>⟨aGl,λz hz=>by cases hz⟩) k_ k_
  (λj hj=>⟨[],2,k_,aGk hs hm hi hj (by have:=JQ hb hj;simpa using this) h63⟩)
  (aG [.lt 16 i i false s_]) n_
 exact cg (id:=2) this
theorem aS2(hs:∀ p∈ps,bP m p)(hm:1000*m+10000<=aF){f:Bool}(hi:i<ps.length)(hb:E6 ps i=false)(h63:ps.length<9223372036854775807):
  ah prog Bs 61 (.block 2 (ai f90 2)) (zC ps f ps.length i 0) (oK ps) 1 ⟨.ret,[(2,.bool false)],[],2⟩:=by
 rcases JP (λj=>!Br ps i j) i with h|⟨e,h1,h2,h3,_⟩
 ·unfold E6 at hb;rw[h]at hb;cases hb
 ·have:=rX (P:=prog) (B:=Bs) (N:=61) (b:=aK (ai f90 2)) (next:=1) (p:=0) (r:=⟨.ret,[(2,.bool false)],[],2⟩) e (zC ps f ps.length i) (λ_=>oK ps) (λ_=>[]) [] (λ_ _=>rfl)
   (λj _=>⟨aGl,λz hz=>by cases hz⟩) k_ k_
   (λj hj=>⟨[],2,k_,aGk hs hm hi o_ (by have:=h3 j hj;simpa using this) h63⟩)
   (aS0 hs hm hi h1 (by simpa using h2) h63) n_
  exact cg (id:=2) this
def zD(ps:c_)(n i:Nat):aU:=[(4,vI i),(0,sl 0 n),(3,.bool (nF ps i))]
theorem aGm(hs:∀ p∈ps,bP m p)(hm:1000*m+10000<=aF)(hi:i<ps.length)(hb:E6 ps i=true)(h63:ps.length<9223372036854775807):
  ah prog Bs 61 (aK (ai f90 0)) (zD ps ps.length i) (oK ps) 1 ⟨.normal,zD ps ps.length (i+1),oK ps,1⟩:=by
 have lo:=aS1 (Bs:=Bs) (f:=nF ps i) hs hm hi hb h63;unfold zC at lo;unfold zD;show ah _ _ _ _ _ _ _ ⟨.normal,[(4,vI (i+1)),(0,sl 0 ps.length),(3,.bool (pT ps (nF ps i) i i))],oK ps,1⟩;have e0:pT ps (nF ps i) i 0=nF ps i:=rfl;rw[e0]at lo;generalize pT ps (nF ps i) i i=g at *;generalize nF ps i=f at *;exact aG [.lt 11 i ps.length true (aJ hi),.code 2 _ _ _ _ _ lo,.sum 13 i 1 (i+1) rfl o_]
theorem aS3(hs:∀ p∈ps,bP m p)(hm:1000*m+10000<=aF)(hi:i<ps.length)(hb:E6 ps i=false)(h63:ps.length<9223372036854775807):
  ah prog Bs 61 (aK (ai f90 0)) (zD ps ps.length i) (oK ps) 1 ⟨.ret,[(2,.bool false)],[],2⟩:=by
 have lo:=aS2 (Bs:=Bs) (f:=nF ps i) hs hm hi hb h63;unfold zC at lo;unfold zD;have e0:pT ps (nF ps i) i 0=nF ps i:=rfl;rw[e0]at lo;generalize nF ps i=f at *;exact aG [.lt 11 i ps.length true (aJ hi),.code 2 _ _ _ _ _ lo]
theorem aS4(hs:∀ p∈ps,bP m p)(hm:1000*m+10000<=aF)(h63:ps.length<9223372036854775807):cx prog 90 [gm ps] (.bool (xD ps)):=by
 unfold xD;rcases JP (E6 ps) ps.length with h|⟨e,h1,h2,h3,h4⟩
 ·rw[h,kp];have lo:∀ B:aa,ah prog B 61 (.block 0 (ai f90 0)) (zD ps ps.length 0) (oK ps) 1 ⟨.normal,[(3,.bool (nF ps ps.length))],oK ps,1⟩:=λB=>
   cg (id:=0) (cz ps.length (zD ps ps.length) (λ_=>oK ps) (λ_ _ _=>Iff.rfl) (r:=⟨.exit 0,[(3,.bool (nF ps ps.length))],oK ps,1⟩) (λi hi=>aGm hs hm hi (JQ h hi) h63) (aG [.lt 11 ps.length ps.length false s_]) n_)
  unfold zD at lo;have e0:nF ps 0=true:=rfl;rw[e0]at lo;generalize nF ps ps.length=g at *;cases g<;>exact dF func90 (E4 ps) 61 (λw=>[.code 0 _ _ _ _ _ (lo _)])
 ·rw[h4,An];have lo:∀ B:aa,ah prog B 61 (.block 0 (ai f90 0)) (zD ps ps.length 0) (oK ps) 1 ⟨.ret,[(2,.bool false)],[],2⟩:=λB=>
   cg (id:=0) (cz e (zD ps ps.length) (λ_=>oK ps) (λ_ _ _=>Iff.rfl) (r:=⟨.ret,[(2,.bool false)],[],2⟩) (λi hi=>aGm hs hm o_ (h3 i hi) h63) (aS3 hs hm h1 h2 h63) n_)
  unfold zD at lo;have e0:nF ps 0=true:=rfl;rw[e0]at lo;exact dF func90 (E4 ps) 61 (λw=>[.code 0 _ _ _ _ _ (lo _)])
end
def aXI:e_->V3 K->List (V3 K)
 |[],v=>[v]
 |p::l,v=>if eK p v=0 then p::l else if 0<eK p v then v::p::l else p::aXI l v
theorem R2(v:V3 K):∀ vs:e_,(∃(i:Nat) (p:V3 K),vs[i]?=some p/\eK p v=0/\(∀(j:Nat) (q:V3 K),j<i->vs[j]?=some q->eK q v<0)/\aXI vs v=vs)\/
  ∃ i:Nat,i<=vs.length/\(∀(j:Nat) (q:V3 K),j<i->vs[j]?=some q->eK q v<0)/\(i=vs.length\/∃ p,vs[i]?=some p/\0<eK p v)/\aXI vs v=vs.take i++[v]++vs.drop i
 |[]=>.inr ⟨0,bF _,λj q hj=>by omega,.inl rfl,rfl⟩
 |p::l=>by
  unfold aXI;by_cases h0:eK p v=0
  ·rw[aA h0];exact .inl ⟨0,p,rfl,h0,λj q hj=>by omega,rfl⟩
  ·rw[au h0];by_cases h1:0<eK p v
   ·rw[aA h1];exact .inr ⟨0,lY _,λj q hj=>by omega,.inr ⟨p,rfl,h1⟩,rfl⟩
   ·rw[au h1];have dG:∀{i:Nat} (H:∀(j:Nat) (q:V3 K),j<i->l[j]?=some q->eK q v<0) (j:Nat) (q:V3 K),j<i+1->(p::l)[j]?=some q->eK q v<0:=λ{i} H j q hj hq=>by
     cases j with
     |zero=>simp at hq;subst hq;omega
     |succ j=>exact H j q o_ (by simpa using hq)
    rcases R2 v l with ⟨i,q,q1,q2,q3,q4⟩|⟨i,q1,q2,q3,q4⟩
    ·exact .inl ⟨i+1,q,by simpa using q1,q2,dG q3,by rw[q4]⟩
    ·refine .inr ⟨i+1,by simpa using q1,dG q2,?_,by rw[q4];rfl⟩;rcases q3 with h|⟨q,h,h2⟩
     ·exact .inl (by rw[h];rfl)
     ·exact .inr ⟨q,by simpa using h,h2⟩
theorem aS5{a b:Int}(h:decide (a=b)=t):Value.bool (a==b)=.bool t:=by
 by_cases e:a=b
 ·rw[aJ e]at h;subst h;exact zp e
 ·rw[aY e]at h;subst h;exact qA e
theorem aS6{vs:e_}{p:V3 K}(h:vs[i]?=some p):dU prog 33 (aP vs) (i*30)=some (bE p):=tQ (by rw[wJ,h];rfl)
theorem aGn(vs:e_)(i:Nat):(aP vs).drop (i*30)=aP (vs.drop i):=by unfold aP;rw[Wu gS,List.map_drop]
theorem R3(vs:e_)(i:Nat):(aP vs).take (i*30)=aP (vs.take i):=by unfold aP;rw[Wv gS,DC]
section
variable{Bs:aa}{vs:e_}{v:V3 K}{m:Nat}
def zE(n i:Nat):aU:=[(5,vI i),(0,sl 0 n),(3,ptr 1)]
def vk(vs:e_)(v:V3 K):aL:=[(0,.view (aP vs)),(1,.aI (cB v).cs 33)]
noncomputable def X9{n:Nat}{p:V3 K}(hi:i<n)(hp:vs[i]?=some p)(sp:aD m p)(sv:aD m v)(hm:8*m+100<=aF)(ht:decide (eK p v=0)=t)(more:bN prog Bs 36):bN prog Bs 36:=
 .lt 10 i n true (aJ hi)::.di f138 13 0 n i 30 hi k_::.ld f138 14 33 0 (i*30) (.view (aP vs)) (bE p) rfl (aS6 hp) k_::(aXY sp sv o_).at 16::.rw 18 _ (.bool t) (aS5 ht)::more
theorem aGo{n:Nat}{p:V3 K}(hi:i<n)(hp:vs[i]?=some p)(sp:aD m p)(sv:aD m v)(hm:8*m+100<=aF)(hb:eK p v<0)(h63:n<1000):
  ah prog Bs 36 (aK (ai f138 0)) (zE n i) (vk vs v) 2 ⟨.normal,zE n (i+1),vk vs v,2⟩:=
 aG (X9 hi hp sp sv hm (aY o_) [.rw 21 _ a_ (RY (z:=eK p v) (t:=false) (aJ o_)),.sum 23 i 1 (i+1) rfl o_])
theorem aS7{n:Nat}{p:V3 K}(hi:i<n)(hp:vs[i]?=some p)(sp:aD m p)(sv:aD m v)(hm:8*m+100<=aF)(hb:eK p v=0):
  ah prog Bs 36 (aK (ai f138 0)) (zE n i) (vk vs v) 2 ⟨.ret,[(4,sl 0 n)],vk vs v,2⟩:=
 aG (X9 hi hp sp sv hm (aJ hb) [])
theorem aS8{n:Nat}{p:V3 K}(hi:i<n)(hp:vs[i]?=some p)(sp:aD m p)(sv:aD m v)(hm:8*m+100<=aF)(hb:0<eK p v):
  ah prog Bs 36 (aK (ai f138 0)) (zE n i) (vk vs v) 2 ⟨.exit 0,zE n i,vk vs v,2⟩:=
 aG (X9 hi hp sp sv hm (aY o_) [.rw 21 _ b_ (RY (z:=eK p v) (t:=true) (aY o_))])
theorem aS9(hs:∀ p∈vs,aD m p)(sv:aD m v)(hm:8*m+100<=aF)(h63:vs.length<1000)(hi:i<=vs.length)(h1:∀(j:Nat) (q:V3 K),j<i->vs[j]?=some q->eK q v<0)(h2:i=vs.length\/∃ p,vs[i]?=some p/\0<eK p v):
  ah prog Bs 36 (.block 0 (ai f138 0)) (zE vs.length 0) (vk vs v) 2 ⟨.normal,zE vs.length i,vk vs v,2⟩:=
 cg (id:=0) (cz i (zE vs.length) (λ_=>vk vs v) (λ_ _ _=>Iff.rfl) (r:=⟨.exit 0,zE vs.length i,vk vs v,2⟩) (λj hj=>by
  have hx:vs[j]?=some vs[j]:=bt o_;exact aGo o_ hx (hs _ (dy _)) sv hm (h1 j _ hj hx) h63) (by
  rcases h2 with rfl|⟨p,h2,h3⟩
  ·exact aG [.lt 10 vs.length vs.length false s_]
  ·exact aS8 (eP.1 h2).1 h2 (hs p (cM h2)) sv hm h3) n_)
theorem aTa(hs:∀ p∈vs,aD m p)(sv:aD m v)(hm:8*m+100<=aF)(h63:vs.length<1000){p:V3 K}(hp:vs[i]?=some p)(h0:eK p v=0)(h1:∀(j:Nat) (q:V3 K),j<i->vs[j]?=some q->eK q v<0)(gQ:dr w va vs.length (aP vs)):
  Calls prog 138 #[va,bE v] w λe w'=>e=.returned va/\Below w.heap.size w w':=by
 have hl:∀ s∈[cJ.row va vs.length (aP vs),cJ.plain (bE v)],s.OK w:=by
  intro s hs;simp at hs;rcases hs with rfl|rfl
  ·exact⟨gQ,bC.1 (dR _)⟩
  ·rfl
 have ao:=(eP.1 hp).1;have lo:ah prog (aa.at w) 36 (.block 0 (ai f138 0)) (zE vs.length 0) (vk vs v) 2 ⟨.ret,[(4,sl 0 vs.length)],vk vs v,2⟩:=
  cg (id:=0) (cz i (zE vs.length) (λ_=>vk vs v) (λ_ _ _=>Iff.rfl) (r:=⟨.ret,[(4,sl 0 vs.length)],vk vs v,2⟩) (λj hj=>by have hx:vs[j]?=some vs[j]:=bt o_;exact aGo o_ hx (hs _ (dy _)) sv hm (h1 j _ hj hx) h63) (aS7 ao hp (hs p (cM hp)) sv hm h0) n_)
 refine mN (Q:=λe w'=>e=.returned va/\Below w.heap.size w w') mixed func138 [cJ.row va vs.length (aP vs),cJ.plain (bE v)] hl 100 (N:=36) k_
  (rs:=[(.code 0 _ _ _ _ _ lo:aZ prog (aa.at w) 36)]) (v:=sl 0 vs.length) (ms:=[]) k_ λaB cr v' w' kS bJ _ dP=>⟨?_,bJ.base⟩
 cases dP with
 |cons h5 _=>rw[Kz kS h5];rfl
end
section
variable{vs:e_}{v:V3 K}{m:Nat}
noncomputable def Ya(Bs:aa)(vs:e_)(v:V3 K)(i:Nat)(hi:i<=vs.length)(h63:vs.length<1000)(more:bN prog Bs 36):bN prog Bs 36:=
 .Mw f138 24 2 33 30 zV.v k_::.upto f138 27 0 vs.length i 30 hi k_::
 .RQ f138 28 3 2 0 i i 33 30 360 0 0 [] 0 (.view (aP vs)) (aP (vs.take i)) (kT i) rfl (by
   show((aP vs).drop 0 |>.take (i*30)).length=i*30;rw[nk,R3,sH,jV,oQ hi]) rfl (by
   show[]++(((aP vs).drop 0).take (i*30))=_;rw[nk,R3];rfl) (Mm vs) d_ (by simp[maxLen];omega) o_ k_::
 .bs f138 30 4 1 33 30 [0] zV.v [bE v] (aP [v]).toArray (.row (aP [v]) 33 30) rfl (bC.1 k_) (bC.1 (dR _)) k_ k_ d_ d_ k_::
 .qX f138 31 5 3 i 1 (i+1) 33 30 360 (aP (vs.take i)) 4 (.row (aP [v]) 33 30) (aP (vs.take i++[v])) rfl rfl (sH _) (by rw[sH,jV,oQ hi]) (QN _ _) (Mm _) d_ (by simp[maxLen];omega) o_ k_::more
theorem aTb(hs:∀ p∈vs,aD m p)(sv:aD m v)(hm:8*m+100<=aF)(h63:vs.length<1000)(hi:i<=vs.length)(h1:∀(j:Nat) (q:V3 K),j<i->vs[j]?=some q->eK q v<0)(h2:i=vs.length\/∃ p,vs[i]?=some p/\0<eK p v):
  mz prog 138 [wj vs,.p (bE v)] 33 30 (vs.length+1) (aP (vs.take i++[v]++vs.drop i)):=by
 have aC:([wj vs,aQ.p (bE v)].all aQ.ok)=true:=by simp only[eA,e8,iz];rw[show(wj vs).ok=true from dR vs];rfl
 have lo:=λBs=>aS9 (Bs:=Bs) hs sv hm h63 hi h1 h2;have hlen:(aP (vs.take i++[v]++vs.drop i)).length=(vs.length+1)*30:=by
  rw[sH];congr 1
  simp[jV];omega
 have gD:(aP (vs.take i++[v])).length=(i+1)*30:=by
  rw[sH];congr 1
  simp[jV];omega
 rcases fo i vs.length with ao|gw
 ·refine yK (k:=6) mixed func138 aC 200 (N:=36) k_ (λw=>.code 0 _ _ _ _ _ (lo _)::Ya _ vs v i hi h63 [.behind f138 34 0 vs.length i (vs.length-i) 30 o_ o_ k_,.RQ f138 35 6 5 (i+1) (vs.length-i) (vs.length+1) 33 30 360 (i*30) i (aP (vs.take i++[v])) 0 (.view (aP vs)) (aP (vs.take i++[v]++vs.drop i)) o_ rfl (by
    show(((aP vs).drop (i*30)).take ((vs.length-i)*30)).length=(vs.length-i)*30;rw[aGn,R3,sH,jV,wI,Nat.min_self]) gD (by
    show _++(((aP vs).drop (i*30)).take ((vs.length-i)*30))=_;rw[aGn,R3,show(vs.drop i).take (vs.length-i)=vs.drop i from lh (by rw[wI];exact bF _),QN]) (Mm vs) d_ (by simp[maxLen];omega) o_ k_]) (λw=>k_) (dR _) hlen
 ·have cy:i=vs.length:=by omega
  subst cy;have e:vs.take vs.length++[v]++vs.drop vs.length=vs.take vs.length++[v]:=by rw[List.drop_length,jZ]
  rw[e]at hlen ⊢;by_cases h0:vs.length=0
  ·refine yK (k:=6) mixed func138 aC 200 (N:=36) k_ (λw=>.code 0 _ _ _ _ _ (lo _)::Ya _ vs v vs.length hi h63 [.rw 33 (vI vs.length) (vI 0) (by rw[h0]),.aSw f138 34 0 vs.length 30 k_,.RQ f138 35 6 5 (vs.length+1) vs.length (vs.length+1) 33 30 360 0 0 (aP (vs.take vs.length++[v])) 0 (.view (aP vs)) (aP (vs.take vs.length++[v])) o_ rfl (by
     show(((aP vs).drop 0).take (vs.length*30)).length=vs.length*30;rw[h0];rfl) gD (by
     show _++(((aP vs).drop 0).take (vs.length*30))=_;rw[show((aP vs).drop 0).take (vs.length*30)=[]by rw[h0,l9,aA9]];exact jZ _) (Mm vs) d_ (by simp[maxLen];omega) o_ k_]) (λw=>k_) (dR _) hlen
  ·refine yK (k:=7) mixed func138 aC 200 (N:=36) k_ (λw=>.code 0 _ _ _ _ _ (lo _)::Ya _ vs v vs.length hi h63 [.aSy f138 34 0 0 vs.length 0 30 6 (.view (aP vs)) rfl k_,.qX f138 35 7 5 (vs.length+1) 0 (vs.length+1) 33 30 360 (aP (vs.take vs.length++[v])) 6 (.view []) (aP (vs.take vs.length++[v])) rfl rfl rfl gD (jZ _) n_ d_ (by simp[maxLen];omega) o_ k_]) (λw=>k_) (dR _) hlen
end
def eR(ps:c_)(i:Nat):HS K:=match ps[i]? with|some p=>p|none=>⟨0,0⟩
theorem qC{p:HS K}(h:ps[i]?=some p):eR ps i=p:=by unfold eR;rw[h]
def JS(i j k:Nat)(x:V3 K)(l:Nat)(p:HS K):Bool:=decide (l=i)||(decide (l=j)||(decide (l=k)||decide (OF.aE (dot p.n x-p.d)<=0)))
def Bt(ps:c_)(i j k:Nat)(x:V3 K):Bool:=(List.range ps.length).all λl=>JS i j k x l (eR ps l)
def vl(ps:c_)(acc:e_)(i j k:Nat):e_:=
 if aN (eR ps i).n (eR ps j).n (eR ps k).n=0 then acc else if Bt ps i j k (lT (eR ps i) (eR ps j) (eR ps k))then aXI acc (lT (eR ps i) (eR ps j) (eR ps k))else acc
theorem aTc{vs:e_}{v:V3 K}{m:Nat}(hs:∀ p∈vs,aD m p)(sv:aD m v)(hm:8*m+100<=aF)(h63:vs.length<1000){p:V3 K}(hp:vs[i]?=some p)(h0:eK p v=0)(h1:∀(j:Nat) (q:V3 K),j<i->vs[j]?=some q->eK q v<0)
  {o:Oper} {y:m_} (ho:dC o.op=some y) (k:Nat):cI prog Bs o [.func (.func 138) #[] #[],sl k vs.length,bE v] [(k,some (.row (aP vs) 33 30))] (sl k vs.length) []:=by
 refine kj (fi:=[]) (ca:=[]) ho k_ λι c w bJ hn args' bo=>?_;rw[jJ,jZ]at bo;obtain⟨va,vb,rfl,hv,iF⟩:=jH bo;rw[iF.fH rfl];have hk:c k=some _:=hn _ (aR ..);have hr:=pA (len:=vs.length*30) bJ hk rfl (bC.1 (dR vs)) (λh=>by rw[h]) hv;have e:(((Obj.row (aP vs) 33 30).cells.drop 0).take (vs.length*30))=aP vs:=by show((aP vs).drop 0).take (vs.length*30)=_;rw[nk,lh (by rw[sH];exact bF _)]
 rw[e]at hr;refine(aTa hs sv hm h63 hp h0 h1 hr).mono ?_
 rintro e w' ⟨rfl,hb⟩
 exact⟨ι,_,rfl,Map.le.refl _,hv,bJ.call hb⟩
section
variable{Bs:aa}{ps:c_}{m:Nat}
def JT(n i j k l:Nat)(f:Bool):aU:=[(10,vI l),(9,.bool f),(0,sl 0 n),(4,vI i),(5,vI j),(6,vI k),(7,ptr 4)]
def Bu(ps:c_)(x:V3 K):aL:=[(0,.view (bf ps)),(4,.aI (cB x).cs 33)]
theorem aGp{l:Nat}{p:HS K}{x:V3 K}(hl:l<ps.length)(hp:ps[l]?=some p)(sp:bP m p)(sx:aD m x)(pn:p.n≠0)(hm:100*m+1000<=aF)(ht:JS i j k x l p=t)(h63:ps.length<1000):
  ah prog Bs 81 (aK (ai f91 6)) (JT ps.length i j k l true) (Bu ps x) 5 ⟨.normal,JT ps.length i j k (l+1) t,Bu ps x,5⟩:=by
 unfold JS at ht;have sd:=aXu sp sx o_ pn;by_cases h1:l=i
 ·rw[aJ h1,FI]at ht;subst ht;exact aG [.lt 48 l ps.length true (aJ hl),.gH 56 l i true (aJ h1),.sum 53 l 1 (l+1) rfl o_]
 rw[aY h1,Ao]at ht;by_cases h2:l=j
 ·rw[aJ h2,FI]at ht;subst ht;exact aG [.lt 48 l ps.length true (aJ hl),.gH 56 l i false (aY h1),.gH 60 l j true (aJ h2),.sum 53 l 1 (l+1) rfl o_]
 rw[aY h2,Ao]at ht;by_cases h3:l=k
 ·rw[aJ h3,FI]at ht;subst ht;exact aG [.lt 48 l ps.length true (aJ hl),.gH 56 l i false (aY h1),.gH 60 l j false (aY h2),.gH 65 l k true (aJ h3),.sum 53 l 1 (l+1) rfl o_]
 rw[aY h3,Ao]at ht;exact aG [.lt 48 l ps.length true (aJ hl),.gH 56 l i false (aY h1),.gH 60 l j false (aY h2),.gH 65 l k false (aY h3),.di f91 70 0 ps.length l 40 hl k_,.ld f91 71 73 0 (l*40) (.view (bf ps)) (dK p) rfl (RX hp) k_,sd.at 73,.rw 74 (.bool (decide (OF.aE (dot p.n x-p.d)<=0))) (.bool t) (by rw[ht]),.sum 53 l 1 (l+1) rfl o_]
theorem aTd{l:Nat}{x:V3 K}:ah prog Bs 81 (aK (ai f91 6)) (JT ps.length i j k l false) (Bu ps x) 5 ⟨.exit 6,[(9,.bool false)],Bu ps x,5⟩:=by
 by_cases h:l<ps.length
 ·exact aG [.lt 48 l ps.length true (aJ h)]
 ·exact aG [.lt 48 l ps.length false (aY h)]
theorem aTe{x:V3 K}(hs:∀ p∈ps,bP m p/\p.n≠0)(sx:aD m x)(hm:100*m+1000<=aF)(h63:ps.length<1000):
  ah prog Bs 81 (.block 6 (ai f91 6)) (JT ps.length i j k 0 true) (Bu ps x) 5 ⟨.normal,[(9,.bool (Bt ps i j k x))],Bu ps x,5⟩:=by
 unfold Bt;rcases JP (λl=>JS i j k x l (eR ps l)) ps.length with h|⟨n,hn,h2,h3,h4⟩
 ·rw[h];exact cg (id:=6) (cz ps.length (λl=>JT ps.length i j k l true) (λ_=>Bu ps x) (λ_ _ _=>Iff.rfl) (r:=⟨.exit 6,[(9,.bool true)],Bu ps x,5⟩) (λl hl=>by have hx:ps[l]?=some ps[l]:=bt hl;have:=JQ h hl;rw[qC hx]at this;exact aGp hl hx (hs _ (dy hl)).1 sx (hs _ (dy hl)).2 hm this h63) (aG [.lt 48 ps.length ps.length false s_]) n_)
 ·rw[h4];exact cg (id:=6) (cz (n+1) (λl=>JT ps.length i j k l (decide (l<=n))) (λ_=>Bu ps x) (λ_ _ _=>Iff.rfl) (r:=⟨.exit 6,[(9,.bool false)],Bu ps x,5⟩) (λl hl=>by
   have mB:l<ps.length:=by omega
   have hx:ps[l]?=some ps[l]:=bt mB;simp only[aJ (show l<=n by omega)];refine aGp mB hx (hs _ (dy mB)).1 sx (hs _ (dy mB)).2 hm ?_ h63;by_cases he:l=n
   ·subst he;rw[qC hx]at h2;rw[h2];exact(aY o_).symm
   ·have:=h3 l o_;rw[qC hx]at this;rw[this];exact(aJ o_).symm) (by
   simp only[aY (show ¬n+1<=n by omega)];exact aTd) n_)
def Nk(n i j k L:Nat):aU:=[(6,vI k),(5,vI j),(4,vI i),(0,sl 0 n),(3,sl 3 L)]
def pg(ps:c_):aL:=[(0,.view (bf ps))]
def ph(acc:e_):List Obj:=[.row (aP acc) 33 30]
noncomputable def R4{p q r:HS K}(hi:i<ps.length)(hj:j<i)(hk:k<j)(hp:ps[i]?=some p)(hq:ps[j]?=some q)(hr:ps[k]?=some r)(sp:bP m p)(sq:bP m q)(sr:bP m r)(pn:p.n≠0)(qn:q.n≠0)(rn:r.n≠0)(hm:200*m+1000<=aF)
  (hu:(if aN p.n q.n r.n=0 then Value.tuple #[zV.v,.int .i64 11]else .tuple #[bE (lT p q r),.int .i64 0])=u) (more:bN prog Bs 81):bN prog Bs 81:=
 .lt 24 k j true (aJ hk)::.di f91 30 0 ps.length i 40 hi k_::.ld f91 31 73 0 (i*40) (.view (bf ps)) (dK p) rfl (RX hp) k_::.di f91 34 0 ps.length j 40 o_ k_::.ld f91 35 73 0 (j*40) (.view (bf ps)) (dK q) rfl (RX hq) k_::
 .di f91 38 0 ps.length k 40 o_ k_::.ld f91 39 73 0 (k*40) (.view (bf ps)) (dK r) rfl (RX hr) k_::(hu▸aRg sp sq sr hm pn qn rn:aH prog 137 [dK p,dK q,dK r] u).at 40::more
theorem aTf{M:Nat}(hs:∀ p∈ps,bP m p/\p.n≠0)(hm:200*m+1000<=aF)(hM:120*m+365<=M)(Bv:100*M+1000<=aF)(ha:∀ v∈acc,aD M v)(hL:acc.length<1000)(hi:i<ps.length)(hj:j<i)(hk:k<j)(h63:ps.length<1000):
  ∃ σ gG,(∀ C0:e_,D2 (pg ps++eg [some 2] (ph C0)) 3 σ (Nk ps.length i j (k+1) (vl ps acc i j k).length) (pg ps) (ph (vl ps acc i j k))=true)/\
   ah prog Bs 81 (aK (ai f91 4)) (Nk ps.length i j k acc.length) (pg ps++marks 3 (ph acc)) 4 ⟨.normal,ij 3 σ (Nk ps.length i j (k+1) (vl ps acc i j k).length),pg ps++eg σ (ph (vl ps acc i j k)),gG⟩:=by
 have hp:ps[i]?=some ps[i]:=bt hi;have hq:ps[j]?=some ps[j]:=bt o_;have hr:ps[k]?=some ps[k]:=bt o_;obtain⟨sp,pn⟩:=hs _ (dy hi);obtain⟨sq,qn⟩:=hs _ (dy (show j<ps.length by omega));obtain⟨sr,rn⟩:=hs _ (dy (show k<ps.length by omega));unfold vl;rw[qC hp,qC hq,qC hr];generalize ps[i]=p at *;generalize ps[j]=q at *;generalize ps[k]=r at *;by_cases hd:aN p.n q.n r.n=0
 ·rw[aA hd];refine⟨[some 3],5,λC0=>k_,?_⟩;exact fv mixed 200 (R4 hi hj hk hp hq hr sp sq sr pn qn rn hm (aA hd) [.sum 26 k 1 (k+1) rfl o_]) k_
 ·rw[au hd];have sx:aD M (lT p q r):=(aD.lT sp sq sr hd).mono hM;have mM:m<=M:=by clear hm Bv;omega
  have qg:∀ p∈ps,bP M p/\p.n≠0:=λt ht=>⟨(hs t ht).1.mono mM,(hs t ht).2⟩;have lo:=aTe (Bs:=Bs) (i:=i) (j:=j) (k:=k) qg sx Bv h63;generalize lT p q r=x at *;by_cases hb:Bt ps i j k x=true
  ·rw[aA hb];rw[hb]at lo;rcases R2 x acc with ⟨t,y,h1,h2,h3,h4⟩|⟨t,h1,h2,h3,h4⟩
   ·rw[h4];refine⟨[some 3],5,λC0=>k_,?_⟩;exact fv mixed 200 (R4 hi hj hk hp hq hr sp sq sr pn qn rn hm (au hd) [.code 6 _ _ _ _ _ lo,.step 79 (az f91 79) [.func (.func 138) #[] #[],sl 3 acc.length,bE x] [(3,some (.row (aP acc) 33 30))] (sl 3 acc.length) [] (aTc ha sx (by clear hm;omega) hL h1 h2 h3 (y:=.func 138) k_ 3),.sum 26 k 1 (k+1) rfl o_]) k_
   ·have hlen:(aXI acc x).length=acc.length+1:=by rw[h4];simp only[lH,jV,wI,QA];omega
    have hc:=aTb ha sx (by clear hm;omega) hL h1 h2 h3;rw[<-h4]at hc;rw[hlen];generalize aXI acc x=aGq at *;refine⟨[some 5],6,λC0=>k_,?_⟩;exact fv mixed 200 (R4 hi hj hk hp hq hr sp sq sr pn qn rn hm (au hd) [.code 6 _ _ _ _ _ lo,.step 79 (az f91 79) [.func (.func 138) #[] #[],sl 3 acc.length,bE x] [(5,none),(3,some (.row (aP acc) 33 30))] (sl 5 (acc.length+1)) [(5,.row (aP aGq) 33 30)]
      (sn hc (.w (x:=.row (aP acc) 33 30) rfl (dR acc) wk (.p k_ .nil)) (x:=.func 138) k_ k_ (dR aGq) 5),
     .sum 26 k 1 (k+1) rfl o_]) k_
  ·have ki:Bt ps i j k x=false:=by cases h:Bt ps i j k x<;>first|rfl|exact absurd h hb
   rw[au hb];rw[ki]at lo;refine⟨[some 3],5,λC0=>k_,?_⟩;exact fv mixed 200 (R4 hi hj hk hp hq hr sp sq sr pn qn rn hm (au hd) [.code 6 _ _ _ _ _ lo,.sum 26 k 1 (k+1) rfl o_]) k_
end
def pU(ps:c_)(acc:e_)(i j:Nat):Nat->List (V3 K)
 |0=>acc
 |k+1=>vl ps (pU ps acc i j k) i j k
def oL(ps:c_)(acc:e_)(i:Nat):Nat->List (V3 K)
 |0=>acc
 |j+1=>pU ps (oL ps acc i j) i j j
def sT(ps:c_):Nat->List (V3 K)
 |0=>[]
 |i+1=>oL ps (sT ps i) i i
def fO(ps:c_):e_:=sT ps ps.length
theorem aTg{v x:V3 K}:∀{vs:e_},x∈aXI vs v->x∈vs\/x=v:=λ{vs} h=>by
 rcases R2 v vs with ⟨_,_,_,_,_,h4⟩|⟨t,_,_,_,h4⟩
 ·rw[h4]at h;exact .inl h
 ·rw[h4]at h;simp only[fh,CQ]at h;rcases h with (h|h)|h
  ·exact .inl (Jn h)
  ·exact .inr h
  ·exact .inl (XX h)
theorem aTh(v:V3 K)(vs:e_):(aXI vs v).length<=vs.length+1:=by
 rcases R2 v vs with ⟨_,_,_,_,_,h4⟩|⟨t,_,_,_,h4⟩
 ·rw[h4];omega
 ·rw[h4];simp only[lH,jV,wI,QA];omega
theorem aTi(ps:c_)(acc:e_)(i j k:Nat):(vl ps acc i j k).length<=acc.length+1:=by
 unfold vl;by_cases h:aN (eR ps i).n (eR ps j).n (eR ps k).n=0
 ·rw[aA h];omega
 ·rw[au h];split
  ·exact aTh _ _
  ·omega
theorem Yb{m:Nat}(hs:∀ p∈ps,bP m p/\p.n≠0)(hi:i<ps.length):bP m (eR ps i):=by rw[qC (bt hi)];exact(hs _ (dy hi)).1
theorem aTj{m M:Nat}(hs:∀ p∈ps,bP m p/\p.n≠0)(hM:120*m+365<=M)(ha:∀ v∈acc,aD M v)(hi:i<ps.length)(hj:j<ps.length)(hk:k<ps.length):∀ v∈vl ps acc i j k,aD M v:=by
 unfold vl;by_cases h:aN (eR ps i).n (eR ps j).n (eR ps k).n=0
 ·rw[aA h];exact ha
 ·rw[au h];split
  ·intro v hv;rcases aTg hv with hv|hv
   ·exact ha v hv
   ·rw[hv];exact(aD.lT (Yb hs hi) (Yb hs hj) (Yb hs hk) h).mono hM
  ·exact ha
section
variable{ps:c_}{m M:Nat}
theorem Yc(hs:∀ p∈ps,bP m p/\p.n≠0)(hM:120*m+365<=M){acc:e_}(ha:∀ v∈acc,aD M v){i j:Nat}(hi:i<ps.length)(hj:j<i):∀ k,k<=j->(∀ v∈pU ps acc i j k,aD M v)/\(pU ps acc i j k).length<=acc.length+k
 |0,_=>⟨ha,bF _⟩
 |k+1,h=>by obtain⟨h1,h2⟩:=Yc hs hM ha hi hj k o_;have:=aTi ps (pU ps acc i j k) i j k;exact⟨aTj hs hM h1 hi o_ o_,by unfold pU;omega⟩
theorem Yd(hs:∀ p∈ps,bP m p/\p.n≠0)(hM:120*m+365<=M)(h9:ps.length<=9){acc:e_}(ha:∀ v∈acc,aD M v){i:Nat}(hi:i<ps.length):∀ j,j<=i->(∀ v∈oL ps acc i j,aD M v)/\(oL ps acc i j).length<=acc.length+9*j
 |0,_=>⟨ha,bF _⟩
 |j+1,h=>by obtain⟨h1,h2⟩:=Yd hs hM h9 ha hi j o_;obtain⟨h3,h4⟩:=Yc hs hM h1 hi (show j<i by omega) j (bF _);exact⟨h3,by unfold oL;omega⟩
theorem Ye(hs:∀ p∈ps,bP m p/\p.n≠0)(hM:120*m+365<=M)(h9:ps.length<=9):∀ i,i<=ps.length->(∀ v∈sT ps i,aD M v)/\(sT ps i).length<=81*i
 |0,_=>⟨λv hv=>(by cases hv),bF _⟩
 |i+1,h=>by obtain⟨h1,h2⟩:=Ye hs hM h9 i o_;obtain⟨h3,h4⟩:=Yd hs hM h9 h1 (show i<ps.length by omega) i (bF _);exact⟨h3,by unfold sT;omega⟩
theorem Yf{m:Nat}:∀ x∈pg ps,fR m x.2:=λx hx=>by simp only[pg,cE,jR,jS]at hx;subst hx;exact λv hv=>gP (bC.1 (dp ps) v hv)
theorem Yg{m:Nat}:∀ x∈ph acc,fR m x:=λx hx=>by simp only[ph,cE,jR,jS]at hx;subst hx;exact λv hv=>gP (bC.1 (dR acc) v hv)
variable{Bs:aa}
theorem aTk(hs:∀ p∈ps,bP m p/\p.n≠0)(hm:200*m+1000<=aF)(hM:120*m+365<=M)(Bv:100*M+1000<=aF)(ha:∀ v∈acc,aD M v)(hi:i<ps.length)(hj:j<i)(h9:ps.length<=9)(hL:acc.length+j<1000):
  ah prog Bs 81 (.block 4 (ai f91 4)) (ij 3 [some 2] (Nk ps.length i j 0 acc.length)) (pg ps++eg [some 2] (ph acc)) 3 ⟨.normal,[(3,sl 3 (pU ps acc i j j).length)],pg ps++marks 3 (ph (pU ps acc i j j)),4⟩:=by
 have:=rX (P:=prog) (B:=Bs) (N:=81) (b:=aK (ai f91 4)) (next:=3) (p:=1) (r:=⟨.exit 4,[(3,sl 3 (pU ps acc i j j).length)],pg ps++marks 3 (ph (pU ps acc i j j)),4⟩) j
  (λk=>Nk ps.length i j k (pU ps acc i j k).length) (λ_=>pg ps) (λk=>ph (pU ps acc i j k)) [some 2] (λ_ _=>rfl) (λ_ _=>⟨Yf,Yg⟩) k_ k_
  (λk hk=>by obtain⟨h1,h2⟩:=Yc hs hM ha hi hj k o_;obtain⟨σ,gG,e1,e2⟩:=aTf (Bs:=Bs) hs hm hM Bv h1 o_ hi hj hk o_;exact⟨σ,gG,e1 _,e2⟩)
  (by generalize pU ps acc i j j=a;exact aG [.lt 24 j j false s_]) n_
 exact cg (id:=4) this
def Yh(n i j L:Nat):aU:=[(5,vI j),(4,vI i),(0,sl 0 n),(3,sl 2 L)]
theorem aTl(hs:∀ p∈ps,bP m p/\p.n≠0)(hm:200*m+1000<=aF)(hM:120*m+365<=M)(Bv:100*M+1000<=aF)(ha:∀ v∈acc,aD M v)(hi:i<ps.length)(h9:ps.length<=9)(hL:acc.length+9*i<1000):
  ah prog Bs 81 (.block 2 (ai f91 2)) (ij 2 [some 1] (Yh ps.length i 0 acc.length)) (pg ps++eg [some 1] (ph acc)) 2 ⟨.normal,[(3,sl 2 (oL ps acc i i).length)],pg ps++marks 2 (ph (oL ps acc i i)),3⟩:=by
 have:=rX (P:=prog) (B:=Bs) (N:=81) (b:=aK (ai f91 2)) (next:=2) (p:=1) (r:=⟨.exit 2,[(3,sl 2 (oL ps acc i i).length)],pg ps++marks 2 (ph (oL ps acc i i)),3⟩) i
  (λj=>Yh ps.length i j (oL ps acc i j).length) (λ_=>pg ps) (λj=>ph (oL ps acc i j)) [some 1] (λ_ _=>rfl) (λ_ _=>⟨Yf,Yg⟩) k_ k_
  (λj hj=>by obtain⟨h1,h2⟩:=Yd hs hM h9 ha hi j o_;have lo:=aTk (Bs:=Bs) hs hm hM Bv h1 hi hj h9 o_;refine⟨[some 3],4,k_,?_⟩;show ah _ _ _ _ _ _ _ ⟨.normal,ij 2 [some 3] (Yh ps.length i (j+1) (pU ps (oL ps acc i j) i j j).length),pg ps++eg [some 3] (ph (pU ps (oL ps acc i j) i j j)),4⟩;generalize oL ps acc i j=a at *;generalize pU ps a i j j=b at *;exact aG [.lt 19 j i true (aJ hj),.code 4 _ _ _ _ _ lo,.sum 21 j 1 (j+1) rfl o_])
  (by generalize oL ps acc i i=a;exact aG [.lt 19 i i false s_]) n_
 exact cg (id:=2) this
def Yi(n i L:Nat):aU:=[(4,vI i),(0,sl 0 n),(3,sl 1 L)]
theorem aTm(hs:∀ p∈ps,bP m p/\p.n≠0)(hm:200*m+1000<=aF)(hM:120*m+365<=M)(Bv:100*M+1000<=aF)(h9:ps.length<=9):
  ah prog Bs 81 (.block 0 (ai f91 0)) (ij 1 [none] (Yi ps.length 0 0)) (pg ps++eg [none] (ph [])) 1 ⟨.normal,[(3,sl 1 (fO ps).length)],pg ps++marks 1 (ph (fO ps)),2⟩:=by
 have:=rX (P:=prog) (B:=Bs) (N:=81) (b:=aK (ai f91 0)) (next:=1) (p:=1) (r:=⟨.exit 0,[(3,sl 1 (sT ps ps.length).length)],pg ps++marks 1 (ph (sT ps ps.length)),2⟩) ps.length
  (λi=>Yi ps.length i (sT ps i).length) (λ_=>pg ps) (λi=>ph (sT ps i)) [none] (λ_ _=>rfl) (λ_ _=>⟨Yf,Yg⟩) k_ k_
  (λi hi=>by obtain⟨h1,h2⟩:=Ye hs hM h9 i o_;have lo:=aTl (Bs:=Bs) hs hm hM Bv h1 hi h9 o_;refine⟨[some 2],3,k_,?_⟩;show ah _ _ _ _ _ _ _ ⟨.normal,ij 1 [some 2] (Yi ps.length (i+1) (oL ps (sT ps i) i i).length),pg ps++eg [some 2] (ph (oL ps (sT ps i) i i)),3⟩;generalize sT ps i=a at *;generalize oL ps a i i=b at *;exact aG [.lt 14 i ps.length true (aJ hi),.code 2 _ _ _ _ _ lo,.sum 16 i 1 (i+1) rfl o_])
  (by generalize sT ps ps.length=a;exact aG [.lt 14 ps.length ps.length false s_]) n_
 exact cg (id:=0) this
theorem aTn(hs:∀ p∈ps,bP m p/\p.n≠0)(hm:200*m+1000<=aF)(hM:120*m+365<=M)(Bv:100*M+1000<=aF)(h9:ps.length<=9):mz prog 91 [gm ps] 33 30 (fO ps).length (aP (fO ps)):=by
 have aC:([gm ps].all aQ.ok)=true:=by simp only[eA,e8,gm,aQ.ok,dp,iz]
 have lo:=λBs=>aTm (Bs:=Bs) hs hm hM Bv h9;generalize fO ps=c at *;exact yK (k:=1) mixed func91 aC 100 (N:=81) k_ (λ_=>[.code 0 _ _ _ _ _ (lo _)]) (λ_=>k_) (dR c) (sH c)
end
def R5(g:V3 K)(vs:e_)(o a b:Nat):Int:=OF.aE (aN g (af vs a-af vs o) (af vs b-af vs o))
def Dh(g:V3 K)(vs:e_)(o a:Nat)(b:Nat):Bool:=decide (R5 g vs o a b=0)
section
variable{Bs:aa}{vs:e_}{p:HS K}{o a:Nat}{l:l_}{m:Nat}
def HD(n r i:Nat):aU:=[(7,vI (i+2)),(1,sl 0 n),(2,sl 1 r),(3,ptr 2)]
def xF(vs:e_)(p:HS K)(on:l_):aL:=[(0,.view (aP vs)),(1,.view (aw on)),(2,.aI (db p).cs 73)]
theorem neB(h:decide (z=0)=!t):Value.bool (z !=0)=.bool t:=by
 congr 1
 cases t
 ·have:=jN h;subst this;rfl
 ·have:=Ed h;exact rW.2 this
theorem k8(hs:∀ v∈vs,aD m v)(hi:i<vs.length):aD m (af vs i):=hs _ (cM (j8 hi))
noncomputable def flS(hb:l[i]?=some b)(hn:aD m p.n)(hs:∀ v∈vs,aD m v)(ho:o<vs.length)(ha:a<vs.length)(ue:b<vs.length)(hm:200*m+400<=aF)(ht:Dh p.n vs o a b=!t)(more:bN prog Bs 37):bN prog Bs 37:=
 .lt 11 (i+2) (l.length+2) true (aJ (by have:=(eP.1 hb).1;omega))::.ix f174 18 1 (l.length+2) 0 o_ k_::.ld f174 19 3 1 0 (.view (aw (o::a::l))) (vI o) rfl (eB (l:=o::a::l) (i:=0) rfl) k_::
 .di f174 20 0 vs.length o 30 ho k_::.ld f174 21 33 0 (o*30) (.view (aP vs)) (bE (af vs o)) rfl (lv (j8 ho)) k_::.ix f174 24 1 (l.length+2) 1 o_ k_::.ld f174 25 3 1 1 (.view (aw (o::a::l))) (vI a) rfl (eB (l:=o::a::l) (i:=1) rfl) k_::
 .di f174 26 0 vs.length a 30 ha k_::.ld f174 27 33 0 (a*30) (.view (aP vs)) (bE (af vs a)) rfl (lv (j8 ha)) k_::.ix f174 31 1 (l.length+2) (i+2) (by have:=(eP.1 hb).1;omega) k_::
 .ld f174 32 3 1 (i+2) (.view (aw (o::a::l))) (vI b) rfl (eB (l:=o::a::l) (i:=i+2) hb) k_::.di f174 33 0 vs.length b 30 ue k_::.ld f174 34 33 0 (b*30) (.view (aP vs)) (bE (af vs b)) rfl (lv (j8 ue)) k_::
 (aFb hn (k8 hs ho) (k8 hs ha) (k8 hs ue) hm).at 35::.rw 36 _ (.bool t) (neB ht)::more
theorem aGr(hb:l[i]?=some b)(hn:aD m p.n)(hs:∀ v∈vs,aD m v)(ho:o<vs.length)(ha:a<vs.length)(ue:b<vs.length)(hm:200*m+400<=aF)(ht:Dh p.n vs o a b=true)(h63:l.length<900000):
  ah prog Bs 37 (aK (ai f174 0)) (HD vs.length (l.length+2) i) (xF vs p (o::a::l)) 3 ⟨.normal,HD vs.length (l.length+2) (i+1),xF vs p (o::a::l),3⟩:=by
 have hi:=(eP.1 hb).1;exact fv mixed 200 (flS (t:=false) hb hn hs ho ha ue hm ht [.sum 13 (i+2) 1 (i+1+2) o_ o_]) k_
theorem aTo(hb:l[i]?=some b)(hn:aD m p.n)(hs:∀ v∈vs,aD m v)(ho:o<vs.length)(ha:a<vs.length)(ue:b<vs.length)(hm:200*m+400<=aF)(ht:Dh p.n vs o a b=false):
  ah prog Bs 37 (aK (ai f174 0)) (HD vs.length (l.length+2) i) (xF vs p (o::a::l)) 3 ⟨.ret,[(6,.bool false)],xF vs p (o::a::l),3⟩:=
 fv mixed 200 (flS (t:=true) hb hn hs ho ha ue hm ht []) k_
theorem aTp(hn:aD m p.n)(hs:∀ v∈vs,aD m v)(iB:∀ x∈o::a::l,x<vs.length)(hm:200*m+400<=aF)(h63:l.length<900000):cx prog 174 [.p (dK p),.r vs.length (aP vs),.r (l.length+2) (aw (o::a::l))] (.bool (l.all (Dh p.n vs o a))):=by
 have aC:([aQ.p (dK p),.r vs.length (aP vs),.r (l.length+2) (aw (o::a::l))].all aQ.ok)=true:=by simp only[eA,e8,aQ.ok,iz];rw[show(aP vs).all flat=true from dR vs,show(aw (o::a::l)).all flat=true from iU _];rfl
 have ho:=iB o (aR ..);have ha:=iB a (bK _ (aR ..));have hl:∀{i b:Nat},l[i]?=some b->b<vs.length:=λh=>iB _ (bK _ (bK _ (cM h)));rcases De (Dh p.n vs o a) l with h|⟨n,x,h1,h2,h3,h4⟩
 ·rw[h];have lo:∀ B:aa,ah prog B 37 (.block 0 (ai f174 0)) (HD vs.length (l.length+2) 0) (xF vs p (o::a::l)) 3 ⟨.normal,[],xF vs p (o::a::l),3⟩:=λB=>
   cg (id:=0) (cz l.length (λi=>HD vs.length (l.length+2) i) (λ_=>xF vs p (o::a::l)) (λi k _=>Iff.rfl) (r:=⟨.exit 0,[],xF vs p (o::a::l),3⟩) (λi hi=>by have hx:l[i]?=some l[i]:=bt hi;exact aGr hx hn hs ho ha (hl hx) hm (E5 h hx) h63) (aG [.lt 11 (l.length+2) (l.length+2) false s_]) n_)
  exact dF func174 aC 37 (λw=>[.code 0 _ _ _ _ _ (lo _)])
 ·rw[h4];have lo:∀ B:aa,ah prog B 37 (.block 0 (ai f174 0)) (HD vs.length (l.length+2) 0) (xF vs p (o::a::l)) 3 ⟨.ret,[(6,.bool false)],xF vs p (o::a::l),3⟩:=λB=>
   cg (id:=0) (cz n (λi=>HD vs.length (l.length+2) i) (λ_=>xF vs p (o::a::l)) (λi k _=>Iff.rfl) (r:=⟨.ret,[(6,.bool false)],xF vs p (o::a::l),3⟩) (λi hi=>by have ao:=(eP.1 h1).1;have hx:l[i]?=some l[i]:=bt o_;exact aGr hx hn hs ho ha (hl hx) hm (h3 i _ hi hx) h63) (aTo h1 hn hs ho ha (hl h1) hm h2) n_)
  exact dF func174 aC 37 (λw=>[.code 0 _ _ _ _ _ (lo _)])
end
def Nl(vs:e_)(i k j:Nat):Bool:=decide (OF.aE (dot (ag (af vs (i+1)-af vs 0) (af vs (k+1)-af vs 0)) (af vs (j+1)-af vs 0))=0)
def HE(vs:e_)(i k:Nat):Bool:=(List.range k).all (Nl vs i k)
def E7(vs:e_)(i:Nat):Bool:=(List.range i).all (HE vs i)
def wC(vs:e_):Bool:=(List.range (vs.length-1)).all (E7 vs)
section
variable{Bs:aa}{vs:e_}{m:Nat}
def Yj(n i k j:Nat):aU:=[(7,vI (j+1)),(5,vI (k+1)),(0,sl 0 n),(6,ptr 2)]
def sjM(vs:e_)(a c:V3 K):aL:=[(0,.view (aP vs)),(1,.aI (cB a).cs 33),(2,.aI (cB c).cs 33)]
noncomputable def Yk(hs:∀ v∈vs,aD m v)(hi:i+1<vs.length)(hk:k<i)(hj:j<k)(hm:300*m+1000<=aF)(ht:Nl vs i k j=!t)(more:bN prog Bs 54):bN prog Bs 54:=
 .lt 39 (j+1) (k+1) true (aJ o_)::.di f92 45 0 vs.length (j+1) 30 o_ k_::.ld f92 46 33 0 ((j+1)*30) (.view (aP vs)) (bE (af vs (j+1))) rfl (lv (j8 o_)) k_::
 .di f92 48 0 vs.length 0 30 o_ k_::.ld f92 49 33 0 (0*30) (.view (aP vs)) (bE (af vs 0)) rfl (lv (j8 o_)) k_::
 (aYp (k8 hs (show j+1<vs.length by omega)) (k8 hs (show 0<vs.length by omega)) o_).at 50::
 (aYl (((k8 hs hi).sub (k8 hs (show 0<vs.length by omega))).ag ((k8 hs (show k+1<vs.length by omega)).sub (k8 hs (show 0<vs.length by omega)))) ((k8 hs (show j+1<vs.length by omega)).sub (k8 hs (show 0<vs.length by omega))) o_).at 51::
 (aYc ((((k8 hs hi).sub (k8 hs (show 0<vs.length by omega))).ag ((k8 hs (show k+1<vs.length by omega)).sub (k8 hs (show 0<vs.length by omega)))).dot ((k8 hs (show j+1<vs.length by omega)).sub (k8 hs (show 0<vs.length by omega)))) o_).at 52::
 .rw 53 _ (.bool t) (neB ht)::more
def HF(vs:e_)(i k:Nat):aL:=sjM vs (af vs (i+1)-af vs 0) (ag (af vs (i+1)-af vs 0) (af vs (k+1)-af vs 0))
theorem aGs(hs:∀ v∈vs,aD m v)(hi:i+1<vs.length)(hk:k<i)(hm:300*m+1000<=aF)(h63:vs.length<900000):
  ah prog Bs 54 (.block 4 (ai f92 4)) (Yj vs.length i k 0) (HF vs i k) 3 (if HE vs i k then⟨.normal,[],HF vs i k,3⟩else⟨.ret,[(2,.bool true)],HF vs i k,3⟩):=by
 unfold HE;rcases JP (Nl vs i k) k with h|⟨n,hn,h2,h3,h4⟩
 ·rw[h];exact cg (id:=4) (cz k (λj=>Yj vs.length i k j) (λ_=>HF vs i k) (λ_ _ _=>Iff.rfl) (r:=⟨.exit 4,[],HF vs i k,3⟩) (λj hj=>
   fv mixed 200 (Yk (t:=false) hs hi hk hj hm (JQ h hj) [.sum 41 (j+1) 1 (j+1+1) rfl o_]) k_) (aG [.lt 39 (k+1) (k+1) false s_]) n_)
 ·rw[h4];exact cg (id:=4) (cz n (λj=>Yj vs.length i k j) (λ_=>HF vs i k) (λ_ _ _=>Iff.rfl) (r:=⟨.ret,[(2,.bool true)],HF vs i k,3⟩) (λj hj=>
   fv mixed 200 (Yk (t:=false) hs hi hk o_ hm (h3 j hj) [.sum 41 (j+1) 1 (j+1+1) rfl o_]) k_) (fv mixed 200 (Yk (t:=true) hs hi hk hn hm h2 []) k_) n_)
def Nn(n i k:Nat):aU:=[(5,vI (k+1)),(3,vI (i+1)),(0,sl 0 n),(4,ptr 1)]
def zF(vs:e_)(i:Nat):aL:=[(0,.view (aP vs)),(1,.aI (cB (af vs (i+1)-af vs 0)).cs 33)]
theorem aTq{n:Nat}:∀ x∈zF vs i,fR n x.2:=λx hx=>by
 simp only[zF,cE,jR,jS]at hx;rcases hx with rfl|rfl
 ·exact λv hv=>gP (bC.1 (dR vs) v hv)
 ·exact λv hv=>gP (RV.oA _ v hv)
noncomputable def skS(hs:∀ v∈vs,aD m v)(hi:i+1<vs.length)(hk:k<i)(hm:300*m+1000<=aF)(more:bN prog Bs 54):bN prog Bs 54:=
 .lt 24 (k+1) (i+1) true (aJ o_)::.di f92 30 0 vs.length (k+1) 30 o_ k_::.ld f92 31 33 0 ((k+1)*30) (.view (aP vs)) (bE (af vs (k+1))) rfl (lv (j8 o_)) k_::
 .di f92 33 0 vs.length 0 30 o_ k_::.ld f92 34 33 0 (0*30) (.view (aP vs)) (bE (af vs 0)) rfl (lv (j8 o_)) k_::
 (aYp (k8 hs (show k+1<vs.length by omega)) (k8 hs (show 0<vs.length by omega)) o_).at 35::
 (aXG ((k8 hs hi).sub (k8 hs (show 0<vs.length by omega))) ((k8 hs (show k+1<vs.length by omega)).sub (k8 hs (show 0<vs.length by omega))) o_).at 36::more
theorem aGt(hs:∀ v∈vs,aD m v)(hi:i+1<vs.length)(hm:300*m+1000<=aF)(h63:vs.length<900000):
  ah prog Bs 54 (.block 2 (ai f92 2)) (Nn vs.length i 0) (zF vs i) 2 (if E7 vs i then⟨.normal,[],zF vs i,2⟩else⟨.ret,[(2,.bool true)],zF vs i,3⟩):=by
 have Np:∀ k,k<i->HE vs i k=true->ah prog Bs 54 (aK (ai f92 2)) (Nn vs.length i k) (zF vs i) 2 ⟨.normal,Nn vs.length i (k+1),zF vs i,2⟩:=λk hk h=>by have lo:=aGs (Bs:=Bs) hs hi hk hm h63;rw[aA h]at lo;exact rU mixed 200 (gG:=3) (skS hs hi hk hm [.code 4 _ _ _ _ _ lo,.sum 26 (k+1) 1 (k+1+1) rfl o_]) k_ rfl k_ aTq k_
 unfold E7;rcases JP (HE vs i) i with h|⟨n,hn,h2,h3,h4⟩
 ·rw[h];exact cg (id:=2) (cz i (λk=>Nn vs.length i k) (λ_=>zF vs i) (λ_ _ _=>Iff.rfl) (r:=⟨.exit 2,[],zF vs i,2⟩) (λk hk=>Np k hk (JQ h hk)) (aG [.lt 24 (i+1) (i+1) false s_]) n_)
 ·rw[h4];exact cg (id:=2) (cz n (λk=>Nn vs.length i k) (λ_=>zF vs i) (λ_ _ _=>Iff.rfl) (r:=⟨.ret,[(2,.bool true)],zF vs i,3⟩) (λk hk=>Np k o_ (h3 k hk)) (by have lo:=aGs (Bs:=Bs) hs hi hn hm h63;rw[au (by rw[h2];decide)]at lo;exact fv mixed 200 (skS hs hi hn hm [.code 4 _ _ _ _ _ lo]) k_) n_)
def JU(n i:Nat):aU:=[(3,vI (i+1)),(0,sl 0 n)]
def xG(vs:e_):aL:=[(0,.view (aP vs))]
theorem aTr{n:Nat}:∀ x∈xG vs,fR n x.2:=λx hx=>by simp only[xG,cE,jR,jS]at hx;subst hx;exact λv hv=>gP (bC.1 (dR vs) v hv)
noncomputable def stS(hs:∀ v∈vs,aD m v)(hi:i+1<vs.length)(hm:300*m+1000<=aF)(more:bN prog Bs 54):bN prog Bs 54:=
 .lt 11 (i+1) vs.length true (aJ hi)::.di f92 16 0 vs.length (i+1) 30 hi k_::.ld f92 17 33 0 ((i+1)*30) (.view (aP vs)) (bE (af vs (i+1))) rfl (lv (j8 hi)) k_::
 .di f92 19 0 vs.length 0 30 o_ k_::.ld f92 20 33 0 (0*30) (.view (aP vs)) (bE (af vs 0)) rfl (lv (j8 o_)) k_::
 (aYp (k8 hs hi) (k8 hs (show 0<vs.length by omega)) o_).at 21::more
theorem aTs(hs:∀ v∈vs,aD m v)(hm:300*m+1000<=aF)(h63:vs.length<900000):cx prog 92 [.r vs.length (aP vs)] (.bool (!wC vs)):=by
 have aC:([aQ.r vs.length (aP vs)].all aQ.ok)=true:=by simp only[eA,e8,aQ.ok,iz];exact dR vs
 have Np:∀(B:aa) i,i<vs.length-1->E7 vs i=true->ah prog B 54 (aK (ai f92 0)) (JU vs.length i) (xG vs) 1 ⟨.normal,JU vs.length (i+1),xG vs,1⟩:=λB i hi h=>by have lo:=aGt (Bs:=B) hs (show i+1<vs.length by omega) hm h63;rw[aA h]at lo;exact rU mixed 200 (gG:=2) (stS (i:=i) hs o_ hm [.code 2 _ _ _ _ _ lo,.sum 13 (i+1) 1 (i+1+1) rfl o_]) k_ rfl k_ aTr k_
 unfold wC;rcases JP (E7 vs) (vs.length-1)with h|⟨n,hn,h2,h3,h4⟩
 ·rw[h];have lo:∀ B:aa,ah prog B 54 (.block 0 (ai f92 0)) (JU vs.length 0) (xG vs) 1 ⟨.normal,[],xG vs,1⟩:=λB=>
   cg (id:=0) (cz (vs.length-1) (λi=>JU vs.length i) (λ_=>xG vs) (λ_ _ _=>Iff.rfl) (r:=⟨.exit 0,[],xG vs,1⟩) (λi hi=>Np B i hi (JQ h hi)) (aG [.lt 11 (vs.length-1+1) vs.length false (aY o_)]) n_)
  exact dF func92 aC 54 (λw=>[.code 0 _ _ _ _ _ (lo _)])
 ·rw[h4];have lo:∀ B:aa,ah prog B 54 (.block 0 (ai f92 0)) (JU vs.length 0) (xG vs) 1 ⟨.ret,[(2,.bool true)],xG vs,3⟩:=λB=>
   cg (id:=0) (cz n (λi=>JU vs.length i) (λ_=>xG vs) (λ_ _ _=>Iff.rfl) (r:=⟨.ret,[(2,.bool true)],xG vs,3⟩) (λi hi=>Np B i o_ (h3 i hi)) (by have lo:=aGt (Bs:=B) hs (show n+1<vs.length by omega) hm h63;rw[au (by rw[h2];decide)]at lo;exact fv mixed 200 (stS (i:=n) hs o_ hm [.code 2 _ _ _ _ _ lo]) k_) n_)
  exact dF func92 aC 54 (λw=>[.code 0 _ _ _ _ _ (lo _)])
end
section
variable{Bs:aa}{vs:e_}
def Nq(n j L:Nat):aU:=[(6,vI j),(1,sl 0 n),(5,sl 2 L),(2,ptr 1)]
def Bw(vs:e_)(p:HS K):aL:=[(0,.view (aP vs)),(1,.aI (db p).cs 73)]
theorem aTt{m:Nat}{p:HS K}:∀ x∈Bw vs p,fR m x.2:=λx hx=>by
 simp only[Bw,cE,jR,jS]at hx;rcases hx with rfl|rfl
 ·exact λv hv=>gP (bC.1 (dR vs) v hv)
 ·exact λv hv=>gP (j6.flat _ v hv)
theorem aTu{m q:Nat}{p:HS K}{l:l_}(hj:j<vs.length)(hp:bP m p)(j4:p.n≠0)(aW:∀ v∈vs,aD q v)(hm:100*(m+q)+1000<=aF)(h63:l.length<900000)(rJ:vs.length<1000000):
  ∃ σ gG,(∀ l0:List Nat,D2 (Bw vs p++eg [none] (kQ l0)) 2 σ (Nq vs.length (j+1) (l++if dot p.n (af vs j)-p.d=0 then[j]else[]).length) (Bw vs p) (kQ (l++if dot p.n (af vs j)-p.d=0 then[j]else[]))=true)/\
   ah prog Bs 124 (aK (ai f141 0)) (Nq vs.length j l.length) (Bw vs p++marks 2 (kQ l)) 3 ⟨.normal,ij 2 σ (Nq vs.length (j+1) (l++if dot p.n (af vs j)-p.d=0 then[j]else[]).length),Bw vs p++eg σ (kQ (l++if dot p.n (af vs j)-p.d=0 then[j]else[])),gG⟩:=by
 have hv:=j8 hj;have hs:=aXu hp (aW _ (cM hv)) o_ j4;by_cases h:dot p.n (af vs j)-p.d=0
 ·rw[aA h];have e:(Value.bool (OF.aE (dot p.n (af vs j)-p.d)==0))=.bool true:=by rw[OF.Pp.1 h];rfl
  have hr:aw l++[vI j]=aw (l++[j]):=by simp[aw]
  have E3:(aw l).length=l.length*1:=by rw[oG,gZ]
  have h1:=M6 l;rw[show(l++[j]).length=l.length+1 by simp];unfold kQ;refine⟨[some 4],5,λl0=>k_,?_⟩;generalize OF.aE (dot p.n (af vs j)-p.d)=z at *;generalize af vs j=v at *;generalize aw l=c0 at *;generalize aw (l++[j])=c1 at *;exact aG [.lt 15 j vs.length true (aJ hj),.di f141 21 0 vs.length j 30 hj k_,.ld f141 22 33 0 (j*30) (.view (aP vs)) (bE v) rfl (lv hv) k_,hs.at 23,.rw 24 (.bool (z==0)) b_ e,.bs f141 27 3 1 3 1 [0] (vI 0) [vI j] #[vI j] (.row [vI j] 3 1) rfl (λv hv=>by simp at hv;subst hv;rfl) (λv hv=>by simp at hv;subst hv;rfl) k_ rfl d_ d_ k_,.qX f141 28 4 2 l.length 1 (l.length+1) 3 1 8 c0 3 (.row [vI j] 3 1) c1 rfl rfl rfl E3 hr (λv hv=>by simp[Obj.cells]at hv;subst hv;rfl) d_ (by simp[maxLen];omega) o_ k_,.sum 17 j 1 (j+1) rfl o_]
 ·rw[au h,jZ];have e:(Value.bool (OF.aE (dot p.n (af vs j)-p.d)==0))=.bool false:=by
   congr 1
   have:OF.aE (dot p.n (af vs j)-p.d)≠0:=λe=>h (OF.Pp.2 e);simpa using this
  refine⟨[some 2],3,λl0=>k_,?_⟩;generalize OF.aE (dot p.n (af vs j)-p.d)=z at *;generalize af vs j=v at *;exact aG [.lt 15 j vs.length true (aJ hj),.di f141 21 0 vs.length j 30 hj k_,.ld f141 22 33 0 (j*30) (.view (aP vs)) (bE v) rfl (lv hv) k_,hs.at 23,.rw 24 (.bool (z==0)) a_ e,.sum 17 j 1 (j+1) rfl o_]
theorem aGu{m q:Nat}{p:HS K}(hp:bP m p)(j4:p.n≠0)(aW:∀ v∈vs,aD q v)(hm:100*(m+q)+1000<=aF)(h63:vs.length<900000):
  ah prog Bs 124 (.block 0 (ai f141 0)) (ij 2 [none] (Nq vs.length 0 0)) (Bw vs p++eg [none] (kQ [])) 2 ⟨.normal,[(5,sl 2 (bZ p vs vs.length).length)],Bw vs p++marks 2 (kQ (bZ p vs vs.length)),3⟩:=by
 have:=rX (P:=prog) (B:=Bs) (N:=124) (b:=aK (ai f141 0)) (next:=2) (p:=1) (r:=⟨.exit 0,[(5,sl 2 (bZ p vs vs.length).length)],Bw vs p++marks 2 (kQ (bZ p vs vs.length)),3⟩) vs.length
  (λj=>Nq vs.length j (bZ p vs j).length) (λ_=>Bw vs p) (λj=>kQ (bZ p vs j)) [none] (λ_ _=>rfl) (λj _=>⟨aTt,X1⟩) k_ k_
  (λj hj=>by have hl:=JM p vs j;obtain⟨σ,gG,h1,h2⟩:=aTu (Bs:=Bs) (l:=bZ p vs j) hj hp j4 aW hm o_ o_;rw[aFO];exact⟨σ,gG,h1 _,h2⟩)
  (by generalize bZ p vs vs.length=a;exact aG [.lt 15 vs.length vs.length false s_]) n_
 exact cg (id:=0) this
end
def JV(g:V3 K)(vs:e_)(a c b:Nat):Bool:=decide (b=a)||(decide (b=c)||decide (0<R5 g vs a c b))
section
variable{Bs:aa}{vs:e_}{on:l_}{p:HS K}{m:Nat}
def JW(n L a k j:Nat)(f:Bool):aU:=[(11,vI j),(10,.bool f),(5,sl 2 L),(8,vI a),(9,vI k),(1,sl 0 n),(2,ptr 1)]
def oc(vs:e_)(p:HS K)(on:l_):aL:=[(0,.view (aP vs)),(1,.aI (db p).cs 73),(2,.row (aw on) 3 1)]
theorem gtB(h:decide (0<z)=t):Value.bool (decide (z>0))=.bool t:=by rw[<-h]
theorem aGv{c:Nat}(hb:on[j]?=some b)(hc:on[k]?=some c)(iB:∀ x∈on,x<vs.length)(ha:a<vs.length)(hn:aD m p.n)(hs:∀ v∈vs,aD m v)(hm:200*m+400<=aF)(ht:JV p.n vs a c b=t)(h63:on.length<900000):
  ah prog Bs 124 (aK (ai f141 6)) (JW vs.length on.length a k j true) (oc vs p on) 5 ⟨.normal,JW vs.length on.length a k (j+1) t,oc vs p on,5⟩:=by
 have hj:=(eP.1 hb).1;have hk:=(eP.1 hc).1;have ue:=iB b (cM hb);have kS:=iB c (cM hc);unfold JV at ht;by_cases h1:b=a
 ·rw[aJ h1,FI]at ht;subst ht;exact fv mixed 200 [.lt 68 j on.length true (aJ hj),.ix f141 76 2 on.length j hj k_,.ld f141 77 3 2 j (.row (aw on) 3 1) (vI b) rfl (eB hb) k_,.gH 79 b a true (aJ h1),.sum 73 j 1 (j+1) rfl o_] k_
 rw[aY h1,Ao]at ht;by_cases h2:b=c
 ·rw[aJ h2,FI]at ht;subst ht;exact fv mixed 200 [.lt 68 j on.length true (aJ hj),.ix f141 76 2 on.length j hj k_,.ld f141 77 3 2 j (.row (aw on) 3 1) (vI b) rfl (eB hb) k_,.gH 79 b a false (aY h1),.ix f141 83 2 on.length j hj k_,.ld f141 84 3 2 j (.row (aw on) 3 1) (vI b) rfl (eB hb) k_,.ix f141 87 2 on.length k hk k_,.ld f141 88 3 2 k (.row (aw on) 3 1) (vI c) rfl (eB hc) k_,.gH 89 b c true (aJ h2),.sum 73 j 1 (j+1) rfl o_] k_
 rw[aY h2,Ao]at ht;exact fv mixed 200 [.lt 68 j on.length true (aJ hj),.ix f141 76 2 on.length j hj k_,.ld f141 77 3 2 j (.row (aw on) 3 1) (vI b) rfl (eB hb) k_,.gH 79 b a false (aY h1),.ix f141 83 2 on.length j hj k_,.ld f141 84 3 2 j (.row (aw on) 3 1) (vI b) rfl (eB hb) k_,.ix f141 87 2 on.length k hk k_,.ld f141 88 3 2 k (.row (aw on) 3 1) (vI c) rfl (eB hc) k_,.gH 89 b c false (aY h2),.di f141 96 0 vs.length a 30 ha k_,.ld f141 97 33 0 (a*30) (.view (aP vs)) (bE (af vs a)) rfl (lv (j8 ha)) k_,.ix f141 101 2 on.length k hk k_,.ld f141 102 3 2 k (.row (aw on) 3 1) (vI c) rfl (eB hc) k_,.di f141 103 0 vs.length c 30 kS k_,.ld f141 104 33 0 (c*30) (.view (aP vs)) (bE (af vs c)) rfl (lv (j8 kS)) k_,.ix f141 108 2 on.length j hj k_,.ld f141 109 3 2 j (.row (aw on) 3 1) (vI b) rfl (eB hb) k_,.di f141 110 0 vs.length b 30 ue k_,.ld f141 111 33 0 (b*30) (.view (aP vs)) (bE (af vs b)) rfl (lv (j8 ue)) k_,(aFb hn (k8 hs ha) (k8 hs kS) (k8 hs ue) hm).at 112,.rw 113 _ (.bool t) (gtB ht),.sum 73 j 1 (j+1) rfl o_] k_
theorem aTv:ah prog Bs 124 (aK (ai f141 6)) (JW vs.length on.length a k j false) (oc vs p on) 5 ⟨.exit 6,[(10,.bool false)],oc vs p on,5⟩:=by
 by_cases h:j<on.length
 ·exact aG [.lt 68 j on.length true (aJ h)]
 ·exact aG [.lt 68 j on.length false (aY h)]
def Nr(g:V3 K)(vs:e_)(on:l_)(a c:Nat):Bool:=on.all (JV g vs a c)
theorem aGw{c:Nat}(hc:on[k]?=some c)(iB:∀ x∈on,x<vs.length)(ha:a<vs.length)(hn:aD m p.n)(hs:∀ v∈vs,aD m v)(hm:200*m+400<=aF)(h63:on.length<900000):
  ah prog Bs 124 (.block 6 (ai f141 6)) (JW vs.length on.length a k 0 true) (oc vs p on) 5 ⟨.normal,[(10,.bool (Nr p.n vs on a c))],oc vs p on,5⟩:=by
 unfold Nr;rcases De (JV p.n vs a c) on with h|⟨n,x,h1,h2,h3,h4⟩
 ·rw[h];exact cg (id:=6) (cz on.length (λj=>JW vs.length on.length a k j true) (λ_=>oc vs p on) (λ_ _ _=>Iff.rfl) (r:=⟨.exit 6,[(10,.bool true)],oc vs p on,5⟩) (λj hj=>by have hx:on[j]?=some on[j]:=bt hj;exact aGv hx hc iB ha hn hs hm (E5 h hx) h63) (aG [.lt 68 on.length on.length false s_]) n_)
 ·rw[h4];have ao:=(eP.1 h1).1;exact cg (id:=6) (cz (n+1) (λj=>JW vs.length on.length a k j (decide (j<=n))) (λ_=>oc vs p on) (λ_ _ _=>Iff.rfl) (r:=⟨.exit 6,[(10,.bool false)],oc vs p on,5⟩) (λj hj=>by
   have E8:j<on.length:=by omega
   have hx:on[j]?=some on[j]:=bt E8;simp only[aJ (show j<=n by omega)];refine aGv hx hc iB ha hn hs hm ?_ h63;by_cases he:j=n
   ·subst he;rw[h1]at hx;injection hx with hx;rw[<-hx,h2];exact(aY o_).symm
   ·rw[h3 j _ o_ hx];exact(aJ o_).symm) (by
   simp only[aY (show ¬n+1<=n by omega)];exact aTv) n_)
end
def wD(g:V3 K)(vs:e_)(on:l_)(a c:Nat):Bool:=!decide (c=a)&&Nr g vs on a c
section
variable{Bs:aa}{vs:e_}{on:l_}{p:HS K}{m:Nat}
def Ns(n L R a k:Nat):aU:=[(9,vI k),(5,sl 2 L),(7,sl 4 R),(8,vI a),(1,sl 0 n),(2,ptr 1)]
def HG(vs:e_)(p:HS K)(on out:l_):aL:=oc vs p on++marks 4 (kQ out)
theorem aTw{c:Nat}{out:l_}(hc:on[k]?=some c)(iB:∀ x∈on,x<vs.length)(ha:a<vs.length)(hn:aD m p.n)(hs:∀ v∈vs,aD m v)(hm:200*m+400<=aF)(h63:on.length<900000)(hf:wD p.n vs on a c=false):
  ah prog Bs 124 (aK (ai f141 4)) (Ns vs.length on.length out.length a k) (HG vs p on out) 5 ⟨.normal,Ns vs.length on.length out.length a (k+1),HG vs p on out,5⟩:=by
 have hk:=(eP.1 hc).1;by_cases h:c=a
 ·exact fv mixed 200 [.lt 56 k on.length true (aJ hk),.ix f141 61 2 on.length k hk k_,.ld f141 62 3 2 k (.row (aw on) 3 1) (vI c) rfl (eB hc) k_,.gH 64 c a true (aJ h),.sum 58 k 1 (k+1) rfl o_] k_
 ·have lo:=aGw (Bs:=Bs) hc iB ha hn hs hm h63;unfold wD at hf;rw[aY h]at hf;have hf:Nr p.n vs on a c=false:=hf;rw[hf]at lo;exact fv mixed 200 [.lt 56 k on.length true (aJ hk),.ix f141 61 2 on.length k hk k_,.ld f141 62 3 2 k (.row (aw on) 3 1) (vI c) rfl (eB hc) k_,.gH 64 c a false (aY h),.code 6 _ _ _ _ _ lo,.sum 58 k 1 (k+1) rfl o_] k_
theorem aTx{c:Nat}{out:l_}(hc:on[k]?=some c)(iB:∀ x∈on,x<vs.length)(ha:a<vs.length)(hn:aD m p.n)(hs:∀ v∈vs,aD m v)(hm:200*m+400<=aF)(h63:on.length<900000)(ho:out.length<900000)(hf:wD p.n vs on a c=true):
  ah prog Bs 124 (aK (ai f141 4)) (Ns vs.length on.length out.length a k) (HG vs p on out) 5 ⟨.exit 4,[(7,sl 6 (out++[c]).length)],oc vs p on++[(6,.row (aw (out++[c])) 3 1)],7⟩:=by
 have hk:=(eP.1 hc).1;have lo:=aGw (Bs:=Bs) hc iB ha hn hs hm h63;unfold wD at hf;rw[dc]at hf;obtain⟨h1,h2⟩:=hf;have h:¬c=a:=by intro e;rw[aJ e]at h1;cases h1
 rw[h2]at lo;have hr:aw out++[vI c]=aw (out++[c]):=by simp[aw]
 have E3:(aw out).length=out.length*1:=by rw[oG,gZ]
 rw[show(out++[c]).length=out.length+1 by simp];have jz:=eB hc;unfold HG kQ;generalize aw out=c0 at *;generalize aw (out++[c])=c1 at *;exact fv mixed 200 [.lt 56 k on.length true (aJ hk),.ix f141 61 2 on.length k hk k_,.ld f141 62 3 2 k (.row (aw on) 3 1) (vI c) rfl jz k_,.gH 64 c a false (aY h),.code 6 _ _ _ _ _ lo,.ix f141 119 2 on.length k hk k_,.ld f141 120 3 2 k (.row (aw on) 3 1) (vI c) rfl jz k_,.bs f141 121 5 1 3 1 [0] (vI 0) [vI c] #[vI c] (.row [vI c] 3 1) rfl (λv hv=>by simp at hv;subst hv;rfl) (λv hv=>by simp at hv;subst hv;rfl) k_ rfl d_ d_ k_,.qX f141 122 6 4 out.length 1 (out.length+1) 3 1 8 c0 5 (.row [vI c] 3 1) c1 rfl rfl rfl E3 hr (λv hv=>by simp[Obj.cells]at hv;subst hv;rfl) d_ (by simp[maxLen];omega) o_ k_] k_
theorem aTy{c:Nat}{out:l_}(hc:on[k]?=some c)(iB:∀ x∈on,x<vs.length)(ha:a<vs.length)(hn:aD m p.n)(hs:∀ v∈vs,aD m v)(hm:200*m+400<=aF)(h63:on.length<900000)(ho:out.length<900000)(hf:wD p.n vs on a c=true)
  (hb:∀(i:Nat) (x:Nat),i<k->on[i]?=some x->wD p.n vs on a x=false) :
  ah prog Bs 124 (.block 4 (ai f141 4)) (Ns vs.length on.length out.length a 0) (HG vs p on out) 5 ⟨.normal,[(7,sl 6 (out++[c]).length)],oc vs p on++[(6,.row (aw (out++[c])) 3 1)],7⟩:=
 cg (id:=4) (cz k (λi=>Ns vs.length on.length out.length a i) (λ_=>HG vs p on out) (λ_ _ _=>Iff.rfl) (r:=⟨.exit 4,[(7,sl 6 (out++[c]).length)],oc vs p on++[(6,.row (aw (out++[c])) 3 1)],7⟩) (λi hi=>by have hk:=(eP.1 hc).1;have hx:on[i]?=some on[i]:=bt o_;exact aTw hx iB ha hn hs hm h63 (hb i _ hi hx)) (aTx hc iB ha hn hs hm h63 ho hf) n_)
end
section
variable{Bs:aa}{vs:e_}{on:l_}{p:HS K}{m:Nat}
def R6(n L R:Nat):aU:=[(7,sl 4 R),(5,sl 2 L),(1,sl 0 n),(2,ptr 1)]
theorem aTz{c R:Nat}{out:l_}(hR:out.length=R+1)(ao:out.length<on.length)(hl:out[R]?=some a)(hc:on[k]?=some c)(iB:∀ x∈on,x<vs.length)(ha:a<vs.length)(hn:aD m p.n)(hs:∀ v∈vs,aD m v)(hm:200*m+400<=aF)(h63:on.length<900000)(hf:wD p.n vs on a c=true)
  (hb:∀(i:Nat) (x:Nat),i<k->on[i]?=some x->wD p.n vs on a x=false) :
  ah prog Bs 124 (aK (ai f141 2)) (R6 vs.length on.length out.length) (oc vs p on++marks 4 (kQ out)) 5 ⟨.normal,ij 4 [some 6] (R6 vs.length on.length (out++[c]).length),oc vs p on++eg [some 6] (kQ (out++[c])),7⟩:=by
 have lo:=aTy (Bs:=Bs) hc iB ha hn hs hm h63 o_ hf hb (out:=out);have jz:=eB hl;have e:(out++[c]).length=R+2:=by simp[hR]
 rw[e]at lo ⊢;unfold HG at lo;rw[hR]at lo ⊢;unfold kQ at *;generalize aw out=c0 at *;generalize aw (out++[c])=c1 at *;exact fv mixed 200 [.lt 46 (R+1) on.length true (aJ o_),.fN 50 (R+1) 1 R rfl o_,.ix f141 51 4 (R+1) R o_ k_,.ld f141 52 3 4 R (.row c0 3 1) (vI a) rfl jz k_,.code 4 _ _ _ _ _ lo] k_
end
structure aXN(g:V3 K)(vs:e_)(on sq:l_):Prop where
 len:sq.length=on.length
 head:sq[0]?=on[0]?
 step:∀(i a c:Nat),sq[i]?=some a->sq[i+1]?=some c->∃ k:Nat,on[k]?=some c/\wD g vs on a c=true/\∀(j x:Nat),j<k->on[j]?=some x->wD g vs on a x=false
section
variable{Bs:aa}{vs:e_}{on sq:l_}{p:HS K}{m:Nat}
theorem aTA{n:Nat}:∀ x∈oc vs p on,fR n x.2:=λx hx=>by
 simp only[oc,cE,jR,jS]at hx;rcases hx with rfl|rfl|rfl
 ·exact λv hv=>gP (bC.1 (dR vs) v hv)
 ·exact λv hv=>gP (j6.flat _ v hv)
 ·exact λv hv=>gP (nD _ v hv)
theorem aTB{o:Nat}(h:aXN p.n vs on sq)(h0:on[0]?=some o)(iB:∀ x∈on,x<vs.length)(hn:aD m p.n)(hs:∀ v∈vs,aD m v)(hm:200*m+400<=aF)(h63:on.length<900000):
  ah prog Bs 124 (.block 2 (ai f141 2)) (ij 4 [some 3] (R6 vs.length on.length 1)) (oc vs p on++eg [some 3] (kQ [o])) 4 ⟨.normal,[(7,sl 4 sq.length)],oc vs p on++marks 4 (kQ sq),5⟩:=by
 have uu:=(eP.1 h0).1;have hlen:=h.len;have sj:∀ x∈sq,x<vs.length:=λx hx=>by
  obtain⟨i,hi,rfl⟩:=lA hx;cases i with
  |zero=>
   have e:=h.head;rw[bt hi,h0]at e;injection e with e;rw[e];exact iB _ (cM h0)
  |succ i=>
   obtain⟨k,e,_⟩:=h.step i _ _ (bt o_) (bt hi);exact iB _ (cM e)
 have e1:sq.take 1=[o]:=by have e:=h.head;rw[h0]at e;rw[List.take_one,List.head?_eq_getElem?,e];rfl
 have tl:∀ i,i<on.length->(sq.take (i+1)).length=i+1:=λi hi=>by rw[jV];omega
 have:=rX (P:=prog) (B:=Bs) (N:=124) (b:=aK (ai f141 2)) (next:=4) (p:=1) (r:=⟨.exit 2,[(7,sl 4 sq.length)],oc vs p on++marks 4 (kQ sq),5⟩) (on.length-1)
  (λi=>R6 vs.length on.length (sq.take (i+1)).length) (λ_=>oc vs p on) (λi=>kQ (sq.take (i+1))) [some 3] (λ_ _=>rfl) (λi _=>⟨aTA,X1⟩) k_ k_
  (λi hi=>by
   have ha:sq[i]?=some sq[i]:=bt o_;have hc:sq[i+1]?=some sq[i+1]:=bt o_;obtain⟨k,q1,q2,q3⟩:=h.step i _ _ ha hc;have e:sq.take (i+1+1)=sq.take (i+1)++[sq[i+1]]:=by rw[uZ,hc];rfl
   have hl:=tl i o_;have hr:=aTz (Bs:=Bs) (R:=i) hl o_ (by rw[vx,aA o_];exact ha) q1 iB (sj _ (cM ha)) hn hs hm h63 q2 q3;refine⟨[some 6],7,k_,?_⟩;rw[e];exact hr)
  (by rw[show on.length-1+1=sq.length by omega,oD];rw[hlen];exact aG [.lt 46 on.length on.length false s_]) n_
 simp only[kT,e1]at this;exact cg (id:=2) this
end
def R7(g:V3 K)(vs:e_):List Nat->Bool
 |o::a::l=>l.all (Dh g vs o a)
 |_=>true
section
variable{vs:e_}{p:HS K}{m q:Nat}
noncomputable def aTC{on:l_}(h3:3<=on.length)(ht:R7 p.n vs on=t)(hn:aD m p.n)(hs:∀ v∈vs,aD m v)(iB:∀ x∈on,x<vs.length)(hm:200*m+400<=aF)(h63:on.length<900000):aZ prog Bs 124:=
 .step 36 (az f141 36) [.func (.func 174) #[] #[],dK p,sl 0 vs.length,sl 2 on.length] [(0,some (.view (aP vs))),(2,some (.row (aw on) 3 1))] (.bool t) []
  (dJ (by
   match on,h3,iB,ht,h63 with
   |o::a::l,_,iB,ht,h63=>
    have:=aTp hn hs iB hm (by simp only[qd]at h63;omega);rw[show l.all (Dh p.n vs o a)=t from ht]at this;exact this) (.p rfl (.w (x:=.view (aP vs)) rfl (dR vs) wk (.w (x:=.row (aw on) 3 1) rfl (iU on) (λh=>RB h) .nil))) (x:=.func 174) k_ k_ rfl)
theorem aGx:([aQ.p (dK p),.r vs.length (aP vs)].all aQ.ok)=true:=by simp only[eA,e8,aQ.ok,iz];rw[show(aP vs).all flat=true from dR vs];rfl
theorem aTD(hp:bP m p)(j4:p.n≠0)(aW:∀ v∈vs,aD q v)(hm:100*(m+q)+1000<=aF)(h63:vs.length<900000)(h:(bZ p vs vs.length).length<3):
  cx prog 141 [.p (dK p),.r vs.length (aP vs)] (.slice none 0 0):=by
 have lo:=λBs=>aGu (Bs:=Bs) hp j4 aW hm h63;generalize bZ p vs vs.length=on at *;exact iL mixed func141 aGx 200 (N:=124) k_ (λw=>[.code 0 _ _ _ _ _ (lo _),.lt 31 on.length 3 true (aJ h)]) (λ_=>k_) k_
theorem aX8{sq:l_}(hp:bP m p)(j4:p.n≠0)(aW:∀ v∈vs,aD m v)(hm:300*m+1000<=aF)(h63:vs.length<900000)(h:¬(bZ p vs vs.length).length<3)(hf:R7 p.n vs (bZ p vs vs.length)=false)(sj:aXN p.n vs (bZ p vs vs.length) sq):
  mz prog 141 [.p (dK p),.r vs.length (aP vs)] 3 1 sq.length (aw sq):=by
 have lo:=λBs=>aGu (Bs:=Bs) hp j4 aW o_ h63;have iB:∀ x∈bZ p vs vs.length,x<vs.length:=λx hx=>X0 hx;have hol:=JM p vs vs.length;generalize bZ p vs vs.length=on at *;obtain⟨o,h0⟩:∃ o,on[0]?=some o:=⟨_,bt o_⟩;have l2:=λBs=>aTB (Bs:=Bs) sj h0 iB hp.1 aW o_ o_;exact yK (k:=4) mixed func141 aGx 200 (N:=124) k_ (λw=>[.code 0 _ _ _ _ _ (lo _),.lt 31 on.length 3 false (aY h),aTC o_ hf hp.1 aW iB o_ o_,.ix f141 39 2 on.length 0 o_ k_,.ld f141 40 3 2 0 (.row (aw on) 3 1) (vI o) rfl (eB h0) k_,.bs f141 41 3 1 3 1 [0] (vI 0) [vI o] #[vI o] (.row [vI o] 3 1) rfl (λv hv=>by simp at hv;subst hv;rfl) (λv hv=>by simp at hv;subst hv;rfl) k_ rfl d_ d_ k_,.code 2 _ _ _ _ _ (l2 _)]) (λ_=>k_) (iU sq) (by rw[oG,gZ])
end
theorem aGy{v:V3 K}:EA ps v=false↔(v=0\/∃ r∈ps,0<dot r.n v):=by
 unfold EA;rw[Bool.and_eq_false_iff,Bool.not_eq_false',Bool.not_eq_false',uV,rS];constructor
 ·rintro(h|⟨r,hr,h⟩)
  ·exact .inl h
  ·exact .inr ⟨r,hr,RK.1 (jN h)⟩
 ·rintro(h|⟨r,hr,h⟩)
  ·exact .inl h
  ·exact .inr ⟨r,hr,aJ (RK.2 h)⟩
theorem Yl{u:V3 K}:rC ps u=false↔(u≠0->(∃ r∈ps,0<dot r.n u)/\∃ r∈ps,0<dot r.n (-u)):=by
 unfold rC;rw[N5,aGy,aGy];constructor
 ·rintro⟨h1,h2⟩ hu
  exact⟨h1.resolve_left hu,h2.resolve_left λe=>hu (V3.neg_eq_zero.1 e)⟩
 ·intro h;by_cases hu:u=0
  ·exact⟨.inl hu,.inl (V3.neg_eq_zero.2 hu)⟩
  ·exact⟨.inr (h hu).1,.inr (h hu).2⟩
theorem aGz{ps:c_}:∀ n,n<=ps.length->(uY ps n=true↔∃(i j:Nat) (p q:HS K),i<n/\j<i/\ps[i]?=some p/\ps[j]?=some q/\ag p.n q.n≠0)
 |0,_=>by
  constructor
  ·intro h;cases h
  ·rintro⟨i,_,_,_,h,_⟩;omega
 |n+1,hn=>by
  have hp:ps[n]?=some ps[n]:=bt o_;rw[aDw hp,vG,aGz n o_];unfold rD;rw[rS];constructor
  ·rintro(⟨i,j,p,q,h1,h2,h3⟩|⟨q,hq,h⟩)
   ·exact⟨i,j,p,q,by omega,h2,h3⟩
   ·obtain⟨j,hj,rfl⟩:=lA hq;rw[jV]at hj;rw[RM]at h;exact⟨n,j,ps[n],ps[j],by omega,by omega,hp,bt o_,by simpa using h⟩
  ·rintro⟨i,j,p,q,h1,h2,h3,h4,h5⟩
   rcases fo i n with h|h
   ·exact .inl ⟨i,j,p,q,h,h2,h3,h4,h5⟩
   ·have:i=n:=by omega
    subst this;rw[hp]at h3;injection h3 with h3;subst h3;exact .inr ⟨q,cM (i:=j) (by rw[vx,aA h2];exact h4),by simpa using h5⟩
theorem aTE:QF ps ps.length=false↔∀(i j:Nat) (p q:HS K),j<i->ps[i]?=some p->ps[j]?=some q->rC ps (ag p.n q.n)=false:=by
 unfold QF;rw[Kw];constructor
 ·intro h i j p q mJ hp hq;have ao:=(eP.1 hp).1;have:=h i (kh.2 ao);rw[QG hp,rS]at this;cases hb:rC ps (ag p.n q.n)with
  |false=>rfl
  |true=>exact absurd ⟨q,cM (i:=j) (by rw[vx,aA mJ];exact hq),hb⟩ this
 ·intro h i hi;have ao:=kh.1 hi;have hp:ps[i]?=some ps[i]:=bt ao;rw[QG hp,rS]
  rintro⟨q,hq,hb⟩
  obtain⟨j,hj,rfl⟩:=lA hq;rw[jV]at hj;have xN:ps[j]?=some ps[j]:=bt o_;rw[RM]at hb;rw[h i j _ _ o_ hp xN]at hb;cases hb
theorem aGA:u4 ps=true↔Cl ps:=by
 unfold u4;rw[dc,zZ,aGz _ (bF _),aTE];have sw:∀ p q:HS K,ag q.n p.n=-ag p.n q.n:=λp q=>V3.GO _ _;constructor
 ·rintro⟨h1,i,j,p,q,hi,mJ,hp,hq,hc⟩
  refine⟨⟨p,cM hp,q,cM hq,hc⟩,λp hp q hq bB=>?_⟩;obtain⟨i,hi,rfl⟩:=lA hp;obtain⟨j,hj,rfl⟩:=lA hq;rcases uf i j with h|h|h
  ·have:=Yl.1 (h1 j i _ _ h (bt hj) (bt hi)) (λe=>bB (by rw[sw,e];exact V3.neg_eq_zero.2 rfl));rw[sw ps[j] ps[i]];exact this.2
  ·subst h;exact absurd (V3.LN _) bB
  ·exact(Yl.1 (h1 i j _ _ h (bt hi) (bt hj)) bB).1
 ·rintro⟨⟨p,hp,q,hq,bB⟩,bo⟩
  refine⟨λi j p q _ hp hq=>Yl.2 λhu=>?_,?_⟩
  ·have fT:=cM hp;have pP:=cM hq;refine⟨bo p fT q pP hu,?_⟩;rw[<-sw];exact bo q pP p fT (λe=>hu (by rw[sw q p,e];exact V3.neg_eq_zero.2 rfl))
  ·obtain⟨i,hi,rfl⟩:=lA hp;obtain⟨j,hj,rfl⟩:=lA hq;rcases uf i j with h|h|h
   ·exact⟨j,i,_,_,hj,h,bt hj,bt hi,λe=>bB (by rw[sw,e];exact V3.neg_eq_zero.2 rfl)⟩
   ·subst h;exact absurd (V3.LN _) bB
   ·exact⟨i,j,_,_,hi,h,bt hi,bt hj,bB⟩
theorem aGB:∀ n:Nat,(CR.ofNat n:K)=kI (n:Int)
 |0=>rfl
 |n+1=>by
  show(CR.ofNat n:K)+1=_;rw[aGB n];refine bO.ext (bO.ext ?_ ?_) (bO.ext ?_ ?_)
  ·show((n:Int):Rat)+1=(((n+1:Nat):Int):Rat)
   push_cast;rfl
  ·show(0:Rat)+0=0;exact Rat.add_zero 0
  ·show(0:Rat)+0=0;exact Rat.add_zero 0
  ·show(0:Rat)+0=0;exact Rat.add_zero 0
theorem aTF(z:Int):kI z=(Fr.mk z 0 0 0 1).val:=by have h:=Vq z;have:=pJ (kI z);rw[show bX (kI z)=⟨z,0,0,0,1⟩from h]at this;exact this.symm
theorem aTG{n:Nat}(hn:n≠0):eZ 1 (n:Int)*kI (n:Int)=1:=by
 rw[aTF];unfold eZ;rw[<-Lq (by simpa using hn) s_];have e:ev ⟨1,0,0,0,(n:Int)⟩ ⟨(n:Int),0,0,0,1⟩=⟨(n:Int),0,0,0,(n:Int)⟩:=by unfold ev;simp
 rw[e];unfold Fr.val;dsimp only;have h1:Rat.divInt (n:Int) (n:Int)=1:=by rw[CD,Gu];exact I6 _ (by simpa using hn)
 rw[h1,Rat.zero_divInt];rfl
theorem aTH{n:Nat}(hn:n≠0):eZ 1 (n:Int)=(CR.ofNat n:K)⁻¹:=by
 have h:=aTG hn;rw[<-aGB]at h;have bB:(CR.ofNat n:K)≠0:=OF.ne_of_gt (Wi o_);have h2:=OF.jA _ bB
 calc eZ 1 (n:Int)=eZ 1 (n:Int)*(CR.ofNat n*(CR.ofNat n:K)⁻¹):=by rw[h2,CR.mul_one]
  _=(CR.ofNat n:K)⁻¹:=by rw[<-CR.mul_assoc,h,CR.one_mul]
theorem aGC{l:e_}(h:l≠[]):CZ l=CU l:=by have hl:l.length≠0:=λe=>h (lG e);unfold CZ CU;rw[aTH hl];rfl
theorem aTI{vs:e_}:yT ps vs=true↔vs≠[]/\sB ps (CU vs):=by
 unfold yT;rw[dc,zZ,zZ,aAW,Kw];have hl:¬vs.length=0↔vs≠[]:=⟨λh e=>h (by rw[e];rfl),λh e=>h (lG e)⟩;rw[hl];constructor
 ·rintro⟨h1,h2⟩
  refine⟨h1,λp hp=>?_⟩;have:=h2 p hp;rw[uV,RL,aGC h1,OF.sub_nonneg]at this;exact OF.not_le.1 this
 ·rintro⟨h1,h2⟩
  refine⟨h1,λp hp=>?_⟩;rw[uV,RL,aGC h1,OF.sub_nonneg];exact OF.not_le.2 (h2 p hp)
theorem aTJ(h:x≠0):0<jo x:=by
 unfold jo;by_cases hs:OF.aE x<0
 ·rw[aA hs,OF.gj,OF.pI,aFV.1 hs];rfl
 ·rw[au hs,OF.gj];rcases OF.iJ x with e|e|e
  ·rw[e]at hs;exact absurd d_ hs
  ·exact absurd ((OF.fU x).1 e) h
  ·exact e
theorem aGD(h:x≠0):0<nC x:=by unfold nC;rw[show kI 1*(jo x)⁻¹=(jo x)⁻¹ from CR.one_mul _];exact OF.inv_pos (aTJ h)
def Di(p:HS K)(k:K):HS K:=⟨smul p.n k,p.d*k⟩
theorem R8(p:HS K):canon p=Di p (nC (ry p.n)):=rfl
theorem aTK(v:V3 K)(a b:K):smul (smul v a) b=smul v (a*b):=V3.ext (CR.mul_assoc _ _ _) (CR.mul_assoc _ _ _) (CR.mul_assoc _ _ _)
theorem aTL(v:V3 K):smul v 1=v:=V3.ext (CR.mul_one _) (CR.mul_one _) (CR.mul_one _)
theorem Ym(p:HS K)(a b:K):Di (Di p a) b=Di p (a*b):=HS.ext (aTK _ _ _) (CR.mul_assoc _ _ _)
theorem aTM(p:HS K):Di p 1=p:=HS.ext (aTL _) (CR.mul_one _)
theorem aTN{v:V3 K}{k:K}(hk:k≠0):ry (smul v k)=ry v*k:=by
 have z:∀ x:K,x*k≠0↔x≠0:=λx=>⟨λh e=>h (by rw[e,CR.zero_mul]),λh=>OF.mul_ne_zero h hk⟩;unfold ry;show(if v.x*k≠0 then v.x*k else if v.y*k≠0 then v.y*k else v.z*k)=_;by_cases hx:v.x≠0
 ·rw[aA ((z _).2 hx),aA hx]
 ·rw[au (λh=>hx ((z _).1 h)),au hx];by_cases hy:v.y≠0
  ·rw[aA ((z _).2 hy),aA hy]
  ·rw[au (λh=>hy ((z _).1 h)),au hy]
theorem aTO{k:K}(hk:0<k):jo (x*k)=jo x*k:=by
 unfold jo;have e:OF.aE (x*k)=OF.aE x:=by rw[CR.mul_comm,OF.Lm hk]
 rw[e];by_cases h:OF.aE x<0
 ·rw[aA h,aA h,CR.neg_mul]
 ·rw[au h,au h]
theorem aTP{k:K}(hx:x≠0)(hk:0<k):k*nC (x*k)=nC x:=by
 have e:∀ y:K,nC y=(jo y)⁻¹:=λy=>CR.one_mul _;have xc:k≠0:=OF.ne_of_gt hk;have h0:jo x≠0:=Qw hx;rw[e,e,aTO hk];have h1:=OF.jA _ h0;have h2:=OF.jA (jo x*k) (OF.mul_ne_zero h0 xc)
 calc k*(jo x*k)⁻¹=(jo x*(jo x)⁻¹)*(k*(jo x*k)⁻¹):=by rw[h1,CR.one_mul]
  _=(jo x)⁻¹*(jo x*k*(jo x*k)⁻¹):=by rw[CR.mul_comm (jo x),CR.mul_assoc,CR.mul_assoc]
  _=(jo x)⁻¹:=by rw[h2,CR.mul_one]
theorem Yn{p q:HS K}(hp:p.n≠0)(hq:q.n≠0):canon p=canon q↔∃ k:K,0<k/\q=Di p k:=by
 have ap:=aGD (Qx hp);have aq:=aGD (Qx hq);constructor
 ·intro h;rw[R8,R8]at h;have h1:=OF.jA _ (OF.ne_of_gt aq);refine⟨nC (ry p.n)*(nC (ry q.n))⁻¹,OF.mul_pos ap (OF.inv_pos aq),?_⟩;rw[<-Ym,h,Ym,h1,aTM]
 ·rintro⟨k,hk,rfl⟩
  rw[R8,R8];have e:ry (Di p k).n=ry p.n*k:=aTN (OF.ne_of_gt hk);rw[e,Ym,aTP (Qx hp) hk]
end
section
open CR OF V3
section
variable{F:Type}[OF F]
theorem aTQ(a b c:V3 F)(x y z:F):dot a (smul (ag b c) x+smul (ag c a) y+smul (ag a b) z)=x*aN a b c:=
 ring [a,b,c] [x,y,z] (λV S=>dot (V 0) (smul (ag (V 1) (V 2)) (S 0)+smul (ag (V 2) (V 0)) (S 1)+smul (ag (V 0) (V 1)) (S 2))) (λV S=>S 0*aN (V 0) (V 1) (V 2)) d_
theorem aTR(a b c:V3 F)(x y z:F):dot b (smul (ag b c) x+smul (ag c a) y+smul (ag a b) z)=y*aN a b c:=
 ring [a,b,c] [x,y,z] (λV S=>dot (V 1) (smul (ag (V 1) (V 2)) (S 0)+smul (ag (V 2) (V 0)) (S 1)+smul (ag (V 0) (V 1)) (S 2))) (λV S=>S 1*aN (V 0) (V 1) (V 2)) d_
theorem aTS(a b c:V3 F)(x y z:F):dot c (smul (ag b c) x+smul (ag c a) y+smul (ag a b) z)=z*aN a b c:=
 ring [a,b,c] [x,y,z] (λV S=>dot (V 2) (smul (ag (V 1) (V 2)) (S 0)+smul (ag (V 2) (V 0)) (S 1)+smul (ag (V 0) (V 1)) (S 2))) (λV S=>S 2*aN (V 0) (V 1) (V 2)) d_
theorem aGE(u w:V3 F):aN u u w=0:=ring [u,w] [] (λV _=>aN (V 0) (V 0) (V 1)) (λ_ _=>0) d_
theorem aGF(u w:V3 F):aN u w w=0:=ring [u,w] [] (λV _=>aN (V 0) (V 1) (V 1)) (λ_ _=>0) d_
theorem aGG(u w:V3 F):aN u w u=0:=ring [u,w] [] (λV _=>aN (V 0) (V 1) (V 0)) (λ_ _=>0) d_
theorem R9:∀(l:List (F×F)),(∀ x∈l,0<x.2)->∃ e:F,0<e/\∀ x∈l,x.1*e<=x.2
 |[],_=>⟨1,OF.zero_lt_one,λx h=>(by cases h)⟩
 |(a,b)::l,h=>by
  obtain⟨e,he,hl⟩:=R9 l λx hx=>h x (bK _ hx);have hb:0<b:=h (a,b) (aR ..);by_cases cd:a*e<=b
  ·refine⟨e,he,λx hx=>?_⟩;rcases cE.1 hx with rfl|hx
   ·exact cd
   ·exact hl x hx
  ·have cd:=OF.not_le.1 cd;have ha:0<a:=by
    apply iP;intro Cy;have Cy:=OF.not_lt.1 Cy;have:a*e<=0:=by rw[<-CR.neg_neg (a*e),OF.Ef,<-CR.neg_mul];exact OF.mul_nonneg (OF.neg_nonneg.2 Cy) (OF.le_of_lt he)
    exact OF.lt_irrefl _ (OF.lt_of_lt_of_le (OF.lt_trans hb cd) this)
   have hi:0<b*a⁻¹:=OF.mul_pos hb (OF.inv_pos ha);have hae:a*(b*a⁻¹)=b:=by rw[CR.mul_left_comm,OF.jA _ (OF.ne_of_gt ha),CR.mul_one]
   have ao:b*a⁻¹<e:=by rw[<-OF.mul_lt_mul_left ha,hae];exact cd
   refine⟨b*a⁻¹,hi,λx hx=>?_⟩;rcases cE.1 hx with rfl|hx
   ·exact OF.le_of_eq hae
   ·by_cases lQ:0<x.1
    ·exact OF.le_trans ((OF.mul_le_mul_left lQ).2 (OF.le_of_lt ao)) (hl x hx)
    ·have lQ:=OF.not_lt.1 lQ;have:x.1*(b*a⁻¹)<=0:=by rw[<-CR.neg_neg (x.1*(b*a⁻¹)),OF.Ef,<-CR.neg_mul];exact OF.mul_nonneg (OF.neg_nonneg.2 lQ) (OF.le_of_lt hi)
     exact OF.le_trans this (OF.le_of_lt (h x (bK _ hx)))
structure od(ps S:List (HS F)):Prop where
 sub:∀ p∈S,p∈ps
 same:∀ v,ep S v↔ep ps v
 least:∀ T:List (HS F),(∀ p∈T,p∈ps)->(∀ v,ep T v↔ep ps v)->S.length<=T.length
theorem aGH(ps:List (HS F)):∃ S,od ps S:=by
 have key:∀ n,∀ S:List (HS F),S.length=n->(∀ p∈S,p∈ps)->(∀ v,ep S v↔ep ps v)->∃ S,od ps S:=by
  intro n;induction n using Nat.strongRecOn with
  |ind n ih=>
   intro S hl h1 h2;by_cases h:∃ T:List (HS F),(∀ p∈T,p∈ps)/\(∀ v,ep T v↔ep ps v)/\T.length<n
   ·obtain⟨T,t1,t2,t3⟩:=h;exact ih _ t3 T rfl t1 t2
   ·refine⟨S,h1,h2,λT t1 t2=>?_⟩;rcases fo T.length S.length with ao|gw
    ·exact(h ⟨T,t1,t2,by omega⟩).elim
    ·exact gw
 exact key _ ps rfl (λ_ h=>h) (λ_=>Iff.rfl)
theorem od.alone{ps A B:List (HS F)}{p:HS F}(h:od ps (A++p::B)):∃ y,ep (A++B) y/\p.d<dot p.n y:=by
 apply iP;intro gi;have hT:∀ v,ep (A++B) v↔ep ps v:=by
  intro v;rw[<-h.same v];constructor
  ·intro hv q hq;rcases fh.1 hq with hq|hq
   ·exact hv q (uh _ hq)
   ·rcases cE.1 hq with rfl|hq
    ·exact OF.not_lt.1 λao=>gi ⟨v,hv,ao⟩
    ·exact hv q (zG _ hq)
  ·intro hv q hq;refine hv q ?_;rcases fh.1 hq with hq|hq
   ·exact uh _ hq
   ·exact zG _ (bK _ hq)
 have:=h.least (A++B) (λq hq=>h.sub q (by
  rcases fh.1 hq with hq|hq
  ·exact uh _ hq
  ·exact zG _ (bK _ hq))) hT
 simp at this;omega
theorem od.L0{ps A B:List (HS F)}{p:HS F}(h:od ps (A++p::B)){x:V3 F}(hx:sB ps x):∃ z,cC p z/\∀ q∈A++B,dot q.n z<q.d:=by
 obtain⟨y,hy,hpy⟩:=h.alone;have hpx:dot p.n x<p.d:=hx p (h.sub p (zG _ (aR ..)));have rq:0<dot p.n y-dot p.n x:=OF.sub_pos.2 (OF.lt_trans hpx hpy);have hda:0<p.d-dot p.n x:=OF.sub_pos.2 hpx;obtain⟨t,ht⟩:∃ t,t=(p.d-dot p.n x)*(dot p.n y-dot p.n x)⁻¹:=⟨_,rfl⟩;have xi:0<t:=ht▸OF.mul_pos hda (OF.inv_pos rq);have OL:(dot p.n y-dot p.n x)*t=p.d-dot p.n x:=by rw[ht,CR.mul_left_comm,OF.jA _ (OF.ne_of_gt rq),CR.mul_one]
 have jn:t<1:=by rw[<-OF.mul_lt_mul_left rq,OL,CR.mul_one];rw[<-OF.sub_pos,show dot p.n y-dot p.n x-(p.d-dot p.n x)=dot p.n y-p.d from j0 (dot p.n x) (dot p.n y) p.d (λa b d=>b-a-(d-a)) (λa b d=>b-d) d_];exact OF.sub_pos.2 hpy
 refine⟨x+smul (y-x) t,?_,λq hq=>?_⟩
 ·unfold cC;rw[iT,gk,gg,OL];exact iR (dot p.n x) p.d (λa d=>a+(d-a)) (λa d=>d) d_
 ·rw[iT,gk,gg];have q1:dot q.n x<q.d:=hx q (h.sub q (by
   rcases fh.1 hq with hq|hq
   ·exact uh _ hq
   ·exact zG _ (bK _ hq)))
  have q2:=hy q hq;have e:q.d-(dot q.n x+(dot q.n y-dot q.n x)*t)=(1-t)*(q.d-dot q.n x)+t*(q.d-dot q.n y):=yv (dot q.n x) (dot q.n y) q.d t (λa b d t=>d-(a+(b-a)*t)) (λa b d t=>(1-t)*(d-a)+t*(d-b)) d_;rw[<-OF.sub_pos,e];exact OF.IY (OF.mul_pos (OF.sub_pos.2 jn) (OF.sub_pos.2 q1)) (OF.mul_nonneg (OF.le_of_lt xi) (OF.sub_nonneg.2 q2))
theorem kz.back{ps:List (HS F)}{p:HS F}(hp:p∈ps){v:V3 F}(h:kz (⟨-p.n,-p.d⟩::ps) v):kz ps v/\cC p v:=by
 obtain⟨cy,a,ha,b,hb,c,hc,hd,ta,tb,tc⟩:=h;have tp:cC p v:=by
  have h1:=cy _ (aR ..);dsimp only at h1;rw[vY]at h1;have h1:p.d<=dot p.n v:=by rw[<-OF.sub_nonneg]at h1 ⊢;rwa[show -p.d - -dot p.n v=dot p.n v-p.d from iR (dot p.n v) p.d (λa d=>-d - -a) (λa d=>a-d) d_]at h1
  exact OF.le_antisymm (cy p (bK _ hp)) h1
 have aTT:ep ps v:=λq hq=>cy q (bK _ hq)
 -- a qv of the list with the same normal,wP for V9 sign
 have bX:∀ q∈(⟨-p.n,-p.d⟩::ps:List (HS F)),cC q v->∃ q'∈ps,cC q' v/\(q'.n=q.n\/q.n=-q'.n):=by
  intro q hq tq;rcases cE.1 hq with rfl|hq
  ·exact⟨p,hp,tp,.inr rfl⟩
  ·exact⟨q,hq,tq,.inl rfl⟩
 obtain⟨a',jx,ta',ea⟩:=bX a ha ta;obtain⟨b',ki,tb',eb⟩:=bX b hb tb;obtain⟨c',lf,tc',ec⟩:=bX c hc tc;refine⟨⟨aTT,a',jx,b',ki,c',lf,λe=>hd ?_,ta',tb',tc'⟩,tp⟩;have n1:∀ u v w:V3 F,aN (-u) v w=-aN u v w:=λu v w=>ring [u,v,w] [] (λV _=>aN (-V 0) (V 1) (V 2)) (λV _=>-aN (V 0) (V 1) (V 2)) d_;have n2:∀ u v w:V3 F,aN u (-v) w=-aN u v w:=λu v w=>ring [u,v,w] [] (λV _=>aN (V 0) (-V 1) (V 2)) (λV _=>-aN (V 0) (V 1) (V 2)) d_;have n3:∀ u v w:V3 F,aN u v (-w)=-aN u v w:=λu v w=>ring [u,v,w] [] (λV _=>aN (V 0) (V 1) (-V 2)) (λV _=>-aN (V 0) (V 1) (V 2)) d_;rcases ea with ea|ea<;>rcases eb with eb|eb<;>rcases ec with ec|ec<;>
  (first|rw[<-ea]|rw[ea,n1])<;>(first|rw[<-eb]|rw[eb,n2])<;>(first|rw[<-ec]|rw[ec,n3])<;>rw[e]<;>(try simp only[CR.neg_zero])
theorem od.Bx{ps A B:List (HS F)}{p:HS F}(hc:Cl ps)(hp:fE ps)(h:od ps (A++p::B)){x m:V3 F}(hx:sB ps x)(hm:ag p.n m≠0):
  ∃ v w,kz ps v/\cC p v/\kz ps w/\cC p w/\dot m w<dot m v:=by
 obtain⟨z,hz,hq⟩:=h.L0 hx;have jr:p∈ps:=h.sub p (zG _ (aR ..));obtain⟨e,he⟩:∃ e,e=ag (ag p.n m) p.n:=⟨_,rfl⟩;have pe:dot p.n e=0:=by rw[he];exact AO _ _
 have me:0<dot m e:=by
  have:dot m e=dot (ag p.n m) (ag p.n m):=by rw[he];exact ring [p.n,m] [] (λV _=>dot (V 1) (ag (ag (V 0) (V 1)) (V 0))) (λV _=>dot (ag (V 0) (V 1)) (ag (V 0) (V 1))) d_
  rw[this];exact CN hm
 obtain⟨t,ht,rG⟩:=R9 ((A++B).map (λq=>(dot q.n e,q.d-dot q.n z))++(A++B).map (λq=>(-dot q.n e,q.d-dot q.n z))) λy hy=>by
  rcases fh.1 hy with hy|hy
  ·obtain⟨q,mA,rfl⟩:=df.1 hy;exact OF.sub_pos.2 (hq q mA)
  ·obtain⟨q,mA,rfl⟩:=df.1 hy;exact OF.sub_pos.2 (hq q mA)
 have aGI:∀ s:F,(∀ q∈A++B,dot q.n e*s<=q.d-dot q.n z)->ep (⟨-p.n,-p.d⟩::ps) (z+smul e s):=by
  intro s hs;have hS:ep (A++p::B) (z+smul e s):=by
   intro q mA;rw[iT,gk];have other:q∈A++B->dot q.n z+dot q.n e*s<=q.d:=λmA=>by have:=hs q mA;rw[<-OF.sub_nonneg]at this ⊢;rwa[show q.d-dot q.n z-dot q.n e*s=q.d-(dot q.n z+dot q.n e*s)from j0 q.d (dot q.n z) (dot q.n e*s) (λa b c=>a-b-c) (λa b c=>a-(b+c)) d_]at this
   rcases fh.1 mA with mA|mA
   ·exact other (uh _ mA)
   ·rcases cE.1 mA with rfl|mA
    ·rw[pe,CR.zero_mul,CR.add_zero];exact OF.le_of_eq hz
    ·exact other (zG _ mA)
  have cy:=(h.same _).1 hS;intro q mA;rcases cE.1 mA with rfl|mA
  ·dsimp only;rw[vY,iT,gk,pe,CR.zero_mul,CR.add_zero,show dot p.n z=p.d from hz];exact OF.le_refl _
  ·exact cy q mA
 have lf:Cl (⟨-p.n,-p.d⟩::ps):=Cl.more hc hp λq hq=>bK _ hq;have fT:fE (⟨-p.n,-p.d⟩::ps):=λq hq=>by
  rcases cE.1 hq with rfl|hq
  ·exact λe=>hp p jr (V3.neg_eq_zero.1 e)
  ·exact hp q hq
 have i1:=aGI t λq mA=>rG _ (uh _ (df.2 ⟨q,mA,rfl⟩));have i2:=aGI (-t) λq mA=>by have:=rG _ (zG _ (df.2 ⟨q,mA,rfl⟩));dsimp only at this;rwa[CR.neg_mul,<-CR.mul_neg]at this
 obtain⟨v,hv,hmv⟩:=top lf fT (m:=m) i1;obtain⟨w,hw,wx⟩:=top lf fT (m:=-m) i2;obtain⟨v1,v2⟩:=hv.back jr;obtain⟨w1,w2⟩:=hw.back jr;refine⟨v,w,v1,v2,w1,w2,?_⟩;rw[vY,vY]at wx;have wx:dot m w<=dot m (z+smul e (-t)):=by rw[<-OF.sub_nonneg]at wx ⊢;rwa[show -dot m w - -dot m (z+smul e (-t))=dot m (z+smul e (-t))-dot m w from iR (dot m w) (dot m (z+smul e (-t))) (λa b=>-a - -b) (λa b=>b-a) d_]at wx
 refine OF.lt_of_le_of_lt wx (OF.lt_of_lt_of_le ?_ hmv);rw[iT,gk,iT,gk,<-OF.sub_pos,show dot m z+dot m e*t-(dot m z+dot m e*-t)=dot m e*t+dot m e*t from j0 (dot m z) (dot m e) t (λa b t=>a+b*t-(a+b*-t)) (λa b t=>b*t+b*t) d_];have:=OF.mul_pos me ht;exact OF.add_pos this this
theorem aTU{a b:V3 F}(ha:a≠0):∃ u:V3 F,u≠0/\dot a u=0/\dot b u=0:=by
 by_cases h:ag a b=0
 ·obtain⟨u,hu,Qq⟩:=LQ ha;exact⟨u,hu,Qq,LR ha h Qq⟩
 ·exact⟨_,h,Et _ _,AO _ _⟩
theorem Yo{a b c:V3 F}(ha:a≠0):∃ u:V3 F,u≠0/\dot a u<=0/\dot b u<=0/\dot c u<=0:=by
 obtain⟨u,hu,h1,h2⟩:=aTU (b:=b) ha;rcases OF.le_total (dot c u) 0 with h|h
 ·exact⟨u,hu,OF.le_of_eq h1,OF.le_of_eq h2,h⟩
 ·refine⟨-u,λe=>hu (V3.neg_eq_zero.1 e),?_,?_,?_⟩
  ·rw[pO,h1,CR.neg_zero];exact OF.le_refl _
  ·rw[pO,h2,CR.neg_zero];exact OF.le_refl _
  ·rw[pO];exact OF.Ef.2 h
theorem od.four{ps S:List (HS F)}(hc:Cl ps)(hp:fE ps)(h:od ps S){x:V3 F}(hx:sB ps x):4<=S.length:=by
 apply iP;intro ao;have hu:∃ u:V3 F,u≠0/\∀ p∈S,dot p.n u<=0:=by
  match S,ao,h with
  |[],_,_=>
   obtain⟨⟨p,jr,_⟩,_⟩:=hc;exact⟨p.n,hp p jr,λq hq=>(by cases hq)⟩
  |[a],_,h=>
   obtain⟨u,hu,h1,_,_⟩:=Yo (a:=a.n) (b:=a.n) (c:=a.n) (hp a (h.sub a s_));exact⟨u,hu,λq hq=>by simp at hq;subst hq;exact h1⟩
  |[a,b],_,h=>
   obtain⟨u,hu,h1,h2,_⟩:=Yo (a:=a.n) (b:=b.n) (c:=a.n) (hp a (h.sub a s_));exact⟨u,hu,λq hq=>by simp at hq;rcases hq with rfl|rfl<;>assumption⟩
  |[a,b,c],_,h=>
   obtain⟨u,hu,h1,h2,h3⟩:=Yo (a:=a.n) (b:=b.n) (c:=c.n) (hp a (h.sub a s_));exact⟨u,hu,λq hq=>by simp at hq;rcases hq with rfl|rfl|rfl<;>assumption⟩
  |_::_::_::_::_,ao,_=>simp at ao
 obtain⟨u,hu,bo⟩:=hu;obtain⟨r,hr,Nt⟩:=hc.bounds hp hu;have hrx:=hx r hr;obtain⟨t,ht⟩:∃ t,t=(r.d-dot r.n x)*(dot r.n u)⁻¹+1:=⟨_,rfl⟩;have xi:0<t:=ht▸OF.add_pos (OF.mul_pos (OF.sub_pos.2 hrx) (OF.inv_pos Nt)) OF.zero_lt_one;have cy:ep ps (x+smul u t):=by
  rw[<-h.same];intro q hq;rw[iT,gk];have h1:=bo q hq;have h2:dot q.n u*t<=0:=by rw[<-CR.neg_neg (dot q.n u*t),OF.Ef,<-CR.neg_mul];exact OF.mul_nonneg (OF.neg_nonneg.2 h1) (OF.le_of_lt xi)
  have h3:=OF.add_le_add (OF.le_of_lt (hx q (h.sub q hq))) h2;rwa[CR.add_zero]at h3
 have h1:=cy r hr;rw[iT,gk,ht,CR.mul_add,CR.mul_left_comm,OF.jA _ (OF.ne_of_gt Nt),CR.mul_one,CR.mul_one]at h1;rw[<-OF.sub_nonneg,show r.d-(dot r.n x+(r.d-dot r.n x+dot r.n u))=-dot r.n u from j0 r.d (dot r.n x) (dot r.n u) (λd a b=>d-(a+(d-a+b))) (λd a b=>-b) d_,OF.neg_nonneg]at h1;exact OF.lt_irrefl _ (OF.lt_of_lt_of_le Nt h1)
end
end
section
open CR OF
open V3 (dot ag aN smul)
theorem aGJ:¬OF.aE x<=0↔0<x:=by rw[OF.gj];rcases OF.iJ x with h|h|h<;>rw[h]<;>decide
theorem aGK:OF.aE x<=0↔x<=0:=by rw[OF.UX];rcases OF.iJ x with h|h|h<;>rw[h]<;>decide
theorem aGL{d:V3 K}:zy ps d=false↔∃ r∈ps,0<dot r.n d:=by
 unfold zy;rw[JX];constructor
 ·rintro⟨r,hr,h⟩
  exact⟨r,hr,aGJ.1 (by simpa using h)⟩
 ·rintro⟨r,hr,h⟩
  exact⟨r,hr,by simpa using aGJ.2 h⟩
theorem Yp{ps:c_}{f:Bool}{i:Nat}:∀ n,pT ps f i n=true↔f=true/\∀ j,j<n->ob ps i j=0\/Df ps (ob ps i j)=true
 |0=>⟨λh=>⟨h,λj hj=>by omega⟩,λh=>h.1⟩
 |n+1=>by
  unfold pT;by_cases h:ob ps i n=0
  ·rw[aA h,Yp n];refine⟨λ⟨h1,h2⟩=>⟨h1,λj hj=>?_⟩,λ⟨h1,h2⟩=>⟨h1,λj hj=>h2 j o_⟩⟩;rcases fo j n with hl|hl
   ·exact h2 j hl
   ·have:j=n:=by omega
    subst this;exact .inl h
  ·rw[au h,dc,Yp n];refine⟨λ⟨⟨h1,h2⟩,h3⟩=>⟨h1,λj hj=>?_⟩,λ⟨h1,h2⟩=>⟨⟨h1,λj hj=>h2 j o_⟩,(h2 n o_).resolve_left h⟩⟩;rcases fo j n with hl|hl
   ·exact h2 j hl
   ·have:j=n:=by omega
    subst this;exact .inr h3
theorem Yq{ps:c_}:∀ n,nF ps n=true↔∀ i j,i<n->j<i->ob ps i j=0\/Df ps (ob ps i j)=true
 |0=>⟨λ_ i j hi=>by omega,λ_=>rfl⟩
 |n+1=>by
  unfold nF;rw[Yp,Yq n];refine⟨λ⟨h1,h2⟩ i j hi hj=>?_,λh=>⟨λi j hi hj=>h i j o_ hj,λj hj=>h n j o_ hj⟩⟩;rcases fo i n with hl|hl
  ·exact h1 i j hl hj
  ·have:i=n:=by omega
   subst this;exact h2 j hj
theorem Yr:xD ps=true↔Cl ps:=by
 unfold xD E6;rw[dc,bC];have sw:∀ p q:HS K,ag q.n p.n=-ag p.n q.n:=λp q=>V3.GO _ _;have bad:∀{i j:Nat},Br ps i j=false↔(ob ps i j≠0->(∃ r∈ps,0<dot r.n (ob ps i j))/\∃ r∈ps,0<dot r.n (-ob ps i j)):=by
  intro i j;unfold Br;rw[Bool.and_eq_false_iff,N5,aGL,aGL,aAW];constructor
  ·rintro(h|h) h0
   ·exact absurd h0 h
   ·exact h
  ·intro h;by_cases h0:ob ps i j≠0
   ·exact .inr (h h0)
   ·exact .inl h0
 have Bz:∀{p q:HS K} {i j:Nat},ps[i]?=some p->ps[j]?=some q->ob ps i j=ag p.n q.n:=λhp hq=>by unfold ob;rw[JR hp,JR hq]
 constructor
 ·rintro⟨h1,h2⟩
  have hb:∀ i j,i<ps.length->j<i->Br ps i j=false:=λi j hi hj=>by have:=h1 i (kh.2 hi);rw[bC]at this;simpa using this j (kh.2 hj)
  have qI:¬nF ps ps.length=true:=by simpa using h2
  rw[Yq]at qI;refine⟨?_,λp hp q hq bB=>?_⟩
  ·apply iP;intro gi;refine qI λi j hi hj=>.inl ?_;rw[Bz (bt hi) (bt (nq hj hi))];exact iP λh=>gi ⟨_,dy _,_,dy _,h⟩
  ·obtain⟨i,hi,rfl⟩:=lA hp;obtain⟨j,hj,rfl⟩:=lA hq;rcases uf i j with h|h|h
   ·have:=bad.1 (hb j i hj h);rw[Bz (bt hj) (bt hi)]at this;rw[sw ps[j] ps[i]];exact(this λe=>bB (by rw[sw,e];exact V3.neg_eq_zero.2 rfl)).2
   ·subst h;exact absurd (V3.LN _) bB
   ·have:=bad.1 (hb i j hi h);rw[Bz (bt hi) (bt hj)]at this;exact(this bB).1
 ·rintro⟨⟨p,hp,q,hq,bB⟩,bo⟩
  refine⟨λi hi=>?_,?_⟩
  ·have hi:=kh.1 hi;rw[bC];intro j hj;have hj:=kh.1 hj;have hp:=bt hi;have hq:=bt (nq hj hi);have:Br ps i j=false:=bad.2 λh0=>by rw[Bz hp hq]at h0 ⊢;refine⟨bo _ (cM hp) _ (cM hq) h0,?_⟩;rw[<-sw];exact bo _ (cM hq) _ (cM hp) λe=>h0 (by rw[sw,e];exact V3.neg_eq_zero.2 rfl)
   rw[this];rfl
  ·obtain⟨i,hi,rfl⟩:=lA hp;obtain⟨j,hj,rfl⟩:=lA hq;have key:∀ i j (hi:i<ps.length) (hj:j<ps.length),j<i->ag ps[i].n ps[j].n≠0->(!nF ps ps.length)=true:=by
    intro i j hi hj mJ bB;have:nF ps ps.length≠true:=λhf=>by
     rcases(Yq _).1 hf i j hi mJ with h|h
     ·rw[Bz (bt hi) (bt hj)]at h;exact bB h
     ·rw[Bz (bt hi) (bt hj)]at h;obtain⟨r,hr,nQ⟩:=bo _ (dy hi) _ (dy hj) bB;unfold Df at h;rw[bC]at h;have:=jN (h r hr);rw[this]at nQ;exact OF.lt_irrefl _ nQ
    simpa using this
   rcases uf i j with h|h|h
   ·exact key j i hj hi h λe=>bB (by rw[sw,e];exact V3.neg_eq_zero.2 rfl)
   ·subst h;exact absurd (V3.LN _) bB
   ·exact key i j hi hj h bB
theorem Ys(v:V3 K):∀ l:e_,aXI l v=nB v l
 |[]=>rfl
 |a::l=>by
  unfold aXI nB;rw[Ys v l];have:(0<eK a v)↔eK a v=1:=by rcases Jh a v with h|h|h<;>rw[h]<;>decide
  by_cases h0:eK a v=0
  ·rw[aA h0,aA h0]
  ·rw[au h0,au h0];by_cases h1:eK a v=1
   ·rw[aA h1,aA (this.2 h1)]
   ·rw[au h1,au (λh=>h1 (this.1 h))]
theorem aGM{p q r:HS K}(h:aN p.n q.n r.n≠0):cC p (lT p q r)/\cC q (lT p q r)/\cC r (lT p q r):=by unfold cC lT JI;rw[V3.gk,V3.gk,V3.gk,aQ1,CR.one_mul];have e1:=aTQ p.n q.n r.n p.d q.d r.d;have e2:=aTR p.n q.n r.n p.d q.d r.d;have e3:=aTS p.n q.n r.n p.d q.d r.d;rw[e1,e2,e3,CR.mul_assoc,CR.mul_assoc,CR.mul_assoc,OF.jA _ h,CR.mul_one,CR.mul_one,CR.mul_one];exact⟨rfl,rfl,rfl⟩
theorem aTV{p q r:HS K}(h:aN p.n q.n r.n≠0){x:V3 K}(hp:cC p x)(hq:cC q x)(hr:cC r x):x=lT p q r:=by
 obtain⟨h1,h2,h3⟩:=aGM h;refine V3.sub_eq_zero.1 (V3.Eu h ?_ ?_ ?_)
 ·rw[V3.gg,show dot p.n x=p.d from hp,show dot p.n (lT p q r)=p.d from h1,OF.sub_self]
 ·rw[V3.gg,show dot q.n x=q.d from hq,show dot q.n (lT p q r)=q.d from h2,OF.sub_self]
 ·rw[V3.gg,show dot r.n x=r.d from hr,show dot r.n (lT p q r)=r.d from h3,OF.sub_self]
def E9(ps:c_)(i j k:Nat):Prop:=aN (eR ps i).n (eR ps j).n (eR ps k).n≠0/\Bt ps i j k (lT (eR ps i) (eR ps j) (eR ps k))=true
theorem aTW{x:V3 K}:x∈vl ps acc i j k↔x∈acc\/(E9 ps i j k/\x=lT (eR ps i) (eR ps j) (eR ps k)):=by
 unfold vl E9;by_cases h:aN (eR ps i).n (eR ps j).n (eR ps k).n=0
 ·rw[aA h];exact⟨.inl,λe=>e.elim id λe=>absurd h e.1.1⟩
 ·rw[au h];by_cases h2:Bt ps i j k (lT (eR ps i) (eR ps j) (eR ps k))=true
  ·rw[aA h2,Ys,Qs];exact⟨λe=>e.elim (λe=>.inr ⟨⟨h,h2⟩,e⟩) .inl,λe=>e.elim .inr λe=>.inl e.2⟩
  ·rw[au h2];exact⟨.inl,λe=>e.elim id λe=>absurd e.1.2 h2⟩
theorem aTX(h:acc.Pairwise kA):(vl ps acc i j k).Pairwise kA:=by
 unfold vl;split
 ·exact h
 ·split
  ·rw[Ys];exact Wl h
  ·exact h
theorem aGN{ps:c_}{acc:e_}{i j:Nat}{x:V3 K}:∀ n,x∈pU ps acc i j n↔x∈acc\/∃ k,k<n/\E9 ps i j k/\x=lT (eR ps i) (eR ps j) (eR ps k)
 |0=>⟨.inl,λe=>e.elim id λ⟨k,h,_⟩=>by omega⟩
 |n+1=>by
  unfold pU;rw[aTW,aGN n];constructor
  ·rintro((h|⟨k,h1,h2⟩)|h)
   ·exact .inl h
   ·exact .inr ⟨k,by omega,h2⟩
   ·exact .inr ⟨n,by omega,h⟩
  ·rintro(h|⟨k,h1,h2⟩)
   ·exact .inl (.inl h)
   ·rcases fo k n with hl|hl
    ·exact .inl (.inr ⟨k,hl,h2⟩)
    ·have:k=n:=by omega
     subst this;exact .inr h2
theorem aGO{ps:c_}{acc:e_}{i:Nat}{x:V3 K}:∀ n,x∈oL ps acc i n↔x∈acc\/∃ j k,j<n/\k<j/\E9 ps i j k/\x=lT (eR ps i) (eR ps j) (eR ps k)
 |0=>⟨.inl,λe=>e.elim id λ⟨k,_,h,_⟩=>by omega⟩
 |n+1=>by
  unfold oL;rw[aGN,aGO n];constructor
  ·rintro((h|⟨j,k,h1,h2⟩)|⟨k,h⟩)
   ·exact .inl h
   ·exact .inr ⟨j,k,by omega,h2⟩
   ·exact .inr ⟨n,k,by omega,h⟩
  ·rintro(h|⟨j,k,h1,h2⟩)
   ·exact .inl (.inl h)
   ·rcases fo j n with hl|hl
    ·exact .inl (.inr ⟨j,k,hl,h2⟩)
    ·have:j=n:=by omega
     subst this;exact .inr ⟨k,h2⟩
theorem aGP{ps:c_}{x:V3 K}:∀ n,x∈sT ps n↔∃ i j k,i<n/\j<i/\k<j/\E9 ps i j k/\x=lT (eR ps i) (eR ps j) (eR ps k)
 |0=>⟨λh=>(by cases h),λ⟨i,_,_,h,_⟩=>by omega⟩
 |n+1=>by
  unfold sT;rw[aGO,aGP n];constructor
  ·rintro(⟨i,j,k,h1,h2⟩|⟨j,k,h⟩)
   ·exact⟨i,j,k,by omega,h2⟩
   ·exact⟨n,j,k,by omega,h⟩
  ·rintro⟨i,j,k,h1,h2⟩
   rcases fo i n with hl|hl
   ·exact .inl ⟨i,j,k,hl,h2⟩
   ·have:i=n:=by omega
    subst this;exact .inr ⟨j,k,h2⟩
theorem aGQ{ps:c_}{acc:e_}{i j:Nat}(h:acc.Pairwise kA):∀ n,(pU ps acc i j n).Pairwise kA
 |0=>h
 |n+1=>aTX (aGQ h n)
theorem aGR{ps:c_}{acc:e_}{i:Nat}(h:acc.Pairwise kA):∀ n,(oL ps acc i n).Pairwise kA
 |0=>h
 |n+1=>aGQ (aGR h n) _
theorem aGS{ps:c_}:∀ n,(sT ps n).Pairwise kA
 |0=>aDk
 |n+1=>aGR (aGS n) _
theorem aTY(hi:i<ps.length)(hj:j<ps.length)(hk:k<ps.length)(h:E9 ps i j k):kz ps (lT (eR ps i) (eR ps j) (eR ps k)):=by
 obtain⟨hd,hb⟩:=h;obtain⟨t1,t2,t3⟩:=aGM hd;have fQ:=bt hi;have gU:=bt hj;have gV:=bt hk;have mi:eR ps i∈ps:=by rw[qC fQ];exact dy hi
 have mj:eR ps j∈ps:=by rw[qC gU];exact dy hj
 have mk:eR ps k∈ps:=by rw[qC gV];exact dy hk
 refine⟨λp hp=>?_,_,mi,_,mj,_,mk,hd,t1,t2,t3⟩;obtain⟨l,hl,rfl⟩:=lA hp;unfold Bt at hb;rw[bC]at hb;have:=hb l (kh.2 hl);unfold JS at this;rw[qC (bt hl)]at this;simp only[vG,uA]at this;rcases this with rfl|rfl|rfl|h
 ·rw[qC fQ]at t1 ⊢;exact OF.le_of_eq t1
 ·rw[qC gU]at t2 ⊢;exact OF.le_of_eq t2
 ·rw[qC gV]at t3 ⊢;exact OF.le_of_eq t3
 ·have:=aGK.1 h;rw[<-OF.sub_nonneg];rw[<-OF.neg_nonneg,OF.neg_sub]at this;exact this
theorem JY{p q r:HS K}{x:V3 K}(hp:ps[i]?=some p)(hq:ps[j]?=some q)(hr:ps[k]?=some r)(hd:aN p.n q.n r.n≠0)(hx:ep ps x)(t1:cC p x)(t2:cC q x)(t3:cC r x):
  E9 ps i j k/\x=lT (eR ps i) (eR ps j) (eR ps k):=by
 unfold E9;rw[qC hp,qC hq,qC hr];have e:=aTV hd t1 t2 t3;refine⟨⟨hd,?_⟩,e⟩;rw[<-e];unfold Bt;rw[bC];intro l hl;have hl:=kh.1 hl;rw[qC (bt hl)];unfold JS;simp only[vG,uA];refine .inr (.inr (.inr (aGK.2 ?_)));have:=hx _ (dy hl);rw[<-OF.neg_nonneg,OF.neg_sub];exact OF.sub_nonneg.2 this
theorem Sa{x:V3 K}:x∈fO ps↔kz ps x:=by
 unfold fO;rw[aGP];constructor
 ·rintro⟨i,j,k,h1,h2,h3,h4,rfl⟩
  exact aTY h1 o_ o_ h4
 ·rintro⟨cy,p,hp,q,hq,r,hr,hd,t1,t2,t3⟩
  obtain⟨a,ha,rfl⟩:=lA hp;obtain⟨b,hb,rfl⟩:=lA hq;obtain⟨c,hc,rfl⟩:=lA hr;have jx:=bt ha;have ki:=bt hb;have lf:=bt hc;have same:∀ u w:V3 K,aN u u w=0:=aGE;have Yt:∀ u w:V3 K,aN u w w=0:=aGF;have Yu:∀ u w:V3 K,aN u w u=0:=aGG;have ab:a≠b:=λe=>by subst e;exact hd (same _ _)
  have bc:b≠c:=λe=>by subst e;exact hd (Yt _ _)
  have ac:a≠c:=λe=>by subst e;exact hd (Yu _ _)
  have s1:∀{u v w:V3 K},aN u v w≠0->aN u w v≠0:=λ{u v w} h e=>h (by rw[V3.LO,e,CR.neg_zero]);have r1:∀{u v w:V3 K},aN u v w≠0->aN v w u≠0:=λ{u v w} h e=>h (by rw[V3.GP];exact e);rcases uf a b with h1|h1|h1
  ·rcases uf b c with h2|h2|h2
   ·exact⟨c,b,a,hc,h2,h1,JY lf ki jx (r1 (s1 (r1 (r1 (r1 hd))))) cy t3 t2 t1⟩
   ·exact absurd h2 bc
   ·rcases uf a c with h3|h3|h3
    ·exact⟨b,c,a,hb,h2,h3,JY ki lf jx (r1 hd) cy t2 t3 t1⟩
    ·exact absurd h3 ac
    ·exact⟨b,a,c,hb,h1,h3,JY ki jx lf (s1 (r1 hd)) cy t2 t1 t3⟩
  ·exact absurd h1 ab
  ·rcases uf a c with h2|h2|h2
   ·exact⟨c,a,b,hc,h2,h1,JY lf jx ki (r1 (r1 hd)) cy t3 t1 t2⟩
   ·exact absurd h2 ac
   ·rcases uf b c with h3|h3|h3
    ·exact⟨a,c,b,ha,h2,h3,JY jx lf ki (s1 hd) cy t1 t3 t2⟩
    ·exact absurd h3 bc
    ·exact⟨a,b,c,ha,h1,h3,JY jx ki lf hd cy t1 t2 t3⟩
theorem aTZ(ps:c_):(fO ps).Pairwise kA:=aGS _
theorem Fb(hc:Cl ps)(hp:fE ps)(hf:k6 ps):bh ps=fO ps:=by unfold bh;refine Wm (Wo _) (aTZ ps) λx=>?_;rw[Wn,Sa,aSq hc hp (aM8 hc hp hf)]
theorem aGT(hc:Cl ps)(hp:fE ps)(hf:k6 ps){x:V3 K}:x∈bh ps↔kz ps x:=by rw[Fb hc hp hf,Sa]
theorem aGU{vs:e_}:wC vs=false↔Wk vs:=by
 unfold wC;rw[JX];constructor
 ·rintro⟨i,hi,h⟩
  have hi:=kh.1 hi;unfold E7 at h;rw[QE,JX]at h;obtain⟨k,hk,h⟩:=h;have hk:=kh.1 hk;unfold HE at h;rw[QE,JX]at h;obtain⟨j,hj,h⟩:=h;have hj:=kh.1 hj;unfold Nl at h;cases vs with
  |nil=>simp at hi
  |cons o rest=>
   simp only[qd,O0]at hi;have get:∀{n:Nat} (hn:n<rest.length),af (o::rest) (n+1)=rest[n]:=λhn=>by unfold af;simp[bt hn]
   rw[get hi,get o_,get o_,show af (o::rest) 0=o from rfl]at h;refine⟨o,rest,rfl,rest[j],dy _,rest[i],dy _,rest[k],dy _,λe=>?_⟩;refine h (aJ ((OF.fU _).2 ?_));rw[V3.su];exact e
 ·rintro⟨o,rest,rfl,a,ha,b,hb,c,hc,hd⟩
  obtain⟨a,la,rfl⟩:=lA ha;obtain⟨b,lb,rfl⟩:=lA hb;obtain⟨c,lc,rfl⟩:=lA hc;have get:∀{n:Nat} (hn:n<rest.length),af (o::rest) (n+1)=rest[n]:=λhn=>by unfold af;simp[bt hn]
  have fin:∀(i k j:Nat) (hi:i<rest.length) (hk:k<rest.length) (hj:j<rest.length),k<i->j<k->aN (rest[j]-o) (rest[i]-o) (rest[k]-o)≠0->∃ x∈List.range ((o::rest).length-1),¬E7 (o::rest) x=true:=by intro i k j hi hk hj hki ch hd;refine⟨i,kh.2 (by simpa using hi),?_⟩;unfold E7;rw[QE,JX];refine⟨k,kh.2 hki,?_⟩;unfold HE;rw[QE,JX];refine⟨j,kh.2 ch,?_⟩;unfold Nl;rw[get hi,get hk,get hj,show af (o::rest) 0=o from rfl,uA,OF.fU,V3.su];exact hd
  have same:∀ u w:V3 K,aN u u w=0:=aGE;have Yt:∀ u w:V3 K,aN u w w=0:=aGF;have Yu:∀ u w:V3 K,aN u w u=0:=aGG;have ab:a≠b:=λe=>by subst e;exact hd (same _ _)
  have bc:b≠c:=λe=>by subst e;exact hd (Yt _ _)
  have ac:a≠c:=λe=>by subst e;exact hd (Yu _ _)
  have s1:∀{u v w:V3 K},aN u v w≠0->aN u w v≠0:=λ{u v w} h e=>h (by rw[V3.LO,e,CR.neg_zero]);have r1:∀{u v w:V3 K},aN u v w≠0->aN v w u≠0:=λ{u v w} h e=>h (by rw[V3.GP];exact e);rcases uf a b with h1|h1|h1
  ·rcases uf b c with h2|h2|h2
   ·exact fin c b a lc lb la h2 h1 (s1 hd)
   ·exact absurd h2 bc
   ·rcases uf a c with h3|h3|h3
    ·exact fin b c a lb lc la h2 h3 hd
    ·exact absurd h3 ac
    ·exact fin b a c lb la lc h1 h3 (r1 (s1 hd))
  ·exact absurd h1 ab
  ·rcases uf a c with h2|h2|h2
   ·exact fin c a b lc la lb h2 h1 (r1 hd)
   ·exact absurd h2 ac
   ·rcases uf b c with h3|h3|h3
    ·exact fin a c b la lc lb h2 h3 (r1 (r1 (s1 hd)))
    ·exact absurd h3 bc
    ·exact fin a b c la lb lc h1 h3 (r1 (r1 hd))
theorem aGV{ι:Type}{R:ι->ι->Prop}:∀{l:List ι},mU R l->∀(i:Nat) (x y:ι),l[i]?=some x->l[i+1]?=some y->R x y
 |[],_,i,x,y,h,_=>by simp at h
 |[a],_,i,x,y,_,h=>by simp at h
 |a::b::l,hs,0,x,y,h,k=>by simp at h k;subst h;subst k;exact hs.1
 |a::b::l,hs,i+1,x,y,h,k=>aGV hs.2 i x y (by simpa using h) (by simpa using k)
theorem aGW{g:V3 K}{vs:e_}{on:l_}{c:Nat}:wD g vs on a c=true↔c≠a/\nu g (af vs) on a c:=by
 unfold wD Nr;rw[dc,bC];have e:∀ b,JV g vs a c b=true↔(b=a\/b=c\/0<turn g (af vs a) (af vs c) (af vs b)):=by
  intro b;unfold JV R5;simp only[vG,uA];have:(0<OF.aE (aN g (af vs c-af vs a) (af vs b-af vs a)))↔0<turn g (af vs a) (af vs c) (af vs b):=by rw[OF.gj];show 0<OF.aE (turn g (af vs a) (af vs c) (af vs b))↔_;rcases OF.iJ (turn g (af vs a) (af vs c) (af vs b))with h|h|h<;>rw[h]<;>decide
  rw[this]
 constructor
 ·rintro⟨h1,h2⟩
  refine⟨by simpa using h1,λb hb rq AU=>?_⟩;rcases(e b).1 (h2 b hb)with h|h|h
  ·exact absurd h rq
  ·exact absurd h AU
  ·exact h
 ·rintro⟨h1,h2⟩
  refine⟨by simpa using h1,λb hb=>(e b).2 ?_⟩;by_cases rq:b=a
  ·exact .inl rq
  ·by_cases AU:b=c
   ·exact .inr (.inl AU)
   ·exact .inr (.inr (h2 b hb rq AU))
theorem kC{p:HS K}{vs:e_}:i∈bZ p vs vs.length↔i<vs.length/\cC p (af vs i):=by unfold bZ cC;rw[aFP,kh,uA,OF.sub_eq_zero]
theorem aGX(p:HS K)(vs:e_):(bZ p vs vs.length).Pairwise (·<·):=by unfold bZ;exact List.Pairwise.filter _ List.pairwise_lt_range
theorem HH{vs:e_}(h:i<vs.length):af vs i∈vs:=cM (j8 h)
theorem Yv{vs:e_}{v:V3 K}(h:v∈vs):∃ i,i<vs.length/\af vs i=v:=by obtain⟨i,hi,rfl⟩:=lA h;refine⟨i,hi,?_⟩;have:=j8 hi;rw[bt hi]at this;injection this with this;exact this.symm
structure iC(ps:c_)(vs:e_):Prop where
 sorted:vs.Pairwise kA
 mem:∀ v,v∈vs↔kz ps v
theorem iC.lt{vs:e_}(h:iC ps vs)(mX:i<j)(hj:j<vs.length):kA (af vs i) (af vs j):=by have h1:=j8 (vs:=vs) (i:=i) o_;have h2:=j8 hj;rw[bt o_]at h1 h2;injection h1 with h1;injection h2 with h2;rw[<-h1,<-h2];exact RA.1 h.sorted i j o_ hj mX
theorem iC.inj{vs:e_}(h:iC ps vs)(hi:i<vs.length)(hj:j<vs.length)(e:af vs i=af vs j):i=j:=by
 rcases uf i j with hl|hl|hl
 ·have:=h.lt hl hj;rw[e]at this;exact absurd this (Ew _)
 ·exact hl
 ·have:=h.lt hl hi;rw[e]at this;exact absurd this (Ew _)
section
variable{ps:c_}{vs:e_}{p:HS K}
theorem iC.conv(h:iC ps vs):Conv p.n (af vs) (bZ p vs vs.length):=
 aM1 (ps:=ps) (p:=p) (λi hi=>by obtain⟨h1,h2⟩:=kC.1 hi;exact⟨(h.mem _).1 (HH h1),h2⟩) λi hi j hj e=>h.inj (kC.1 hi).1 (kC.1 hj).1 e
theorem iC.sort(h:iC ps vs):yN (af vs) aC1 (bZ p vs vs.length):=by unfold yN;refine aGY (λ{a b} ha hb ao=>?_) (aGX p vs);have:=h.lt ao (kC.1 hb).1;exact L4.1 this
theorem HI(p:HS K)(vs:e_):(bZ p vs vs.length).Nodup:=(aGX p vs).imp λ{a b} h=>Nat.ne_of_lt h
theorem iC.loop(h:iC ps vs)(hp:p.n≠0)(hl:¬(bZ p vs vs.length).length<3):
  R7 p.n vs (bZ p vs vs.length)=false/\aXN p.n vs (bZ p vs vs.length) (order p.n (af vs) (bZ p vs vs.length))/\(order p.n (af vs) (bZ p vs vs.length)).length=(bZ p vs vs.length).length:=by
 have hc:=h.conv (p:=p);have hs:=h.sort (p:=p);have e7:=HI p vs;have cy:∀ a∈bZ p vs vs.length,∀ b∈bZ p vs vs.length,af vs a=af vs b->a=b:=λa ha b hb e=>h.inj (kC.1 ha).1 (kC.1 hb).1 e;generalize iB:bZ p vs vs.length=on at *
 match on,hl,hc,hs,e7,cy with
 |a::b::c::l,_,hc,hs,e7,cy=>
  obtain⟨m,e1,e2,e3,e4⟩:=aCY hp hc hs;have hlen:(a::m).length=(a::b::c::l).length:=((aT0 e2 e7).2 e3).length_eq;refine⟨?_,⟨?_,?_,λi x y hx hy=>?_⟩,?_⟩
  ·show(c::l).all (Dh p.n vs a b)=false;rw[JX];refine⟨c,aR ..,?_⟩;unfold Dh R5;rw[uA,OF.fU];simp only[Yw,cE,not_or]at e7;exact hc.Qe hp (aR ..) (bK _ (aR ..)) (bK _ (bK _ (aR ..))) e7.1.1 e7.1.2.1 e7.2.1.1
  ·rw[e1,hlen]
  ·rw[e1];rfl
  ·rw[e1]at hx hy;have HW:=(eP.1 hy).1;have lS:=aGV e4 i x y (by rw[Kv o_];exact hx) (by rw[Kv HW];exact hy);have hym:=(e3 y).1 (cM hy);have lj:y≠x:=by intro e;subst e;have XY:=(eP.1 hx).1;have h1:=(eP.1 hx).2;have h2:=(eP.1 hy).2;have:=(RA.1 e2) i (i+1) XY HW o_;exact this (h1.trans h2.symm)
   obtain⟨k,hk,hke⟩:=lA hym;refine⟨k,by rw[bt hk,hke],aGW.2 ⟨lj,lS⟩,λj z hj hz=>?_⟩;cases hf:wD p.n vs (a::b::c::l) x z with
   |false=>rfl
   |true=>
    obtain⟨q1,q2⟩:=aGW.1 hf;have:=V6 (pt:=af vs) (n:=p.n) cy hym (cM hz) lj q1 lS q2;subst this;have E8:=(eP.1 hz).1;have hje:=(eP.1 hz).2;exact absurd (hje.trans hke.symm) (RA.1 e7 j k E8 hk hj)
  ·rw[e1,hlen]
 |[],hl,_,_,_,_=>simp at hl
 |[_],hl,_,_,_,_=>simp at hl
 |[_,_],hl,_,_,_,_=>simp at hl
theorem iC.Bx(h:iC ps vs)(hp:p.n≠0)(i:Nat):qB ps vs i p=if lC ps i p then[]else if(bZ p vs vs.length).length<3 then[]else[(i,order p.n (af vs) (bZ p vs vs.length))]:=by
 unfold qB;by_cases h1:lC ps i p=true
 ·rw[aA h1];exact aA h1
 ·rw[au h1];refine(au h1).trans ?_;by_cases h2:(bZ p vs vs.length).length<3
  ·rw[aA h2,aA h2]
  ·rw[au h2,au h2,aA (by rw[(h.loop hp h2).2.2];omega)]
theorem HJ:∀{I J:l_},I.Nodup->(∀ x∈I,x∈J)->I.length<=J.length
 |[],_,_,_=>lY _
 |x::I,J,hn,hs=>by
  obtain⟨A,B,rfl⟩:=List.append_of_mem (hs x (aR ..));rw[Yw]at hn;have:=HJ (J:=A++B) hn.2 λy hy=>by
   have h1:=hs y (bK _ hy);rcases fh.1 h1 with h|h
   ·exact uh _ h
   ·rcases cE.1 h with rfl|h
    ·exact absurd hy hn.1
    ·exact zG _ h
  simp only[lH,qd]at this ⊢;omega
theorem aGZ(f:Nat->List (Nat×List Nat))(P:Nat->Bool)(h:∀ i,P i=true->f i≠[]):∀ l:List Nat,(l.filter P).length<=(l.flatMap f).length
 |[]=>bF _
 |i::l=>by
  rw[List.flatMap_cons,lH,Oa];have:=aGZ f P h l;split
  ·rename_i hp;have:=List.length_pos_iff.2 (h i hp);rw[qd];omega
  ·omega
theorem Nu{p q:HS K}(hp:p.n≠0)(hq:q.n≠0)(h:canon p=canon q)(v:V3 K):(dot p.n v<=p.d↔dot q.n v<=q.d)/\(cC p v↔cC q v):=by
 obtain⟨k,hk,rfl⟩:=(Yn hp hq).1 h;unfold cC Di
 try dsimp only
 rw[V3.LM,CR.mul_comm (dot p.n v),CR.mul_comm p.d];refine⟨(OF.mul_le_mul_left hk).symm,λh=>by rw[h],λh=>?_⟩;have xc:k≠0:=OF.ne_of_gt hk;have:k⁻¹*(k*dot p.n v)=k⁻¹*(k*p.d):=by rw[h]
 rwa[<-CR.mul_assoc,<-CR.mul_assoc,OF.inv_mul xc,CR.one_mul,CR.one_mul]at this
theorem od.on(hc:Cl ps)(hp:fE ps)(hv:iC ps vs){x:V3 K}(hx:sB ps x){A B:c_}(h:od ps (A++p::B)):¬(bZ p vs vs.length).length<3:=by
 intro ao;have j4:=hp p (h.sub p (zG _ (aR ..)));have idx:∀ v,kz ps v->cC p v->∃ i∈bZ p vs vs.length,af vs i=v:=by intro v h1 h2;obtain⟨i,hi,e⟩:=Yv ((hv.mem v).2 h1);exact⟨i,kC.2 ⟨hi,by rw[e];exact h2⟩,e⟩
 have pl:∀ i∈bZ p vs vs.length,dot p.n (af vs i)=p.d:=λi hi=>(kC.1 hi).2;obtain⟨u,hu,CO⟩:=LQ j4;generalize bZ p vs vs.length=on at *
 match on,ao,idx,pl with
 |[],_,idx,_=>
  obtain⟨v,w,v1,v2,_⟩:=h.Bx hc hp hx (GQ j4 hu CO);obtain⟨i,hi,_⟩:=idx v v1 v2;cases hi
 |[o],_,idx,_=>
  obtain⟨v,w,v1,v2,w1,w2,ao⟩:=h.Bx hc hp hx (GQ j4 hu CO);obtain⟨i,hi,e⟩:=idx v v1 v2;obtain⟨j,hj,e'⟩:=idx w w1 w2;simp at hi hj;subst hi;subst hj;rw[<-e,<-e']at ao;exact OF.lt_irrefl _ ao
 |[o,a],_,idx,pl=>
  by_cases hd:af vs a-af vs o=0
  ·have hd:=V3.sub_eq_zero.1 hd;obtain⟨v,w,v1,v2,w1,w2,ao⟩:=h.Bx hc hp hx (GQ j4 hu CO);obtain⟨i,hi,e⟩:=idx v v1 v2;obtain⟨j,hj,e'⟩:=idx w w1 w2;simp at hi hj;rw[<-e,<-e']at ao;rcases hi with rfl|rfl<;>rcases hj with rfl|rfl<;>first|exact OF.lt_irrefl _ ao|(rw[hd]at ao;exact OF.lt_irrefl _ ao)
  ·have hdp:dot p.n (af vs a-af vs o)=0:=by rw[V3.gg,pl a s_,pl o s_,OF.sub_self]
   have c8:=GQ j4 hd hdp;have dE:=GQ j4 c8 (V3.Et _ _);obtain⟨v,w,v1,v2,w1,w2,ao⟩:=h.Bx hc hp hx dE;obtain⟨i,hi,e⟩:=idx v v1 v2;obtain⟨j,hj,e'⟩:=idx w w1 w2;have heq:dot (ag p.n (af vs a-af vs o)) (af vs a)=dot (ag p.n (af vs a-af vs o)) (af vs o):=by rw[<-OF.sub_eq_zero,<-V3.gg,V3.su];exact V3.AO _ _
   simp at hi hj;rw[<-e,<-e']at ao;rcases hi with rfl|rfl<;>rcases hj with rfl|rfl<;>first|exact OF.lt_irrefl _ ao|(rw[heq]at ao;exact OF.lt_irrefl _ ao)
 |_::_::_::_,ao,_,_=>simp only[qd]at ao;omega
theorem aT1(hc:Cl ps)(hp:fE ps)(hv:iC ps vs)(hf:k6 ps):4<=(da ps vs ps.length).length:=by
 obtain⟨x,hx⟩:=hf;obtain⟨S,hS⟩:=aGH ps;have h4:=hS.four hc hp hx;obtain⟨fi,jO⟩:∃ fi:HS K->Nat,fi=λp=>ps.findIdx λq=>decide (canon q=canon p):=⟨_,rfl⟩;have Yx:∀ p∈S,fi p<ps.length:=λp hp=>by rw[jO];exact aT2 ⟨p,hS.sub p hp,by simp⟩
 have Bz:∀ p (hp:p∈S),canon (ps[fi p]'(Yx p hp))=canon p:=λp hp=>by have h1:=Yx p hp;have:=List.findIdx_getElem (xs:=ps) (p:=λq=>decide (canon q=canon p)) (w:=by rw[jO]at h1;exact h1);subst jO;simpa using this
 have split:∀ i (hi:i<S.length),S=S.take i++S[i]::S.drop (i+1):=λi hi=>by rw[<-aDq hi,My]
 have bB:S.Pairwise λp q=>canon p≠canon q:=by
  rw[RA];intro i j hi hj mX e;have hl:od ps (S.take i++S[i]::S.drop (i+1)):=by rw[<-split i hi];exact hS
  obtain⟨y,hy,ao⟩:=hl.alone;have hm:S[j]∈S.drop (i+1):=cM (i:=j-(i+1)) (by rw[Ft,show i+1+(j-(i+1))=j by omega,bt hj])
  have:=hy _ (zG _ hm);have hs:=(Nu (hp _ (hS.sub _ (dy hi))) (hp _ (hS.sub _ (dy hj))) e y).1;exact OF.lt_irrefl _ (OF.lt_of_lt_of_le ao (hs.2 this))
 have hI:(S.map fi).Nodup:=by
  unfold List.Nodup;rw[List.pairwise_map];refine aGY (λ{a b} ha hb cd e=>cd ?_) bB;have h1:=Bz a ha;have h2:=Bz b hb;rw[<-h1,<-h2]
  congr 1
  have:∀(i j:Nat) (hi:i<ps.length) (hj:j<ps.length),i=j->ps[i]=ps[j]:=λi j hi hj e=>by subst e;rfl
  exact this _ _ _ _ e
 have aT3:∀ i∈S.map fi,i<ps.length/\gn ps vs i≠[]:=by
  intro i hi;obtain⟨p,Dj,rfl⟩:=df.1 hi;have ao:=Yx p Dj;have JZ:=Bz p Dj;refine⟨ao,?_⟩;unfold gn;rw[bt ao];dsimp only;have j4:=hp _ (hS.sub p Dj);have A1:=hp _ (dy ao);rw[hv.Bx A1];have sQ:¬lC ps (fi p) ps[fi p]=true:=by
   unfold lC;rw[rS]
   rintro⟨q,hq,hd⟩
   obtain⟨j,hj,rfl⟩:=lA hq;rw[jV]at hj;rw[RM,JZ]at hd;have hd:=jN hd;have Nv:j<fi p:=by omega
   rw[jO]at Nv;have:=List.not_of_lt_findIdx Nv;simp[hd]at this
  rw[au sQ];obtain⟨k,hk,rfl⟩:=lA Dj;have hl:od ps (S.take k++S[k]::S.drop (k+1)):=by rw[<-split k hk];exact hS
  have iB:=od.on hc hp hv hx hl;have heq:bZ ps[fi S[k]] vs vs.length=bZ S[k] vs vs.length:=by unfold bZ;refine List.filter_congr λi _=>?_;have hs:=(Nu A1 j4 JZ (af vs i)).2;unfold cC at hs;rw[qh,OF.sub_eq_zero,OF.sub_eq_zero];exact hs
  rw[heq,au iB];exact n_
 have h1:=HJ (J:=(List.range ps.length).filter λi=>decide (gn ps vs i≠[])) hI λi hi=>by rw[aFP,kh,uA];exact aT3 i hi
 have h2:=aGZ (gn ps vs) (λi=>decide (gn ps vs i≠[])) (λi hi=>jN hi) (List.range ps.length);rw[eO]at h1;unfold da;omega
end
end
section
open V3 (dot ag aN smul)
theorem aG0(F:Fact)(S:Nat):∀ v w,(F.nE S).G v w->F.G v w:=λ_ _ h=>h.1
def Yy(ps:c_)(vs:List RV)(fs:f_):aQ:=.s ps.length (bf ps) vs.length (cW vs) (jC fs)
def Sb(ps:c_)(vs:List RV)(fs:f_):Bool:=u4 ps&&(yT ps (bh ps)&&(decide (vs=(bh ps).map cB)&&decide (fs=lD ps)))
section
variable{ps:c_}{m:Nat}{vs:List RV}{fs:f_}
def Sc(ps:c_)(vs:List RV)(fs:f_):aQ:=.s ps.length (bf ps) vs.length (cW vs) (ji fs)
theorem aT4(ps:c_)(vs:List RV)(fs:f_):([Sc ps vs fs].all aQ.ok)=true:=by
 have e:(Sc ps vs fs).ok=true:=by show((bf ps).all flat&&((cW vs).all flat&&true))=true;rw[dp,jf gS];rfl
 simp only[eA,e8,e,A3]
theorem BB{vs:List RV}(h:vs.length=0):cW vs=[]:=by rw[lG h];rfl
theorem aT5(h:zt ps m)(aW:∀ x∈vs,x.Sm)(jh:vs.length<9223372036854775807)(rK:fs.length<9223372036854775807)(rJ:∀ f∈fs,f.2.length<9223372036854775807):cx prog 27 [Sc ps vs fs] (.bool (Sb ps vs fs)):=by
 unfold Sb;have aC:=aT4 ps vs fs;unfold Sc at *;by_cases hc:u4 ps=true
 ·by_cases hi:yT ps (bh ps)=true
  ·have qD:=aSv h hc hi;rw[hc,hi];have rG:∀ x∈(bh ps).map cB,x.Sm:=λx hx=>by obtain⟨v,hv,rfl⟩:=df.1 hx;exact(RO h.sz v hv).sm (XT (Hv (n:=0) h.bound o_).2.1).2.2
   have heq:=aOe (a:=vs) (b:=(bh ps).map cB) aW rG jh;have hef:=aSQ (fs:=fs) (fs':=lD ps) rK rJ;unfold aP at qD;have hlen:(bh ps).length=((bh ps).map cB).length:=by rw[eO]
   rw[hlen]at qD;generalize (bh ps).map cB=cX at *;have e0:decide (vs=cX)=true\/decide (vs=cX)=false:=by cases decide (vs=cX)<;>simp
   rcases e0 with e0|e0
   ·rw[e0]at heq ⊢;rw[kp,kp,kp];generalize decide (fs=lD ps)=t at *;refine iL mixed func27 aC 100 (N:=29) k_ (λw=>[
     .step 9 (az Tryz.f27 9) [.func (.func 62) #[] #[],sl 0 ps.length] [(4,none),(5,none),(6,none),(0,some (.view (bf ps)))] (.tuple #[.agg #[sl 4 ps.length,sl 5 cX.length,cN 6],gT 0]) [(6,.fact ((jC (lD ps)).nE w.heap.size)),(5,.row (cW cX) 33 30),(4,.row (bf ps) 73 40)]
      (MA (B:=aa.at w) (S:=w.heap.size) qD (.w (x:=.view (bf ps)) rfl (dp ps) jt .nil) (x:=.func 62) k_ k_ rfl (dp ps) (jf gS _) rfl (λw' hb=>Below.size hb) 4),
     .step 19 (az Tryz.f27 19) [.func (.func 65) #[] #[],sl 1 vs.length,sl 5 cX.length] [(1,some (.view (cW vs))),(5,some (.row (cW cX) 33 30))] b_ []
      (dJ heq (.w (x:=.view (cW vs)) rfl (jf gS _) BB (.w (x:=.row (cW cX) 33 30) rfl (jf gS _) BB .nil)) (x:=.func 65) k_ k_ rfl),
     .step 27 (az Tryz.f27 27) [.func (.func 66) #[] #[],cN 2,cN 6,Nh] [(2,some (.fact (ji fs))),(6,some (.fact ((jC (lD ps)).nE w.heap.size)))] (.bool t) []
      (dJ hef (.o (.oi (aF6 _ _) (.p rfl .nil))) (x:=.func 66) k_ k_ rfl)]) (λw=>?_) k_
    kernel_rfl
   ·rw[e0]at heq ⊢;refine iL mixed func27 aC 100 (N:=29) k_ (λw=>[
     .step 9 (az Tryz.f27 9) [.func (.func 62) #[] #[],sl 0 ps.length] [(4,none),(5,none),(6,none),(0,some (.view (bf ps)))] (.tuple #[.agg #[sl 4 ps.length,sl 5 cX.length,cN 6],gT 0]) [(6,.fact ((jC (lD ps)).nE w.heap.size)),(5,.row (cW cX) 33 30),(4,.row (bf ps) 73 40)]
      (MA (B:=aa.at w) (S:=w.heap.size) qD (.w (x:=.view (bf ps)) rfl (dp ps) jt .nil) (x:=.func 62) k_ k_ rfl (dp ps) (jf gS _) rfl (λw' hb=>Below.size hb) 4),
     .step 19 (az Tryz.f27 19) [.func (.func 65) #[] #[],sl 1 vs.length,sl 5 cX.length] [(1,some (.view (cW vs))),(5,some (.row (cW cX) 33 30))] a_ []
      (dJ heq (.w (x:=.view (cW vs)) rfl (jf gS _) BB (.w (x:=.row (cW cX) 33 30) rfl (jf gS _) BB .nil)) (x:=.func 65) k_ k_ rfl)]) (λw=>?_) k_
    kernel_rfl
  ·have hi:yT ps (bh ps)=false:=by simpa using hi
   rw[hc,hi];exact iL mixed func27 aC 100 (N:=29) k_ (λw=>[.step 9 (az Tryz.f27 9) [.func (.func 62) #[] #[],sl 0 ps.length] [(0,some (.view (bf ps)))] (.tuple #[xA,gT 12]) []
    (dJ (aSt h hc hi) (.w (x:=.view (bf ps)) rfl (dp ps) jt .nil) (x:=.func 62) k_ k_ k_)]) (λw=>k_) k_
 ·have hc:u4 ps=false:=by simpa using hc
  rw[hc];exact iL mixed func27 aC 100 (N:=29) k_ (λw=>[.step 9 (az Tryz.f27 9) [.func (.func 62) #[] #[],sl 0 ps.length] [(0,some (.view (bf ps)))] (.tuple #[xA,gT 13]) []
   (dJ (aSs h hc) (.w (x:=.view (bf ps)) rfl (dp ps) jt .nil) (x:=.func 62) k_ k_ k_)]) (λw=>k_) k_
theorem aT6(h:zt ps m)(aW:∀ x∈vs,x.Sm)(jh:vs.length<9223372036854775807)(rK:fs.length<9223372036854775807)(rJ:∀ f∈fs,f.2.length<9223372036854775807):cx prog 27 [Yy ps vs fs] (.bool (Sb ps vs fs)):=
 cx.X7 (aT5 h aW jh rK rJ) (zu.full fs).G
end
def aG1(ps:c_):aQ:=Yy ps ((bh ps).map cB) (lD ps)
def Nw(ps:c_):Bool:=u4 ps&&yT ps (bh ps)
theorem aT7(ps:c_):(lD ps).length<=ps.length:=by unfold lD;rw[eO];exact JN ps _ _
theorem aT8(nn:V3 K)(vs:e_)(l:l_):(order nn (af vs) l).length<=2*l.length:=by
 have bL:∀ l:List Nat,(k7 nn vs l).length<=l.length:=λl=>by have:=(M7 (nn:=nn) (vs:=vs) (l:=l) l.length (bF _)).2;unfold bW at this;rw[oD]at this;unfold k7;rw[Hu,List.length_tail];omega
 rw[aFM,lH];have h1:=bL l;have h2:=bL l.reverse;rw[Hu]at h2;omega
theorem aT9(h:ps.length<=20):∀ f∈lD ps,f.2.length<=1600:=by
 intro f hf;unfold lD at hf;obtain⟨g,hg,rfl⟩:=df.1 hf;unfold da at hg;rw[xk]at hg;obtain⟨i,_,hg⟩:=hg;unfold gn at hg;split at hg
 ·rename_i p hp;unfold qB at hg;split at hg
  ·cases hg
  ·split at hg
   ·cases hg
   ·split at hg
    ·simp at hg;subst hg;show(List.map _ _).length<=_;rw[eO];show(order p.n (af (bh ps)) (bZ p (bh ps) (bh ps).length)).length<=1600;have h1:=aT8 p.n (bh ps) (bZ p (bh ps) (bh ps).length);have h2:=JM p (bh ps) (bh ps).length;have h3:=Nc ps h;omega
    ·cases hg
 ·cases hg
section
variable{ps:c_}{m:Nat}{p:HS K}
theorem vsm(h:zt ps m):∀ x∈(bh ps).map cB,x.Sm:=λx hx=>by obtain⟨v,hv,rfl⟩:=df.1 hx;exact(RO h.sz v hv).sm (XT (Hv (n:=0) h.bound o_).2.1).2.2
theorem aUa(h:zt ps m)(hs:Nw ps=true):cx prog 27 [aG1 ps] b_:=by have h1:=Nc ps h.len;have h2:=aT7 ps;have h3:=h.len;have:=aT6 (vs:=(bh ps).map cB) (fs:=lD ps) h (vsm h) (by rw[eO];omega) o_ λf hf=>fA (aT9 h3 f hf) d_;unfold Nw at hs;unfold Sb at this;rw[dc]at hs;rw[hs.1,hs.2,aJ rfl,aJ rfl]at this;exact this
end
structure J0(p:HS K)(vs:e_):Prop where
 flat:R7 p.n vs (bZ p vs vs.length)=false
 seq:aXN p.n vs (bZ p vs vs.length) (order p.n (af vs) (bZ p vs vs.length))
 len:(order p.n (af vs) (bZ p vs vs.length)).length=(bZ p vs vs.length).length
def J1(ps:c_)(k:Nat)(p:HS K):Bool:=(ps.take k).any λq=>decide (canon p=canon q)
theorem aUb{q:HS K}(h:ps[k]?=some q)(p:HS K):J1 ps (k+1) p=(J1 ps k p||decide (canon p=canon q)):=by unfold J1;rw[uZ,h,List.any_append];simp
section
variable{Bs:aa}{ps:c_}{vs:e_}
def Sd(n i k:Nat)(b:Bool):aU:=[(8,vI k),(7,.bool b),(6,vI i),(0,sl 0 n)]
def J2(ps:c_):aL:=[(0,.view (bf ps))]
theorem aUc{m:Nat}{p q:HS K}{b:Bool}(hk:k<i)(hi:i<ps.length)(hp:ps[i]?=some p)(hq:ps[k]?=some q)(cq:∀ p∈ps,bP m p/\p.n≠0)(hm:100*m+1000<=aF)(h63:ps.length<=500)(ht:(b||decide (canon p=canon q))=t):
  ah prog Bs 57 (aK (ai f93 2)) (Sd ps.length i k b) (J2 ps) 5 ⟨.normal,Sd ps.length i (k+1) t,J2 ps,5⟩:=by
 have sp:=cq p (cM hp);have sq:=cq q (cM hq);have hs:=aYi sp.1 sq.1 o_ o_ sp.2 sq.2;cases b with
 |true=>
  rw[FI]at ht;subst ht;exact aG [.lt 23 k i true (aJ hk),.sum 25 k 1 (k+1) rfl o_]
 |false=>
  rw[Ao]at ht;rw[ht]at hs;exact aG [.lt 23 k i true (aJ hk),.di f93 30 0 ps.length i 40 hi k_,.ld f93 31 73 0 (i*40) (.view (bf ps)) (dK p) rfl (yR hp) k_,.di f93 34 0 ps.length k 40 o_ k_,.ld f93 35 73 0 (k*40) (.view (bf ps)) (dK q) rfl (yR hq) k_,hs.at 36,.sum 25 k 1 (k+1) rfl o_]
theorem aG2{m:Nat}{p:HS K}(hi:i<ps.length)(hp:ps[i]?=some p)(cq:∀ p∈ps,bP m p/\p.n≠0)(hm:100*m+1000<=aF)(h63:ps.length<=500):
  ah prog Bs 57 (.block 2 (ai f93 2)) (Sd ps.length i 0 false) (J2 ps) 5 ⟨.normal,[(7,.bool (lC ps i p))],J2 ps,5⟩:=
 cg (id:=2) (cz (r:=⟨.exit 2,[(7,.bool (J1 ps i p))],J2 ps,5⟩) i (λk=>Sd ps.length i k (J1 ps k p)) (λ_=>J2 ps) (λi k _=>Iff.rfl) (λk hk=>by
  have hq:=bt (l:=ps) (i:=k) o_;exact aUc hk hi hp hq cq hm h63 (aUb hq p).symm) (by
  generalize J1 ps i p=b;exact aG [.lt 23 i i false s_]) n_)
def Fc(n i:Nat)(v2:i_):aU:=[(6,vI i),(0,sl 0 n),(1,v2),(4,ptr 1),(5,ptr 3)]
def zH(ps:c_)(v2:i_)(cells:al)(c:Nat):aL:=
 [(0,.view (bf ps)),(1,.aI [.slice none 0 0,.slice none 0 0,.slice none 0 0] 26),(2,.row (bf ps) 73 40),(3,.aI [sl 2 ps.length,v2,sl 4 c] 26),(4,.row cells 86 2)]
section
variable{b o c:Nat}
theorem aUd{m:Nat}{p:HS K}{cells:al}(hi:i<ps.length)(hp:ps[i]?=some p)(cq:∀ p∈ps,bP m p/\p.n≠0)(hm:300*m+1000<=aF)(h63:ps.length<=500)(ht:lC ps i p=true):
  ah prog Bs 57 (aK (ai f93 0)) (Fc ps.length i (.slice (some ⟨b,o,none⟩) vs.length c)) (zH ps (.slice (some ⟨b,o,none⟩) vs.length c) cells cc) 5
   ⟨.normal,Fc ps.length (i+1) (.slice (some ⟨b,o,none⟩) vs.length c),zH ps (.slice (some ⟨b,o,none⟩) vs.length c) cells cc,5⟩:=by
 have lo:=aG2 (Bs:=Bs) hi hp cq o_ h63;rw[ht]at lo;exact aG [.lt 18 i ps.length true (aJ hi),.code 2 _ _ _ _ _ lo,.sum 20 i 1 (i+1) rfl o_]
noncomputable def rcS{m:Nat}{p:HS K}(hi:i<ps.length)(hp:ps[i]?=some p)(cq:∀ p∈ps,bP m p/\p.n≠0)(hm:300*m+1000<=aF)(h63:ps.length<=500)(ht:lC ps i p=false)(more:bN prog Bs 57):bN prog Bs 57:=
 .lt 18 i ps.length true (aJ hi)::.code 2 _ _ _ _ _ (ht▸aG2 (Bs:=Bs) hi hp cq o_ h63)::.di f93 41 0 ps.length i 40 hi k_::.ld f93 42 73 0 (i*40) (.view (bf ps)) (dK p) rfl (yR hp) k_::more
theorem aUe{m:Nat}{p:HS K}{cells:al}(hi:i<ps.length)(hp:ps[i]?=some p)(cq:∀ p∈ps,bP m p/\p.n≠0)(aW:∀ v∈vs,aD m v)(hm:300*m+1000<=aF)(h63:ps.length<=500)(jh:vs.length<900000)(ht:lC ps i p=false)
  (iF:∀ w,Bs.G w->dr w (.slice (some ⟨b,o,none⟩) vs.length c) vs.length (aP vs)) (ho:(bZ p vs vs.length).length<3) :
  ah prog Bs 57 (aK (ai f93 0)) (Fc ps.length i (.slice (some ⟨b,o,none⟩) vs.length c)) (zH ps (.slice (some ⟨b,o,none⟩) vs.length c) cells cc) 5
   ⟨.normal,Fc ps.length (i+1) (.slice (some ⟨b,o,none⟩) vs.length c),zH ps (.slice (some ⟨b,o,none⟩) vs.length c) cells cc,5⟩:=by
 have sp:=cq p (cM hp);have hl:=aTD sp.1 sp.2 aW o_ jh ho;exact aG (rcS hi hp cq hm h63 ht [.step 44 (az f93 44) [.func (.func 141) #[] #[],dK p,.slice (some ⟨b,o,none⟩) vs.length c] [] (.slice none 0 0) []
   (dJ hl (.p rfl (.e rfl iF .nil)) (x:=.func 141) k_ k_ rfl),.gt 47 0 0 false rfl,.sum 20 i 1 (i+1) rfl o_])
theorem aUf{m:Nat}{p:HS K}{cells:al}(hi:i<ps.length)(hp:ps[i]?=some p)(cq:∀ p∈ps,bP m p/\p.n≠0)(aW:∀ v∈vs,aD m v)(hm:300*m+1000<=aF)(h63:ps.length<=500)(jh:vs.length<900000)(ht:lC ps i p=false)
  (iF:∀ w,Bs.G w->dr w (.slice (some ⟨b,o,none⟩) vs.length c) vs.length (aP vs)) (ho:¬(bZ p vs vs.length).length<3) (hk:J0 p vs) (hc:cells.length=cc*2) (Na:cc<=500) (Fu:∀ v∈cells,v.oneCell'=true) :
  ah prog Bs 57 (aK (ai f93 0)) (Fc ps.length i (.slice (some ⟨b,o,none⟩) vs.length c)) (zH ps (.slice (some ⟨b,o,none⟩) vs.length c) cells cc) 5
   ⟨.normal,Fc ps.length (i+1) (.slice (some ⟨b,o,none⟩) vs.length c),[(0,.view (bf ps)),(1,.aI [.slice none 0 0,.slice none 0 0,.slice none 0 0] 26),(2,.row (bf ps) 73 40),(3,.aI [sl 2 ps.length,.slice (some ⟨b,o,none⟩) vs.length c,sl 7 (cc+1)] 26),(5,.row (aw (order p.n (af vs) (bZ p vs vs.length))) 3 1),(7,.row (cells++[vI i,sl 5 (aw (order p.n (af vs) (bZ p vs vs.length))).length]) 86 2)],8⟩:=by
 have sp:=cq p (cM hp);have hl:=aX8 sp.1 sp.2 aW hm jh ho hk.flat hk.seq;have hlen:=hk.len;rw[oG];generalize order p.n (af vs) (bZ p vs vs.length)=l at *;generalize nK:cells++[vI i,sl 5 l.length]=cells' at *;exact aG (rcS hi hp cq hm h63 ht [.step 44 (az f93 44) [.func (.func 141) #[] #[],dK p,.slice (some ⟨b,o,none⟩) vs.length c] [(5,none)] (sl 5 l.length) [(5,.row (aw l) 3 1)]
   (sn hl (.p rfl (.e rfl iF .nil)) (x:=.func 141) k_ k_ (iU l) 5),.gt 47 l.length 0 true (aJ o_),
  .step 52 (az f93 52) [vI i,sl 5 l.length] [] (.agg #[vI i,sl 5 l.length]) [] (QS (t:=86) (idx:=[0,1]) k_ (λit z h1 h2=>aFQ h1 h2) k_),
  .bsM f93 53 6 1 86 2 [0] (.agg #[vI 0,.slice none 0 0]) [.agg #[vI i,sl 5 l.length]] #[vI i,sl 5 l.length] (.row [vI i,sl 5 l.length] 86 2) rfl (λv hv=>by
   have hv:v∈[vI 0,.slice none 0 0]:=hv;simp at hv;rcases hv with rfl|rfl<;>rfl) d_ k_ rfl d_ d_ k_,.qX f93 54 7 4 cc 1 (cc+1) 86 2 32 cells 6 (.row [vI i,sl 5 l.length] 86 2) cells' rfl rfl rfl hc nK (λv hv=>by
   simp[Obj.cells]at hv;rcases hv with rfl|rfl<;>rfl) d_ (by simp[maxLen];omega) o_ k_,.sum 20 i 1 (i+1) rfl o_])
end
end
end
theorem aO.aUg(h:aO (B.jU ks) ι c w):aO B ι c w:=
 ⟨h.base.1,h.dD,h.born,λk x b o cap e hx hl=>⟨(h.own k x b o cap e hx hl).1,λhF=>(h.own k x b o cap e hx hl).2 (.inl hF)⟩,h.inj,h.apart,h.seen,h.fa,h.one,h.pk⟩
def Kept(ks:List (Value×al))(cs:al):Prop:=∀ v∈cs,∀ b,jg v=some b->∃ p∈ks,jg p.1=some b
theorem Kept.snoc{cs:al}(h:Kept ks cs)(i:Nat)(u:i_)(xs:al):Kept ((u,xs)::ks) (cs++[vI i,u]):=λv hv b hb=>by
 rcases fh.1 hv with hv|hv
 ·obtain⟨p,hp,e⟩:=h v hv b hb;exact⟨p,bK _ hp,e⟩
 ·simp at hv;rcases hv with rfl|rfl
  ·cases hb
  ·exact⟨_,aR ..,hb⟩
section
open V3 (dot ag aN smul)
section
variable{ps:c_}{vs:e_}{b o c:Nat}
noncomputable def rC0:Code:=A8 (fC f93)
noncomputable def rC1:Code:=A8 (xu (fC f93))
noncomputable def rC2:Code:=A8 (A8 (xu (xu (fC f93))))
noncomputable def rC3:Code:=A8 (xu (xu (xu (fC f93))))
theorem aUh:(f93).body=some (.seq rC0 (.seq rC1 (.seq (.seq rC2 (.block 0 (.loop (aK (ai f93 0))))) (.seq rC3 .ret)))):=k_
theorem aG3{cells:al}(cV:∀ v∈cells,flat v=true){r:List (Nat×Nat)}(h1:(([.slice none 0 0,.slice none 0 0,.slice none 0 0]:al).all (A7 r))=true)(h3:([sl 2 ps.length,.slice (some ⟨b,o,none⟩) vs.length c,sl 4 cc].all (A7 r))=true):∀ p∈zH ps (.slice (some ⟨b,o,none⟩) vs.length c) cells cc,Js r p.2:=λp hp=>by
 simp only[zH,cE,jR,jS]at hp;rcases hp with rfl|rfl|rfl|rfl|rfl
 ·exact λv hv=>bC.1 (dp ps) v hv
 ·exact h1
 ·exact λv hv=>bC.1 (dp ps) v hv
 ·exact h3
 ·exact cV
def Se(B:aa)(ps:c_)(vs:e_)(v2:i_)(i:Nat)(a:Act)(w:h_):Prop:=
 ∃ ks cells,Bm B ((da ps vs i).map dS) ks cells/\Kept ks cells/\St (B.jU ks) 57 (Fc ps.length i v2) (zH ps v2 cells (da ps vs i).length) 5 a w
theorem aUi{m:Nat}(r5:∀ k,B.mp k=none)(hi:i<ps.length)(cq:∀ p∈ps,bP m p/\p.n≠0)(aW:∀ v∈vs,aD m v)(hm:300*m+1000<=aF)(h63:ps.length<=500)(jh:vs.length<900000)
  (iF:∀ w,B.G w->dr w (.slice (some ⟨b,o,none⟩) vs.length c) vs.length (aP vs)) (eT:∀ p∈ps,¬(bZ p vs vs.length).length<3->J0 p vs) {a:Act} {w:h_} (h:Se B ps vs (.slice (some ⟨b,o,none⟩) vs.length c) i a w)
  (K:Act->World->Prop) (Q:Exit->Act->World->Prop) (hK:∀ a' w',Se B ps vs (.slice (some ⟨b,o,none⟩) vs.length c) (i+1) a' w'->K a' w'):(aK (ai f93 0)).wpIn (FW none) 0 prog (Exit.then K Q) a w:=by
 obtain⟨ks,cells,hF,Sf,hS⟩:=h;have jB:ps[i]?=some ps[i]:=bt hi;have mI:gn ps vs i=qB ps vs i ps[i]:=by unfold gn;rw[jB]
 obtain⟨iN,Fu⟩:=aFR hF hS;have Na:(da ps vs i).length<=500:=by have:=JN ps vs i;omega
 have aG4:∀ w,(B.jU ks).G w->dr w (.slice (some ⟨b,o,none⟩) vs.length c) vs.length (aP vs):=λw h=>iF w h.1;have stay:gn ps vs i=[]->∀ a' w',St (B.jU ks) 57 (Fc ps.length (i+1) (.slice (some ⟨b,o,none⟩) vs.length c)) (zH ps (.slice (some ⟨b,o,none⟩) vs.length c) cells (da ps vs i).length) 5 a' w'->K a' w':=by
  intro he a' w' h';have e:da ps vs (i+1)=da ps vs i:=by rw[M8,he,jZ]
  exact hK a' w' ⟨ks,cells,by rw[e];exact hF,Sf,by rw[e];exact h'⟩
 by_cases sQ:lC ps i ps[i]=true
 ·have he:gn ps vs i=[]:=by rw[mI];unfold qB;rw[aA (show(ps.take i).any (λq=>decide (canon ps[i]=canon q))=true from sQ)]
  exact rE (aUd hi jB cq hm h63 sQ) hS λa' w' h'=>stay he a' w' h'
 ·have JO:lC ps i ps[i]=false:=by simpa using sQ
  by_cases ho:(bZ ps[i] vs vs.length).length<3
  ·have he:gn ps vs i=[]:=by rw[mI];unfold qB;rw[au (show ¬(ps.take i).any (λq=>decide (canon ps[i]=canon q))=true from sQ),aA ho]
   exact rE (aUe hi jB cq aW hm h63 jh JO aG4 ho) hS λa' w' h'=>stay he a' w' h'
  ·have hlk:=eT _ (dy hi) ho;have he:gn ps vs i=[(i,order ps[i].n (af vs) (bZ ps[i] vs vs.length))]:=by rw[mI];unfold qB;rw[au (show ¬(ps.take i).any (λq=>decide (canon ps[i]=canon q))=true from sQ),au ho,aA (by rw[hlk.len];omega)]
   refine rE (aUf hi jB cq aW hm h63 jh JO aG4 ho hlk iN Na Fu) hS λa' w' h'=>?_;show K a' w';obtain⟨u,hu,vU,h2⟩:=h'.Q2 (m:=5) (k:=7) rfl (iU _) rfl d_;have e:da ps vs (i+1)=da ps vs i++[(i,order ps[i].n (af vs) (bZ ps[i] vs vs.length))]:=by rw[M8,he]
   have w9:=hF.snoc (i:=i) (l:=order ps[i].n (af vs) (bZ ps[i] vs vs.length)) hu vU;refine hK a' w' ⟨_,cells++[vI i,u],by rw[e,vA];exact w9,Sf.snoc i u _,?_⟩;rw[e,lH];have cV:=w9.flat;generalize cells++[vI i,u]=cells' at *;exact h2.Mv r5 [(0,0),(1,1),(2,2),(3,3),(4,7)] k_ rfl (aG3 cV k_ k_) k_ k_ k_ k_ k_
theorem aUj(ps:c_):((bf ps).drop 0).take (ps.length*40)=bf ps:=by rw[nk,lh (by rw[E1];exact bF _)]
theorem aUk{m:Nat}(cq:∀ p∈ps,bP m p/\p.n≠0)(aW:∀ v∈vs,aD m v)(hm:300*m+1000<=aF)(h63:ps.length<=500)(jh:vs.length<900000)(eT:∀ p∈ps,¬(bZ p vs vs.length).length<3->J0 p vs):
  aF3 prog 93 73 40 ps.length (bf ps) vs.length (aP vs) (jC ((da ps vs ps.length).map dS)):=by
 intro w v1 b o c vg lM;have cy:xd w [gm ps,.p (.slice (some ⟨b,o,none⟩) vs.length c)] [v1,.slice (some ⟨b,o,none⟩) vs.length c]:=.cons vg (.cons rfl .nil);have aC:([gm ps,.p (.slice (some ⟨b,o,none⟩) vs.length c)].all aQ.ok)=true:=by simp only[eA,e8,XW,kp,iz];rfl
 obtain⟨ι,cc,h1,h2,h3,h4,h5,h6,h7⟩:=yJ cy (bC.1 aC) 0 _ _ (uE w) n_ (λ_ _=>rfl);have r5:∀ k,(aa.at w).mp k=none:=λ_=>rfl;have iF:∀ w',(aa.at w).G w'->dr w' (.slice (some ⟨b,o,none⟩) vs.length c) vs.length (aP vs):=λw' hb=>lM.jU hb;refine aD3 (N:=57) (B:=(aa.at w).jU []) func93 aUh k_ h6 (aDW h2) h4 h3 rfl λa bW=>?_;have D9:=aUj ps;have sP:=E1 ps
 have g0:∀ B:aa,ah prog B 57 rC0 (jb 0 (eY 0 [gm ps,.p (.slice (some ⟨b,o,none⟩) vs.length c)])) (jq 0 [gm ps,.p (.slice (some ⟨b,o,none⟩) vs.length c)]) 1
   ⟨.normal,[(4,ptr 1),(0,sl 0 ps.length),(1,.slice (some ⟨b,o,none⟩) vs.length c)],[(0,.view (bf ps)),(1,.aI [.slice none 0 0,.slice none 0 0,.slice none 0 0] 26)],2⟩:=λB=>aG []
 have g1:∀ B:aa,ah prog B 57 rC1 [(4,ptr 1),(0,sl 0 ps.length),(1,.slice (some ⟨b,o,none⟩) vs.length c)] [(0,.view (bf ps)),(1,.aI [.slice none 0 0,.slice none 0 0,.slice none 0 0] 26)] 2
   ⟨.normal,[(4,ptr 1),(5,ptr 4),(0,sl 0 ps.length),(1,.slice (some ⟨b,o,none⟩) vs.length c)],[(0,.view (bf ps)),(1,.aI [.slice none 0 0,.slice none 0 0,.slice none 0 0] 26),(3,.row (bf ps) 73 40),(4,.aI [sl 3 ps.length,.slice (some ⟨b,o,none⟩) vs.length c,.slice none 0 0] 26)],5⟩:=λB=>
  aG [.Mw f93 10 2 73 40 (RP.v ⟨ub,ua⟩) k_,.RQ f93 12 3 2 0 ps.length ps.length 73 40 480 0 0 [] 0 (.view (bf ps)) (bf ps) (kT _) rfl (by show(((bf ps).drop 0).take (ps.length*40)).length=_;rw[D9,sP]) rfl (by show[]++((bf ps).drop 0).take (ps.length*40)=_;rw[D9,jJ]) (aFy ps) d_ (by simp[maxLen];omega) o_ k_,.step 14 (az f93 14) [sl 3 ps.length,.slice (some ⟨b,o,none⟩) vs.length c] [] (.agg #[sl 3 ps.length,.slice (some ⟨b,o,none⟩) vs.length c,.slice none 0 0]) [] (QS (t:=26) (idx:=[0,1]) k_ (λit z h1 h2=>aF0 h1 h2) k_)]
 have g2:∀ B:aa,ah prog B 57 rC2 [(4,ptr 1),(5,ptr 4),(0,sl 0 ps.length),(1,.slice (some ⟨b,o,none⟩) vs.length c)]
    [(0,.view (bf ps)),(1,.aI [.slice none 0 0,.slice none 0 0,.slice none 0 0] 26),(3,.row (bf ps) 73 40),(4,.aI [sl 3 ps.length,.slice (some ⟨b,o,none⟩) vs.length c,.slice none 0 0] 26)] 5
   ⟨.normal,[(6,vI 0),(0,sl 0 ps.length),(1,.slice (some ⟨b,o,none⟩) vs.length c),(4,ptr 1),(5,ptr 4)],[(0,.view (bf ps)),(1,.aI [.slice none 0 0,.slice none 0 0,.slice none 0 0] 26),(3,.row (bf ps) 73 40),(4,.aI [sl 3 ps.length,.slice (some ⟨b,o,none⟩) vs.length c,.slice none 0 0] 26)],5⟩:=λB=>aG []
 refine kY (rE (g0 _) bW λa1 w1 s1=>?_);refine kY (rE (g1 _) s1 λa2 w2 s2=>?_);refine kY (kY (rE (g2 _) s2 λa3 w3 s3=>?_));refine H4 ?_;have s4:=St.aSB (k:=4) (pre:=[sl 3 ps.length,.slice (some ⟨b,o,none⟩) vs.length c]) (post:=[]) (tb:=26) s3 rfl 86 2;have i0:Se (aa.at w) ps vs (.slice (some ⟨b,o,none⟩) vs.length c) 0 a3 w3:=⟨[],[],.nil,λv h=>(by cases h),s4.Mv r5 [(0,0),(1,1),(2,3),(3,4),(4,5)] k_ rfl (aG3 n_ k_ k_) k_ k_ k_ k_ k_⟩;refine aD1 ps.length (Se (aa.at w) ps vs (.slice (some ⟨b,o,none⟩) vs.length c)) i0 (λi hi a' w' h' K hK=>aUi r5 hi cq aW hm h63 jh iF eT h' K _ hK) λa' w' h'=>?_;obtain⟨ks,cells,hF,Sf,hS⟩:=h';have fM:aL:=zH ps (.slice (some ⟨b,o,none⟩) vs.length c) cells (da ps vs ps.length).length;refine rE (r:=⟨.exit 0,[(4,ptr 1),(5,ptr 3)],zH ps (.slice (some ⟨b,o,none⟩) vs.length c) cells (da ps vs ps.length).length,5⟩) (aG [.lt 18 ps.length ps.length false s_]) hS λa4 w4 s4=>?_;show Code.wpIn _ _ _ _ _ _ _;refine kY (rE (r:=⟨.normal,[(4,ptr 1)],[(1,.aI [sl 2 ps.length,.slice (some ⟨b,o,none⟩) vs.length c,sl 4 (da ps vs ps.length).length] 26),(2,.row (bf ps) 73 40),(4,.row cells 86 2)],5⟩) (aG []) s4 λa5 w5 s5=>?_);refine wpIn_ret ?_;refine(aD4 s5 rfl (v:=.agg #[sl 2 ps.length,.slice (some ⟨b,o,none⟩) vs.length c,sl 4 (da ps vs ps.length).length]) k_ λaB cr v' bJ Dd hc=>?_).1;obtain⟨us,rfl,LL⟩:=hc.HU;obtain⟨u1,u2,u3,e3,c1,c2,c3⟩:=Kk LL;have e2:=c2.fH rfl;subst e2;rw[show(da ps vs ps.length).length=((da ps vs ps.length).map dS).length by rw[eO]]at c3;have ho:=hF.out bJ (Dd 4 _ rfl) c3;have jW:=xX bJ.aUg (Dd 2 _ rfl) c1 (by rw[sP];exact bF _) (bC.1 (dp ps));rw[<-sP,oD]at jW;refine⟨u1,u3,?_,jW,ho.1,λb' ki=>P3 (ho.2 b' ki),λb' ki w9=>?_,bJ.base.1⟩
 ·congr 2
  rw[<-yL (xs:=us),e3]
 ·obtain⟨o1,mG,q1⟩:=Ju bJ c1 ki;have FR:=bJ.own 2 _ b' o1 mG (Dd 2 _ rfl) rfl q1;rcases w9 with w9|⟨b2,oo,qK,j,u,e,hj,lW,gy⟩
  ·obtain⟨o4,aUl,q4⟩:=Ju bJ c3 w9;have:=bJ.inj 2 4 _ _ b' o1 mG o4 aUl (Dd 2 _ rfl) rfl (Dd 4 _ rfl) rfl q1 q4;cases this
  ·have hf:=hF.cells _ bJ.base.2;have hl:=hf.length;have hr:=pA (len:=((da ps vs ps.length).map dS).length*2) bJ (Dd 4 _ rfl) rfl hF.flat (λe=>by rw[e]) c3;have hr:dr w5 u3 ((da ps vs ps.length).map dS).length cells:=by
    have e:((Obj.row cells 86 2).cells.drop 0).take (((da ps vs ps.length).map dS).length*2)=cells:=by rw[nk];exact lh (wG hl)
    rwa[e]at hr
   obtain⟨q,hq,e'⟩:=Sf u (QU hr hf e hj lW) b' gy;exact FR.2 (.inr ⟨q,hq,e'⟩)
end
section
variable{ps:c_}{m M:Nat}
structure sU(ps:c_)(m M:Nat):Prop where
 len:ps.length<=9
 pl:∀ p∈ps,bP m p/\p.n≠0
 low:120*m+365<=M
 lim:1000*M+10000<=aF
theorem sU.sz(h:sU ps m M):(∀ v∈fO ps,aD M v)/\(fO ps).length<=81*9:=by obtain⟨h1,h2⟩:=Ye h.pl h.low h.len ps.length (bF _);refine⟨h1,dq h2 ?_⟩;have:=h.len;omega
theorem sU.ur(h:sU ps m M):m<=M/\1000*m+10000<=aF/\200*m+1000<=aF/\100*M+1000<=aF/\300*M+1000<=aF/\m<=aF/\M<=aF:=by have h1:=h.low;have h2:=h.lim;have hmM:m<=M:=dq (dq (WI m (by decide:0<120)) (KT _ 365)) h1;have q1:1000*m+10000<=aF:=dq (Nd (jY _ hmM) _) h2;have q2:200*m+1000<=aF:=dq (Lw (fe m (by decide:200<=1000)) d_) q1;have q3:100*M+1000<=aF:=dq (Lw (fe M (by decide:100<=1000)) d_) h2;have q4:300*M+1000<=aF:=dq (Lw (fe M (by decide:300<=1000)) d_) h2;have q5:m<=aF:=dq (dq (WI m (by decide:0<200)) (KT _ 1000)) q2;have q6:M<=aF:=dq (dq (WI M (by decide:0<1000)) (KT _ 10000)) h2;exact⟨hmM,q1,q2,q3,q4,q5,q6⟩
theorem sU.all(h:sU ps m M):cx prog 89 [gm ps] b_:=by
 have:=aGf (ps:=ps.map db) (m:=m) (λx hx=>by obtain⟨p,hp,rfl⟩:=df.1 hx;exact aE8 (h.pl p hp).1) h.ur.2.2.2.2.2.1 (by rw[eO];have:=h.len;omega)
 rw[eO,show(ps.map db).all sL=true by rw[bC];intro x hx;obtain⟨p,hp,rfl⟩:=df.1 hx;rw[aE7];exact aJ (h.pl p hp).2]at this
 exact this
noncomputable def Yz(h:sU ps m M)(ht:xD ps=t)(more:bN prog Bs 29):bN prog Bs 29:=
 .step 7 (az Tryz.f46 7) [.func (.func 89) #[] #[],sl 0 ps.length] [(0,some (.view (bf ps)))] b_ []
  (dJ h.all (.w (x:=.view (bf ps)) rfl (dp ps) jt .nil) (x:=.func 89) k_ k_ rfl)::
 .gt 13 ps.length 100 false (aY (by have:=h.len;omega))::
 .step 17 (az Tryz.f46 17) [.func (.func 90) #[] #[],sl 0 ps.length] [(0,some (.view (bf ps)))] (.bool t) []
  (dJ (ht▸aS4 (λp hp=>(h.pl p hp).1) h.ur.2.1 (by have:=h.len;omega)) (.w (x:=.view (bf ps)) rfl (dp ps) jt .nil) (x:=.func 90) k_ k_ rfl)::more
noncomputable def aG5(h:sU ps m M)(ht:wC (fO ps)=!t)(more:bN prog Bs 29):bN prog Bs 29:=
 .step 21 (az Tryz.f46 21) [.func (.func 91) #[] #[],sl 0 ps.length] [(2,none),(0,some (.view (bf ps)))] (sl 2 (fO ps).length) [(2,.row (aP (fO ps)) 33 30)]
  (sn (aTn h.pl h.ur.2.2.1 h.low h.ur.2.2.2.1 h.len) (.w (x:=.view (bf ps)) rfl (dp ps) jt .nil) (x:=.func 91) k_ k_ (dR _) 2)::
 .step 23 (az Tryz.f46 23) [.func (.func 92) #[] #[],sl 2 (fO ps).length] [(2,some (.row (aP (fO ps)) 33 30))] (.bool t) []
  (dJ (by have:=aTs h.sz.1 h.ur.2.2.2.2.1 (by have:=h.sz.2;omega);rw[ht,Bool.not_not]at this;exact this) (.w (x:=.row (aP (fO ps)) 33 30) rfl (dR _) wk .nil) (x:=.func 92) k_ k_ rfl)::more
theorem aUm{rs:List RP}(hs:∀ x∈rs,Bk m x)(hm:m<=aF)(h63:rs.length<9223372036854775807)(hb:rs.all sL=false):cx prog 46 [.r rs.length (dx rs)] (.tuple #[xA,gT 1]):=by
 have ha:=aGf hs hm h63;rw[hb]at ha;have aC:([aQ.r rs.length (dx rs)].all aQ.ok)=true:=by simp only[eA,e8,aQ.ok,jf j6,iz]
 exact dF func46 aC 29 (λ_=>[.step 7 (az Tryz.f46 7) [.func (.func 89) #[] #[],sl 0 rs.length] [(0,some (.view (dx rs)))] a_ []
  (dJ ha (.w (x:=.view (dx rs)) rfl (jf j6 rs) (λh=>by rw[lG h];rfl) .nil) (x:=.func 89) k_ k_ rfl)])
theorem aUn(h:sU ps m M)(hc:xD ps=false):cx prog 46 [gm ps] (.tuple #[xA,gT 13]):=
 dF func46 (E4 ps) 29 (λ_=>Yz h hc [])
theorem aUo(h:sU ps m M)(hc:xD ps=true)(hi:wC (fO ps)=true):cx prog 46 [gm ps] (.tuple #[xA,gT 12]):=
 dF func46 (E4 ps) 29 (λ_=>Yz h hc (aG5 (t:=false) h hi []))
def zJ(ps:c_):f_:=(da ps (fO ps) ps.length).map dS
theorem aG6(h:sU ps m M)(hc:xD ps=true)(hi:wC (fO ps)=false)(eT:∀ p∈ps,¬(bZ p (fO ps) (fO ps).length).length<3->J0 p (fO ps)):
  C3 prog 46 [gm ps] 73 40 ps.length (bf ps) 33 30 (fO ps).length (aP (fO ps)) (jC (zJ ps)) [gT 0]:=by
 have aUp:=aUk (ps:=ps) (vs:=fO ps) (m:=M) (λp hp=>⟨(h.pl p hp).1.mono h.ur.1,(h.pl p hp).2⟩) h.sz.1 h.ur.2.2.2.2.1 (by have:=h.len;omega) (by have:=h.sz.2;omega) eT;have vM:0<(fO ps).length:=by
  rcases ow (fO ps).length with h0|h0
  ·rw[lG h0]at hi;cases hi
  ·exact h0
 refine WW (k1:=3) (k2:=2) (k3:=4) mixed func46 (E4 ps) 100 (N:=29) k_ (λw=>Yz h hc (aG5 (t:=true) h hi [
  .step 28 (az Tryz.f46 28) [.func (.func 93) #[] #[],sl 0 ps.length,sl 2 (fO ps).length] [(3,none),(4,none),(0,some (.view (bf ps))),(2,some (.row (aP (fO ps)) 33 30))]
   (.agg #[sl 3 ps.length,sl 2 (fO ps).length,cN 4]) [(4,.fact ((jC (zJ ps)).nE w.heap.size)),(3,.row (bf ps) 73 40)]
   (aSC (B:=aa.at w) (S:=w.heap.size) aUp (.w (x:=.view (bf ps)) rfl (dp ps) jt (.w (x:=.row (aP (fO ps)) 33 30) rfl (dR _) wk .nil)) (x:=.func 93) k_ k_ rfl (dp ps) vM (λw' hb=>Below.size hb) 3)])) (λw=>?_) d_ (dp ps) (E1 ps) (dR _) (sH _) k_
 kernel_rfl
end
def gh(rs:List RP)(vs:List RV)(fs:f_):aQ:=.s rs.length (dx rs) vs.length (cW vs) (ji fs)
theorem Sg(rs:List RP)(vs:List RV)(fs:f_):(gh rs vs fs).ok=true:=by show((dx rs).all flat&&((cW vs).all flat&&true))=true;rw[jf j6,jf gS];rfl
theorem YA{rs:List RP}(h:rs.length=0):dx rs=[]:=by rw[lG h];rfl
theorem aUq{a b:List Int}(h63:a.length<9223372036854775807):cx prog 112 [.o (e9 a),.o (e9 b)] (.bool (decide (a=b))):=by
 have aC:([aQ.o (e9 a),.o (e9 b)].all aQ.ok)=true:=rfl;by_cases hl:a.length=b.length
 ·rcases ow a.length with h0|h0
  ·have ha:=lG h0;have hb:=lG (hl▸h0);subst ha;subst hb;exact dF func112 aC 26 (λw=>[.step 7 (az f112 7) [cN 0] [(0,some (.fact (e9 [])))] (vI 0) [] (xB k_),.step 9 (az f112 9) [cN 1] [(1,some (.fact (e9 [])))] (vI 0) [] (xB k_),.step 13 (az f112 13) [cN 0] [(0,some (.fact (e9 [])))] (vI 0) [] (xB k_)])
  ·intro w vs cy;cases cy with
   |cons h1 cy=>
   cases cy with
   |cons h2 cy=>
   cases cy;have r1:dr w _ a.length (fY a):=oJ.row h1.1 h0;have r2:dr w _ b.length (fY b):=oJ.row h2.1 o_;exact aRm h63 w _ (.cons r1 (.cons r2 .nil))
 ·have cd:a≠b:=λh=>hl (by rw[h]);rw[aY cd];exact dF func112 aC 26 (λw=>[.step 7 (az f112 7) [cN 0] [(0,some (.fact (e9 a)))] (vI a.length) [] (xB k_),.step 9 (az f112 9) [cN 1] [(1,some (.fact (e9 b)))] (vI b.length) [] (xB k_),.rw 10 _ b_ (vf (x:=a.length) (y:=b.length) (by simp[hl]))])
section
variable{Bs:aa}{ra rb:List RP}{va vb:List RV}{fa fb:f_}
def Nx(ra:List RP)(va:List RV)(fa:f_)(k:Nat):Obj:=.aI [sl k ra.length,sl (k+1) va.length,cN (k+2)] 26
def aXZ(i:Nat):aU:=[(5,vI i),(2,ptr 6),(3,ptr 7)]
def xH(ra rb:List RP)(va vb:List RV)(fa fb:f_):aL:=[(0,.view (dx ra)),(3,.view (dx rb)),(6,Nx ra va fa 0),(7,Nx rb vb fb 3)]
noncomputable def smS{x y:RP}(hi:i<ra.length)(fQ:i<rb.length)(hx:ra[i]?=some x)(hy:rb[i]?=some y)(sx:x.Sm)(sy:y.Sm)(ht:(!t)=true↔x=y)(more:bN prog Bs 85):bN prog Bs 85:=
 .lt 35 i ra.length true (aJ hi)::.di f58 41 0 ra.length i 40 hi k_::.ld f58 42 73 0 (i*40) (.view (dx ra)) x.v rfl (xl hx) k_::.di f58 46 3 rb.length i 40 fQ k_::.ld f58 47 73 3 (i*40) (.view (dx rb)) y.v rfl (xl hy) k_::
  .step 48 (az f58 48) [x.v,y.v] [] (.bool t) [] (Vn (neg:=false) k_ x y sx sy ht)::more
theorem aYd{x:RP}(hi:i<ra.length)(fQ:i<rb.length)(hx:ra[i]?=some x)(hy:rb[i]?=some x)(sx:x.Sm)(h63:ra.length<9223372036854775807):
  ah prog Bs 85 (aK (ai f58 0)) (aXZ i) (xH ra rb va vb fa fb) 8 ⟨.normal,aXZ (i+1),xH ra rb va vb fa fb,8⟩:=
 aG (smS (t:=false) hi fQ hx hy sx sx s_ [.sum 37 i 1 (i+1) rfl o_])
theorem aUr{x y:RP}(hi:i<ra.length)(fQ:i<rb.length)(hx:ra[i]?=some x)(hy:rb[i]?=some y)(sx:x.Sm)(sy:y.Sm)(bB:x≠y):
  ah prog Bs 85 (aK (ai f58 0)) (aXZ i) (xH ra rb va vb fa fb) 8 ⟨.ret,[(4,.bool false)],xH ra rb va vb fa fb,8⟩:=
 aG (smS (t:=true) hi fQ hx hy sx sy (by simp[bB]) [])
theorem aUs:ah prog Bs 85 (aK (ai f58 0)) (aXZ ra.length) (xH ra rb va vb fa fb) 8 ⟨.exit 0,[(2,ptr 6),(3,ptr 7)],xH ra rb va vb fa fb,8⟩:=
 aG [.lt 35 ra.length ra.length false s_]
def zK(i:Nat):aU:=[(6,vI i),(2,ptr 6),(3,ptr 7)]
def pV(ra rb:List RP)(va vb:List RV)(fa fb:f_):aL:=[(2,.fact (ji fa)),(5,.fact (ji fb)),(6,Nx ra va fa 0),(7,Nx rb vb fb 3)]
theorem aUt:∀ x∈pV ra rb va vb fa fb,fR 8 x.2:=λx hx=>by
 simp only[pV,cE,jR,jS]at hx;rcases hx with rfl|rfl|rfl|rfl
 ·exact λv hv=>(by cases hv)
 ·exact λv hv=>(by cases hv)
 ·intro v hv;have hv:v∈[sl 0 ra.length,sl 1 va.length,cN 2]:=hv;simp at hv;rcases hv with rfl|rfl|rfl<;>rfl
 ·intro v hv;have hv:v∈[sl 3 rb.length,sl 4 vb.length,cN 5]:=hv;simp at hv;rcases hv with rfl|rfl|rfl<;>rfl
def vw(f:Int×List Int)(k:Nat):Obj:=.view [iV f.1,cN (k+1)]
noncomputable def Sh(key m k i:Nat){f:Int×List Int}(hi:fs[i]?=some f)(Jq:m<k)(ho:xY prog (az f58 key)=some 2):aZ prog Bs 85:=
 .step key (az f58 key) [cN m,vI i] [(k,none),(k+1,none),(m,some (.fact (ji fs)))] (ptr k) [(k,vw f k),(k+1,.fact (e9 f.2))] (Ng ho (.self fs) hi Jq)
noncomputable def YB{f:Int×List Int}(hi:i<fa.length)(h1:fa[i]?=some f)(h2:fb[i]?=some f')(ht:decide (f.1≠f'.1)=t)(more:bN prog Bs 85):bN prog Bs 85:=
 .step 52 (az f58 52) [cN 2] [(2,some (.fact (ji fa)))] (vI fa.length) [] (zv k_ (.self fa))::.lt 53 i fa.length true (aJ hi)::Sh 59 2 8 i h1 d_ k_::Sh 65 5 10 i h2 d_ k_::.rw 68 _ (.bool t) (neZ ht)::more
noncomputable def sfT{f:Int×List Int}(h1:fa[i]?=some f)(h2:fb[i]?=some f')(h63:f.2.length<9223372036854775807)(ht:decide (f.2=f'.2)=t)(more:bN prog Bs 85):bN prog Bs 85:=
 Sh 73 2 12 i h1 d_ k_::Sh 79 5 14 i h2 d_ k_::
  .step 82 (az f58 82) [.func (.func 112) #[] #[],cN 13,cN 15] [(13,some (.fact (e9 f.2))),(15,some (.fact (e9 f'.2)))] (.bool t) []
   (dJ (ht▸aUq h63) (.o (.o .nil)) (x:=.func 112) k_ k_ rfl)::more
theorem aG7{f:Int×List Int}(hi:i<fa.length)(q1:fa[i]?=some f)(q2:fb[i]?=some f')(h63:f.2.length<9223372036854775807)(aSN:fa.length<9223372036854775807)(ht:f=f'):
  ah prog Bs 85 (aK (ai f58 2)) (zK i) (pV ra rb va vb fa fb) 8 ⟨.normal,zK (i+1),pV ra rb va vb fa fb,8⟩:=by
 have h1:decide (f.1≠f'.1)=false:=by rw[ht];simp
 have h2:decide (f.2=f'.2)=true:=by rw[ht];simp
 exact rU mixed 100 (gG:=16) (YB hi q1 q2 h1 (sfT q1 q2 h63 h2 [.sum 55 i 1 (i+1) rfl o_])) k_ rfl k_ aUt k_
theorem aUu:ah prog Bs 85 (aK (ai f58 2)) (zK fa.length) (pV ra rb va vb fa fb) 8 ⟨.exit 2,[],pV ra rb va vb fa fb,8⟩:=
 aG [.step 52 (az f58 52) [cN 2] [(2,some (.fact (ji fa)))] (vI fa.length) [] (zv k_ (.self fa)),.lt 53 fa.length fa.length false s_]
def YC(ra rb:List RP)(va vb:List RV)(fa fb:f_):Bool:=decide (ra=rb)&&(decide (va=vb)&&decide (fa=fb))
noncomputable def HK{na:Bool}(h1:decide (ra.length≠rb.length)=na)(more:bN prog Bs 85):bN prog Bs 85:=.rw 13 _ (.bool na) (vf h1)::more
noncomputable def J3{nb:Bool}(h2:decide (fa.length≠fb.length)=nb)(more:bN prog Bs 85):bN prog Bs 85:=
 .step 17 (az f58 17) [cN 2] [(2,some (.fact (ji fa)))] (vI fa.length) [] (zv k_ (.self fa))::.step 20 (az f58 20) [cN 5] [(5,some (.fact (ji fb)))] (vI fb.length) [] (zv k_ (.self fb))::.rw 21 _ (.bool nb) (vf h2)::more
noncomputable def Ny(hV:cx prog 111 [.r va.length (cW va),.r vb.length (cW vb)] (.bool t))(more:bN prog Bs 85):bN prog Bs 85:=
 .step 28 (az f58 28) [.func (.func 111) #[] #[],sl 1 va.length,sl 4 vb.length] [(1,some (.view (cW va))),(4,some (.view (cW vb)))] (.bool t) []
  (dJ hV (.w (x:=.view (cW va)) rfl (jf gS _) BB (.w (x:=.view (cW vb)) rfl (jf gS _) BB .nil)) (x:=.func 111) k_ k_ rfl)::more
theorem aUv(ha:∀ x∈ra,x.Sm)(hb:∀ x∈rb,x.Sm)(gQ:∀ x∈va,x.Sm)(mf:∀ x∈vb,x.Sm)(hn:ra.length<9223372036854775807)(jh:va.length<9223372036854775807)(rK:fa.length<9223372036854775807)(rJ:∀ f∈fa,f.2.length<9223372036854775807):
  cx prog 58 [gh ra va fa,gh rb vb fb] (.bool (YC ra rb va vb fa fb)):=by
 have aC:([gh ra va fa,gh rb vb fb].all aQ.ok)=true:=by simp only[eA,e8,Sg,A3]
 have hV:=aRj gQ mf jh;unfold YC;unfold gh at *;by_cases hl:ra.length=rb.length
 ·have n13:decide (ra.length≠rb.length)=false:=by simp[hl]
  by_cases hf:fa.length=fb.length
  ·have n21:decide (fa.length≠fb.length)=false:=by simp[hf]
   by_cases Si:va=vb
   ·rw[aJ Si]at hV;rw[aJ Si,kp];rcases EE ra rb hl with hp|⟨e,x,y,q1,q2,q3,q4⟩
    ·rw[aJ hp,kp];have lo:∀ B:aa,ah prog B 85 (.block 0 (ai f58 0)) (aXZ 0) (xH ra rb va vb fa fb) 8 ⟨.normal,[(2,ptr 6),(3,ptr 7)],xH ra rb va vb fa fb,8⟩:=λB=>
      cg (id:=0) (cz ra.length (λi=>aXZ i) (λ_=>xH ra rb va vb fa fb) (λi k _=>Iff.rfl) (λi hi=>by have hx:ra[i]?=some ra[i]:=bt hi;exact aYd hi o_ hx (by rw[<-hp];exact hx) (ha _ (dy hi)) hn) aUs n_)
     rcases EE fa fb hf with Qh|⟨e,x,y,q1,q2,q3,q4⟩
     ·rw[aJ Qh];have xh:∀ B:aa,ah prog B 85 (.block 2 (ai f58 2)) (zK 0) (pV ra rb va vb fa fb) 8 ⟨.normal,[],pV ra rb va vb fa fb,8⟩:=λB=>
       cg (id:=2) (cz fa.length (λi=>zK i) (λ_=>pV ra rb va vb fa fb) (λi k _=>Iff.rfl) (λi hi=>by have hx:fa[i]?=some fa[i]:=bt hi;exact aG7 hi hx (by rw[<-Qh];exact hx) (rJ _ (dy hi)) rK rfl) aUu n_)
      exact iL mixed func58 aC 200 (N:=85) k_ (λw=>HK n13 (J3 n21 (Ny hV [.code 0 _ _ _ _ _ (lo _),.code 2 _ _ _ _ _ (xh _)]))) (λ_=>k_) k_
     ·have cd:fa≠fb:=λh=>by subst h;rw[q1]at q2;injection q2 with q2;exact q3 q2
      rw[aY cd];have ao:=(eP.1 q1).1;have rounds:∀{B:aa},∀ i,i<e->ah prog B 85 (aK (ai f58 2)) (zK i) (pV ra rb va vb fa fb) 8 ⟨.normal,zK (i+1),pV ra rb va vb fa fb,8⟩:=λi hi=>by have hx:fa[i]?=some fa[i]:=bt o_;have hy:fb[i]?=some fb[i]:=bt o_;exact aG7 o_ hx hy (rJ _ (dy _)) rK (q4 i _ _ hi hx hy)
      by_cases he:x.1=y.1
      ·have h1:decide (x.1≠y.1)=false:=by rw[he];simp
       have h2:decide (x.2=y.2)=false:=aY λe=>q3 (Prod.ext he e);have xh:∀ B:aa,ah prog B 85 (.block 2 (ai f58 2)) (zK 0) (pV ra rb va vb fa fb) 8 ⟨.ret,[(4,.bool false)],pV ra rb va vb fa fb,16⟩:=λB=>
        cg (id:=2) (cz (r:=⟨.ret,[(4,.bool false)],pV ra rb va vb fa fb,16⟩) e (λi=>zK i) (λ_=>pV ra rb va vb fa fb) (λi k _=>Iff.rfl) rounds (aG (YB ao q1 q2 h1 (sfT q1 q2 (rJ _ (cM q1)) h2 []))) n_)
       exact iL mixed func58 aC 200 (N:=85) k_ (λw=>HK n13 (J3 n21 (Ny hV [.code 0 _ _ _ _ _ (lo _),.code 2 _ _ _ _ _ (xh _)]))) (λ_=>k_) k_
      ·have h1:decide (x.1≠y.1)=true:=aJ he;have xh:∀ B:aa,ah prog B 85 (.block 2 (ai f58 2)) (zK 0) (pV ra rb va vb fa fb) 8 ⟨.ret,[(4,.bool false)],pV ra rb va vb fa fb,12⟩:=λB=>
        cg (id:=2) (cz (r:=⟨.ret,[(4,.bool false)],pV ra rb va vb fa fb,12⟩) e (λi=>zK i) (λ_=>pV ra rb va vb fa fb) (λi k _=>Iff.rfl) rounds (aG (YB ao q1 q2 h1 [])) n_)
       exact iL mixed func58 aC 200 (N:=85) k_ (λw=>HK n13 (J3 n21 (Ny hV [.code 0 _ _ _ _ _ (lo _),.code 2 _ _ _ _ _ (xh _)]))) (λ_=>k_) k_
    ·have cd:ra≠rb:=λh=>by subst h;rw[q1]at q2;injection q2 with q2;exact q3 q2
     rw[aY cd,An];have ao:=(eP.1 q1).1;have lo:∀ B:aa,ah prog B 85 (.block 0 (ai f58 0)) (aXZ 0) (xH ra rb va vb fa fb) 8 ⟨.ret,[(4,.bool false)],xH ra rb va vb fa fb,8⟩:=λB=>
      cg (id:=0) (cz e (λi=>aXZ i) (λ_=>xH ra rb va vb fa fb) (λi k _=>Iff.rfl) (λi hi=>by have hx:ra[i]?=some ra[i]:=bt o_;have hy:rb[i]?=some rb[i]:=bt o_;have:=q4 i _ _ hi hx hy;exact aYd o_ o_ hx (by rw[this];exact hy) (ha _ (dy _)) hn) (aUr ao o_ q1 q2 (ha _ (cM q1)) (hb _ (cM q2)) q3) n_)
     exact iL mixed func58 aC 200 (N:=85) k_ (λw=>HK n13 (J3 n21 (Ny hV [.code 0 _ _ _ _ _ (lo _)]))) (λ_=>k_) k_
   ·rw[aY Si]at hV;rw[aY Si,An,OJ];exact iL mixed func58 aC 200 (N:=85) k_ (λw=>HK n13 (J3 n21 (Ny hV []))) (λ_=>k_) k_
  ·have n21:decide (fa.length≠fb.length)=true:=by simp[hf]
   have cd:fa≠fb:=λh=>hf (by rw[h]);rw[aY cd,OJ,OJ];exact iL mixed func58 aC 200 (N:=85) k_ (λw=>HK n13 (J3 n21 [])) (λ_=>k_) k_
 ·have n13:decide (ra.length≠rb.length)=true:=by simp[hl]
  have cd:ra≠rb:=λh=>hl (by rw[h]);rw[aY cd,An];exact iL mixed func58 aC 200 (N:=85) k_ (λw=>HK n13 []) (λ_=>k_) k_
end
section
variable{ps:c_}{m M:Nat}{rs:List RP}{vs:List RV}{fs:f_}
def J4(ps:c_)(vs:List RV)(fs:f_):Bool:=
 !decide (fs.length<4)&&(!decide (vs.length<4)&&(xD ps&&(!wC (fO ps)&&(decide (vs=(fO ps).map cB)&&decide (fs=zJ ps)))))
theorem Nz(rs:List RP)(vs:List RV)(fs:f_):([gh rs vs fs].all aQ.ok)=true:=by simp only[eA,e8,Sg,A3]
noncomputable def J5(k:Nat)(fs:f_):aZ prog Bs 28:=.step 7 (az Tryz.f23 7) [cN k] [(k,some (.fact (ji fs)))] (vI fs.length) [] (zv k_ (.self fs))
theorem aG8(hf:fs.length<4):cx prog 23 [gh rs vs fs] a_:=by have aC:=Nz rs vs fs;unfold gh at *;exact iL mixed func23 aC 100 (N:=28) k_ (λw=>[J5 2 fs,.lt 8 fs.length 4 true (aJ hf)]) (λw=>k_) k_
theorem aG9(hf:¬fs.length<4)(hv:vs.length<4):cx prog 23 [gh rs vs fs] a_:=by have aC:=Nz rs vs fs;unfold gh at *;exact iL mixed func23 aC 100 (N:=28) k_ (λw=>[J5 2 fs,.lt 8 fs.length 4 false (aY hf),.lt 13 vs.length 4 true (aJ hv)]) (λw=>k_) k_
theorem aUw(hs:∀ x∈rs,Bk m x)(hm:m<=aF)(h63:rs.length<9223372036854775807)(hb:rs.all sL=false):cx prog 23 [gh rs vs fs] a_:=by
 by_cases hf:fs.length<4
 ·exact aG8 hf
 by_cases hv:vs.length<4
 ·exact aG9 hf hv
 have aC:=Nz rs vs fs;have qD:=aUm hs hm h63 hb;unfold gh at *;exact iL mixed func23 aC 100 (N:=28) k_ (λw=>[J5 2 fs,.lt 8 fs.length 4 false (aY hf),.lt 13 vs.length 4 false (aY hv),.step 18 (az Tryz.f23 18) [.func (.func 46) #[] #[],sl 0 rs.length] [(0,some (.view (dx rs)))] (.tuple #[xA,gT 1]) []
   (dJ qD (.w (x:=.view (dx rs)) rfl (jf j6 rs) YA .nil) (x:=.func 46) k_ k_ k_)]) (λw=>k_) k_
theorem aUx(h:sU ps m M)(eT:xD ps=true->wC (fO ps)=false->∀ p∈ps,¬(bZ p (fO ps) (fO ps).length).length<3->J0 p (fO ps))(aW:∀ x∈vs,x.Sm)(jh:vs.length<9223372036854775807)(rK:fs.length<9223372036854775807)(rJ:∀ f∈fs,f.2.length<9223372036854775807):
  cx prog 23 [gh (ps.map db) vs fs] (.bool (J4 ps vs fs)):=by
 unfold J4;by_cases hf:fs.length<4
 ·rw[aJ hf];exact aG8 hf
 by_cases hv:vs.length<4
 ·rw[aJ hv,aY hf];exact aG9 hf hv
 rw[aY hf,aY hv];have aC:=Nz (ps.map db) vs fs;by_cases hc:xD ps=true
 ·rw[hc];by_cases hi:wC (fO ps)=true
  ·rw[hi];have qD:=aUo h hc hi;unfold gh at *;rw[eO,show dx (ps.map db)=bf ps from rfl]at *;exact iL mixed func23 aC 100 (N:=28) k_ (λw=>[J5 2 fs,.lt 8 fs.length 4 false (aY hf),.lt 13 vs.length 4 false (aY hv),.step 18 (az Tryz.f23 18) [.func (.func 46) #[] #[],sl 0 ps.length] [(0,some (.view (bf ps)))] (.tuple #[xA,gT 12]) []
     (dJ qD (.w (x:=.view (bf ps)) rfl (dp ps) jt .nil) (x:=.func 46) k_ k_ k_)]) (λw=>k_) k_
  ·have hi:wC (fO ps)=false:=by simpa using hi
   rw[hi];have qD:=aG6 h hc hi (eT hc hi);have smv:∀ x∈(fO ps).map cB,x.Sm:=λx hx=>by obtain⟨v,hv,rfl⟩:=df.1 hx;exact(h.sz.1 v hv).sm h.ur.2.2.2.2.2.2
   have smp:∀ x∈ps.map db,x.Sm:=λx hx=>by obtain⟨p,hp,rfl⟩:=df.1 hx;exact(h.pl p hp).1.sm (by have:=h.ur.2.2.2.2.2.1;exact this)
   have BN:=aUv (ra:=ps.map db) (rb:=ps.map db) (va:=vs) (vb:=(fO ps).map cB) (fa:=fs) (fb:=zJ ps) smp smp aW smv (by rw[eO];have:=h.len;omega) jh rK rJ;unfold YC at BN;rw[aJ rfl]at BN;unfold aP at qD;unfold gh at *;rw[eO,show dx (ps.map db)=bf ps from rfl]at aC BN ⊢;have hlen:(fO ps).length=((fO ps).map cB).length:=by rw[eO]
   rw[hlen]at qD;generalize (fO ps).map cB=cX at *;rw[kp]at BN;have e0:(!false&&(!false&&(true&&(!false&&(decide (vs=cX)&&decide (fs=zJ ps))))))=(decide (vs=cX)&&decide (fs=zJ ps)):=by simp
   rw[e0];generalize (decide (vs=cX)&&decide (fs=zJ ps))=t at *;refine iL mixed func23 aC 100 (N:=28) k_ (λw=>[J5 2 fs,.lt 8 fs.length 4 false (aY hf),.lt 13 vs.length 4 false (aY hv),.step 18 (az Tryz.f23 18) [.func (.func 46) #[] #[],sl 0 ps.length] [(4,none),(5,none),(6,none),(0,some (.view (bf ps)))] (.tuple #[.agg #[sl 4 ps.length,sl 5 cX.length,cN 6],gT 0]) [(6,.fact ((jC (zJ ps)).nE w.heap.size)),(5,.row (cW cX) 33 30),(4,.row (bf ps) 73 40)]
     (MA (B:=aa.at w) (S:=w.heap.size) qD (.w (x:=.view (bf ps)) rfl (dp ps) jt .nil) (x:=.func 46) k_ k_ rfl (dp ps) (jf gS _) rfl (λw' hb=>Below.size hb) 4),
    .step 26 (az Tryz.f23 26) [.func (.func 58) #[] #[],.agg #[sl 0 ps.length,sl 1 vs.length,cN 2],.agg #[sl 4 ps.length,sl 5 cX.length,cN 6]] [(0,some (.view (bf ps))),(1,some (.view (cW vs))),(2,some (.fact (ji fs))),(4,some (.row (bf ps) 73 40)),(5,some (.row (cW cX) 33 30)),(6,some (.fact ((jC (zJ ps)).nE w.heap.size)))] (.bool t) []
     (dJ BN (.s (x1:=.view (bf ps)) (x2:=.view (cW vs)) rfl (dp ps) jt rfl (jf gS _) BB (.si (aF6 _ _) (x1:=.row (bf ps) 73 40) (x2:=.row (cW cX) 33 30) rfl (dp ps) jt rfl (jf gS _) BB .nil)) (x:=.func 58) k_ k_ rfl)]) (λw=>?_) k_
   kernel_rfl
 ·have hc:xD ps=false:=by simpa using hc
  rw[hc];have qD:=aUn h hc;unfold gh at *;rw[eO,show dx (ps.map db)=bf ps from rfl]at *;exact iL mixed func23 aC 100 (N:=28) k_ (λw=>[J5 2 fs,.lt 8 fs.length 4 false (aY hf),.lt 13 vs.length 4 false (aY hv),.step 18 (az Tryz.f23 18) [.func (.func 46) #[] #[],sl 0 ps.length] [(0,some (.view (bf ps)))] (.tuple #[xA,gT 13]) []
    (dJ qD (.w (x:=.view (bf ps)) rfl (dp ps) jt .nil) (x:=.func 46) k_ k_ k_)]) (λw=>k_) k_
end
def Sj(ps:c_)(n2:Nat)(x2:al)(F:Fact):aQ:=.s ps.length (bf ps) n2 x2 F
theorem aUy{x2:al}{F:Fact}(h2:x2.all flat=true)(hF:F.rc=false):(Sj ps n2 x2 F).ok=true:=by show((bf ps).all flat&&(x2.all flat&&!F.rc))=true;rw[dp,h2,hF];rfl
section
variable{Bs:aa}{ps:c_}{v:V3 K}{m n:Nat}
def NA(v:V3 K)(z:Int)(p:HS K):Int:=if z<OF.aE (dot p.n v-p.d)then OF.aE (dot p.n v-p.d)else z
def xI(ps:c_)(v:V3 K):Int:=ps.foldl (NA v) (-1)
def NB(i:Nat)(z:Int):aU:=[(6,vI i),(5,.int .i64 z),(2,ptr 3),(3,ptr 4)]
def J6(ps:c_)(v:V3 K)(n2:Nat):aL:=[(0,.view (bf ps)),(3,.aI [sl 0 ps.length,sl 1 n2,cN 2] 26),(4,.aI (cB v).cs 33)]
theorem aUz{p:HS K}(hi:i<ps.length)(hp:ps[i]?=some p)(sp:bP m p)(pn:p.n≠0)(sv:aD n v)(hm:4*(3*(m+n)+14+m)+50<=aF)(h63:ps.length<9223372036854775807):
  ah prog Bs 24 (aK (ai f12 0)) (NB i z) (J6 ps v n2) 5 ⟨.normal,NB (i+1) (NA v z p),J6 ps v n2,5⟩:=by
 have hs:=aXu sp sv hm pn;unfold NA;generalize OF.aE (dot p.n v-p.d)=s at *;exact aG [.lt 11 i ps.length true (aJ hi),.di f12 18 0 ps.length i 40 hi k_,.ld f12 19 73 0 (i*40) (.view (bf ps)) (dK p) rfl (yR hp) k_,hs.at 21,.aSE f12 22 z s _ rfl k_,.sum 13 i 1 (i+1) rfl o_]
theorem aUA(cq:∀ p∈ps,bP m p/\p.n≠0)(sv:aD n v)(hm:4*(3*(m+n)+14+m)+50<=aF)(h63:ps.length<9223372036854775807):
  ah prog Bs 24 (.block 0 (ai f12 0)) (NB 0 (-1)) (J6 ps v n2) 5 ⟨.normal,[(5,.int .i64 (xI ps v))],J6 ps v n2,5⟩:=
 cg (id:=0) (cz (r:=⟨.exit 0,[(5,.int .i64 (xI ps v))],J6 ps v n2,5⟩) ps.length (λi=>NB i (xI (ps.take i) v)) (λ_=>J6 ps v n2) (λi k _=>Iff.rfl) (λi hi=>by
  have hp:=bt hi;have e:xI (ps.take (i+1)) v=NA v (xI (ps.take i) v) ps[i]:=by unfold xI;rw[uZ,hp,WH];rfl
  show ah _ _ _ _ _ _ _ ⟨_,NB (i+1) (xI (ps.take (i+1)) v),_,_⟩;rw[e];exact aUz hi hp (cq _ (dy hi)).1 (cq _ (dy hi)).2 sv hm h63) (by
  rw[oD];generalize xI ps v=z;exact aG [.lt 11 ps.length ps.length false s_]) n_)
theorem aUB{x2:al}{F:Fact}(h2:x2.all flat=true)(hF:F.rc=false)(cq:∀ p∈ps,bP m p/\p.n≠0)(sv:aD n v)(hm:4*(3*(m+n)+14+m)+50<=aF)(h63:ps.length<9223372036854775807):
  cx prog 12 [Sj ps n2 x2 F,.p (bE v)] (.int .i64 (xI ps v)):=by
 have aC:([Sj ps n2 x2 F,.p (bE v)].all aQ.ok)=true:=by simp only[eA,e8,aUy h2 hF,kp,iz];rfl
 have lo:=λBs=>aUA (Bs:=Bs) (n2:=n2) cq sv hm h63;unfold Sj at *;generalize xI ps v=z at *;exact iL mixed func12 aC 100 (N:=24) k_ (λw=>[.code 0 _ _ _ _ _ (lo _)]) (λw=>k_) k_
end
section
variable{Bs:aa}{rs:List RP}{vs:List RV}{fs:f_}
def HL(i:Nat):aU:=[(3,vI i),(1,ptr 3)]
def vm(rs:List RP)(vs:List RV)(fs:f_):aL:=[(2,.fact (ji fs)),(3,Nx rs vs fs 0)]
theorem aUC:∀ x∈vm rs vs fs,fR 4 x.2:=λx hx=>by
 simp only[vm,cE,jR,jS]at hx;rcases hx with rfl|rfl
 ·exact λv hv=>(by cases hv)
 ·intro v hv;have hv:v∈[sl 0 rs.length,sl 1 vs.length,cN 2]:=hv;simp at hv;rcases hv with rfl|rfl|rfl<;>rfl
noncomputable def YD(fs:f_)(key:Nat)(ho:Mx prog (az Tryz.f22 key)=true):aZ prog Bs 33:=.step key (az Tryz.f22 key) [cN 2] [(2,some (.fact (ji fs)))] (vI fs.length) [] (zv ho (.self fs))
noncomputable def fwS{f:Int×List Int}(hi:i<fs.length)(h1:fs[i]?=some f)(ht:decide (f.2.length>12)=t)(more:bN prog Bs 33):bN prog Bs 33:=
 YD fs 7 k_::.lt 8 i fs.length true (aJ hi)::.step 14 (az Tryz.f22 14) [cN 2,vI i] [(4,none),(4+1,none),(2,some (.fact (ji fs)))] (ptr 4) [(4,vw f 4),(4+1,.fact (e9 f.2))] (Ng k_ (.self fs) h1 d_)::
  .step 17 (az Tryz.f22 17) [cN 5] [(5,some (.fact (e9 f.2)))] (vI f.2.length) [] (xB k_)::.gt 18 f.2.length 12 t ht::more
theorem aHa{f:Int×List Int}(hi:i<fs.length)(h1:fs[i]?=some f)(h63:fs.length<9223372036854775807)(ht:f.2.length<=12):
  ah prog Bs 33 (aK (ai Tryz.f22 0)) (HL i) (vm rs vs fs) 4 ⟨.normal,HL (i+1),vm rs vs fs,4⟩:=
 rU mixed 100 (gG:=6) (fwS (f:=f) hi h1 (aY o_) [.sum 10 i 1 (i+1) rfl o_]) k_ rfl k_ aUC k_
theorem aUD{f:Int×List Int}(hi:i<fs.length)(h1:fs[i]?=some f)(ht:¬f.2.length<=12):
  ah prog Bs 33 (aK (ai Tryz.f22 0)) (HL i) (vm rs vs fs) 4 ⟨.ret,[(2,.bool false)],vm rs vs fs,6⟩:=
 aG (fwS (f:=f) hi h1 (aJ o_) [])
def NC(rs:List RP)(vs:List RV)(fs:f_):Bool:=
 fs.all (λf=>decide (f.2.length<=12))&&(Ni rs 9&&((vs.all (λx=>pR x 12)&&decide (vs.length<=20))&&decide (fs.length<=12)))
noncomputable def YE{t1:Bool}(hP:cx prog 56 [.r rs.length (dx rs),.p (vI 9)] (.bool t1))(more:bN prog Bs 33):bN prog Bs 33:=
 .step 21 (az Tryz.f22 21) [.func (.func 56) #[] #[],sl 0 rs.length,vI 9] [(0,some (.view (dx rs)))] (.bool t1) [] (dJ hP (.w (x:=.view (dx rs)) rfl (jf j6 rs) YA (.p rfl .nil)) (x:=.func 56) k_ k_ rfl)::more
noncomputable def fwV{t2:Bool}(hV:cx prog 57 [.r vs.length (cW vs),.p (vI 20),.p (vI 12)] (.bool t2))(more:bN prog Bs 33):bN prog Bs 33:=
 .step 25 (az Tryz.f22 25) [.func (.func 57) #[] #[],sl 1 vs.length,vI 20,vI 12] [(1,some (.view (cW vs)))] (.bool t2) [] (dJ hV (.w (x:=.view (cW vs)) rfl (jf gS vs) BB (.p rfl (.p rfl .nil))) (x:=.func 57) k_ k_ rfl)::more
theorem aUE(J7:rs.length<9223372036854775807)(jh:vs.length<9223372036854775807)(rK:fs.length<9223372036854775807):cx prog 22 [gh rs vs fs] (.bool (NC rs vs fs)):=by
 have aC:=Nz rs vs fs;unfold NC;unfold gh at *;have hP:=aSX (ps:=rs) 9 J7;have hV:=aSS (vs:=vs) (k:=12) 20 jh;rcases De (λf:Int×List Int=>decide (f.2.length<=12)) fs with h|⟨e,x,h1,h2,h3,h4⟩
 ·rw[h,kp];have lo:∀ B:aa,ah prog B 33 (.block 0 (ai Tryz.f22 0)) (HL 0) (vm rs vs fs) 4 ⟨.normal,[(1,ptr 3)],vm rs vs fs,4⟩:=λB=>
   cg (id:=0) (cz (r:=⟨.exit 0,[(1,ptr 3)],vm rs vs fs,4⟩) fs.length (λi=>HL i) (λ_=>vm rs vs fs) (λi k _=>Iff.rfl) (λi hi=>by have hx:fs[i]?=some fs[i]:=bt hi;exact aHa hi hx rK (jN (E5 h hx))) (aG [YD fs 7 k_,.lt 8 fs.length fs.length false s_]) n_)
  generalize Ni rs 9=t1 at *;generalize (vs.all (λx=>pR x 12)&&decide (vs.length<=20))=t2 at *;cases t1 with
  |false=>exact dF func22 aC 33 (λw=>.code 0 _ _ _ _ _ (lo _)::YE hP [])
  |true=>
  cases t2 with
  |false=>exact dF func22 aC 33 (λw=>.code 0 _ _ _ _ _ (lo _)::YE hP (fwV hV []))
  |true=>
   rw[kp,kp];exact dF func22 aC 33 (λw=>.code 0 _ _ _ _ _ (lo _)::YE hP (fwV hV [YD fs 30 k_,.rw 31 _ (.bool (decide (fs.length<=12))) (Hy (a:=fs.length) (b:=12) rfl)]))
 ·rw[h4,An];have ao:=(eP.1 h1).1;have lo:∀ B:aa,ah prog B 33 (.block 0 (ai Tryz.f22 0)) (HL 0) (vm rs vs fs) 4 ⟨.ret,[(2,.bool false)],vm rs vs fs,6⟩:=λB=>
   cg (id:=0) (cz (r:=⟨.ret,[(2,.bool false)],vm rs vs fs,6⟩) e (λi=>HL i) (λ_=>vm rs vs fs) (λi k _=>Iff.rfl) (λi hi=>by have hx:fs[i]?=some fs[i]:=bt o_;exact aHa o_ hx rK (jN (h3 i _ hi hx))) (aUD ao h1 (Ed h2)) n_)
  exact dF func22 aC 33 (λw=>[.code 0 _ _ _ _ _ (lo _)])
end
theorem aHb(l:c_)(p:HS K):bf l++(db p).cs=bf (l++[p]):=by unfold bf;rw[vA];show dB RP.cs _++_=dB RP.cs _;rw[Mg];simp[dB]
theorem aUF(p:HS K):(db p).cs=bf [p]:=by have:=aHb [] p;rwa[show bf ([]:c_)=[]from rfl,jJ,jJ]at this
section
noncomputable def J8(k:Nat)(p:HS K):aZ prog Bs 43:=
 .bs f16 37 k 1 73 40 [0] (RP.v ⟨ub,ua⟩) [dK p] (db p).cs.toArray (.row (db p).cs 73 40) rfl (λv hv=>by simp at hv;subst hv;rfl) (λv hv=>j6.flat _ v hv) k_ rfl d_ d_ k_
noncomputable def ND(k n:Nat)(l l':c_)(p:HS K)(hl:l.length=n)(hn:n<=6)(cD:l'=l++[p]):aZ prog Bs 43:=
 .qX f16 38 (k+2) (k-1) n 1 (n+1) 73 40 480 (bf l) (k+1) (.row (db p).cs 73 40) (bf l') rfl rfl rfl (by rw[E1,hl]) (by subst cD;exact aHb l p) (j6.one _) d_ (by simp[maxLen];omega) o_ k_
variable{n1 n2 n3 n4 n5 n6:V3 K}{q:K}
structure aUG(n1 n2 n3 n4 n5 n6:V3 K)(q:K):Prop where
 c1:aH prog 26 [.int .i64 1,.int .i64 0,.int .i64 0] (bE n1)
 c2:aH prog 26 [.int .i64 (-1),.int .i64 0,.int .i64 0] (bE n2)
 c3:aH prog 26 [.int .i64 0,.int .i64 1,.int .i64 0] (bE n3)
 c4:aH prog 26 [.int .i64 0,.int .i64 (-1),.int .i64 0] (bE n4)
 c5:aH prog 26 [.int .i64 0,.int .i64 0,.int .i64 1] (bE n5)
 c6:aH prog 26 [.int .i64 0,.int .i64 0,.int .i64 (-1)] (bE n6)
 d:aH prog 20 [.int .i64 1] (bH q)
def Dk(n1 n2 n3 n4 n5 n6:V3 K)(q:K):c_:=[⟨n1,q⟩,⟨n2,q⟩,⟨n3,q⟩,⟨n4,q⟩,⟨n5,q⟩,⟨n6,q⟩]
theorem aUH{n:Nat}{F:Fact}(h:aUG n1 n2 n3 n4 n5 n6 q)(hx:xs.all flat=true)(hl:xs.length=n*30)(xM:F.rc=false)(qD:C3 prog 46 [gm (Dk n1 n2 n3 n4 n5 n6 q)] 73 40 6 (bf (Dk n1 n2 n3 n4 n5 n6 q)) 33 30 n xs F [gT 0]):
  C3 prog 16 [.p (vI 1)] 73 40 6 (bf (Dk n1 n2 n3 n4 n5 n6 q)) 33 30 n xs F [gT 0]:=by
 refine WW (k1:=19) (k2:=20) (k3:=21) mixed func16 rfl 300 (N:=43) k_ (λw=>[
  h.c1.at 33,h.d.at 35,J8 2 ⟨n1,q⟩,.ap0 f16 38 3 1 73 40 480 2 (.row (db ⟨n1,q⟩).cs 73 40) (bf [⟨n1,q⟩]) rfl rfl (aUF _) d_ d_ d_ k_,
  h.c2.at 33,h.d.at 35,J8 5 ⟨n2,q⟩,ND 4 1 [⟨n1,q⟩] [⟨n1,q⟩,⟨n2,q⟩] ⟨n2,q⟩ rfl d_ rfl,
  h.c3.at 33,h.d.at 35,J8 8 ⟨n3,q⟩,ND 7 2 [⟨n1,q⟩,⟨n2,q⟩] [⟨n1,q⟩,⟨n2,q⟩,⟨n3,q⟩] ⟨n3,q⟩ rfl d_ rfl,
  h.c4.at 33,h.d.at 35,J8 11 ⟨n4,q⟩,ND 10 3 [⟨n1,q⟩,⟨n2,q⟩,⟨n3,q⟩] [⟨n1,q⟩,⟨n2,q⟩,⟨n3,q⟩,⟨n4,q⟩] ⟨n4,q⟩ rfl d_ rfl,
  h.c5.at 33,h.d.at 35,J8 14 ⟨n5,q⟩,ND 13 4 [⟨n1,q⟩,⟨n2,q⟩,⟨n3,q⟩,⟨n4,q⟩] [⟨n1,q⟩,⟨n2,q⟩,⟨n3,q⟩,⟨n4,q⟩,⟨n5,q⟩] ⟨n5,q⟩ rfl d_ rfl,
  h.c6.at 33,h.d.at 35,J8 17 ⟨n6,q⟩,ND 16 5 [⟨n1,q⟩,⟨n2,q⟩,⟨n3,q⟩,⟨n4,q⟩,⟨n5,q⟩] (Dk n1 n2 n3 n4 n5 n6 q) ⟨n6,q⟩ rfl d_ rfl,
  .step 40 (az f16 40) [.func (.func 46) #[] #[],sl 18 6] [(19,none),(20,none),(21,none),(18,some (.row (bf (Dk n1 n2 n3 n4 n5 n6 q)) 73 40))] (.tuple #[.agg #[sl 19 6,sl 20 n,cN 21],gT 0]) [(21,.fact (F.nE w.heap.size)),(20,.row xs 33 30),(19,.row (bf (Dk n1 n2 n3 n4 n5 n6 q)) 73 40)]
   (MA (B:=aa.at w) (S:=w.heap.size) qD (.w (x:=.row (bf (Dk n1 n2 n3 n4 n5 n6 q)) 73 40) rfl (dp _) jt .nil) (x:=.func 46) k_ k_ xM (dp _) hx rfl (λw' hb=>Below.size hb) 19)]) (λw=>?_) d_ (dp _) (E1 _) hx hl k_
 kernel_rfl
end
end
section
open CR OF
open V3 (dot ag aN smul)
section
variable{ps:c_}{vs:List RV}{fs:f_}{p:HS K}
theorem aHc(hc:Cl ps)(hp:fE ps)(hf:k6 ps):iC ps (bh ps):=⟨by unfold bh;exact Wo _,λ_=>aGT hc hp hf⟩
theorem aUI(hp:fE ps):Nw ps=true↔Cl ps/\k6 ps:=by
 unfold Nw;rw[dc,aGA,aTI];constructor
 ·rintro⟨h1,_,h3⟩
  exact⟨h1,_,h3⟩
 ·rintro⟨h1,h2⟩
  exact⟨h1,Qp h1 hp (λv=>aGT h1 hp h2) h2⟩
theorem aHd(hc:Cl ps)(hp:fE ps)(hf:k6 ps):∀ p∈ps,¬(bZ p (bh ps) (bh ps).length).length<3->J0 p (bh ps):=λp jr hl=>by obtain⟨h1,h2,h3⟩:=(aHc hc hp hf).loop (hp p jr) hl;exact⟨h1,h2,h3⟩
theorem aHe(hp:fE ps)(h:wC (fO ps)=false):k6 ps:=
 aM9 hp (λv hv=>(Sa.1 hv).1) (aGU.1 h)
theorem aUJ(hc:Cl ps)(hp:fE ps)(hf:k6 ps):wC (fO ps)=false:=
 aGU.2 (aDf hc hp (λv=>Sa) hf)
theorem aHf(hc:Cl ps)(hp:fE ps)(hf:k6 ps):zJ ps=lD ps:=by unfold zJ lD;rw[Fb hc hp hf]
theorem aUK(hp:fE ps)(h:J4 ps vs fs=true):Cl ps/\k6 ps/\vs=(bh ps).map cB/\fs=lD ps:=by unfold J4 at h;simp only[dc,zZ,uA]at h;obtain⟨_,_,h3,h4,h5,h6⟩:=h;have hc:=Yr.1 h3;have hf:=aHe hp h4;exact⟨hc,hf,by rw[Fb hc hp hf];exact h5,by rw[<-aHf hc hp hf];exact h6⟩
end
def qE:c_:=Dk ⟨kI 1,kI 0,kI 0⟩ ⟨kI (-1),kI 0,kI 0⟩ ⟨kI 0,kI 1,kI 0⟩ ⟨kI 0,kI (-1),kI 0⟩ ⟨kI 0,kI 0,kI 1⟩ ⟨kI 0,kI 0,kI (-1)⟩ (kI 1)
def Sk:HS K:=⟨⟨kI 1,kI 1,kI 1⟩,kI 2⟩
def Fe(a b c:Int):V3 K:=⟨kI a,kI b,kI c⟩
def aHg:e_:=[Fe (-1) (-1) (-1),Fe (-1) (-1) 1,Fe (-1) 1 (-1),Fe (-1) 1 1,Fe 1 (-1) (-1),Fe 1 (-1) 1,Fe 1 1 (-1),Fe 1 1 1]
theorem aUL:u4 qE=true:=by kernel_rfl
theorem aUM:fO qE=aHg:=by kernel_rfl
theorem YF{p:HS K}(h:p∈qE++[Sk]):∃ a b c d:Int,p=⟨⟨kI a,kI b,kI c⟩,kI d⟩/\(a.natAbs<=1/\b.natAbs<=1/\c.natAbs<=1)/\(0<d/\d<=2)/\(a≠0\/b≠0\/c≠0):=by
 simp only[qE,Dk,fh,cE,jR,jS]at h;rcases h with (rfl|rfl|rfl|rfl|rfl|rfl)|rfl
 ·exact⟨1,0,0,1,rfl,by decide,by decide,by decide⟩
 ·exact⟨-1,0,0,1,rfl,by decide,by decide,by decide⟩
 ·exact⟨0,1,0,1,rfl,by decide,by decide,by decide⟩
 ·exact⟨0,-1,0,1,rfl,by decide,by decide,by decide⟩
 ·exact⟨0,0,1,1,rfl,by decide,by decide,by decide⟩
 ·exact⟨0,0,-1,1,rfl,by decide,by decide,by decide⟩
 ·exact⟨1,1,1,2,rfl,by decide,by decide,by decide⟩
theorem aHh{p:HS K}(h:p∈qE++[Sk]):bP 2 p:=by obtain⟨a,b,c,d,rfl,⟨h1,h2,h3⟩,⟨h4,h5⟩,_⟩:=YF h;exact⟨⟨mh o_ d_,mh o_ d_,mh o_ d_⟩,mh o_ d_⟩
theorem YG{a b:Int}(h:kI a=kI b):a=b:=by
 have h1:((a:Rat))=(b:Rat):=cS (λx:K=>x.re.re) h
 exact_mod_cast h1
theorem YH{p:HS K}(h:p∈qE++[Sk]):p.n≠0:=by
 obtain⟨a,b,c,d,rfl,_,_,h6⟩:=YF h;intro e;have e1:kI a=kI 0:=cS V3.x e;have e2:kI b=kI 0:=cS V3.y e;have e3:kI c=kI 0:=cS V3.z e;rcases h6 with h|h|h
 ·exact h (YG e1)
 ·exact h (YG e2)
 ·exact h (YG e3)
theorem aUN{p:HS K}(h:p∈qE++[Sk]):dot p.n 0<p.d:=by
 obtain⟨a,b,c,d,rfl,_,⟨h4,h5⟩,_⟩:=YF h;rw[V3.xe];have hd:d=1\/d=2:=by omega
 rcases hd with rfl|rfl
 ·show OF.aE (kI 1-0)=1;kernel_rfl
 ·show OF.aE (kI 2-0)=1;kernel_rfl
theorem aHi:fE qE:=λ_ h=>YH (uh _ h)
theorem YI:k6 qE:=⟨0,λ_ h=>aUN (uh _ h)⟩
theorem YJ:Cl qE:=aGA.1 aUL
theorem aUO:sU qE 2 1000:=⟨by decide,λp h=>⟨aHh (uh _ h),YH (uh _ h)⟩,by decide,by decide⟩
theorem aUP{m M:Nat}(h:sU ps m M)(hc:Cl ps)(hp:fE ps)(hf:k6 ps):
  C3 prog 46 [gm ps] 73 40 ps.length (bf ps) 33 30 (bh ps).length (aP (bh ps)) (jC (lD ps)) [gT 0]:=by
 have eT:=aHd hc hp hf;rw[Fb hc hp hf]at eT;have:=aG6 h (Yr.2 hc) (aUJ hc hp hf) eT;rw[aHf hc hp hf]at this;rw[Fb hc hp hf];exact this
theorem aUQ:C3 prog 16 [.p (vI 1)] 73 40 6 (bf qE) 33 30 (bh qE).length (aP (bh qE)) (jC (lD qE)) [gT 0]:=by
 have qD:=aUP aUO YJ aHi YI
 exact aUH ⟨aXD d_ d_ d_,aXD d_ d_ d_,aXD d_ d_ d_,aXD d_ d_ d_,aXD d_ d_ d_,aXD d_ d_ d_,aXH d_⟩
  (dR _) (sH _) rfl qD
theorem aUR:bh qE=aHg:=(Fb YJ aHi YI).trans aUM
theorem NF{q:RI}(h:decide (tY q<=k)=true)(hk:k<=maxLen):q.Sm:=by have h:=jN h;unfold RI.Sm;unfold tY at h;exact dq h hk
theorem YK{r:RN}(h:tZ r k=true)(hk:k<=maxLen):r.Sm:=by unfold tZ at h;simp only[dc]at h;exact⟨NF h.1 hk,NF h.2.1 hk,NF h.2.2.1 hk,NF h.2.2.2.1 hk,NF h.2.2.2.2 hk⟩
theorem aUS{r:RV}(h:pR r k=true)(hk:k<=maxLen):r.Sm:=by unfold pR at h;simp only[dc]at h;exact⟨YK h.1 hk,YK h.2.1 hk,YK h.2.2 hk⟩
section
variable{ps:c_}{p:HS K}
def sA(n nv:Nat):Value:=.agg #[sl 0 n,sl 1 nv,cN 2]
end
theorem aUT{rs:List RP}(h:rs.all sL=true):rs=(rs.map pZ).map db/\∀ q∈rs.map pZ,q.n≠0:=by
 rw[bC]at h;constructor
 ·rw[Ub]
  conv=>lhs;rw[<-List.map_id rs]
  exact uD λr hr=>(aE9 (h r hr)).1
 ·intro q hq;obtain⟨r,hr,rfl⟩:=df.1 hq;exact(aE9 (h r hr)).2
theorem aUU(ps:c_):∀ f∈lD ps,0<f.2.length:=by
 intro f hf;unfold lD at hf;obtain⟨g,hg,rfl⟩:=df.1 hf;unfold da at hg;rw[xk]at hg;obtain⟨i,_,hg⟩:=hg;unfold gn at hg;split at hg
 ·unfold qB at hg;split at hg
  ·cases hg
  ·split at hg
   ·cases hg
   ·split at hg
    ·rename_i ao;simp at hg;subst hg;show 0<(List.map _ _).length;rw[eO];exact nq d_ ao
    ·cases hg
 ·cases hg
theorem cx.aUV{x1 x2:al}(h:cx P f (.s n1 x1 n2 x2 (jC fs)::l) res)(hl:∀ f∈fs,0<f.2.length):cx P f (.s n1 x1 n2 x2 (ji fs)::l) res:=
 cx.X7 h λ_ _ hG=>aSI hG hl
section
variable{rs:List RP}{vs:List RV}{fs:f_}
def Sl(rs:List RP)(vs:List RV)(fs:f_):q_:=[(0,some (.view (dx rs))),(1,some (.view (cW vs))),(2,some (.fact (ji fs)))]
theorem YL(h:gC Bs l xs []):gC Bs (.s rs.length (dx rs) vs.length (cW vs) (ji fs)::l) (sA rs.length vs.length::xs) (Sl rs vs fs):=
 .s (x1:=.view (dx rs)) (x2:=.view (cW vs)) rfl (jf j6 rs) YA rfl (jf gS _) BB h
end
end
section
variable{H:Type}{enc:TypeId×Value->H}{P:j_}{w:h_}{base:Nat}{spare:Nat->Bool}{held:Bool}{fuel:Nat}{t:TypeId}{cs:al}{x:DataW H×List MemPlace}
def J9(P:j_)(t:TypeId)(i:Nat):Option (TypeId×Nat):=match P.underlying t with
 |some (.struct fs)=>(fs[i]?).map λf=>(f.type,f.offset)
 |_=>none
def aHj(P:j_)(t:TypeId):Option (Nat×TypeId):=match P.underlying t with
 |some (.array n e)=>some (n,e)
 |_=>none
theorem NG{u o:Nat}(hf:J9 P t i=some (u,o))(h:DataW.trod enc P w base spare held fuel t cs=some x):cs.length=P.cellsOf t:=by
 unfold J9 at hf;split at hf
 ·rename_i fs ht;obtain⟨_,_,_,_,hl,_⟩:=aHk ht h;exact hl
 ·cases hf
theorem zL{u o:Nat}(hf:J9 P t i=some (u,o))(h:DataW.trod enc P w base spare held fuel t cs=some x):∃ n y,DataW.trod enc P w base spare held n u ((cs.drop o).take (P.cellsOf u))=some y:=by
 unfold J9 at hf;split at hf
 ·rename_i fs ht;obtain⟨xs,n,_,_,_,hlen,bo⟩:=aHk ht h;rw[Option.map_eq_some_iff]at hf;obtain⟨f,jO,he⟩:=hf;injection he with e1 e2;subst e1;subst e2;have:=bo i f jO;have hi:i<xs.length:=by rw[hlen];exact(Ac.1 jO).1
  rw[bt hi]at this;exact⟨n,_,this⟩
 ·cases hf
theorem aHl{u k:Nat}{d:DataW H}:∀{ts:List TypeId} {ds:List (DataW H)} {i:Nat},ts[i]?=some u->ds[i]?=some d->k∈d.weights P u->k∈DataW.weightsEach P ts ds
 |[],_,i,h,_,_=>by simp at h
 |_::_,[],i,_,h,_=>by simp at h
 |t::ts,e::ds,0,h1,h2,h3=>by simp at h1 h2;subst h1;subst h2;unfold DataW.weightsEach;exact uh _ h3
 |t::ts,e::ds,i+1,h1,h2,h3=>by unfold DataW.weightsEach;exact zG _ (aHl (by simpa using h1) (by simpa using h2) h3)
theorem YM{u o:Nat}(hf:J9 P t i=some (u,o))(h:DataW.trod enc P w base spare held fuel t cs=some x):∃ n y,DataW.trod enc P w base spare held n u ((cs.drop o).take (P.cellsOf u))=some y/\∀ k∈y.1.weights P u,k∈x.1.weights P t:=by
 unfold J9 at hf;split at hf
 ·rename_i fs ht;obtain⟨xs,n,_,hx,_,hlen,bo⟩:=aHk ht h;rw[Option.map_eq_some_iff]at hf;obtain⟨f,jO,he⟩:=hf;injection he with e1 e2;subst e1;subst e2;have:=bo i f jO;have hi:i<xs.length:=by rw[hlen];exact(Ac.1 jO).1
  have hxi:=bt hi;rw[hxi]at this;refine⟨n,_,this,λk hk=>?_⟩;rw[hx];show k∈(DataW.agg (xs.map (·.1))).weights P t;unfold DataW.weights;rw[ht];refine aHl (i:=i) (u:=f.type) (d:=xs[i].1) ?_ ?_ hk
  ·rw[wJ,show fs.toList[i]?=some f by rw[Array.getElem?_toList];exact jO];rfl
  ·rw[wJ,hxi];rfl
 ·cases hf
theorem aUW{e:TypeId}{a:Addr}(ht:P.underlying t=some (.slice e))(hb:0<P.bytesOf e)(h:DataW.trod enc P w base spare held fuel t [.slice (some a) len cap]=some x)(hw:∀ k∈x.1.weights P t,k<=reachBytes):len<=reachBytes:=by
 rcases DataW.trod_slice ht h with ⟨h1,_⟩|⟨a',mO,aT,elems,rest,n,_,h1,hx,_,_,_,hlen,_⟩
 ·cases h1
 ·injection h1 with h1;injection h1 with _ e2 _;subst e2;have:=hw ((elems.length+rest.length)*P.bytesOf e) (by rw[hx];show _∈(DataW.slice (elems.map (·.1)) (rest.map (·.1))).weights P t;unfold DataW.weights;rw[ht];simp)
  have h2:elems.length+rest.length<=(elems.length+rest.length)*P.bytesOf e:=F5 _ hb;omega
theorem aUX{n:Nat}(he:aHj P t=some (n,e))(h:DataW.trod enc P w base spare held fuel t cs=some x):cs.length=P.cellsOf t/\∀ i,i<n->∃ m y,DataW.trod enc P w base spare held m e ((cs.drop (i*P.cellsOf e)).take (P.cellsOf e))=some y:=by
 unfold aHj at he;split at he
 ·rename_i n' e' ht;injection he with he;injection he with e1 e2;subst e1;subst e2;obtain⟨xs,m,_,_,hl,hlen,bo⟩:=DataW.trod_array ht h;refine⟨hl,λi hi=>?_⟩;have:=bo i hi;rw[bt o_]at this;exact⟨m,_,this⟩
 ·cases he
theorem aHm{α:Type}{p:Nat->α->Prop}:∀ n,(∀ i,i<n->∃ r,p i r)->∃ rs:List α,rs.length=n/\∀ i r,rs[i]?=some r->p i r
 |0,_=>⟨[],rfl,λi r h=>by simp at h⟩
 |n+1,h=>by
  obtain⟨rs,h1,h2⟩:=aHm n λi hi=>h i o_;obtain⟨r,hr⟩:=h n o_;refine⟨rs++[r],by rw[lH,h1];rfl,λi r' hi=>?_⟩;rcases fo i rs.length with ao|gw
  ·rw[Kv ao]at hi;exact h2 i r' hi
  ·rw[FD gw]at hi;have hi0:i-rs.length=0:=by have:=(eP.1 hi).1;simp at this;omega
   rw[hi0]at hi;simp at hi;subst hi;have:i=n:=by omega
   subst this;exact hr
theorem aHn{f:α->al}{s:Nat}(hE:∀ x,(f x).length=s)(rl:0<s){e:TypeId}(ht:P.underlying t=some (.slice e))(hs:P.cellsOf e=s)(YN:∀ n cs y,DataW.trod enc P w 0 (λ_=>true) true n e cs=some y->∃ r,cs=f r)
  {v:i_} (h:DataW.trod enc P w 0 (λ_=>true) true fuel t [v]=some x) :
  v=.slice none 0 0\/∃ a len cap,∃ rs:List α,v=.slice (some a) len cap/\len<=cap/\cap<=maxLen/\rs.length=len/\(∀ i r j u,rs[i]?=some r->(f r)[j]?=some u->w.cell? ((a.add (i*s)).add j)=some u)/\(0<cap->∃ u,w.cell? (a.add 0)=some u):=by
 rcases DataW.trod_slice ht h with ⟨h1,_⟩|⟨a,len,cap,elems,rest,n,_,h1,_,hb,hl,hc,hlen,tK,wm,_⟩
 ·injection h1 with h1;exact .inl h1
 ·injection h1 with h1;subst h1;refine .inr ⟨a,len,cap,?_⟩;have key:∀ i,i<len->∃ r:α,∀ j u,(f r)[j]?=some u->w.cell? ((a.add (i*s)).add j)=some u:=by intro i hi;have:=tK i hi;rw[bt o_,aHo]at this;obtain⟨ct,h2,h3⟩:=this;obtain⟨r,rfl⟩:=YN _ _ _ h3;refine⟨r,λj u hj=>?_⟩;rw[hs]at h2;obtain⟨_,jG,bo⟩:=World.cells?_some h2;have E8:=(eP.1 hj).1;rw[bo j o_];exact hj
  obtain⟨rs,q1,q2⟩:=aHm len key;refine⟨rs,rfl,hl,hc,q1,λi r j u hi hj=>q2 i r hi j u hj,λvM=>?_⟩;have any:∃ ct,w.cells? 0 (a.add (0*s)) s=some ct:=by
   rcases ow len with h0|h0
   ·obtain⟨E3,hr⟩:=wm rfl;have:=hr 0 o_;rw[bt o_,aHo]at this;obtain⟨ct,h2,_⟩:=this;rw[h0,hs]at h2;exact⟨ct,h2⟩
   ·have:=tK 0 h0;rw[bt o_,aHo]at this;obtain⟨ct,h2,_⟩:=this;rw[hs]at h2;exact⟨ct,h2⟩
  obtain⟨ct,h2⟩:=any;obtain⟨_,jG,bo⟩:=World.cells?_some h2;have:=bo 0 rl;rw[bt (by rw[jG];exact rl),l9]at this;exact⟨_,this⟩
theorem aHp{α:Type}{f:α->al}{s:Nat}(hE:∀ x,(f x).length=s):∀{l:List α} {k:Nat} {u:i_},(dB f l)[k]?=some u->∃ i r j,l[i]?=some r/\(f r)[j]?=some u/\k=i*s+j
 |[],k,u,h=>by simp[dB]at h
 |x::l,k,u,h=>by
  rw[show dB f (x::l)=f x++dB f l from rfl]at h;rcases fo k (f x).length with ao|gw
  ·rw[Kv ao]at h;exact⟨0,x,k,rfl,h,by rw[l9,kT]⟩
  ·rw[FD gw]at h;obtain⟨i,r,j,h1,h2,h3⟩:=aHp hE h;refine⟨i+1,r,j,by simpa using h1,h2,?_⟩;rw[hE]at h3 gw;rw[uI];omega
theorem aUY(b o i j:Nat):((⟨b,o,none⟩:Addr).add i).add j=⟨b,o+(i+j),none⟩:=by unfold Addr.add;by_cases hi:i=0<;>by_cases hj:j=0<;>simp[hi,hj,vz]
def isAgg(P:j_)(T:TypeId):Bool:=match P.underlying T with|some (.struct _)=>true|some (.array _ _)=>true|_=>false
theorem aHq{T:TypeId}{v:i_}{r:Reach}(hs:isAgg P T=true)(hv:Value.okWide P w r base T v):∃ cs,v=.agg cs/\cs.size=P.cellsOf T/\Row.okWide P w r base T cs:=by
 unfold Value.okWide at hv;unfold isAgg at hs;split at hs
 ·rename_i e;rw[e]at hv;exact hv
 ·rename_i e;rw[e]at hv;exact hv
 ·cases hs
theorem aUZ{T e:TypeId}{a:Addr}{r:Reach}(ht:P.underlying T=some (.slice e))(h:Cell.okWide P w r base T (.slice (some a) len cap)):a.spot=none/\a.block<w.heap.size:=by
 unfold Cell.okWide at h;rw[ht]at h;have h:Cell.ok P w r base T (.slice (some a) len cap):=h;unfold Cell.ok at h;rw[ht]at h;obtain⟨_,_,_,h1,row,cells,h2,_⟩:=h;refine⟨h1,?_⟩;unfold World.shape? at h2;split at h2
 ·rename_i c t f he;exact(Ac.1 he).1
 ·cases h2
theorem aHr{f:α->al}{s:Nat}(hE:∀ x,(f x).length=s){o:Nat}{rs:List α}(hl:len<=cap)(hb:b<w.heap.size)(hlen:rs.length=len)(h:∀ i r j u,rs[i]?=some r->(f r)[j]?=some u->w.cell? (((⟨b,o,none⟩:Addr).add (i*s)).add j)=some u):
  dr w (.slice (some ⟨b,o,none⟩) len cap) rs.length (dB f rs):=by
 refine .inr ⟨b,o,cap,by rw[hlen],by omega,hb,λk u hk=>?_⟩;obtain⟨i,r,j,h1,h2,rfl⟩:=aHp hE hk;have:=h i r j u h1 h2;rwa[aUY]at this
end
section
variable{H:Type}{enc:TypeId×Value->H}{w:h_}{base:Nat}{spare:Nat->Bool}{held:Bool}{fuel:Nat}{cs:al}{x:DataW H×List MemPlace}
theorem aHs{cs:al}(h:cs.length=2):∃ a b,cs=[a,b]:=by
 match cs,h with
 |[a,b],_=>exact⟨a,b,rfl⟩
theorem aU0(h:DataW.trod enc prog w base spare held fuel 4 cs=some x):∃ b,cs=[.bool b]:=by obtain⟨b,h1,_⟩:=DataW.trod_bool (P:=prog) k_ h;exact⟨b,h1⟩
theorem aU1(h:DataW.trod enc prog w base spare held fuel 9 cs=some x):∃ l:List UInt8,cs=[.string (BA l)]:=by obtain⟨s,h1,_⟩:=DataW.trod_string (P:=prog) k_ h;exact⟨s.data.toList,by rw[h1];rfl⟩
theorem aHt(h:DataW.trod enc prog w base spare held fuel 3 cs=some x):∃ z,cs=[iV z]:=by obtain⟨z,h1,_⟩:=DataW.trod_int (P:=prog) (k:=.i64) k_ h;exact⟨z,h1⟩
theorem NH(h:DataW.trod enc prog w base spare held fuel 28 cs=some x):∃ q:RI,cs=q.cs:=by have hl:=NG (P:=prog) (i:=0) (u:=4) (o:=0) k_ h;rw[show prog.cellsOf 28=2 from k_]at hl;obtain⟨_,_,h0⟩:=zL (P:=prog) (i:=0) (u:=4) (o:=0) k_ h;obtain⟨_,_,h1⟩:=zL (P:=prog) (i:=1) (u:=9) (o:=1) k_ h;rw[show prog.cellsOf 4=1 from k_]at h0;rw[show prog.cellsOf 9=1 from k_]at h1;obtain⟨a,b,rfl⟩:=aHs hl;obtain⟨b0,e0⟩:=aU0 h0;obtain⟨l,e1⟩:=aU1 h1;simp at e0 e1;subst e0;subst e1;exact⟨⟨b0,l⟩,rfl⟩
theorem aU2(h:DataW.trod enc prog w base spare held fuel 29 cs=some x):∃ a b c e:RI,cs=a.cs++(b.cs++(c.cs++e.cs)):=by
 obtain⟨hl,bo⟩:=aUX (P:=prog) (n:=4) (e:=28) k_ h;rw[show prog.cellsOf 29=8 from k_]at hl;rw[show prog.cellsOf 28=2 from k_]at bo;obtain⟨_,_,h0⟩:=bo 0 d_;obtain⟨_,_,h1⟩:=bo 1 d_;obtain⟨_,_,h2⟩:=bo 2 d_;obtain⟨_,_,h3⟩:=bo 3 d_;obtain⟨a,e0⟩:=NH h0;obtain⟨b,e1⟩:=NH h1;obtain⟨c,e2⟩:=NH h2;obtain⟨e,e3⟩:=NH h3;refine⟨a,b,c,e,?_⟩;rw[<-e0,<-e1,<-e2,<-e3]
 match cs,hl with
 |[_,_,_,_,_,_,_,_],_=>rfl
theorem Sn(h:DataW.trod enc prog w base spare held fuel 31 cs=some x):∃ r:RN,cs=r.cs:=by
 have hl:=NG (P:=prog) (i:=0) (u:=29) (o:=0) k_ h;rw[show prog.cellsOf 31=10 from k_]at hl;obtain⟨_,_,h0⟩:=zL (P:=prog) (i:=0) (u:=29) (o:=0) k_ h;obtain⟨_,_,h1⟩:=zL (P:=prog) (i:=1) (u:=28) (o:=8) k_ h;rw[show prog.cellsOf 29=8 from k_]at h0;rw[show prog.cellsOf 28=2 from k_]at h1;obtain⟨a,b,c,e,e0⟩:=aU2 h0;obtain⟨d,e1⟩:=NH h1;have:cs=(cs.drop 0).take 8++(cs.drop 8).take 2:=by
  match cs,hl with
  |[_,_,_,_,_,_,_,_,_,_],_=>rfl
 refine⟨⟨a,b,c,e,d⟩,?_⟩;rw[this,e0,e1];rfl
theorem YO(h:DataW.trod enc prog w base spare held fuel 33 cs=some x):∃ r:RV,cs=r.cs:=by
 have hl:=NG (P:=prog) (i:=0) (u:=31) (o:=0) k_ h;rw[show prog.cellsOf 33=30 from k_]at hl;obtain⟨_,_,h0⟩:=zL (P:=prog) (i:=0) (u:=31) (o:=0) k_ h;obtain⟨_,_,h1⟩:=zL (P:=prog) (i:=1) (u:=31) (o:=10) k_ h;obtain⟨_,_,h2⟩:=zL (P:=prog) (i:=2) (u:=31) (o:=20) k_ h;rw[show prog.cellsOf 31=10 from k_]at h0 h1 h2;obtain⟨a,e0⟩:=Sn h0;obtain⟨b,e1⟩:=Sn h1;obtain⟨c,e2⟩:=Sn h2;have:cs=(cs.drop 0).take 10++((cs.drop 10).take 10++(cs.drop 20).take 10):=by
  have t2:(cs.drop 20).take 10=cs.drop 20:=lh (by rw[wI];omega);have t1:(cs.drop 10).take 10++cs.drop 20=cs.drop 10:=by have:=My 10 (cs.drop 10);rwa[OO]at this
  rw[t2,t1,nk,My]
 refine⟨⟨a,b,c⟩,?_⟩;rw[this,e0,e1,e2];rfl
theorem aU3(h:DataW.trod enc prog w base spare held fuel 73 cs=some x):∃ r:RP,cs=r.cs:=by
 have hl:=NG (P:=prog) (i:=0) (u:=33) (o:=0) k_ h;rw[show prog.cellsOf 73=40 from k_]at hl;obtain⟨_,_,h0⟩:=zL (P:=prog) (i:=0) (u:=33) (o:=0) k_ h;obtain⟨_,_,h1⟩:=zL (P:=prog) (i:=1) (u:=31) (o:=30) k_ h;rw[show prog.cellsOf 33=30 from k_]at h0;rw[show prog.cellsOf 31=10 from k_]at h1;obtain⟨a,e0⟩:=YO h0;obtain⟨b,e1⟩:=Sn h1;have:cs=(cs.drop 0).take 30++(cs.drop 30).take 10:=by have t2:(cs.drop 30).take 10=cs.drop 30:=lh (by rw[wI];omega);rw[t2,nk,My]
 refine⟨⟨a,b⟩,?_⟩;rw[this,e0,e1];rfl
def Sp(z:Int):al:=[iV z]
theorem aU4(l:List Int):dB Sp l=fY l:=by
 induction l with
 |nil=>rfl
 |cons z l ih=>show[iV z]++dB Sp l=_;rw[ih];rfl
theorem aU5{w:h_}{a:Addr}(h:w.cell? a=some u):a.spot=none/\a.block<w.heap.size:=by
 unfold World.cell? at h;split at h
 ·rename_i c t f he;refine⟨?_,(Ac.1 he).1⟩;cases hs:a.spot with
  |none=>rfl
  |some s=>rw[hs]at h;simp at h
 ·cases h
theorem aU6{v:i_}(h:DataW.trod enc prog w 0 (λ_=>true) true fuel 84 [v]=some x):∃ l:List Int,oJ w v l.length (fY l):=by
 rcases aHn (P:=prog) (f:=Sp) (s:=1) (λ_=>rfl) d_ (e:=3) k_ k_ (λn cs y hy=>aHt hy) h with h1|⟨a,len,cap,rs,h1,hl,hc,hlen,lW,Cj⟩
 ·exact⟨[],.inl (.inl ⟨h1,rfl,rfl⟩)⟩
 ·refine⟨rs,?_⟩;subst h1;rcases ow cap with h0|h0
  ·refine .inr ⟨by omega,a,?_⟩;rw[show len=0 by omega,h0]
  ·obtain⟨u,hu⟩:=Cj h0;have e0:a.add 0=a:=rfl;rw[e0]at hu;obtain⟨hs,hb⟩:=aU5 hu;obtain⟨b,o,sp⟩:=a;dsimp only at hs hb;subst hs;have:=aHr (f:=Sp) (s:=1) (λ_=>rfl) hl hb hlen lW;rw[aU4]at this;exact .inl this
def YP(w:h_):Type:={ r:(Int×List Int)×Value // oJ w r.2 r.1.2.length (fY r.1.2)}
def NI{w:h_}(r:YP w):al:=[iV r.1.1.1,r.1.2]
theorem aU7{n:Nat}{cs:al}{y:DataW H×List MemPlace}(h:DataW.trod enc prog w 0 (λ_=>true) true n 86 cs=some y):∃ r:YP w,cs=NI r:=by have hl:=NG (P:=prog) (i:=0) (u:=3) (o:=0) k_ h;rw[show prog.cellsOf 86=2 from k_]at hl;obtain⟨_,_,h0⟩:=zL (P:=prog) (i:=0) (u:=3) (o:=0) k_ h;obtain⟨_,_,h1⟩:=zL (P:=prog) (i:=1) (u:=84) (o:=1) k_ h;rw[show prog.cellsOf 3=1 from k_]at h0;rw[show prog.cellsOf 84=1 from k_]at h1;obtain⟨a,b,rfl⟩:=aHs hl;obtain⟨z,e0⟩:=aHt h0;obtain⟨l,hw⟩:=aU6 h1;simp at e0;subst e0;exact⟨⟨((z,l),b),hw⟩,rfl⟩
theorem aHu{w:h_}:∀ rs:List (YP w),sR w (rs.map λr=>r.1.1) (dB NI rs)
 |[]=>.nil
 |r::rs=>by show sR w (r.1.1::rs.map λr=>r.1.1) (NI r++dB NI rs);obtain⟨⟨⟨z,l⟩,u⟩,hw⟩:=r;exact .cons hw (aHu rs)
set_option maxRecDepth 100000 in
theorem YQ{f:α->al}{s:Nat}(hE:∀ x,(f x).length=s)(rl:0<s){T e:TypeId}(ht:prog.underlying T=some (.slice e))(hs:prog.cellsOf e=s)(hb:0<prog.bytesOf e)(YN:∀ n cs (y:DataW H×List MemPlace),DataW.trod enc prog w 0 (λ_=>true) true n e cs=some y->∃ r,cs=f r)
  {v:i_} {r:Reach} (aC:Cell.okWide prog w r base T v) (h:DataW.trod enc prog w 0 (λ_=>true) true fuel T [v]=some x) (hw:∀ k∈x.1.weights prog T,k<=reachBytes):∃ rs:List α,dr w v rs.length (dB f rs)/\rs.length<=reachBytes:=by
 rcases aHn hE rl ht hs YN h with h1|⟨a,len,cap,rs,h1,hl,hc,hlen,lW,_⟩
 ·exact⟨[],.inl ⟨h1,rfl,rfl⟩,lY _⟩
 ·subst h1;obtain⟨q1,q2⟩:=aUZ ht aC;have Qj:=aUW ht hb h hw;obtain⟨b,o,sp⟩:=a;dsimp only at q1 q2;subst q1;exact⟨rs,aHr hE hl q2 hlen lW,by omega⟩
set_option maxRecDepth 100000 in
theorem aU8{v:i_}{d:DataW H}{p:List MemPlace}(hv:Value.okWide prog w .any base 26 v)(h:DataW.Trod enc prog w 0 (λ_=>true) true 26 v d p)(hw:∀ k∈d.weights prog 26,k<=reachBytes):
  ∃ rs vs fs,(gh rs vs fs).In w v/\rs.length<=reachBytes/\vs.length<=reachBytes/\fs.length<=reachBytes:=by
 obtain⟨fuel,h⟩:=h;obtain⟨cs,rfl,bL,jW⟩:=aHq k_ hv;rw[show prog.cellsOf 26=3 from k_]at bL;obtain⟨c0,c1,c2,rfl⟩:∃ a b c,cs=#[a,b,c]:=by
  obtain⟨l⟩:=cs
  match l,bL with
  |[a,b,c],_=>exact⟨a,b,c,rfl⟩
 obtain⟨ts,hts,_,jI⟩:=jW;have Sq:prog.cellTypes prog.depth 26=some [22,23,24]:=k_;rw[hts]at Sq;injection Sq with Sq;subst Sq;have k0:Cell.okWide prog w .any base 22 c0:=by obtain⟨u,hu,aC⟩:=jI 0 c0 rfl;simp at hu;subst hu;exact aC
 have k1:Cell.okWide prog w .any base 23 c1:=by obtain⟨u,hu,aC⟩:=jI 1 c1 rfl;simp at hu;subst hu;exact aC
 have k2:Cell.okWide prog w .any base 24 c2:=by obtain⟨u,hu,aC⟩:=jI 2 c2 rfl;simp at hu;subst hu;exact aC
 have h:DataW.trod enc prog w 0 (λ_=>true) true fuel 26 [c0,c1,c2]=some (d,p):=h;obtain⟨_,_,h0,w0⟩:=YM (P:=prog) (i:=0) (u:=22) (o:=0) k_ h;obtain⟨_,_,h1,w1⟩:=YM (P:=prog) (i:=1) (u:=23) (o:=1) k_ h;obtain⟨_,_,h2,w2⟩:=YM (P:=prog) (i:=2) (u:=24) (o:=2) k_ h;rw[show prog.cellsOf 22=1 from k_]at h0;rw[show prog.cellsOf 23=1 from k_]at h1;rw[show prog.cellsOf 24=1 from k_]at h2;obtain⟨rs,q0,l0⟩:=YQ (f:=RP.cs) (s:=40) j6.len d_ (e:=73) k_ k_ (jN k_) (λn cs y hy=>aU3 hy) k0 h0 (λk hk=>hw k (w0 k hk));obtain⟨vs,q1,l1⟩:=YQ (f:=RV.cs) (s:=30) gS.len d_ (e:=33) k_ k_ (jN k_) (λn cs y hy=>YO hy) k1 h1 (λk hk=>hw k (w1 k hk));obtain⟨fs,q2,l2⟩:=YQ (f:=NI (w:=w)) (s:=2) (λ_=>rfl) d_ (e:=86) k_ k_ (jN k_) (λn cs y hy=>aU7 hy) k2 h2 (λk hk=>hw k (w2 k hk));refine⟨rs,vs,fs.map λr=>r.1.1,⟨c0,c1,c2,rfl,q0,q1,⟨_,by rw[eO];exact q2,aHu fs⟩,?_⟩,l0,l1,by rw[eO];exact l2⟩;rcases q2 with ⟨e,_⟩|⟨_,_,_,e,_⟩<;>rw[e]<;>exact⟨rfl,rfl⟩
end
section
variable{H:Type}{enc:TypeId×Value->H}{w:h_}{base:Nat}
set_option maxRecDepth 100000 in
theorem aU9{v:i_}{d:DataW H}{p:List MemPlace}(hv:Value.okWide prog w .any base 33 v)(h:DataW.Trod enc prog w 0 (λ_=>true) true 33 v d p):∃ r:RV,v=r.v:=by obtain⟨cs,rfl,_,_⟩:=aHq k_ hv;obtain⟨fuel,h⟩:=h;obtain⟨r,hr⟩:=YO (cs:=cs.toList) h;refine⟨r,?_⟩;show Value.agg cs=.agg r.cs.toArray;rw[<-hr]
end
theorem aHv{ns:l_}:∀{Os cA:aL},cA.map (·.1)=Os.map (·.1)++ns->∀ k,ak cA k=none↔(ak Os k=none/\ns.contains k=false):=by
 have look:∀(l:aL) (k:Nat),ak l k=none↔(l.map (·.1)).contains k=false:=by
  intro l k;induction l with
  |nil=>exact⟨λ_=>rfl,λ_=>rfl⟩
  |cons p l ih=>
   obtain⟨a,x⟩:=p;rw[show ak ((a,x)::l) k=if Nat.beq a k=true then some x else ak l k from rfl,mL,List.contains_cons];by_cases h:Nat.beq a k=true
   ·rw[aA h];have:=lI h;subst this;simp
   ·rw[au h,ih];have:(k==a)=false:=by
     cases e:k==a with
     |false=>rfl
     |true=>have:=eq_of_beq e;subst this;exact absurd (H5 k) h
    rw[this,Ao]
 intro Os cA h k;rw[look,look,h,List.contains_append,N5]
section
variable{P:j_}{B:aa}{N:Nat}
theorem aVa(ho:xY P o=some 1){m:Nat}{l:List Int}(hi:l[i]?=some z):
  cI P B o [.pointer (some ⟨m,0,some 9⟩),vI i] [(k,none),(m,some (.fact (e9 l)))] (.pointer (some ⟨k,0,some 7⟩)) [(k,.view [iV z])]:=by
 unfold xY at ho;split at ho
 ·rename_i t x y ck;split at ho
  ·rename_i e ht;split at ho
   ·rename_i inf BR;injection ho with ho;refine iY.step λι c ρ w aW hm pr=>?_;rw[ck]at aW;obtain⟨v,v2,hu,hc,du⟩:=jH aW;have dO:ρ x=v:=by simp[Op.operands]at hu;exact hu.1
    have eM:ρ y=v2:=by simp[Op.operands]at hu;exact hu.2
    have du:=du.fH rfl;have Hx:c m=some (.fact (e9 l)):=pr (m,some (.fact (e9 l))) s_;have k0:c k=none:=pr (k,none) s_;have Hw:=AN hm Hx hc;have loc:ι m=some (.val v):=by
     obtain⟨lc,q1,u,q2,q3⟩:=hm.born m _ Hx;subst q2;generalize hp:Value.pointer (some ⟨m,0,some 9⟩)=p at hc;cases hc with
     |same h=>subst hp;cases h
     |ptr h=>injection hp with hp;injection hp with hp;injection hp with _ _ hp;cases hp
     |slc h=>cases hp
     |slcN h=>cases hp
     |opq h4 h5 h6=>injection hp with hp;injection hp with hp;injection hp with jk;subst jk;exact h4
     |fn=>cases hp
     |agg=>cases hp
     |tup=>cases hp
    have ao:=(eP.1 hi).1;have hw:oJ w v l.length (fY l):=Hw.1;have lW:(fY l)[i]?=some (iV z):=by unfold fY;rw[wJ,hi];rfl
    rcases hw.row o_ with ⟨_,q2,_⟩|⟨b,o',c',q1,q2,q3,q4⟩
    ·omega
    have hF:(e9 l).cY v w b:=⟨by omega,by rw[q1];rfl⟩;have m2:aO B (dT ι k (.at b (o'+i*1) 0)) (bA c k (.view [iV z])) w:=
     hm.add k0 (.inr ⟨b,o'+i*1,0,[iV z],rfl,.cons (.same rfl) .nil,λj x hj=>by
      cases j with
      |zero=>simp at hj;subst hj;have:=q4 _ _ lW;simpa using this
      |succ j=>simp at hj⟩) n_ n_ (λb1 o1 mG _ e=>by
      injection e with e1 e2 e3;subst e1;exact⟨q3,λj y o2 qK hj hy he=>hm.apart j m y _ b o2 qK v hj hy he Hx loc hF⟩)
    refine⟨_,.pointer (some ⟨b,o'+i*1,none⟩),w,hZ (hm.dD k k0),?_,m2,.inl ?_⟩
    ·have:=aM.ptr (off:=0) (gu ι k (.at b (o'+i*1) 0));rwa[jv]at this
    ·subst q1;simp only[execOp,ck,dO,eM,du];have h0:(0:Int)<=(i:Int):=by omega
     simp[Instr.indexAt,asIntOf,jX ht,sizeOf,typeInfo,BR,h0,zW,vI,ho];intro gw;omega
   ·cases ho
  ·cases ho
 ·cases ho
end
section
open V3 (dot ag aN smul)
section
variable{Bs:aa}{vs:e_}{L:l_}
def kD(L:l_):List Int:=L.map λx:Nat=>(x:Int)
def kR(vs:e_)(L:l_):e_:=L.map (af vs)
def Sr(n j:Nat):aU:=[(11,vI j),(9,cN 3),(10,vI n),(2,aV 4),(5,sl 6 j)]
def Ff(np:Nat)(vs:e_)(L:l_):aL:=[(1,.view (aP vs)),(3,.fact (e9 (kD L))),(4,.aI [sl 0 np,sl 1 vs.length,cN 2] 26)]
theorem aVb:∀ x∈Ff np vs L,fR 6 x.2:=λx hx=>by
 simp only[Ff,cE,jR,jS]at hx;rcases hx with rfl|rfl|rfl
 ·exact λv hv=>gP (bC.1 (dR vs) v hv)
 ·exact n_
 ·intro v hv;have hv:v∈[sl 0 np,sl 1 vs.length,cN 2]:=hv;simp at hv;rcases hv with rfl|rfl|rfl<;>rfl
theorem aVc{z:Nat}{v:V3 K}(hj:j<(kD L).length)(hz:(kD L)[j]?=some (z:Int))(hv:vs[z]?=some v)(hl:acc.length=j)(h63:(kD L).length<1000000):
  ah prog Bs 25 (aK (ai f69 0)) (Sr (kD L).length j) (Ff np vs L++marks 6 (nV acc)) 7 ⟨.normal,ij 6 [some 9] (Sr (kD L).length (j+1)),Ff np vs L++eg [some 9] (nV (acc++[v])),10⟩:=by
 have ao:=(eP.1 hv).1;have hc:(aP acc).length=j*30:=by rw[sH,hl]
 exact aG [.lt 12 j (kD L).length true (aJ hj),.step 13 (az f69 13) [cN 3,vI j] [(7,none),(3,some (.fact (e9 (kD L))))] (aV 7) [(7,.view [iV z])] (aVa k_ hz),.di f69 19 1 vs.length z 30 ao k_,.ld f69 20 33 1 (z*30) (.view (aP vs)) (bE v) rfl (lv hv) k_,.bs f69 21 8 1 33 30 [0] (RV.v ub) [bE v] (cB v).cs.toArray (.row (cB v).cs 33 30) rfl (λv hv=>by simp at hv;subst hv;rfl) (λv hv=>gS.flat _ v hv) k_ rfl d_ d_ k_,.qX f69 22 9 6 j 1 (j+1) 33 30 360 (aP acc) 8 (.row (cB v).cs 33 30) (aP (acc++[v])) rfl rfl rfl hc (by rw[<-QN];congr 1) (gS.one _) d_ (by simp[maxLen];omega) o_ k_,.sum 23 j 1 (j+1) rfl o_]
theorem aVd(hL:∀ x∈L,x<vs.length)(h63:L.length<1000000):
  ah prog Bs 25 (.block 0 (ai f69 0)) (ij 6 [none] (Sr (kD L).length 0)) (Ff np vs L++eg [none] (nV [])) 6 ⟨.normal,[(5,sl 6 (kD L).length)],Ff np vs L++marks 6 (nV (kR vs L)),7⟩:=by
 have hlen:(kD L).length=L.length:=eO ..
 have:=rX (P:=prog) (B:=Bs) (N:=25) (b:=aK (ai f69 0)) (next:=6) (p:=1) (r:=⟨.exit 0,[(5,sl 6 (kD L).length)],Ff np vs L++marks 6 (nV (kR vs L)),7⟩) (kD L).length
  (λj=>Sr (kD L).length j) (λ_=>Ff np vs L) (λj=>nV (kR vs (L.take j))) [none] (λ_ _=>rfl) (λj _=>⟨aVb,WL⟩) k_ k_
  (λj hj=>by
   have gU:j<L.length:=by omega
   have hq:L[j]?=some L[j]:=bt gU;have hz:(kD L)[j]?=some ((L[j]:Nat):Int):=by unfold kD;rw[wJ,hq];rfl
   have e:kR vs (L.take (j+1))=kR vs (L.take j)++[af vs L[j]]:=by unfold kR;rw[uZ,hq,vA];rfl
   rw[e];exact⟨[some 9],10,k_,aVc (Bs:=Bs) hj hz (j8 (hL _ (dy gU))) (by unfold kR;rw[eO,jV];omega) o_⟩)
  (by rw[show L.take (kD L).length=L from lh o_];generalize kR vs L=a;exact aG [.lt 12 (kD L).length (kD L).length false s_]) n_
 exact cg (id:=0) this
theorem aVe{F:Fact}{i:Int}(hu:u=iV i)(hL:∀ x∈L,x<vs.length)(h63:L.length<1000000)(iS:xp.all flat=true)(hF:F.rc=false):
  mz prog 69 [.s np xp vs.length (aP vs) F,.c u (e9 (kD L))] 33 30 (kD L).length (aP (kR vs L)):=by
 subst hu;have aC:([aQ.s np xp vs.length (aP vs) F,.c (iV i) (e9 (kD L))].all aQ.ok)=true:=by
  have e:(aQ.s np xp vs.length (aP vs) F).ok=true:=by show(xp.all flat&&((aP vs).all flat&&!F.rc))=true;rw[iS,dR,hF];rfl
  simp only[eA,e8,e,kp,iz];rfl
 have lo:=λBs=>aVd (Bs:=Bs) (np:=np) hL h63;have hlen:(aP (kR vs L)).length=(kD L).length*30:=by rw[sH];unfold kR kD;rw[eO,eO]
 generalize kR vs L=a at *;exact yK (k:=6) mixed func69 aC 100 (N:=25) k_ (λ_=>[.step 10 (az f69 10) [cN 3] [(3,some (.fact (e9 (kD L))))] (vI (kD L).length) [] (xB k_),.code 0 _ _ _ _ _ (lo _)]) (λ_=>k_) (dR a) hlen
end
theorem MW{u v t:V3 K}{m n q:Nat}(hu:aD m u)(hv:aD n v)(ht:aD q t)(cQ:3*m+6*(n+q)+50<aF):aH prog 32 [bE u,bE v,bE t] (bH (aN u v t)):=
 bI func32 (λ_=>[(wh hv ht o_).at 10,(qw hu (hv.ag ht) o_).at 11])
section
variable{P:j_}{N:Nat}
theorem aHw{c:Code}{v:i_}(hf:P.funcs[f]?=some fn)(hb:fn.body=some c)(hN:N=(eY 0 l).length+(fn.ntmps-(eY 0 l).length))(hl:(l.all aQ.ok)=true)
  (h:∀ w ι cc a,fp (aa.at w) ι (bM (jb 0 (eY 0 l))) N a->aO (aa.at w) ι cc w->cZ cc (jq 0 l)->eG cc (jQ 0 l)->c.wpIn (FW none) 0 P (bodyPostM (FW none) 0 P fn λe w'=>e=.returned v/\Below w.heap.size w w') a w):cx P f l v:=by
 intro w args cy;obtain⟨ι,cc,h1,h2,h3,h4,h5,h6,h7⟩:=yJ cy (bC.1 hl) 0 _ _ (uE w) n_ (λ_ _=>rfl);refine Ko.1 (callsIn_of_wp_marks (F:=FW none) (n:=0) hf hb trivial (h w ι cc _ ?_ h2 h4 h3));have:=aCF (B:=aa.at w) (fn:=fn) (N:=N) h6 hN rfl;simpa using this
theorem aVf{S:Nat->Prop}{m:Map}(h:∀ b,S b↔∃ k x o cap,ak Os k=some x/\m k=some (.at b o cap))(hk:∀ k,ak cA k=none↔ak Os k=none):∀ b,S b↔∃ k x o cap,ak cA k=some x/\m k=some (.at b o cap):=λb=>by
 have go:∀{L L':aL} {k:Nat} {x:Obj},(ak L' k=none->ak L k=none)->ak L k=some x->∃ y,ak L' k=some y:=λ{L L' k x} h e=>by
  cases e':ak L' k with
  |none=>rw[h e']at e;cases e
  |some y=>exact⟨y,rfl⟩
 rw[h b];constructor
 ·rintro⟨k,x,o,cap,e1,e2⟩
  obtain⟨y,e3⟩:=go (hk k).1 e1;exact⟨k,y,o,cap,e3,e2⟩
 ·rintro⟨k,x,o,cap,e1,e2⟩
  obtain⟨y,e3⟩:=go (hk k).2 e1;exact⟨k,y,o,cap,e3,e2⟩
theorem aVg{m:Map}(h:∀ k x,ak Os k=some x->m k≠none)(hk:∀ k,ak cA k=none↔ak Os k=none):∀ k x,ak cA k=some x->m k≠none:=λk x e=>by
 cases e':ak Os k with
 |none=>rw[(hk k).2 e']at e;cases e
 |some y=>exact h k y e'
end
theorem aVh{s:K}{m n:Nat}(hs:Sz m s)(hx:Sz n x)(cQ:m+n<aF):yP prog 77 20 ([bH x]++[aV 5]) [(5,.aI (cG s).cs 31)] [] (.tuple #[]) [(5,.aI (cG (s+x)).cs 31)]:=
 o8 mixed func77 100 (N:=6) k_ (λ_=>[(uR hs hx cQ).at 5]) (λ_=>k_)
theorem aHx{F:Fact}:yP prog 29 7 ([.agg #[sl 0 np,sl 1 nv,cN 2]]++[]) [] [(0,.view xp),(1,.view e6),(2,.fact F)] (.func (.func 68) #[] #[aV 7]) [(7,.aI [sl 0 np,sl 1 nv,cN 2] 26)]:=
 o8 mixed func29 100 (N:=4) k_ (λ_=>[]) (λ_=>k_)
section
variable{ps:c_}{vs:e_}{fs:f_}{xp:al}{np:Nat}{s:K}{p q r:V3 K}
def YR(p q r:V3 K):Value:=.agg ((cB p).cs++(cB q).cs++(cB r).cs).toArray
end
section
variable{σ:Type}{vs:e_}{xp:al}{np:Nat}{Fs:List (Nat×List Nat)}
def nG(f:σ->V3 K->V3 K->V3 K->σ)(s:σ)(l:e_):Nat->σ
 |0=>s
 |t+1=>f (nG f s l t) ((l[0]?).getD 0) ((l[t+1]?).getD 0) ((l[t+2]?).getD 0)
def pW(f:σ->V3 K->V3 K->V3 K->σ)(s:σ)(vs:e_)(Ls:List (List Nat)):Nat->σ
 |0=>s
 |i+1=>nG f (pW f s vs Ls i) (kR vs ((Ls[i]?).getD [])) (((Ls[i]?).getD []).length-2)
def pX(np nv:Nat)(x3 x4 x5 x6:Obj):aL:=[(3,x3),(4,x4),(5,x5),(6,x6),(7,.aI [sl 0 np,sl 1 nv,cN 2] 26)]
def jF(xp:al)(vs:e_)(fs:f_):aL:=[(0,.view xp),(1,.view (aP vs)),(2,.fact (jC fs))]
theorem HM{x3 x4 x5 x6:Obj}{m:Nat}(hm:m=8\/m=9)(h:([x3,x4,x5,x6].all λx=>x.cells.all (l5 m))=true)(iS:xp.all flat=true):((pX np vs.length x3 x4 x5 x6++jF xp vs fs).all λp=>Nat.blt p.1 8&&mT m p)=true:=by have e2:=yS (m:=m) (k:=0) (x:=.view xp) λv hv=>bC.1 iS v hv;have e3:=yS (m:=m) (k:=1) (x:=.view (aP vs)) λv hv=>bC.1 (dR vs) v hv;simp only[eA,e8,dc]at h;obtain⟨h3,h4,h5,h6,_⟩:=h;simp only[pX,jF,DZ,jJ,eA,e8,e2,e3];simp only[mT,h3,h4,h5,h6];rcases hm with rfl|rfl<;>rfl
theorem aHy{x3 x4 x5 x6:Obj}{m:Nat}(hm:m=8\/m=9)(h:([x3,x4,x5,x6].all λx=>x.cells.all (l5 m))=true):((pX np vs.length x3 x4 x5 x6).all (mT m))=true:=by have:=HM (xp:=[]) (np:=np) (vs:=vs) (fs:=[]) hm h rfl;rw[List.all_append,dc]at this;refine bC.2 λx hx=>?_;have:=bC.1 this.1 x hx;rw[dc]at this;exact this.2
theorem aHz(iS:xp.all flat=true):(([]++jF xp vs fs).all λp=>Nat.blt p.1 7&&mT 7 p)=true:=by have e2:=yS (m:=7) (k:=0) (x:=.view xp) λv hv=>bC.1 iS v hv;have e3:=yS (m:=7) (k:=1) (x:=.view (aP vs)) λv hv=>bC.1 (dR vs) v hv;simp only[jF,jJ,eA,e8,e2,e3];rfl
structure BC(σ:Type) where
 f:σ->V3 K->V3 K->V3 K->σ
 Inv:Nat->σ->Prop
 q:Nat
 X:Nat
 x5:σ->Obj
 x3:Obj
 x4:Obj
 x6:Obj
 N:Nat
 Ss:Array Tmp
 hJ:Code
 fC:Code
 fr:aU
structure BC.Holds(B:BC σ)(np:Nat)(vs:e_)(xp:al)(fs:f_):Prop where
 inv:∀{n s p q r},B.Inv n s->aD B.q p->aD B.q q->aD B.q r->B.Inv (n+B.X) (B.f s p q r)
 mono:∀{m n s},m<=n->B.Inv m s->B.Inv n s
 round:∀{n s p q r},B.Inv n s->n+B.X<aF->aD B.q p->aD B.q q->aD B.q r->
  GI prog 8 B.N B.Ss B.hJ B.fC B.fr (pX np vs.length B.x3 B.x4 (B.x5 s) B.x6) (jF xp vs fs) (pX np vs.length B.x3 B.x4 (B.x5 (B.f s p q r)) B.x6) [YR p q r] none
 low:∀ s,∀ x∈pX np vs.length B.x3 B.x4 (B.x5 s) B.x6++jF xp vs fs,fR 9 x.2
variable{fs:f_}{m:Map}{S:Nat->Prop}{T:p_}{W1 W:h_}{l D:Nat}{cP:FuncId}{B:BC σ}{s0:σ}
noncomputable def mF(B:BC σ)(l:Nat)(cP:FuncId)(T:p_)(D:Nat):Obj:=.fact (fV l (ky cP T B.Ss B.hJ B.fC D))
def Su(n t:Nat)(l:Nat):aU:=[(6,vI t),(5,sl 12 n),(0,.func (.yield l) #[] #[])]
noncomputable def Fg(B:BC σ)(np:Nat)(vs:e_)(xp:al)(fs:f_)(s:σ):aL:=pX np vs.length B.x3 B.x4 (B.x5 s) B.x6++jF xp vs fs
noncomputable def BD(B:BC σ)(np:Nat)(vs:e_)(xp:al)(fs:f_)(dY:e_)(s:σ)(r:Obj):aL:=(12,.row (aP dY) 33 30)::(8,r)::Fg B np vs xp fs s
theorem aVi{n t:Nat}{s:σ}{dY:e_}(hB:B.Holds np vs xp fs)(fD:yI prog 8 B.N B.fr (pX np vs.length B.x3 B.x4 (B.x5 s0) B.x6) m S T)(hp:∀ p∈dY,aD B.q p)(hs:B.Inv n s)(ht:t+2<dY.length)(cQ:n+B.X<aF)(h63:dY.length<1000000):
  ah prog (lq W1 l S m) 40 (aK (ai f68 2)) (Su dY.length (t+2) l) (BD B np vs xp fs dY s (mF B l cP T D)) 13
   ⟨.normal,Su dY.length (t+1+2) l,BD B np vs xp fs dY (B.f s ((dY[0]?).getD 0) ((dY[t+1]?).getD 0) ((dY[t+2]?).getD 0)) (mF B l cP T D),13⟩:=by
 have h0:=bt (l:=dY) (i:=0) o_;have h1:=bt (l:=dY) (i:=t+1) o_;have h2:=bt (l:=dY) (i:=t+2) ht;have s0':=hp _ (dy (l:=dY) (n:=0) o_);have s1:=hp _ (dy (l:=dY) (n:=t+1) o_);have s2:=hp _ (dy (l:=dY) (n:=t+2) ht);rw[h0,h1,h2];show ah _ _ _ _ _ _ _ ⟨_,_,BD B np vs xp fs dY (B.f s dY[0] dY[t+1] dY[t+2]) _,_⟩;generalize dY[0]=a at *;generalize dY[t+1]=x at *;generalize dY[t+2]=y at *;have hk:∀ k,ak (pX np vs.length B.x3 B.x4 (B.x5 s) B.x6) k=none↔ak (pX np vs.length B.x3 B.x4 (B.x5 s0) B.x6) k=none:=xa rfl;have st:=Ly (W1:=W1) (l:=l) (D:=D) (cP:=cP) (x:=.tmp 23) (o:=az f68 37) (hB.round hs cQ s0' s1 s2) k_ fD.size fD.jb fD.low (aVf fD.set hk) (aVg fD.born hk);have w1:IntKind.i64.wrap (((t+2:Nat):Int)-1)=((t+1:Nat):Int):=by rw[eD];omega
 unfold BD Fg mF;generalize B.x5 s=o5 at *;generalize B.x5 (B.f s a x y)=o5' at *;generalize B.x3=o3 at *;generalize B.x4=o4 at *;generalize B.x6=o6 at *;exact aG [.lt 20 (t+2) dY.length true (aJ ht),.di f68 25 12 dY.length 0 30 o_ k_,.ld f68 26 33 12 (0*30) (.row (aP dY) 33 30) (bE a) rfl (lv h0) k_,.wr 29 .i64 (((t+2:Nat):Int)-1) ((t+1:Nat):Int) w1,.di f68 30 12 dY.length (t+1) 30 o_ k_,.ld f68 31 33 12 ((t+1)*30) (.row (aP dY) 33 30) (bE x) rfl (lv h1) k_,.di f68 34 12 dY.length (t+2) 30 ht k_,.ld f68 35 33 12 ((t+2)*30) (.row (aP dY) 33 30) (bE y) rfl (lv h2) k_,.step 37 _ _ _ _ _ st,.sum 22 (t+2) 1 (t+1+2) o_ o_]
theorem YS{n:Nat}{s:σ}{dY:e_}(hB:B.Holds np vs xp fs)(hp:∀ p∈dY,aD B.q p)(hs:B.Inv n s):∀ t,t+2<=dY.length->B.Inv (n+t*B.X) (nG B.f s dY t)
 |0,_=>by rw[l9,jv];exact hs
 |t+1,h=>by have ih:=YS hB hp hs t o_;unfold nG;rw[bt (l:=dY) (i:=0) o_,bt (l:=dY) (i:=t+1) o_,bt (l:=dY) (i:=t+2) o_];exact hB.mono (by rw[uI t];omega) (hB.inv ih (hp _ (dy _)) (hp _ (dy _)) (hp _ (dy _)))
theorem aVj{n:Nat}{s:σ}{dY:e_}(hB:B.Holds np vs xp fs)(fD:yI prog 8 B.N B.fr (pX np vs.length B.x3 B.x4 (B.x5 s0) B.x6) m S T)(hp:∀ p∈dY,aD B.q p)(hs:B.Inv n s)(h2:2<=dY.length)(cQ:n+(dY.length+1)*B.X<aF)(h63:dY.length<1000000):
  ah prog (lq W1 l S m) 40 (.block 2 (ai f68 2)) (Su dY.length 2 l) (BD B np vs xp fs dY s (mF B l cP T D)) 13
   ⟨.normal,[],BD B np vs xp fs dY (nG B.f s dY (dY.length-2)) (mF B l cP T D),13⟩:=by
 obtain⟨c,hc⟩:∃ c,dY.length=c+2:=⟨dY.length-2,by omega⟩;have e:dY.length-2=c:=by omega
 rw[e];refine cg (id:=2) (cz (r:=⟨.exit 2,[],BD B np vs xp fs dY (nG B.f s dY c) (mF B l cP T D),13⟩) c (λt=>Su dY.length (t+2) l) (λt=>BD B np vs xp fs dY (nG B.f s dY t) (mF B l cP T D)) (λi k _=>xa (by rfl) k) (λt ht=>?_) ?_ n_)
 ·have hle:n+t*B.X+B.X<aF:=by have h1:(t+1)*B.X<=(dY.length+1)*B.X:=fe _ o_;rw[uI t]at h1;generalize t*B.X=z at *;omega
  exact aVi hB fD hp (YS hB hp hs t o_) o_ hle h63
 ·rw[hc];unfold BD Fg mF;generalize B.x5 (nG B.f s dY c)=z at *;generalize B.x3=o3 at *;generalize B.x4=o4 at *;generalize B.x6=o6 at *;exact aG [.lt 20 (c+2) (c+2) false s_]
def HN(n i:Nat)(l:Nat):aU:=[(10,vI i),(8,cN 2),(9,vI n),(0,.func (.yield l) #[] #[]),(1,aV 7)]
noncomputable def qF(B:BC σ)(np:Nat)(vs:e_)(xp:al)(fs:f_)(s:σ)(r:Obj):aL:=(8,r)::Fg B np vs xp fs s
theorem aVk{s:σ}(hB:B.Holds np vs xp fs):∀ x∈qF B np vs xp fs s (mF B l cP T D),fR 9 x.2:=λx hx=>by
 rcases cE.1 hx with rfl|hx
 ·exact n_
 ·exact hB.low s x hx
theorem aVl{n:Nat}{s:σ}{k:Int}{L:l_}(hB:B.Holds np vs xp fs)(fD:yI prog 8 B.N B.fr (pX np vs.length B.x3 B.x4 (B.x5 s0) B.x6) m S T)(hi:i<fs.length)(hf:fs[i]?=some (k,kD L))(hL:∀ x∈L,x<vs.length)(hp:∀ p∈vs,aD B.q p)(hs:B.Inv n s)(h2:2<=L.length)(cQ:n+(L.length+1)*B.X<aF)
  (iS:xp.all flat=true) (zk:np=0->xp=[]) (h63:L.length<1000000) (rK:fs.length<1000000) :
  ah prog (lq W1 l S m) 40 (aK (ai f68 0)) (HN fs.length i l) (qF B np vs xp fs s (mF B l cP T D)) 9
   ⟨.normal,HN fs.length (i+1) l,qF B np vs xp fs (nG B.f s (kR vs L) (L.length-2)) (mF B l cP T D),9⟩:=by
 have hlen:(kR vs L).length=L.length:=eO ..;have iN:(kD L).length=L.length:=eO ..;have Hl:∀ p∈kR vs L,aD B.q p:=λp fT=>by obtain⟨x,hx,rfl⟩:=df.1 fT;exact hp _ (cM (j8 (hL x hx)))
 have lo:=aVj (W1:=W1) (l:=l) (cP:=cP) (D:=D) (fs:=fs) (vs:=vs) (np:=np) (xp:=xp) hB fD Hl hs o_ (by rw[hlen];exact cQ) o_;have AR:=aVe (np:=np) (F:=jC fs) (i:=k) (u:=iV k) rfl hL h63 iS rfl;rw[hlen]at lo;rw[iN]at AR;have dG:=λz=>aVk (l:=l) (cP:=cP) (T:=T) (D:=D) (s:=z) hB;have cV:=dR (kR vs L);generalize nG B.f s (kR vs L) (L.length-2)=z at *;have dG:=dG z;generalize kR vs L=a at *;unfold BD at lo;unfold qF Fg mF at *;generalize B.x5 s=o5 at *;generalize B.x5 z=o5' at *;generalize B.x3=o3 at *;generalize B.x4=o4 at *;generalize B.x6=o6 at *;exact rU mixed 100 (gG:=13) [.lt 11 i fs.length true (aJ hi),.step 12 (az f68 12) [cN 2,vI i] [(9,none),(9+1,none),(2,some (.fact (jC fs)))] (aV 9) [(9,.view [iV k,cN 10]),(9+1,.fact (e9 (kD L)))] (Ng k_ (zu.full fs) hf d_),.step 16 (az f68 16) [.func (.func 69) #[] #[],.agg #[sl 0 np,sl 1 vs.length,cN 2],.agg #[iV k,cN 10]] [(12,none),(0,some (.view xp)),(1,some (.view (aP vs))),(2,some (.fact (jC fs))),(10,some (.fact (e9 (kD L))))] (sl 12 L.length) [(12,.row (aP a) 33 30)]
   (sn AR (.s (x1:=.view xp) (x2:=.view (aP vs)) rfl iS zk rfl (dR vs) wk (.c rfl (λ_ _ h=>h) .nil)) (x:=.func 69) k_ k_ cV 12),
  .code 2 _ _ _ _ _ lo,.sum 39 i 1 (i+1) rfl o_] k_ rfl k_ dG k_
end
section
variable{σ:Type}{vs:e_}{xp:al}{np:Nat}{m:Map}{S:Nat->Prop}{T:p_}{W1 W:h_}{l D:Nat}{cP:FuncId}{Fs:List (Nat×List Nat)}{q X M n0:Nat}{B:BC σ}{s0:σ}
structure Dl(vs:e_)(Fs:List (Nat×List Nat))(q X M n0:Nat):Prop where
 len:∀ f∈Fs,2<=f.2.length/\f.2.length<=M
 idx:∀ f∈Fs,∀ x∈f.2,x<vs.length
 sz:∀ p∈vs,aD q p
 gG:n0+(Fs.length+2)*((M+1)*X)<aF
 few:Fs.length<1000000
 many:M<1000000
theorem Dl.y(h:Dl vs Fs q X M n0){i:Nat}(hi:i<Fs.length){n:Nat}(hn:n<=M):n0+i*((M+1)*X)+(n+1)*X<aF:=by have:=h.gG;have h1:(i+1)*((M+1)*X)<=(Fs.length+2)*((M+1)*X):=fe _ o_;rw[uI i]at h1;have h2:(n+1)*X<=(M+1)*X:=fe _ o_;generalize (M+1)*X=z at *;generalize (n+1)*X=y at *;generalize i*z=a at *;omega
theorem Sv(f:σ->V3 K->V3 K->V3 K->σ)(s:σ)(vs:e_)(Fs:List (Nat×List Nat))(i:Nat)(g:Nat×List Nat)(hf:Fs[i]?=some g):pW f s vs (Fs.map (·.2)) (i+1)=nG f (pW f s vs (Fs.map (·.2)) i) (kR vs g.2) (g.2.length-2):=by show nG f _ (kR vs (((Fs.map (·.2))[i]?).getD [])) ((((Fs.map (·.2))[i]?).getD []).length-2)=_;rw[wJ,hf];rfl
theorem NJ(h:Dl vs Fs B.q B.X M n0)(hB:B.Holds np vs xp (Fs.map dS))(h0:B.Inv n0 s0):∀ i,i<=Fs.length->B.Inv (n0+i*((M+1)*B.X)) (pW B.f s0 vs (Fs.map (·.2)) i)
 |0,_=>hB.mono o_ h0
 |i+1,hi=>by
  have ih:=NJ h hB h0 i o_;have hf:Fs[i]?=some Fs[i]:=bt o_;have hm:=dy (l:=Fs) (n:=i) o_;generalize Fs[i]=g at *;rw[Sv _ _ _ _ _ _ hf];have hlen:(kR vs g.2).length=g.2.length:=eO ..;have hl:=h.len _ hm;refine hB.mono ?_ (YS hB (λp hp=>?_) ih (g.2.length-2) o_)
  ·rw[uI i];have h2:(g.2.length-2)*B.X<=(M+1)*B.X:=fe _ o_;generalize (M+1)*B.X=z at *;generalize (g.2.length-2)*B.X=y at *;generalize i*z=a at *;omega
  ·obtain⟨x,hx,rfl⟩:=df.1 hp;exact h.sz _ (cM (j8 (h.idx _ hm x hx)))
theorem aVm{z:Nat->σ}(h:Dl vs Fs B.q B.X M n0)(hB:B.Holds np vs xp (Fs.map dS))(hz:∀(i:Nat) (f:Nat×List Nat),Fs[i]?=some f->z (i+1)=nG B.f (z i) (kR vs f.2) (f.2.length-2))(bL:∀ i,i<=Fs.length->B.Inv (n0+i*((M+1)*B.X)) (z i))
  (fD:yI prog 8 B.N B.fr (pX np vs.length B.x3 B.x4 (B.x5 s0) B.x6) m S T) (iS:xp.all flat=true) (zk:np=0->xp=[]) :
  ah prog (lq W1 l S m) 40 (.block 0 (ai f68 0)) (HN (Fs.map dS).length 0 l) (qF B np vs xp (Fs.map dS) (z 0) (mF B l cP T D)) 9
   ⟨.normal,[],qF B np vs xp (Fs.map dS) (z (Fs.map dS).length) (mF B l cP T D),9⟩:=by
 have hlen:(Fs.map dS).length=Fs.length:=eO ..;have hk:∀(i k:Nat),ak (qF B np vs xp (Fs.map dS) (z i) (mF B l cP T D)) k=none↔ak (qF B np vs xp (Fs.map dS) (z 0) (mF B l cP T D)) k=none:=λi k=>xa (by unfold qF Fg pX;rfl) k;have qk:∀ y:σ,ah prog (lq W1 l S m) 40 (aK (ai f68 0)) (HN (Fs.map dS).length (Fs.map dS).length l) (qF B np vs xp (Fs.map dS) y (mF B l cP T D)) 9 ⟨.exit 0,[],qF B np vs xp (Fs.map dS) y (mF B l cP T D),9⟩:=λy=>by unfold qF Fg mF;generalize B.x5 y=o5 at *;generalize B.x3=o3 at *;generalize B.x4=o4 at *;generalize B.x6=o6 at *;exact aG [.lt 11 (Fs.map dS).length (Fs.map dS).length false s_]
 have aVn:∀ i,i<(Fs.map dS).length->ah prog (lq W1 l S m) 40 (aK (ai f68 0)) (HN (Fs.map dS).length i l) (qF B np vs xp (Fs.map dS) (z i) (mF B l cP T D)) 9 ⟨.normal,HN (Fs.map dS).length (i+1) l,qF B np vs xp (Fs.map dS) (z (i+1)) (mF B l cP T D),9⟩:=λi hi=>by
  have fQ:i<Fs.length:=by omega
  have hf:Fs[i]?=some Fs[i]:=bt fQ;have hm:=dy (l:=Fs) (n:=i) fQ;generalize Fs[i]=f at *;have hl:=h.len _ hm;rw[hz i f hf];exact aVl (W1:=W1) (l:=l) (cP:=cP) (D:=D) (xp:=xp) (np:=np) (fs:=Fs.map dS) (i:=i) (s:=z i) (k:=(f.1:Int)) (L:=f.2) hB fD hi (by rw[wJ,hf];rfl) (h.idx _ hm) h.sz (bL i o_) hl.1 (h.y fQ hl.2) iS zk (by have:=h.many;omega) (by rw[hlen];exact h.few)
 exact cg (id:=0) (cz (P:=prog) (B:=lq W1 l S m) (N:=40) (Fs.map dS).length (λi=>HN (Fs.map dS).length i l) (λi=>qF B np vs xp (Fs.map dS) (z i) (mF B l cP T D)) (λi k _=>hk i k) aVn (qk _) n_)
theorem aHA{z:Nat->σ}(h:Dl vs Fs B.q B.X M n0)(hB:B.Holds np vs xp (Fs.map dS))(hz:∀(i:Nat) (f:Nat×List Nat),Fs[i]?=some f->z (i+1)=nG B.f (z i) (kR vs f.2) (f.2.length-2))(bL:∀ i,i<=Fs.length->B.Inv (n0+i*((M+1)*B.X)) (z i))(ux:z 0=s0)
  (fD:yI prog 8 B.N B.fr (pX np vs.length B.x3 B.x4 (B.x5 s0) B.x6) m S T) (iS:xp.all flat=true) (zk:np=0->xp=[])
  {κ:Map} {c:g_} {dM:al} (hm:aO (lq W1 l S m) κ c W) (ha:cZ c (qF B np vs xp (Fs.map dS) s0 (mF B l cP T D))) (hu:eG c (8+1)) (fm:bY (aM κ) [aV 7] dM) :
  Calls prog 68 (.func (.yield l) #[] #[]::dM).toArray W λe W'=>∃ v rm c',e=.returned v/\Map.le κ rm/\aO (lq W1 l S m) rm c' W'/\cZ c' (qF B np vs xp (Fs.map dS) (z (Fs.map dS).length) (mF B l cP T D))/\∀ k,k<8->c k=none->c' k=none:=by
 have lo:=aVm (W1:=W1) (l:=l) (cP:=cP) (D:=D) h hB hz bL fD iS zk;rw[ux]at lo;generalize z (Fs.map dS).length=y at *;generalize Fs.map dS=fs at *;unfold qF Fg mF at *;generalize B.x5 s0=o5 at *;generalize B.x5 y=o5' at *;generalize B.x3=o3 at *;generalize B.x4=o4 at *;generalize B.x6=o6 at *;exact Es (N:=40) (ca:=[aV 7]) mixed func68 k_ 100 (v:=.tuple #[]) (rs:=[.step 9 (az f68 9) [cN 2] [(2,some (.fact (jC fs)))] (vI fs.length) [] (zv k_ (zu.full fs)),.code 0 _ _ _ _ _ lo]) hm ha hu fm k_
end
theorem Sw{p q:Int}{n:Nat}(hq:q≠0)(h1:p.natAbs<2^n)(h2:q.natAbs<2^n)(hn:n<=63):aH prog 34 [.int .i64 p,.int .i64 q] (bH (eZ p q)):=by have rt:=aCh hq h1 h2 hn;rw[<-QM hq]at rt;generalize eZ p q=k at *;exact bI func34 (λ_=>[rt.at 10])
section
variable{vs:e_}{fs:f_}{xp:al}{np:Nat}{s:K}{p q r:V3 K}
def Dm(s:K)(p q r:V3 K):K:=s+aN p q r
noncomputable def HO(Q np nv:Nat):BC K where
 f:=Dm
 Inv n s:=Sz n s
 q:=Q
 X:=18*Q+50
 x5 s:=.aI (cG s).cs 31
 x3:=.aI [sl 0 np,sl 1 nv,cN 2] 26
 x4:=.aI ua.cs 31
 x6:=.aI [.func (.func 77) #[] #[aV 5]] 106
 N:=23
 Ss:=#[10]
 hJ:=AK (o7 f35)
 fC:=AL (o7 f35)
 fr:=[(2,aV 4),(3,aV 5),(4,aV 6),(9,.func (.func 68) #[] #[aV 7])]
def BE(np nv:Nat)(s:K):aL:=pX np nv (.aI [sl 0 np,sl 1 nv,cN 2] 26) (.aI ua.cs 31) (.aI (cG s).cs 31) (.aI [.func (.func 77) #[] #[aV 5]] 106)
def NK:aU:=[(2,aV 4),(3,aV 5),(4,aV 6),(9,.func (.func 68) #[] #[aV 7])]
theorem Sx{m:Nat}(hm:m=8\/m=9):([Obj.aI [sl 0 np,sl 1 nv,cN 2] 26,.aI ua.cs 31,.aI (cG s).cs 31,.aI [.func (.func 77) #[] #[aV 5]] 106].all λx=>x.cells.all (l5 m))=true:=by rcases hm with rfl|rfl<;>kernel_rfl
theorem aVo{m n:Nat}(hp:aD m p)(hq:aD m q)(hr:aD m r)(hs:Sz n s)(cQ:n+(18*m+50)<aF)(iS:xp.all flat=true):
  GI prog 8 23 #[10] (AK (o7 f35)) (AL (o7 f35)) NK (BE np vs.length s) (jF xp vs fs) (BE np vs.length (s+aN p q r)) [YR p q r] none:=by
 have hd:Sz (15*m+41) (aN p q r):=(hp.dot (hq.ag hr)).mono o_;have L3:=MW hp hq hr o_;have aVp:=aVh hs hd o_;generalize aN p q r=x at *
 exact Jf (rA:=⟨.normal,(5,aV 9)::NK,(9,.aI ((cB p).cs++(cB q).cs++(cB r).cs) 64)::(BE np vs.length s++jF xp vs fs),10⟩) (rB:=⟨.normal,[],BE np vs.length (s+x),10⟩)
  k_ rfl k_ (HM (.inr rfl) (Sx (.inr rfl)) iS) (aHy (.inr rfl) (Sx (.inr rfl))) k_ k_ k_ k_ (λB=>fv mixed 10 [] k_) rfl k_ rfl
  (λB=>fv mixed 10 [L3.at 18,.step 19 _ _ _ _ _ (Me (K:=20) (args:=[bH x]) (ca:=[aV 5]) (x:=.tmp 11) (o:=az f35 19) aVp k_ k_ k_ k_ k_ k_ k_ k_ k_ k_)] k_) (λk y h=>h) rfl
theorem aHB{Q:Nat}(iS:xp.all flat=true):(HO Q np vs.length).Holds np vs xp fs where
 inv {n s p q r} hs hp hq hr:=by have hs:Sz n s:=hs;have hp:aD Q p:=hp;have hq:aD Q q:=hq;have hr:aD Q r:=hr;have hd:Sz (15*Q+41) (aN p q r):=(hp.dot (hq.ag hr)).mono o_;exact(hs.add hd).mono (by show _<=n+(18*Q+50);omega)
 mono {m n s} h hs:=by have hs:Sz m s:=hs;exact hs.mono h
 round hs h hp hq hr:=aVo hp hq hr hs h iS
 low s x hx:=by have:=bC.1 (HM (fs:=fs) (np:=np) (vs:=vs) (.inr rfl) (Sx (s:=s) (.inr rfl)) iS) x hx;rw[dc]at this;exact xb this.2
end
section
variable{vs:e_}{xp:al}{np:Nat}{Fs:List (Nat×List Nat)}{Q M:Nat}
def ui(np:Nat)(xp:al)(vs:e_)(Fs:List (Nat×List Nat)):aQ:=.s np xp vs.length (aP vs) (jC (Fs.map dS))
def Ka(vs:e_)(Fs:List (Nat×List Nat)):K:=pW Dm 0 vs (Fs.map (·.2)) (Fs.map dS).length
noncomputable def NL(vs:e_)(Fs:List (Nat×List Nat)):K:=Ka vs Fs*eZ 1 6
theorem aHC{n:Nat}(h:Dl vs Fs Q (18*Q+50) M 2)(iS:xp.all flat=true)(zk:np=0->xp=[])(hs:Sz n (Ka vs Fs))(hn:n+40<aF):cx prog 35 [ui np xp vs Fs] (bH (NL vs Fs)):=by
 have aC:([ui np xp vs Fs].all aQ.ok)=true:=by show((xp.all flat&&((aP vs).all flat&&true))&&true)=true;rw[iS,dR];rfl
 have hr:Sz 3 (eZ 1 6):=EB d_ d_ d_;have mr:=Sw (p:=1) (q:=6) (n:=3) d_ d_ d_ d_;have ml:=nU hs hr o_;have h0:aH prog 67 [.int .i64 0] (bH 0):=r7 (z:=0) d_;have body:∀ w ι cc a,fp (aa.at w) ι (bM (jb 0 (eY 0 [ui np xp vs Fs]))) 23 a->aO (aa.at w) ι cc w->cZ cc (jq 0 [ui np xp vs Fs])->eG cc (jQ 0 [ui np xp vs Fs])->
   ((f35).body.getD .skip).wpIn (FW none) 0 prog (bodyPostM (FW none) 0 prog f35 λe w'=>e=.returned (bH (NL vs Fs))/\Below w.heap.size w w') a w:=by
  intro w ι cc a hf hm ha hu;have hB:=aHB (Q:=Q) (np:=np) (vs:=vs) (fs:=Fs.map dS) iS;have hz:∀(i:Nat) (f:Nat×List Nat),Fs[i]?=some f->pW Dm 0 vs (Fs.map (·.2)) (i+1)=nG (HO Q np vs.length).f (pW Dm 0 vs (Fs.map (·.2)) i) (kR vs f.2) (f.2.length-2):=Sv Dm 0 vs Fs;have hinv:∀ i,i<=Fs.length->(HO Q np vs.length).Inv (2+i*((M+1)*(HO Q np vs.length).X)) (pW Dm 0 vs (Fs.map (·.2)) i):=NJ (B:=HO Q np vs.length) (s0:=(0:K)) h hB (mh (z:=0) (n:=2) d_ d_);have vh:=λ(cP l D:Nat) (W1:h_) (S:Nat->Prop) (m:Map) (T:p_) (fD:yI prog 8 23 NK (BE np vs.length 0) m S T) (κ:Map) (c:g_) (W:h_) (dM:al)=>
   aHA (B:=HO Q np vs.length) (s0:=(0:K)) (W:=W) (W1:=W1) (l:=l) (D:=D) (cP:=cP) (xp:=xp) (np:=np) (S:=S) (m:=m) (T:=T) (κ:=κ) (c:=c) (dM:=dM) (z:=pW Dm 0 vs (Fs.map (·.2))) h hB hz hinv rfl fD iS zk
  unfold NL;unfold Ka at *;unfold ui at *;generalize pW Dm 0 vs (Fs.map (·.2)) (Fs.map dS).length=z at *;generalize Fs.map dS=fs at *;have g0:ah prog (aa.at w) 23 (vX f35 0) (jb 0 (eY 0 [.s np xp vs.length (aP vs) (jC fs)])) (jq 0 [.s np xp vs.length (aP vs) (jC fs)]) 3 ⟨.normal,[(1,aV 3),(2,aV 4)],(3,.aI [sl 0 np,sl 1 vs.length,cN 2] 26)::(4,.aI ua.cs 31)::jF xp vs fs,5⟩:=aG [];have g1:ah prog (aa.at w) 23 (vX f35 1) [(1,aV 3),(2,aV 4)] ((3,.aI [sl 0 np,sl 1 vs.length,cN 2] 26)::(4,.aI ua.cs 31)::jF xp vs fs) 5 ⟨.normal,[(1,aV 3),(2,aV 4),(3,aV 5)],(5,.aI (cG 0).cs 31)::(3,.aI [sl 0 np,sl 1 vs.length,cN 2] 26)::(4,.aI ua.cs 31)::jF xp vs fs,6⟩:=aG [h0.at 6];have g2:ah prog (aa.at w) 23 (vX f35 2) [(1,aV 3),(2,aV 4),(3,aV 5)] ((5,.aI (cG 0).cs 31)::(3,.aI [sl 0 np,sl 1 vs.length,cN 2] 26)::(4,.aI ua.cs 31)::jF xp vs fs) 6 ⟨.normal,[(1,aV 3),(2,aV 4),(3,aV 5),(4,aV 6)],(5,.aI (cG 0).cs 31)::(6,.aI [.func (.func 77) #[] #[aV 5]] 106)::(3,.aI [sl 0 np,sl 1 vs.length,cN 2] 26)::(4,.aI ua.cs 31)::jF xp vs fs,7⟩:=aG [];have g3:ah prog (aa.at w) 23 (vX f35 3) [(1,aV 3),(2,aV 4),(3,aV 5),(4,aV 6)] ((5,.aI (cG 0).cs 31)::(6,.aI [.func (.func 77) #[] #[aV 5]] 106)::(3,.aI [sl 0 np,sl 1 vs.length,cN 2] 26)::(4,.aI ua.cs 31)::jF xp vs fs) 7 ⟨.normal,NK,BE np vs.length 0++jF xp vs fs,8⟩:=aG [
   .step 9 _ _ _ _ _ (aEc (K:=7) (args:=[.agg #[sl 0 np,sl 1 vs.length,cN 2]]) (ca:=[]) (ns:=[7]) (Os:=[]) (Vs:=jF xp vs fs) (x:=.func 29) (o:=az f35 9) aHx k_ k_ k_ k_ (aHz iS) (λp hp v hv=>by simp at hp;subst hp;have hv:v∈[sl 0 np,sl 1 vs.length,cN 2]:=hv;simp at hv;rcases hv with rfl|rfl|rfl<;>rfl) k_ (λp hp=>by simp at hp;subst hp;exact .inl rfl) k_ (aHv rfl))]
  have ge:∀ B,ah prog B 23 (.seq (vX f35 6) .ret) NK (BE np vs.length z++jF xp vs fs) 8 ⟨.ret,[(2,aV 4)],[(4,.aI (cG (z*eZ 1 6)).cs 31)],8⟩:=λB=>aG [mr.at 21,ml.at 22];refine kY (g0 none _ _ a w _ hf hm ha hu λtA VO a0 w0 VP xU kg ni wS xc _=>?_);refine kY (g1 none _ _ a0 w0 _ xU kg ni wS λb9 gF a1 w1 jy iq c8 eC dO iu _=>?_);refine kY (g2 none _ _ a1 w1 _ iq c8 eC dO λdQ qP a2 w2 lg iX dE gO eM fX _=>?_);refine kY (kY (g3 none _ _ a2 w2 _ iX dE gO eM λLK cc3 a3 w3 aVq Mb um yH LB P1 _=>H4 ?_));have l8:=HM (fs:=fs) (np:=np) (vs:=vs) (.inl rfl) (Sx (np:=np) (nv:=vs.length) (s:=z) (.inl rfl)) iS;refine P2 (next:=8) (Os:=BE np vs.length 0) (Vs:=jF xp vs fs) (cA:=BE np vs.length z) (gf:=68) (ca:=[aV 7]) (j:=none) Mb um yH LB (λk x h=>kN (p:=λp=>p.2.owns) k_ h) (λk x h=>kN (p:=λp=>p.2.soft) k_ h) k_ k_ k_ (xa (by unfold BE pX;rfl)) (λk x h=>kN (p:=λp=>p.2.owns) k_ h) (λk x h=>by
    have:=kN (p:=λp=>Nat.blt p.1 8&&mT 8 p) l8 h;rw[dc]at this;exact xb this.2)
   (λcP l D W1 S fD κ c W dM hm ha hu fm=>vh cP l D W1 S _ _ fD κ c W dM hm ha hu fm) λD cr w' AH VQ YT LC YU YV=>?_
  exact VM (B:=aa.at w) (v:=bH (z*eZ 1 6)) ge rfl k_ YT LC YU YV rfl (λF h=>h) AH λaB v' w' hc hG=>⟨by rw[hc.fH rfl],hG⟩
 exact aHw (N:=23) (c:=(f35).body.getD .skip) func35 k_ k_ aC body
end
end
end Go.Proofs.YtgpahigmalfpdaaGreatDoor
