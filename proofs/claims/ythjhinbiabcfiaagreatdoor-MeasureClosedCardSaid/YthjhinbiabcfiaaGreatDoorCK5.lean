/- Area vectors of a solid's faces: the proof of MeasureClosedCardSaid (the law's function answers true at every record it can be given; theorem measureClosed_card, last part), part 5 of 7; no condition. -/
import Derived.Test.YthjhinbiabcfiaaGreatDoorCK4
namespace Go.Proofs.YthjhinbiabcfiaaGreatDoor
open Go Go.RowKit Tryz
variable{i m k a q b j e off cc N cap len np n2 A n1 nv:Nat}{w w':h_}{ι:Map}{p:HS K}{o:Oper}{c:g_}{f:FuncId}{B Bs:aa}{t:Bool}{x:K}{ps:c_}{fr:aT}{M:aM}{ty:TypeId}{xs cells' eW pre post xp:ak}{α β:Type}{l:List aP}{u va res:i_}{fs:f_}{P:j_}{vs acc:e_}{z:Int}{ks:List (Value×ak)}{f':Int×List Int}
theorem oP.one{cs:ak}(h:oP w fs cs):∀ v∈cs,v.oneCell'=true:=by
 induction h with
 |nil=>intro v hv;cases hv
 |cons h1 _ _ ih=>
  intro v hv;rcases cD.1 hv with rfl|hv
  ·rfl
  rcases cD.1 hv with rfl|hv
  ·rcases h1 with ⟨e,_⟩|⟨_,_,_,e,_⟩<;>rw[e]<;>rfl
  ·exact ih v hv
structure AR(B:aa)(fs:f_)(ks:List (Value×ak))(cs:ak):Prop where
 flat:∀ v∈cs,Go.Proofs.YthjhinbiabcfiaaGreatDoor.flat v=true
 cells:∀ w,(∀ p∈ks,dp w p.1 p.2.length p.2)->oP w fs cs
 slice:∀ v∈cs,∀ b,iU v=some b->¬B.cW b
theorem AR.nil{B:aa}:AR B [] [] []:=⟨λv h=>(by cases h),λw _=>.nil,λv h=>(by cases h)⟩
theorem AR.snoc{cells:ak}(h:AR B fs ks cells){l:l_}(hu:Go.Proofs.YthjhinbiabcfiaaGreatDoor.flat u=true)(hb:∀ b,iU u=some b->¬B.cW b):
  AR B (fs++[eO (i,l)]) ((u,av l)::ks) (cells++[vI i,u]):=by
 refine⟨λv hv=>?_,λw hw=>?_,λv hv b tL=>?_⟩
 ·rcases eX.1 hv with hv|hv
  ·exact h.flat v hv
  ·simp at hv;rcases hv with rfl|rfl
   ·rfl
   ·exact hu
 ·have h1:=h.cells w λp hp=>hw p (bI _ hp);have h2:=hw (u,av l) (aR ..);have h2:dp w u (av l).length (av l):=h2;rw[aNI]at h2;have e:(fN (l.map λx:Nat=>(x:Int))).length=(l.map λx:Nat=>(x:Int)).length:=by simp[fN]
  rw[e]at h2;exact h1.snoc (i:=(i:Int)) h2 hu
 ·rcases eX.1 hv with hv|hv
  ·exact h.slice v hv b tL
  ·simp at hv;rcases hv with rfl|rfl
   ·cases tL
   ·exact hb b tL
theorem AR.out{cells:ak}(h:AR B fs ks cells){v:i_}(hm:aO (B.jJ ks) ι c w)(hk:c k=some (.row cells ty 2))(hc:aL ι (.slice (some ⟨k,0,some 7⟩) fs.length 0) v):
  Cf w v (jd fs)/\∀ b,(jd fs).cW v w b->¬B.cW b:=by
 have hf:=h.cells w hm.base.2;have hl:=hf.length;have hr:=o7 (len:=fs.length*2) hm hk rfl h.flat (λe=>by rw[e]) hc;have hr:dp w v fs.length cells:=by
  have e:((Obj.row cells ty 2).cells.drop 0).take (fs.length*2)=cells:=by rw[mI];exact kG (vT hl)
  rwa[e]at hr
 have kX:LQ w v fs:=⟨cells,hr,hf⟩;have own:∀ b,iU v=some b->¬B.cW b:=by
  intro b hb hF;rcases hc.iC rfl with ⟨_,_,_,_,q5⟩|⟨b',oo,cap,c',q1,_,_,q5⟩
  ·rw[q5]at hb;cases hb
  ·rw[q5]at hb;injection hb with hb;subst hb;exact(hm.own k _ b' oo cap hk rfl q1).2 (.inl hF)
 refine⟨⟨kX,?_,?_⟩,λb hF=>?_⟩
 ·rcases hr with ⟨e,_⟩|⟨_,_,_,e,_⟩<;>rw[e]<;>rfl
 ·rcases hr with ⟨e,_⟩|⟨_,_,_,e,_⟩<;>rw[e]<;>rfl
 ·rcases hF with hF|⟨b',o,c',j,u,e,hj,lD,hb⟩
  ·exact own b hF
  ·have hu:=Qh hr hf e hj lD;exact h.slice u hu b hb
section
variable{ps:c_}{vs:e_}
noncomputable def fC0:Code:=AA (fA f146)
noncomputable def fC1:Code:=AA (wQ (fA f146))
noncomputable def fC2:Code:=AA (AA (wQ (wQ (fA f146))))
noncomputable def fC3:Code:=AA (wQ (wQ (wQ (fA f146))))
theorem aRg:(f146).body=some (.seq fC0 (.seq fC1 (.seq (.seq fC2 (.block 0 (.loop (aI (ag f146 0))))) (.seq fC3 .ret)))):=k_
theorem Xj{cells:ak}(cR:∀ v∈cells,flat v=true)(r:List (Nat×Nat)):∀ p∈fM ps vs cells,IX r p.2:=λp hp=>by
 simp only[fM,cD,jE,jF]at hp;rcases hp with rfl|rfl|rfl
 ·exact λv hv=>bB.1 (dx ps) v hv
 ·exact λv hv=>bB.1 (dC vs) v hv
 ·exact cR
def Q0(B:aa)(ps:c_)(vs:e_)(i:Nat)(a:Act)(w:h_):Prop:=
 ∃ ks cells,AR B ((cN ps vs i).map eO) ks cells/\St (B.jJ ks) 59 (fI ps.length vs.length i (cN ps vs i).length) (fM ps vs cells) 3 a w
theorem aE6{cells:ak}{fs:List (Nat×List Nat)}{next:Nat}{a:Act}(h:AR B (fs.map eO) ks cells)(hs:St (B.jJ ks) N fr M next a w):cells.length=fs.length*2/\∀ v∈cells,v.oneCell'=true:=by obtain⟨ι,cc,_,h2,_,_⟩:=hs;have:=h.cells w h2.base.2;exact⟨by rw[this.length,dQ],this.one⟩
theorem aRh(rM:∀ k,B.mp k=none)(hi:i<ps.length)(cq:∀ p∈ps,bP m p/\p.n≠0)(aU:∀ v∈vs,aF q v)(hm:100*(m+q)+1000<=aE)(h63:ps.length<=500)(iW:vs.length<900000){a:Act}(h:Q0 B ps vs i a w)
  (K:Act->World->Prop) (Q:Exit->Act->World->Prop) (hK:∀ a' w',Q0 B ps vs (i+1) a' w'->K a' w'):(aI (ag f146 0)).wpIn (FW none) 0 prog (Exit.then K Q) a w:=by
 obtain⟨ks,cells,hF,hS⟩:=h;have jn:ps[i]?=some ps[i]:=aW hi;have l4:gW ps vs i=qe ps vs i ps[i]:=by unfold gW;rw[jn]
 obtain⟨iD,ET⟩:=aE6 hF hS;have Mx:(cN ps vs i).length<=500:=by have:=EC ps vs i;omega
 have stay:gW ps vs i=[]->∀ next a' w',St (B.jJ ks) 59 (fI ps.length vs.length (i+1) (cN ps vs i).length) (fM ps vs cells) next a' w'->K a' w':=by
  intro he next a' w' h';have e:cN ps vs (i+1)=cN ps vs i:=by rw[Mv,he,jO]
  refine hK a' w' ⟨ks,cells,by rw[e];exact hF,?_⟩;rw[e];exact h'.LV rM [(0,0),(1,1),(2,2)] k_ rfl (Xj hF.flat _) k_ k_ k_ k_ k_
 by_cases uI:lW ps i ps[i]=true
 ·have he:gW ps vs i=[]:=by rw[l4];unfold qe;rw[aB (show(ps.take i).any (λq=>decide (canon ps[i]=canon q))=true from uI)]
  exact qU (aRc hi jn cq o_ h63 uI) hS λa' w' h'=>stay he _ a' w' h'
 ·have Jh:lW ps i ps[i]=false:=by simpa using uI
  by_cases ho:(ch ps[i] vs vs.length).length<3
  ·have he:gW ps vs i=[]:=by rw[l4];unfold qe;rw[az (show ¬(ps.take i).any (λq=>decide (canon ps[i]=canon q))=true from uI),aB ho]
   exact qU (aRd hi jn cq aU hm h63 iW Jh ho) hS λa' w' h'=>stay he _ a' w' h'
  ·by_cases hl:(order ps[i].n (aw vs) (ch ps[i] vs vs.length)).length>2
   ·have he:gW ps vs i=[(i,order ps[i].n (aw vs) (ch ps[i] vs vs.length))]:=by rw[l4];unfold qe;rw[az (show ¬(ps.take i).any (λq=>decide (canon ps[i]=canon q))=true from uI),az ho,aB hl]
    refine qU (aRf hi jn cq aU hm h63 iW Jh ho hl iD Mx ET) hS λa' w' h'=>?_;show K a' w';obtain⟨u,hu,vp,h2⟩:=h'.Qp (m:=5) (k:=7) rfl (iJ _) rfl d_;have e:cN ps vs (i+1)=cN ps vs i++[(i,order ps[i].n (aw vs) (ch ps[i] vs vs.length))]:=by rw[Mv,he]
    have wB:=hF.snoc (i:=i) (l:=order ps[i].n (aw vs) (ch ps[i] vs vs.length)) hu vp;refine hK a' w' ⟨_,cells++[vI i,u],by rw[e,sF];exact wB,?_⟩;rw[e,lF];have cR:=wB.flat;generalize cells++[vI i,u]=cells' at *;exact h2.LV rM [(0,0),(1,1),(2,7)] k_ rfl (Xj cR _) k_ k_ k_ k_ k_
   ·have he:gW ps vs i=[]:=by rw[l4];unfold qe;rw[az (show ¬(ps.take i).any (λq=>decide (canon ps[i]=canon q))=true from uI),az ho,az hl]
    exact qU (aRe hi jn cq aU hm h63 iW Jh ho hl) hS λa' w' h'=>stay he _ a' w' h'
theorem aRi(cq:∀ p∈ps,bP m p/\p.n≠0)(aU:∀ v∈vs,aF q v)(hm:100*(m+q)+1000<=aE)(h63:ps.length<=500)(iW:vs.length<900000):
  aDo prog 146 [fV ps,oM vs] (jd ((cN ps vs ps.length).map eO)):=by
 intro w args cC;have aC:([fV ps,oM vs].all aP.ok)=true:=by simp only[eC,e7,Xc,aEQ,Au]
 obtain⟨ι,c,h1,h2,h3,h4,h5,h6,h7⟩:=x8 cC (bB.1 aC) 0 _ _ (ub w) n_ (λ_ _=>rfl);have rM:∀ k,(aa.at w).mp k=none:=λ_=>rfl;refine aDj (N:=59) (B:=(aa.at w).jJ []) func146 aRg k_ h6 (aDc h2) h4 h3 rfl λa bT=>?_;have g0:∀ B:aa,ah prog B 59 fC0 (jh 0 (e6 0 [fV ps,oM vs])) (jB 0 [fV ps,oM vs]) 2 ⟨.normal,[(0,sl 0 ps.length),(1,sl 1 vs.length)],[(0,.view (bf ps)),(1,.view (aN vs))],2⟩:=λB=>aD [];have g1:∀ B:aa,ah prog B 59 fC1 [(0,sl 0 ps.length),(1,sl 1 vs.length)] [(0,.view (bf ps)),(1,.view (aN vs))] 2 ⟨.normal,[(5,.slice none 0 0),(0,sl 0 ps.length),(1,sl 1 vs.length)],[(0,.view (bf ps)),(1,.view (aN vs))],2⟩:=λB=>aD []
 have g2:∀ B:aa,ah prog B 59 fC2 [(5,.slice none 0 0),(0,sl 0 ps.length),(1,sl 1 vs.length)] [(0,.view (bf ps)),(1,.view (aN vs))] 2
   ⟨.normal,[(14,vI 0),(12,sl 0 ps.length),(13,vI ps.length),(0,sl 0 ps.length),(1,sl 1 vs.length),(5,.slice none 0 0)],[(0,.view (bf ps)),(1,.view (aN vs))],2⟩:=λB=>aD []
 refine mG (qU (g0 _) bT λa1 w1 s1=>?_);refine mG (qU (g1 _) s1 λa2 w2 s2=>?_);refine mG (mG (qU (g2 _) s2 λa3 w3 s3=>?_));refine J7 ?_;have i0:Q0 (aa.at w) ps vs 0 a3 w3:=⟨[],[],.nil,(s3.nil 5 rfl 47 2).LV rM [(0,0),(1,1),(2,2)] k_ rfl (Xj n_ _) k_ k_ k_ k_ k_⟩;refine aDh ps.length (Q0 (aa.at w) ps vs) i0 (λi hi a' w' h' K hK=>aRh rM hi cq aU hm h63 iW h' K _ hK) λa' w' h'=>?_;obtain⟨ks,cells,hF,hS⟩:=h';refine qU (r:=⟨.exit 0,[(5,sl 2 (cN ps vs ps.length).length)],[(2,.row cells 47 2)],3⟩) (aD [.lt 15 ps.length ps.length false s_]) hS λa4 w4 s4=>?_;show Code.wpIn _ _ _ _ _ _ _;refine mG (qU (r:=⟨.normal,[(4,sl 2 (cN ps vs ps.length).length)],[(2,.row cells 47 2)],3⟩) (aD []) s4 λa5 w5 s5=>?_);refine wpIn_ret ?_;refine(aDk s5 rfl (v:=sl 2 (cN ps vs ps.length).length) k_ λaA ct v' bJ CJ hc=>⟨v',rfl,?_,?_,bJ.base.1⟩).1
 ·rw[show(cN ps vs ps.length).length=((cN ps vs ps.length).map eO).length by rw[dQ]]at hc;exact(hF.out bJ (CJ 2 _ rfl) hc).1
 ·rw[show(cN ps vs ps.length).length=((cN ps vs ps.length).map eO).length by rw[dQ]]at hc;intro b hb;have:=(hF.out bJ (CJ 2 _ rfl) hc).2 b hb;exact Pm this
end
section
open V3 (dot af bA smul)
section
variable{Bs:aa}{g:FuncId}{ps:List RP}{b:RP->Bool}
def sk(g:FuncId):Value:=.func (.func g) #[] #[]
def uJ(g:FuncId)(n i:Nat):aT:=[(8,vI i),(6,sl 0 n),(7,vI n),(0,sl 0 n),(1,sk g)]
def uK(ps:List RP):aM:=[(0,.view (dw ps))]
noncomputable def igS{p:RP}{b:Bool}(hc:gg prog g=true)(hi:i<ps.length)(hp:ps[i]?=some p)(h:aG prog g [p.v] (.bool b))(more:bM prog Bs 19):bM prog Bs 19:=
 .lt 9 i ps.length true (aJ hi)::.c8 f179 14 0 ps.length i 40 hi k_::.ld f179 15 50 0 (i*40) (.view (dw ps)) p.v rfl (wJ hp) k_::
  .step 16 (au f179 16) [sk g,p.v] [] (.bool b) [] (dD (l:=[.p p.v]) (x:=.tmp 11) (λw vs cC=>by
   cases cC with
   |cons h1 h2=>
    cases h2;cases h1;exact h w) (.p rfl .nil) k_ hc rfl)::more
theorem aRj{p:RP}(hc:gg prog g=true)(hi:i<ps.length)(hp:ps[i]?=some p)(h:aG prog g [p.v] a_)(h63:ps.length<9223372036854775807):
  ah prog Bs 19 (aI (ag f179 0)) (uJ g ps.length i) (uK ps) 1 ⟨.normal,uJ g ps.length (i+1),uK ps,1⟩:=
 aD (igS hc hi hp h [.sum 18 i 1 (i+1) rfl o_])
theorem aRk{p:RP}(hc:gg prog g=true)(hi:i<ps.length)(hp:ps[i]?=some p)(h:aG prog g [p.v] b_):
  ah prog Bs 19 (aI (ag f179 0)) (uJ g ps.length i) (uK ps) 1 ⟨.ret,[(4,vI i)],uK ps,1⟩:=
 aD (igS hc hi hp h [])
theorem aRl:ah prog Bs 19 (aI (ag f179 0)) (uJ g ps.length ps.length) (uK ps) 1 ⟨.exit 0,[],uK ps,1⟩:=
 aD [.lt 9 ps.length ps.length false s_]
theorem aE7(ps:List RP):(aP.r ps.length (dw ps)).ok=true:=iT jS ps
theorem aE8(g:FuncId):(aP.p (sk g)).ok=true:=rfl
theorem aRm{ps:List RP}(h:ps.length=0):dw ps=[]:=by rw[k8 h];rfl
theorem aRn(hc:gg prog g=true)(h63:ps.length<9223372036854775807)(h:∀ p∈ps,aG prog g [p.v] (.bool (b p))):cy prog 179 [.r ps.length (dw ps),.p (sk g)] (.int .i64 (yj b ps 0)):=by
 have aC:([aP.r ps.length (dw ps),.p (sk g)].all aP.ok)=true:=by simp only[eC,e7,aE7,aE8,Au]
 have qR:∀(B:aa) e,e<=ps.length->(∀ j y,j<e->ps[j]?=some y->b y=false)->∀ i,i<e->ah prog B 19 (aI (ag f179 0)) (uJ g ps.length i) (uK ps) 1 ⟨.normal,uJ g ps.length (i+1),uK ps,1⟩:=λB e he hb i hi=>by
  have al:i<ps.length:=by omega
  have hp:ps[i]?=some ps[i]:=aW al;have hh:=h ps[i] (df al);rw[hb i ps[i] hi hp]at hh;exact aRj hc al hp hh h63
 rcases Gq b ps with hn|⟨e,x,h1,h2,h3⟩
 ·rw[PX 0 hn];have lo:∀ B:aa,ah prog B 19 (.block 0 (ag f179 0)) (uJ g ps.length 0) (uK ps) 1 ⟨.normal,[],uK ps,1⟩:=λB=>
   cd (id:=0) (cx ps.length (λi=>uJ g ps.length i) (λ_=>uK ps) (λi k _=>Iff.rfl) (qR B ps.length (bF _) λj y _ hy=>hn y (cL hy)) aRl n_)
  exact dj func179 aC 19 (λw=>[.code 0 _ _ _ _ _ (lo _)])
 ·have al:=(dZ.1 h1).1;have hh:=h x (cL h1);rw[h2]at hh;rw[PY 0 h1 h2 h3,kB];have lo:∀ B:aa,ah prog B 19 (.block 0 (ag f179 0)) (uJ g ps.length 0) (uK ps) 1 ⟨.ret,[(4,vI e)],uK ps,1⟩:=λB=>
   cd (id:=0) (cx e (λi=>uJ g ps.length i) (λ_=>uK ps) (λi k _=>Iff.rfl) (qR B e o_ h3) (aRk hc al h1 hh) n_)
  exact dj func179 aC 19 (λw=>[.code 0 _ _ _ _ _ (lo _)])
theorem aRo(hc:gg prog g=true)(h63:ps.length<9223372036854775807)(h:∀ p∈ps,aG prog g [p.v] (.bool (b p))):cy prog 139 [.r ps.length (dw ps),.p (sk g)] (.bool (ps.any b)):=by
 have aC:([aP.r ps.length (dw ps),.p (sk g)].all aP.ok)=true:=by simp only[eC,e7,aE7,aE8,Au]
 rw[<-aCH];exact dj func139 aC 9 (λw=>[.step 7 (au f139 7) [.func (.func 179) #[] #[],sl 0 ps.length,sk g] [(0,some (.view (dw ps)))] (.int .i64 (yj b ps 0)) []
  (dD (aRn hc h63 h) (.w (x:=.view (dw ps)) rfl (iT jS ps) aRm (.p rfl .nil)) (x:=.func 179) k_ k_ rfl)])
end
theorem aRp{r:RP}{b:Bool}(h:aG prog 141 [r.v] (.bool b)):aG prog 140 [r.v] (.bool (!b)):=bC func140 (λ_=>[h.at 4])
section
variable{F:Type}[OF F]
open OF
def My(s:fm F)(a b:F):fm F:=
 if OF.aH a=0 then s
 else if OF.aH a>0 then(match s.hi with|some h=>if OF.aH (b*a⁻¹-h)<0 then⟨s.lo,some (b*a⁻¹)⟩else s|none=>⟨s.lo,some (b*a⁻¹)⟩)
 else(match s.lo with|some l=>if OF.aH (b*a⁻¹-l)>0 then⟨some (b*a⁻¹),s.hi⟩else s|none=>⟨some (b*a⁻¹),s.hi⟩)
def Q1(s:fm F):Bool:=match s.lo,s.hi with
 |some l,some h=>decide (OF.aH (l-h)<0)
 |_,_=>true
def Q2(s:fm F)(a b:F):Bool:=if OF.aH a=0 then decide (OF.aH b>=0)else Q1 (My s a b)
theorem aE9{x:F}:OF.aH x>0↔OF.aH x=1:=by rcases OF.ja x with h|h|h<;>rw[h]<;>decide
theorem aFa{x:F}:OF.aH x<0↔OF.aH x=-1:=by rcases OF.ja x with h|h|h<;>rw[h]<;>decide
theorem aRq{x:F}:OF.aH x>=0↔OF.aH x≠-1:=by rcases OF.ja x with h|h|h<;>rw[h]<;>decide
theorem Q3{x y:F}:OF.aH (x-y)<0↔x<y:=by rw[aFa,OF.FO,OF.lt_def];omega
theorem aFb{x y:F}:OF.aH (x-y)>0↔y<x:=by rw[aE9,OF.lt_def]
theorem Q4{x:F}:OF.aH x>0↔0<x:=by rw[aE9,OF.gj]
theorem Q5{x:F}:OF.aH x>=0↔0<=x:=by rw[aRq,OF.KT]
theorem aRr(s:fm F)(a b:F):Co s a b=if Q2 s a b then some (My s a b)else none:=by
 unfold Co Q2 My;by_cases ha:OF.aH a=0
 ·rw[aB ha,aB ha,aB ha];by_cases hb:0<=b
  ·rw[aB hb,aJ (Q5.2 hb)];rfl
  ·rw[az hb,bd (λh=>hb (Q5.1 h))];rfl
 ·rw[az ha,az ha,az ha];obtain⟨lo,hi⟩:=s;dsimp only;generalize b*a⁻¹=t;have fin:∀ s':fm F,(match s'.lo,s'.hi with|some l,some h=>if l<h then some s' else none|_,_=>some s')=if Q1 s'=true then some s' else none:=by
   rintro⟨l,h⟩
   unfold Q1;cases l with
   |none=>rfl
   |some l=>
    cases h with
    |none=>rfl
    |some h=>
     dsimp only;by_cases al:l<h
     ·exact(aB al).trans (aB (aJ (Q3.2 al))).symm
     ·exact(az al).trans (az (λh=>al (Q3.1 (kp h)))).symm
  by_cases hp:0<a
  ·rw[aB hp,aB (Q4.2 hp)];cases hi with
   |none=>exact fin ⟨lo,some t⟩
   |some h=>
    dsimp only;by_cases al:t<h
    ·simp only[aB al,aB (Q3.2 al)];exact fin ⟨lo,some t⟩
    ·simp only[az al,az (λe=>al (Q3.1 e))];exact fin ⟨lo,some h⟩
  ·rw[az hp,az (λe=>hp (Q4.1 e))];cases lo with
   |none=>exact fin ⟨some t,hi⟩
   |some l=>
    dsimp only;by_cases al:l<t
    ·simp only[aB al,aB (aFb.2 al)];exact fin ⟨some t,hi⟩
    ·simp only[az al,az (λe=>al (aFb.1 e))];exact fin ⟨some l,hi⟩
end
theorem aRs(s:fm K)(a b:K):Co s a b=if tB s a b then some (rX s a b)else none:=by
 have h1:∀ s:fm K,aCL s=Q1 s:=λs=>by obtain⟨lo,hi⟩:=s;cases lo<;>cases hi<;>rfl
 have h2:rX s a b=My s a b:=by unfold rX My;obtain⟨lo,hi⟩:=s;cases lo<;>cases hi<;>rfl
 have h3:tB s a b=Q2 s a b:=by unfold tB Q2;rw[h2,h1]
 rw[h2,h3];exact aRr s a b
theorem aFc(b d:V3 K):∀(l:c_) (s:fm K),Gl s (l.map λp=>(dot p.n d,p.d-dot p.n b))=if wL s b d l then some (oO s b d l)else none
 |[],s=>rfl
 |p::l,s=>by
  show(Co s (dot p.n d) (p.d-dot p.n b)).bind _=_;rw[aRs];unfold wL oO;by_cases h:tB s (dot p.n d) (p.d-dot p.n b)=true
  ·rw[aB h,h,kS];exact aFc b d l _
  ·rw[az h];have:tB s (dot p.n d) (p.d-dot p.n b)=false:=by simpa using h
   rw[this,zG];rfl
theorem aFd(p q:HS K):wK p q=mQ p q:=by unfold wK mQ eH;rw[show kI 1*(dot (af p.n q.n) (af p.n q.n))⁻¹=(dot (af p.n q.n) (af p.n q.n))⁻¹ from CR.one_mul _]
theorem aFe(p q:HS K):eH p q≠0->dot (eH p q) (eH p q)≠0:=λh=>V3.yb h
theorem aRt(ps:c_)(p q:HS K):Gt ps p q=Ap ps p q:=by
 unfold Gt Ap;have hd:eH p q=af p.n q.n:=rfl;rw[aFd];dsimp only;by_cases h0:eH p q=0
 ·rw[aB h0,aB ((PI (af p.n q.n)).2 h0)]
 ·rw[az h0,az (λh=>h0 ((PI (af p.n q.n)).1 h))];rw[aFc];unfold LI;rw[aFd,hd];by_cases hs:wL ⟨none,none⟩ (mQ p q) (af p.n q.n) ps=true
  ·rw[aB hs,aB hs];generalize oO ⟨none,none⟩ (mQ p q) (af p.n q.n) ps=s;obtain⟨lo,hi⟩:=s;cases lo<;>cases hi<;>rfl
  ·rw[az hs,az hs]
theorem Xk{q:HS K}{v:V3 K}:v∈rY ps p q↔∃ u w,Ap ps p q=some (u,w)/\(v=u\/v=w):=by
 unfold rY;rw[aRt];cases h:Ap ps p q with
 |none=>simp
 |some uw=>
  obtain⟨u,w⟩:=uw;simp only[cD,jE,jF];exact⟨λhv=>⟨u,w,rfl,hv⟩,λ⟨u',w',e,hv⟩=>by injection e with e;injection e with e1 e2;subst e1;subst e2;exact hv⟩
theorem aRu{v:V3 K}:v∈nH ps ps.length↔∃(i j:Nat) (p q:HS K),j<i/\ps[i]?=some p/\ps[j]?=some q/\v∈rY ps p q:=by
 unfold nH;rw[wI];constructor
 ·rintro⟨i,hi,hv⟩
  have al:=ki.1 hi;have hp:ps[i]?=some ps[i]:=aW al;rw[Qb hp]at hv;unfold lR at hv;obtain⟨q,hq,hv⟩:=wI.1 hv;obtain⟨j,hj,rfl⟩:=lS hq;rw[jK]at hj;refine⟨i,j,_,_,by omega,hp,?_,hv⟩;rw[Xl];exact aW o_
 ·rintro⟨i,j,p,q,oE,hp,hq,hv⟩
  have al:=(dZ.1 hp).1;refine⟨i,ki.2 al,?_⟩;rw[Qb hp];refine wI.2 ⟨q,?_,hv⟩;exact cL (i:=j) (by rw[uU,aB oE];exact hq)
theorem aRv(hc:Cl ps)(hp:gB ps)(hf:∀ v:V3 K,∃ x,ev ps x/\x≠v)(v:V3 K):v∈nH ps ps.length↔j8 ps v:=by
 rw[aRu];constructor
 ·rintro⟨i,j,p,q,_,h1,h2,hv⟩
  obtain⟨u,w,he,hv⟩:=Xk.1 hv;have:=aL6 (cL h1) (cL h2) he;rcases hv with rfl|rfl
  ·exact this.1
  ·exact this.2
 ·intro hv;obtain⟨x,hx,bw⟩:=hf v;obtain⟨p,iY,q,BV,hd,h1,h2⟩:=aL8 hc hp hv hx bw;obtain⟨i,hi,rfl⟩:=lS iY;obtain⟨j,hj,rfl⟩:=lS BV;rcases tO i j with h|h|h
  ·exact⟨j,i,_,_,h,aW hj,aW hi,Xk.2 h2⟩
  ·subst h;exfalso;apply hd;exact V3.Li _
  ·exact⟨i,j,_,_,h,aW hi,aW hj,Xk.2 h1⟩
def wU:Value:=.agg #[.slice none 0 0,.slice none 0 0,.slice none 0 0]
def fW(n:Int):Value:=.int .i64 n
def ee(ps:c_):f_:=(cN ps (aZ ps) ps.length).map eO
structure yI(ps:c_)(m:Nat):Prop where
 len:ps.length<=20
 sz:∀ p∈ps,bP m p
 ne:∀ p∈ps,p.n≠0
 bound:1000000000*(m+10)<=aE
theorem Mz(ps:c_)(h:ps.length<=20):(aZ ps).length<=800:=by
 have h1:(aZ ps).length<=(nH ps ps.length).length:=by
  unfold aZ;rw[<-aEK];have:∀ l:e_,(dd l).length<=l.length:=λl=>by have:=(QT l l.length).2;unfold jq at this;rwa[n9]at this
  exact dh (this _) (vT (Mq _).length_eq)
 have h2:=Qc ps.length (bF _) (ps:=ps);have h3:ps.length*(2*ps.length)<=20*40:=xB h o_;omega
theorem Q6(cq:∀ p∈ps,bP m p):∀ v∈aZ ps,aF (10000*(m+10)) v:=λv hv=>by unfold aZ at hv;rw[VD]at hv;exact aEL cq aFe ps.length v hv
theorem GV{n:Nat}(hm:1000000000*(m+10)<=aE)(hn:n<=800):100*(m+n*(10000*(m+10)+1))+10000<=aE/\10000000*(m+10)<=aE/\100*(m+10000*(m+10))+1000<=aE/\m<=aE/\100*m+1000<=aE:=by
 have h0:m<=1089:=by
  rcases e9 m 1090 with h|h
  ·exact Nat.le_of_lt_succ h
  ·have h2:1000000000*(1090+10)<=1000000000*(m+10):=jN _ (Ji h 10);exact absurd (dh h2 hm) d_
 clear hm;have q:10000*(m+10)+1<=10990001:=by omega
 obtain⟨x,hx⟩:∃ x,x=n*(10000*(m+10)+1):=⟨_,rfl⟩;have h1:x<=8792000800:=by rw[hx];exact xB hn q
 rw[<-hx];clear hx;have h2:100*(m+x)+10000<=100*(1089+8792000800)+10000:=Ji (jN _ (K5 h0 h1)) _;have h6:m+10<=1099:=Ji h0 10;have h3:10000000*(m+10)<=10000000*1099:=jN _ h6;have h4:100*(m+10000*(m+10))+1000<=100*(1089+10000*1099)+1000:=Ji (jN _ (K5 h0 (jN _ h6))) _;have h5:100*m+1000<=100*1089+1000:=Ji (jN _ h0) _;exact⟨dh h2 (sE rfl),dh h3 (sE rfl),dh h4 (sE rfl),dh h0 (sE rfl),dh h5 (sE rfl)⟩
theorem aFf{it:TypeInfo}{z:i_}(h1:prog.info? 26=some it)(h2:it.zero=some z):∀ v∈z.cells.toList,flat v=true:=by have e:(prog.info? 26).bind (·.zero)=some wU:=k_;rw[h1]at e;have e:it.zero=some wU:=e;rw[h2]at e;injection e with e;subst e;intro v hv;have hv:v∈[.slice none 0 0,.slice none 0 0,.slice none 0 0]:=hv;simp at hv;subst hv;rfl
section
variable{ps:c_}{m:Nat}
theorem aRw(h:yI ps m):cy prog 139 [fV ps,.p (sk 140)] a_:=by
 obtain⟨_,_,_,b4,_⟩:=GV (n:=0) h.bound o_;have hc:=aRo (g:=140) (ps:=ps.map c9) (b:=λ_=>false) k_ (by rw[dQ];have:=h.len;omega) (λr hr=>by obtain⟨p,hp,rfl⟩:=db.1 hr;have hv:=Ct (h.sz p hp) b4;rw[aJ (h.ne p hp)]at hv;exact aRp hv)
 rw[dQ,show(ps.map c9).any (λ_=>false)=false by simp]at hc;exact hc
theorem ED(ps:c_):([fV ps].all aP.ok)=true:=by simp only[eC,e7,Xc,Au]
noncomputable def Xm(h:yI ps m)(ht:uB ps=t)(more:bM prog Bs 33):bM prog Bs 33:=
 .step 7 (au f83 7) [.func (.func 139) #[] #[],sl 0 ps.length,sk 140] [(0,some (.view (bf ps)))] a_ []
  (dD (aRw h) (.w (x:=.view (bf ps)) rfl (dx ps) jG (.p rfl .nil)) (x:=.func 139) k_ k_ rfl)::
 .gt 12 ps.length 100 false (bd (by have:=h.len;omega))::
 .step 16 (au f83 16) [.func (.func 142) #[] #[],sl 0 ps.length] [(0,some (.view (bf ps)))] (.bool t) []
  (dD (ht▸aMN h.sz (GV (n:=0) h.bound o_).2.2.2.2 (by have:=h.len;omega)) (.w (x:=.view (bf ps)) rfl (dx ps) jG .nil) (x:=.func 142) k_ k_ rfl)::more
noncomputable def aFg(h:yI ps m)(ht:yn ps (aZ ps)=t)(more:bM prog Bs 33):bM prog Bs 33:=
 .step 20 (au f83 20) [.func (.func 143) #[] #[],sl 0 ps.length] [(2,none),(0,some (.view (bf ps)))] (sl 2 (aZ ps).length) [(2,.row (aN (aZ ps)) 38 30)]
  (rS (aQO h.sz (GV (n:=0) h.bound o_).2.1 (by have:=h.len;omega) aFe) (.w (x:=.view (bf ps)) rfl (dx ps) jG .nil) (x:=.func 143) k_ k_ (dC _) 2)::
 .step 23 (au f83 23) [.func (.func 144) #[] #[],sl 0 ps.length,sl 2 (aZ ps).length] [(0,some (.view (bf ps))),(2,some (.row (aN (aZ ps)) 38 30))] (.bool t) []
  (dD (ht▸aM5 (λp hp=>⟨h.sz p hp,h.ne p hp⟩) (Q6 h.sz) (GV h.bound (Mz ps h.len)).1 (by have:=Mz ps h.len;omega) (by have:=h.len;omega))
   (.w (x:=.view (bf ps)) rfl (dx ps) jG (.w (x:=.row (aN (aZ ps)) 38 30) rfl (dC _) rU .nil)) (x:=.func 144) k_ k_ rfl)::more
theorem aRx(h:yI ps m)(hc:uB ps=false):cy prog 83 [fV ps] (.tuple #[wU,fW 13]):=
 dj func83 (ED ps) 33 (λ_=>Xm h hc [])
theorem aRy(h:yI ps m)(hc:uB ps=true)(hi:yn ps (aZ ps)=false):cy prog 83 [fV ps] (.tuple #[wU,fW 12]):=
 dj func83 (ED ps) 33 (λ_=>Xm h hc (aFg h hi []))
theorem aRz(hc:uB ps=true):0<ps.length:=by
 cases ps with
 |nil=>exact absurd hc d_
 |cons p l=>simp
theorem aRA(h:yI ps m)(hc:uB ps=true)(hi:yn ps (aZ ps)=true):
  Cz prog 83 [fV ps] 50 40 ps.length (bf ps) 38 30 (aZ ps).length (aN (aZ ps)) (jd (ee ps)) [fW 0]:=by
 have hf:=aRi (ps:=ps) (vs:=aZ ps) (λp hp=>⟨h.sz p hp,h.ne p hp⟩) (Q6 h.sz) (GV (n:=0) h.bound o_).2.2.1 (by have:=h.len;omega) (by have:=Mz ps h.len;omega);have iD:=aQR (aRz hc) (by have:=h.len;omega);refine V9 (k1:=3) (k2:=2) (k3:=4) mixed func83 (ED ps) 100 (N:=33) k_ (λw=>Xm h hc (aFg h hi [
  .step 27 (au f83 27) [.func (.func 145) #[] #[],sl 0 ps.length] [(3,none),(0,some (.view (bf ps)))] (sl 3 ps.length) [(3,.row (bf ps) 50 40)]
   (rS iD (.w (x:=.view (bf ps)) rfl (dx ps) jG .nil) (x:=.func 145) k_ k_ (dx ps) 3),
  .step 31 (au f83 31) [.func (.func 146) #[] #[],sl 0 ps.length,sl 2 (aZ ps).length] [(4,none),(0,some (.view (bf ps))),(2,some (.row (aN (aZ ps)) 38 30))] (.pointer (some ⟨4,0,some 9⟩)) [(4,.fact ((jd (ee ps)).mU w.heap.size))]
   (aNL (B:=aa.at w) (S:=w.heap.size) hf (.w (x:=.view (bf ps)) rfl (dx ps) jG (.w (x:=.row (aN (aZ ps)) 38 30) rfl (dC _) rU .nil)) (x:=.func 146) k_ k_ rfl (λw' hb=>Below.size hb) 4),
  .step 32 (au f83 32) [sl 3 ps.length,sl 2 (aZ ps).length,.pointer (some ⟨4,0,some 9⟩)] [] (.agg #[sl 3 ps.length,sl 2 (aZ ps).length,.pointer (some ⟨4,0,some 9⟩)]) [] (Qf (t:=26) (idx:=[0,1,2]) k_ (λit z h1 h2=>aFf h1 h2) k_)])) (λw=>?_) d_ (dx ps) (Ez ps) (dC _) (pY _) k_
 kernel_rfl
end
end
section
variable{P:j_}{B:aa}{N:Nat}
def aY.Q7(fn:Func)(key k j n m nm e size bytes off cc:Nat)(cells:ak)(q:Nat)(x:Obj)(new:ak)(kF:n+m=nm)(hx:x.reads=true)(hlen:((x.cells.drop off).take (m*size)).length=m*size)(jt:cells.length=n*size)(lE:cells++(x.cells.drop off).take (m*size)=new)
  (h1:∀ v∈x.cells,v.oneCell'=true) (bH:0<size) (h63:nm<=maxLen) (hb:nm*bytes<=140737488355328) (ho:Fx P (au fn key)=some (e,size,bytes,size,true)):aY P B N:=
 .step key (au fn key) [.slice (some ⟨j,0,some 7⟩) n 0,.slice (some ⟨q,off,some 7⟩) m cc] [(k,none),(j,some (.row cells e size)),(q,some x)] (.slice (some ⟨k,0,some 7⟩) nm 0) [(k,.row new e size),(j,.dead)] (by subst kF;have hs:CX B (.slice (some ⟨q,off,some 7⟩) m cc) m ((x.cells.drop off).take (m*size)) [(q,some x)]:=M9 (B:=B) (k:=q) (off:=off) (m:=m) (cc:=cc) hx (len:=m*size) (λh=>by rw[h,kQ]);have:=aAa (B:=B) ho bH hs hlen (λv hv=>h1 v (Xd (IM hv))) (j:=j) (n:=n) (cells:=cells) (vT jt.symm) h63 hb k;rw[kG (vT jt),lE]at this;exact this)
def aY.aRB(fn:Func)(key k n s:Nat)(ho:sQ P (au fn key)=some (true,false,s)):aY P B N:=
 .step key (au fn key) [.slice (some ⟨k,0,some 7⟩) n 0,vI 0] [] (.slice (some ⟨k,0,some 7⟩) n 0) [] (by have:=Hx (B:=B) ho (k:=k) (off:=0) (n:=n) (cc:=0) (l:=0) (h:=n) n_ (λ_=>rfl) (lG _) (bF _) (.inr rfl);simpa using this)
theorem aRC{s:Nat}(ho:sQ P o=some (true,false,s)){n:Nat}{x:Obj}(hx:x.kh=true)(j:Nat):
  cI P B o [.slice (some ⟨k,off,some 7⟩) n cc,vI n] [(j,none),(k,some x)] (.slice (some ⟨j,0,some 7⟩) 0 0) [(j,.view [])]:=by
 unfold sQ at ho;split at ho
 ·rename_i t y lo hi ck;split at ho
  ·rename_i e ht;split at ho
   ·rename_i i iF;injection ho with ho;injection ho with h1 ho;injection ho with h2 h3;cases lo with
    |none=>cases h1
    |some yl=>
    cases hi with
    |some yh=>cases h2
    |none=>
    refine iM.step λι c ρ w aU hm hn=>?_;have hj:c j=none:=hn (j,none) s_;have hk:c k=some x:=hn (k,some x) s_;rw[ck]at aU;obtain⟨u,u2,hu,hc,dq⟩:=js aU;have dS:ρ y=u:=by simp[Op.operands]at hu;exact hu.1
    have e8:ρ yl=u2:=by simp[Op.operands]at hu;exact hu.2
    have dq:=dq.fD rfl;have L5:∀ y code,n<=y->(Instr.sliceBound (.int .i64 n) y code).run P w=.ok n w:=by intro y code hq;have:(0:Int)<=n/\(n:Int)<=y:=⟨by omega,by omega⟩;simp[Instr.sliceBound,asIntOf,this]
    rcases hc.iC rfl with ⟨hb,kN,qt,zi,he⟩|⟨b,oo,cap,c',hb,k7,ni,he⟩
    ·refine⟨dR ι j .nil,.slice none 0 0,w,gZ (hm.dE j hj),.slcN (fX _ _ _),hm.add hj (.inl ⟨rfl,rfl⟩) n_ n_ n_,.inl ?_⟩;subst kN;have lp:∀ code,(Instr.sliceBound (.int .i64 0) 0 code).run P w=.ok 0 w:=λcode=>by simp[Instr.sliceBound,asIntOf]
     simp only[execOp,ck];simp[Instr.sliceAt,jM ht,Instr.slice,dS,e8,dq,he,vI,Instr.sliceBounds,lp,sizeOf,typeInfo,iF]
    ·dsimp only at hb he;obtain⟨o1,xF⟩:∃ o1,o1=(if c'=n then oo+off else oo+off+n*i.size):=⟨_,rfl⟩;have hsn:=hm.seen k x b oo cap hk hx hb;refine⟨dR ι j (.at b o1 (c'-n)),.slice (some ⟨b,o1+0,none⟩) 0 (c'-n),w,gZ (hm.dE j hj),.slc (fX _ _ _) (lG _) (kB _),hm.add hj (.inr ⟨b,o1,c'-n,[],rfl,.nil,λj u h=>by simp at h⟩) n_ n_ (λb1 o2 lY _ e=>?_),.inl ?_⟩
     ·injection e with e1 e2 e3;subst e1;exact hsn
     ·simp only[execOp,ck];by_cases iD:c'=n
      ·rw[aB iD]at xF;subst xF;subst iD;simp[Instr.sliceAt,jM ht,Instr.slice,dS,e8,dq,he,vI,Instr.sliceBounds,L5 c' _ (bF _),sizeOf,typeInfo,iF]
      ·rw[az iD]at xF;subst xF;simp[Instr.sliceAt,jM ht,Instr.slice,dS,e8,dq,he,vI,Instr.sliceBounds,L5 n _ (bF _),sizeOf,typeInfo,iF,iD,zg]
   ·cases ho
  ·cases ho
 ·cases ho
def aY.aRD(fn:Func)(key k off n cc s j:Nat)(x:Obj)(hx:x.kh=true)(ho:sQ P (au fn key)=some (true,false,s)):aY P B N:=
 .step key (au fn key) [.slice (some ⟨k,off,some 7⟩) n cc,vI n] [(j,none),(k,some x)] (.slice (some ⟨j,0,some 7⟩) 0 0) [(j,.view [])] (aRC ho hx j)
end
theorem bY.swap{R:α->β->Prop}{a a':α}(h:∀ b,R a b->R a' b):∀(pre:List α) {post:List α} {m:List β},bY R (pre++a::post) m->bY R (pre++a'::post) m
 |[],_,_,h1=>by cases h1 with|cons h2 h3=>exact .cons (h _ h2) h3
 |_::pre,_,_,h1=>by cases h1 with|cons h2 h3=>exact .cons h2 (bY.swap h pre h3)
theorem aFh(h:cY c M)(k:Nat)(x:Obj):cY (bt c k x) ((k,x)::M):=λj y e=>by
 unfold ai at e;unfold bt;split at e
 ·rename_i hb;injection e with e;subst e;rw[aB (k9 hb).symm]
 ·rename_i hb;rw[az (λe'=>hb (by rw[e'];exact Hu k))];exact h j y e
theorem aRE{n:Nat}(h:eK c n)(hk:k<n)(x:Obj):eK (bt c k x) n:=λj hj=>by unfold bt;rw[az o_];exact h j hj
section
variable{P:j_}{B:aa}{N:Nat}
theorem aO.aRF(hm:aO B ι c w){cells:ak}(hk:c k=some (.aK cells ty))(h:∀ cr,bY (aL ι) cells cr->bY (aL ι) cells' cr):aO B ι (bt c k (.aK cells' ty)) w:=by obtain⟨l,h1,b,cr,e1,e2,e3⟩:=hm.born k _ hk;subst e1;exact hm.write hk rfl h1 (.refl w) rfl rfl (bF _) (λ_ _ _=>rfl) ⟨b,cr,rfl,h _ e2,e3⟩ n_ rfl
theorem St.aRG{next:Nat}{a:Act}(h:St B N fr M next a w){tb:TypeId}(hk:ai M k=some (.aK (pre++.slice none 0 0::post) tb))(ty:TypeId)(s:Nat):
  St B N fr ((k,.aK (pre++.slice (some ⟨next,0,some 7⟩) 0 0::post) tb)::(next,.row [] ty s)::M) (next+1) a w:=by
 obtain⟨ι,cc,h1,h2,h3,h4⟩:=h;have hn:=h4 next (bF _);have hle:Map.le ι (dR ι next .nil):=gZ (h2.dE next hn);have Gy:=h3 k _ hk;have oF:k≠next:=λe=>by subst e;rw[hn]at Gy;cases Gy
 have al:k<next:=by
  rcases e9 k next with h|h
  ·exact h
  ·rw[h4 k h]at Gy;cases Gy
 have m1:aO B (dR ι next .nil) (bt cc next (.row [] ty s)) w:=h2.add hn (.inl ⟨rfl,rfl⟩) n_ n_ n_;have m2:=m1.aRF (k:=k) (cells:=pre++.slice none 0 0::post) (cells':=pre++.slice (some ⟨next,0,some 7⟩) 0 0::post) (ty:=tb) (by unfold bt;rw[az oF];exact Gy) λcr hc=>
  bY.swap (λb hb=>by rw[hb.fD rfl];exact .slcN (fX _ _ _)) pre hc
 refine⟨_,_,⟨h1.defers,h1.size,λt=>(h1.slot t).mono hle⟩,m2,aFh (aFh h3 _ _) _ _,aRE (λj hj=>?_) o_ _⟩;unfold bt;rw[az o_];exact h4 j o_
def aFi(P:j_)(f:FuncId)(lA s1 np:Nat)(xp:ak)(nv:Nat)(xv:ak)(F:Fact):Prop:=
 ∀ w v1 b o c,dp w v1 np xp->dp w (.slice (some ⟨b,o,none⟩) nv c) nv xv->Calls P f #[v1,.slice (some ⟨b,o,none⟩) nv c] w λe w'=>∃ u1 u3,e=.returned (.agg #[u1,.slice (some ⟨b,o,none⟩) nv c,u3])/\
  w'.ownsRow w.heap.size lA s1 u1 np xp/\Cf w' u3 F/\(∀ b,F.cW u3 w' b->w.heap.size<=b)/\(∀ b,iU u1=some b->¬F.cW u3 w' b)/\Below w.heap.size w w'
theorem aRH{F:Fact}{a1 a2:i_}{nd:q_}{x:m_}{S:Nat}(h:aFi P f n2 A np xp nv eW F)(hs:gA B [.r np xp,.r nv eW] [a1,a2] nd)(ho:dF o.op=some x)(fe:gg P f=true)(xc:F.rc=false)
  (f1:(xp.all flat)=true) (hnv:0<nv) (hS:∀ w,B.G w->S<=w.heap.size) (k:Nat) :
  cI P B o (.func (.func f) #[] #[]::[a1,a2]) ((k,none)::(k+1,none)::nd) (.agg #[.slice (some ⟨k,0,some 7⟩) np 0,a2,.pointer (some ⟨k+1,0,some 9⟩)])
   [(k+1,.fact (F.mU S)),(k,.row xp n2 A)]:=by
 have:=jY (P:=P) (B:=B) (o:=o) (x:=x) (f:=f) (fi:=[]) (args:=[a1,a2]) (ca:=[]) (need:=(k,none)::(k+1,none)::nd)
  (val:=.agg #[.slice (some ⟨k,0,some 7⟩) np 0,a2,.pointer (some ⟨k+1,0,some 9⟩)]) (cZ:=[(k+1,.fact (F.mU S)),(k,.row xp n2 A)]) ho fe ?_
 ·simpa using this
 ·intro ι c w hm hn args' ha;rw[ju,jO]at ha;have k0:c k=none:=hn (k,none) s_;have k1:c (k+1)=none:=hn (k+1,none) s_;have cC:=Ch hs hm (λp hp=>hn p (by simp[hp])) ha;obtain⟨v1,v2,rfl,ca1,Zx⟩:=js ha;cases cC with
  |cons i1 cC=>
  cases cC with
  |cons i2 _=>
  have i1:dp w v1 np xp:=i1;have i2:dp w v2 nv eW:=i2;have i3:=i2;rcases i2 with ⟨_,e,_⟩|⟨b,o',c',rfl,_⟩
  ·omega
  refine(h w v1 b o' c' i1 i3).mono ?_
  rintro e w' ⟨u1,u3,rfl,r1,r3,f3,Qr,hb⟩
  have LY:=hS w hm.base;have vJ:=hm.call hb;have da:∀ j y b o cap,c j=some y->ι j=some (.at b o cap)->y.owns=true\/y.kh=true->b<w.heap.size:=λj y b o cap hj hl hy=>by
   rcases hy with hy|hy
   ·exact(hm.own j y b o cap hj hy hl).1
   ·exact(hm.seen j y b o cap hj hy hl).1
  have Qs:∀ j F u b,c j=some (.fact F)->ι j=some (.val u)->F.cW u w' b->b<w.heap.size:=λj F u b hj hu hF=>by have hF:=hm.CU hj hu hb.size (λk hk _=>hb.block k hk) hF;obtain⟨l,q1,q2⟩:=hm.born j _ hj;rw[hu]at q1;injection q1 with q1;exact q2.xb q1.symm hF
  have L0:∀ b,iU u1=some b->w.heap.size<=b:=λb hb=>by
   rcases r1.2 with ⟨h1,_⟩|⟨g,cap,cur,h1,h2,_⟩
   ·rw[h1]at hb;cases hb
   ·rw[h1]at hb;injection hb with hb;subst hb;exact h2
  have Qt:∀ b,B.cW b->b<w.heap.size:=λb hF=>B.lt w b hm.base hF;obtain⟨bZ,l1,m1,c1,p1⟩:=Wa vJ k0 r1 f1 Qt (λj y b o cap hj hl hy e=>by have a:=da j y b o cap hj hl hy;have b:=L0 b e;omega) (λj F u b hj hu e hF=>by have a:=Qs j F u b hj hu hF;have b:=L0 b e;omega);have back:∀ j y l,c j=some y->bZ j=some l->ι j=some l:=λj y l hj hl=>by obtain⟨l',cA,_⟩:=vJ.born j y hj;have:=l1 j l' cA;rw[hl]at this;injection this with this;rw[this];exact cA
  have Qu:bt c k (.row xp n2 A) (k+1)=none:=by unfold bt;rw[az o_];exact k1
  have L3:∀ j y,bt c k (.row xp n2 A) j=some y->(j=k/\y=.row xp n2 A)\/(j≠k/\c j=some y):=λj y hj=>by
   unfold bt at hj;by_cases cg:j=k
   ·rw[aB cg]at hj;injection hj with hj;exact .inl ⟨cg,hj.symm⟩
   ·rw[az cg]at hj;exact .inr ⟨cg,hj⟩
  have m3:aO B (dR bZ (k+1) (.val u3)) (bt (bt c k (.row xp n2 A)) (k+1) (.fact (F.mU S))) w':=
   m1.add Qu ⟨u3,rfl,r3.1,λb hF=>dh LY (f3 b hF)⟩ n_ (λF' v b e1 e2 hF j y o' aQ hj hy he=>by
    injection e1 with e1;subst e1;injection e2 with e2;subst e2;have hF:F.cW u3 w' b:=hF;rcases L3 j y hj with ⟨rfl,rfl⟩|⟨_,hj⟩
    ·exact Qr b (p1 b o' aQ he) hF
    ·have h1:=da j y b o' aQ hj (back j y _ hj he) (.inl hy);have h2:=f3 b hF;omega) n_ λF' e hr=>by
    injection e with e;subst e;have:F.rc=true:=hr;rw[xc]at this;cases this
  have l3:Map.le bZ (dR bZ (k+1) (.val u3)):=gZ (m1.dE _ Qu);exact⟨_,_,rfl,l1.trans l3,.agg (.cons (c1.mono l3) (.cons (Zx.mono (l1.trans l3)) (.cons (.opq (fX _ _ _) r3.2.1 r3.2.2) .nil))),m3⟩
end
section
variable{P:j_}{B:aa}{N:Nat}
end
section
variable{P:j_}{B:aa}{N:Nat}
end
def oj(w:h_)(v:i_)(n:Nat)(xs:ak):Prop:=dp w v n xs\/(n=0/\∃ a,v=.slice (some a) 0 0)
theorem Xn{l:List Int}(h:oj w u l.length (fN l))(hs:w.heap.size<=w'.heap.size)(hk:0<l.length->∀ b,iU u=some b->yp w w' b):oj w' u l.length (fN l):=by
 rcases h with h|h
 ·rcases nU l.length with h0|h0
  ·rcases h with h|⟨b,o,c,h1,h2,h3,h4⟩
   ·exact .inl (.inl h)
   ·refine .inl (.inr ⟨b,o,c,h1,h2,cF h3 hs,λj u hj=>?_⟩);rw[k8 h0]at hj;simp[fN]at hj
  ·exact .inl (h.kept hs (hk h0))
 ·exact .inr h
theorem oj.lt{n:Nat}(h:oj w u n xs)(h0:0<n)(hb:iU u=some b):b<w.heap.size:=by
 rcases h with h|⟨h,_⟩
 ·exact h.lt hb
 ·omega
theorem oj.row{n:Nat}(h:oj w u n xs)(h0:0<n):dp w u n xs:=by
 rcases h with h|⟨h,_⟩
 ·exact h
 ·omega
theorem oj.one{n:Nat}(h:oj w u n xs):u.cells=#[u]/\u.oneCell'=true:=by rcases h with (⟨e,_⟩|⟨_,_,_,e,_⟩)|⟨_,_,e⟩<;>rw[e]<;>exact⟨rfl,rfl⟩
theorem oj.form{n:Nat}(h:oj w u n xs):(u=.slice none 0 0/\n=0)\/∃ a c,u=.slice (some a) n c:=by
 rcases h with (⟨e,e2,_⟩|⟨_,_,_,e,_⟩)|⟨e1,_,e⟩
 ·exact .inl ⟨e,e2⟩
 ·exact .inr ⟨_,_,e⟩
 ·subst e1;exact .inr ⟨_,_,e⟩
def eA(l:List Int):Fact where
 G u w:=oj w u l.length (fN l)
 cW u w k:=0<l.length/\iU u=some k
 lt u w k h hF:=h.lt hF.1 hF.2
 dep u w w' h hs hk:=⟨Xn h hs λh0 b hb cs ty f hc=>(hk b ⟨h0,hb⟩).trans hc,λk hF=>hF⟩
 soft _ u w w' h hs hk:=⟨Xn h hs λh0 b hb=>hk b ⟨h0,hb⟩,λk hF=>hF⟩
inductive sn(w:h_):f_->ak->Prop
 |nil:sn w [] []
 |cons {i:Int} {l:List Int} {u:i_} {fs:f_} {cs:ak}:oj w u l.length (fN l)->sn w fs cs->sn w ((i,l)::fs) (iV i::u::cs)
theorem sn.length{cs:ak}(h:sn w fs cs):cs.length=fs.length*2:=by
 induction h with
 |nil=>rfl
 |cons _ _ ih=>simp only[qm,ih];omega
theorem aFj{w:h_}:∀{fs:f_} {cs:ak},sn w fs cs->∀{i:Nat} {f:Int×List Int},fs[i]?=some f->∃ u,cs[i*2]?=some (iV f.1)/\cs[i*2+1]?=some u/\oj w u f.2.length (fN f.2)
 |_,_,.nil,i,f,h=>by simp at h
 |_,_,.cons (u:=u) h1 h2,0,f,h=>by simp at h;subst h;exact⟨u,rfl,rfl,h1⟩
 |_,_,.cons h1 h2,i+1,f,h=>by
  obtain⟨u,q1,q2,q3⟩:=aFj h2 (i:=i) (by simpa using h);refine⟨u,?_,?_,q3⟩
  ·rw[show(i+1)*2=i*2+2 by omega];exact q1
  ·rw[show(i+1)*2+1=i*2+1+2 by omega];exact q2
def MA(u:i_)(k:Nat):Prop:=∃ a n c,u=.slice (some a) n c/\0<n/\a.block=k
theorem aRI(h:MA u k):iU u=some k:=by obtain⟨a,n,c,rfl,_,e⟩:=h;show some a.block=_;rw[e]
theorem sn.kept{cs:ak}(h:sn w fs cs)(hs:w.heap.size<=w'.heap.size)(hk:∀ u∈cs,∀ b,MA u b->yp w w' b):sn w' fs cs:=by
 induction h with
 |nil=>exact .nil
 |cons h1 _ ih=>
  refine .cons (Xn h1 hs λh0 b hb=>hk _ (bI _ (aR ..)) b ?_) (ih λu hu=>hk u (bI _ (bI _ hu)));rcases h1.form with ⟨e,e2⟩|⟨a,c,e⟩
  ·omega
  ·subst e;injection hb with hb;exact⟨a,_,c,rfl,h0,hb⟩
theorem sn.lt{cs:ak}(h:sn w fs cs):∀ u∈cs,∀ b,MA u b->b<w.heap.size:=by
 induction h with
 |nil=>intro u hu;cases hu
 |cons h1 _ ih=>
  intro u hu b hb;rcases cD.1 hu with rfl|hu
  ·obtain⟨a,n,c,e,_⟩:=hb;cases e
  ·rcases cD.1 hu with rfl|hu
   ·obtain⟨a,n,c,e,h0,e2⟩:=hb;rcases h1.form with ⟨e',e3⟩|⟨a',c',e'⟩
    ·rw[e']at e;cases e
    ·rw[e']at e;injection e with e1 Dg e3;subst Dg;exact h1.lt h0 (by rw[e'];injection e1 with e1;subst e1;show some a'.block=_;rw[e2])
   ·exact ih u hu b hb
def Q8(w:h_)(v:i_)(fs:f_):Prop:=∃ cs,dp w v fs.length cs/\sn w fs cs
def Q9(n:Nat)(v:i_)(w:h_)(k:Nat):Prop:=
 iU v=some k\/∃ b o c j u,v=.slice (some ⟨b,o,none⟩) n c/\j<n*2/\w.cell? ⟨b,o+j,none⟩=some u/\MA u k
theorem aRJ{v:i_}{cs:ak}(h1:dp w v fs.length cs)(h2:sn w fs cs){o c:Nat}(hv:v=.slice (some ⟨b,o,none⟩) fs.length c)(hj:j<fs.length*2)(hu:w.cell? ⟨b,o+j,none⟩=some u):u∈cs:=by
 rcases h1 with ⟨h,_⟩|⟨b',o',c',e,_,_,h4⟩
 ·rw[h]at hv;cases hv
 ·rw[e]at hv;injection hv with hv _ _;injection hv with hv;injection hv with e1 e2 _;subst e1;subst e2;have al:j<cs.length:=by rw[h2.length];exact hj
  have nZ:cs[j]?=some cs[j]:=aW al;have:=h4 j _ nZ;rw[hu]at this;injection this with this;rw[this];exact df al
theorem aFk{v:i_}(h:Q8 w v fs)(hs:w.heap.size<=w'.heap.size)(hk:∀ k,Q9 fs.length v w k->yp w w' k):
  Q8 w' v fs/\∀ k,Q9 fs.length v w' k->Q9 fs.length v w k:=by
 obtain⟨cs,h1,h2⟩:=h;have IQ:∀ b,iU v=some b->yp w w' b:=λb hb=>hk b (.inl hb);have Qi:∀ u∈cs,∀ b,MA u b->yp w w' b:=λu hu b hb=>by
  rcases h1 with ⟨_,_,h⟩|⟨b',o',c',e,_,_,h4⟩
  ·rw[h]at hu;cases hu
  ·obtain⟨j,hj,rfl⟩:=lS hu;refine hk b (.inr ⟨b',o',c',j,_,e,by rw[<-h2.length];exact hj,h4 j _ (aW hj),hb⟩)
 refine⟨⟨cs,h1.kept hs IQ,h2.kept hs Qi⟩,λk hF=>?_⟩;rcases hF with hF|⟨b,o,c,j,u,e,hj,hc,hb⟩
 ·exact .inl hF
 ·rcases h1 with ⟨h,_⟩|⟨b',o',c',e',_,_,h4⟩
  ·rw[h]at e;cases e
  ·rw[e']at e;injection e with e1 _ e3;injection e1 with e1;injection e1 with e1 e2 _;subst e1;subst e2;subst e3;have al:j<cs.length:=by rw[h2.length];exact hj
   have h5:=h4 j _ (aW al);have h6:=V0 (IQ b' (by rw[e'];rfl)) h5;rw[hc]at h6;injection h6 with h6;exact .inr ⟨b',o',c',j,u,e',hj,by rw[h6];exact h5,hb⟩
def iX(fs:f_):Fact where
 G v w:=Q8 w v fs
 cW v w k:=Q9 fs.length v w k
 lt v w k h hF:=by
  obtain⟨cs,h1,h2⟩:=h;rcases hF with hF|⟨b,o,c,j,u,e,hj,hc,hb⟩
  ·exact h1.lt hF
  ·exact h2.lt u (aRJ h1 h2 e hj hc) k hb
 dep v w w' h hs hk:=aFk h hs λk hF cs ty f hc=>(hk k hF).trans hc
 soft _ v w w' h hs hk:=aFk h hs hk
structure tP(fs:f_)(F:Fact):Prop where
 G:∀ v w,F.G v w->(iX fs).G v w
 cW:∀ v w k,(iX fs).cW v w k->F.cW v w k
theorem tP.self(fs:f_):tP fs (iX fs):=⟨λ_ _ h=>h,λ_ _ _ h=>h⟩
theorem oP.aRK{cs:ak}(h:oP w fs cs):sn w fs cs:=by
 induction h with
 |nil=>exact .nil
 |cons h1 _ _ ih=>exact .cons (.inl h1) ih
theorem tP.full(fs:f_):tP fs (jd fs):=by
 refine⟨λv w h=>?_,λv w k h=>?_⟩
 ·obtain⟨cs,h1,h2⟩:=h;exact⟨cs,h1,h2.aRK⟩
 ·rcases h with h|⟨b,o,c,j,u,e,hj,hc,hb⟩
  ·exact .inl h
  ·exact .inr ⟨b,o,c,j,u,e,hj,hc,aRI hb⟩
theorem aRL{v:i_}(h:Q8 w v fs)(hl:∀ f∈fs,0<f.2.length):LQ w v fs:=by
 obtain⟨cs,h1,h2⟩:=h;refine⟨cs,h1,?_⟩;clear h1;induction h2 with
 |nil=>exact .nil
 |cons h3 _ ih=>
  have hr:=h3.row (hl _ (aR ..));refine .cons hr ?_ (ih λf hf=>hl f (bI _ hf));rcases hr with ⟨e,_⟩|⟨_,_,_,e,_⟩<;>rw[e]<;>rfl
section
variable{P:j_}{B:aa}{N:Nat}
theorem vN(ho:LX P o=true){F:Fact}(hF:tP fs F):cI P B o [.pointer (some ⟨k,0,some 9⟩)] [(k,some (.fact F))] (vI fs.length) []:=by
 obtain⟨x,t,e,ck,ht⟩:=aDn ho;refine iM.step λι c ρ w aU hm oW=>?_;rw[ck]at aU;obtain⟨u,hu,hc⟩:=nP aU;have hu:ρ x=u:=by simpa[Op.operands,Call.operands]using hu
 have GW:=Ah hm (oW (k,_) (aR ..)) hc;obtain⟨cs,hr,_⟩:=hF.G _ _ GW.1;refine⟨ι,vI fs.length,w,Map.le.refl _,.same rfl,hm,.inl ?_⟩;rcases hr with ⟨q1,q2,_⟩|⟨b,o',c',q1,_⟩
 ·subst q1;simp[execOp,ck,resolve,invoke,builtin,Builtin.len_,hu,jM ht,goInt,q2,vI]
 ·subst q1;simp[execOp,ck,resolve,invoke,builtin,Builtin.len_,hu,jM ht,goInt,vI]
theorem vO(ho:LX P o=true){l:List Int}:cI P B o [.pointer (some ⟨k,0,some 9⟩)] [(k,some (.fact (eA l)))] (vI l.length) []:=by
 obtain⟨x,t,e,ck,ht⟩:=aDn ho;refine iM.step λι c ρ w aU hm oW=>?_;rw[ck]at aU;obtain⟨u,hu,hc⟩:=nP aU;have hu:ρ x=u:=by simpa[Op.operands,Call.operands]using hu
 have GW:=Ah hm (oW (k,_) (aR ..)) hc;have hw:oj w u l.length (fN l):=GW.1;refine⟨ι,vI l.length,w,Map.le.refl _,.same rfl,hm,.inl ?_⟩;rcases hw.form with ⟨q1,q2⟩|⟨a,c',q1⟩
 ·subst q1;simp[execOp,ck,resolve,invoke,builtin,Builtin.len_,hu,jM ht,goInt,q2,vI]
 ·subst q1;simp[execOp,ck,resolve,invoke,builtin,Builtin.len_,hu,jM ht,goInt,vI]
theorem GX(ho:xn P o=some 2){f:Int×List Int}{F:Fact}(hF:tP fs F)(hi:fs[i]?=some f)(IV:m<k):
  cI P B o [.pointer (some ⟨m,0,some 9⟩),vI i] [(k,none),(k+1,none),(m,some (.fact F))] (.pointer (some ⟨k,0,some 7⟩)) [(k,.view [iV f.1,.pointer (some ⟨k+1,0,some 9⟩)]),(k+1,.fact (eA f.2))]:=by
 unfold xn at ho;split at ho
 ·rename_i t x y ck;split at ho
  ·rename_i e ht;split at ho
   ·rename_i inf Bg;injection ho with ho;refine iM.step λι c ρ w aU hm oW=>?_;rw[ck]at aU;obtain⟨v,v2,hu,hc,dq⟩:=js aU;have dS:ρ x=v:=by simp[Op.operands]at hu;exact hu.1
    have e8:ρ y=v2:=by simp[Op.operands]at hu;exact hu.2
    have dq:=dq.fD rfl;have GY:c m=some (.fact F):=oW (m,some (.fact F)) s_;have k0:c k=none:=oW (k,none) s_;have k1:c (k+1)=none:=oW (k+1,none) s_;have GW:=Ah hm GY hc;have loc:ι m=some (.val v):=by
     obtain⟨lc,q1,u,q2,q3⟩:=hm.born m _ GY;subst q2;generalize hp:Value.pointer (some ⟨m,0,some 9⟩)=p at hc;cases hc with
     |same h=>subst hp;cases h
     |ptr h=>injection hp with hp;injection hp with hp;injection hp with _ _ hp;cases hp
     |slc h=>cases hp
     |slcN h=>cases hp
     |opq h4 h5 h6=>injection hp with hp;injection hp with hp;injection hp with iY;subst iY;exact h4
     |fn=>cases hp
     |agg=>cases hp
     |tup=>cases hp
    obtain⟨cs,hr,jt⟩:=hF.G _ _ GW.1;obtain⟨u,a1,a2,a3⟩:=aFj jt hi;have al:=(dZ.1 hi).1;rcases hr with ⟨_,q2,_⟩|⟨b,o',c',q1,q2,q3,q4⟩
    ·omega
    have own:∀ bb,F.cW v w bb->∀ j y o' aQ,c j=some y->y.owns=true->ι j≠some (.at bb o' aQ):=λbb hb j y o1 lY hj hy he=>hm.apart j m y F bb o1 lY v hj hy he GY loc hb;have hFb:F.cW v w b:=hF.cW _ _ _ (.inl (by rw[q1];rfl));have hFu:∀ bb,(eA f.2).cW u w bb->F.cW v w bb:=λbb hb=>hF.cW _ _ _ (.inr ⟨b,o',c',i*2+1,u,q1,by omega,q4 _ _ a2,by
     obtain⟨h0,hb⟩:=hb;rcases a3.form with ⟨e',e2⟩|⟨a,c2,e'⟩
     ·omega
     ·subst e';injection hb with hb;exact⟨a,_,c2,rfl,h0,hb⟩⟩)
    have m1:aO B (dR ι (k+1) (.val u)) (bt c (k+1) (.fact (eA f.2))) w:=hm.add k1 ⟨u,rfl,a3⟩ n_ (λF' v' b' e1 e2 hb j y o1 lY hj hy he=>by injection e1 with e1;subst e1;injection e2 with e2;subst e2;exact own b' (hFu b' hb) j y o1 lY hj hy he) n_ λF' e hr=>by injection e with e;subst e;cases hr
    have k0':bt c (k+1) (.fact (eA f.2)) k=none:=by unfold bt;rw[az o_];exact k0
    have l1:Map.le ι (dR ι (k+1) (.val u)):=gZ (hm.dE _ k1);have cu:aL (dR ι (k+1) (.val u)) (.pointer (some ⟨k+1,0,some 9⟩)) u:=.opq (fX _ _ _) a3.one.1 a3.one.2;have l2:Map.le (dR ι (k+1) (.val u)) (dR (dR ι (k+1) (.val u)) k (.at b (o'+i*2) 0)):=gZ (m1.dE _ k0');have back:∀ j y b' o1 lY,bt c (k+1) (.fact (eA f.2)) j=some y->y.owns=true->dR ι (k+1) (.val u) j=some (.at b' o1 lY)->c j=some y/\ι j=some (.at b' o1 lY):=λj y b' o1 lY hj hy he=>by
     unfold bt at hj;unfold dR at he;by_cases cg:j=k+1
     ·rw[aB cg]at hj;injection hj with hj;subst hj;cases hy
     ·rw[az cg]at hj he;exact⟨hj,he⟩
    have m2:aO B (dR (dR ι (k+1) (.val u)) k (.at b (o'+i*2) 0)) (bt (bt c (k+1) (.fact (eA f.2))) k (.view [iV f.1,.pointer (some ⟨k+1,0,some 9⟩)])) w:=
     m1.add k0' (.inr ⟨b,o'+i*2,0,[iV f.1,u],rfl,.cons (.same rfl) (.cons (cu.mono l2) .nil),λj x hj=>by
      cases j with
      |zero=>simp at hj;subst hj;have:=q4 _ _ a1;simpa using this
      |succ j=>cases j with
       |zero=>simp at hj;subst hj;have:=q4 _ _ a2;rw[uW];exact this
       |succ j=>simp at hj⟩) n_ n_ (λb1 o1 lY _ e=>by
      injection e with e1 e2 e3;subst e1;exact⟨q3,λj y o2 ql hj hy he=>by obtain⟨hj,he⟩:=back j y b o2 ql hj hy he;exact own b hFb j y o2 ql hj hy he⟩)
    refine⟨_,.pointer (some ⟨b,o'+i*2,none⟩),w,l1.trans l2,?_,m2,.inl ?_⟩
    ·have:=aL.ptr (off:=0) (fX (dR ι (k+1) (.val u)) k (.at b (o'+i*2) 0));rwa[jg]at this
    ·subst q1;simp only[execOp,ck,dS,e8,dq];have h0:(0:Int)<=(i:Int):=by omega
     simp[Instr.indexAt,asIntOf,jM ht,sizeOf,typeInfo,Bg,h0,zg,vI,ho];intro ga;omega
   ·cases ho
  ·cases ho
 ·cases ho
end
section
open V3 (dot af bA smul)
theorem cy.Xo{x1 x2:ak}{F F':Fact}(h:cy P f (.s n1 x1 n2 x2 F::l) res)(hF:∀ v w,F'.G v w->F.G v w):cy P f (.s n1 x1 n2 x2 F'::l) res:=by
 intro w vs cC;cases cC with
 |cons h1 h2=>
  obtain⟨u1,u2,u3,e,r1,r2,r3⟩:=h1;exact h w _ (.cons ⟨u1,u2,u3,e,r1,r2,hF _ _ r3.1,r3.2⟩ h2)
theorem aFl(fs:f_)(S:Nat):∀ v w,((jd fs).mU S).G v w->(iX fs).G v w:=λv w h=>(tP.full fs).G v w h.1
def cK(k:Nat):Value:=.pointer (some ⟨k,0,some 9⟩)
theorem aFm{x y:Nat}(h:decide (x≠y)=t):Value.bool ((x:Int)!=(y:Int))=.bool t:=by
 rw[<-h];congr 1
 by_cases e:x=y
 ·subst e;simp
 ·rw[aJ e,rJ];omega
theorem aRM{a b:List Int}(h63:a.length<9223372036854775807):cy prog 85 [.o (eA a),.o (eA b)] (.bool (decide (a=b))):=by
 have aC:([aP.o (eA a),.o (eA b)].all aP.ok)=true:=rfl;by_cases hl:a.length=b.length
 ·rcases nU a.length with h0|h0
  ·have ha:=k8 h0;have hb:=k8 (hl▸h0);subst ha;subst hb;exact dj func85 aC 26 (λw=>[.step 7 (au f85 7) [cK 0] [(0,some (.fact (eA [])))] (vI 0) [] (vO k_),.step 9 (au f85 9) [cK 1] [(1,some (.fact (eA [])))] (vI 0) [] (vO k_),.step 12 (au f85 12) [cK 0] [(0,some (.fact (eA [])))] (vI 0) [] (vO k_)])
  ·intro w vs cC;cases cC with
   |cons h1 cC=>
   cases cC with
   |cons h2 cC=>
   cases cC;have r1:dp w _ a.length (fN a):=oj.row h1.1 h0;have r2:dp w _ b.length (fN b):=oj.row h2.1 o_;exact aNk h63 w _ (.cons r1 (.cons r2 .nil))
 ·have b9:a≠b:=λh=>hl (by rw[h]);rw[bd b9];exact dj func85 aC 26 (λw=>[.step 7 (au f85 7) [cK 0] [(0,some (.fact (eA a)))] (vI a.length) [] (vO k_),.step 9 (au f85 9) [cK 1] [(1,some (.fact (eA b)))] (vI b.length) [] (vO k_),.rw 10 _ b_ (aFm (x:=a.length) (y:=b.length) (by simp[hl]))])
theorem aRN{i j:Int}{l l':List Int}(h63:l.length<9223372036854775807):cy prog 84 [.c (iV i) (eA l),.c (iV j) (eA l')] (.bool (decide ((i,l)=(j,l')))):=by
 have aC:([aP.c (iV i) (eA l),.c (iV j) (eA l')].all aP.ok)=true:=rfl;have he:=aRM (a:=l) (b:=l') h63;have e1:decide ((i,l)=(j,l'))=(decide (i=j)&&decide (l=l')):=by rw[<-Bool.decide_and];exact qx.2 s_
 have e0:(Value.bool (i==j))=.bool (decide (i=j)):=rfl;rw[e1];generalize decide (i=j)=s at *;generalize decide (l=l')=t at *;refine jC mixed func84 aC 100 (N:=17) k_ (λw=>[.rw 9 _ _ e0,.step 15 (au f84 15) [.func (.func 85) #[] #[],cK 0,cK 1] [(0,some (.fact (eA l))),(1,some (.fact (eA l')))] (.bool t) [] (dD he (.o (.o .nil)) (x:=.func 85) k_ k_ rfl)]) (λ_=>?_) ?_<;>cases s<;>kernel_rfl
section
variable{Bs:aa}{fs fs':f_}
def MB:Value:=.func (.func 84) #[] #[]
def AU(n i:Nat):aT:=[(17,vI i),(15,cK 0),(16,vI n),(1,cK 1),(2,MB)]
def su(fs fs':f_):aM:=[(0,.fact (iX fs)),(1,.fact (iX fs'))]
theorem aRO:∀ x∈su fs fs',fE 2 x.2:=λx hx=>by simp only[su,cD,jE,jF]at hx;rcases hx with rfl|rfl<;>exact λv hv=>(by cases hv)
noncomputable def efS{n:Nat}{f:Int×List Int}(hi:i<n)(h1:fs[i]?=some f)(h2:fs'[i]?=some f')(h63:f.2.length<9223372036854775807)(ht:decide (f=f')=t)(more:bM prog Bs 32):bM prog Bs 32:=
 .lt 18 i n true (aJ hi)::.step 20 (au f87 20) [cK 0,vI i] [(2,none),(2+1,none),(0,some (.fact (iX fs)))] (.pointer (some ⟨2,0,some 7⟩)) [(2,.view [iV f.1,cK 3]),(2+1,.fact (eA f.2))] (GX k_ (.self fs) h1 d_)::
 .step 24 (au f87 24) [cK 1,vI i] [(5,none),(5+1,none),(1,some (.fact (iX fs')))] (.pointer (some ⟨5,0,some 7⟩)) [(5,.view [iV f'.1,cK 6]),(5+1,.fact (eA f'.2))] (GX k_ (.self fs') h2 d_)::
 .step 29 (au f87 29) [MB,.agg #[iV f.1,cK 3],.agg #[iV f'.1,cK 6]] [(3,some (.fact (eA f.2))),(6,some (.fact (eA f'.2)))] (.bool t) [] (dD (ht▸aRN (i:=f.1) (j:=f'.1) h63) (.c rfl (λ_ _ h=>h) (.c rfl (λ_ _ h=>h) .nil)) (x:=.tmp 26) k_ k_ rfl)::more
theorem aRP{n:Nat}{f:Int×List Int}(hi:i<n)(h1:fs[i]?=some f)(h2:fs'[i]?=some f)(h63:f.2.length<9223372036854775807)(aRQ:n<9223372036854775807):ah prog Bs 32 (aI (ag f87 0)) (AU n i) (su fs fs') 2 ⟨.normal,AU n (i+1),su fs fs',2⟩:=
 ua mixed 100 (gN:=8) (efS hi h1 h2 h63 (t:=true) s_ [.sum 31 i 1 (i+1) rfl o_]) k_ rfl k_ aRO k_
theorem aRR{n:Nat}{f:Int×List Int}(hi:i<n)(h1:fs[i]?=some f)(h2:fs'[i]?=some f')(h63:f.2.length<9223372036854775807)(ht:f≠f'):ah prog Bs 32 (aI (ag f87 0)) (AU n i) (su fs fs') 2 ⟨.ret,[(6,.bool false)],su fs fs',8⟩:=
 aD (efS hi h1 h2 h63 (bd ht) [])
theorem aRS{n:Nat}:ah prog Bs 32 (aI (ag f87 0)) (AU n n) (su fs fs') 2 ⟨.exit 0,[],su fs fs',2⟩:=
 aD [.lt 18 n n false s_]
noncomputable def Xp(ht:decide (fs.length≠fs'.length)=t)(more:bM prog Bs 32):bM prog Bs 32:=
 .step 11 (au f87 11) [cK 0] [(0,some (.fact (iX fs)))] (vI fs.length) [] (vN k_ (.self fs))::.step 13 (au f87 13) [cK 1] [(1,some (.fact (iX fs')))] (vI fs'.length) [] (vN k_ (.self fs'))::.rw 14 _ (.bool t) (aFm ht)::more
theorem aRT(h63:fs.length<9223372036854775807)(rh:∀ f∈fs,f.2.length<9223372036854775807):cy prog 87 [.o (iX fs),.o (iX fs'),.p MB] (.bool (decide (fs=fs'))):=by
 have aC:([aP.o (iX fs),.o (iX fs'),.p MB].all aP.ok)=true:=rfl;by_cases hl:fs.length=fs'.length
 ·have qR:∀(B:aa) e,e<=fs.length->(∀ i x y,i<e->fs[i]?=some x->fs'[i]?=some y->x=y)->∀ i,i<e->ah prog B 32 (aI (ag f87 0)) (AU fs.length i) (su fs fs') 2 ⟨.normal,AU fs.length (i+1),su fs fs',2⟩:=λB e he h4 i hi=>by have hx:fs[i]?=some fs[i]:=aW o_;have hy:fs'[i]?=some fs'[i]:=aW o_;have:=h4 i _ _ hi hx hy;rw[<-this]at hy;exact aRP o_ hx hy (rh _ (df _)) h63
  rcases Ea fs fs' hl with h|⟨e,x,y,q1,q2,q3,q4⟩
  ·have lo:∀ B:aa,ah prog B 32 (.block 0 (ag f87 0)) (AU fs.length 0) (su fs fs') 2 ⟨.normal,[],su fs fs',2⟩:=λB=>
    cd (id:=0) (cx fs.length (λi=>AU fs.length i) (λ_=>su fs fs') (λi k _=>Iff.rfl) (qR B fs.length (bF _) λi x y _ hx hy=>by rw[h,hy]at hx;injection hx with hx;exact hx.symm) aRS n_)
   rw[aJ h];exact dj func87 aC 32 (λw=>Xp (fs:=fs) (fs':=fs') (t:=false) (by simp[hl]) [.step 16 (au f87 16) [cK 0] [(0,some (.fact (iX fs)))] (vI fs.length) [] (vN k_ (.self fs)),.code 0 _ _ _ _ _ (lo _)])
  ·have b9:fs≠fs':=λh=>by subst h;rw[q1]at q2;injection q2 with q2;exact q3 q2
   rw[bd b9];have al:=(dZ.1 q1).1;have lo:∀ B:aa,ah prog B 32 (.block 0 (ag f87 0)) (AU fs.length 0) (su fs fs') 2 ⟨.ret,[(6,.bool false)],su fs fs',8⟩:=λB=>
    cd (id:=0) (cx e (λi=>AU fs.length i) (λ_=>su fs fs') (λi k _=>Iff.rfl) (qR B e o_ q4) (aRR al q1 q2 (rh _ (cL q1)) q3) n_)
   exact dj func87 aC 32 (λw=>Xp (fs:=fs) (fs':=fs') (t:=false) (by simp[hl]) [.step 16 (au f87 16) [cK 0] [(0,some (.fact (iX fs)))] (vI fs.length) [] (vN k_ (.self fs)),.code 0 _ _ _ _ _ (lo _)])
 ·have b9:fs≠fs':=λh=>hl (by rw[h]);rw[bd b9];exact dj func87 aC 32 (λw=>Xp (fs:=fs) (fs':=fs') (t:=true) (by simp[hl]) [])
end
end
theorem aFn{t:TypeId}{s:Nat}(ht:IK P t=some s){cells:ak}(hl:off+s<=cells.length):dM P t cells off=some (.agg ((cells.drop off).take s).toArray):=by
 unfold IK at ht;split at ht
 ·rename_i d inf h1 h2;split at ht
  ·rename_i hr;injection ht with ht;unfold dM;rw[h1,h2];dsimp only;rw[aB hr,ht,aB (by rw[Nat.ble_eq];exact hl)]
  ·cases ht
 ·cases ht
theorem aFo{l:List RP}{p:RP}(h:l[i]?=some p):i*40+40<=(dw l).length:=by rw[uy jS];have al:=(dZ.1 h).1;have:=eE 40 al;omega
theorem Ra{l:List RP}{p:RP}(h:l[i]?=some p):dM prog 38 (dw l) (i*40)=some p.n.v:=by
 rw[aFn (s:=30) k_ (by have:=aFo h;omega)];have e:=PU jS h;have e2:((dw l).drop (i*40)).take 30=p.n.cs:=by
  have:((dw l).drop (i*40)).take 30=(((dw l).drop (i*40)).take 40).take 30:=by rw[Nd];rfl
  rw[this,e];rfl
 rw[e2];rfl
theorem aFp{l:List RP}{p:RP}(h:l[i]?=some p):dM prog 33 (dw l) (i*40+30)=some p.d.v:=by
 rw[aFn (s:=10) k_ (by have:=aFo h;omega)];have e:=PU jS h;have e2:((dw l).drop (i*40+30)).take 10=p.d.cs:=by
  rw[<-N2];have:(((dw l).drop (i*40)).drop 30).take 10=(((dw l).drop (i*40)).take 40).drop 30:=by rw[List.drop_take]
  rw[this,e];rfl
 rw[e2];rfl
theorem CK(b:α->Bool)(l:List α):l.all b=true\/∃(n:Nat) (x:α),l[n]?=some x/\b x=false/\(∀(i:Nat) (y:α),i<n->l[i]?=some y->b y=true)/\l.all b=false:=by
 induction l with
 |nil=>exact .inl rfl
 |cons x l ih=>
  rcases hb:b x with _|_
  ·exact .inr ⟨0,x,rfl,hb,λi y hi=>by omega,by simp[hb]⟩
  ·rcases ih with h|⟨n,y,h1,h2,h3,h4⟩
   ·exact .inl (by rw[eC,hb,h];rfl)
   ·refine .inr ⟨n+1,y,by simpa using h1,h2,λi z hi hz=>?_,by rw[eC,h4,NY]⟩;cases i with
    |zero=>simp at hz;rw[<-hz];exact hb
    |succ i=>exact h3 i z o_ (by simpa using hz)
theorem EE{b:α->Bool}{l:List α}(h:l.all b=true){x:α}(hx:l[i]?=some x):b x=true:=bB.1 h x (cL hx)
theorem GZ(h:decide (a<=b)=t):Value.bool (decide ((a:Int)<=(b:Int)))=.bool t:=by rw[<-h];congr 1;rw[qx];omega
section
variable{Bs:aa}{vs:List RV}{k:Nat}
def G1(n k i:Nat):aT:=[(7,vI i),(0,sl 0 n),(2,vI k)]
def yJ(vs:List RV):aM:=[(0,.view (cU vs))]
theorem aFq{n:Nat}{x:RV}(hi:i<n)(hx:vs[i]?=some x)(hb:qZ x k=true)(h63:n<9223372036854775807):
  ah prog Bs 25 (aI (ag f34 0)) (G1 n k i) (yJ vs) 1 ⟨.normal,G1 n k (i+1),yJ vs,1⟩:=by
 have hr:=WY x k;rw[hb]at hr;exact aD [.lt 11 i n true (aJ hi),.c8 f34 16 0 n i 30 hi k_,.ld f34 17 38 0 (i*30) (.view (cU vs)) x.v rfl (tx hx) k_,hr.at 19,.sum 13 i 1 (i+1) rfl o_]
theorem aRU{n:Nat}{x:RV}(hi:i<n)(hx:vs[i]?=some x)(hb:qZ x k=false):
  ah prog Bs 25 (aI (ag f34 0)) (G1 n k i) (yJ vs) 1 ⟨.ret,[(6,.bool false)],yJ vs,1⟩:=by
 have hr:=WY x k;rw[hb]at hr;exact aD [.lt 11 i n true (aJ hi),.c8 f34 16 0 n i 30 hi k_,.ld f34 17 38 0 (i*30) (.view (cU vs)) x.v rfl (tx hx) k_,hr.at 19]
theorem aRV(m:Nat)(h63:vs.length<9223372036854775807):cy prog 34 [.r vs.length (cU vs),.p (vI m),.p (vI k)] (.bool (vs.all (λx=>qZ x k)&&decide (vs.length<=m))):=by
 have aC:([aP.r vs.length (cU vs),.p (vI m),.p (vI k)].all aP.ok)=true:=by simp only[eC,e7,aP.ok,iT gm,iA];rfl
 rcases CK (λx=>qZ x k) vs with h|⟨n,x,h1,h2,h3,h4⟩
 ·rw[h,kS];have lo:∀ B:aa,ah prog B 25 (.block 0 (ag f34 0)) (G1 vs.length k 0) (yJ vs) 1 ⟨.normal,[(0,sl 0 vs.length)],yJ vs,1⟩:=λB=>
   cd (id:=0) (cx vs.length (λi=>G1 vs.length k i) (λ_=>yJ vs) (λi k _=>Iff.rfl) (r:=⟨.exit 0,[(0,sl 0 vs.length)],yJ vs,1⟩) (λi hi=>by have hx:vs[i]?=some vs[i]:=aW hi;exact aFq hi hx (EE h hx) h63) (aD [.lt 11 vs.length vs.length false s_]) n_)
  exact dj func34 aC 25 (λw=>[.code 0 _ _ _ _ _ (lo _),.rw 24 _ (.bool (decide (vs.length<=m))) (GZ rfl)])
 ·rw[h4,zG];have al:=(dZ.1 h1).1;have lo:∀ B:aa,ah prog B 25 (.block 0 (ag f34 0)) (G1 vs.length k 0) (yJ vs) 1 ⟨.ret,[(6,.bool false)],yJ vs,1⟩:=λB=>
   cd (id:=0) (cx n (λi=>G1 vs.length k i) (λ_=>yJ vs) (λi k _=>Iff.rfl) (λi hi=>by have hx:vs[i]?=some vs[i]:=aW o_;exact aFq o_ hx (h3 i _ hi hx) h63) (aRU al h1 h2) n_)
  exact dj func34 aC 25 (λw=>[.code 0 _ _ _ _ _ (lo _)])
end
def Rb(p:RP):Bool:=decide (24<wV p.n)||decide (15<wN p.d)
def tQ(ps:List RP)(i:Nat):Nat:=((ps.take i).filter Rb).length
theorem aRW{ps:List RP}{p:RP}(h:ps[i]?=some p):tQ ps (i+1)=tQ ps i+if Rb p then 1 else 0:=by unfold tQ;rw[tA,h];simp only[Option.toList,List.filter_append,lF];rcases hb:Rb p with _|_<;>simp[hb]
theorem aRX(ps:List RP)(i:Nat):tQ ps i<=i:=by unfold tQ;refine dh (List.length_filter_le _ _) ?_;rw[jK];omega
theorem Rc{r:RN}(h:tH r k=true):wN r<=5*k:=by unfold tH at h;simp only[de,u7]at h;unfold wN;omega
theorem aRY{r:RV}(h:qZ r k=true):wV r<=15*k:=by unfold qZ at h;simp only[de]at h;have h1:=Rc h.1;have h2:=Rc h.2.1;have h3:=Rc h.2.2;unfold wV;omega
section
variable{Bs:aa}{ps:List RP}
def AV(ps:List RP)(n i:Nat):aT:=[(6,vI i),(0,sl 0 n),(5,vI (tQ ps i))]
def yK(ps:List RP):aM:=[(0,.view (dw ps))]
theorem aFr{n:Nat}{x:RP}(hi:i<n)(hx:ps[i]?=some x)(hb:CI x 3=true)(h63:n<9223372036854775807):
  ah prog Bs 45 (aI (ag f33 0)) (AV ps n i) (yK ps) 1 ⟨.normal,AV ps n (i+1),yK ps,1⟩:=by
 have hr:=aEq x 3;rw[hb]at hr;have gE:qZ x.n 3=true/\tH x.d 3=true:=by unfold CI at hb;simpa using hb
 have w1:=aRY gE.1;have w2:=Rc gE.2;have q1:=aQc (r:=x.n) o_;have q2:=QI (r:=x.d) o_;have hs:=aRW hx;have hle:=aRX ps i;unfold AV;rw[hs];generalize tQ ps i=c at *;unfold Rb;by_cases g1:24<wV x.n
 ·rw[aJ g1];exact aD [.lt 10 i n true (aJ hi),.c8 f33 15 0 n i 40 hi k_,.ld f33 16 50 0 (i*40) (.view (dw ps)) x.v rfl (wJ hx) k_,hr.at 17,.c8 f33 21 0 n i 40 hi k_,.ld f33 23 38 0 (i*40) (.view (dw ps)) x.n.v rfl (Ra hx) k_,q1.at 24,.gt 25 (wV x.n) 24 true (aJ g1),.sum 36 c 1 (c+1) rfl o_,.sum 12 i 1 (i+1) rfl o_]
 ·rw[bd g1];by_cases g2:15<wN x.d
  ·rw[aJ g2];exact aD [.lt 10 i n true (aJ hi),.c8 f33 15 0 n i 40 hi k_,.ld f33 16 50 0 (i*40) (.view (dw ps)) x.v rfl (wJ hx) k_,hr.at 17,.c8 f33 21 0 n i 40 hi k_,.ld f33 23 38 0 (i*40) (.view (dw ps)) x.n.v rfl (Ra hx) k_,q1.at 24,.gt 25 (wV x.n) 24 false (bd g1),.c8 f33 29 0 n i 40 hi k_,.ld f33 31 33 0 (i*40+30) (.view (dw ps)) x.d.v rfl (aFp hx) k_,q2.at 32,.gt 33 (wN x.d) 15 true (aJ g2),.sum 36 c 1 (c+1) rfl o_,.sum 12 i 1 (i+1) rfl o_]
  ·rw[bd g2];exact aD [.lt 10 i n true (aJ hi),.c8 f33 15 0 n i 40 hi k_,.ld f33 16 50 0 (i*40) (.view (dw ps)) x.v rfl (wJ hx) k_,hr.at 17,.c8 f33 21 0 n i 40 hi k_,.ld f33 23 38 0 (i*40) (.view (dw ps)) x.n.v rfl (Ra hx) k_,q1.at 24,.gt 25 (wV x.n) 24 false (bd g1),.c8 f33 29 0 n i 40 hi k_,.ld f33 31 33 0 (i*40+30) (.view (dw ps)) x.d.v rfl (aFp hx) k_,q2.at 32,.gt 33 (wN x.d) 15 false (bd g2),.sum 12 i 1 (i+1) rfl o_]
theorem aRZ{n:Nat}{x:RP}(hi:i<n)(hx:ps[i]?=some x)(hb:CI x 3=false):
  ah prog Bs 45 (aI (ag f33 0)) (AV ps n i) (yK ps) 1 ⟨.ret,[(4,.bool false)],yK ps,1⟩:=by
 have hr:=aEq x 3;rw[hb]at hr;exact aD [.lt 10 i n true (aJ hi),.c8 f33 15 0 n i 40 hi k_,.ld f33 16 50 0 (i*40) (.view (dw ps)) x.v rfl (wJ hx) k_,hr.at 17]
def MC(ps:List RP)(k:Nat):Bool:=ps.all (λx=>CI x 3)&&(decide (tQ ps ps.length<=1)&&decide (ps.length<=k))
theorem aR0(k:Nat)(h63:ps.length<9223372036854775807):cy prog 33 [.r ps.length (dw ps),.p (vI k)] (.bool (MC ps k)):=by
 have aC:([aP.r ps.length (dw ps),.p (vI k)].all aP.ok)=true:=by simp only[eC,e7,aP.ok,iT jS,iA];rfl
 unfold MC;rcases CK (λx=>CI x 3) ps with h|⟨n,x,h1,h2,h3,h4⟩
 ·rw[h,kS];have lo:∀ B:aa,ah prog B 45 (.block 0 (ag f33 0)) (AV ps ps.length 0) (yK ps) 1 ⟨.normal,[(0,sl 0 ps.length),(5,vI (tQ ps ps.length))],yK ps,1⟩:=λB=>
   cd (id:=0) (cx ps.length (λi=>AV ps ps.length i) (λ_=>yK ps) (λi k _=>Iff.rfl) (r:=⟨.exit 0,[(0,sl 0 ps.length),(5,vI (tQ ps ps.length))],yK ps,1⟩) (λi hi=>by have hx:ps[i]?=some ps[i]:=aW hi;exact aFr hi hx (EE h hx) h63) (aD [.lt 10 ps.length ps.length false s_]) n_)
  unfold AV at lo;have e0:tQ ps 0=0:=by unfold tQ;simp
  rw[e0]at lo;generalize tQ ps ps.length=c at *;by_cases hc:c<=1
  ·rw[aJ hc,kS];exact dj func33 aC 45 (λw=>[.code 0 _ _ _ _ _ (lo _),.rw 38 _ b_ (GZ (a:=c) (b:=1) (aJ hc)),.rw 43 _ (.bool (decide (ps.length<=k))) (GZ rfl)])
  ·rw[bd hc,zG];exact dj func33 aC 45 (λw=>[.code 0 _ _ _ _ _ (lo _),.rw 38 _ a_ (GZ (a:=c) (b:=1) (bd hc))])
 ·rw[h4,zG];have al:=(dZ.1 h1).1;have lo:∀ B:aa,ah prog B 45 (.block 0 (ag f33 0)) (AV ps ps.length 0) (yK ps) 1 ⟨.ret,[(4,.bool false)],yK ps,1⟩:=λB=>
   cd (id:=0) (cx n (λi=>AV ps ps.length i) (λ_=>yK ps) (λi k _=>Iff.rfl) (λi hi=>by have hx:ps[i]?=some ps[i]:=aW o_;exact aFr o_ hx (h3 i _ hi hx) h63) (aRZ al h1 h2) n_)
  have e0:tQ ps 0=0:=by unfold tQ;simp
  unfold AV at lo;rw[e0]at lo;exact dj func33 aC 45 (λw=>[.code 0 _ _ _ _ _ (lo _)])
end
section
open V3 (dot af bA smul)
theorem aFs(h:ps[i]?=some p):(ps.map c9)[i]?=some (c9 p):=by rw[sH,h];rfl
theorem Jj(h:ps[i]?=some p):dM prog 38 (bf ps) (i*40)=some (bE p.n):=Ra (aFs h)
theorem Re(h:ps[i]?=some p):dM prog 50 (bf ps) (i*40)=some (dJ p):=wJ (aFs h)
section
variable{Bs:aa}{ps:List RP}{m:Nat}
def G2(n i:Nat):aT:=[(3,vI i),(0,sl 0 n)]
def wW(ps:List RP):aM:=[(0,.view (dw ps))]
theorem aFt{n:Nat}{x:RP}(hi:i<n)(hx:ps[i]?=some x)(hs:AP m x)(hm:m<=aE)(hb:r7 x=true)(h63:n<9223372036854775807):
  ah prog Bs 16 (aI (ag f127 0)) (G2 n i) (wW ps) 1 ⟨.normal,G2 n (i+1),wW ps,1⟩:=by
 have hv:=WZ hs hm;rw[hb]at hv;exact aD [.lt 7 i n true (aJ hi),.c8 f127 12 0 n i 40 hi k_,.ld f127 13 50 0 (i*40) (.view (dw ps)) x.v rfl (wJ hx) k_,hv.at 14,.sum 9 i 1 (i+1) rfl o_]
theorem aR1{n:Nat}{x:RP}(hi:i<n)(hx:ps[i]?=some x)(hs:AP m x)(hm:m<=aE)(hb:r7 x=false):
  ah prog Bs 16 (aI (ag f127 0)) (G2 n i) (wW ps) 1 ⟨.ret,[(2,.bool false)],wW ps,1⟩:=by
 have hv:=WZ hs hm;rw[hb]at hv;exact aD [.lt 7 i n true (aJ hi),.c8 f127 12 0 n i 40 hi k_,.ld f127 13 50 0 (i*40) (.view (dw ps)) x.v rfl (wJ hx) k_,hv.at 14]
theorem aFu(hs:∀ x∈ps,AP m x)(hm:m<=aE)(h63:ps.length<9223372036854775807):cy prog 127 [.r ps.length (dw ps)] (.bool (ps.all r7)):=by
 have aC:([aP.r ps.length (dw ps)].all aP.ok)=true:=by simp only[eC,e7,aP.ok,iT jS,iA]
 rcases CK r7 ps with h|⟨n,x,h1,h2,h3,h4⟩
 ·rw[h];have lo:∀ B:aa,ah prog B 16 (.block 0 (ag f127 0)) (G2 ps.length 0) (wW ps) 1 ⟨.normal,[],wW ps,1⟩:=λB=>
   cd (id:=0) (cx ps.length (λi=>G2 ps.length i) (λ_=>wW ps) (λi k _=>Iff.rfl) (r:=⟨.exit 0,[],wW ps,1⟩) (λi hi=>by have hx:ps[i]?=some ps[i]:=aW hi;exact aFt hi hx (hs _ (df hi)) hm (EE h hx) h63) (aD [.lt 7 ps.length ps.length false s_]) n_)
  exact dj func127 aC 16 (λw=>[.code 0 _ _ _ _ _ (lo _)])
 ·rw[h4];have al:=(dZ.1 h1).1;have lo:∀ B:aa,ah prog B 16 (.block 0 (ag f127 0)) (G2 ps.length 0) (wW ps) 1 ⟨.ret,[(2,.bool false)],wW ps,1⟩:=λB=>
   cd (id:=0) (cx n (λi=>G2 ps.length i) (λ_=>wW ps) (λi k _=>Iff.rfl) (r:=⟨.ret,[(2,.bool false)],wW ps,1⟩) (λi hi=>by
    have lQ:i<ps.length:=by omega
    have hx:ps[i]?=some ps[i]:=aW lQ;exact aFt lQ hx (hs _ (df lQ)) hm (h3 i _ hi hx) h63) (aR1 al h1 (hs x (cL h1)) hm h2) n_)
  exact dj func127 aC 16 (λw=>[.code 0 _ _ _ _ _ (lo _)])
end
section
variable{Bs:aa}{ps:c_}{m:Nat}{d:V3 K}
def yL(ps:c_)(d:V3 K):Bool:=ps.all λp=>decide (OF.aH (dot p.n d)<=0)
def G3(n i:Nat):aT:=[(5,vI i),(0,sl 0 n),(3,ptr 1)]
def yM(ps:c_)(d:V3 K):aM:=[(0,.view (bf ps)),(1,.aK (cH d).cs 38)]
theorem Rf(h:decide (z<=0)=!t):Value.bool (decide (z>0))=.bool t:=by
 congr 1
 cases t
 ·have:=kp h;exact bd o_
 ·have:=DJ h;exact aJ o_
theorem aFv{n:Nat}(hi:i<n)(hx:ps[i]?=some p)(hp:bP m p)(hd:aF m d)(hm:100*m+1000<=aE)(hb:decide (OF.aH (dot p.n d)<=0)=true)(h63:n<9223372036854775807):
  ah prog Bs 21 (aI (ag f172 0)) (G3 n i) (yM ps d) 2 ⟨.normal,G3 n (i+1),yM ps d,2⟩:=
 aD [.lt 9 i n true (aJ hi),.c8 f172 14 0 n i 40 hi k_,.ld f172 16 38 0 (i*40) (.view (bf ps)) (bE p.n) rfl (Jj hx) k_,(aWV hp.1 hd o_).at 18,(aWJ (hp.1.dot hd) o_).at 19,.rw 20 _ a_ (Rf (t:=false) hb),.sum 11 i 1 (i+1) rfl o_]
theorem aR2{n:Nat}(hi:i<n)(hx:ps[i]?=some p)(hp:bP m p)(hd:aF m d)(hm:100*m+1000<=aE)(hb:decide (OF.aH (dot p.n d)<=0)=false):
  ah prog Bs 21 (aI (ag f172 0)) (G3 n i) (yM ps d) 2 ⟨.ret,[(4,.bool false)],yM ps d,2⟩:=
 aD [.lt 9 i n true (aJ hi),.c8 f172 14 0 n i 40 hi k_,.ld f172 16 38 0 (i*40) (.view (bf ps)) (bE p.n) rfl (Jj hx) k_,(aWV hp.1 hd o_).at 18,(aWJ (hp.1.dot hd) o_).at 19,.rw 20 _ b_ (Rf (t:=true) hb)]
theorem Rg(hs:∀ p∈ps,bP m p)(hd:aF m d)(hm:100*m+1000<=aE)(h63:ps.length<9223372036854775807):cy prog 172 [.r ps.length (bf ps),.p (bE d)] (.bool (yL ps d)):=by
 have aC:([aP.r ps.length (bf ps),.p (bE d)].all aP.ok)=true:=by simp only[eC,e7,aP.ok,iA];rw[show(bf ps).all flat=true from dx ps];rfl
 unfold yL;rcases CK (λp=>decide (OF.aH (dot p.n d)<=0)) ps with h|⟨n,x,h1,h2,h3,h4⟩
 ·rw[h];have lo:∀ B:aa,ah prog B 21 (.block 0 (ag f172 0)) (G3 ps.length 0) (yM ps d) 2 ⟨.normal,[],yM ps d,2⟩:=λB=>
   cd (id:=0) (cx ps.length (λi=>G3 ps.length i) (λ_=>yM ps d) (λi k _=>Iff.rfl) (r:=⟨.exit 0,[],yM ps d,2⟩) (λi hi=>by have hx:ps[i]?=some ps[i]:=aW hi;exact aFv hi hx (hs _ (df hi)) hd hm (EE h hx) h63) (aD [.lt 9 ps.length ps.length false s_]) n_)
  exact dj func172 aC 21 (λw=>[.code 0 _ _ _ _ _ (lo _)])
 ·rw[h4];have al:=(dZ.1 h1).1;have lo:∀ B:aa,ah prog B 21 (.block 0 (ag f172 0)) (G3 ps.length 0) (yM ps d) 2 ⟨.ret,[(4,.bool false)],yM ps d,2⟩:=λB=>
   cd (id:=0) (cx n (λi=>G3 ps.length i) (λ_=>yM ps d) (λi k _=>Iff.rfl) (λi hi=>by
    have lQ:i<ps.length:=by omega
    have hx:ps[i]?=some ps[i]:=aW lQ;exact aFv lQ hx (hs _ (df lQ)) hd hm (h3 i _ hi hx) h63) (aR2 al h1 (hs x (cL h1)) hd hm h2) n_)
  exact dj func172 aC 21 (λw=>[.code 0 _ _ _ _ _ (lo _)])
end
def CL(ps:c_)(d:V3 K):Bool:=ps.all λp=>decide (dot p.n d=0)
def Rh(ps:c_)(i:Nat):V3 K:=match ps[i]? with|some p=>p.n|none=>0
def nM(ps:c_)(i j:Nat):V3 K:=af (Rh ps i) (Rh ps j)
def AW(ps:c_)(i j:Nat):Bool:=decide (nM ps i j≠0)&&(yL ps (nM ps i j)||yL ps (-nM ps i j))
def pC(ps:c_)(f:Bool)(i:Nat):Nat->Bool
 |0=>f
 |j+1=>if nM ps i j=0 then pC ps f i j else pC ps f i j&&CL ps (nM ps i j)
def mV(ps:c_):Nat->Bool
 |0=>true
 |i+1=>pC ps (mV ps i) i i
def EF(ps:c_)(i:Nat):Bool:=(List.range i).all λj=>!AW ps i j
def wX(ps:c_):Bool:=(List.range ps.length).all (EF ps)&&!mV ps ps.length
theorem Jk(b:Nat->Bool)(n:Nat):(List.range n).all b=true\/∃ e,e<n/\b e=false/\(∀ i,i<e->b i=true)/\(List.range n).all b=false:=by
 rcases CK b (List.range n)with h|⟨e,x,h1,h2,h3,h4⟩
 ·exact .inl h
 ·have al:=(dZ.1 h1).1;rw[zx]at al;rw[LH al]at h1;injection h1 with h1;subst h1;exact .inr ⟨e,al,h2,λi hi=>h3 i i hi (LH o_),h4⟩
theorem Jl{b:Nat->Bool}{n:Nat}(h:(List.range n).all b=true)(hi:i<n):b i=true:=bB.1 h i (ki.2 hi)
section
variable{Bs:aa}{ps:c_}{m:Nat}{d:V3 K}
def G4(n k:Nat)(f:Bool):aT:=[(7,vI k),(0,sl 0 n),(3,.bool f),(6,ptr 1)]
def wY(ps:c_)(d:V3 K):aM:=[(0,.view (bf ps)),(1,.aK (cH d).cs 38)]
theorem aFw{n:Nat}(hk:k<n)(hx:ps[k]?=some p)(hp:bP m p)(hd:aF m d)(hm:100*m+1000<=aE)(ht:decide (dot p.n d=0)=t)(h63:n<9223372036854775807):
  ah prog Bs 61 (aI (ag f128 4)) (G4 n k true) (wY ps d) 2 ⟨.normal,G4 n (k+1) t,wY ps d,2⟩:=by
 have h49:Value.bool (OF.aH (dot p.n d)==0)=.bool t:=by
  by_cases h:dot p.n d=0
  ·rw[aJ h]at ht;subst ht;exact yF ((OF.fH _).2 h)
  ·rw[bd h]at ht;subst ht;exact qd (λe=>h ((OF.fH _).1 e))
 exact aD [.lt 35 k n true (aJ hk),.c8 f128 43 0 n k 40 hk k_,.ld f128 45 38 0 (k*40) (.view (bf ps)) (bE p.n) rfl (Jj hx) k_,(aWV hp.1 hd o_).at 47,(aWJ (hp.1.dot hd) o_).at 48,.rw 49 _ (.bool t) h49,.sum 40 k 1 (k+1) rfl o_]
theorem aFx{n:Nat}:ah prog Bs 61 (aI (ag f128 4)) (G4 n k false) (wY ps d) 2 ⟨.exit 4,[(0,sl 0 n),(3,.bool false),(6,ptr 1)],wY ps d,2⟩:=by
 by_cases h:k<n
 ·exact aD [.lt 35 k n true (aJ h)]
 ·exact aD [.lt 35 k n false (bd h)]
theorem aFy(hs:∀ p∈ps,bP m p)(hd:aF m d)(hm:100*m+1000<=aE)(h63:ps.length<9223372036854775807)(f:Bool):
  ah prog Bs 61 (.block 4 (ag f128 4)) (G4 ps.length 0 f) (wY ps d) 2 ⟨.normal,[(0,sl 0 ps.length),(3,.bool (f&&CL ps d)),(6,ptr 1)],wY ps d,2⟩:=by
 cases f with
 |false=>exact cd (id:=4) (cx 0 (λ_=>G4 ps.length 0 false) (λ_=>wY ps d) (λ_ _ _=>Iff.rfl) (r:=⟨.exit 4,[(0,sl 0 ps.length),(3,.bool false),(6,ptr 1)],wY ps d,2⟩) (λi hi=>by omega) aFx n_)
 |true=>
  unfold CL;rcases CK (λp=>decide (dot p.n d=0)) ps with h|⟨n,x,h1,h2,h3,h4⟩
  ·rw[h];exact cd (id:=4) (cx ps.length (λi=>G4 ps.length i true) (λ_=>wY ps d) (λ_ _ _=>Iff.rfl) (r:=⟨.exit 4,[(0,sl 0 ps.length),(3,.bool true),(6,ptr 1)],wY ps d,2⟩) (λi hi=>by have hx:ps[i]?=some ps[i]:=aW hi;exact aFw hi hx (hs _ (df hi)) hd hm (EE h hx) h63) (aD [.lt 35 ps.length ps.length false s_]) n_)
  ·rw[h4];have al:=(dZ.1 h1).1;exact cd (id:=4) (cx (n+1) (λi=>G4 ps.length i (decide (i<=n))) (λ_=>wY ps d) (λ_ _ _=>Iff.rfl) (r:=⟨.exit 4,[(0,sl 0 ps.length),(3,.bool false),(6,ptr 1)],wY ps d,2⟩) (λi hi=>by
    have lQ:i<ps.length:=by omega
    have hx:ps[i]?=some ps[i]:=aW lQ;simp only[aJ (show i<=n by omega)];refine aFw lQ hx (hs _ (df lQ)) hd hm ?_ h63;by_cases he:i=n
    ·subst he;rw[hx]at h1;injection h1 with h1;rw[h1,h2];exact(bd o_).symm
    ·have:=h3 i _ o_ hx;rw[this];exact(aJ o_).symm) (by
    simp only[bd (show ¬n+1<=n by omega)];exact aFx) n_)
def yN(ps:c_)(f:Bool)(n i j:Nat):aT:=[(5,vI j),(4,vI i),(0,sl 0 n),(3,.bool (pC ps f i j))]
def om(ps:c_):aM:=[(0,.view (bf ps))]
theorem Jm(h:ps[i]?=some p):Rh ps i=p.n:=by unfold Rh;rw[h]
noncomputable def Ri{n:Nat}{q:HS K}(hi:i<n)(nh:j<i)(hp:ps[i]?=some p)(hq:ps[j]?=some q)(sp:bP m p)(sq:bP m q)(hm:1000*m+10000<=aE)(ht:decide (af p.n q.n=0)=t)(more:bM prog Bs 61):bM prog Bs 61:=
 .lt 16 j i true (aJ nh)::.c8 f128 21 0 n i 40 hi k_::.ld f128 23 38 0 (i*40) (.view (bf ps)) (bE p.n) rfl (Jj hp) k_::.c8 f128 26 0 n j 40 o_ k_::.ld f128 28 38 0 (j*40) (.view (bf ps)) (bE q.n) rfl (Jj hq) k_::
 (aWC sp.1 sq.1 o_).at 29::(ht▸aXw (sp.1.af sq.1) o_:aG prog 21 [bE (af p.n q.n)] (.bool t)).at 31::more
theorem aFz(hs:∀ p∈ps,bP m p)(hm:1000*m+10000<=aE){f:Bool}(hi:i<ps.length)(nh:j<i)(hb:AW ps i j=false)(h63:ps.length<9223372036854775807):
  ah prog Bs 61 (aI (ag f128 2)) (yN ps f ps.length i j) (om ps++marks 1 []) 1 ⟨.normal,gH 1 [] (yN ps f ps.length i (j+1)),om ps++dT [] [],2⟩:=by
 have hj:j<ps.length:=by omega
 have hp:ps[i]?=some ps[i]:=aW hi;have hq:ps[j]?=some ps[j]:=aW hj;have sp:=hs _ (df hi);have sq:=hs _ (df hj);generalize ps[i]=p at *;generalize ps[j]=q at *;have hd:nM ps i j=af p.n q.n:=by unfold nM;rw[Jm hp,Jm hq]
 have pL:∀ r∈ps,bP (4*m+9) r:=λr hr=>(hs r hr).mono o_;have CM:aF (4*m+9) (af p.n q.n):=(sp.1.af sq.1).mono o_;unfold AW at hb;have er:pC ps f i (j+1)=if nM ps i j=0 then pC ps f i j else pC ps f i j&&CL ps (nM ps i j):=rfl
 unfold yN;rw[er];rw[hd]at hb ⊢;by_cases hz:af p.n q.n=0
 ·rw[aB hz];exact aD (Ri hi nh hp hq sp sq hm (aJ hz) [.sum 18 j 1 (j+1) rfl o_])
 ·rw[az hz];rw[aJ hz,kS]at hb;have nj:yL ps (af p.n q.n)=false:=by revert hb;cases yL ps (af p.n q.n)<;>simp
  have gE:yL ps (-af p.n q.n)=false:=by revert hb;cases yL ps (-af p.n q.n)<;>simp
  have l1:=Rg pL CM o_ h63;have l2:=Rg pL CM.neg o_ h63;rw[nj]at l1;rw[gE]at l2;have c4:=aFy (Bs:=Bs) pL CM o_ h63 (pC ps f i j);generalize pC ps f i j=ff at *;generalize (ff&&CL ps (af p.n q.n))=fg at *;exact aD (Ri hi nh hp hq sp sq hm (bd hz) [.code 4 _ _ _ _ _ c4,.step 52 (au f128 52) [.func (.func 172) #[] #[],sl 0 ps.length,bE (af p.n q.n)] [(0,some (.view (bf ps)))] a_ [] (dD l1 (.w (x:=.view (bf ps)) rfl (dx ps) jG (.p rfl .nil)) (x:=.func 172) k_ k_ rfl),(aWy CM o_).at 56,.step 57 (au f128 57) [.func (.func 172) #[] #[],sl 0 ps.length,bE (-af p.n q.n)] [(0,some (.view (bf ps)))] a_ [] (dD l2 (.w (x:=.view (bf ps)) rfl (dx ps) jG (.p rfl .nil)) (x:=.func 172) k_ k_ rfl),.sum 18 j 1 (j+1) rfl o_])
theorem aR3(hs:∀ p∈ps,bP m p)(hm:1000*m+10000<=aE){f:Bool}(hi:i<ps.length)(nh:j<i)(hb:AW ps i j=true)(h63:ps.length<9223372036854775807):
  ah prog Bs 61 (aI (ag f128 2)) (yN ps f ps.length i j) (om ps++marks 1 []) 1 ⟨.ret,[(2,.bool false)],[],2⟩:=by
 have hj:j<ps.length:=by omega
 have hp:ps[i]?=some ps[i]:=aW hi;have hq:ps[j]?=some ps[j]:=aW hj;have sp:=hs _ (df hi);have sq:=hs _ (df hj);generalize ps[i]=p at *;generalize ps[j]=q at *;have hd:nM ps i j=af p.n q.n:=by unfold nM;rw[Jm hp,Jm hq]
 have pL:∀ r∈ps,bP (4*m+9) r:=λr hr=>(hs r hr).mono o_;have CM:aF (4*m+9) (af p.n q.n):=(sp.1.af sq.1).mono o_;unfold AW at hb;unfold yN;rw[hd]at hb;have hz:af p.n q.n≠0:=by intro e;rw[bd (λh=>h e)]at hb;cases hb
 rw[aJ hz,kS]at hb;have l1:=Rg pL CM o_ h63;have l2:=Rg pL CM.neg o_ h63;have c4:=aFy (Bs:=Bs) pL CM o_ h63 (pC ps f i j);generalize pC ps f i j=ff at *;generalize (ff&&CL ps (af p.n q.n))=fg at *;rcases nj:yL ps (af p.n q.n)with _|_
 ·rw[nj]at l1 hb;rw[zH]at hb;rw[hb]at l2;exact aD (Ri hi nh hp hq sp sq hm (bd hz) [.code 4 _ _ _ _ _ c4,.step 52 (au f128 52) [.func (.func 172) #[] #[],sl 0 ps.length,bE (af p.n q.n)] [(0,some (.view (bf ps)))] a_ [] (dD l1 (.w (x:=.view (bf ps)) rfl (dx ps) jG (.p rfl .nil)) (x:=.func 172) k_ k_ rfl),(aWy CM o_).at 56,.step 57 (au f128 57) [.func (.func 172) #[] #[],sl 0 ps.length,bE (-af p.n q.n)] [(0,some (.view (bf ps)))] b_ [] (dD l2 (.w (x:=.view (bf ps)) rfl (dx ps) jG (.p rfl .nil)) (x:=.func 172) k_ k_ rfl)])
 ·rw[nj]at l1;exact aD (Ri hi nh hp hq sp sq hm (bd hz) [.code 4 _ _ _ _ _ c4,.step 52 (au f128 52) [.func (.func 172) #[] #[],sl 0 ps.length,bE (af p.n q.n)] [(0,some (.view (bf ps)))] b_ [] (dD l1 (.w (x:=.view (bf ps)) rfl (dx ps) jG (.p rfl .nil)) (x:=.func 172) k_ k_ rfl)])
theorem aFA(q:Nat×Obj)(hq:q∈om ps):fE 1 q.2:=by unfold om at hq;simp at hq;subst hq;exact HN (bB.1 (dx ps))
theorem aR4(hs:∀ p∈ps,bP m p)(hm:1000*m+10000<=aE){f:Bool}(hi:i<ps.length)(hb:EF ps i=true)(h63:ps.length<9223372036854775807):
  ah prog Bs 61 (.block 2 (ag f128 2)) (yN ps f ps.length i 0) (om ps) 1 ⟨.normal,[(4,vI i),(0,sl 0 ps.length),(3,.bool (pC ps f i i))],om ps,1⟩:=by
 have:=qF (P:=prog) (B:=Bs) (N:=61) (b:=aI (ag f128 2)) (next:=1) (p:=0) (r:=⟨.exit 2,[(4,vI i),(0,sl 0 ps.length),(3,.bool (pC ps f i i))],om ps,1⟩) i (yN ps f ps.length i) (λ_=>om ps) (λ_=>[]) [] (λ_ _=>rfl)
  (λj _=>⟨aFA,λz hz=>by cases hz⟩) k_ k_
  (λj hj=>⟨[],2,k_,aFz hs hm hi hj (by have:=Jl hb hj;simpa using this) h63⟩)
  (aD [.lt 16 i i false s_]) n_
 exact cd (id:=2) this
theorem aR5(hs:∀ p∈ps,bP m p)(hm:1000*m+10000<=aE){f:Bool}(hi:i<ps.length)(hb:EF ps i=false)(h63:ps.length<9223372036854775807):
  ah prog Bs 61 (.block 2 (ag f128 2)) (yN ps f ps.length i 0) (om ps) 1 ⟨.ret,[(2,.bool false)],[],2⟩:=by
 rcases Jk (λj=>!AW ps i j) i with h|⟨e,h1,h2,h3,_⟩
 ·unfold EF at hb;rw[h]at hb;cases hb
 ·have:=qF (P:=prog) (B:=Bs) (N:=61) (b:=aI (ag f128 2)) (next:=1) (p:=0) (r:=⟨.ret,[(2,.bool false)],[],2⟩) e (yN ps f ps.length i) (λ_=>om ps) (λ_=>[]) [] (λ_ _=>rfl)
   (λj _=>⟨aFA,λz hz=>by cases hz⟩) k_ k_
   (λj hj=>⟨[],2,k_,aFz hs hm hi o_ (by have:=h3 j hj;simpa using this) h63⟩)
   (aR3 hs hm hi h1 (by simpa using h2) h63) n_
  exact cd (id:=2) this
def yO(ps:c_)(n i:Nat):aT:=[(4,vI i),(0,sl 0 n),(3,.bool (mV ps i))]
theorem aFB(hs:∀ p∈ps,bP m p)(hm:1000*m+10000<=aE)(hi:i<ps.length)(hb:EF ps i=true)(h63:ps.length<9223372036854775807):
  ah prog Bs 61 (aI (ag f128 0)) (yO ps ps.length i) (om ps) 1 ⟨.normal,yO ps ps.length (i+1),om ps,1⟩:=by
 have lo:=aR4 (Bs:=Bs) (f:=mV ps i) hs hm hi hb h63;unfold yN at lo;unfold yO;show ah _ _ _ _ _ _ _ ⟨.normal,[(4,vI (i+1)),(0,sl 0 ps.length),(3,.bool (pC ps (mV ps i) i i))],om ps,1⟩;have e0:pC ps (mV ps i) i 0=mV ps i:=rfl;rw[e0]at lo;generalize pC ps (mV ps i) i i=g at *;generalize mV ps i=f at *;exact aD [.lt 11 i ps.length true (aJ hi),.code 2 _ _ _ _ _ lo,.sum 13 i 1 (i+1) rfl o_]
theorem aR6(hs:∀ p∈ps,bP m p)(hm:1000*m+10000<=aE)(hi:i<ps.length)(hb:EF ps i=false)(h63:ps.length<9223372036854775807):
  ah prog Bs 61 (aI (ag f128 0)) (yO ps ps.length i) (om ps) 1 ⟨.ret,[(2,.bool false)],[],2⟩:=by
 have lo:=aR5 (Bs:=Bs) (f:=mV ps i) hs hm hi hb h63;unfold yN at lo;unfold yO;have e0:pC ps (mV ps i) i 0=mV ps i:=rfl;rw[e0]at lo;generalize mV ps i=f at *;exact aD [.lt 11 i ps.length true (aJ hi),.code 2 _ _ _ _ _ lo]
theorem aR7(hs:∀ p∈ps,bP m p)(hm:1000*m+10000<=aE)(h63:ps.length<9223372036854775807):cy prog 128 [fV ps] (.bool (wX ps)):=by
 unfold wX;rcases Jk (EF ps) ps.length with h|⟨e,h1,h2,h3,h4⟩
 ·rw[h,kS];have lo:∀ B:aa,ah prog B 61 (.block 0 (ag f128 0)) (yO ps ps.length 0) (om ps) 1 ⟨.normal,[(3,.bool (mV ps ps.length))],om ps,1⟩:=λB=>
   cd (id:=0) (cx ps.length (yO ps ps.length) (λ_=>om ps) (λ_ _ _=>Iff.rfl) (r:=⟨.exit 0,[(3,.bool (mV ps ps.length))],om ps,1⟩) (λi hi=>aFB hs hm hi (Jl h hi) h63) (aD [.lt 11 ps.length ps.length false s_]) n_)
  unfold yO at lo;have e0:mV ps 0=true:=rfl;rw[e0]at lo;generalize mV ps ps.length=g at *;cases g<;>exact dj func128 (ED ps) 61 (λw=>[.code 0 _ _ _ _ _ (lo _)])
 ·rw[h4,zG];have lo:∀ B:aa,ah prog B 61 (.block 0 (ag f128 0)) (yO ps ps.length 0) (om ps) 1 ⟨.ret,[(2,.bool false)],[],2⟩:=λB=>
   cd (id:=0) (cx e (yO ps ps.length) (λ_=>om ps) (λ_ _ _=>Iff.rfl) (r:=⟨.ret,[(2,.bool false)],[],2⟩) (λi hi=>aFB hs hm o_ (h3 i hi) h63) (aR6 hs hm h1 h2 h63) n_)
  unfold yO at lo;have e0:mV ps 0=true:=rfl;rw[e0]at lo;exact dj func128 (ED ps) 61 (λw=>[.code 0 _ _ _ _ _ (lo _)])
end
def aWY:e_->V3 K->List (V3 K)
 |[],v=>[v]
 |p::l,v=>if eG p v=0 then p::l else if 0<eG p v then v::p::l else p::aWY l v
theorem Rj(v:V3 K):∀ vs:e_,(∃(i:Nat) (p:V3 K),vs[i]?=some p/\eG p v=0/\(∀(j:Nat) (q:V3 K),j<i->vs[j]?=some q->eG q v<0)/\aWY vs v=vs)\/
  ∃ i:Nat,i<=vs.length/\(∀(j:Nat) (q:V3 K),j<i->vs[j]?=some q->eG q v<0)/\(i=vs.length\/∃ p,vs[i]?=some p/\0<eG p v)/\aWY vs v=vs.take i++[v]++vs.drop i
 |[]=>.inr ⟨0,bF _,λj q hj=>by omega,.inl rfl,rfl⟩
 |p::l=>by
  unfold aWY;by_cases h0:eG p v=0
  ·rw[aB h0];exact .inl ⟨0,p,rfl,h0,λj q hj=>by omega,rfl⟩
  ·rw[az h0];by_cases h1:0<eG p v
   ·rw[aB h1];exact .inr ⟨0,lG _,λj q hj=>by omega,.inr ⟨p,rfl,h1⟩,rfl⟩
   ·rw[az h1];have dG:∀{i:Nat} (H:∀(j:Nat) (q:V3 K),j<i->l[j]?=some q->eG q v<0) (j:Nat) (q:V3 K),j<i+1->(p::l)[j]?=some q->eG q v<0:=λ{i} H j q hj hq=>by
     cases j with
     |zero=>simp at hq;subst hq;omega
     |succ j=>exact H j q o_ (by simpa using hq)
    rcases Rj v l with ⟨i,q,q1,q2,q3,q4⟩|⟨i,q1,q2,q3,q4⟩
    ·exact .inl ⟨i+1,q,by simpa using q1,q2,dG q3,by rw[q4]⟩
    ·refine .inr ⟨i+1,by simpa using q1,dG q2,?_,by rw[q4];rfl⟩;rcases q3 with h|⟨q,h,h2⟩
     ·exact .inl (by rw[h];rfl)
     ·exact .inr ⟨q,by simpa using h,h2⟩
theorem aR8{a b:Int}(h:decide (a=b)=t):Value.bool (a==b)=.bool t:=by
 by_cases e:a=b
 ·rw[aJ e]at h;subst h;exact yF e
 ·rw[bd e]at h;subst h;exact qd e
theorem aR9{p:V3 K}(h:vs[i]?=some p):dM prog 38 (aN vs) (i*30)=some (bE p):=tx (by rw[sH,h];rfl)
theorem aFC(vs:e_)(i:Nat):(aN vs).drop (i*30)=aN (vs.drop i):=by unfold aN;rw[VL gm,List.map_drop]
theorem Rk(vs:e_)(i:Nat):(aN vs).take (i*30)=aN (vs.take i):=by unfold aN;rw[VM gm,C8]
section
variable{Bs:aa}{vs:e_}{v:V3 K}{m:Nat}
def yP(n i:Nat):aT:=[(5,vI i),(0,sl 0 n),(3,ptr 1)]
def uL(vs:e_)(v:V3 K):aM:=[(0,.view (aN vs)),(1,.aK (cH v).cs 38)]
noncomputable def Xq{n:Nat}{p:V3 K}(hi:i<n)(hp:vs[i]?=some p)(sp:aF m p)(sv:aF m v)(hm:8*m+100<=aE)(ht:decide (eG p v=0)=t)(more:bM prog Bs 36):bM prog Bs 36:=
 .lt 10 i n true (aJ hi)::.c8 f175 13 0 n i 30 hi k_::.ld f175 14 38 0 (i*30) (.view (aN vs)) (bE p) rfl (aR9 hp) k_::(aXu sp sv o_).at 16::.rw 18 _ (.bool t) (aR8 ht)::more
theorem aFD{n:Nat}{p:V3 K}(hi:i<n)(hp:vs[i]?=some p)(sp:aF m p)(sv:aF m v)(hm:8*m+100<=aE)(hb:eG p v<0)(h63:n<1000):
  ah prog Bs 36 (aI (ag f175 0)) (yP n i) (uL vs v) 2 ⟨.normal,yP n (i+1),uL vs v,2⟩:=
 aD (Xq hi hp sp sv hm (bd o_) [.rw 21 _ a_ (Rf (z:=eG p v) (t:=false) (aJ o_)),.sum 23 i 1 (i+1) rfl o_])
theorem aSa{n:Nat}{p:V3 K}(hi:i<n)(hp:vs[i]?=some p)(sp:aF m p)(sv:aF m v)(hm:8*m+100<=aE)(hb:eG p v=0):
  ah prog Bs 36 (aI (ag f175 0)) (yP n i) (uL vs v) 2 ⟨.ret,[(4,sl 0 n)],uL vs v,2⟩:=
 aD (Xq hi hp sp sv hm (aJ hb) [])
theorem aSb{n:Nat}{p:V3 K}(hi:i<n)(hp:vs[i]?=some p)(sp:aF m p)(sv:aF m v)(hm:8*m+100<=aE)(hb:0<eG p v):
  ah prog Bs 36 (aI (ag f175 0)) (yP n i) (uL vs v) 2 ⟨.exit 0,yP n i,uL vs v,2⟩:=
 aD (Xq hi hp sp sv hm (bd o_) [.rw 21 _ b_ (Rf (z:=eG p v) (t:=true) (bd o_))])
theorem aSc(hs:∀ p∈vs,aF m p)(sv:aF m v)(hm:8*m+100<=aE)(h63:vs.length<1000)(hi:i<=vs.length)(h1:∀(j:Nat) (q:V3 K),j<i->vs[j]?=some q->eG q v<0)(h2:i=vs.length\/∃ p,vs[i]?=some p/\0<eG p v):
  ah prog Bs 36 (.block 0 (ag f175 0)) (yP vs.length 0) (uL vs v) 2 ⟨.normal,yP vs.length i,uL vs v,2⟩:=
 cd (id:=0) (cx i (yP vs.length) (λ_=>uL vs v) (λ_ _ _=>Iff.rfl) (r:=⟨.exit 0,yP vs.length i,uL vs v,2⟩) (λj hj=>by
  have hx:vs[j]?=some vs[j]:=aW o_;exact aFD o_ hx (hs _ (df _)) sv hm (h1 j _ hj hx) h63) (by
  rcases h2 with rfl|⟨p,h2,h3⟩
  ·exact aD [.lt 10 vs.length vs.length false s_]
  ·exact aSb (dZ.1 h2).1 h2 (hs p (cL h2)) sv hm h3) n_)
theorem aSd(hs:∀ p∈vs,aF m p)(sv:aF m v)(hm:8*m+100<=aE)(h63:vs.length<1000){p:V3 K}(hp:vs[i]?=some p)(h0:eG p v=0)(h1:∀(j:Nat) (q:V3 K),j<i->vs[j]?=some q->eG q v<0)(gG:dp w va vs.length (aN vs)):
  Calls prog 175 #[va,bE v] w λe w'=>e=.returned va/\Below w.heap.size w w':=by
 have hl:∀ s∈[cG.row va vs.length (aN vs),cG.plain (bE v)],s.OK w:=by
  intro s hs;simp at hs;rcases hs with rfl|rfl
  ·exact⟨gG,bB.1 (dC _)⟩
  ·rfl
 have al:=(dZ.1 hp).1;have lo:ah prog (aa.at w) 36 (.block 0 (ag f175 0)) (yP vs.length 0) (uL vs v) 2 ⟨.ret,[(4,sl 0 vs.length)],uL vs v,2⟩:=
  cd (id:=0) (cx i (yP vs.length) (λ_=>uL vs v) (λ_ _ _=>Iff.rfl) (r:=⟨.ret,[(4,sl 0 vs.length)],uL vs v,2⟩) (λj hj=>by have hx:vs[j]?=some vs[j]:=aW o_;exact aFD o_ hx (hs _ (df _)) sv hm (h1 j _ hj hx) h63) (aSa al hp (hs p (cL hp)) sv hm h0) n_)
 refine l9 (Q:=λe w'=>e=.returned va/\Below w.heap.size w w') mixed func175 [cG.row va vs.length (aN vs),cG.plain (bE v)] hl 100 (N:=36) k_
  (rs:=[(.code 0 _ _ _ _ _ lo:aY prog (aa.at w) 36)]) (v:=sl 0 vs.length) (ms:=[]) k_ λaA ct v' w' kA bJ _ dL=>⟨?_,bJ.base⟩
 cases dL with
 |cons h5 _=>rw[J8 kA h5];rfl
end
section
variable{vs:e_}{v:V3 K}{m:Nat}
noncomputable def Xr(Bs:aa)(vs:e_)(v:V3 K)(i:Nat)(hi:i<=vs.length)(h63:vs.length<1000)(more:bM prog Bs 36):bM prog Bs 36:=
 .LW f175 24 2 38 30 zV.v k_::.upto f175 27 0 vs.length i 30 hi k_::
 .Q7 f175 28 3 2 0 i i 38 30 360 0 0 [] 0 (.view (aN vs)) (aN (vs.take i)) (kB i) rfl (by
   show((aN vs).drop 0 |>.take (i*30)).length=i*30;rw[mI,Rk,pY,jK,oz hi]) rfl (by
   show[]++(((aN vs).drop 0).take (i*30))=_;rw[mI,Rk];rfl) (LM vs) d_ (by simp[maxLen];omega) o_ k_::
 .bs f175 30 4 1 38 30 [0] zV.v [bE v] (aN [v]).toArray (.row (aN [v]) 38 30) rfl (bB.1 k_) (bB.1 (dC _)) k_ k_ d_ d_ k_::
 .pP f175 31 5 3 i 1 (i+1) 38 30 360 (aN (vs.take i)) 4 (.row (aN [v]) 38 30) (aN (vs.take i++[v])) rfl rfl (pY _) (by rw[pY,jK,oz hi]) (LL _ _) (LM _) d_ (by simp[maxLen];omega) o_ k_::more
theorem aSe(hs:∀ p∈vs,aF m p)(sv:aF m v)(hm:8*m+100<=aE)(h63:vs.length<1000)(hi:i<=vs.length)(h1:∀(j:Nat) (q:V3 K),j<i->vs[j]?=some q->eG q v<0)(h2:i=vs.length\/∃ p,vs[i]?=some p/\0<eG p v):
  lO prog 175 [oM vs,.p (bE v)] 38 30 (vs.length+1) (aN (vs.take i++[v]++vs.drop i)):=by
 have aC:([oM vs,aP.p (bE v)].all aP.ok)=true:=by simp only[eC,e7,iA];rw[show(oM vs).ok=true from dC vs];rfl
 have lo:=λBs=>aSc (Bs:=Bs) hs sv hm h63 hi h1 h2;have hlen:(aN (vs.take i++[v]++vs.drop i)).length=(vs.length+1)*30:=by
  rw[pY];congr 1
  simp[jK];omega
 have gn:(aN (vs.take i++[v])).length=(i+1)*30:=by
  rw[pY];congr 1
  simp[jK];omega
 rcases e9 i vs.length with al|ga
 ·refine x9 (k:=6) mixed func175 aC 200 (N:=36) k_ (λw=>.code 0 _ _ _ _ _ (lo _)::Xr _ vs v i hi h63 [.behind f175 34 0 vs.length i (vs.length-i) 30 o_ o_ k_,.Q7 f175 35 6 5 (i+1) (vs.length-i) (vs.length+1) 38 30 360 (i*30) i (aN (vs.take i++[v])) 0 (.view (aN vs)) (aN (vs.take i++[v]++vs.drop i)) o_ rfl (by
    show(((aN vs).drop (i*30)).take ((vs.length-i)*30)).length=(vs.length-i)*30;rw[aFC,Rk,pY,jK,vV,Nat.min_self]) gn (by
    show _++(((aN vs).drop (i*30)).take ((vs.length-i)*30))=_;rw[aFC,Rk,show(vs.drop i).take (vs.length-i)=vs.drop i from kG (by rw[vV];exact bF _),LL]) (LM vs) d_ (by simp[maxLen];omega) o_ k_]) (λw=>k_) (dC _) hlen
 ·have cC:i=vs.length:=by omega
  subst cC;have e:vs.take vs.length++[v]++vs.drop vs.length=vs.take vs.length++[v]:=by rw[List.drop_length,jO]
  rw[e]at hlen ⊢;by_cases h0:vs.length=0
  ·refine x9 (k:=6) mixed func175 aC 200 (N:=36) k_ (λw=>.code 0 _ _ _ _ _ (lo _)::Xr _ vs v vs.length hi h63 [.rw 33 (vI vs.length) (vI 0) (by rw[h0]),.aRB f175 34 0 vs.length 30 k_,.Q7 f175 35 6 5 (vs.length+1) vs.length (vs.length+1) 38 30 360 0 0 (aN (vs.take vs.length++[v])) 0 (.view (aN vs)) (aN (vs.take vs.length++[v])) o_ rfl (by
     show(((aN vs).drop 0).take (vs.length*30)).length=vs.length*30;rw[h0];rfl) gn (by
     show _++(((aN vs).drop 0).take (vs.length*30))=_;rw[show((aN vs).drop 0).take (vs.length*30)=[]by rw[h0,kQ,aAl]];exact jO _) (LM vs) d_ (by simp[maxLen];omega) o_ k_]) (λw=>k_) (dC _) hlen
  ·refine x9 (k:=7) mixed func175 aC 200 (N:=36) k_ (λw=>.code 0 _ _ _ _ _ (lo _)::Xr _ vs v vs.length hi h63 [.aRD f175 34 0 0 vs.length 0 30 6 (.view (aN vs)) rfl k_,.pP f175 35 7 5 (vs.length+1) 0 (vs.length+1) 38 30 360 (aN (vs.take vs.length++[v])) 6 (.view []) (aN (vs.take vs.length++[v])) rfl rfl rfl gn (jO _) n_ d_ (by simp[maxLen];omega) o_ k_]) (λw=>k_) (dC _) hlen
end
def eP(ps:c_)(i:Nat):HS K:=match ps[i]? with|some p=>p|none=>⟨0,0⟩
theorem qf(h:ps[i]?=some p):eP ps i=p:=by unfold eP;rw[h]
def Jn(i j k:Nat)(x:V3 K)(l:Nat)(p:HS K):Bool:=decide (l=i)||(decide (l=j)||(decide (l=k)||decide (OF.aH (dot p.n x-p.d)<=0)))
def AX(ps:c_)(i j k:Nat)(x:V3 K):Bool:=(List.range ps.length).all λl=>Jn i j k x l (eP ps l)
def uN(ps:c_)(acc:e_)(i j k:Nat):e_:=
 if bA (eP ps i).n (eP ps j).n (eP ps k).n=0 then acc else if AX ps i j k (lC (eP ps i) (eP ps j) (eP ps k))then aWY acc (lC (eP ps i) (eP ps j) (eP ps k))else acc
theorem aSf{v:V3 K}(hs:∀ p∈vs,aF m p)(sv:aF m v)(hm:8*m+100<=aE)(h63:vs.length<1000){p:V3 K}(hp:vs[i]?=some p)(h0:eG p v=0)(h1:∀(j:Nat) (q:V3 K),j<i->vs[j]?=some q->eG q v<0)
  {o:Oper} {y:m_} (ho:dF o.op=some y) (k:Nat):cI prog Bs o [.func (.func 175) #[] #[],sl k vs.length,bE v] [(k,some (.row (aN vs) 38 30))] (sl k vs.length) []:=by
 refine jY (fi:=[]) (ca:=[]) ho k_ λι c w bJ hn args' bh=>?_;rw[ju,jO]at bh;obtain⟨va,vb,rfl,hv,il⟩:=js bh;rw[il.fD rfl];have hk:c k=some _:=hn _ (aR ..);have hr:=o7 (len:=vs.length*30) bJ hk rfl (bB.1 (dC vs)) (λh=>by rw[h]) hv;have e:(((Obj.row (aN vs) 38 30).cells.drop 0).take (vs.length*30))=aN vs:=by show((aN vs).drop 0).take (vs.length*30)=_;rw[mI,kG (by rw[pY];exact bF _)]
 rw[e]at hr;refine(aSd hs sv hm h63 hp h0 h1 hr).mono ?_
 rintro e w' ⟨rfl,hb⟩
 exact⟨ι,_,rfl,Map.le.refl _,hv,bJ.call hb⟩
section
variable{Bs:aa}{ps:c_}{m:Nat}
def Jo(n i j k l:Nat)(f:Bool):aT:=[(10,vI l),(9,.bool f),(0,sl 0 n),(4,vI i),(5,vI j),(6,vI k),(7,ptr 4)]
def AY(ps:c_)(x:V3 K):aM:=[(0,.view (bf ps)),(4,.aK (cH x).cs 38)]
theorem aFE{l:Nat}{x:V3 K}(hl:l<ps.length)(hp:ps[l]?=some p)(sp:bP m p)(sx:aF m x)(pn:p.n≠0)(hm:100*m+1000<=aE)(ht:Jn i j k x l p=t)(h63:ps.length<1000):
  ah prog Bs 81 (aI (ag f129 6)) (Jo ps.length i j k l true) (AY ps x) 5 ⟨.normal,Jo ps.length i j k (l+1) t,AY ps x,5⟩:=by
 unfold Jn at ht;have sd:=aWG sp sx o_ pn;by_cases h1:l=i
 ·rw[aJ h1,Ht]at ht;subst ht;exact aD [.lt 48 l ps.length true (aJ hl),.gO 56 l i true (aJ h1),.sum 53 l 1 (l+1) rfl o_]
 rw[bd h1,zH]at ht;by_cases h2:l=j
 ·rw[aJ h2,Ht]at ht;subst ht;exact aD [.lt 48 l ps.length true (aJ hl),.gO 56 l i false (bd h1),.gO 60 l j true (aJ h2),.sum 53 l 1 (l+1) rfl o_]
 rw[bd h2,zH]at ht;by_cases h3:l=k
 ·rw[aJ h3,Ht]at ht;subst ht;exact aD [.lt 48 l ps.length true (aJ hl),.gO 56 l i false (bd h1),.gO 60 l j false (bd h2),.gO 65 l k true (aJ h3),.sum 53 l 1 (l+1) rfl o_]
 rw[bd h3,zH]at ht;exact aD [.lt 48 l ps.length true (aJ hl),.gO 56 l i false (bd h1),.gO 60 l j false (bd h2),.gO 65 l k false (bd h3),.c8 f129 70 0 ps.length l 40 hl k_,.ld f129 71 50 0 (l*40) (.view (bf ps)) (dJ p) rfl (Re hp) k_,sd.at 73,.rw 74 (.bool (decide (OF.aH (dot p.n x-p.d)<=0))) (.bool t) (by rw[ht]),.sum 53 l 1 (l+1) rfl o_]
theorem aSg{l:Nat}{x:V3 K}:ah prog Bs 81 (aI (ag f129 6)) (Jo ps.length i j k l false) (AY ps x) 5 ⟨.exit 6,[(9,.bool false)],AY ps x,5⟩:=by
 by_cases h:l<ps.length
 ·exact aD [.lt 48 l ps.length true (aJ h)]
 ·exact aD [.lt 48 l ps.length false (bd h)]
theorem aSh{x:V3 K}(hs:∀ p∈ps,bP m p/\p.n≠0)(sx:aF m x)(hm:100*m+1000<=aE)(h63:ps.length<1000):
  ah prog Bs 81 (.block 6 (ag f129 6)) (Jo ps.length i j k 0 true) (AY ps x) 5 ⟨.normal,[(9,.bool (AX ps i j k x))],AY ps x,5⟩:=by
 unfold AX;rcases Jk (λl=>Jn i j k x l (eP ps l)) ps.length with h|⟨n,hn,h2,h3,h4⟩
 ·rw[h];exact cd (id:=6) (cx ps.length (λl=>Jo ps.length i j k l true) (λ_=>AY ps x) (λ_ _ _=>Iff.rfl) (r:=⟨.exit 6,[(9,.bool true)],AY ps x,5⟩) (λl hl=>by have hx:ps[l]?=some ps[l]:=aW hl;have:=Jl h hl;rw[qf hx]at this;exact aFE hl hx (hs _ (df hl)).1 sx (hs _ (df hl)).2 hm this h63) (aD [.lt 48 ps.length ps.length false s_]) n_)
 ·rw[h4];exact cd (id:=6) (cx (n+1) (λl=>Jo ps.length i j k l (decide (l<=n))) (λ_=>AY ps x) (λ_ _ _=>Iff.rfl) (r:=⟨.exit 6,[(9,.bool false)],AY ps x,5⟩) (λl hl=>by
   have lQ:l<ps.length:=by omega
   have hx:ps[l]?=some ps[l]:=aW lQ;simp only[aJ (show l<=n by omega)];refine aFE lQ hx (hs _ (df lQ)).1 sx (hs _ (df lQ)).2 hm ?_ h63;by_cases he:l=n
   ·subst he;rw[qf hx]at h2;rw[h2];exact(bd o_).symm
   ·have:=h3 l o_;rw[qf hx]at this;rw[this];exact(aJ o_).symm) (by
   simp only[bd (show ¬n+1<=n by omega)];exact aSg) n_)
def MD(n i j k L:Nat):aT:=[(6,vI k),(5,vI j),(4,vI i),(0,sl 0 n),(3,sl 3 L)]
def oR(ps:c_):aM:=[(0,.view (bf ps))]
def oS(acc:e_):List Obj:=[.row (aN acc) 38 30]
noncomputable def Rl{q r:HS K}(hi:i<ps.length)(hj:j<i)(hk:k<j)(hp:ps[i]?=some p)(hq:ps[j]?=some q)(hr:ps[k]?=some r)(sp:bP m p)(sq:bP m q)(sr:bP m r)(pn:p.n≠0)(qn:q.n≠0)(rn:r.n≠0)(hm:200*m+1000<=aE)
  (hu:(if bA p.n q.n r.n=0 then Value.tuple #[zV.v,.int .i64 11]else .tuple #[bE (lC p q r),.int .i64 0])=u) (more:bM prog Bs 81):bM prog Bs 81:=
 .lt 24 k j true (aJ hk)::.c8 f129 30 0 ps.length i 40 hi k_::.ld f129 31 50 0 (i*40) (.view (bf ps)) (dJ p) rfl (Re hp) k_::.c8 f129 34 0 ps.length j 40 o_ k_::.ld f129 35 50 0 (j*40) (.view (bf ps)) (dJ q) rfl (Re hq) k_::
 .c8 f129 38 0 ps.length k 40 o_ k_::.ld f129 39 50 0 (k*40) (.view (bf ps)) (dJ r) rfl (Re hr) k_::(hu▸aQl sp sq sr hm pn qn rn:aG prog 173 [dJ p,dJ q,dJ r] u).at 40::more
theorem aSi{M:Nat}(hs:∀ p∈ps,bP m p/\p.n≠0)(hm:200*m+1000<=aE)(hM:120*m+365<=M)(AZ:100*M+1000<=aE)(ha:∀ v∈acc,aF M v)(hL:acc.length<1000)(hi:i<ps.length)(hj:j<i)(hk:k<j)(h63:ps.length<1000):
  ∃ σ gN,(∀ Cx:e_,Dw (oR ps++dT [some 2] (oS Cx)) 3 σ (MD ps.length i j (k+1) (uN ps acc i j k).length) (oR ps) (oS (uN ps acc i j k))=true)/\
   ah prog Bs 81 (aI (ag f129 4)) (MD ps.length i j k acc.length) (oR ps++marks 3 (oS acc)) 4 ⟨.normal,gH 3 σ (MD ps.length i j (k+1) (uN ps acc i j k).length),oR ps++dT σ (oS (uN ps acc i j k)),gN⟩:=by
 have hp:ps[i]?=some ps[i]:=aW hi;have hq:ps[j]?=some ps[j]:=aW o_;have hr:ps[k]?=some ps[k]:=aW o_;obtain⟨sp,pn⟩:=hs _ (df hi);obtain⟨sq,qn⟩:=hs _ (df (show j<ps.length by omega));obtain⟨sr,rn⟩:=hs _ (df (show k<ps.length by omega));unfold uN;rw[qf hp,qf hq,qf hr];generalize ps[i]=p at *;generalize ps[j]=q at *;generalize ps[k]=r at *;by_cases hd:bA p.n q.n r.n=0
 ·rw[aB hd];refine⟨[some 3],5,λCx=>k_,?_⟩;exact fF mixed 200 (Rl hi hj hk hp hq hr sp sq sr pn qn rn hm (aB hd) [.sum 26 k 1 (k+1) rfl o_]) k_
 ·rw[az hd];have sx:aF M (lC p q r):=(aF.lC sp sq sr hd).mono hM;have mM:m<=M:=by clear hm AZ;omega
  have pL:∀ p∈ps,bP M p/\p.n≠0:=λt ht=>⟨(hs t ht).1.mono mM,(hs t ht).2⟩;have lo:=aSh (Bs:=Bs) (i:=i) (j:=j) (k:=k) pL sx AZ h63;generalize lC p q r=x at *;by_cases hb:AX ps i j k x=true
  ·rw[aB hb];rw[hb]at lo;rcases Rj x acc with ⟨t,y,h1,h2,h3,h4⟩|⟨t,h1,h2,h3,h4⟩
   ·rw[h4];refine⟨[some 3],5,λCx=>k_,?_⟩;exact fF mixed 200 (Rl hi hj hk hp hq hr sp sq sr pn qn rn hm (az hd) [.code 6 _ _ _ _ _ lo,.step 79 (au f129 79) [.func (.func 175) #[] #[],sl 3 acc.length,bE x] [(3,some (.row (aN acc) 38 30))] (sl 3 acc.length) [] (aSf ha sx (by clear hm;omega) hL h1 h2 h3 (y:=.func 175) k_ 3),.sum 26 k 1 (k+1) rfl o_]) k_
   ·have hlen:(aWY acc x).length=acc.length+1:=by rw[h4];simp only[lF,jK,vV,PW];omega
    have hc:=aSe ha sx (by clear hm;omega) hL h1 h2 h3;rw[<-h4]at hc;rw[hlen];generalize aWY acc x=aFF at *;refine⟨[some 5],6,λCx=>k_,?_⟩;exact fF mixed 200 (Rl hi hj hk hp hq hr sp sq sr pn qn rn hm (az hd) [.code 6 _ _ _ _ _ lo,.step 79 (au f129 79) [.func (.func 175) #[] #[],sl 3 acc.length,bE x] [(5,none),(3,some (.row (aN acc) 38 30))] (sl 5 (acc.length+1)) [(5,.row (aN aFF) 38 30)]
      (rS hc (.w (x:=.row (aN acc) 38 30) rfl (dC acc) rU (.p k_ .nil)) (x:=.func 175) k_ k_ (dC aFF) 5),
     .sum 26 k 1 (k+1) rfl o_]) k_
  ·have jX:AX ps i j k x=false:=by cases h:AX ps i j k x<;>first|rfl|exact absurd h hb
   rw[az hb];rw[jX]at lo;refine⟨[some 3],5,λCx=>k_,?_⟩;exact fF mixed 200 (Rl hi hj hk hp hq hr sp sq sr pn qn rn hm (az hd) [.code 6 _ _ _ _ _ lo,.sum 26 k 1 (k+1) rfl o_]) k_
end
def pD(ps:c_)(acc:e_)(i j:Nat):Nat->List (V3 K)
 |0=>acc
 |k+1=>uN ps (pD ps acc i j k) i j k
def oq(ps:c_)(acc:e_)(i:Nat):Nat->List (V3 K)
 |0=>acc
 |j+1=>pD ps (oq ps acc i j) i j j
def sB(ps:c_):Nat->List (V3 K)
 |0=>[]
 |i+1=>oq ps (sB ps i) i i
def fC(ps:c_):e_:=sB ps ps.length
theorem aSj{v x:V3 K}:∀{vs:e_},x∈aWY vs v->x∈vs\/x=v:=λ{vs} h=>by
 rcases Rj v vs with ⟨_,_,_,_,_,h4⟩|⟨t,_,_,_,h4⟩
 ·rw[h4]at h;exact .inl h
 ·rw[h4]at h;simp only[eX,Cm]at h;rcases h with (h|h)|h
  ·exact .inl (IM h)
  ·exact .inr h
  ·exact .inl (Xd h)
theorem aSk(v:V3 K)(vs:e_):(aWY vs v).length<=vs.length+1:=by
 rcases Rj v vs with ⟨_,_,_,_,_,h4⟩|⟨t,_,_,_,h4⟩
 ·rw[h4];omega
 ·rw[h4];simp only[lF,jK,vV,PW];omega
theorem aSl(ps:c_)(acc:e_)(i j k:Nat):(uN ps acc i j k).length<=acc.length+1:=by
 unfold uN;by_cases h:bA (eP ps i).n (eP ps j).n (eP ps k).n=0
 ·rw[aB h];omega
 ·rw[az h];split
  ·exact aSk _ _
  ·omega
theorem Xs(hs:∀ p∈ps,bP m p/\p.n≠0)(hi:i<ps.length):bP m (eP ps i):=by rw[qf (aW hi)];exact(hs _ (df hi)).1
theorem aSm{M:Nat}(hs:∀ p∈ps,bP m p/\p.n≠0)(hM:120*m+365<=M)(ha:∀ v∈acc,aF M v)(hi:i<ps.length)(hj:j<ps.length)(hk:k<ps.length):∀ v∈uN ps acc i j k,aF M v:=by
 unfold uN;by_cases h:bA (eP ps i).n (eP ps j).n (eP ps k).n=0
 ·rw[aB h];exact ha
 ·rw[az h];split
  ·intro v hv;rcases aSj hv with hv|hv
   ·exact ha v hv
   ·rw[hv];exact(aF.lC (Xs hs hi) (Xs hs hj) (Xs hs hk) h).mono hM
  ·exact ha
section
variable{ps:c_}{m M:Nat}
theorem Xt(hs:∀ p∈ps,bP m p/\p.n≠0)(hM:120*m+365<=M){acc:e_}(ha:∀ v∈acc,aF M v){i j:Nat}(hi:i<ps.length)(hj:j<i):∀ k,k<=j->(∀ v∈pD ps acc i j k,aF M v)/\(pD ps acc i j k).length<=acc.length+k
 |0,_=>⟨ha,bF _⟩
 |k+1,h=>by obtain⟨h1,h2⟩:=Xt hs hM ha hi hj k o_;have:=aSl ps (pD ps acc i j k) i j k;exact⟨aSm hs hM h1 hi o_ o_,by unfold pD;omega⟩
theorem Xu(hs:∀ p∈ps,bP m p/\p.n≠0)(hM:120*m+365<=M)(h9:ps.length<=9){acc:e_}(ha:∀ v∈acc,aF M v){i:Nat}(hi:i<ps.length):∀ j,j<=i->(∀ v∈oq ps acc i j,aF M v)/\(oq ps acc i j).length<=acc.length+9*j
 |0,_=>⟨ha,bF _⟩
 |j+1,h=>by obtain⟨h1,h2⟩:=Xu hs hM h9 ha hi j o_;obtain⟨h3,h4⟩:=Xt hs hM h1 hi (show j<i by omega) j (bF _);exact⟨h3,by unfold oq;omega⟩
theorem Xv(hs:∀ p∈ps,bP m p/\p.n≠0)(hM:120*m+365<=M)(h9:ps.length<=9):∀ i,i<=ps.length->(∀ v∈sB ps i,aF M v)/\(sB ps i).length<=81*i
 |0,_=>⟨λv hv=>(by cases hv),bF _⟩
 |i+1,h=>by obtain⟨h1,h2⟩:=Xv hs hM h9 i o_;obtain⟨h3,h4⟩:=Xu hs hM h9 h1 (show i<ps.length by omega) i (bF _);exact⟨h3,by unfold sB;omega⟩
theorem Xw{m:Nat}:∀ x∈oR ps,fE m x.2:=λx hx=>by simp only[oR,cD,jE,jF]at hx;subst hx;exact λv hv=>iH (bB.1 (dx ps) v hv)
theorem Xx{m:Nat}:∀ x∈oS acc,fE m x:=λx hx=>by simp only[oS,cD,jE,jF]at hx;subst hx;exact λv hv=>iH (bB.1 (dC acc) v hv)
variable{Bs:aa}
theorem aSn(hs:∀ p∈ps,bP m p/\p.n≠0)(hm:200*m+1000<=aE)(hM:120*m+365<=M)(AZ:100*M+1000<=aE)(ha:∀ v∈acc,aF M v)(hi:i<ps.length)(hj:j<i)(h9:ps.length<=9)(hL:acc.length+j<1000):
  ah prog Bs 81 (.block 4 (ag f129 4)) (gH 3 [some 2] (MD ps.length i j 0 acc.length)) (oR ps++dT [some 2] (oS acc)) 3 ⟨.normal,[(3,sl 3 (pD ps acc i j j).length)],oR ps++marks 3 (oS (pD ps acc i j j)),4⟩:=by
 have:=qF (P:=prog) (B:=Bs) (N:=81) (b:=aI (ag f129 4)) (next:=3) (p:=1) (r:=⟨.exit 4,[(3,sl 3 (pD ps acc i j j).length)],oR ps++marks 3 (oS (pD ps acc i j j)),4⟩) j
  (λk=>MD ps.length i j k (pD ps acc i j k).length) (λ_=>oR ps) (λk=>oS (pD ps acc i j k)) [some 2] (λ_ _=>rfl) (λ_ _=>⟨Xw,Xx⟩) k_ k_
  (λk hk=>by obtain⟨h1,h2⟩:=Xt hs hM ha hi hj k o_;obtain⟨σ,gN,e1,e2⟩:=aSi (Bs:=Bs) hs hm hM AZ h1 o_ hi hj hk o_;exact⟨σ,gN,e1 _,e2⟩)
  (by generalize pD ps acc i j j=a;exact aD [.lt 24 j j false s_]) n_
 exact cd (id:=4) this
def Xy(n i j L:Nat):aT:=[(5,vI j),(4,vI i),(0,sl 0 n),(3,sl 2 L)]
theorem aSo(hs:∀ p∈ps,bP m p/\p.n≠0)(hm:200*m+1000<=aE)(hM:120*m+365<=M)(AZ:100*M+1000<=aE)(ha:∀ v∈acc,aF M v)(hi:i<ps.length)(h9:ps.length<=9)(hL:acc.length+9*i<1000):
  ah prog Bs 81 (.block 2 (ag f129 2)) (gH 2 [some 1] (Xy ps.length i 0 acc.length)) (oR ps++dT [some 1] (oS acc)) 2 ⟨.normal,[(3,sl 2 (oq ps acc i i).length)],oR ps++marks 2 (oS (oq ps acc i i)),3⟩:=by
 have:=qF (P:=prog) (B:=Bs) (N:=81) (b:=aI (ag f129 2)) (next:=2) (p:=1) (r:=⟨.exit 2,[(3,sl 2 (oq ps acc i i).length)],oR ps++marks 2 (oS (oq ps acc i i)),3⟩) i
  (λj=>Xy ps.length i j (oq ps acc i j).length) (λ_=>oR ps) (λj=>oS (oq ps acc i j)) [some 1] (λ_ _=>rfl) (λ_ _=>⟨Xw,Xx⟩) k_ k_
  (λj hj=>by obtain⟨h1,h2⟩:=Xu hs hM h9 ha hi j o_;have lo:=aSn (Bs:=Bs) hs hm hM AZ h1 hi hj h9 o_;refine⟨[some 3],4,k_,?_⟩;show ah _ _ _ _ _ _ _ ⟨.normal,gH 2 [some 3] (Xy ps.length i (j+1) (pD ps (oq ps acc i j) i j j).length),oR ps++dT [some 3] (oS (pD ps (oq ps acc i j) i j j)),4⟩;generalize oq ps acc i j=a at *;generalize pD ps a i j j=b at *;exact aD [.lt 19 j i true (aJ hj),.code 4 _ _ _ _ _ lo,.sum 21 j 1 (j+1) rfl o_])
  (by generalize oq ps acc i i=a;exact aD [.lt 19 i i false s_]) n_
 exact cd (id:=2) this
def Xz(n i L:Nat):aT:=[(4,vI i),(0,sl 0 n),(3,sl 1 L)]
theorem aSp(hs:∀ p∈ps,bP m p/\p.n≠0)(hm:200*m+1000<=aE)(hM:120*m+365<=M)(AZ:100*M+1000<=aE)(h9:ps.length<=9):
  ah prog Bs 81 (.block 0 (ag f129 0)) (gH 1 [none] (Xz ps.length 0 0)) (oR ps++dT [none] (oS [])) 1 ⟨.normal,[(3,sl 1 (fC ps).length)],oR ps++marks 1 (oS (fC ps)),2⟩:=by
 have:=qF (P:=prog) (B:=Bs) (N:=81) (b:=aI (ag f129 0)) (next:=1) (p:=1) (r:=⟨.exit 0,[(3,sl 1 (sB ps ps.length).length)],oR ps++marks 1 (oS (sB ps ps.length)),2⟩) ps.length
  (λi=>Xz ps.length i (sB ps i).length) (λ_=>oR ps) (λi=>oS (sB ps i)) [none] (λ_ _=>rfl) (λ_ _=>⟨Xw,Xx⟩) k_ k_
  (λi hi=>by obtain⟨h1,h2⟩:=Xv hs hM h9 i o_;have lo:=aSo (Bs:=Bs) hs hm hM AZ h1 hi h9 o_;refine⟨[some 2],3,k_,?_⟩;show ah _ _ _ _ _ _ _ ⟨.normal,gH 1 [some 2] (Xz ps.length (i+1) (oq ps (sB ps i) i i).length),oR ps++dT [some 2] (oS (oq ps (sB ps i) i i)),3⟩;generalize sB ps i=a at *;generalize oq ps a i i=b at *;exact aD [.lt 14 i ps.length true (aJ hi),.code 2 _ _ _ _ _ lo,.sum 16 i 1 (i+1) rfl o_])
  (by generalize sB ps ps.length=a;exact aD [.lt 14 ps.length ps.length false s_]) n_
 exact cd (id:=0) this
theorem aSq(hs:∀ p∈ps,bP m p/\p.n≠0)(hm:200*m+1000<=aE)(hM:120*m+365<=M)(AZ:100*M+1000<=aE)(h9:ps.length<=9):lO prog 129 [fV ps] 38 30 (fC ps).length (aN (fC ps)):=by
 have aC:([fV ps].all aP.ok)=true:=by simp only[eC,e7,fV,aP.ok,dx,iA]
 have lo:=λBs=>aSp (Bs:=Bs) hs hm hM AZ h9;generalize fC ps=c at *;exact x9 (k:=1) mixed func129 aC 100 (N:=81) k_ (λ_=>[.code 0 _ _ _ _ _ (lo _)]) (λ_=>k_) (dC c) (pY c)
end
def Rm(g:V3 K)(vs:e_)(o a b:Nat):Int:=OF.aH (bA g (aw vs a-aw vs o) (aw vs b-aw vs o))
def CN(g:V3 K)(vs:e_)(o a:Nat)(b:Nat):Bool:=decide (Rm g vs o a b=0)
section
variable{Bs:aa}{vs:e_}{p:HS K}{o a:Nat}{l:l_}{m:Nat}
def G6(n r i:Nat):aT:=[(7,vI (i+2)),(1,sl 0 n),(2,sl 1 r),(3,ptr 2)]
def wZ(vs:e_)(p:HS K)(on:l_):aM:=[(0,.view (aN vs)),(1,.view (av on)),(2,.aK (c9 p).cs 50)]
theorem neB(h:decide (z=0)=!t):Value.bool (z !=0)=.bool t:=by
 congr 1
 cases t
 ·have:=kp h;subst this;rfl
 ·have:=DJ h;exact rJ.2 this
theorem kM(hs:∀ v∈vs,aF m v)(hi:i<vs.length):aF m (aw vs i):=hs _ (cL (jU hi))
noncomputable def flS(hb:l[i]?=some b)(hn:aF m p.n)(hs:∀ v∈vs,aF m v)(ho:o<vs.length)(ha:a<vs.length)(tL:b<vs.length)(hm:200*m+400<=aE)(ht:CN p.n vs o a b=!t)(more:bM prog Bs 37):bM prog Bs 37:=
 .lt 11 (i+2) (l.length+2) true (aJ (by have:=(dZ.1 hb).1;omega))::.ix f205 18 1 (l.length+2) 0 o_ k_::.ld f205 19 3 1 0 (.view (av (o::a::l))) (vI o) rfl (ew (l:=o::a::l) (i:=0) rfl) k_::
 .c8 f205 20 0 vs.length o 30 ho k_::.ld f205 21 38 0 (o*30) (.view (aN vs)) (bE (aw vs o)) rfl (ke (jU ho)) k_::.ix f205 24 1 (l.length+2) 1 o_ k_::.ld f205 25 3 1 1 (.view (av (o::a::l))) (vI a) rfl (ew (l:=o::a::l) (i:=1) rfl) k_::
 .c8 f205 26 0 vs.length a 30 ha k_::.ld f205 27 38 0 (a*30) (.view (aN vs)) (bE (aw vs a)) rfl (ke (jU ha)) k_::.ix f205 31 1 (l.length+2) (i+2) (by have:=(dZ.1 hb).1;omega) k_::
 .ld f205 32 3 1 (i+2) (.view (av (o::a::l))) (vI b) rfl (ew (l:=o::a::l) (i:=i+2) hb) k_::.c8 f205 33 0 vs.length b 30 tL k_::.ld f205 34 38 0 (b*30) (.view (aN vs)) (bE (aw vs b)) rfl (ke (jU tL)) k_::
 (aEr hn (kM hs ho) (kM hs ha) (kM hs tL) hm).at 35::.rw 36 _ (.bool t) (neB ht)::more
theorem aFG(hb:l[i]?=some b)(hn:aF m p.n)(hs:∀ v∈vs,aF m v)(ho:o<vs.length)(ha:a<vs.length)(tL:b<vs.length)(hm:200*m+400<=aE)(ht:CN p.n vs o a b=true)(h63:l.length<900000):
  ah prog Bs 37 (aI (ag f205 0)) (G6 vs.length (l.length+2) i) (wZ vs p (o::a::l)) 3 ⟨.normal,G6 vs.length (l.length+2) (i+1),wZ vs p (o::a::l),3⟩:=by
 have hi:=(dZ.1 hb).1;exact fF mixed 200 (flS (t:=false) hb hn hs ho ha tL hm ht [.sum 13 (i+2) 1 (i+1+2) o_ o_]) k_
theorem aSr(hb:l[i]?=some b)(hn:aF m p.n)(hs:∀ v∈vs,aF m v)(ho:o<vs.length)(ha:a<vs.length)(tL:b<vs.length)(hm:200*m+400<=aE)(ht:CN p.n vs o a b=false):
  ah prog Bs 37 (aI (ag f205 0)) (G6 vs.length (l.length+2) i) (wZ vs p (o::a::l)) 3 ⟨.ret,[(6,.bool false)],wZ vs p (o::a::l),3⟩:=
 fF mixed 200 (flS (t:=true) hb hn hs ho ha tL hm ht []) k_
theorem aSs(hn:aF m p.n)(hs:∀ v∈vs,aF m v)(iL:∀ x∈o::a::l,x<vs.length)(hm:200*m+400<=aE)(h63:l.length<900000):cy prog 205 [.p (dJ p),.r vs.length (aN vs),.r (l.length+2) (av (o::a::l))] (.bool (l.all (CN p.n vs o a))):=by
 have aC:([aP.p (dJ p),.r vs.length (aN vs),.r (l.length+2) (av (o::a::l))].all aP.ok)=true:=by simp only[eC,e7,aP.ok,iA];rw[show(aN vs).all flat=true from dC vs,show(av (o::a::l)).all flat=true from iJ _];rfl
 have ho:=iL o (aR ..);have ha:=iL a (bI _ (aR ..));have hl:∀{i b:Nat},l[i]?=some b->b<vs.length:=λh=>iL _ (bI _ (bI _ (cL h)));rcases CK (CN p.n vs o a) l with h|⟨n,x,h1,h2,h3,h4⟩
 ·rw[h];have lo:∀ B:aa,ah prog B 37 (.block 0 (ag f205 0)) (G6 vs.length (l.length+2) 0) (wZ vs p (o::a::l)) 3 ⟨.normal,[],wZ vs p (o::a::l),3⟩:=λB=>
   cd (id:=0) (cx l.length (λi=>G6 vs.length (l.length+2) i) (λ_=>wZ vs p (o::a::l)) (λi k _=>Iff.rfl) (r:=⟨.exit 0,[],wZ vs p (o::a::l),3⟩) (λi hi=>by have hx:l[i]?=some l[i]:=aW hi;exact aFG hx hn hs ho ha (hl hx) hm (EE h hx) h63) (aD [.lt 11 (l.length+2) (l.length+2) false s_]) n_)
  exact dj func205 aC 37 (λw=>[.code 0 _ _ _ _ _ (lo _)])
 ·rw[h4];have lo:∀ B:aa,ah prog B 37 (.block 0 (ag f205 0)) (G6 vs.length (l.length+2) 0) (wZ vs p (o::a::l)) 3 ⟨.ret,[(6,.bool false)],wZ vs p (o::a::l),3⟩:=λB=>
   cd (id:=0) (cx n (λi=>G6 vs.length (l.length+2) i) (λ_=>wZ vs p (o::a::l)) (λi k _=>Iff.rfl) (r:=⟨.ret,[(6,.bool false)],wZ vs p (o::a::l),3⟩) (λi hi=>by have al:=(dZ.1 h1).1;have hx:l[i]?=some l[i]:=aW o_;exact aFG hx hn hs ho ha (hl hx) hm (h3 i _ hi hx) h63) (aSr h1 hn hs ho ha (hl h1) hm h2) n_)
  exact dj func205 aC 37 (λw=>[.code 0 _ _ _ _ _ (lo _)])
end
def ME(vs:e_)(i k j:Nat):Bool:=decide (OF.aH (dot (af (aw vs (i+1)-aw vs 0) (aw vs (k+1)-aw vs 0)) (aw vs (j+1)-aw vs 0))=0)
def G7(vs:e_)(i k:Nat):Bool:=(List.range k).all (ME vs i k)
def EG(vs:e_)(i:Nat):Bool:=(List.range i).all (G7 vs i)
def vP(vs:e_):Bool:=(List.range (vs.length-1)).all (EG vs)
section
variable{Bs:aa}{vs:e_}{m:Nat}
def XA(n i k j:Nat):aT:=[(7,vI (j+1)),(5,vI (k+1)),(0,sl 0 n),(6,ptr 2)]
def sjM(vs:e_)(a c:V3 K):aM:=[(0,.view (aN vs)),(1,.aK (cH a).cs 38),(2,.aK (cH c).cs 38)]
noncomputable def XB(hs:∀ v∈vs,aF m v)(hi:i+1<vs.length)(hk:k<i)(hj:j<k)(hm:300*m+1000<=aE)(ht:ME vs i k j=!t)(more:bM prog Bs 54):bM prog Bs 54:=
 .lt 39 (j+1) (k+1) true (aJ o_)::.c8 f130 45 0 vs.length (j+1) 30 o_ k_::.ld f130 46 38 0 ((j+1)*30) (.view (aN vs)) (bE (aw vs (j+1))) rfl (ke (jU o_)) k_::
 .c8 f130 48 0 vs.length 0 30 o_ k_::.ld f130 49 38 0 (0*30) (.view (aN vs)) (bE (aw vs 0)) rfl (ke (jU o_)) k_::
 (aW6 (kM hs (show j+1<vs.length by omega)) (kM hs (show 0<vs.length by omega)) o_).at 50::
 (aWV (((kM hs hi).sub (kM hs (show 0<vs.length by omega))).af ((kM hs (show k+1<vs.length by omega)).sub (kM hs (show 0<vs.length by omega)))) ((kM hs (show j+1<vs.length by omega)).sub (kM hs (show 0<vs.length by omega))) o_).at 51::
 (aWJ ((((kM hs hi).sub (kM hs (show 0<vs.length by omega))).af ((kM hs (show k+1<vs.length by omega)).sub (kM hs (show 0<vs.length by omega)))).dot ((kM hs (show j+1<vs.length by omega)).sub (kM hs (show 0<vs.length by omega)))) o_).at 52::
 .rw 53 _ (.bool t) (neB ht)::more
def G8(vs:e_)(i k:Nat):aM:=sjM vs (aw vs (i+1)-aw vs 0) (af (aw vs (i+1)-aw vs 0) (aw vs (k+1)-aw vs 0))
theorem aFH(hs:∀ v∈vs,aF m v)(hi:i+1<vs.length)(hk:k<i)(hm:300*m+1000<=aE)(h63:vs.length<900000):
  ah prog Bs 54 (.block 4 (ag f130 4)) (XA vs.length i k 0) (G8 vs i k) 3 (if G7 vs i k then⟨.normal,[],G8 vs i k,3⟩else⟨.ret,[(2,.bool true)],G8 vs i k,3⟩):=by
 unfold G7;rcases Jk (ME vs i k) k with h|⟨n,hn,h2,h3,h4⟩
 ·rw[h];exact cd (id:=4) (cx k (λj=>XA vs.length i k j) (λ_=>G8 vs i k) (λ_ _ _=>Iff.rfl) (r:=⟨.exit 4,[],G8 vs i k,3⟩) (λj hj=>
   fF mixed 200 (XB (t:=false) hs hi hk hj hm (Jl h hj) [.sum 41 (j+1) 1 (j+1+1) rfl o_]) k_) (aD [.lt 39 (k+1) (k+1) false s_]) n_)
 ·rw[h4];exact cd (id:=4) (cx n (λj=>XA vs.length i k j) (λ_=>G8 vs i k) (λ_ _ _=>Iff.rfl) (r:=⟨.ret,[(2,.bool true)],G8 vs i k,3⟩) (λj hj=>
   fF mixed 200 (XB (t:=false) hs hi hk o_ hm (h3 j hj) [.sum 41 (j+1) 1 (j+1+1) rfl o_]) k_) (fF mixed 200 (XB (t:=true) hs hi hk hn hm h2 []) k_) n_)
def MF(n i k:Nat):aT:=[(5,vI (k+1)),(3,vI (i+1)),(0,sl 0 n),(4,ptr 1)]
def yQ(vs:e_)(i:Nat):aM:=[(0,.view (aN vs)),(1,.aK (cH (aw vs (i+1)-aw vs 0)).cs 38)]
theorem aSt{n:Nat}:∀ x∈yQ vs i,fE n x.2:=λx hx=>by
 simp only[yQ,cD,jE,jF]at hx;rcases hx with rfl|rfl
 ·exact λv hv=>iH (bB.1 (dC vs) v hv)
 ·exact λv hv=>iH (RV.nY _ v hv)
noncomputable def skS(hs:∀ v∈vs,aF m v)(hi:i+1<vs.length)(hk:k<i)(hm:300*m+1000<=aE)(more:bM prog Bs 54):bM prog Bs 54:=
 .lt 24 (k+1) (i+1) true (aJ o_)::.c8 f130 30 0 vs.length (k+1) 30 o_ k_::.ld f130 31 38 0 ((k+1)*30) (.view (aN vs)) (bE (aw vs (k+1))) rfl (ke (jU o_)) k_::
 .c8 f130 33 0 vs.length 0 30 o_ k_::.ld f130 34 38 0 (0*30) (.view (aN vs)) (bE (aw vs 0)) rfl (ke (jU o_)) k_::
 (aW6 (kM hs (show k+1<vs.length by omega)) (kM hs (show 0<vs.length by omega)) o_).at 35::
 (aWC ((kM hs hi).sub (kM hs (show 0<vs.length by omega))) ((kM hs (show k+1<vs.length by omega)).sub (kM hs (show 0<vs.length by omega))) o_).at 36::more
theorem aFI(hs:∀ v∈vs,aF m v)(hi:i+1<vs.length)(hm:300*m+1000<=aE)(h63:vs.length<900000):
  ah prog Bs 54 (.block 2 (ag f130 2)) (MF vs.length i 0) (yQ vs i) 2 (if EG vs i then⟨.normal,[],yQ vs i,2⟩else⟨.ret,[(2,.bool true)],yQ vs i,3⟩):=by
 have MG:∀ k,k<i->G7 vs i k=true->ah prog Bs 54 (aI (ag f130 2)) (MF vs.length i k) (yQ vs i) 2 ⟨.normal,MF vs.length i (k+1),yQ vs i,2⟩:=λk hk h=>by have lo:=aFH (Bs:=Bs) hs hi hk hm h63;rw[aB h]at lo;exact ua mixed 200 (gN:=3) (skS hs hi hk hm [.code 4 _ _ _ _ _ lo,.sum 26 (k+1) 1 (k+1+1) rfl o_]) k_ rfl k_ aSt k_
 unfold EG;rcases Jk (G7 vs i) i with h|⟨n,hn,h2,h3,h4⟩
 ·rw[h];exact cd (id:=2) (cx i (λk=>MF vs.length i k) (λ_=>yQ vs i) (λ_ _ _=>Iff.rfl) (r:=⟨.exit 2,[],yQ vs i,2⟩) (λk hk=>MG k hk (Jl h hk)) (aD [.lt 24 (i+1) (i+1) false s_]) n_)
 ·rw[h4];exact cd (id:=2) (cx n (λk=>MF vs.length i k) (λ_=>yQ vs i) (λ_ _ _=>Iff.rfl) (r:=⟨.ret,[(2,.bool true)],yQ vs i,3⟩) (λk hk=>MG k o_ (h3 k hk)) (by have lo:=aFH (Bs:=Bs) hs hi hn hm h63;rw[az (by rw[h2];decide)]at lo;exact fF mixed 200 (skS hs hi hn hm [.code 4 _ _ _ _ _ lo]) k_) n_)
def Jp(n i:Nat):aT:=[(3,vI (i+1)),(0,sl 0 n)]
def w6(vs:e_):aM:=[(0,.view (aN vs))]
theorem aSu{n:Nat}:∀ x∈w6 vs,fE n x.2:=λx hx=>by simp only[w6,cD,jE,jF]at hx;subst hx;exact λv hv=>iH (bB.1 (dC vs) v hv)
noncomputable def stS(hs:∀ v∈vs,aF m v)(hi:i+1<vs.length)(hm:300*m+1000<=aE)(more:bM prog Bs 54):bM prog Bs 54:=
 .lt 11 (i+1) vs.length true (aJ hi)::.c8 f130 16 0 vs.length (i+1) 30 hi k_::.ld f130 17 38 0 ((i+1)*30) (.view (aN vs)) (bE (aw vs (i+1))) rfl (ke (jU hi)) k_::
 .c8 f130 19 0 vs.length 0 30 o_ k_::.ld f130 20 38 0 (0*30) (.view (aN vs)) (bE (aw vs 0)) rfl (ke (jU o_)) k_::
 (aW6 (kM hs hi) (kM hs (show 0<vs.length by omega)) o_).at 21::more
theorem aSv(hs:∀ v∈vs,aF m v)(hm:300*m+1000<=aE)(h63:vs.length<900000):cy prog 130 [.r vs.length (aN vs)] (.bool (!vP vs)):=by
 have aC:([aP.r vs.length (aN vs)].all aP.ok)=true:=by simp only[eC,e7,aP.ok,iA];exact dC vs
 have MG:∀(B:aa) i,i<vs.length-1->EG vs i=true->ah prog B 54 (aI (ag f130 0)) (Jp vs.length i) (w6 vs) 1 ⟨.normal,Jp vs.length (i+1),w6 vs,1⟩:=λB i hi h=>by have lo:=aFI (Bs:=B) hs (show i+1<vs.length by omega) hm h63;rw[aB h]at lo;exact ua mixed 200 (gN:=2) (stS (i:=i) hs o_ hm [.code 2 _ _ _ _ _ lo,.sum 13 (i+1) 1 (i+1+1) rfl o_]) k_ rfl k_ aSu k_
 unfold vP;rcases Jk (EG vs) (vs.length-1)with h|⟨n,hn,h2,h3,h4⟩
 ·rw[h];have lo:∀ B:aa,ah prog B 54 (.block 0 (ag f130 0)) (Jp vs.length 0) (w6 vs) 1 ⟨.normal,[],w6 vs,1⟩:=λB=>
   cd (id:=0) (cx (vs.length-1) (λi=>Jp vs.length i) (λ_=>w6 vs) (λ_ _ _=>Iff.rfl) (r:=⟨.exit 0,[],w6 vs,1⟩) (λi hi=>MG B i hi (Jl h hi)) (aD [.lt 11 (vs.length-1+1) vs.length false (bd o_)]) n_)
  exact dj func130 aC 54 (λw=>[.code 0 _ _ _ _ _ (lo _)])
 ·rw[h4];have lo:∀ B:aa,ah prog B 54 (.block 0 (ag f130 0)) (Jp vs.length 0) (w6 vs) 1 ⟨.ret,[(2,.bool true)],w6 vs,3⟩:=λB=>
   cd (id:=0) (cx n (λi=>Jp vs.length i) (λ_=>w6 vs) (λ_ _ _=>Iff.rfl) (r:=⟨.ret,[(2,.bool true)],w6 vs,3⟩) (λi hi=>MG B i o_ (h3 i hi)) (by have lo:=aFI (Bs:=B) hs (show n+1<vs.length by omega) hm h63;rw[az (by rw[h2];decide)]at lo;exact fF mixed 200 (stS (i:=n) hs o_ hm [.code 2 _ _ _ _ _ lo]) k_) n_)
  exact dj func130 aC 54 (λw=>[.code 0 _ _ _ _ _ (lo _)])
end
section
variable{Bs:aa}{vs:e_}
def MH(n j L:Nat):aT:=[(6,vI j),(1,sl 0 n),(5,sl 2 L),(2,ptr 1)]
def A0(vs:e_)(p:HS K):aM:=[(0,.view (aN vs)),(1,.aK (c9 p).cs 50)]
theorem aSw:∀ x∈A0 vs p,fE m x.2:=λx hx=>by
 simp only[A0,cD,jE,jF]at hx;rcases hx with rfl|rfl
 ·exact λv hv=>iH (bB.1 (dC vs) v hv)
 ·exact λv hv=>iH (jS.flat _ v hv)
theorem aSx{l:l_}(hj:j<vs.length)(hp:bP m p)(kv:p.n≠0)(aU:∀ v∈vs,aF q v)(hm:100*(m+q)+1000<=aE)(h63:l.length<900000)(rh:vs.length<1000000):
  ∃ σ gN,(∀ l0:List Nat,Dw (A0 vs p++dT [none] (ky l0)) 2 σ (MH vs.length (j+1) (l++if dot p.n (aw vs j)-p.d=0 then[j]else[]).length) (A0 vs p) (ky (l++if dot p.n (aw vs j)-p.d=0 then[j]else[]))=true)/\
   ah prog Bs 124 (aI (ag f177 0)) (MH vs.length j l.length) (A0 vs p++marks 2 (ky l)) 3 ⟨.normal,gH 2 σ (MH vs.length (j+1) (l++if dot p.n (aw vs j)-p.d=0 then[j]else[]).length),A0 vs p++dT σ (ky (l++if dot p.n (aw vs j)-p.d=0 then[j]else[])),gN⟩:=by
 have hv:=jU hj;have hs:=aWG hp (aU _ (cL hv)) o_ kv;by_cases h:dot p.n (aw vs j)-p.d=0
 ·rw[aB h];have e:(Value.bool (OF.aH (dot p.n (aw vs j)-p.d)==0))=.bool true:=by rw[OF.OH.1 h];rfl
  have hr:av l++[vI j]=av (l++[j]):=by simp[av]
  have EB:(av l).length=l.length*1:=by rw[od,gP]
  have h1:=Mt l;rw[show(l++[j]).length=l.length+1 by simp];unfold ky;refine⟨[some 4],5,λl0=>k_,?_⟩;generalize OF.aH (dot p.n (aw vs j)-p.d)=z at *;generalize aw vs j=v at *;generalize av l=c0 at *;generalize av (l++[j])=c1 at *;exact aD [.lt 15 j vs.length true (aJ hj),.c8 f177 21 0 vs.length j 30 hj k_,.ld f177 22 38 0 (j*30) (.view (aN vs)) (bE v) rfl (ke hv) k_,hs.at 23,.rw 24 (.bool (z==0)) b_ e,.bs f177 27 3 1 3 1 [0] (vI 0) [vI j] #[vI j] (.row [vI j] 3 1) rfl (λv hv=>by simp at hv;subst hv;rfl) (λv hv=>by simp at hv;subst hv;rfl) k_ rfl d_ d_ k_,.pP f177 28 4 2 l.length 1 (l.length+1) 3 1 8 c0 3 (.row [vI j] 3 1) c1 rfl rfl rfl EB hr (λv hv=>by simp[Obj.cells]at hv;subst hv;rfl) d_ (by simp[maxLen];omega) o_ k_,.sum 17 j 1 (j+1) rfl o_]
 ·rw[az h,jO];have e:(Value.bool (OF.aH (dot p.n (aw vs j)-p.d)==0))=.bool false:=by
   congr 1
   have:OF.aH (dot p.n (aw vs j)-p.d)≠0:=λe=>h (OF.OH.2 e);simpa using this
  refine⟨[some 2],3,λl0=>k_,?_⟩;generalize OF.aH (dot p.n (aw vs j)-p.d)=z at *;generalize aw vs j=v at *;exact aD [.lt 15 j vs.length true (aJ hj),.c8 f177 21 0 vs.length j 30 hj k_,.ld f177 22 38 0 (j*30) (.view (aN vs)) (bE v) rfl (ke hv) k_,hs.at 23,.rw 24 (.bool (z==0)) a_ e,.sum 17 j 1 (j+1) rfl o_]
theorem aFJ(hp:bP m p)(kv:p.n≠0)(aU:∀ v∈vs,aF q v)(hm:100*(m+q)+1000<=aE)(h63:vs.length<900000):
  ah prog Bs 124 (.block 0 (ag f177 0)) (gH 2 [none] (MH vs.length 0 0)) (A0 vs p++dT [none] (ky [])) 2 ⟨.normal,[(5,sl 2 (ch p vs vs.length).length)],A0 vs p++marks 2 (ky (ch p vs vs.length)),3⟩:=by
 have:=qF (P:=prog) (B:=Bs) (N:=124) (b:=aI (ag f177 0)) (next:=2) (p:=1) (r:=⟨.exit 0,[(5,sl 2 (ch p vs vs.length).length)],A0 vs p++marks 2 (ky (ch p vs vs.length)),3⟩) vs.length
  (λj=>MH vs.length j (ch p vs j).length) (λ_=>A0 vs p) (λj=>ky (ch p vs j)) [none] (λ_ _=>rfl) (λj _=>⟨aSw,Xh⟩) k_ k_
  (λj hj=>by have hl:=Jg p vs j;obtain⟨σ,gN,h1,h2⟩:=aSx (Bs:=Bs) (l:=ch p vs j) hj hp kv aU hm o_ o_;rw[aE4];exact⟨σ,gN,h1 _,h2⟩)
  (by generalize ch p vs vs.length=a;exact aD [.lt 15 vs.length vs.length false s_]) n_
 exact cd (id:=0) this
end
def Jq(g:V3 K)(vs:e_)(a c b:Nat):Bool:=decide (b=a)||(decide (b=c)||decide (0<Rm g vs a c b))
section
variable{Bs:aa}{vs:e_}{on:l_}{p:HS K}{m:Nat}
def Jr(n L a k j:Nat)(f:Bool):aT:=[(11,vI j),(10,.bool f),(5,sl 2 L),(8,vI a),(9,vI k),(1,sl 0 n),(2,ptr 1)]
def nN(vs:e_)(p:HS K)(on:l_):aM:=[(0,.view (aN vs)),(1,.aK (c9 p).cs 50),(2,.row (av on) 3 1)]
theorem gtB(h:decide (0<z)=t):Value.bool (decide (z>0))=.bool t:=by rw[<-h]
theorem aFK{c:Nat}(hb:on[j]?=some b)(hc:on[k]?=some c)(iL:∀ x∈on,x<vs.length)(ha:a<vs.length)(hn:aF m p.n)(hs:∀ v∈vs,aF m v)(hm:200*m+400<=aE)(ht:Jq p.n vs a c b=t)(h63:on.length<900000):
  ah prog Bs 124 (aI (ag f177 6)) (Jr vs.length on.length a k j true) (nN vs p on) 5 ⟨.normal,Jr vs.length on.length a k (j+1) t,nN vs p on,5⟩:=by
 have hj:=(dZ.1 hb).1;have hk:=(dZ.1 hc).1;have tL:=iL b (cL hb);have kA:=iL c (cL hc);unfold Jq at ht;by_cases h1:b=a
 ·rw[aJ h1,Ht]at ht;subst ht;exact fF mixed 200 [.lt 68 j on.length true (aJ hj),.ix f177 76 2 on.length j hj k_,.ld f177 77 3 2 j (.row (av on) 3 1) (vI b) rfl (ew hb) k_,.gO 79 b a true (aJ h1),.sum 73 j 1 (j+1) rfl o_] k_
 rw[bd h1,zH]at ht;by_cases h2:b=c
 ·rw[aJ h2,Ht]at ht;subst ht;exact fF mixed 200 [.lt 68 j on.length true (aJ hj),.ix f177 76 2 on.length j hj k_,.ld f177 77 3 2 j (.row (av on) 3 1) (vI b) rfl (ew hb) k_,.gO 79 b a false (bd h1),.ix f177 83 2 on.length j hj k_,.ld f177 84 3 2 j (.row (av on) 3 1) (vI b) rfl (ew hb) k_,.ix f177 87 2 on.length k hk k_,.ld f177 88 3 2 k (.row (av on) 3 1) (vI c) rfl (ew hc) k_,.gO 89 b c true (aJ h2),.sum 73 j 1 (j+1) rfl o_] k_
 rw[bd h2,zH]at ht;exact fF mixed 200 [.lt 68 j on.length true (aJ hj),.ix f177 76 2 on.length j hj k_,.ld f177 77 3 2 j (.row (av on) 3 1) (vI b) rfl (ew hb) k_,.gO 79 b a false (bd h1),.ix f177 83 2 on.length j hj k_,.ld f177 84 3 2 j (.row (av on) 3 1) (vI b) rfl (ew hb) k_,.ix f177 87 2 on.length k hk k_,.ld f177 88 3 2 k (.row (av on) 3 1) (vI c) rfl (ew hc) k_,.gO 89 b c false (bd h2),.c8 f177 96 0 vs.length a 30 ha k_,.ld f177 97 38 0 (a*30) (.view (aN vs)) (bE (aw vs a)) rfl (ke (jU ha)) k_,.ix f177 101 2 on.length k hk k_,.ld f177 102 3 2 k (.row (av on) 3 1) (vI c) rfl (ew hc) k_,.c8 f177 103 0 vs.length c 30 kA k_,.ld f177 104 38 0 (c*30) (.view (aN vs)) (bE (aw vs c)) rfl (ke (jU kA)) k_,.ix f177 108 2 on.length j hj k_,.ld f177 109 3 2 j (.row (av on) 3 1) (vI b) rfl (ew hb) k_,.c8 f177 110 0 vs.length b 30 tL k_,.ld f177 111 38 0 (b*30) (.view (aN vs)) (bE (aw vs b)) rfl (ke (jU tL)) k_,(aEr hn (kM hs ha) (kM hs kA) (kM hs tL) hm).at 112,.rw 113 _ (.bool t) (gtB ht),.sum 73 j 1 (j+1) rfl o_] k_
theorem aSy:ah prog Bs 124 (aI (ag f177 6)) (Jr vs.length on.length a k j false) (nN vs p on) 5 ⟨.exit 6,[(10,.bool false)],nN vs p on,5⟩:=by
 by_cases h:j<on.length
 ·exact aD [.lt 68 j on.length true (aJ h)]
 ·exact aD [.lt 68 j on.length false (bd h)]
def MI(g:V3 K)(vs:e_)(on:l_)(a c:Nat):Bool:=on.all (Jq g vs a c)
theorem aFL{c:Nat}(hc:on[k]?=some c)(iL:∀ x∈on,x<vs.length)(ha:a<vs.length)(hn:aF m p.n)(hs:∀ v∈vs,aF m v)(hm:200*m+400<=aE)(h63:on.length<900000):
  ah prog Bs 124 (.block 6 (ag f177 6)) (Jr vs.length on.length a k 0 true) (nN vs p on) 5 ⟨.normal,[(10,.bool (MI p.n vs on a c))],nN vs p on,5⟩:=by
 unfold MI;rcases CK (Jq p.n vs a c) on with h|⟨n,x,h1,h2,h3,h4⟩
 ·rw[h];exact cd (id:=6) (cx on.length (λj=>Jr vs.length on.length a k j true) (λ_=>nN vs p on) (λ_ _ _=>Iff.rfl) (r:=⟨.exit 6,[(10,.bool true)],nN vs p on,5⟩) (λj hj=>by have hx:on[j]?=some on[j]:=aW hj;exact aFK hx hc iL ha hn hs hm (EE h hx) h63) (aD [.lt 68 on.length on.length false s_]) n_)
 ·rw[h4];have al:=(dZ.1 h1).1;exact cd (id:=6) (cx (n+1) (λj=>Jr vs.length on.length a k j (decide (j<=n))) (λ_=>nN vs p on) (λ_ _ _=>Iff.rfl) (r:=⟨.exit 6,[(10,.bool false)],nN vs p on,5⟩) (λj hj=>by
   have Js:j<on.length:=by omega
   have hx:on[j]?=some on[j]:=aW Js;simp only[aJ (show j<=n by omega)];refine aFK hx hc iL ha hn hs hm ?_ h63;by_cases he:j=n
   ·subst he;rw[h1]at hx;injection hx with hx;rw[<-hx,h2];exact(bd o_).symm
   ·rw[h3 j _ o_ hx];exact(aJ o_).symm) (by
   simp only[bd (show ¬n+1<=n by omega)];exact aSy) n_)
end
def vQ(g:V3 K)(vs:e_)(on:l_)(a c:Nat):Bool:=!decide (c=a)&&MI g vs on a c
section
variable{Bs:aa}{vs:e_}{on:l_}{p:HS K}{m:Nat}
def MJ(n L R a k:Nat):aT:=[(9,vI k),(5,sl 2 L),(7,sl 4 R),(8,vI a),(1,sl 0 n),(2,ptr 1)]
def G9(vs:e_)(p:HS K)(on out:l_):aM:=nN vs p on++marks 4 (ky out)
theorem aSz{c:Nat}{out:l_}(hc:on[k]?=some c)(iL:∀ x∈on,x<vs.length)(ha:a<vs.length)(hn:aF m p.n)(hs:∀ v∈vs,aF m v)(hm:200*m+400<=aE)(h63:on.length<900000)(hf:vQ p.n vs on a c=false):
  ah prog Bs 124 (aI (ag f177 4)) (MJ vs.length on.length out.length a k) (G9 vs p on out) 5 ⟨.normal,MJ vs.length on.length out.length a (k+1),G9 vs p on out,5⟩:=by
 have hk:=(dZ.1 hc).1;by_cases h:c=a
 ·exact fF mixed 200 [.lt 56 k on.length true (aJ hk),.ix f177 61 2 on.length k hk k_,.ld f177 62 3 2 k (.row (av on) 3 1) (vI c) rfl (ew hc) k_,.gO 64 c a true (aJ h),.sum 58 k 1 (k+1) rfl o_] k_
 ·have lo:=aFL (Bs:=Bs) hc iL ha hn hs hm h63;unfold vQ at hf;rw[bd h]at hf;have hf:MI p.n vs on a c=false:=hf;rw[hf]at lo;exact fF mixed 200 [.lt 56 k on.length true (aJ hk),.ix f177 61 2 on.length k hk k_,.ld f177 62 3 2 k (.row (av on) 3 1) (vI c) rfl (ew hc) k_,.gO 64 c a false (bd h),.code 6 _ _ _ _ _ lo,.sum 58 k 1 (k+1) rfl o_] k_
theorem aSA{c:Nat}{out:l_}(hc:on[k]?=some c)(iL:∀ x∈on,x<vs.length)(ha:a<vs.length)(hn:aF m p.n)(hs:∀ v∈vs,aF m v)(hm:200*m+400<=aE)(h63:on.length<900000)(ho:out.length<900000)(hf:vQ p.n vs on a c=true):
  ah prog Bs 124 (aI (ag f177 4)) (MJ vs.length on.length out.length a k) (G9 vs p on out) 5 ⟨.exit 4,[(7,sl 6 (out++[c]).length)],nN vs p on++[(6,.row (av (out++[c])) 3 1)],7⟩:=by
 have hk:=(dZ.1 hc).1;have lo:=aFL (Bs:=Bs) hc iL ha hn hs hm h63;unfold vQ at hf;rw[de]at hf;obtain⟨h1,h2⟩:=hf;have h:¬c=a:=by intro e;rw[aJ e]at h1;cases h1
 rw[h2]at lo;have hr:av out++[vI c]=av (out++[c]):=by simp[av]
 have EB:(av out).length=out.length*1:=by rw[od,gP]
 rw[show(out++[c]).length=out.length+1 by simp];have jl:=ew hc;unfold G9 ky;generalize av out=c0 at *;generalize av (out++[c])=c1 at *;exact fF mixed 200 [.lt 56 k on.length true (aJ hk),.ix f177 61 2 on.length k hk k_,.ld f177 62 3 2 k (.row (av on) 3 1) (vI c) rfl jl k_,.gO 64 c a false (bd h),.code 6 _ _ _ _ _ lo,.ix f177 119 2 on.length k hk k_,.ld f177 120 3 2 k (.row (av on) 3 1) (vI c) rfl jl k_,.bs f177 121 5 1 3 1 [0] (vI 0) [vI c] #[vI c] (.row [vI c] 3 1) rfl (λv hv=>by simp at hv;subst hv;rfl) (λv hv=>by simp at hv;subst hv;rfl) k_ rfl d_ d_ k_,.pP f177 122 6 4 out.length 1 (out.length+1) 3 1 8 c0 5 (.row [vI c] 3 1) c1 rfl rfl rfl EB hr (λv hv=>by simp[Obj.cells]at hv;subst hv;rfl) d_ (by simp[maxLen];omega) o_ k_] k_
theorem aSB{c:Nat}{out:l_}(hc:on[k]?=some c)(iL:∀ x∈on,x<vs.length)(ha:a<vs.length)(hn:aF m p.n)(hs:∀ v∈vs,aF m v)(hm:200*m+400<=aE)(h63:on.length<900000)(ho:out.length<900000)(hf:vQ p.n vs on a c=true)
  (hb:∀(i:Nat) (x:Nat),i<k->on[i]?=some x->vQ p.n vs on a x=false) :
  ah prog Bs 124 (.block 4 (ag f177 4)) (MJ vs.length on.length out.length a 0) (G9 vs p on out) 5 ⟨.normal,[(7,sl 6 (out++[c]).length)],nN vs p on++[(6,.row (av (out++[c])) 3 1)],7⟩:=
 cd (id:=4) (cx k (λi=>MJ vs.length on.length out.length a i) (λ_=>G9 vs p on out) (λ_ _ _=>Iff.rfl) (r:=⟨.exit 4,[(7,sl 6 (out++[c]).length)],nN vs p on++[(6,.row (av (out++[c])) 3 1)],7⟩) (λi hi=>by have hk:=(dZ.1 hc).1;have hx:on[i]?=some on[i]:=aW o_;exact aSz hx iL ha hn hs hm h63 (hb i _ hi hx)) (aSA hc iL ha hn hs hm h63 ho hf) n_)
end
section
variable{Bs:aa}{vs:e_}{on:l_}{p:HS K}{m:Nat}
def Rn(n L R:Nat):aT:=[(7,sl 4 R),(5,sl 2 L),(1,sl 0 n),(2,ptr 1)]
theorem aSC{c R:Nat}{out:l_}(hR:out.length=R+1)(al:out.length<on.length)(hl:out[R]?=some a)(hc:on[k]?=some c)(iL:∀ x∈on,x<vs.length)(ha:a<vs.length)(hn:aF m p.n)(hs:∀ v∈vs,aF m v)(hm:200*m+400<=aE)(h63:on.length<900000)(hf:vQ p.n vs on a c=true)
  (hb:∀(i:Nat) (x:Nat),i<k->on[i]?=some x->vQ p.n vs on a x=false) :
  ah prog Bs 124 (aI (ag f177 2)) (Rn vs.length on.length out.length) (nN vs p on++marks 4 (ky out)) 5 ⟨.normal,gH 4 [some 6] (Rn vs.length on.length (out++[c]).length),nN vs p on++dT [some 6] (ky (out++[c])),7⟩:=by
 have lo:=aSB (Bs:=Bs) hc iL ha hn hs hm h63 o_ hf hb (out:=out);have jl:=ew hl;have e:(out++[c]).length=R+2:=by simp[hR]
 rw[e]at lo ⊢;unfold G9 at lo;rw[hR]at lo ⊢;unfold ky at *;generalize av out=c0 at *;generalize av (out++[c])=c1 at *;exact fF mixed 200 [.lt 46 (R+1) on.length true (aJ o_),.fq 50 (R+1) 1 R rfl o_,.ix f177 51 4 (R+1) R o_ k_,.ld f177 52 3 4 R (.row c0 3 1) (vI a) rfl jl k_,.code 4 _ _ _ _ _ lo] k_
end
structure aWE(g:V3 K)(vs:e_)(on sq:l_):Prop where
 len:sq.length=on.length
 head:sq[0]?=on[0]?
 step:∀(i a c:Nat),sq[i]?=some a->sq[i+1]?=some c->∃ k:Nat,on[k]?=some c/\vQ g vs on a c=true/\∀(j x:Nat),j<k->on[j]?=some x->vQ g vs on a x=false
section
variable{Bs:aa}{vs:e_}{on sq:l_}{p:HS K}{m:Nat}
theorem aSD{n:Nat}:∀ x∈nN vs p on,fE n x.2:=λx hx=>by
 simp only[nN,cD,jE,jF]at hx;rcases hx with rfl|rfl|rfl
 ·exact λv hv=>iH (bB.1 (dC vs) v hv)
 ·exact λv hv=>iH (jS.flat _ v hv)
 ·exact λv hv=>iH (mT _ v hv)
theorem aSE{o:Nat}(h:aWE p.n vs on sq)(h0:on[0]?=some o)(iL:∀ x∈on,x<vs.length)(hn:aF m p.n)(hs:∀ v∈vs,aF m v)(hm:200*m+400<=aE)(h63:on.length<900000):
  ah prog Bs 124 (.block 2 (ag f177 2)) (gH 4 [some 3] (Rn vs.length on.length 1)) (nN vs p on++dT [some 3] (ky [o])) 4 ⟨.normal,[(7,sl 4 sq.length)],nN vs p on++marks 4 (ky sq),5⟩:=by
 have tW:=(dZ.1 h0).1;have hlen:=h.len;have rQ:∀ x∈sq,x<vs.length:=λx hx=>by
  obtain⟨i,hi,rfl⟩:=lS hx;cases i with
  |zero=>
   have e:=h.head;rw[aW hi,h0]at e;injection e with e;rw[e];exact iL _ (cL h0)
  |succ i=>
   obtain⟨k,e,_⟩:=h.step i _ _ (aW o_) (aW hi);exact iL _ (cL e)
 have e1:sq.take 1=[o]:=by have e:=h.head;rw[h0]at e;rw[List.take_one,List.head?_eq_getElem?,e];rfl
 have tl:∀ i,i<on.length->(sq.take (i+1)).length=i+1:=λi hi=>by rw[jK];omega
 have:=qF (P:=prog) (B:=Bs) (N:=124) (b:=aI (ag f177 2)) (next:=4) (p:=1) (r:=⟨.exit 2,[(7,sl 4 sq.length)],nN vs p on++marks 4 (ky sq),5⟩) (on.length-1)
  (λi=>Rn vs.length on.length (sq.take (i+1)).length) (λ_=>nN vs p on) (λi=>ky (sq.take (i+1))) [some 3] (λ_ _=>rfl) (λi _=>⟨aSD,Xh⟩) k_ k_
  (λi hi=>by
   have ha:sq[i]?=some sq[i]:=aW o_;have hc:sq[i+1]?=some sq[i+1]:=aW o_;obtain⟨k,q1,q2,q3⟩:=h.step i _ _ ha hc;have e:sq.take (i+1+1)=sq.take (i+1)++[sq[i+1]]:=by rw[tA,hc];rfl
   have hl:=tl i o_;have hr:=aSC (Bs:=Bs) (R:=i) hl o_ (by rw[uU,aB o_];exact ha) q1 iL (rQ _ (cL ha)) hn hs hm h63 q2 q3;refine⟨[some 6],7,k_,?_⟩;rw[e];exact hr)
  (by rw[show on.length-1+1=sq.length by omega,n9];rw[hlen];exact aD [.lt 46 on.length on.length false s_]) n_
 simp only[kB,e1]at this;exact cd (id:=2) this
end
def Ro(g:V3 K)(vs:e_):List Nat->Bool
 |o::a::l=>l.all (CN g vs o a)
 |_=>true
section
variable{vs:e_}{p:HS K}{m q:Nat}
noncomputable def aSF{on:l_}(h3:3<=on.length)(ht:Ro p.n vs on=t)(hn:aF m p.n)(hs:∀ v∈vs,aF m v)(iL:∀ x∈on,x<vs.length)(hm:200*m+400<=aE)(h63:on.length<900000):aY prog Bs 124:=
 .step 36 (au f177 36) [.func (.func 205) #[] #[],dJ p,sl 0 vs.length,sl 2 on.length] [(0,some (.view (aN vs))),(2,some (.row (av on) 3 1))] (.bool t) []
  (dD (by
   match on,h3,iL,ht,h63 with
   |o::a::l,_,iL,ht,h63=>
    have:=aSs hn hs iL hm (by simp only[qm]at h63;omega);rw[show l.all (CN p.n vs o a)=t from ht]at this;exact this) (.p rfl (.w (x:=.view (aN vs)) rfl (dC vs) rU (.w (x:=.row (av on) 3 1) rfl (iJ on) (λh=>QW h) .nil))) (x:=.func 205) k_ k_ rfl)
theorem aFM:([aP.p (dJ p),.r vs.length (aN vs)].all aP.ok)=true:=by simp only[eC,e7,aP.ok,iA];rw[show(aN vs).all flat=true from dC vs];rfl
theorem aSG(hp:bP m p)(kv:p.n≠0)(aU:∀ v∈vs,aF q v)(hm:100*(m+q)+1000<=aE)(h63:vs.length<900000)(h:(ch p vs vs.length).length<3):
  cy prog 177 [.p (dJ p),.r vs.length (aN vs)] (.slice none 0 0):=by
 have lo:=λBs=>aFJ (Bs:=Bs) hp kv aU hm h63;generalize ch p vs vs.length=on at *;exact jC mixed func177 aFM 200 (N:=124) k_ (λw=>[.code 0 _ _ _ _ _ (lo _),.lt 31 on.length 3 true (aJ h)]) (λ_=>k_) k_
theorem aWH{sq:l_}(hp:bP m p)(kv:p.n≠0)(aU:∀ v∈vs,aF m v)(hm:300*m+1000<=aE)(h63:vs.length<900000)(h:¬(ch p vs vs.length).length<3)(hf:Ro p.n vs (ch p vs vs.length)=false)(rQ:aWE p.n vs (ch p vs vs.length) sq):
  lO prog 177 [.p (dJ p),.r vs.length (aN vs)] 3 1 sq.length (av sq):=by
 have lo:=λBs=>aFJ (Bs:=Bs) hp kv aU o_ h63;have iL:∀ x∈ch p vs vs.length,x<vs.length:=λx hx=>Xg hx;have hol:=Jg p vs vs.length;generalize ch p vs vs.length=on at *;obtain⟨o,h0⟩:∃ o,on[0]?=some o:=⟨_,aW o_⟩;have l2:=λBs=>aSE (Bs:=Bs) rQ h0 iL hp.1 aU o_ o_;exact x9 (k:=4) mixed func177 aFM 200 (N:=124) k_ (λw=>[.code 0 _ _ _ _ _ (lo _),.lt 31 on.length 3 false (bd h),aSF o_ hf hp.1 aU iL o_ o_,.ix f177 39 2 on.length 0 o_ k_,.ld f177 40 3 2 0 (.row (av on) 3 1) (vI o) rfl (ew h0) k_,.bs f177 41 3 1 3 1 [0] (vI 0) [vI o] #[vI o] (.row [vI o] 3 1) rfl (λv hv=>by simp at hv;subst hv;rfl) (λv hv=>by simp at hv;subst hv;rfl) k_ rfl d_ d_ k_,.code 2 _ _ _ _ _ (l2 _)]) (λ_=>k_) (iJ sq) (by rw[od,gP])
end
theorem aFN{v:V3 K}:D6 ps v=false↔(v=0\/∃ r∈ps,0<dot r.n v):=by
 unfold D6;rw[Bool.and_eq_false_iff,Bool.not_eq_false',Bool.not_eq_false',Cs,sJ];constructor
 ·rintro(h|⟨r,hr,h⟩)
  ·exact .inl h
  ·exact .inr ⟨r,hr,Q4.1 (kp h)⟩
 ·rintro(h|⟨r,hr,h⟩)
  ·exact .inl h
  ·exact .inr ⟨r,hr,aJ (Q4.2 h)⟩
theorem XC{u:V3 K}:qS ps u=false↔(u≠0->(∃ r∈ps,0<dot r.n u)/\∃ r∈ps,0<dot r.n (-u)):=by
 unfold qS;rw[Np,aFN,aFN];constructor
 ·rintro⟨h1,h2⟩ hu
  exact⟨h1.resolve_left hu,h2.resolve_left λe=>hu (V3.neg_eq_zero.1 e)⟩
 ·intro h;by_cases hu:u=0
  ·exact⟨.inl hu,.inl (V3.neg_eq_zero.2 hu)⟩
  ·exact⟨.inr (h hu).1,.inr (h hu).2⟩
theorem aFO{ps:c_}:∀ n,n<=ps.length->(uA ps n=true↔∃(i j:Nat) (p q:HS K),i<n/\j<i/\ps[i]?=some p/\ps[j]?=some q/\af p.n q.n≠0)
 |0,_=>by
  constructor
  ·intro h;cases h
  ·rintro⟨i,_,_,_,h,_⟩;omega
 |n+1,hn=>by
  have hp:ps[n]?=some ps[n]:=aW o_;rw[aCK hp,u5,aFO n o_];unfold qT;rw[sJ];constructor
  ·rintro(⟨i,j,p,q,h1,h2,h3⟩|⟨q,hq,h⟩)
   ·exact⟨i,j,p,q,by omega,h2,h3⟩
   ·obtain⟨j,hj,rfl⟩:=lS hq;rw[jK]at hj;rw[Xl]at h;exact⟨n,j,ps[n],ps[j],by omega,by omega,hp,aW o_,by simpa using h⟩
  ·rintro⟨i,j,p,q,h1,h2,h3,h4,h5⟩
   rcases e9 i n with h|h
   ·exact .inl ⟨i,j,p,q,h,h2,h3,h4,h5⟩
   ·have:i=n:=by omega
    subst this;rw[hp]at h3;injection h3 with h3;subst h3;exact .inr ⟨q,cL (i:=j) (by rw[uU,aB h2];exact h4),by simpa using h5⟩
theorem aSH:P1 ps ps.length=false↔∀(i j:Nat) (p q:HS K),j<i->ps[i]?=some p->ps[j]?=some q->qS ps (af p.n q.n)=false:=by
 unfold P1;rw[J4];constructor
 ·intro h i j p q oE hp hq;have al:=(dZ.1 hp).1;have:=h i (ki.2 al);rw[P2 hp,sJ]at this;cases hb:qS ps (af p.n q.n)with
  |false=>rfl
  |true=>exact absurd ⟨q,cL (i:=j) (by rw[uU,aB oE];exact hq),hb⟩ this
 ·intro h i hi;have al:=ki.1 hi;have hp:ps[i]?=some ps[i]:=aW al;rw[P2 hp,sJ]
  rintro⟨q,hq,hb⟩
  obtain⟨j,hj,rfl⟩:=lS hq;rw[jK]at hj;have xd:ps[j]?=some ps[j]:=aW o_;rw[Xl]at hb;rw[h i j _ _ o_ hp xd]at hb;cases hb
theorem aFP:uB ps=true↔Cl ps:=by
 unfold uB;rw[de,zn,aFO _ (bF _),aSH];have sw:∀ p q:HS K,af q.n p.n=-af p.n q.n:=λp q=>V3.Gc _ _;constructor
 ·rintro⟨h1,i,j,p,q,hi,oE,hp,hq,hc⟩
  refine⟨⟨p,cL hp,q,cL hq,hc⟩,λp hp q hq bw=>?_⟩;obtain⟨i,hi,rfl⟩:=lS hp;obtain⟨j,hj,rfl⟩:=lS hq;rcases tO i j with h|h|h
  ·have:=XC.1 (h1 j i _ _ h (aW hj) (aW hi)) (λe=>bw (by rw[sw,e];exact V3.neg_eq_zero.2 rfl));rw[sw ps[j] ps[i]];exact this.2
  ·subst h;exact absurd (V3.Li _) bw
  ·exact(XC.1 (h1 i j _ _ h (aW hi) (aW hj)) bw).1
 ·rintro⟨⟨p,hp,q,hq,bw⟩,bh⟩
  refine⟨λi j p q _ hp hq=>XC.2 λhu=>?_,?_⟩
  ·have fG:=cL hp;have pw:=cL hq;refine⟨bh p fG q pw hu,?_⟩;rw[<-sw];exact bh q pw p fG (λe=>hu (by rw[sw q p,e];exact V3.neg_eq_zero.2 rfl))
  ·obtain⟨i,hi,rfl⟩:=lS hp;obtain⟨j,hj,rfl⟩:=lS hq;rcases tO i j with h|h|h
   ·exact⟨j,i,_,_,hj,h,aW hj,aW hi,λe=>bw (by rw[sw,e];exact V3.neg_eq_zero.2 rfl)⟩
   ·subst h;exact absurd (V3.Li _) bw
   ·exact⟨i,j,_,_,hi,h,aW hi,aW hj,bw⟩
theorem aFQ:∀ n:Nat,(CR.ofNat n:K)=kI (n:Int)
 |0=>rfl
 |n+1=>by
  show(CR.ofNat n:K)+1=_;rw[aFQ n];refine bL.ext (bL.ext ?_ ?_) (bL.ext ?_ ?_)
  ·show((n:Int):Rat)+1=(((n+1:Nat):Int):Rat)
   push_cast;rfl
  ·show(0:Rat)+0=0;exact Rat.add_zero 0
  ·show(0:Rat)+0=0;exact Rat.add_zero 0
  ·show(0:Rat)+0=0;exact Rat.add_zero 0
theorem aSI(z:Int):kI z=(Fr.mk z 0 0 0 1).val:=by have h:=UH z;have:=pk (kI z);rw[show bW (kI z)=⟨z,0,0,0,1⟩from h]at this;exact this.symm
theorem aSJ{n:Nat}(hn:n≠0):iB 1 (n:Int)*kI (n:Int)=1:=by
 rw[aSI];unfold iB;rw[<-KY (by simpa using hn) s_];have e:ep ⟨1,0,0,0,(n:Int)⟩ ⟨(n:Int),0,0,0,1⟩=⟨(n:Int),0,0,0,(n:Int)⟩:=by unfold ep;simp
 rw[e];unfold Fr.val;dsimp only;have h1:Rat.divInt (n:Int) (n:Int)=1:=by rw[B6,FV];exact Iv _ (by simpa using hn)
 rw[h1,Rat.zero_divInt];rfl
theorem aSK{n:Nat}(hn:n≠0):iB 1 (n:Int)=(CR.ofNat n:K)⁻¹:=by
 have h:=aSJ hn;rw[<-aFQ]at h;have bw:(CR.ofNat n:K)≠0:=OF.ne_of_gt (Vz o_);have h2:=OF.jz _ bw
 calc iB 1 (n:Int)=iB 1 (n:Int)*(CR.ofNat n*(CR.ofNat n:K)⁻¹):=by rw[h2,CR.mul_one]
  _=(CR.ofNat n:K)⁻¹:=by rw[<-CR.mul_assoc,h,CR.one_mul]
theorem aFR{l:e_}(h:l≠[]):Cw l=Cp l:=by have hl:l.length≠0:=λe=>h (k8 e);unfold Cw Cp;rw[aSK hl];rfl
theorem aSL:yn ps vs=true↔vs≠[]/\yf ps (Cp vs):=by
 unfold yn;rw[de,zn,zn,Z8,J4];have hl:¬vs.length=0↔vs≠[]:=⟨λh e=>h (by rw[e];rfl),λh e=>h (k8 e)⟩;rw[hl];constructor
 ·rintro⟨h1,h2⟩
  refine⟨h1,λp hp=>?_⟩;have:=h2 p hp;rw[Cs,Q5,aFR h1,OF.sub_nonneg]at this;exact OF.not_le.1 this
 ·rintro⟨h1,h2⟩
  refine⟨h1,λp hp=>?_⟩;rw[Cs,Q5,aFR h1,OF.sub_nonneg];exact OF.not_le.2 (h2 p hp)
theorem aSM(h:x≠0):0<jb x:=by
 unfold jb;by_cases hs:OF.aH x<0
 ·rw[aB hs,OF.gj,OF.pS,aFa.1 hs];rfl
 ·rw[az hs,OF.gj];rcases OF.ja x with e|e|e
  ·rw[e]at hs;exact absurd d_ hs
  ·exact absurd ((OF.fH x).1 e) h
  ·exact e
theorem aFS(h:x≠0):0<mS x:=by unfold mS;rw[show kI 1*(jb x)⁻¹=(jb x)⁻¹ from CR.one_mul _];exact OF.inv_pos (aSM h)
def CO(p:HS K)(k:K):HS K:=⟨smul p.n k,p.d*k⟩
theorem Rp(p:HS K):canon p=CO p (mS (qQ p.n)):=rfl
theorem aSN(v:V3 K)(a b:K):smul (smul v a) b=smul v (a*b):=V3.ext (CR.mul_assoc _ _ _) (CR.mul_assoc _ _ _) (CR.mul_assoc _ _ _)
theorem aSO(v:V3 K):smul v 1=v:=V3.ext (CR.mul_one _) (CR.mul_one _) (CR.mul_one _)
theorem XD(p:HS K)(a b:K):CO (CO p a) b=CO p (a*b):=HS.ext (aSN _ _ _) (CR.mul_assoc _ _ _)
theorem aSP(p:HS K):CO p 1=p:=HS.ext (aSO _) (CR.mul_one _)
theorem aSQ{v:V3 K}{k:K}(hk:k≠0):qQ (smul v k)=qQ v*k:=by
 have z:∀ x:K,x*k≠0↔x≠0:=λx=>⟨λh e=>h (by rw[e,CR.zero_mul]),λh=>OF.mul_ne_zero h hk⟩;unfold qQ;show(if v.x*k≠0 then v.x*k else if v.y*k≠0 then v.y*k else v.z*k)=_;by_cases hx:v.x≠0
 ·rw[aB ((z _).2 hx),aB hx]
 ·rw[az (λh=>hx ((z _).1 h)),az hx];by_cases hy:v.y≠0
  ·rw[aB ((z _).2 hy),aB hy]
  ·rw[az (λh=>hy ((z _).1 h)),az hy]
theorem aSR{k:K}(hk:0<k):jb (x*k)=jb x*k:=by
 unfold jb;have e:OF.aH (x*k)=OF.aH x:=by rw[CR.mul_comm,OF.OI hk]
 rw[e];by_cases h:OF.aH x<0
 ·rw[aB h,aB h,CR.neg_mul]
 ·rw[az h,az h]
theorem aSS{k:K}(hx:x≠0)(hk:0<k):k*mS (x*k)=mS x:=by
 have e:∀ y:K,mS y=(jb y)⁻¹:=λy=>CR.one_mul _;have x7:k≠0:=OF.ne_of_gt hk;have h0:jb x≠0:=PS hx;rw[e,e,aSR hk];have h1:=OF.jz _ h0;have h2:=OF.jz (jb x*k) (OF.mul_ne_zero h0 x7)
 calc k*(jb x*k)⁻¹=(jb x*(jb x)⁻¹)*(k*(jb x*k)⁻¹):=by rw[h1,CR.one_mul]
  _=(jb x)⁻¹*(jb x*k*(jb x*k)⁻¹):=by rw[CR.mul_comm (jb x),CR.mul_assoc,CR.mul_assoc]
  _=(jb x)⁻¹:=by rw[h2,CR.mul_one]
theorem XE{q:HS K}(hp:p.n≠0)(hq:q.n≠0):canon p=canon q↔∃ k:K,0<k/\q=CO p k:=by
 have ap:=aFS (PT hp);have aq:=aFS (PT hq);constructor
 ·intro h;rw[Rp,Rp]at h;have h1:=OF.jz _ (OF.ne_of_gt aq);refine⟨mS (qQ p.n)*(mS (qQ q.n))⁻¹,OF.mul_pos ap (OF.inv_pos aq),?_⟩;rw[<-XD,h,XD,h1,aSP]
 ·rintro⟨k,hk,rfl⟩
  rw[Rp,Rp];have e:qQ (CO p k).n=qQ p.n*k:=aSQ (OF.ne_of_gt hk);rw[e,XD,aSS (PT hp) hk]
end
section
open CR OF V3
section
variable{F:Type}[OF F]
theorem aST(a b c:V3 F)(x y z:F):dot a (smul (af b c) x+smul (af c a) y+smul (af a b) z)=x*bA a b c:=
 ring [a,b,c] [x,y,z] (λV S=>dot (V 0) (smul (af (V 1) (V 2)) (S 0)+smul (af (V 2) (V 0)) (S 1)+smul (af (V 0) (V 1)) (S 2))) (λV S=>S 0*bA (V 0) (V 1) (V 2)) d_
theorem aSU(a b c:V3 F)(x y z:F):dot b (smul (af b c) x+smul (af c a) y+smul (af a b) z)=y*bA a b c:=
 ring [a,b,c] [x,y,z] (λV S=>dot (V 1) (smul (af (V 1) (V 2)) (S 0)+smul (af (V 2) (V 0)) (S 1)+smul (af (V 0) (V 1)) (S 2))) (λV S=>S 1*bA (V 0) (V 1) (V 2)) d_
theorem aSV(a b c:V3 F)(x y z:F):dot c (smul (af b c) x+smul (af c a) y+smul (af a b) z)=z*bA a b c:=
 ring [a,b,c] [x,y,z] (λV S=>dot (V 2) (smul (af (V 1) (V 2)) (S 0)+smul (af (V 2) (V 0)) (S 1)+smul (af (V 0) (V 1)) (S 2))) (λV S=>S 2*bA (V 0) (V 1) (V 2)) d_
theorem aFT(u w:V3 F):bA u u w=0:=ring [u,w] [] (λV _=>bA (V 0) (V 0) (V 1)) (λ_ _=>0) d_
theorem aFU(u w:V3 F):bA u w w=0:=ring [u,w] [] (λV _=>bA (V 0) (V 1) (V 1)) (λ_ _=>0) d_
theorem aFV(u w:V3 F):bA u w u=0:=ring [u,w] [] (λV _=>bA (V 0) (V 1) (V 0)) (λ_ _=>0) d_
theorem Rq:∀(l:List (F×F)),(∀ x∈l,0<x.2)->∃ e:F,0<e/\∀ x∈l,x.1*e<=x.2
 |[],_=>⟨1,OF.zero_lt_one,λx h=>(by cases h)⟩
 |(a,b)::l,h=>by
  obtain⟨e,he,hl⟩:=Rq l λx hx=>h x (bI _ hx);have hb:0<b:=h (a,b) (aR ..);by_cases b9:a*e<=b
  ·refine⟨e,he,λx hx=>?_⟩;rcases cD.1 hx with rfl|hx
   ·exact b9
   ·exact hl x hx
  ·have b9:=OF.not_le.1 b9;have ha:0<a:=by
    apply iP;intro BX;have BX:=OF.not_lt.1 BX;have:a*e<=0:=by rw[<-CR.neg_neg (a*e),OF.Im,<-CR.neg_mul];exact OF.mul_nonneg (OF.neg_nonneg.2 BX) (OF.le_of_lt he)
    exact OF.lt_irrefl _ (OF.lt_of_lt_of_le (OF.lt_trans hb b9) this)
   have hi:0<b*a⁻¹:=OF.mul_pos hb (OF.inv_pos ha);have hae:a*(b*a⁻¹)=b:=by rw[CR.mul_left_comm,OF.jz _ (OF.ne_of_gt ha),CR.mul_one]
   have al:b*a⁻¹<e:=by rw[<-OF.mul_lt_mul_left ha,hae];exact b9
   refine⟨b*a⁻¹,hi,λx hx=>?_⟩;rcases cD.1 hx with rfl|hx
   ·exact OF.le_of_eq hae
   ·by_cases lv:0<x.1
    ·exact OF.le_trans ((OF.mul_le_mul_left lv).2 (OF.le_of_lt al)) (hl x hx)
    ·have lv:=OF.not_lt.1 lv;have:x.1*(b*a⁻¹)<=0:=by rw[<-CR.neg_neg (x.1*(b*a⁻¹)),OF.Im,<-CR.neg_mul];exact OF.mul_nonneg (OF.neg_nonneg.2 lv) (OF.le_of_lt hi)
     exact OF.le_trans this (OF.le_of_lt (h x (bI _ hx)))
structure rk(ps S:List (HS F)):Prop where
 sub:∀ p∈S,p∈ps
 same:∀ v,ev S v↔ev ps v
 least:∀ T:List (HS F),(∀ p∈T,p∈ps)->(∀ v,ev T v↔ev ps v)->S.length<=T.length
theorem aSW(ps:List (HS F)):∃ S,rk ps S:=by
 have key:∀ n,∀ S:List (HS F),S.length=n->(∀ p∈S,p∈ps)->(∀ v,ev S v↔ev ps v)->∃ S,rk ps S:=by
  intro n;induction n using Nat.strongRecOn with
  |ind n ih=>
   intro S hl h1 h2;by_cases h:∃ T:List (HS F),(∀ p∈T,p∈ps)/\(∀ v,ev T v↔ev ps v)/\T.length<n
   ·obtain⟨T,t1,t2,t3⟩:=h;exact ih _ t3 T rfl t1 t2
   ·refine⟨S,h1,h2,λT t1 t2=>?_⟩;rcases e9 T.length S.length with al|ga
    ·exact(h ⟨T,t1,t2,by omega⟩).elim
    ·exact ga
 exact key _ ps rfl (λ_ h=>h) (λ_=>Iff.rfl)
theorem rk.alone{ps A B:List (HS F)}{p:HS F}(h:rk ps (A++p::B)):∃ y,ev (A++B) y/\p.d<dot p.n y:=by
 apply iP;intro fU;have hT:∀ v,ev (A++B) v↔ev ps v:=by
  intro v;rw[<-h.same v];constructor
  ·intro hv q hq;rcases eX.1 hq with hq|hq
   ·exact hv q (tS _ hq)
   ·rcases cD.1 hq with rfl|hq
    ·exact OF.not_lt.1 λal=>fU ⟨v,hv,al⟩
    ·exact hv q (A1 _ hq)
  ·intro hv q hq;refine hv q ?_;rcases eX.1 hq with hq|hq
   ·exact tS _ hq
   ·exact A1 _ (bI _ hq)
 have:=h.least (A++B) (λq hq=>h.sub q (by
  rcases eX.1 hq with hq|hq
  ·exact tS _ hq
  ·exact A1 _ (bI _ hq))) hT
 simp at this;omega
theorem rk.Lr{ps A B:List (HS F)}{p:HS F}(h:rk ps (A++p::B)){x:V3 F}(hx:yf ps x):∃ z,cB p z/\∀ q∈A++B,dot q.n z<q.d:=by
 obtain⟨y,hy,hpy⟩:=h.alone;have hpx:dot p.n x<p.d:=hx p (h.sub p (A1 _ (aR ..)));have qO:0<dot p.n y-dot p.n x:=OF.sub_pos.2 (OF.lt_trans hpx hpy);have hda:0<p.d-dot p.n x:=OF.sub_pos.2 hpx;obtain⟨t,ht⟩:∃ t,t=(p.d-dot p.n x)*(dot p.n y-dot p.n x)⁻¹:=⟨_,rfl⟩;have Aq:0<t:=ht▸OF.mul_pos hda (OF.inv_pos qO);have NZ:(dot p.n y-dot p.n x)*t=p.d-dot p.n x:=by rw[ht,CR.mul_left_comm,OF.jz _ (OF.ne_of_gt qO),CR.mul_one]
 have iZ:t<1:=by rw[<-OF.mul_lt_mul_left qO,NZ,CR.mul_one];rw[<-OF.sub_pos,show dot p.n y-dot p.n x-(p.d-dot p.n x)=dot p.n y-p.d from kJ (dot p.n x) (dot p.n y) p.d (λa b d=>b-a-(d-a)) (λa b d=>b-d) d_];exact OF.sub_pos.2 hpy
 refine⟨x+smul (y-x) t,?_,λq hq=>?_⟩
 ·unfold cB;rw[jm,gk,hZ,NZ];exact jP (dot p.n x) p.d (λa d=>a+(d-a)) (λa d=>d) d_
 ·rw[jm,gk,hZ];have q1:dot q.n x<q.d:=hx q (h.sub q (by
   rcases eX.1 hq with hq|hq
   ·exact tS _ hq
   ·exact A1 _ (bI _ hq)))
  have q2:=hy q hq;have e:q.d-(dot q.n x+(dot q.n y-dot q.n x)*t)=(1-t)*(q.d-dot q.n x)+t*(q.d-dot q.n y):=zX (dot q.n x) (dot q.n y) q.d t (λa b d t=>d-(a+(b-a)*t)) (λa b d t=>(1-t)*(d-a)+t*(d-b)) d_;rw[<-OF.sub_pos,e];exact OF.Il (OF.mul_pos (OF.sub_pos.2 iZ) (OF.sub_pos.2 q1)) (OF.mul_nonneg (OF.le_of_lt Aq) (OF.sub_nonneg.2 q2))
theorem j8.back{ps:List (HS F)}{p:HS F}(hp:p∈ps){v:V3 F}(h:j8 (⟨-p.n,-p.d⟩::ps) v):j8 ps v/\cB p v:=by
 obtain⟨cC,a,ha,b,hb,c,hc,hd,ta,tb,tc⟩:=h;have tp:cB p v:=by
  have h1:=cC _ (aR ..);dsimp only at h1;rw[ya]at h1;have h1:p.d<=dot p.n v:=by rw[<-OF.sub_nonneg]at h1 ⊢;rwa[show -p.d - -dot p.n v=dot p.n v-p.d from jP (dot p.n v) p.d (λa d=>-d - -a) (λa d=>a-d) d_]at h1
  exact OF.le_antisymm (cC p (bI _ hp)) h1
 have aSX:ev ps v:=λq hq=>cC q (bI _ hq)
 -- a pX of the list with the same normal,we for Vo sign
 have bW:∀ q∈(⟨-p.n,-p.d⟩::ps:List (HS F)),cB q v->∃ q'∈ps,cB q' v/\(q'.n=q.n\/q.n=-q'.n):=by
  intro q hq tq;rcases cD.1 hq with rfl|hq
  ·exact⟨p,hp,tp,.inr rfl⟩
  ·exact⟨q,hq,tq,.inl rfl⟩
 obtain⟨a',jk,ta',ea⟩:=bW a ha ta;obtain⟨b',jX,tb',eb⟩:=bW b hb tb;obtain⟨c',kP,tc',ec⟩:=bW c hc tc;refine⟨⟨aSX,a',jk,b',jX,c',kP,λe=>hd ?_,ta',tb',tc'⟩,tp⟩;have n1:∀ u v w:V3 F,bA (-u) v w=-bA u v w:=λu v w=>ring [u,v,w] [] (λV _=>bA (-V 0) (V 1) (V 2)) (λV _=>-bA (V 0) (V 1) (V 2)) d_;have n2:∀ u v w:V3 F,bA u (-v) w=-bA u v w:=λu v w=>ring [u,v,w] [] (λV _=>bA (V 0) (-V 1) (V 2)) (λV _=>-bA (V 0) (V 1) (V 2)) d_;have n3:∀ u v w:V3 F,bA u v (-w)=-bA u v w:=λu v w=>ring [u,v,w] [] (λV _=>bA (V 0) (V 1) (-V 2)) (λV _=>-bA (V 0) (V 1) (V 2)) d_;rcases ea with ea|ea<;>rcases eb with eb|eb<;>rcases ec with ec|ec<;>
  (first|rw[<-ea]|rw[ea,n1])<;>(first|rw[<-eb]|rw[eb,n2])<;>(first|rw[<-ec]|rw[ec,n3])<;>rw[e]<;>(try simp only[CR.neg_zero])
theorem rk.CP{ps A B:List (HS F)}{p:HS F}(hc:Cl ps)(hp:gB ps)(h:rk ps (A++p::B)){x m:V3 F}(hx:yf ps x)(hm:af p.n m≠0):
  ∃ v w,j8 ps v/\cB p v/\j8 ps w/\cB p w/\dot m w<dot m v:=by
 obtain⟨z,hz,hq⟩:=h.Lr hx;have jD:p∈ps:=h.sub p (A1 _ (aR ..));obtain⟨e,he⟩:∃ e,e=af (af p.n m) p.n:=⟨_,rfl⟩;have pe:dot p.n e=0:=by rw[he];exact Ci _ _
 have me:0<dot m e:=by
  have:dot m e=dot (af p.n m) (af p.n m):=by rw[he];exact ring [p.n,m] [] (λV _=>dot (V 1) (af (af (V 0) (V 1)) (V 0))) (λV _=>dot (af (V 0) (V 1)) (af (V 0) (V 1))) d_
  rw[this];exact D1 hm
 obtain⟨t,ht,qW⟩:=Rq ((A++B).map (λq=>(dot q.n e,q.d-dot q.n z))++(A++B).map (λq=>(-dot q.n e,q.d-dot q.n z))) λy hy=>by
  rcases eX.1 hy with hy|hy
  ·obtain⟨q,lP,rfl⟩:=db.1 hy;exact OF.sub_pos.2 (hq q lP)
  ·obtain⟨q,lP,rfl⟩:=db.1 hy;exact OF.sub_pos.2 (hq q lP)
 have aFW:∀ s:F,(∀ q∈A++B,dot q.n e*s<=q.d-dot q.n z)->ev (⟨-p.n,-p.d⟩::ps) (z+smul e s):=by
  intro s hs;have hS:ev (A++p::B) (z+smul e s):=by
   intro q lP;rw[jm,gk];have other:q∈A++B->dot q.n z+dot q.n e*s<=q.d:=λlP=>by have:=hs q lP;rw[<-OF.sub_nonneg]at this ⊢;rwa[show q.d-dot q.n z-dot q.n e*s=q.d-(dot q.n z+dot q.n e*s)from kJ q.d (dot q.n z) (dot q.n e*s) (λa b c=>a-b-c) (λa b c=>a-(b+c)) d_]at this
   rcases eX.1 lP with lP|lP
   ·exact other (tS _ lP)
   ·rcases cD.1 lP with rfl|lP
    ·rw[pe,CR.zero_mul,CR.add_zero];exact OF.le_of_eq hz
    ·exact other (A1 _ lP)
  have cC:=(h.same _).1 hS;intro q lP;rcases cD.1 lP with rfl|lP
  ·dsimp only;rw[ya,jm,gk,pe,CR.zero_mul,CR.add_zero,show dot p.n z=p.d from hz];exact OF.le_refl _
  ·exact cC q lP
 have kP:Cl (⟨-p.n,-p.d⟩::ps):=Cl.more hc hp λq hq=>bI _ hq;have fG:gB (⟨-p.n,-p.d⟩::ps):=λq hq=>by
  rcases cD.1 hq with rfl|hq
  ·exact λe=>hp p jD (V3.neg_eq_zero.1 e)
  ·exact hp q hq
 have i1:=aFW t λq lP=>qW _ (tS _ (db.2 ⟨q,lP,rfl⟩));have i2:=aFW (-t) λq lP=>by have:=qW _ (A1 _ (db.2 ⟨q,lP,rfl⟩));dsimp only at this;rwa[CR.neg_mul,<-CR.mul_neg]at this
 obtain⟨v,hv,hmv⟩:=top kP fG (m:=m) i1;obtain⟨w,hw,vJ⟩:=top kP fG (m:=-m) i2;obtain⟨v1,v2⟩:=hv.back jD;obtain⟨w1,w2⟩:=hw.back jD;refine⟨v,w,v1,v2,w1,w2,?_⟩;rw[ya,ya]at vJ;have vJ:dot m w<=dot m (z+smul e (-t)):=by rw[<-OF.sub_nonneg]at vJ ⊢;rwa[show -dot m w - -dot m (z+smul e (-t))=dot m (z+smul e (-t))-dot m w from jP (dot m w) (dot m (z+smul e (-t))) (λa b=>-a - -b) (λa b=>b-a) d_]at vJ
 refine OF.lt_of_le_of_lt vJ (OF.lt_of_lt_of_le ?_ hmv);rw[jm,gk,jm,gk,<-OF.sub_pos,show dot m z+dot m e*t-(dot m z+dot m e*-t)=dot m e*t+dot m e*t from kJ (dot m z) (dot m e) t (λa b t=>a+b*t-(a+b*-t)) (λa b t=>b*t+b*t) d_];have:=OF.mul_pos me ht;exact OF.add_pos this this
end
end
section
open CR OF
open V3 (dot af bA smul)
theorem aFX:¬OF.aH x<=0↔0<x:=by rw[OF.gj];rcases OF.ja x with h|h|h<;>rw[h]<;>decide
theorem aFY:OF.aH x<=0↔x<=0:=by rw[OF.Ue];rcases OF.ja x with h|h|h<;>rw[h]<;>decide
theorem aFZ{d:V3 K}:yL ps d=false↔∃ r∈ps,0<dot r.n d:=by
 unfold yL;rw[Jt];constructor
 ·rintro⟨r,hr,h⟩
  exact⟨r,hr,aFX.1 (by simpa using h)⟩
 ·rintro⟨r,hr,h⟩
  exact⟨r,hr,by simpa using aFX.2 h⟩
theorem XF{ps:c_}{f:Bool}{i:Nat}:∀ n,pC ps f i n=true↔f=true/\∀ j,j<n->nM ps i j=0\/CL ps (nM ps i j)=true
 |0=>⟨λh=>⟨h,λj hj=>by omega⟩,λh=>h.1⟩
 |n+1=>by
  unfold pC;by_cases h:nM ps i n=0
  ·rw[aB h,XF n];refine⟨λ⟨h1,h2⟩=>⟨h1,λj hj=>?_⟩,λ⟨h1,h2⟩=>⟨h1,λj hj=>h2 j o_⟩⟩;rcases e9 j n with hl|hl
   ·exact h2 j hl
   ·have:j=n:=by omega
    subst this;exact .inl h
  ·rw[az h,de,XF n];refine⟨λ⟨⟨h1,h2⟩,h3⟩=>⟨h1,λj hj=>?_⟩,λ⟨h1,h2⟩=>⟨⟨h1,λj hj=>h2 j o_⟩,(h2 n o_).resolve_left h⟩⟩;rcases e9 j n with hl|hl
   ·exact h2 j hl
   ·have:j=n:=by omega
    subst this;exact .inr h3
theorem XG{ps:c_}:∀ n,mV ps n=true↔∀ i j,i<n->j<i->nM ps i j=0\/CL ps (nM ps i j)=true
 |0=>⟨λ_ i j hi=>by omega,λ_=>rfl⟩
 |n+1=>by
  unfold mV;rw[XF,XG n];refine⟨λ⟨h1,h2⟩ i j hi hj=>?_,λh=>⟨λi j hi hj=>h i j o_ hj,λj hj=>h n j o_ hj⟩⟩;rcases e9 i n with hl|hl
  ·exact h1 i j hl hj
  ·have:i=n:=by omega
   subst this;exact h2 j hj
theorem XH:wX ps=true↔Cl ps:=by
 unfold wX EF;rw[de,bB];have sw:∀ p q:HS K,af q.n p.n=-af p.n q.n:=λp q=>V3.Gc _ _;have bad:∀{i j:Nat},AW ps i j=false↔(nM ps i j≠0->(∃ r∈ps,0<dot r.n (nM ps i j))/\∃ r∈ps,0<dot r.n (-nM ps i j)):=by
  intro i j;unfold AW;rw[Bool.and_eq_false_iff,Np,aFZ,aFZ,Z8];constructor
  ·rintro(h|h) h0
   ·exact absurd h0 h
   ·exact h
  ·intro h;by_cases h0:nM ps i j≠0
   ·exact .inr (h h0)
   ·exact .inl h0
 have Ju:∀{p q:HS K} {i j:Nat},ps[i]?=some p->ps[j]?=some q->nM ps i j=af p.n q.n:=λhp hq=>by unfold nM;rw[Jm hp,Jm hq]
 constructor
 ·rintro⟨h1,h2⟩
  have hb:∀ i j,i<ps.length->j<i->AW ps i j=false:=λi j hi hj=>by have:=h1 i (ki.2 hi);rw[bB]at this;simpa using this j (ki.2 hj)
  have qj:¬mV ps ps.length=true:=by simpa using h2
  rw[XG]at qj;refine⟨?_,λp hp q hq bw=>?_⟩
  ·apply iP;intro fU;refine qj λi j hi hj=>.inl ?_;rw[Ju (aW hi) (aW (mJ hj hi))];exact iP λh=>fU ⟨_,df _,_,df _,h⟩
  ·obtain⟨i,hi,rfl⟩:=lS hp;obtain⟨j,hj,rfl⟩:=lS hq;rcases tO i j with h|h|h
   ·have:=bad.1 (hb j i hj h);rw[Ju (aW hj) (aW hi)]at this;rw[sw ps[j] ps[i]];exact(this λe=>bw (by rw[sw,e];exact V3.neg_eq_zero.2 rfl)).2
   ·subst h;exact absurd (V3.Li _) bw
   ·have:=bad.1 (hb i j hi h);rw[Ju (aW hi) (aW hj)]at this;exact(this bw).1
 ·rintro⟨⟨p,hp,q,hq,bw⟩,bh⟩
  refine⟨λi hi=>?_,?_⟩
  ·have hi:=ki.1 hi;rw[bB];intro j hj;have hj:=ki.1 hj;have hp:=aW hi;have hq:=aW (mJ hj hi);have:AW ps i j=false:=bad.2 λh0=>by rw[Ju hp hq]at h0 ⊢;refine⟨bh _ (cL hp) _ (cL hq) h0,?_⟩;rw[<-sw];exact bh _ (cL hq) _ (cL hp) λe=>h0 (by rw[sw,e];exact V3.neg_eq_zero.2 rfl)
   rw[this];rfl
  ·obtain⟨i,hi,rfl⟩:=lS hp;obtain⟨j,hj,rfl⟩:=lS hq;have key:∀ i j (hi:i<ps.length) (hj:j<ps.length),j<i->af ps[i].n ps[j].n≠0->(!mV ps ps.length)=true:=by
    intro i j hi hj oE bw;have:mV ps ps.length≠true:=λhf=>by
     rcases(XG _).1 hf i j hi oE with h|h
     ·rw[Ju (aW hi) (aW hj)]at h;exact bw h
     ·rw[Ju (aW hi) (aW hj)]at h;obtain⟨r,hr,nA⟩:=bh _ (df hi) _ (df hj) bw;unfold CL at h;rw[bB]at h;have:=kp (h r hr);rw[this]at nA;exact OF.lt_irrefl _ nA
    simpa using this
   rcases tO i j with h|h|h
   ·exact key j i hj hi h λe=>bw (by rw[sw,e];exact V3.neg_eq_zero.2 rfl)
   ·subst h;exact absurd (V3.Li _) bw
   ·exact key i j hi hj h bw
theorem XI(v:V3 K):∀ l:e_,aWY l v=mR v l
 |[]=>rfl
 |a::l=>by
  unfold aWY mR;rw[XI v l];have:(0<eG a v)↔eG a v=1:=by rcases IH a v with h|h|h<;>rw[h]<;>decide
  by_cases h0:eG a v=0
  ·rw[aB h0,aB h0]
  ·rw[az h0,az h0];by_cases h1:eG a v=1
   ·rw[aB h1,aB (this.2 h1)]
   ·rw[az h1,az (λh=>h1 (this.1 h))]
theorem aF0{q r:HS K}(h:bA p.n q.n r.n≠0):cB p (lC p q r)/\cB q (lC p q r)/\cB r (lC p q r):=by unfold cB lC Jc;rw[V3.gk,V3.gk,V3.gk,aP5,CR.one_mul];have e1:=aST p.n q.n r.n p.d q.d r.d;have e2:=aSU p.n q.n r.n p.d q.d r.d;have e3:=aSV p.n q.n r.n p.d q.d r.d;rw[e1,e2,e3,CR.mul_assoc,CR.mul_assoc,CR.mul_assoc,OF.jz _ h,CR.mul_one,CR.mul_one,CR.mul_one];exact⟨rfl,rfl,rfl⟩
theorem aSY{q r:HS K}(h:bA p.n q.n r.n≠0){x:V3 K}(hp:cB p x)(hq:cB q x)(hr:cB r x):x=lC p q r:=by
 obtain⟨h1,h2,h3⟩:=aF0 h;refine V3.sub_eq_zero.1 (V3.Ge h ?_ ?_ ?_)
 ·rw[V3.hZ,show dot p.n x=p.d from hp,show dot p.n (lC p q r)=p.d from h1,OF.sub_self]
 ·rw[V3.hZ,show dot q.n x=q.d from hq,show dot q.n (lC p q r)=q.d from h2,OF.sub_self]
 ·rw[V3.hZ,show dot r.n x=r.d from hr,show dot r.n (lC p q r)=r.d from h3,OF.sub_self]
def EH(ps:c_)(i j k:Nat):Prop:=bA (eP ps i).n (eP ps j).n (eP ps k).n≠0/\AX ps i j k (lC (eP ps i) (eP ps j) (eP ps k))=true
theorem aSZ{x:V3 K}:x∈uN ps acc i j k↔x∈acc\/(EH ps i j k/\x=lC (eP ps i) (eP ps j) (eP ps k)):=by
 unfold uN EH;by_cases h:bA (eP ps i).n (eP ps j).n (eP ps k).n=0
 ·rw[aB h];exact⟨.inl,λe=>e.elim id λe=>absurd h e.1.1⟩
 ·rw[az h];by_cases h2:AX ps i j k (lC (eP ps i) (eP ps j) (eP ps k))=true
  ·rw[aB h2,XI,PN];exact⟨λe=>e.elim (λe=>.inr ⟨⟨h,h2⟩,e⟩) .inl,λe=>e.elim .inr λe=>.inl e.2⟩
  ·rw[az h2];exact⟨.inl,λe=>e.elim id λe=>absurd e.1.2 h2⟩
theorem aS0(h:acc.Pairwise j9):(uN ps acc i j k).Pairwise j9:=by
 unfold uN;split
 ·exact h
 ·split
  ·rw[XI];exact VB h
  ·exact h
theorem aF1{ps:c_}{acc:e_}{i j:Nat}{x:V3 K}:∀ n,x∈pD ps acc i j n↔x∈acc\/∃ k,k<n/\EH ps i j k/\x=lC (eP ps i) (eP ps j) (eP ps k)
 |0=>⟨.inl,λe=>e.elim id λ⟨k,h,_⟩=>by omega⟩
 |n+1=>by
  unfold pD;rw[aSZ,aF1 n];constructor
  ·rintro((h|⟨k,h1,h2⟩)|h)
   ·exact .inl h
   ·exact .inr ⟨k,by omega,h2⟩
   ·exact .inr ⟨n,by omega,h⟩
  ·rintro(h|⟨k,h1,h2⟩)
   ·exact .inl (.inl h)
   ·rcases e9 k n with hl|hl
    ·exact .inl (.inr ⟨k,hl,h2⟩)
    ·have:k=n:=by omega
     subst this;exact .inr h2
theorem aF2{ps:c_}{acc:e_}{i:Nat}{x:V3 K}:∀ n,x∈oq ps acc i n↔x∈acc\/∃ j k,j<n/\k<j/\EH ps i j k/\x=lC (eP ps i) (eP ps j) (eP ps k)
 |0=>⟨.inl,λe=>e.elim id λ⟨k,_,h,_⟩=>by omega⟩
 |n+1=>by
  unfold oq;rw[aF1,aF2 n];constructor
  ·rintro((h|⟨j,k,h1,h2⟩)|⟨k,h⟩)
   ·exact .inl h
   ·exact .inr ⟨j,k,by omega,h2⟩
   ·exact .inr ⟨n,k,by omega,h⟩
  ·rintro(h|⟨j,k,h1,h2⟩)
   ·exact .inl (.inl h)
   ·rcases e9 j n with hl|hl
    ·exact .inl (.inr ⟨j,k,hl,h2⟩)
    ·have:j=n:=by omega
     subst this;exact .inr ⟨k,h2⟩
theorem aF3{ps:c_}{x:V3 K}:∀ n,x∈sB ps n↔∃ i j k,i<n/\j<i/\k<j/\EH ps i j k/\x=lC (eP ps i) (eP ps j) (eP ps k)
 |0=>⟨λh=>(by cases h),λ⟨i,_,_,h,_⟩=>by omega⟩
 |n+1=>by
  unfold sB;rw[aF2,aF3 n];constructor
  ·rintro(⟨i,j,k,h1,h2⟩|⟨j,k,h⟩)
   ·exact⟨i,j,k,by omega,h2⟩
   ·exact⟨n,j,k,by omega,h⟩
  ·rintro⟨i,j,k,h1,h2⟩
   rcases e9 i n with hl|hl
   ·exact .inl ⟨i,j,k,hl,h2⟩
   ·have:i=n:=by omega
    subst this;exact .inr ⟨j,k,h2⟩
theorem aF4{ps:c_}{acc:e_}{i j:Nat}(h:acc.Pairwise j9):∀ n,(pD ps acc i j n).Pairwise j9
 |0=>h
 |n+1=>aS0 (aF4 h n)
theorem aF5{ps:c_}{acc:e_}{i:Nat}(h:acc.Pairwise j9):∀ n,(oq ps acc i n).Pairwise j9
 |0=>h
 |n+1=>aF4 (aF5 h n) _
theorem aF6{ps:c_}:∀ n,(sB ps n).Pairwise j9
 |0=>aCz
 |n+1=>aF5 (aF6 n) _
theorem aS1(hi:i<ps.length)(hj:j<ps.length)(hk:k<ps.length)(h:EH ps i j k):j8 ps (lC (eP ps i) (eP ps j) (eP ps k)):=by
 obtain⟨hd,hb⟩:=h;obtain⟨t1,t2,t3⟩:=aF0 hd;have iF:=aW hi;have fY:=aW hj;have gL:=aW hk;have mi:eP ps i∈ps:=by rw[qf iF];exact df hi
 have mj:eP ps j∈ps:=by rw[qf fY];exact df hj
 have mk:eP ps k∈ps:=by rw[qf gL];exact df hk
 refine⟨λp hp=>?_,_,mi,_,mj,_,mk,hd,t1,t2,t3⟩;obtain⟨l,hl,rfl⟩:=lS hp;unfold AX at hb;rw[bB]at hb;have:=hb l (ki.2 hl);unfold Jn at this;rw[qf (aW hl)]at this;simp only[u5,u7]at this;rcases this with rfl|rfl|rfl|h
 ·rw[qf iF]at t1 ⊢;exact OF.le_of_eq t1
 ·rw[qf fY]at t2 ⊢;exact OF.le_of_eq t2
 ·rw[qf gL]at t3 ⊢;exact OF.le_of_eq t3
 ·have:=aFY.1 h;rw[<-OF.sub_nonneg];rw[<-OF.neg_nonneg,OF.neg_sub]at this;exact this
theorem Jv{q r:HS K}{x:V3 K}(hp:ps[i]?=some p)(hq:ps[j]?=some q)(hr:ps[k]?=some r)(hd:bA p.n q.n r.n≠0)(hx:ev ps x)(t1:cB p x)(t2:cB q x)(t3:cB r x):
  EH ps i j k/\x=lC (eP ps i) (eP ps j) (eP ps k):=by
 unfold EH;rw[qf hp,qf hq,qf hr];have e:=aSY hd t1 t2 t3;refine⟨⟨hd,?_⟩,e⟩;rw[<-e];unfold AX;rw[bB];intro l hl;have hl:=ki.1 hl;rw[qf (aW hl)];unfold Jn;simp only[u5,u7];refine .inr (.inr (.inr (aFY.2 ?_)));have:=hx _ (df hl);rw[<-OF.neg_nonneg,OF.neg_sub];exact OF.sub_nonneg.2 this
theorem Rr{x:V3 K}:x∈fC ps↔j8 ps x:=by
 unfold fC;rw[aF3];constructor
 ·rintro⟨i,j,k,h1,h2,h3,h4,rfl⟩
  exact aS1 h1 o_ o_ h4
 ·rintro⟨cC,p,hp,q,hq,r,hr,hd,t1,t2,t3⟩
  obtain⟨a,ha,rfl⟩:=lS hp;obtain⟨b,hb,rfl⟩:=lS hq;obtain⟨c,hc,rfl⟩:=lS hr;have jk:=aW ha;have jX:=aW hb;have kP:=aW hc;have same:∀ u w:V3 K,bA u u w=0:=aFT;have XJ:∀ u w:V3 K,bA u w w=0:=aFU;have XK:∀ u w:V3 K,bA u w u=0:=aFV;have ab:a≠b:=λe=>by subst e;exact hd (same _ _)
  have bc:b≠c:=λe=>by subst e;exact hd (XJ _ _)
  have ac:a≠c:=λe=>by subst e;exact hd (XK _ _)
  have s1:∀{u v w:V3 K},bA u v w≠0->bA u w v≠0:=λ{u v w} h e=>h (by rw[V3.aB0,e,CR.neg_zero]);have r1:∀{u v w:V3 K},bA u v w≠0->bA v w u≠0:=λ{u v w} h e=>h (by rw[V3.Gd];exact e);rcases tO a b with h1|h1|h1
  ·rcases tO b c with h2|h2|h2
   ·exact⟨c,b,a,hc,h2,h1,Jv kP jX jk (r1 (s1 (r1 (r1 (r1 hd))))) cC t3 t2 t1⟩
   ·exact absurd h2 bc
   ·rcases tO a c with h3|h3|h3
    ·exact⟨b,c,a,hb,h2,h3,Jv jX kP jk (r1 hd) cC t2 t3 t1⟩
    ·exact absurd h3 ac
    ·exact⟨b,a,c,hb,h1,h3,Jv jX jk kP (s1 (r1 hd)) cC t2 t1 t3⟩
  ·exact absurd h1 ab
  ·rcases tO a c with h2|h2|h2
   ·exact⟨c,a,b,hc,h2,h1,Jv kP jk jX (r1 (r1 hd)) cC t3 t1 t2⟩
   ·exact absurd h2 ac
   ·rcases tO b c with h3|h3|h3
    ·exact⟨a,c,b,ha,h2,h3,Jv jk kP jX (s1 hd) cC t1 t3 t2⟩
    ·exact absurd h3 bc
    ·exact⟨a,b,c,ha,h1,h3,Jv jk jX kP hd cC t1 t2 t3⟩
theorem aS2(ps:c_):(fC ps).Pairwise j9:=aF6 _
theorem EI(hc:Cl ps)(hp:gB ps)(hf:nG ps):aZ ps=fC ps:=by unfold aZ;refine VC (VE _) (aS2 ps) λx=>?_;rw[VD,Rr,aRv hc hp (aMa hc hp hf)]
theorem aF7(hc:Cl ps)(hp:gB ps)(hf:nG ps){x:V3 K}:x∈aZ ps↔j8 ps x:=by rw[EI hc hp hf,Rr]
theorem aF8:vP vs=false↔VA vs:=by
 unfold vP;rw[Jt];constructor
 ·rintro⟨i,hi,h⟩
  have hi:=ki.1 hi;unfold EG at h;rw[P0,Jt]at h;obtain⟨k,hk,h⟩:=h;have hk:=ki.1 hk;unfold G7 at h;rw[P0,Jt]at h;obtain⟨j,hj,h⟩:=h;have hj:=ki.1 hj;unfold ME at h;cases vs with
  |nil=>simp at hi
  |cons o rest=>
   simp only[qm,Oe]at hi;have get:∀{n:Nat} (hn:n<rest.length),aw (o::rest) (n+1)=rest[n]:=λhn=>by unfold aw;simp[aW hn]
   rw[get hi,get o_,get o_,show aw (o::rest) 0=o from rfl]at h;refine⟨o,rest,rfl,rest[j],df _,rest[i],df _,rest[k],df _,λe=>?_⟩;refine h (aJ ((OF.fH _).2 ?_));rw[V3.wE];exact e
 ·rintro⟨o,rest,rfl,a,ha,b,hb,c,hc,hd⟩
  obtain⟨a,la,rfl⟩:=lS ha;obtain⟨b,lb,rfl⟩:=lS hb;obtain⟨c,lc,rfl⟩:=lS hc;have get:∀{n:Nat} (hn:n<rest.length),aw (o::rest) (n+1)=rest[n]:=λhn=>by unfold aw;simp[aW hn]
  have fin:∀(i k j:Nat) (hi:i<rest.length) (hk:k<rest.length) (hj:j<rest.length),k<i->j<k->bA (rest[j]-o) (rest[i]-o) (rest[k]-o)≠0->∃ x∈List.range ((o::rest).length-1),¬EG (o::rest) x=true:=by intro i k j hi hk hj hki cg hd;refine⟨i,ki.2 (by simpa using hi),?_⟩;unfold EG;rw[P0,Jt];refine⟨k,ki.2 hki,?_⟩;unfold G7;rw[P0,Jt];refine⟨j,ki.2 cg,?_⟩;unfold ME;rw[get hi,get hk,get hj,show aw (o::rest) 0=o from rfl,u7,OF.fH,V3.wE];exact hd
  have same:∀ u w:V3 K,bA u u w=0:=aFT;have XJ:∀ u w:V3 K,bA u w w=0:=aFU;have XK:∀ u w:V3 K,bA u w u=0:=aFV;have ab:a≠b:=λe=>by subst e;exact hd (same _ _)
  have bc:b≠c:=λe=>by subst e;exact hd (XJ _ _)
  have ac:a≠c:=λe=>by subst e;exact hd (XK _ _)
  have s1:∀{u v w:V3 K},bA u v w≠0->bA u w v≠0:=λ{u v w} h e=>h (by rw[V3.aB0,e,CR.neg_zero]);have r1:∀{u v w:V3 K},bA u v w≠0->bA v w u≠0:=λ{u v w} h e=>h (by rw[V3.Gd];exact e);rcases tO a b with h1|h1|h1
  ·rcases tO b c with h2|h2|h2
   ·exact fin c b a lc lb la h2 h1 (s1 hd)
   ·exact absurd h2 bc
   ·rcases tO a c with h3|h3|h3
    ·exact fin b c a lb lc la h2 h3 hd
    ·exact absurd h3 ac
    ·exact fin b a c lb la lc h1 h3 (r1 (s1 hd))
  ·exact absurd h1 ab
  ·rcases tO a c with h2|h2|h2
   ·exact fin c a b lc la lb h2 h1 (r1 hd)
   ·exact absurd h2 ac
   ·rcases tO b c with h3|h3|h3
    ·exact fin a c b la lc lb h2 h3 (r1 (r1 (s1 hd)))
    ·exact absurd h3 bc
    ·exact fin a b c la lb lc h1 h3 (r1 (r1 hd))
theorem aF9{ι:Type}{R:ι->ι->Prop}:∀{l:List ι},mA R l->∀(i:Nat) (x y:ι),l[i]?=some x->l[i+1]?=some y->R x y
 |[],_,i,x,y,h,_=>by simp at h
 |[a],_,i,x,y,_,h=>by simp at h
 |a::b::l,hs,0,x,y,h,k=>by simp at h k;subst h;subst k;exact hs.1
 |a::b::l,hs,i+1,x,y,h,k=>aF9 hs.2 i x y (by simpa using h) (by simpa using k)
theorem aGa{g:V3 K}{on:l_}{c:Nat}:vQ g vs on a c=true↔c≠a/\mP g (aw vs) on a c:=by
 unfold vQ MI;rw[de,bB];have e:∀ b,Jq g vs a c b=true↔(b=a\/b=c\/0<turn g (aw vs a) (aw vs c) (aw vs b)):=by
  intro b;unfold Jq Rm;simp only[u5,u7];have:(0<OF.aH (bA g (aw vs c-aw vs a) (aw vs b-aw vs a)))↔0<turn g (aw vs a) (aw vs c) (aw vs b):=by rw[OF.gj];show 0<OF.aH (turn g (aw vs a) (aw vs c) (aw vs b))↔_;rcases OF.ja (turn g (aw vs a) (aw vs c) (aw vs b))with h|h|h<;>rw[h]<;>decide
  rw[this]
 constructor
 ·rintro⟨h1,h2⟩
  refine⟨by simpa using h1,λb hb qO Al=>?_⟩;rcases(e b).1 (h2 b hb)with h|h|h
  ·exact absurd h qO
  ·exact absurd h Al
  ·exact h
 ·rintro⟨h1,h2⟩
  refine⟨by simpa using h1,λb hb=>(e b).2 ?_⟩;by_cases qO:b=a
  ·exact .inl qO
  ·by_cases Al:b=c
   ·exact .inr (.inl Al)
   ·exact .inr (.inr (h2 b hb qO Al))
theorem kz:i∈ch p vs vs.length↔i<vs.length/\cB p (aw vs i):=by unfold ch cB;rw[List.mem_filter,ki,u7,OF.sub_eq_zero]
theorem aGb(p:HS K)(vs:e_):(ch p vs vs.length).Pairwise (·<·):=by unfold ch;exact List.Pairwise.filter _ List.pairwise_lt_range
theorem Jw(h:i<vs.length):aw vs i∈vs:=cL (jU h)
theorem aGc{v:V3 K}(h:v∈vs):∃ i,i<vs.length/\aw vs i=v:=by obtain⟨i,hi,rfl⟩:=lS h;refine⟨i,hi,?_⟩;have:=jU hi;rw[aW hi]at this;injection this with this;exact this.symm
structure jI(ps:c_)(vs:e_):Prop where
 sorted:vs.Pairwise j9
 mem:∀ v,v∈vs↔j8 ps v
theorem jI.lt(h:jI ps vs)(nh:i<j)(hj:j<vs.length):j9 (aw vs i) (aw vs j):=by have h1:=jU (vs:=vs) (i:=i) o_;have h2:=jU hj;rw[aW o_]at h1 h2;injection h1 with h1;injection h2 with h2;rw[<-h1,<-h2];exact W8.1 h.sorted i j o_ hj nh
theorem jI.inj(h:jI ps vs)(hi:i<vs.length)(hj:j<vs.length)(e:aw vs i=aw vs j):i=j:=by
 rcases tO i j with hl|hl|hl
 ·have:=h.lt hl hj;rw[e]at this;exact absurd this (D3 _)
 ·exact hl
 ·have:=h.lt hl hi;rw[e]at this;exact absurd this (D3 _)
section
variable{ps:c_}{vs:e_}{p:HS K}
theorem jI.conv(h:jI ps vs):Conv p.n (aw vs) (ch p vs vs.length):=
 aL3 (ps:=ps) (p:=p) (λi hi=>by obtain⟨h1,h2⟩:=kz.1 hi;exact⟨(h.mem _).1 (Jw h1),h2⟩) λi hi j hj e=>h.inj (kz.1 hi).1 (kz.1 hj).1 e
theorem jI.sort(h:jI ps vs):yd (aw vs) aCf (ch p vs vs.length):=by unfold yd;refine List.Pairwise.imp_of_mem (λ{a b} ha hb al=>?_) (aGb p vs);have:=h.lt al (kz.1 hb).1;exact Lt.1 this
theorem Ha(p:HS K)(vs:e_):(ch p vs vs.length).Nodup:=(aGb p vs).imp λ{a b} h=>Nat.ne_of_lt h
theorem jI.loop(h:jI ps vs)(hp:p.n≠0)(hl:¬(ch p vs vs.length).length<3):
  Ro p.n vs (ch p vs vs.length)=false/\aWE p.n vs (ch p vs vs.length) (order p.n (aw vs) (ch p vs vs.length))/\(order p.n (aw vs) (ch p vs vs.length)).length=(ch p vs vs.length).length:=by
 have hc:=h.conv (p:=p);have hs:=h.sort (p:=p);have fv:=Ha p vs;have cC:∀ a∈ch p vs vs.length,∀ b∈ch p vs vs.length,aw vs a=aw vs b->a=b:=λa ha b hb e=>h.inj (kz.1 ha).1 (kz.1 hb).1 e;generalize iL:ch p vs vs.length=on at *
 match on,hl,hc,hs,fv,cC with
 |a::b::c::l,_,hc,hs,fv,cC=>
  obtain⟨m,e1,e2,e3,e4⟩:=aCc hp hc hs;have hlen:(a::m).length=(a::b::c::l).length:=((aS3 e2 fv).2 e3).length_eq;refine⟨?_,⟨?_,?_,λi x y hx hy=>?_⟩,?_⟩
  ·show(c::l).all (CN p.n vs a b)=false;rw[Jt];refine⟨c,aR ..,?_⟩;unfold CN Rm;rw[u7,OF.fH];simp only[XL,cD,not_or]at fv;exact hc.PB hp (aR ..) (bI _ (aR ..)) (bI _ (bI _ (aR ..))) fv.1.1 fv.1.2.1 fv.2.1.1
  ·rw[e1,hlen]
  ·rw[e1];rfl
  ·rw[e1]at hx hy;have Hm:=(dZ.1 hy).1;have lB:=aF9 e4 i x y (by rw[J3 o_];exact hx) (by rw[J3 Hm];exact hy);have hym:=(e3 y).1 (cL hy);have kR:y≠x:=by intro e;subst e;have Xe:=(dZ.1 hx).1;have h1:=(dZ.1 hx).2;have h2:=(dZ.1 hy).2;have:=(W8.1 e2) i (i+1) Xe Hm o_;exact this (h1.trans h2.symm)
   obtain⟨k,hk,hke⟩:=lS hym;refine⟨k,by rw[aW hk,hke],aGa.2 ⟨kR,lB⟩,λj z hj hz=>?_⟩;cases hf:vQ p.n vs (a::b::c::l) x z with
   |false=>rfl
   |true=>
    obtain⟨q1,q2⟩:=aGa.1 hf;have:=Vl (pt:=aw vs) (n:=p.n) cC hym (cL hz) kR q1 lB q2;subst this;have Js:=(dZ.1 hz).1;have hje:=(dZ.1 hz).2;exact absurd (hje.trans hke.symm) (W8.1 fv j k Js hk hj)
  ·rw[e1,hlen]
 |[],hl,_,_,_,_=>simp at hl
 |[_],hl,_,_,_,_=>simp at hl
 |[_,_],hl,_,_,_,_=>simp at hl
theorem jI.CP(h:jI ps vs)(hp:p.n≠0)(i:Nat):qe ps vs i p=if lW ps i p then[]else if(ch p vs vs.length).length<3 then[]else[(i,order p.n (aw vs) (ch p vs vs.length))]:=by
 unfold qe;by_cases h1:lW ps i p=true
 ·rw[aB h1];exact aB h1
 ·rw[az h1];refine(az h1).trans ?_;by_cases h2:(ch p vs vs.length).length<3
  ·rw[aB h2,aB h2]
  ·rw[az h2,az h2,aB (by rw[(h.loop hp h2).2.2];omega)]
theorem Jx:∀{I J:l_},I.Nodup->(∀ x∈I,x∈J)->I.length<=J.length
 |[],_,_,_=>lG _
 |x::I,J,hn,hs=>by
  obtain⟨A,B,rfl⟩:=List.append_of_mem (hs x (aR ..));rw[XL]at hn;have:=Jx (J:=A++B) hn.2 λy hy=>by
   have h1:=hs y (bI _ hy);rcases eX.1 h1 with h|h
   ·exact tS _ h
   ·rcases cD.1 h with rfl|h
    ·exact absurd hy hn.1
    ·exact A1 _ h
  simp only[lF,qm]at this ⊢;omega
theorem XM{p q:HS K}(hp:p.n≠0)(hq:q.n≠0)(h:canon p=canon q)(v:V3 K):(dot p.n v<=p.d↔dot q.n v<=q.d)/\(cB p v↔cB q v):=by
 obtain⟨k,hk,rfl⟩:=(XE hp hq).1 h;unfold cB CO
 try dsimp only
 rw[V3.Lh,CR.mul_comm (dot p.n v),CR.mul_comm p.d];refine⟨(OF.mul_le_mul_left hk).symm,λh=>by rw[h],λh=>?_⟩;have x7:k≠0:=OF.ne_of_gt hk;have:k⁻¹*(k*dot p.n v)=k⁻¹*(k*p.d):=by rw[h]
 rwa[<-CR.mul_assoc,<-CR.mul_assoc,OF.inv_mul x7,CR.one_mul,CR.one_mul]at this
theorem rk.on(hc:Cl ps)(hp:gB ps)(hv:jI ps vs){x:V3 K}(hx:yf ps x){A B:c_}(h:rk ps (A++p::B)):¬(ch p vs vs.length).length<3:=by
 intro al;have kv:=hp p (h.sub p (A1 _ (aR ..)));have idx:∀ v,j8 ps v->cB p v->∃ i∈ch p vs vs.length,aw vs i=v:=by intro v h1 h2;obtain⟨i,hi,e⟩:=aGc ((hv.mem v).2 h1);exact⟨i,kz.2 ⟨hi,by rw[e];exact h2⟩,e⟩
 have pl:∀ i∈ch p vs vs.length,dot p.n (aw vs i)=p.d:=λi hi=>(kz.1 hi).2;obtain⟨u,hu,Cj⟩:=Pu kv;generalize ch p vs vs.length=on at *
 match on,al,idx,pl with
 |[],_,idx,_=>
  obtain⟨v,w,v1,v2,_⟩:=h.CP hc hp hx (Gf kv hu Cj);obtain⟨i,hi,_⟩:=idx v v1 v2;cases hi
 |[o],_,idx,_=>
  obtain⟨v,w,v1,v2,w1,w2,al⟩:=h.CP hc hp hx (Gf kv hu Cj);obtain⟨i,hi,e⟩:=idx v v1 v2;obtain⟨j,hj,e'⟩:=idx w w1 w2;simp at hi hj;subst hi;subst hj;rw[<-e,<-e']at al;exact OF.lt_irrefl _ al
 |[o,a],_,idx,pl=>
  by_cases hd:aw vs a-aw vs o=0
  ·have hd:=V3.sub_eq_zero.1 hd;obtain⟨v,w,v1,v2,w1,w2,al⟩:=h.CP hc hp hx (Gf kv hu Cj);obtain⟨i,hi,e⟩:=idx v v1 v2;obtain⟨j,hj,e'⟩:=idx w w1 w2;simp at hi hj;rw[<-e,<-e']at al;rcases hi with rfl|rfl<;>rcases hj with rfl|rfl<;>first|exact OF.lt_irrefl _ al|(rw[hd]at al;exact OF.lt_irrefl _ al)
  ·have hdp:dot p.n (aw vs a-aw vs o)=0:=by rw[V3.hZ,pl a s_,pl o s_,OF.sub_self]
   have c7:=Gf kv hd hdp;have dI:=Gf kv c7 (V3.Gb _ _);obtain⟨v,w,v1,v2,w1,w2,al⟩:=h.CP hc hp hx dI;obtain⟨i,hi,e⟩:=idx v v1 v2;obtain⟨j,hj,e'⟩:=idx w w1 w2;have heq:dot (af p.n (aw vs a-aw vs o)) (aw vs a)=dot (af p.n (aw vs a-aw vs o)) (aw vs o):=by rw[<-OF.sub_eq_zero,<-V3.hZ,V3.wE];exact V3.Ci _ _
   simp at hi hj;rw[<-e,<-e']at al;rcases hi with rfl|rfl<;>rcases hj with rfl|rfl<;>first|exact OF.lt_irrefl _ al|(rw[heq]at al;exact OF.lt_irrefl _ al)
 |_::_::_::_,al,_,_=>simp only[qm]at al;omega
end
end
section
open V3 (dot af bA smul)
theorem aGd(F:Fact)(S:Nat):∀ v w,(F.mU S).G v w->F.G v w:=λ_ _ h=>h.1
def XN(ps:c_)(vs:List RV)(fs:f_):aP:=.s ps.length (bf ps) vs.length (cU vs) (jd fs)
def Rt(ps:c_)(vs:List RV)(fs:f_):Bool:=uB ps&&(yn ps (aZ ps)&&(decide (vs=(aZ ps).map cH)&&decide (fs=ee ps)))
section
variable{ps:c_}{m:Nat}{vs:List RV}{fs:f_}
def Ru(ps:c_)(vs:List RV)(fs:f_):aP:=.s ps.length (bf ps) vs.length (cU vs) (iX fs)
theorem aS4(ps:c_)(vs:List RV)(fs:f_):([Ru ps vs fs].all aP.ok)=true:=by
 have e:(Ru ps vs fs).ok=true:=by show((bf ps).all flat&&((cU vs).all flat&&true))=true;rw[dx,iT gm];rfl
 simp only[eC,e7,e,Au]
theorem A2{vs:List RV}(h:vs.length=0):cU vs=[]:=by rw[k8 h];rfl
theorem aS5(h:yI ps m)(aU:∀ x∈vs,x.Sm)(iW:vs.length<9223372036854775807)(rl:fs.length<9223372036854775807)(rh:∀ f∈fs,f.2.length<9223372036854775807):cy prog 35 [Ru ps vs fs] (.bool (Rt ps vs fs)):=by
 unfold Rt;have aC:=aS4 ps vs fs;unfold Ru at *;by_cases hc:uB ps=true
 ·by_cases hi:yn ps (aZ ps)=true
  ·have qg:=aRA h hc hi;rw[hc,hi];have qW:∀ x∈(aZ ps).map cH,x.Sm:=λx hx=>by obtain⟨v,hv,rfl⟩:=db.1 hx;exact(Q6 h.sz v hv).sm (W9 (GV (n:=0) h.bound o_).2.1).2.2
   have heq:=aNh (a:=vs) (b:=(aZ ps).map cH) aU qW iW;have hef:=aRT (fs:=fs) (fs':=ee ps) rl rh;unfold aN at qg;have hlen:(aZ ps).length=((aZ ps).map cH).length:=by rw[dQ]
   rw[hlen]at qg;generalize (aZ ps).map cH=cV at *;have e0:decide (vs=cV)=true\/decide (vs=cV)=false:=by cases decide (vs=cV)<;>simp
   rcases e0 with e0|e0
   ·rw[e0]at heq ⊢;rw[kS,kS,kS];generalize decide (fs=ee ps)=t at *;refine jC mixed func35 aC 100 (N:=29) k_ (λw=>[
     .step 9 (au f35 9) [.func (.func 83) #[] #[],sl 0 ps.length] [(4,none),(5,none),(6,none),(0,some (.view (bf ps)))] (.tuple #[.agg #[sl 4 ps.length,sl 5 cV.length,cK 6],fW 0]) [(6,.fact ((jd (ee ps)).mU w.heap.size)),(5,.row (cU cV) 38 30),(4,.row (bf ps) 50 40)]
      (LZ (B:=aa.at w) (S:=w.heap.size) qg (.w (x:=.view (bf ps)) rfl (dx ps) jG .nil) (x:=.func 83) k_ k_ rfl (dx ps) (iT gm _) rfl (λw' hb=>Below.size hb) 4),
     .step 19 (au f35 19) [.func (.func 86) #[] #[],sl 1 vs.length,sl 5 cV.length] [(1,some (.view (cU vs))),(5,some (.row (cU cV) 38 30))] b_ []
      (dD heq (.w (x:=.view (cU vs)) rfl (iT gm _) A2 (.w (x:=.row (cU cV) 38 30) rfl (iT gm _) A2 .nil)) (x:=.func 86) k_ k_ rfl),
     .step 27 (au f35 27) [.func (.func 87) #[] #[],cK 2,cK 6,MB] [(2,some (.fact (iX fs))),(6,some (.fact ((jd (ee ps)).mU w.heap.size)))] (.bool t) []
      (dD hef (.o (.oi (aFl _ _) (.p rfl .nil))) (x:=.func 87) k_ k_ rfl)]) (λw=>?_) k_
    kernel_rfl
   ·rw[e0]at heq ⊢;refine jC mixed func35 aC 100 (N:=29) k_ (λw=>[
     .step 9 (au f35 9) [.func (.func 83) #[] #[],sl 0 ps.length] [(4,none),(5,none),(6,none),(0,some (.view (bf ps)))] (.tuple #[.agg #[sl 4 ps.length,sl 5 cV.length,cK 6],fW 0]) [(6,.fact ((jd (ee ps)).mU w.heap.size)),(5,.row (cU cV) 38 30),(4,.row (bf ps) 50 40)]
      (LZ (B:=aa.at w) (S:=w.heap.size) qg (.w (x:=.view (bf ps)) rfl (dx ps) jG .nil) (x:=.func 83) k_ k_ rfl (dx ps) (iT gm _) rfl (λw' hb=>Below.size hb) 4),
     .step 19 (au f35 19) [.func (.func 86) #[] #[],sl 1 vs.length,sl 5 cV.length] [(1,some (.view (cU vs))),(5,some (.row (cU cV) 38 30))] a_ []
      (dD heq (.w (x:=.view (cU vs)) rfl (iT gm _) A2 (.w (x:=.row (cU cV) 38 30) rfl (iT gm _) A2 .nil)) (x:=.func 86) k_ k_ rfl)]) (λw=>?_) k_
    kernel_rfl
  ·have hi:yn ps (aZ ps)=false:=by simpa using hi
   rw[hc,hi];exact jC mixed func35 aC 100 (N:=29) k_ (λw=>[.step 9 (au f35 9) [.func (.func 83) #[] #[],sl 0 ps.length] [(0,some (.view (bf ps)))] (.tuple #[wU,fW 12]) []
    (dD (aRy h hc hi) (.w (x:=.view (bf ps)) rfl (dx ps) jG .nil) (x:=.func 83) k_ k_ k_)]) (λw=>k_) k_
 ·have hc:uB ps=false:=by simpa using hc
  rw[hc];exact jC mixed func35 aC 100 (N:=29) k_ (λw=>[.step 9 (au f35 9) [.func (.func 83) #[] #[],sl 0 ps.length] [(0,some (.view (bf ps)))] (.tuple #[wU,fW 13]) []
   (dD (aRx h hc) (.w (x:=.view (bf ps)) rfl (dx ps) jG .nil) (x:=.func 83) k_ k_ k_)]) (λw=>k_) k_
theorem aS6(h:yI ps m)(aU:∀ x∈vs,x.Sm)(iW:vs.length<9223372036854775807)(rl:fs.length<9223372036854775807)(rh:∀ f∈fs,f.2.length<9223372036854775807):cy prog 35 [XN ps vs fs] (.bool (Rt ps vs fs)):=
 cy.Xo (aS5 h aU iW rl rh) (tP.full fs).G
end
def aGe(ps:c_):aP:=XN ps ((aZ ps).map cH) (ee ps)
def MK(ps:c_):Bool:=uB ps&&yn ps (aZ ps)
theorem aS7(ps:c_):(ee ps).length<=ps.length:=by unfold ee;rw[dQ];exact EC ps _ _
theorem aS8(nn:V3 K)(vs:e_)(l:l_):(order nn (aw vs) l).length<=2*l.length:=by
 have bH:∀ l:List Nat,(kL nn vs l).length<=l.length:=λl=>by have:=(Mu (nn:=nn) (vs:=vs) (l:=l) l.length (bF _)).2;unfold bT at this;rw[n9]at this;unfold kL;rw[GS,List.length_tail];omega
 rw[aE2,lF];have h1:=bH l;have h2:=bH l.reverse;rw[GS]at h2;omega
theorem aS9(h:ps.length<=20):∀ f∈ee ps,f.2.length<=1600:=by
 intro f hf;unfold ee at hf;obtain⟨g,hg,rfl⟩:=db.1 hf;unfold cN at hg;rw[wI]at hg;obtain⟨i,_,hg⟩:=hg;unfold gW at hg;split at hg
 ·rename_i p hp;unfold qe at hg;split at hg
  ·cases hg
  ·split at hg
   ·cases hg
   ·split at hg
    ·simp at hg;subst hg;show(List.map _ _).length<=_;rw[dQ];show(order p.n (aw (aZ ps)) (ch p (aZ ps) (aZ ps).length)).length<=1600;have h1:=aS8 p.n (aZ ps) (ch p (aZ ps) (aZ ps).length);have h2:=Jg p (aZ ps) (aZ ps).length;have h3:=Mz ps h;omega
    ·cases hg
 ·cases hg
section
variable{ps:c_}{m:Nat}{p:HS K}
theorem vsm(h:yI ps m):∀ x∈(aZ ps).map cH,x.Sm:=λx hx=>by obtain⟨v,hv,rfl⟩:=db.1 hx;exact(Q6 h.sz v hv).sm (W9 (GV (n:=0) h.bound o_).2.1).2.2
theorem aTa(h:yI ps m)(hs:MK ps=true):cy prog 35 [aGe ps] b_:=by have h1:=Mz ps h.len;have h2:=aS7 ps;have h3:=h.len;have:=aS6 (vs:=(aZ ps).map cH) (fs:=ee ps) h (vsm h) (by rw[dQ];omega) o_ λf hf=>eZ (aS9 h3 f hf) d_;unfold MK at hs;unfold Rt at this;rw[de]at hs;rw[hs.1,hs.2,aJ rfl,aJ rfl]at this;exact this
end
structure Jy(p:HS K)(vs:e_):Prop where
 flat:Ro p.n vs (ch p vs vs.length)=false
 seq:aWE p.n vs (ch p vs vs.length) (order p.n (aw vs) (ch p vs vs.length))
 len:(order p.n (aw vs) (ch p vs vs.length)).length=(ch p vs vs.length).length
def Jz(ps:c_)(k:Nat)(p:HS K):Bool:=(ps.take k).any λq=>decide (canon p=canon q)
theorem aTb{q:HS K}(h:ps[k]?=some q)(p:HS K):Jz ps (k+1) p=(Jz ps k p||decide (canon p=canon q)):=by unfold Jz;rw[tA,h,List.any_append];simp
section
variable{Bs:aa}{ps:c_}{vs:e_}
def Rv(n i k:Nat)(b:Bool):aT:=[(8,vI k),(7,.bool b),(6,vI i),(0,sl 0 n)]
def JA(ps:c_):aM:=[(0,.view (bf ps))]
theorem aTc{q:HS K}{b:Bool}(hk:k<i)(hi:i<ps.length)(hp:ps[i]?=some p)(hq:ps[k]?=some q)(cq:∀ p∈ps,bP m p/\p.n≠0)(hm:100*m+1000<=aE)(h63:ps.length<=500)(ht:(b||decide (canon p=canon q))=t):
  ah prog Bs 57 (aI (ag f131 2)) (Rv ps.length i k b) (JA ps) 5 ⟨.normal,Rv ps.length i (k+1) t,JA ps,5⟩:=by
 have sp:=cq p (cL hp);have sq:=cq q (cL hq);have hs:=aWZ sp.1 sq.1 o_ o_ sp.2 sq.2;cases b with
 |true=>
  rw[Ht]at ht;subst ht;exact aD [.lt 23 k i true (aJ hk),.sum 25 k 1 (k+1) rfl o_]
 |false=>
  rw[zH]at ht;rw[ht]at hs;exact aD [.lt 23 k i true (aJ hk),.c8 f131 30 0 ps.length i 40 hi k_,.ld f131 31 50 0 (i*40) (.view (bf ps)) (dJ p) rfl (Av hp) k_,.c8 f131 34 0 ps.length k 40 o_ k_,.ld f131 35 50 0 (k*40) (.view (bf ps)) (dJ q) rfl (Av hq) k_,hs.at 36,.sum 25 k 1 (k+1) rfl o_]
theorem aGf(hi:i<ps.length)(hp:ps[i]?=some p)(cq:∀ p∈ps,bP m p/\p.n≠0)(hm:100*m+1000<=aE)(h63:ps.length<=500):
  ah prog Bs 57 (.block 2 (ag f131 2)) (Rv ps.length i 0 false) (JA ps) 5 ⟨.normal,[(7,.bool (lW ps i p))],JA ps,5⟩:=
 cd (id:=2) (cx (r:=⟨.exit 2,[(7,.bool (Jz ps i p))],JA ps,5⟩) i (λk=>Rv ps.length i k (Jz ps k p)) (λ_=>JA ps) (λi k _=>Iff.rfl) (λk hk=>by
  have hq:=aW (l:=ps) (i:=k) o_;exact aTc hk hi hp hq cq hm h63 (aTb hq p).symm) (by
  generalize Jz ps i p=b;exact aD [.lt 23 i i false s_]) n_)
def EJ(n i:Nat)(v2:i_):aT:=[(6,vI i),(0,sl 0 n),(1,v2),(4,ptr 1),(5,ptr 3)]
def yR(ps:c_)(v2:i_)(cells:ak)(c:Nat):aM:=
 [(0,.view (bf ps)),(1,.aK [.slice none 0 0,.slice none 0 0,.slice none 0 0] 26),(2,.row (bf ps) 50 40),(3,.aK [sl 2 ps.length,v2,sl 4 c] 26),(4,.row cells 47 2)]
section
variable{b o c:Nat}
theorem aTd{cells:ak}(hi:i<ps.length)(hp:ps[i]?=some p)(cq:∀ p∈ps,bP m p/\p.n≠0)(hm:300*m+1000<=aE)(h63:ps.length<=500)(ht:lW ps i p=true):
  ah prog Bs 57 (aI (ag f131 0)) (EJ ps.length i (.slice (some ⟨b,o,none⟩) vs.length c)) (yR ps (.slice (some ⟨b,o,none⟩) vs.length c) cells cc) 5
   ⟨.normal,EJ ps.length (i+1) (.slice (some ⟨b,o,none⟩) vs.length c),yR ps (.slice (some ⟨b,o,none⟩) vs.length c) cells cc,5⟩:=by
 have lo:=aGf (Bs:=Bs) hi hp cq o_ h63;rw[ht]at lo;exact aD [.lt 18 i ps.length true (aJ hi),.code 2 _ _ _ _ _ lo,.sum 20 i 1 (i+1) rfl o_]
noncomputable def rcS(hi:i<ps.length)(hp:ps[i]?=some p)(cq:∀ p∈ps,bP m p/\p.n≠0)(hm:300*m+1000<=aE)(h63:ps.length<=500)(ht:lW ps i p=false)(more:bM prog Bs 57):bM prog Bs 57:=
 .lt 18 i ps.length true (aJ hi)::.code 2 _ _ _ _ _ (ht▸aGf (Bs:=Bs) hi hp cq o_ h63)::.c8 f131 41 0 ps.length i 40 hi k_::.ld f131 42 50 0 (i*40) (.view (bf ps)) (dJ p) rfl (Av hp) k_::more
theorem aTe{cells:ak}(hi:i<ps.length)(hp:ps[i]?=some p)(cq:∀ p∈ps,bP m p/\p.n≠0)(aU:∀ v∈vs,aF m v)(hm:300*m+1000<=aE)(h63:ps.length<=500)(iW:vs.length<900000)(ht:lW ps i p=false)
  (il:∀ w,Bs.G w->dp w (.slice (some ⟨b,o,none⟩) vs.length c) vs.length (aN vs)) (ho:(ch p vs vs.length).length<3) :
  ah prog Bs 57 (aI (ag f131 0)) (EJ ps.length i (.slice (some ⟨b,o,none⟩) vs.length c)) (yR ps (.slice (some ⟨b,o,none⟩) vs.length c) cells cc) 5
   ⟨.normal,EJ ps.length (i+1) (.slice (some ⟨b,o,none⟩) vs.length c),yR ps (.slice (some ⟨b,o,none⟩) vs.length c) cells cc,5⟩:=by
 have sp:=cq p (cL hp);have hl:=aSG sp.1 sp.2 aU o_ iW ho;exact aD (rcS hi hp cq hm h63 ht [.step 44 (au f131 44) [.func (.func 177) #[] #[],dJ p,.slice (some ⟨b,o,none⟩) vs.length c] [] (.slice none 0 0) []
   (dD hl (.p rfl (.e rfl il .nil)) (x:=.func 177) k_ k_ rfl),.gt 47 0 0 false rfl,.sum 20 i 1 (i+1) rfl o_])
theorem aTf{cells:ak}(hi:i<ps.length)(hp:ps[i]?=some p)(cq:∀ p∈ps,bP m p/\p.n≠0)(aU:∀ v∈vs,aF m v)(hm:300*m+1000<=aE)(h63:ps.length<=500)(iW:vs.length<900000)(ht:lW ps i p=false)
  (il:∀ w,Bs.G w->dp w (.slice (some ⟨b,o,none⟩) vs.length c) vs.length (aN vs)) (ho:¬(ch p vs vs.length).length<3) (hk:Jy p vs) (hc:cells.length=cc*2) (Mx:cc<=500) (ET:∀ v∈cells,v.oneCell'=true) :
  ah prog Bs 57 (aI (ag f131 0)) (EJ ps.length i (.slice (some ⟨b,o,none⟩) vs.length c)) (yR ps (.slice (some ⟨b,o,none⟩) vs.length c) cells cc) 5
   ⟨.normal,EJ ps.length (i+1) (.slice (some ⟨b,o,none⟩) vs.length c),[(0,.view (bf ps)),(1,.aK [.slice none 0 0,.slice none 0 0,.slice none 0 0] 26),(2,.row (bf ps) 50 40),(3,.aK [sl 2 ps.length,.slice (some ⟨b,o,none⟩) vs.length c,sl 7 (cc+1)] 26),(5,.row (av (order p.n (aw vs) (ch p vs vs.length))) 3 1),(7,.row (cells++[vI i,sl 5 (av (order p.n (aw vs) (ch p vs vs.length))).length]) 47 2)],8⟩:=by
 have sp:=cq p (cL hp);have hl:=aWH sp.1 sp.2 aU hm iW ho hk.flat hk.seq;have hlen:=hk.len;rw[od];generalize order p.n (aw vs) (ch p vs vs.length)=l at *;generalize ni:cells++[vI i,sl 5 l.length]=cells' at *;exact aD (rcS hi hp cq hm h63 ht [.step 44 (au f131 44) [.func (.func 177) #[] #[],dJ p,.slice (some ⟨b,o,none⟩) vs.length c] [(5,none)] (sl 5 l.length) [(5,.row (av l) 3 1)]
   (rS hl (.p rfl (.e rfl il .nil)) (x:=.func 177) k_ k_ (iJ l) 5),.gt 47 l.length 0 true (aJ o_),
  .step 52 (au f131 52) [vI i,sl 5 l.length] [] (.agg #[vI i,sl 5 l.length]) [] (Qf (t:=47) (idx:=[0,1]) k_ (λit z h1 h2=>aE5 h1 h2) k_),
  .bsM f131 53 6 1 47 2 [0] (.agg #[vI 0,.slice none 0 0]) [.agg #[vI i,sl 5 l.length]] #[vI i,sl 5 l.length] (.row [vI i,sl 5 l.length] 47 2) rfl (λv hv=>by
   have hv:v∈[vI 0,.slice none 0 0]:=hv;simp at hv;rcases hv with rfl|rfl<;>rfl) d_ k_ rfl d_ d_ k_,.pP f131 54 7 4 cc 1 (cc+1) 47 2 32 cells 6 (.row [vI i,sl 5 l.length] 47 2) cells' rfl rfl rfl hc ni (λv hv=>by
   simp[Obj.cells]at hv;rcases hv with rfl|rfl<;>rfl) d_ (by simp[maxLen];omega) o_ k_,.sum 20 i 1 (i+1) rfl o_])
end
end
end
theorem aO.aTg(h:aO (B.jJ ks) ι c w):aO B ι c w:=
 ⟨h.base.1,h.dE,h.born,λk x b o cap e hx hl=>⟨(h.own k x b o cap e hx hl).1,λhF=>(h.own k x b o cap e hx hl).2 (.inl hF)⟩,h.inj,h.apart,h.seen,h.fa,h.one,h.oT⟩
def Kept(ks:List (Value×ak))(cs:ak):Prop:=∀ v∈cs,∀ b,iU v=some b->∃ p∈ks,iU p.1=some b
theorem Kept.snoc{cs:ak}(h:Kept ks cs)(i:Nat)(u:i_)(xs:ak):Kept ((u,xs)::ks) (cs++[vI i,u]):=λv hv b hb=>by
 rcases eX.1 hv with hv|hv
 ·obtain⟨p,hp,e⟩:=h v hv b hb;exact⟨p,bI _ hp,e⟩
 ·simp at hv;rcases hv with rfl|rfl
  ·cases hb
  ·exact⟨_,aR ..,hb⟩
section
open V3 (dot af bA smul)
section
variable{ps:c_}{vs:e_}{b o c:Nat}
noncomputable def rC0:Code:=AA (fA f131)
noncomputable def rC1:Code:=AA (wQ (fA f131))
noncomputable def rC2:Code:=AA (AA (wQ (wQ (fA f131))))
noncomputable def rC3:Code:=AA (wQ (wQ (wQ (fA f131))))
theorem aTh:(f131).body=some (.seq rC0 (.seq rC1 (.seq (.seq rC2 (.block 0 (.loop (aI (ag f131 0))))) (.seq rC3 .ret)))):=k_
theorem aGg{cells:ak}(cR:∀ v∈cells,flat v=true){r:List (Nat×Nat)}(h1:(([.slice none 0 0,.slice none 0 0,.slice none 0 0]:ak).all (Az r))=true)(h3:([sl 2 ps.length,.slice (some ⟨b,o,none⟩) vs.length c,sl 4 cc].all (Az r))=true):∀ p∈yR ps (.slice (some ⟨b,o,none⟩) vs.length c) cells cc,IX r p.2:=λp hp=>by
 simp only[yR,cD,jE,jF]at hp;rcases hp with rfl|rfl|rfl|rfl|rfl
 ·exact λv hv=>bB.1 (dx ps) v hv
 ·exact h1
 ·exact λv hv=>bB.1 (dx ps) v hv
 ·exact h3
 ·exact cR
def Rw(B:aa)(ps:c_)(vs:e_)(v2:i_)(i:Nat)(a:Act)(w:h_):Prop:=
 ∃ ks cells,AR B ((cN ps vs i).map eO) ks cells/\Kept ks cells/\St (B.jJ ks) 57 (EJ ps.length i v2) (yR ps v2 cells (cN ps vs i).length) 5 a w
theorem aTi(rM:∀ k,B.mp k=none)(hi:i<ps.length)(cq:∀ p∈ps,bP m p/\p.n≠0)(aU:∀ v∈vs,aF m v)(hm:300*m+1000<=aE)(h63:ps.length<=500)(iW:vs.length<900000)
  (il:∀ w,B.G w->dp w (.slice (some ⟨b,o,none⟩) vs.length c) vs.length (aN vs)) (eQ:∀ p∈ps,¬(ch p vs vs.length).length<3->Jy p vs) {a:Act} {w:h_} (h:Rw B ps vs (.slice (some ⟨b,o,none⟩) vs.length c) i a w)
  (K:Act->World->Prop) (Q:Exit->Act->World->Prop) (hK:∀ a' w',Rw B ps vs (.slice (some ⟨b,o,none⟩) vs.length c) (i+1) a' w'->K a' w'):(aI (ag f131 0)).wpIn (FW none) 0 prog (Exit.then K Q) a w:=by
 obtain⟨ks,cells,hF,Rx,hS⟩:=h;have jn:ps[i]?=some ps[i]:=aW hi;have l4:gW ps vs i=qe ps vs i ps[i]:=by unfold gW;rw[jn]
 obtain⟨iD,ET⟩:=aE6 hF hS;have Mx:(cN ps vs i).length<=500:=by have:=EC ps vs i;omega
 have aGh:∀ w,(B.jJ ks).G w->dp w (.slice (some ⟨b,o,none⟩) vs.length c) vs.length (aN vs):=λw h=>il w h.1;have stay:gW ps vs i=[]->∀ a' w',St (B.jJ ks) 57 (EJ ps.length (i+1) (.slice (some ⟨b,o,none⟩) vs.length c)) (yR ps (.slice (some ⟨b,o,none⟩) vs.length c) cells (cN ps vs i).length) 5 a' w'->K a' w':=by
  intro he a' w' h';have e:cN ps vs (i+1)=cN ps vs i:=by rw[Mv,he,jO]
  exact hK a' w' ⟨ks,cells,by rw[e];exact hF,Rx,by rw[e];exact h'⟩
 by_cases uI:lW ps i ps[i]=true
 ·have he:gW ps vs i=[]:=by rw[l4];unfold qe;rw[aB (show(ps.take i).any (λq=>decide (canon ps[i]=canon q))=true from uI)]
  exact qU (aTd hi jn cq hm h63 uI) hS λa' w' h'=>stay he a' w' h'
 ·have Jh:lW ps i ps[i]=false:=by simpa using uI
  by_cases ho:(ch ps[i] vs vs.length).length<3
  ·have he:gW ps vs i=[]:=by rw[l4];unfold qe;rw[az (show ¬(ps.take i).any (λq=>decide (canon ps[i]=canon q))=true from uI),aB ho]
   exact qU (aTe hi jn cq aU hm h63 iW Jh aGh ho) hS λa' w' h'=>stay he a' w' h'
  ·have hlk:=eQ _ (df hi) ho;have he:gW ps vs i=[(i,order ps[i].n (aw vs) (ch ps[i] vs vs.length))]:=by rw[l4];unfold qe;rw[az (show ¬(ps.take i).any (λq=>decide (canon ps[i]=canon q))=true from uI),az ho,aB (by rw[hlk.len];omega)]
   refine qU (aTf hi jn cq aU hm h63 iW Jh aGh ho hlk iD Mx ET) hS λa' w' h'=>?_;show K a' w';obtain⟨u,hu,vp,h2⟩:=h'.Qp (m:=5) (k:=7) rfl (iJ _) rfl d_;have e:cN ps vs (i+1)=cN ps vs i++[(i,order ps[i].n (aw vs) (ch ps[i] vs vs.length))]:=by rw[Mv,he]
   have wB:=hF.snoc (i:=i) (l:=order ps[i].n (aw vs) (ch ps[i] vs vs.length)) hu vp;refine hK a' w' ⟨_,cells++[vI i,u],by rw[e,sF];exact wB,Rx.snoc i u _,?_⟩;rw[e,lF];have cR:=wB.flat;generalize cells++[vI i,u]=cells' at *;exact h2.LV rM [(0,0),(1,1),(2,2),(3,3),(4,7)] k_ rfl (aGg cR k_ k_) k_ k_ k_ k_ k_
theorem aTj(ps:c_):((bf ps).drop 0).take (ps.length*40)=bf ps:=by rw[mI,kG (by rw[Ez];exact bF _)]
theorem aTk(cq:∀ p∈ps,bP m p/\p.n≠0)(aU:∀ v∈vs,aF m v)(hm:300*m+1000<=aE)(h63:ps.length<=500)(iW:vs.length<900000)(eQ:∀ p∈ps,¬(ch p vs vs.length).length<3->Jy p vs):
  aFi prog 131 50 40 ps.length (bf ps) vs.length (aN vs) (jd ((cN ps vs ps.length).map eO)):=by
 intro w v1 b o c uG lk;have cC:wD w [fV ps,.p (.slice (some ⟨b,o,none⟩) vs.length c)] [v1,.slice (some ⟨b,o,none⟩) vs.length c]:=.cons uG (.cons rfl .nil);have aC:([fV ps,.p (.slice (some ⟨b,o,none⟩) vs.length c)].all aP.ok)=true:=by simp only[eC,e7,Xc,kS,iA];rfl
 obtain⟨ι,cc,h1,h2,h3,h4,h5,h6,h7⟩:=x8 cC (bB.1 aC) 0 _ _ (ub w) n_ (λ_ _=>rfl);have rM:∀ k,(aa.at w).mp k=none:=λ_=>rfl;have il:∀ w',(aa.at w).G w'->dp w' (.slice (some ⟨b,o,none⟩) vs.length c) vs.length (aN vs):=λw' hb=>lk.jJ hb;refine aDj (N:=57) (B:=(aa.at w).jJ []) func131 aTh k_ h6 (aDc h2) h4 h3 rfl λa bT=>?_;have DD:=aTj ps;have sj:=Ez ps
 have g0:∀ B:aa,ah prog B 57 rC0 (jh 0 (e6 0 [fV ps,.p (.slice (some ⟨b,o,none⟩) vs.length c)])) (jB 0 [fV ps,.p (.slice (some ⟨b,o,none⟩) vs.length c)]) 1
   ⟨.normal,[(4,ptr 1),(0,sl 0 ps.length),(1,.slice (some ⟨b,o,none⟩) vs.length c)],[(0,.view (bf ps)),(1,.aK [.slice none 0 0,.slice none 0 0,.slice none 0 0] 26)],2⟩:=λB=>aD []
 have g1:∀ B:aa,ah prog B 57 rC1 [(4,ptr 1),(0,sl 0 ps.length),(1,.slice (some ⟨b,o,none⟩) vs.length c)] [(0,.view (bf ps)),(1,.aK [.slice none 0 0,.slice none 0 0,.slice none 0 0] 26)] 2
   ⟨.normal,[(4,ptr 1),(5,ptr 4),(0,sl 0 ps.length),(1,.slice (some ⟨b,o,none⟩) vs.length c)],[(0,.view (bf ps)),(1,.aK [.slice none 0 0,.slice none 0 0,.slice none 0 0] 26),(3,.row (bf ps) 50 40),(4,.aK [sl 3 ps.length,.slice (some ⟨b,o,none⟩) vs.length c,.slice none 0 0] 26)],5⟩:=λB=>
  aD [.LW f131 10 2 50 40 (RP.v ⟨rf,tJ⟩) k_,.Q7 f131 12 3 2 0 ps.length ps.length 50 40 480 0 0 [] 0 (.view (bf ps)) (bf ps) (kB _) rfl (by show(((bf ps).drop 0).take (ps.length*40)).length=_;rw[DD,sj]) rfl (by show[]++((bf ps).drop 0).take (ps.length*40)=_;rw[DD,ju]) (aEO ps) d_ (by simp[maxLen];omega) o_ k_,.step 14 (au f131 14) [sl 3 ps.length,.slice (some ⟨b,o,none⟩) vs.length c] [] (.agg #[sl 3 ps.length,.slice (some ⟨b,o,none⟩) vs.length c,.slice none 0 0]) [] (Qf (t:=26) (idx:=[0,1]) k_ (λit z h1 h2=>aFf h1 h2) k_)]
 have g2:∀ B:aa,ah prog B 57 rC2 [(4,ptr 1),(5,ptr 4),(0,sl 0 ps.length),(1,.slice (some ⟨b,o,none⟩) vs.length c)]
    [(0,.view (bf ps)),(1,.aK [.slice none 0 0,.slice none 0 0,.slice none 0 0] 26),(3,.row (bf ps) 50 40),(4,.aK [sl 3 ps.length,.slice (some ⟨b,o,none⟩) vs.length c,.slice none 0 0] 26)] 5
   ⟨.normal,[(6,vI 0),(0,sl 0 ps.length),(1,.slice (some ⟨b,o,none⟩) vs.length c),(4,ptr 1),(5,ptr 4)],[(0,.view (bf ps)),(1,.aK [.slice none 0 0,.slice none 0 0,.slice none 0 0] 26),(3,.row (bf ps) 50 40),(4,.aK [sl 3 ps.length,.slice (some ⟨b,o,none⟩) vs.length c,.slice none 0 0] 26)],5⟩:=λB=>aD []
 refine mG (qU (g0 _) bT λa1 w1 s1=>?_);refine mG (qU (g1 _) s1 λa2 w2 s2=>?_);refine mG (mG (qU (g2 _) s2 λa3 w3 s3=>?_));refine J7 ?_;have s4:=St.aRG (k:=4) (pre:=[sl 3 ps.length,.slice (some ⟨b,o,none⟩) vs.length c]) (post:=[]) (tb:=26) s3 rfl 47 2;have i0:Rw (aa.at w) ps vs (.slice (some ⟨b,o,none⟩) vs.length c) 0 a3 w3:=⟨[],[],.nil,λv h=>(by cases h),s4.LV rM [(0,0),(1,1),(2,3),(3,4),(4,5)] k_ rfl (aGg n_ k_ k_) k_ k_ k_ k_ k_⟩;refine aDh ps.length (Rw (aa.at w) ps vs (.slice (some ⟨b,o,none⟩) vs.length c)) i0 (λi hi a' w' h' K hK=>aTi rM hi cq aU hm h63 iW il eQ h' K _ hK) λa' w' h'=>?_;obtain⟨ks,cells,hF,Rx,hS⟩:=h';have fM:aM:=yR ps (.slice (some ⟨b,o,none⟩) vs.length c) cells (cN ps vs ps.length).length;refine qU (r:=⟨.exit 0,[(4,ptr 1),(5,ptr 3)],yR ps (.slice (some ⟨b,o,none⟩) vs.length c) cells (cN ps vs ps.length).length,5⟩) (aD [.lt 18 ps.length ps.length false s_]) hS λa4 w4 s4=>?_;show Code.wpIn _ _ _ _ _ _ _;refine mG (qU (r:=⟨.normal,[(4,ptr 1)],[(1,.aK [sl 2 ps.length,.slice (some ⟨b,o,none⟩) vs.length c,sl 4 (cN ps vs ps.length).length] 26),(2,.row (bf ps) 50 40),(4,.row cells 47 2)],5⟩) (aD []) s4 λa5 w5 s5=>?_);refine wpIn_ret ?_;refine(aDk s5 rfl (v:=.agg #[sl 2 ps.length,.slice (some ⟨b,o,none⟩) vs.length c,sl 4 (cN ps vs ps.length).length]) k_ λaA ct v' bJ CJ hc=>?_).1;obtain⟨us,rfl,Lg⟩:=hc.Hj;obtain⟨u1,u2,u3,e3,c1,c2,c3⟩:=JT Lg;have e2:=c2.fD rfl;subst e2;rw[show(cN ps vs ps.length).length=((cN ps vs ps.length).map eO).length by rw[dQ]]at c3;have ho:=hF.out bJ (CJ 4 _ rfl) c3;have jL:=xm bJ.aTg (CJ 2 _ rfl) c1 (by rw[sj];exact bF _) (bB.1 (dx ps));rw[<-sj,n9]at jL;refine⟨u1,u3,?_,jL,ho.1,λb' jX=>Pm (ho.2 b' jX),λb' jX wB=>?_,bJ.base.1⟩
 ·congr 2
  rw[<-Ai (xs:=us),e3]
 ·obtain⟨o1,lY,q1⟩:=IZ bJ c1 jX;have Fh:=bJ.own 2 _ b' o1 lY (CJ 2 _ rfl) rfl q1;rcases wB with wB|⟨b2,oo,ql,j,u,e,hj,lD,gE⟩
  ·obtain⟨o4,aTl,q4⟩:=IZ bJ c3 wB;have:=bJ.inj 2 4 _ _ b' o1 lY o4 aTl (CJ 2 _ rfl) rfl (CJ 4 _ rfl) rfl q1 q4;cases this
  ·have hf:=hF.cells _ bJ.base.2;have hl:=hf.length;have hr:=o7 (len:=((cN ps vs ps.length).map eO).length*2) bJ (CJ 4 _ rfl) rfl hF.flat (λe=>by rw[e]) c3;have hr:dp w5 u3 ((cN ps vs ps.length).map eO).length cells:=by
    have e:((Obj.row cells 47 2).cells.drop 0).take (((cN ps vs ps.length).map eO).length*2)=cells:=by rw[mI];exact kG (vT hl)
    rwa[e]at hr
   obtain⟨q,hq,e'⟩:=Rx u (Qh hr hf e hj lD) b' gE;exact Fh.2 (.inr ⟨q,hq,e'⟩)
end
section
variable{ps:c_}{m M:Nat}
structure sC(ps:c_)(m M:Nat):Prop where
 len:ps.length<=9
 pl:∀ p∈ps,bP m p/\p.n≠0
 low:120*m+365<=M
 lim:1000*M+10000<=aE
theorem sC.sz(h:sC ps m M):(∀ v∈fC ps,aF M v)/\(fC ps).length<=81*9:=by obtain⟨h1,h2⟩:=Xv h.pl h.low h.len ps.length (bF _);refine⟨h1,dh h2 ?_⟩;have:=h.len;omega
theorem sC.tV(h:sC ps m M):m<=M/\1000*m+10000<=aE/\200*m+1000<=aE/\100*M+1000<=aE/\300*M+1000<=aE/\m<=aE/\M<=aE:=by have h1:=h.low;have h2:=h.lim;have hmM:m<=M:=dh (dh (VX m (by decide:0<120)) (Ks _ 365)) h1;have q1:1000*m+10000<=aE:=dh (Ji (jN _ hmM) _) h2;have q2:200*m+1000<=aE:=dh (K5 (eE m (by decide:200<=1000)) d_) q1;have q3:100*M+1000<=aE:=dh (K5 (eE M (by decide:100<=1000)) d_) h2;have q4:300*M+1000<=aE:=dh (K5 (eE M (by decide:300<=1000)) d_) h2;have q5:m<=aE:=dh (dh (VX m (by decide:0<200)) (Ks _ 1000)) q2;have q6:M<=aE:=dh (dh (VX M (by decide:0<1000)) (Ks _ 10000)) h2;exact⟨hmM,q1,q2,q3,q4,q5,q6⟩
theorem sC.all(h:sC ps m M):cy prog 127 [fV ps] b_:=by
 have:=aFu (ps:=ps.map c9) (m:=m) (λx hx=>by obtain⟨p,hp,rfl⟩:=db.1 hx;exact aEo (h.pl p hp).1) h.tV.2.2.2.2.2.1 (by rw[dQ];have:=h.len;omega)
 rw[dQ,show(ps.map c9).all r7=true by rw[bB];intro x hx;obtain⟨p,hp,rfl⟩:=db.1 hx;rw[aEn];exact aJ (h.pl p hp).2]at this
 exact this
noncomputable def XO(h:sC ps m M)(ht:wX ps=t)(more:bM prog Bs 29):bM prog Bs 29:=
 .step 7 (au f73 7) [.func (.func 127) #[] #[],sl 0 ps.length] [(0,some (.view (bf ps)))] b_ []
  (dD h.all (.w (x:=.view (bf ps)) rfl (dx ps) jG .nil) (x:=.func 127) k_ k_ rfl)::
 .gt 13 ps.length 100 false (bd (by have:=h.len;omega))::
 .step 17 (au f73 17) [.func (.func 128) #[] #[],sl 0 ps.length] [(0,some (.view (bf ps)))] (.bool t) []
  (dD (ht▸aR7 (λp hp=>(h.pl p hp).1) h.tV.2.1 (by have:=h.len;omega)) (.w (x:=.view (bf ps)) rfl (dx ps) jG .nil) (x:=.func 128) k_ k_ rfl)::more
noncomputable def aGi(h:sC ps m M)(ht:vP (fC ps)=!t)(more:bM prog Bs 29):bM prog Bs 29:=
 .step 21 (au f73 21) [.func (.func 129) #[] #[],sl 0 ps.length] [(2,none),(0,some (.view (bf ps)))] (sl 2 (fC ps).length) [(2,.row (aN (fC ps)) 38 30)]
  (rS (aSq h.pl h.tV.2.2.1 h.low h.tV.2.2.2.1 h.len) (.w (x:=.view (bf ps)) rfl (dx ps) jG .nil) (x:=.func 129) k_ k_ (dC _) 2)::
 .step 23 (au f73 23) [.func (.func 130) #[] #[],sl 2 (fC ps).length] [(2,some (.row (aN (fC ps)) 38 30))] (.bool t) []
  (dD (by have:=aSv h.sz.1 h.tV.2.2.2.2.1 (by have:=h.sz.2;omega);rw[ht,Bool.not_not]at this;exact this) (.w (x:=.row (aN (fC ps)) 38 30) rfl (dC _) rU .nil) (x:=.func 130) k_ k_ rfl)::more
theorem aTm{rs:List RP}(hs:∀ x∈rs,AP m x)(hm:m<=aE)(h63:rs.length<9223372036854775807)(hb:rs.all r7=false):cy prog 73 [.r rs.length (dw rs)] (.tuple #[wU,fW 1]):=by
 have ha:=aFu hs hm h63;rw[hb]at ha;have aC:([aP.r rs.length (dw rs)].all aP.ok)=true:=by simp only[eC,e7,aP.ok,iT jS,iA]
 exact dj func73 aC 29 (λ_=>[.step 7 (au f73 7) [.func (.func 127) #[] #[],sl 0 rs.length] [(0,some (.view (dw rs)))] a_ []
  (dD ha (.w (x:=.view (dw rs)) rfl (iT jS rs) (λh=>by rw[k8 h];rfl) .nil) (x:=.func 127) k_ k_ rfl)])
theorem aTn(h:sC ps m M)(hc:wX ps=false):cy prog 73 [fV ps] (.tuple #[wU,fW 13]):=
 dj func73 (ED ps) 29 (λ_=>XO h hc [])
theorem aTo(h:sC ps m M)(hc:wX ps=true)(hi:vP (fC ps)=true):cy prog 73 [fV ps] (.tuple #[wU,fW 12]):=
 dj func73 (ED ps) 29 (λ_=>XO h hc (aGi (t:=false) h hi []))
def yS(ps:c_):f_:=(cN ps (fC ps) ps.length).map eO
theorem aGj(h:sC ps m M)(hc:wX ps=true)(hi:vP (fC ps)=false)(eQ:∀ p∈ps,¬(ch p (fC ps) (fC ps).length).length<3->Jy p (fC ps)):
  Cz prog 73 [fV ps] 50 40 ps.length (bf ps) 38 30 (fC ps).length (aN (fC ps)) (jd (yS ps)) [fW 0]:=by
 have aTp:=aTk (ps:=ps) (vs:=fC ps) (m:=M) (λp hp=>⟨(h.pl p hp).1.mono h.tV.1,(h.pl p hp).2⟩) h.sz.1 h.tV.2.2.2.2.1 (by have:=h.len;omega) (by have:=h.sz.2;omega) eQ;have zM:0<(fC ps).length:=by
  rcases nU (fC ps).length with h0|h0
  ·rw[k8 h0]at hi;cases hi
  ·exact h0
 refine V9 (k1:=3) (k2:=2) (k3:=4) mixed func73 (ED ps) 100 (N:=29) k_ (λw=>XO h hc (aGi (t:=true) h hi [
  .step 28 (au f73 28) [.func (.func 131) #[] #[],sl 0 ps.length,sl 2 (fC ps).length] [(3,none),(4,none),(0,some (.view (bf ps))),(2,some (.row (aN (fC ps)) 38 30))]
   (.agg #[sl 3 ps.length,sl 2 (fC ps).length,cK 4]) [(4,.fact ((jd (yS ps)).mU w.heap.size)),(3,.row (bf ps) 50 40)]
   (aRH (B:=aa.at w) (S:=w.heap.size) aTp (.w (x:=.view (bf ps)) rfl (dx ps) jG (.w (x:=.row (aN (fC ps)) 38 30) rfl (dC _) rU .nil)) (x:=.func 131) k_ k_ rfl (dx ps) zM (λw' hb=>Below.size hb) 3)])) (λw=>?_) d_ (dx ps) (Ez ps) (dC _) (pY _) k_
 kernel_rfl
end
def gK(rs:List RP)(vs:List RV)(fs:f_):aP:=.s rs.length (dw rs) vs.length (cU vs) (iX fs)
theorem Ry(rs:List RP)(vs:List RV)(fs:f_):(gK rs vs fs).ok=true:=by show((dw rs).all flat&&((cU vs).all flat&&true))=true;rw[iT jS,iT gm];rfl
theorem XP{rs:List RP}(h:rs.length=0):dw rs=[]:=by rw[k8 h];rfl
theorem aTq{a b:List Int}(h63:a.length<9223372036854775807):cy prog 150 [.o (eA a),.o (eA b)] (.bool (decide (a=b))):=by
 have aC:([aP.o (eA a),.o (eA b)].all aP.ok)=true:=rfl;by_cases hl:a.length=b.length
 ·rcases nU a.length with h0|h0
  ·have ha:=k8 h0;have hb:=k8 (hl▸h0);subst ha;subst hb;exact dj func150 aC 26 (λw=>[.step 7 (au f150 7) [cK 0] [(0,some (.fact (eA [])))] (vI 0) [] (vO k_),.step 9 (au f150 9) [cK 1] [(1,some (.fact (eA [])))] (vI 0) [] (vO k_),.step 13 (au f150 13) [cK 0] [(0,some (.fact (eA [])))] (vI 0) [] (vO k_)])
  ·intro w vs cC;cases cC with
   |cons h1 cC=>
   cases cC with
   |cons h2 cC=>
   cases cC;have r1:dp w _ a.length (fN a):=oj.row h1.1 h0;have r2:dp w _ b.length (fN b):=oj.row h2.1 o_;exact aQr h63 w _ (.cons r1 (.cons r2 .nil))
 ·have b9:a≠b:=λh=>hl (by rw[h]);rw[bd b9];exact dj func150 aC 26 (λw=>[.step 7 (au f150 7) [cK 0] [(0,some (.fact (eA a)))] (vI a.length) [] (vO k_),.step 9 (au f150 9) [cK 1] [(1,some (.fact (eA b)))] (vI b.length) [] (vO k_),.rw 10 _ b_ (uF (x:=a.length) (y:=b.length) (by simp[hl]))])
section
variable{Bs:aa}{ra rb:List RP}{va vb:List RV}{fa fb:f_}
def ML(ra:List RP)(va:List RV)(fa:f_)(k:Nat):Obj:=.aK [sl k ra.length,sl (k+1) va.length,cK (k+2)] 26
def aWW(i:Nat):aT:=[(5,vI i),(2,ptr 6),(3,ptr 7)]
def w7(ra rb:List RP)(va vb:List RV)(fa fb:f_):aM:=[(0,.view (dw ra)),(3,.view (dw rb)),(6,ML ra va fa 0),(7,ML rb vb fb 3)]
noncomputable def smS{x y:RP}(hi:i<ra.length)(iF:i<rb.length)(hx:ra[i]?=some x)(hy:rb[i]?=some y)(sx:x.Sm)(sy:y.Sm)(ht:(!t)=true↔x=y)(more:bM prog Bs 85):bM prog Bs 85:=
 .lt 35 i ra.length true (aJ hi)::.c8 f91 41 0 ra.length i 40 hi k_::.ld f91 42 50 0 (i*40) (.view (dw ra)) x.v rfl (wJ hx) k_::.c8 f91 46 3 rb.length i 40 iF k_::.ld f91 47 50 3 (i*40) (.view (dw rb)) y.v rfl (wJ hy) k_::
  .step 48 (au f91 48) [x.v,y.v] [] (.bool t) [] (UE (neg:=false) k_ x y sx sy ht)::more
theorem aXl{x:RP}(hi:i<ra.length)(iF:i<rb.length)(hx:ra[i]?=some x)(hy:rb[i]?=some x)(sx:x.Sm)(h63:ra.length<9223372036854775807):
  ah prog Bs 85 (aI (ag f91 0)) (aWW i) (w7 ra rb va vb fa fb) 8 ⟨.normal,aWW (i+1),w7 ra rb va vb fa fb,8⟩:=
 aD (smS (t:=false) hi iF hx hy sx sx s_ [.sum 37 i 1 (i+1) rfl o_])
theorem aTr{x y:RP}(hi:i<ra.length)(iF:i<rb.length)(hx:ra[i]?=some x)(hy:rb[i]?=some y)(sx:x.Sm)(sy:y.Sm)(bw:x≠y):
  ah prog Bs 85 (aI (ag f91 0)) (aWW i) (w7 ra rb va vb fa fb) 8 ⟨.ret,[(4,.bool false)],w7 ra rb va vb fa fb,8⟩:=
 aD (smS (t:=true) hi iF hx hy sx sy (by simp[bw]) [])
theorem aTs:ah prog Bs 85 (aI (ag f91 0)) (aWW ra.length) (w7 ra rb va vb fa fb) 8 ⟨.exit 0,[(2,ptr 6),(3,ptr 7)],w7 ra rb va vb fa fb,8⟩:=
 aD [.lt 35 ra.length ra.length false s_]
def yT(i:Nat):aT:=[(6,vI i),(2,ptr 6),(3,ptr 7)]
def pE(ra rb:List RP)(va vb:List RV)(fa fb:f_):aM:=[(2,.fact (iX fa)),(5,.fact (iX fb)),(6,ML ra va fa 0),(7,ML rb vb fb 3)]
theorem aTt:∀ x∈pE ra rb va vb fa fb,fE 8 x.2:=λx hx=>by
 simp only[pE,cD,jE,jF]at hx;rcases hx with rfl|rfl|rfl|rfl
 ·exact λv hv=>(by cases hv)
 ·exact λv hv=>(by cases hv)
 ·intro v hv;have hv:v∈[sl 0 ra.length,sl 1 va.length,cK 2]:=hv;simp at hv;rcases hv with rfl|rfl|rfl<;>rfl
 ·intro v hv;have hv:v∈[sl 3 rb.length,sl 4 vb.length,cK 5]:=hv;simp at hv;rcases hv with rfl|rfl|rfl<;>rfl
def vw(f:Int×List Int)(k:Nat):Obj:=.view [iV f.1,cK (k+1)]
noncomputable def Rz(key m k i:Nat){f:Int×List Int}(hi:fs[i]?=some f)(IV:m<k)(ho:xn prog (au f91 key)=some 2):aY prog Bs 85:=
 .step key (au f91 key) [cK m,vI i] [(k,none),(k+1,none),(m,some (.fact (iX fs)))] (ptr k) [(k,vw f k),(k+1,.fact (eA f.2))] (GX ho (.self fs) hi IV)
noncomputable def XQ{f:Int×List Int}(hi:i<fa.length)(h1:fa[i]?=some f)(h2:fb[i]?=some f')(ht:decide (f.1≠f'.1)=t)(more:bM prog Bs 85):bM prog Bs 85:=
 .step 52 (au f91 52) [cK 2] [(2,some (.fact (iX fa)))] (vI fa.length) [] (vN k_ (.self fa))::.lt 53 i fa.length true (aJ hi)::Rz 59 2 8 i h1 d_ k_::Rz 65 5 10 i h2 d_ k_::.rw 68 _ (.bool t) (neZ ht)::more
noncomputable def sfT{f:Int×List Int}(h1:fa[i]?=some f)(h2:fb[i]?=some f')(h63:f.2.length<9223372036854775807)(ht:decide (f.2=f'.2)=t)(more:bM prog Bs 85):bM prog Bs 85:=
 Rz 73 2 12 i h1 d_ k_::Rz 79 5 14 i h2 d_ k_::
  .step 82 (au f91 82) [.func (.func 150) #[] #[],cK 13,cK 15] [(13,some (.fact (eA f.2))),(15,some (.fact (eA f'.2)))] (.bool t) []
   (dD (ht▸aTq h63) (.o (.o .nil)) (x:=.func 150) k_ k_ rfl)::more
theorem aGk{f:Int×List Int}(hi:i<fa.length)(q1:fa[i]?=some f)(q2:fb[i]?=some f')(h63:f.2.length<9223372036854775807)(aRQ:fa.length<9223372036854775807)(ht:f=f'):
  ah prog Bs 85 (aI (ag f91 2)) (yT i) (pE ra rb va vb fa fb) 8 ⟨.normal,yT (i+1),pE ra rb va vb fa fb,8⟩:=by
 have h1:decide (f.1≠f'.1)=false:=by rw[ht];simp
 have h2:decide (f.2=f'.2)=true:=by rw[ht];simp
 exact ua mixed 100 (gN:=16) (XQ hi q1 q2 h1 (sfT q1 q2 h63 h2 [.sum 55 i 1 (i+1) rfl o_])) k_ rfl k_ aTt k_
theorem aTu:ah prog Bs 85 (aI (ag f91 2)) (yT fa.length) (pE ra rb va vb fa fb) 8 ⟨.exit 2,[],pE ra rb va vb fa fb,8⟩:=
 aD [.step 52 (au f91 52) [cK 2] [(2,some (.fact (iX fa)))] (vI fa.length) [] (vN k_ (.self fa)),.lt 53 fa.length fa.length false s_]
def XR(ra rb:List RP)(va vb:List RV)(fa fb:f_):Bool:=decide (ra=rb)&&(decide (va=vb)&&decide (fa=fb))
noncomputable def Hb{na:Bool}(h1:decide (ra.length≠rb.length)=na)(more:bM prog Bs 85):bM prog Bs 85:=.rw 13 _ (.bool na) (uF h1)::more
noncomputable def JB{nb:Bool}(h2:decide (fa.length≠fb.length)=nb)(more:bM prog Bs 85):bM prog Bs 85:=
 .step 17 (au f91 17) [cK 2] [(2,some (.fact (iX fa)))] (vI fa.length) [] (vN k_ (.self fa))::.step 20 (au f91 20) [cK 5] [(5,some (.fact (iX fb)))] (vI fb.length) [] (vN k_ (.self fb))::.rw 21 _ (.bool nb) (uF h2)::more
noncomputable def MM(hV:cy prog 149 [.r va.length (cU va),.r vb.length (cU vb)] (.bool t))(more:bM prog Bs 85):bM prog Bs 85:=
 .step 28 (au f91 28) [.func (.func 149) #[] #[],sl 1 va.length,sl 4 vb.length] [(1,some (.view (cU va))),(4,some (.view (cU vb)))] (.bool t) []
  (dD hV (.w (x:=.view (cU va)) rfl (iT gm _) A2 (.w (x:=.view (cU vb)) rfl (iT gm _) A2 .nil)) (x:=.func 149) k_ k_ rfl)::more
theorem aTv(ha:∀ x∈ra,x.Sm)(hb:∀ x∈rb,x.Sm)(gG:∀ x∈va,x.Sm)(lJ:∀ x∈vb,x.Sm)(hn:ra.length<9223372036854775807)(iW:va.length<9223372036854775807)(rl:fa.length<9223372036854775807)(rh:∀ f∈fa,f.2.length<9223372036854775807):
  cy prog 91 [gK ra va fa,gK rb vb fb] (.bool (XR ra rb va vb fa fb)):=by
 have aC:([gK ra va fa,gK rb vb fb].all aP.ok)=true:=by simp only[eC,e7,Ry,Au]
 have hV:=aQo gG lJ iW;unfold XR;unfold gK at *;by_cases hl:ra.length=rb.length
 ·have n13:decide (ra.length≠rb.length)=false:=by simp[hl]
  by_cases hf:fa.length=fb.length
  ·have n21:decide (fa.length≠fb.length)=false:=by simp[hf]
   by_cases RA:va=vb
   ·rw[aJ RA]at hV;rw[aJ RA,kS];rcases Ea ra rb hl with hp|⟨e,x,y,q1,q2,q3,q4⟩
    ·rw[aJ hp,kS];have lo:∀ B:aa,ah prog B 85 (.block 0 (ag f91 0)) (aWW 0) (w7 ra rb va vb fa fb) 8 ⟨.normal,[(2,ptr 6),(3,ptr 7)],w7 ra rb va vb fa fb,8⟩:=λB=>
      cd (id:=0) (cx ra.length (λi=>aWW i) (λ_=>w7 ra rb va vb fa fb) (λi k _=>Iff.rfl) (λi hi=>by have hx:ra[i]?=some ra[i]:=aW hi;exact aXl hi o_ hx (by rw[<-hp];exact hx) (ha _ (df hi)) hn) aTs n_)
     rcases Ea fa fb hf with PE|⟨e,x,y,q1,q2,q3,q4⟩
     ·rw[aJ PE];have wH:∀ B:aa,ah prog B 85 (.block 2 (ag f91 2)) (yT 0) (pE ra rb va vb fa fb) 8 ⟨.normal,[],pE ra rb va vb fa fb,8⟩:=λB=>
       cd (id:=2) (cx fa.length (λi=>yT i) (λ_=>pE ra rb va vb fa fb) (λi k _=>Iff.rfl) (λi hi=>by have hx:fa[i]?=some fa[i]:=aW hi;exact aGk hi hx (by rw[<-PE];exact hx) (rh _ (df hi)) rl rfl) aTu n_)
      exact jC mixed func91 aC 200 (N:=85) k_ (λw=>Hb n13 (JB n21 (MM hV [.code 0 _ _ _ _ _ (lo _),.code 2 _ _ _ _ _ (wH _)]))) (λ_=>k_) k_
     ·have b9:fa≠fb:=λh=>by subst h;rw[q1]at q2;injection q2 with q2;exact q3 q2
      rw[bd b9];have al:=(dZ.1 q1).1;have rounds:∀{B:aa},∀ i,i<e->ah prog B 85 (aI (ag f91 2)) (yT i) (pE ra rb va vb fa fb) 8 ⟨.normal,yT (i+1),pE ra rb va vb fa fb,8⟩:=λi hi=>by have hx:fa[i]?=some fa[i]:=aW o_;have hy:fb[i]?=some fb[i]:=aW o_;exact aGk o_ hx hy (rh _ (df _)) rl (q4 i _ _ hi hx hy)
      by_cases he:x.1=y.1
      ·have h1:decide (x.1≠y.1)=false:=by rw[he];simp
       have h2:decide (x.2=y.2)=false:=bd λe=>q3 (Prod.ext he e);have wH:∀ B:aa,ah prog B 85 (.block 2 (ag f91 2)) (yT 0) (pE ra rb va vb fa fb) 8 ⟨.ret,[(4,.bool false)],pE ra rb va vb fa fb,16⟩:=λB=>
        cd (id:=2) (cx (r:=⟨.ret,[(4,.bool false)],pE ra rb va vb fa fb,16⟩) e (λi=>yT i) (λ_=>pE ra rb va vb fa fb) (λi k _=>Iff.rfl) rounds (aD (XQ al q1 q2 h1 (sfT q1 q2 (rh _ (cL q1)) h2 []))) n_)
       exact jC mixed func91 aC 200 (N:=85) k_ (λw=>Hb n13 (JB n21 (MM hV [.code 0 _ _ _ _ _ (lo _),.code 2 _ _ _ _ _ (wH _)]))) (λ_=>k_) k_
      ·have h1:decide (x.1≠y.1)=true:=aJ he;have wH:∀ B:aa,ah prog B 85 (.block 2 (ag f91 2)) (yT 0) (pE ra rb va vb fa fb) 8 ⟨.ret,[(4,.bool false)],pE ra rb va vb fa fb,12⟩:=λB=>
        cd (id:=2) (cx (r:=⟨.ret,[(4,.bool false)],pE ra rb va vb fa fb,12⟩) e (λi=>yT i) (λ_=>pE ra rb va vb fa fb) (λi k _=>Iff.rfl) rounds (aD (XQ al q1 q2 h1 [])) n_)
       exact jC mixed func91 aC 200 (N:=85) k_ (λw=>Hb n13 (JB n21 (MM hV [.code 0 _ _ _ _ _ (lo _),.code 2 _ _ _ _ _ (wH _)]))) (λ_=>k_) k_
    ·have b9:ra≠rb:=λh=>by subst h;rw[q1]at q2;injection q2 with q2;exact q3 q2
     rw[bd b9,zG];have al:=(dZ.1 q1).1;have lo:∀ B:aa,ah prog B 85 (.block 0 (ag f91 0)) (aWW 0) (w7 ra rb va vb fa fb) 8 ⟨.ret,[(4,.bool false)],w7 ra rb va vb fa fb,8⟩:=λB=>
      cd (id:=0) (cx e (λi=>aWW i) (λ_=>w7 ra rb va vb fa fb) (λi k _=>Iff.rfl) (λi hi=>by have hx:ra[i]?=some ra[i]:=aW o_;have hy:rb[i]?=some rb[i]:=aW o_;have:=q4 i _ _ hi hx hy;exact aXl o_ o_ hx (by rw[this];exact hy) (ha _ (df _)) hn) (aTr al o_ q1 q2 (ha _ (cL q1)) (hb _ (cL q2)) q3) n_)
     exact jC mixed func91 aC 200 (N:=85) k_ (λw=>Hb n13 (JB n21 (MM hV [.code 0 _ _ _ _ _ (lo _)]))) (λ_=>k_) k_
   ·rw[bd RA]at hV;rw[bd RA,zG,NY];exact jC mixed func91 aC 200 (N:=85) k_ (λw=>Hb n13 (JB n21 (MM hV []))) (λ_=>k_) k_
  ·have n21:decide (fa.length≠fb.length)=true:=by simp[hf]
   have b9:fa≠fb:=λh=>hf (by rw[h]);rw[bd b9,NY,NY];exact jC mixed func91 aC 200 (N:=85) k_ (λw=>Hb n13 (JB n21 [])) (λ_=>k_) k_
 ·have n13:decide (ra.length≠rb.length)=true:=by simp[hl]
  have b9:ra≠rb:=λh=>hl (by rw[h]);rw[bd b9,zG];exact jC mixed func91 aC 200 (N:=85) k_ (λw=>Hb n13 []) (λ_=>k_) k_
end
section
variable{ps:c_}{m M:Nat}{rs:List RP}{vs:List RV}{fs:f_}
def JC(ps:c_)(vs:List RV)(fs:f_):Bool:=
 !decide (fs.length<4)&&(!decide (vs.length<4)&&(wX ps&&(!vP (fC ps)&&(decide (vs=(fC ps).map cH)&&decide (fs=yS ps)))))
theorem MN(rs:List RP)(vs:List RV)(fs:f_):([gK rs vs fs].all aP.ok)=true:=by simp only[eC,e7,Ry,Au]
noncomputable def JD(k:Nat)(fs:f_):aY prog Bs 28:=.step 7 (au f37 7) [cK k] [(k,some (.fact (iX fs)))] (vI fs.length) [] (vN k_ (.self fs))
theorem aGl(hf:fs.length<4):cy prog 37 [gK rs vs fs] a_:=by have aC:=MN rs vs fs;unfold gK at *;exact jC mixed func37 aC 100 (N:=28) k_ (λw=>[JD 2 fs,.lt 8 fs.length 4 true (aJ hf)]) (λw=>k_) k_
theorem aGm(hf:¬fs.length<4)(hv:vs.length<4):cy prog 37 [gK rs vs fs] a_:=by have aC:=MN rs vs fs;unfold gK at *;exact jC mixed func37 aC 100 (N:=28) k_ (λw=>[JD 2 fs,.lt 8 fs.length 4 false (bd hf),.lt 13 vs.length 4 true (aJ hv)]) (λw=>k_) k_
theorem aTw(hs:∀ x∈rs,AP m x)(hm:m<=aE)(h63:rs.length<9223372036854775807)(hb:rs.all r7=false):cy prog 37 [gK rs vs fs] a_:=by
 by_cases hf:fs.length<4
 ·exact aGl hf
 by_cases hv:vs.length<4
 ·exact aGm hf hv
 have aC:=MN rs vs fs;have qg:=aTm hs hm h63 hb;unfold gK at *;exact jC mixed func37 aC 100 (N:=28) k_ (λw=>[JD 2 fs,.lt 8 fs.length 4 false (bd hf),.lt 13 vs.length 4 false (bd hv),.step 18 (au f37 18) [.func (.func 73) #[] #[],sl 0 rs.length] [(0,some (.view (dw rs)))] (.tuple #[wU,fW 1]) []
   (dD qg (.w (x:=.view (dw rs)) rfl (iT jS rs) XP .nil) (x:=.func 73) k_ k_ k_)]) (λw=>k_) k_
theorem aTx(h:sC ps m M)(eQ:wX ps=true->vP (fC ps)=false->∀ p∈ps,¬(ch p (fC ps) (fC ps).length).length<3->Jy p (fC ps))(aU:∀ x∈vs,x.Sm)(iW:vs.length<9223372036854775807)(rl:fs.length<9223372036854775807)(rh:∀ f∈fs,f.2.length<9223372036854775807):
  cy prog 37 [gK (ps.map c9) vs fs] (.bool (JC ps vs fs)):=by
 unfold JC;by_cases hf:fs.length<4
 ·rw[aJ hf];exact aGl hf
 by_cases hv:vs.length<4
 ·rw[aJ hv,bd hf];exact aGm hf hv
 rw[bd hf,bd hv];have aC:=MN (ps.map c9) vs fs;by_cases hc:wX ps=true
 ·rw[hc];by_cases hi:vP (fC ps)=true
  ·rw[hi];have qg:=aTo h hc hi;unfold gK at *;rw[dQ,show dw (ps.map c9)=bf ps from rfl]at *;exact jC mixed func37 aC 100 (N:=28) k_ (λw=>[JD 2 fs,.lt 8 fs.length 4 false (bd hf),.lt 13 vs.length 4 false (bd hv),.step 18 (au f37 18) [.func (.func 73) #[] #[],sl 0 ps.length] [(0,some (.view (bf ps)))] (.tuple #[wU,fW 12]) []
     (dD qg (.w (x:=.view (bf ps)) rfl (dx ps) jG .nil) (x:=.func 73) k_ k_ k_)]) (λw=>k_) k_
  ·have hi:vP (fC ps)=false:=by simpa using hi
   rw[hi];have qg:=aGj h hc hi (eQ hc hi);have smv:∀ x∈(fC ps).map cH,x.Sm:=λx hx=>by obtain⟨v,hv,rfl⟩:=db.1 hx;exact(h.sz.1 v hv).sm h.tV.2.2.2.2.2.2
   have smp:∀ x∈ps.map c9,x.Sm:=λx hx=>by obtain⟨p,hp,rfl⟩:=db.1 hx;exact(h.pl p hp).1.sm (by have:=h.tV.2.2.2.2.2.1;exact this)
   have Bd:=aTv (ra:=ps.map c9) (rb:=ps.map c9) (va:=vs) (vb:=(fC ps).map cH) (fa:=fs) (fb:=yS ps) smp smp aU smv (by rw[dQ];have:=h.len;omega) iW rl rh;unfold XR at Bd;rw[aJ rfl]at Bd;unfold aN at qg;unfold gK at *;rw[dQ,show dw (ps.map c9)=bf ps from rfl]at aC Bd ⊢;have hlen:(fC ps).length=((fC ps).map cH).length:=by rw[dQ]
   rw[hlen]at qg;generalize (fC ps).map cH=cV at *;rw[kS]at Bd;have e0:(!false&&(!false&&(true&&(!false&&(decide (vs=cV)&&decide (fs=yS ps))))))=(decide (vs=cV)&&decide (fs=yS ps)):=by simp
   rw[e0];generalize (decide (vs=cV)&&decide (fs=yS ps))=t at *;refine jC mixed func37 aC 100 (N:=28) k_ (λw=>[JD 2 fs,.lt 8 fs.length 4 false (bd hf),.lt 13 vs.length 4 false (bd hv),.step 18 (au f37 18) [.func (.func 73) #[] #[],sl 0 ps.length] [(4,none),(5,none),(6,none),(0,some (.view (bf ps)))] (.tuple #[.agg #[sl 4 ps.length,sl 5 cV.length,cK 6],fW 0]) [(6,.fact ((jd (yS ps)).mU w.heap.size)),(5,.row (cU cV) 38 30),(4,.row (bf ps) 50 40)]
     (LZ (B:=aa.at w) (S:=w.heap.size) qg (.w (x:=.view (bf ps)) rfl (dx ps) jG .nil) (x:=.func 73) k_ k_ rfl (dx ps) (iT gm _) rfl (λw' hb=>Below.size hb) 4),
    .step 26 (au f37 26) [.func (.func 91) #[] #[],.agg #[sl 0 ps.length,sl 1 vs.length,cK 2],.agg #[sl 4 ps.length,sl 5 cV.length,cK 6]] [(0,some (.view (bf ps))),(1,some (.view (cU vs))),(2,some (.fact (iX fs))),(4,some (.row (bf ps) 50 40)),(5,some (.row (cU cV) 38 30)),(6,some (.fact ((jd (yS ps)).mU w.heap.size)))] (.bool t) []
     (dD Bd (.s (x1:=.view (bf ps)) (x2:=.view (cU vs)) rfl (dx ps) jG rfl (iT gm _) A2 (.si (aFl _ _) (x1:=.row (bf ps) 50 40) (x2:=.row (cU cV) 38 30) rfl (dx ps) jG rfl (iT gm _) A2 .nil)) (x:=.func 91) k_ k_ rfl)]) (λw=>?_) k_
   kernel_rfl
 ·have hc:wX ps=false:=by simpa using hc
  rw[hc];have qg:=aTn h hc;unfold gK at *;rw[dQ,show dw (ps.map c9)=bf ps from rfl]at *;exact jC mixed func37 aC 100 (N:=28) k_ (λw=>[JD 2 fs,.lt 8 fs.length 4 false (bd hf),.lt 13 vs.length 4 false (bd hv),.step 18 (au f37 18) [.func (.func 73) #[] #[],sl 0 ps.length] [(0,some (.view (bf ps)))] (.tuple #[wU,fW 13]) []
    (dD qg (.w (x:=.view (bf ps)) rfl (dx ps) jG .nil) (x:=.func 73) k_ k_ k_)]) (λw=>k_) k_
end
section
variable{ps:c_}{v:V3 K}
end
section
variable{Bs:aa}{rs:List RP}{vs:List RV}{fs:f_}
def Hc(i:Nat):aT:=[(3,vI i),(1,ptr 3)]
def uO(rs:List RP)(vs:List RV)(fs:f_):aM:=[(2,.fact (iX fs)),(3,ML rs vs fs 0)]
theorem aTy:∀ x∈uO rs vs fs,fE 4 x.2:=λx hx=>by
 simp only[uO,cD,jE,jF]at hx;rcases hx with rfl|rfl
 ·exact λv hv=>(by cases hv)
 ·intro v hv;have hv:v∈[sl 0 rs.length,sl 1 vs.length,cK 2]:=hv;simp at hv;rcases hv with rfl|rfl|rfl<;>rfl
noncomputable def XS(fs:f_)(key:Nat)(ho:LX prog (au f7 key)=true):aY prog Bs 33:=.step key (au f7 key) [cK 2] [(2,some (.fact (iX fs)))] (vI fs.length) [] (vN ho (.self fs))
noncomputable def fwS{f:Int×List Int}(hi:i<fs.length)(h1:fs[i]?=some f)(ht:decide (f.2.length>12)=t)(more:bM prog Bs 33):bM prog Bs 33:=
 XS fs 7 k_::.lt 8 i fs.length true (aJ hi)::.step 14 (au f7 14) [cK 2,vI i] [(4,none),(4+1,none),(2,some (.fact (iX fs)))] (ptr 4) [(4,vw f 4),(4+1,.fact (eA f.2))] (GX k_ (.self fs) h1 d_)::
  .step 17 (au f7 17) [cK 5] [(5,some (.fact (eA f.2)))] (vI f.2.length) [] (vO k_)::.gt 18 f.2.length 12 t ht::more
theorem aGn{f:Int×List Int}(hi:i<fs.length)(h1:fs[i]?=some f)(h63:fs.length<9223372036854775807)(ht:f.2.length<=12):
  ah prog Bs 33 (aI (ag f7 0)) (Hc i) (uO rs vs fs) 4 ⟨.normal,Hc (i+1),uO rs vs fs,4⟩:=
 ua mixed 100 (gN:=6) (fwS (f:=f) hi h1 (bd o_) [.sum 10 i 1 (i+1) rfl o_]) k_ rfl k_ aTy k_
theorem aTz{f:Int×List Int}(hi:i<fs.length)(h1:fs[i]?=some f)(ht:¬f.2.length<=12):
  ah prog Bs 33 (aI (ag f7 0)) (Hc i) (uO rs vs fs) 4 ⟨.ret,[(2,.bool false)],uO rs vs fs,6⟩:=
 aD (fwS (f:=f) hi h1 (aJ o_) [])
def MO(rs:List RP)(vs:List RV)(fs:f_):Bool:=
 fs.all (λf=>decide (f.2.length<=12))&&(MC rs 9&&((vs.all (λx=>qZ x 12)&&decide (vs.length<=20))&&decide (fs.length<=12)))
noncomputable def XT{t1:Bool}(hP:cy prog 33 [.r rs.length (dw rs),.p (vI 9)] (.bool t1))(more:bM prog Bs 33):bM prog Bs 33:=
 .step 21 (au f7 21) [.func (.func 33) #[] #[],sl 0 rs.length,vI 9] [(0,some (.view (dw rs)))] (.bool t1) [] (dD hP (.w (x:=.view (dw rs)) rfl (iT jS rs) XP (.p rfl .nil)) (x:=.func 33) k_ k_ rfl)::more
noncomputable def fwV{t2:Bool}(hV:cy prog 34 [.r vs.length (cU vs),.p (vI 20),.p (vI 12)] (.bool t2))(more:bM prog Bs 33):bM prog Bs 33:=
 .step 25 (au f7 25) [.func (.func 34) #[] #[],sl 1 vs.length,vI 20,vI 12] [(1,some (.view (cU vs)))] (.bool t2) [] (dD hV (.w (x:=.view (cU vs)) rfl (iT gm vs) A2 (.p rfl (.p rfl .nil))) (x:=.func 34) k_ k_ rfl)::more
theorem aTA(JE:rs.length<9223372036854775807)(iW:vs.length<9223372036854775807)(rl:fs.length<9223372036854775807):cy prog 7 [gK rs vs fs] (.bool (MO rs vs fs)):=by
 have aC:=MN rs vs fs;unfold MO;unfold gK at *;have hP:=aR0 (ps:=rs) 9 JE;have hV:=aRV (vs:=vs) (k:=12) 20 iW;rcases CK (λf:Int×List Int=>decide (f.2.length<=12)) fs with h|⟨e,x,h1,h2,h3,h4⟩
 ·rw[h,kS];have lo:∀ B:aa,ah prog B 33 (.block 0 (ag f7 0)) (Hc 0) (uO rs vs fs) 4 ⟨.normal,[(1,ptr 3)],uO rs vs fs,4⟩:=λB=>
   cd (id:=0) (cx (r:=⟨.exit 0,[(1,ptr 3)],uO rs vs fs,4⟩) fs.length (λi=>Hc i) (λ_=>uO rs vs fs) (λi k _=>Iff.rfl) (λi hi=>by have hx:fs[i]?=some fs[i]:=aW hi;exact aGn hi hx rl (kp (EE h hx))) (aD [XS fs 7 k_,.lt 8 fs.length fs.length false s_]) n_)
  generalize MC rs 9=t1 at *;generalize (vs.all (λx=>qZ x 12)&&decide (vs.length<=20))=t2 at *;cases t1 with
  |false=>exact dj func7 aC 33 (λw=>.code 0 _ _ _ _ _ (lo _)::XT hP [])
  |true=>
  cases t2 with
  |false=>exact dj func7 aC 33 (λw=>.code 0 _ _ _ _ _ (lo _)::XT hP (fwV hV []))
  |true=>
   rw[kS,kS];exact dj func7 aC 33 (λw=>.code 0 _ _ _ _ _ (lo _)::XT hP (fwV hV [XS fs 30 k_,.rw 31 _ (.bool (decide (fs.length<=12))) (GZ (a:=fs.length) (b:=12) rfl)]))
 ·rw[h4,zG];have al:=(dZ.1 h1).1;have lo:∀ B:aa,ah prog B 33 (.block 0 (ag f7 0)) (Hc 0) (uO rs vs fs) 4 ⟨.ret,[(2,.bool false)],uO rs vs fs,6⟩:=λB=>
   cd (id:=0) (cx (r:=⟨.ret,[(2,.bool false)],uO rs vs fs,6⟩) e (λi=>Hc i) (λ_=>uO rs vs fs) (λi k _=>Iff.rfl) (λi hi=>by have hx:fs[i]?=some fs[i]:=aW o_;exact aGn o_ hx rl (kp (h3 i _ hi hx))) (aTz al h1 (DJ h2)) n_)
  exact dj func7 aC 33 (λw=>[.code 0 _ _ _ _ _ (lo _)])
end
theorem aGo(l:c_)(p:HS K):bf l++(c9 p).cs=bf (l++[p]):=by unfold bf;rw[sF];show dB RP.cs _++_=dB RP.cs _;rw[LF];simp[dB]
theorem aTB(p:HS K):(c9 p).cs=bf [p]:=by have:=aGo [] p;rwa[show bf ([]:c_)=[]from rfl,ju,ju]at this
section
noncomputable def JF(k:Nat)(p:HS K):aY prog Bs 43:=
 .bs f30 37 k 1 50 40 [0] (RP.v ⟨rf,tJ⟩) [dJ p] (c9 p).cs.toArray (.row (c9 p).cs 50 40) rfl (λv hv=>by simp at hv;subst hv;rfl) (λv hv=>jS.flat _ v hv) k_ rfl d_ d_ k_
noncomputable def MP(k n:Nat)(l l':c_)(p:HS K)(hl:l.length=n)(hn:n<=6)(cA:l'=l++[p]):aY prog Bs 43:=
 .pP f30 38 (k+2) (k-1) n 1 (n+1) 50 40 480 (bf l) (k+1) (.row (c9 p).cs 50 40) (bf l') rfl rfl rfl (by rw[Ez,hl]) (by subst cA;exact aGo l p) (jS.one _) d_ (by simp[maxLen];omega) o_ k_
variable{n1 n2 n3 n4 n5 n6:V3 K}{q:K}
structure aTC(n1 n2 n3 n4 n5 n6:V3 K)(q:K):Prop where
 c1:aG prog 17 [.int .i64 1,.int .i64 0,.int .i64 0] (bE n1)
 c2:aG prog 17 [.int .i64 (-1),.int .i64 0,.int .i64 0] (bE n2)
 c3:aG prog 17 [.int .i64 0,.int .i64 1,.int .i64 0] (bE n3)
 c4:aG prog 17 [.int .i64 0,.int .i64 (-1),.int .i64 0] (bE n4)
 c5:aG prog 17 [.int .i64 0,.int .i64 0,.int .i64 1] (bE n5)
 c6:aG prog 17 [.int .i64 0,.int .i64 0,.int .i64 (-1)] (bE n6)
 d:aG prog 31 [.int .i64 1] (bX q)
def CQ(n1 n2 n3 n4 n5 n6:V3 K)(q:K):c_:=[⟨n1,q⟩,⟨n2,q⟩,⟨n3,q⟩,⟨n4,q⟩,⟨n5,q⟩,⟨n6,q⟩]
theorem aTD{n:Nat}{F:Fact}(h:aTC n1 n2 n3 n4 n5 n6 q)(hx:xs.all flat=true)(hl:xs.length=n*30)(xc:F.rc=false)(qg:Cz prog 73 [fV (CQ n1 n2 n3 n4 n5 n6 q)] 50 40 6 (bf (CQ n1 n2 n3 n4 n5 n6 q)) 38 30 n xs F [fW 0]):
  Cz prog 30 [.p (vI 1)] 50 40 6 (bf (CQ n1 n2 n3 n4 n5 n6 q)) 38 30 n xs F [fW 0]:=by
 refine V9 (k1:=19) (k2:=20) (k3:=21) mixed func30 rfl 300 (N:=43) k_ (λw=>[
  h.c1.at 33,h.d.at 35,JF 2 ⟨n1,q⟩,.ap0 f30 38 3 1 50 40 480 2 (.row (c9 ⟨n1,q⟩).cs 50 40) (bf [⟨n1,q⟩]) rfl rfl (aTB _) d_ d_ d_ k_,
  h.c2.at 33,h.d.at 35,JF 5 ⟨n2,q⟩,MP 4 1 [⟨n1,q⟩] [⟨n1,q⟩,⟨n2,q⟩] ⟨n2,q⟩ rfl d_ rfl,
  h.c3.at 33,h.d.at 35,JF 8 ⟨n3,q⟩,MP 7 2 [⟨n1,q⟩,⟨n2,q⟩] [⟨n1,q⟩,⟨n2,q⟩,⟨n3,q⟩] ⟨n3,q⟩ rfl d_ rfl,
  h.c4.at 33,h.d.at 35,JF 11 ⟨n4,q⟩,MP 10 3 [⟨n1,q⟩,⟨n2,q⟩,⟨n3,q⟩] [⟨n1,q⟩,⟨n2,q⟩,⟨n3,q⟩,⟨n4,q⟩] ⟨n4,q⟩ rfl d_ rfl,
  h.c5.at 33,h.d.at 35,JF 14 ⟨n5,q⟩,MP 13 4 [⟨n1,q⟩,⟨n2,q⟩,⟨n3,q⟩,⟨n4,q⟩] [⟨n1,q⟩,⟨n2,q⟩,⟨n3,q⟩,⟨n4,q⟩,⟨n5,q⟩] ⟨n5,q⟩ rfl d_ rfl,
  h.c6.at 33,h.d.at 35,JF 17 ⟨n6,q⟩,MP 16 5 [⟨n1,q⟩,⟨n2,q⟩,⟨n3,q⟩,⟨n4,q⟩,⟨n5,q⟩] (CQ n1 n2 n3 n4 n5 n6 q) ⟨n6,q⟩ rfl d_ rfl,
  .step 40 (au f30 40) [.func (.func 73) #[] #[],sl 18 6] [(19,none),(20,none),(21,none),(18,some (.row (bf (CQ n1 n2 n3 n4 n5 n6 q)) 50 40))] (.tuple #[.agg #[sl 19 6,sl 20 n,cK 21],fW 0]) [(21,.fact (F.mU w.heap.size)),(20,.row xs 38 30),(19,.row (bf (CQ n1 n2 n3 n4 n5 n6 q)) 50 40)]
   (LZ (B:=aa.at w) (S:=w.heap.size) qg (.w (x:=.row (bf (CQ n1 n2 n3 n4 n5 n6 q)) 50 40) rfl (dx _) jG .nil) (x:=.func 73) k_ k_ xc (dx _) hx rfl (λw' hb=>Below.size hb) 19)]) (λw=>?_) d_ (dx _) (Ez _) hx hl k_
 kernel_rfl
end
end
section
open CR OF
open V3 (dot af bA smul)
section
variable{ps:c_}{vs:List RV}{fs:f_}{p:HS K}
theorem aGp(hc:Cl ps)(hp:gB ps)(hf:nG ps):jI ps (aZ ps):=⟨by unfold aZ;exact VE _,λ_=>aF7 hc hp hf⟩
theorem aTE(hp:gB ps):MK ps=true↔Cl ps/\nG ps:=by
 unfold MK;rw[de,aFP,aSL];constructor
 ·rintro⟨h1,_,h3⟩
  exact⟨h1,_,h3⟩
 ·rintro⟨h1,h2⟩
  exact⟨h1,aCu h1 hp (λv=>aF7 h1 hp h2) h2⟩
theorem aGq(hc:Cl ps)(hp:gB ps)(hf:nG ps):∀ p∈ps,¬(ch p (aZ ps) (aZ ps).length).length<3->Jy p (aZ ps):=λp jD hl=>by obtain⟨h1,h2,h3⟩:=(aGp hc hp hf).loop (hp p jD) hl;exact⟨h1,h2,h3⟩
theorem aGr(hp:gB ps)(h:vP (fC ps)=false):nG ps:=
 aMb hp (λv hv=>(Rr.1 hv).1) (aF8.1 h)
theorem aTF(hc:Cl ps)(hp:gB ps)(hf:nG ps):vP (fC ps)=false:=
 aF8.2 (aMc hc hp (λv=>Rr) hf)
theorem aGs(hc:Cl ps)(hp:gB ps)(hf:nG ps):yS ps=ee ps:=by unfold yS ee;rw[EI hc hp hf]
theorem aTG(hp:gB ps)(h:JC ps vs fs=true):Cl ps/\nG ps/\vs=(aZ ps).map cH/\fs=ee ps:=by unfold JC at h;simp only[de,zn,u7]at h;obtain⟨_,_,h3,h4,h5,h6⟩:=h;have hc:=XH.1 h3;have hf:=aGr hp h4;exact⟨hc,hf,by rw[EI hc hp hf];exact h5,by rw[<-aGs hc hp hf];exact h6⟩
end
def qh:c_:=CQ ⟨kI 1,kI 0,kI 0⟩ ⟨kI (-1),kI 0,kI 0⟩ ⟨kI 0,kI 1,kI 0⟩ ⟨kI 0,kI (-1),kI 0⟩ ⟨kI 0,kI 0,kI 1⟩ ⟨kI 0,kI 0,kI (-1)⟩ (kI 1)
def RB:HS K:=⟨⟨kI 1,kI 1,kI 1⟩,kI 2⟩
def EK(a b c:Int):V3 K:=⟨kI a,kI b,kI c⟩
def aGt:e_:=[EK (-1) (-1) (-1),EK (-1) (-1) 1,EK (-1) 1 (-1),EK (-1) 1 1,EK 1 (-1) (-1),EK 1 (-1) 1,EK 1 1 (-1),EK 1 1 1]
theorem aTH:uB qh=true:=by kernel_rfl
theorem aTI:fC qh=aGt:=by kernel_rfl
theorem XU(h:p∈qh++[RB]):∃ a b c d:Int,p=⟨⟨kI a,kI b,kI c⟩,kI d⟩/\(a.natAbs<=1/\b.natAbs<=1/\c.natAbs<=1)/\(0<d/\d<=2)/\(a≠0\/b≠0\/c≠0):=by
 simp only[qh,CQ,eX,cD,jE,jF]at h;rcases h with (rfl|rfl|rfl|rfl|rfl|rfl)|rfl
 ·exact⟨1,0,0,1,rfl,by decide,by decide,by decide⟩
 ·exact⟨-1,0,0,1,rfl,by decide,by decide,by decide⟩
 ·exact⟨0,1,0,1,rfl,by decide,by decide,by decide⟩
 ·exact⟨0,-1,0,1,rfl,by decide,by decide,by decide⟩
 ·exact⟨0,0,1,1,rfl,by decide,by decide,by decide⟩
 ·exact⟨0,0,-1,1,rfl,by decide,by decide,by decide⟩
 ·exact⟨1,1,1,2,rfl,by decide,by decide,by decide⟩
theorem aGu(h:p∈qh++[RB]):bP 2 p:=by obtain⟨a,b,c,d,rfl,⟨h1,h2,h3⟩,⟨h4,h5⟩,_⟩:=XU h;exact⟨⟨pr o_ d_,pr o_ d_,pr o_ d_⟩,pr o_ d_⟩
theorem XV{a b:Int}(h:kI a=kI b):a=b:=by
 have h1:((a:Rat))=(b:Rat):=cS (λx:K=>x.re.re) h
 exact_mod_cast h1
theorem XW(h:p∈qh++[RB]):p.n≠0:=by
 obtain⟨a,b,c,d,rfl,_,_,h6⟩:=XU h;intro e;have e1:kI a=kI 0:=cS V3.x e;have e2:kI b=kI 0:=cS V3.y e;have e3:kI c=kI 0:=cS V3.z e;rcases h6 with h|h|h
 ·exact h (XV e1)
 ·exact h (XV e2)
 ·exact h (XV e3)
theorem aTJ(h:p∈qh++[RB]):dot p.n 0<p.d:=by
 obtain⟨a,b,c,d,rfl,_,⟨h4,h5⟩,_⟩:=XU h;rw[V3.vy];have hd:d=1\/d=2:=by omega
 rcases hd with rfl|rfl
 ·show OF.aH (kI 1-0)=1;kernel_rfl
 ·show OF.aH (kI 2-0)=1;kernel_rfl
theorem aGv:gB qh:=λ_ h=>XW (tS _ h)
theorem XX:nG qh:=⟨0,λ_ h=>aTJ (tS _ h)⟩
theorem XY:Cl qh:=aFP.1 aTH
theorem aTK:sC qh 2 1000:=⟨by decide,λp h=>⟨aGu (tS _ h),XW (tS _ h)⟩,by decide,by decide⟩
theorem aTL{M:Nat}(h:sC ps m M)(hc:Cl ps)(hp:gB ps)(hf:nG ps):
  Cz prog 73 [fV ps] 50 40 ps.length (bf ps) 38 30 (aZ ps).length (aN (aZ ps)) (jd (ee ps)) [fW 0]:=by
 have eQ:=aGq hc hp hf;rw[EI hc hp hf]at eQ;have:=aGj h (XH.2 hc) (aTF hc hp hf) eQ;rw[aGs hc hp hf]at this;rw[EI hc hp hf];exact this
theorem aTM:Cz prog 30 [.p (vI 1)] 50 40 6 (bf qh) 38 30 (aZ qh).length (aN (aZ qh)) (jd (ee qh)) [fW 0]:=by
 have qg:=aTL aTK XY aGv XX
 exact aTD ⟨aWM d_ d_ d_,aWM d_ d_ d_,aWM d_ d_ d_,aWM d_ d_ d_,aWM d_ d_ d_,aWM d_ d_ d_,aXv d_⟩
  (dC _) (pY _) rfl qg
theorem aTN:aZ qh=aGt:=(EI XY aGv XX).trans aTI
theorem MQ{q:RI}(h:decide (tG q<=k)=true)(hk:k<=maxLen):q.Sm:=by have h:=kp h;unfold RI.Sm;unfold tG at h;exact dh h hk
theorem XZ{r:RN}(h:tH r k=true)(hk:k<=maxLen):r.Sm:=by unfold tH at h;simp only[de]at h;exact⟨MQ h.1 hk,MQ h.2.1 hk,MQ h.2.2.1 hk,MQ h.2.2.2.1 hk,MQ h.2.2.2.2 hk⟩
theorem aTO{r:RV}(h:qZ r k=true)(hk:k<=maxLen):r.Sm:=by unfold qZ at h;simp only[de]at h;exact⟨XZ h.1 hk,XZ h.2.1 hk,XZ h.2.2 hk⟩
section
variable{ps:c_}{p:HS K}
def sA(n nv:Nat):Value:=.agg #[sl 0 n,sl 1 nv,cK 2]
end
theorem aTP{rs:List RP}(h:rs.all r7=true):rs=(rs.map pZ).map c9/\∀ q∈rs.map pZ,q.n≠0:=by
 rw[bB]at h;constructor
 ·rw[Tt]
  conv=>lhs;rw[<-List.map_id rs]
  exact xj λr hr=>(aEp (h r hr)).1
 ·intro q hq;obtain⟨r,hr,rfl⟩:=db.1 hq;exact(aEp (h r hr)).2
theorem aTQ(ps:c_):∀ f∈ee ps,0<f.2.length:=by
 intro f hf;unfold ee at hf;obtain⟨g,hg,rfl⟩:=db.1 hf;unfold cN at hg;rw[wI]at hg;obtain⟨i,_,hg⟩:=hg;unfold gW at hg;split at hg
 ·unfold qe at hg;split at hg
  ·cases hg
  ·split at hg
   ·cases hg
   ·split at hg
    ·rename_i al;simp at hg;subst hg;show 0<(List.map _ _).length;rw[dQ];exact mJ d_ al
    ·cases hg
 ·cases hg
theorem cy.aTR{x1 x2:ak}(h:cy P f (.s n1 x1 n2 x2 (jd fs)::l) res)(hl:∀ f∈fs,0<f.2.length):cy P f (.s n1 x1 n2 x2 (iX fs)::l) res:=
 cy.Xo h λ_ _ hG=>aRL hG hl
section
variable{rs:List RP}{vs:List RV}{fs:f_}
def RC(rs:List RP)(vs:List RV)(fs:f_):q_:=[(0,some (.view (dw rs))),(1,some (.view (cU vs))),(2,some (.fact (iX fs)))]
theorem X0(h:gA Bs l xs []):gA Bs (.s rs.length (dw rs) vs.length (cU vs) (iX fs)::l) (sA rs.length vs.length::xs) (RC rs vs fs):=
 .s (x1:=.view (dw rs)) (x2:=.view (cU vs)) rfl (iT jS rs) XP rfl (iT gm _) A2 h
end
end
section
variable{H:Type}{enc:TypeId×Value->H}{P:j_}{w:h_}{base:Nat}{spare:Nat->Bool}{held:Bool}{fuel:Nat}{t:TypeId}{cs:ak}{x:DataW H×List MemPlace}
def JG(P:j_)(t:TypeId)(i:Nat):Option (TypeId×Nat):=match P.underlying t with
 |some (.struct fs)=>(fs[i]?).map λf=>(f.type,f.offset)
 |_=>none
def aGw(P:j_)(t:TypeId):Option (Nat×TypeId):=match P.underlying t with
 |some (.array n e)=>some (n,e)
 |_=>none
theorem MR{u o:Nat}(hf:JG P t i=some (u,o))(h:DataW.trod enc P w base spare held fuel t cs=some x):cs.length=P.cellsOf t:=by
 unfold JG at hf;split at hf
 ·rename_i fs ht;obtain⟨_,_,_,_,hl,_⟩:=aGx ht h;exact hl
 ·cases hf
theorem yU{u o:Nat}(hf:JG P t i=some (u,o))(h:DataW.trod enc P w base spare held fuel t cs=some x):∃ n y,DataW.trod enc P w base spare held n u ((cs.drop o).take (P.cellsOf u))=some y:=by
 unfold JG at hf;split at hf
 ·rename_i fs ht;obtain⟨xs,n,_,_,_,hlen,bh⟩:=aGx ht h;rw[Option.map_eq_some_iff]at hf;obtain⟨f,kX,he⟩:=hf;injection he with e1 e2;subst e1;subst e2;have:=bh i f kX;have hi:i<xs.length:=by rw[hlen];exact(zt.1 kX).1
  rw[aW hi]at this;exact⟨n,_,this⟩
 ·cases hf
theorem aGy{u k:Nat}{d:DataW H}:∀{ts:List TypeId} {ds:List (DataW H)} {i:Nat},ts[i]?=some u->ds[i]?=some d->k∈d.weights P u->k∈DataW.weightsEach P ts ds
 |[],_,i,h,_,_=>by simp at h
 |_::_,[],i,_,h,_=>by simp at h
 |t::ts,e::ds,0,h1,h2,h3=>by simp at h1 h2;subst h1;subst h2;unfold DataW.weightsEach;exact tS _ h3
 |t::ts,e::ds,i+1,h1,h2,h3=>by unfold DataW.weightsEach;exact A1 _ (aGy (by simpa using h1) (by simpa using h2) h3)
theorem X1{u o:Nat}(hf:JG P t i=some (u,o))(h:DataW.trod enc P w base spare held fuel t cs=some x):∃ n y,DataW.trod enc P w base spare held n u ((cs.drop o).take (P.cellsOf u))=some y/\∀ k∈y.1.weights P u,k∈x.1.weights P t:=by
 unfold JG at hf;split at hf
 ·rename_i fs ht;obtain⟨xs,n,_,hx,_,hlen,bh⟩:=aGx ht h;rw[Option.map_eq_some_iff]at hf;obtain⟨f,kX,he⟩:=hf;injection he with e1 e2;subst e1;subst e2;have:=bh i f kX;have hi:i<xs.length:=by rw[hlen];exact(zt.1 kX).1
  have hxi:=aW hi;rw[hxi]at this;refine⟨n,_,this,λk hk=>?_⟩;rw[hx];show k∈(DataW.agg (xs.map (·.1))).weights P t;unfold DataW.weights;rw[ht];refine aGy (i:=i) (u:=f.type) (d:=xs[i].1) ?_ ?_ hk
  ·rw[sH,show fs.toList[i]?=some f by rw[Array.getElem?_toList];exact kX];rfl
  ·rw[sH,hxi];rfl
 ·cases hf
theorem aTS{e:TypeId}{a:Addr}(ht:P.underlying t=some (.slice e))(hb:0<P.bytesOf e)(h:DataW.trod enc P w base spare held fuel t [.slice (some a) len cap]=some x)(hw:∀ k∈x.1.weights P t,k<=reachBytes):len<=reachBytes:=by
 rcases DataW.trod_slice ht h with ⟨h1,_⟩|⟨a',mf,aQ,elems,rest,n,_,h1,hx,_,_,_,hlen,_⟩
 ·cases h1
 ·injection h1 with h1;injection h1 with _ e2 _;subst e2;have:=hw ((elems.length+rest.length)*P.bytesOf e) (by rw[hx];show _∈(DataW.slice (elems.map (·.1)) (rest.map (·.1))).weights P t;unfold DataW.weights;rw[ht];simp)
  have h2:elems.length+rest.length<=(elems.length+rest.length)*P.bytesOf e:=Fw _ hb;omega
theorem aTT{n:Nat}(he:aGw P t=some (n,e))(h:DataW.trod enc P w base spare held fuel t cs=some x):cs.length=P.cellsOf t/\∀ i,i<n->∃ m y,DataW.trod enc P w base spare held m e ((cs.drop (i*P.cellsOf e)).take (P.cellsOf e))=some y:=by
 unfold aGw at he;split at he
 ·rename_i n' e' ht;injection he with he;injection he with e1 e2;subst e1;subst e2;obtain⟨xs,m,_,_,hl,hlen,bh⟩:=DataW.trod_array ht h;refine⟨hl,λi hi=>?_⟩;have:=bh i hi;rw[aW o_]at this;exact⟨m,_,this⟩
 ·cases he
theorem aGz{α:Type}{p:Nat->α->Prop}:∀ n,(∀ i,i<n->∃ r,p i r)->∃ rs:List α,rs.length=n/\∀ i r,rs[i]?=some r->p i r
 |0,_=>⟨[],rfl,λi r h=>by simp at h⟩
 |n+1,h=>by
  obtain⟨rs,h1,h2⟩:=aGz n λi hi=>h i o_;obtain⟨r,hr⟩:=h n o_;refine⟨rs++[r],by rw[lF,h1];rfl,λi r' hi=>?_⟩;rcases e9 i rs.length with al|ga
  ·rw[J3 al]at hi;exact h2 i r' hi
  ·rw[E2 ga]at hi;have hi0:i-rs.length=0:=by have:=(dZ.1 hi).1;simp at this;omega
   rw[hi0]at hi;simp at hi;subst hi;have:i=n:=by omega
   subst this;exact hr
theorem aGA{f:α->ak}{s:Nat}(hE:∀ x,(f x).length=s)(qL:0<s){e:TypeId}(ht:P.underlying t=some (.slice e))(hs:P.cellsOf e=s)(X2:∀ n cs y,DataW.trod enc P w 0 (λ_=>true) true n e cs=some y->∃ r,cs=f r)
  {v:i_} (h:DataW.trod enc P w 0 (λ_=>true) true fuel t [v]=some x) :
  v=.slice none 0 0\/∃ a len cap,∃ rs:List α,v=.slice (some a) len cap/\len<=cap/\cap<=maxLen/\rs.length=len/\(∀ i r j u,rs[i]?=some r->(f r)[j]?=some u->w.cell? ((a.add (i*s)).add j)=some u)/\(0<cap->∃ u,w.cell? (a.add 0)=some u):=by
 rcases DataW.trod_slice ht h with ⟨h1,_⟩|⟨a,len,cap,elems,rest,n,_,h1,_,hb,hl,hc,hlen,tg,vG,_⟩
 ·injection h1 with h1;exact .inl h1
 ·injection h1 with h1;subst h1;refine .inr ⟨a,len,cap,?_⟩;have key:∀ i,i<len->∃ r:α,∀ j u,(f r)[j]?=some u->w.cell? ((a.add (i*s)).add j)=some u:=by intro i hi;have:=tg i hi;rw[aW o_,aGB]at this;obtain⟨cr,h2,h3⟩:=this;obtain⟨r,rfl⟩:=X2 _ _ _ h3;refine⟨r,λj u hj=>?_⟩;rw[hs]at h2;obtain⟨_,jr,bh⟩:=World.cells?_some h2;have Js:=(dZ.1 hj).1;rw[bh j o_];exact hj
  obtain⟨rs,q1,q2⟩:=aGz len key;refine⟨rs,rfl,hl,hc,q1,λi r j u hi hj=>q2 i r hi j u hj,λzM=>?_⟩;have any:∃ cr,w.cells? 0 (a.add (0*s)) s=some cr:=by
   rcases nU len with h0|h0
   ·obtain⟨EB,hr⟩:=vG rfl;have:=hr 0 o_;rw[aW o_,aGB]at this;obtain⟨cr,h2,_⟩:=this;rw[h0,hs]at h2;exact⟨cr,h2⟩
   ·have:=tg 0 h0;rw[aW o_,aGB]at this;obtain⟨cr,h2,_⟩:=this;rw[hs]at h2;exact⟨cr,h2⟩
  obtain⟨cr,h2⟩:=any;obtain⟨_,jr,bh⟩:=World.cells?_some h2;have:=bh 0 qL;rw[aW (by rw[jr];exact qL),kQ]at this;exact⟨_,this⟩
theorem aGC{α:Type}{f:α->ak}{s:Nat}(hE:∀ x,(f x).length=s):∀{l:List α} {k:Nat} {u:i_},(dB f l)[k]?=some u->∃ i r j,l[i]?=some r/\(f r)[j]?=some u/\k=i*s+j
 |[],k,u,h=>by simp[dB]at h
 |x::l,k,u,h=>by
  rw[show dB f (x::l)=f x++dB f l from rfl]at h;rcases e9 k (f x).length with al|ga
  ·rw[J3 al]at h;exact⟨0,x,k,rfl,h,by rw[kQ,kB]⟩
  ·rw[E2 ga]at h;obtain⟨i,r,j,h1,h2,h3⟩:=aGC hE h;refine⟨i+1,r,j,by simpa using h1,h2,?_⟩;rw[hE]at h3 ga;rw[rI];omega
theorem aTU(b o i j:Nat):((⟨b,o,none⟩:Addr).add i).add j=⟨b,o+(i+j),none⟩:=by unfold Addr.add;by_cases hi:i=0<;>by_cases hj:j=0<;>simp[hi,hj,uW]
def isAgg(P:j_)(T:TypeId):Bool:=match P.underlying T with|some (.struct _)=>true|some (.array _ _)=>true|_=>false
theorem aTV{T:TypeId}{v:i_}{r:Reach}(hs:isAgg P T=true)(hv:Value.okWide P w r base T v):∃ cs,v=.agg cs/\cs.size=P.cellsOf T/\Row.okWide P w r base T cs:=by
 unfold Value.okWide at hv;unfold isAgg at hs;split at hs
 ·rename_i e;rw[e]at hv;exact hv
 ·rename_i e;rw[e]at hv;exact hv
 ·cases hs
theorem aTW{T e:TypeId}{a:Addr}{r:Reach}(ht:P.underlying T=some (.slice e))(h:Cell.okWide P w r base T (.slice (some a) len cap)):a.spot=none/\a.block<w.heap.size:=by
 unfold Cell.okWide at h;rw[ht]at h;have h:Cell.ok P w r base T (.slice (some a) len cap):=h;unfold Cell.ok at h;rw[ht]at h;obtain⟨_,_,_,h1,row,cells,h2,_⟩:=h;refine⟨h1,?_⟩;unfold World.shape? at h2;split at h2
 ·rename_i c t f he;exact(zt.1 he).1
 ·cases h2
theorem aGD{f:α->ak}{s:Nat}(hE:∀ x,(f x).length=s){o:Nat}{rs:List α}(hl:len<=cap)(hb:b<w.heap.size)(hlen:rs.length=len)(h:∀ i r j u,rs[i]?=some r->(f r)[j]?=some u->w.cell? (((⟨b,o,none⟩:Addr).add (i*s)).add j)=some u):
  dp w (.slice (some ⟨b,o,none⟩) len cap) rs.length (dB f rs):=by
 refine .inr ⟨b,o,cap,by rw[hlen],by omega,hb,λk u hk=>?_⟩;obtain⟨i,r,j,h1,h2,rfl⟩:=aGC hE hk;have:=h i r j u h1 h2;rwa[aTU]at this
end
section
variable{H:Type}{enc:TypeId×Value->H}{w:h_}{base:Nat}{spare:Nat->Bool}{held:Bool}{fuel:Nat}{cs:ak}{x:DataW H×List MemPlace}
theorem aGE{cs:ak}(h:cs.length=2):∃ a b,cs=[a,b]:=by
 match cs,h with
 |[a,b],_=>exact⟨a,b,rfl⟩
theorem aTX(h:DataW.trod enc prog w base spare held fuel 4 cs=some x):∃ b,cs=[.bool b]:=by obtain⟨b,h1,_⟩:=DataW.trod_bool (P:=prog) k_ h;exact⟨b,h1⟩
theorem aTY(h:DataW.trod enc prog w base spare held fuel 9 cs=some x):∃ l:List UInt8,cs=[.string (BA l)]:=by obtain⟨s,h1,_⟩:=DataW.trod_string (P:=prog) k_ h;exact⟨s.data.toList,by rw[h1];rfl⟩
theorem aGF(h:DataW.trod enc prog w base spare held fuel 3 cs=some x):∃ z,cs=[iV z]:=by obtain⟨z,h1,_⟩:=DataW.trod_int (P:=prog) (k:=.i64) k_ h;exact⟨z,h1⟩
theorem MS(h:DataW.trod enc prog w base spare held fuel 30 cs=some x):∃ q:RI,cs=q.cs:=by have hl:=MR (P:=prog) (i:=0) (u:=4) (o:=0) k_ h;rw[show prog.cellsOf 30=2 from k_]at hl;obtain⟨_,_,h0⟩:=yU (P:=prog) (i:=0) (u:=4) (o:=0) k_ h;obtain⟨_,_,h1⟩:=yU (P:=prog) (i:=1) (u:=9) (o:=1) k_ h;rw[show prog.cellsOf 4=1 from k_]at h0;rw[show prog.cellsOf 9=1 from k_]at h1;obtain⟨a,b,rfl⟩:=aGE hl;obtain⟨b0,e0⟩:=aTX h0;obtain⟨l,e1⟩:=aTY h1;simp at e0 e1;subst e0;subst e1;exact⟨⟨b0,l⟩,rfl⟩
theorem aTZ(h:DataW.trod enc prog w base spare held fuel 31 cs=some x):∃ a b c e:RI,cs=a.cs++(b.cs++(c.cs++e.cs)):=by
 obtain⟨hl,bh⟩:=aTT (P:=prog) (n:=4) (e:=30) k_ h;rw[show prog.cellsOf 31=8 from k_]at hl;rw[show prog.cellsOf 30=2 from k_]at bh;obtain⟨_,_,h0⟩:=bh 0 d_;obtain⟨_,_,h1⟩:=bh 1 d_;obtain⟨_,_,h2⟩:=bh 2 d_;obtain⟨_,_,h3⟩:=bh 3 d_;obtain⟨a,e0⟩:=MS h0;obtain⟨b,e1⟩:=MS h1;obtain⟨c,e2⟩:=MS h2;obtain⟨e,e3⟩:=MS h3;refine⟨a,b,c,e,?_⟩;rw[<-e0,<-e1,<-e2,<-e3]
 match cs,hl with
 |[_,_,_,_,_,_,_,_],_=>rfl
theorem RD(h:DataW.trod enc prog w base spare held fuel 33 cs=some x):∃ r:RN,cs=r.cs:=by
 have hl:=MR (P:=prog) (i:=0) (u:=31) (o:=0) k_ h;rw[show prog.cellsOf 33=10 from k_]at hl;obtain⟨_,_,h0⟩:=yU (P:=prog) (i:=0) (u:=31) (o:=0) k_ h;obtain⟨_,_,h1⟩:=yU (P:=prog) (i:=1) (u:=30) (o:=8) k_ h;rw[show prog.cellsOf 31=8 from k_]at h0;rw[show prog.cellsOf 30=2 from k_]at h1;obtain⟨a,b,c,e,e0⟩:=aTZ h0;obtain⟨d,e1⟩:=MS h1;have:cs=(cs.drop 0).take 8++(cs.drop 8).take 2:=by
  match cs,hl with
  |[_,_,_,_,_,_,_,_,_,_],_=>rfl
 refine⟨⟨a,b,c,e,d⟩,?_⟩;rw[this,e0,e1];rfl
theorem aGG(h:DataW.trod enc prog w base spare held fuel 38 cs=some x):∃ r:RV,cs=r.cs:=by
 have hl:=MR (P:=prog) (i:=0) (u:=33) (o:=0) k_ h;rw[show prog.cellsOf 38=30 from k_]at hl;obtain⟨_,_,h0⟩:=yU (P:=prog) (i:=0) (u:=33) (o:=0) k_ h;obtain⟨_,_,h1⟩:=yU (P:=prog) (i:=1) (u:=33) (o:=10) k_ h;obtain⟨_,_,h2⟩:=yU (P:=prog) (i:=2) (u:=33) (o:=20) k_ h;rw[show prog.cellsOf 33=10 from k_]at h0 h1 h2;obtain⟨a,e0⟩:=RD h0;obtain⟨b,e1⟩:=RD h1;obtain⟨c,e2⟩:=RD h2;have:cs=(cs.drop 0).take 10++((cs.drop 10).take 10++(cs.drop 20).take 10):=by
  have t2:(cs.drop 20).take 10=cs.drop 20:=kG (by rw[vV];omega);have t1:(cs.drop 10).take 10++cs.drop 20=cs.drop 10:=by have:=Qq 10 (cs.drop 10);rwa[N2]at this
  rw[t2,t1,mI,Qq]
 refine⟨⟨a,b,c⟩,?_⟩;rw[this,e0,e1,e2];rfl
theorem aT0(h:DataW.trod enc prog w base spare held fuel 50 cs=some x):∃ r:RP,cs=r.cs:=by
 have hl:=MR (P:=prog) (i:=0) (u:=38) (o:=0) k_ h;rw[show prog.cellsOf 50=40 from k_]at hl;obtain⟨_,_,h0⟩:=yU (P:=prog) (i:=0) (u:=38) (o:=0) k_ h;obtain⟨_,_,h1⟩:=yU (P:=prog) (i:=1) (u:=33) (o:=30) k_ h;rw[show prog.cellsOf 38=30 from k_]at h0;rw[show prog.cellsOf 33=10 from k_]at h1;obtain⟨a,e0⟩:=aGG h0;obtain⟨b,e1⟩:=RD h1;have:cs=(cs.drop 0).take 30++(cs.drop 30).take 10:=by have t2:(cs.drop 30).take 10=cs.drop 30:=kG (by rw[vV];omega);rw[t2,mI,Qq]
 refine⟨⟨a,b⟩,?_⟩;rw[this,e0,e1];rfl
def RE(z:Int):ak:=[iV z]
theorem aT1(l:List Int):dB RE l=fN l:=by
 induction l with
 |nil=>rfl
 |cons z l ih=>show[iV z]++dB RE l=_;rw[ih];rfl
theorem aT2{w:h_}{a:Addr}(h:w.cell? a=some u):a.spot=none/\a.block<w.heap.size:=by
 unfold World.cell? at h;split at h
 ·rename_i c t f he;refine⟨?_,(zt.1 he).1⟩;cases hs:a.spot with
  |none=>rfl
  |some s=>rw[hs]at h;simp at h
 ·cases h
theorem aT3{v:i_}(h:DataW.trod enc prog w 0 (λ_=>true) true fuel 45 [v]=some x):∃ l:List Int,oj w v l.length (fN l):=by
 rcases aGA (P:=prog) (f:=RE) (s:=1) (λ_=>rfl) d_ (e:=3) k_ k_ (λn cs y hy=>aGF hy) h with h1|⟨a,len,cap,rs,h1,hl,hc,hlen,lD,BJ⟩
 ·exact⟨[],.inl (.inl ⟨h1,rfl,rfl⟩)⟩
 ·refine⟨rs,?_⟩;subst h1;rcases nU cap with h0|h0
  ·refine .inr ⟨by omega,a,?_⟩;rw[show len=0 by omega,h0]
  ·obtain⟨u,hu⟩:=BJ h0;have e0:a.add 0=a:=rfl;rw[e0]at hu;obtain⟨hs,hb⟩:=aT2 hu;obtain⟨b,o,sp⟩:=a;dsimp only at hs hb;subst hs;have:=aGD (f:=RE) (s:=1) (λ_=>rfl) hl hb hlen lD;rw[aT1]at this;exact .inl this
def X3(w:h_):Type:={ r:(Int×List Int)×Value // oj w r.2 r.1.2.length (fN r.1.2)}
def MT{w:h_}(r:X3 w):ak:=[iV r.1.1.1,r.1.2]
theorem aT4{n:Nat}{cs:ak}{y:DataW H×List MemPlace}(h:DataW.trod enc prog w 0 (λ_=>true) true n 47 cs=some y):∃ r:X3 w,cs=MT r:=by have hl:=MR (P:=prog) (i:=0) (u:=3) (o:=0) k_ h;rw[show prog.cellsOf 47=2 from k_]at hl;obtain⟨_,_,h0⟩:=yU (P:=prog) (i:=0) (u:=3) (o:=0) k_ h;obtain⟨_,_,h1⟩:=yU (P:=prog) (i:=1) (u:=45) (o:=1) k_ h;rw[show prog.cellsOf 3=1 from k_]at h0;rw[show prog.cellsOf 45=1 from k_]at h1;obtain⟨a,b,rfl⟩:=aGE hl;obtain⟨z,e0⟩:=aGF h0;obtain⟨l,hw⟩:=aT3 h1;simp at e0;subst e0;exact⟨⟨((z,l),b),hw⟩,rfl⟩
theorem aGH{w:h_}:∀ rs:List (X3 w),sn w (rs.map λr=>r.1.1) (dB MT rs)
 |[]=>.nil
 |r::rs=>by show sn w (r.1.1::rs.map λr=>r.1.1) (MT r++dB MT rs);obtain⟨⟨⟨z,l⟩,u⟩,hw⟩:=r;exact .cons hw (aGH rs)
set_option maxRecDepth 100000 in
theorem X4{f:α->ak}{s:Nat}(hE:∀ x,(f x).length=s)(qL:0<s){T e:TypeId}(ht:prog.underlying T=some (.slice e))(hs:prog.cellsOf e=s)(hb:0<prog.bytesOf e)(X2:∀ n cs (y:DataW H×List MemPlace),DataW.trod enc prog w 0 (λ_=>true) true n e cs=some y->∃ r,cs=f r)
  {v:i_} {r:Reach} (aC:Cell.okWide prog w r base T v) (h:DataW.trod enc prog w 0 (λ_=>true) true fuel T [v]=some x) (hw:∀ k∈x.1.weights prog T,k<=reachBytes):∃ rs:List α,dp w v rs.length (dB f rs)/\rs.length<=reachBytes:=by
 rcases aGA hE qL ht hs X2 h with h1|⟨a,len,cap,rs,h1,hl,hc,hlen,lD,_⟩
 ·exact⟨[],.inl ⟨h1,rfl,rfl⟩,lG _⟩
 ·subst h1;obtain⟨q1,q2⟩:=aTW ht aC;have PG:=aTS ht hb h hw;obtain⟨b,o,sp⟩:=a;dsimp only at q1 q2;subst q1;exact⟨rs,aGD hE hl q2 hlen lD,by omega⟩
set_option maxRecDepth 100000 in
theorem aT5{v:i_}{d:DataW H}{p:List MemPlace}(hv:Value.okWide prog w .any base 26 v)(h:DataW.Trod enc prog w 0 (λ_=>true) true 26 v d p)(hw:∀ k∈d.weights prog 26,k<=reachBytes):
  ∃ rs vs fs,(gK rs vs fs).In w v/\rs.length<=reachBytes/\vs.length<=reachBytes/\fs.length<=reachBytes:=by
 obtain⟨fuel,h⟩:=h;obtain⟨cs,rfl,bH,jL⟩:=aTV k_ hv;rw[show prog.cellsOf 26=3 from k_]at bH;obtain⟨c0,c1,c2,rfl⟩:∃ a b c,cs=#[a,b,c]:=by
  obtain⟨l⟩:=cs
  match l,bH with
  |[a,b,c],_=>exact⟨a,b,c,rfl⟩
 obtain⟨ts,hts,_,jt⟩:=jL;have RF:prog.cellTypes prog.depth 26=some [22,23,24]:=k_;rw[hts]at RF;injection RF with RF;subst RF;have k0:Cell.okWide prog w .any base 22 c0:=by obtain⟨u,hu,aC⟩:=jt 0 c0 rfl;simp at hu;subst hu;exact aC
 have k1:Cell.okWide prog w .any base 23 c1:=by obtain⟨u,hu,aC⟩:=jt 1 c1 rfl;simp at hu;subst hu;exact aC
 have k2:Cell.okWide prog w .any base 24 c2:=by obtain⟨u,hu,aC⟩:=jt 2 c2 rfl;simp at hu;subst hu;exact aC
 have h:DataW.trod enc prog w 0 (λ_=>true) true fuel 26 [c0,c1,c2]=some (d,p):=h;obtain⟨_,_,h0,w0⟩:=X1 (P:=prog) (i:=0) (u:=22) (o:=0) k_ h;obtain⟨_,_,h1,w1⟩:=X1 (P:=prog) (i:=1) (u:=23) (o:=1) k_ h;obtain⟨_,_,h2,w2⟩:=X1 (P:=prog) (i:=2) (u:=24) (o:=2) k_ h;rw[show prog.cellsOf 22=1 from k_]at h0;rw[show prog.cellsOf 23=1 from k_]at h1;rw[show prog.cellsOf 24=1 from k_]at h2;obtain⟨rs,q0,l0⟩:=X4 (f:=RP.cs) (s:=40) jS.len d_ (e:=50) k_ k_ (kp k_) (λn cs y hy=>aT0 hy) k0 h0 (λk hk=>hw k (w0 k hk));obtain⟨vs,q1,l1⟩:=X4 (f:=RV.cs) (s:=30) gm.len d_ (e:=38) k_ k_ (kp k_) (λn cs y hy=>aGG hy) k1 h1 (λk hk=>hw k (w1 k hk));obtain⟨fs,q2,l2⟩:=X4 (f:=MT (w:=w)) (s:=2) (λ_=>rfl) d_ (e:=47) k_ k_ (kp k_) (λn cs y hy=>aT4 hy) k2 h2 (λk hk=>hw k (w2 k hk));refine⟨rs,vs,fs.map λr=>r.1.1,⟨c0,c1,c2,rfl,q0,q1,⟨_,by rw[dQ];exact q2,aGH fs⟩,?_⟩,l0,l1,by rw[dQ];exact l2⟩;rcases q2 with ⟨e,_⟩|⟨_,_,_,e,_⟩<;>rw[e]<;>exact⟨rfl,rfl⟩
end
section
open CR OF V3
section
variable{F:Type}[OF F]
def dK(y u n:V3 F):F:=-(dot n u*(dot n y)⁻¹)
theorem X5{y u n:V3 F}(h:dot n y≠0):dot n u=-(dK y u n*dot n y):=by unfold dK;rw[CR.neg_mul,CR.neg_neg,CR.mul_assoc,OF.inv_mul h,CR.mul_one]
theorem aGI(y u n:V3 F):dK y (-u) n=-dK y u n:=by unfold dK;rw[vx,CR.neg_mul]
theorem aGJ{α:Type}(P:α->Prop)(f:α->F):∀ l:List α,(∃ m∈l,P m)->∃ m∈l,P m/\∀ r∈l,P r->f r<=f m
 |[],⟨_,h,_⟩=>by cases h
 |a::l,h=>by
  by_cases hl:∃ m∈l,P m
  ·obtain⟨m,h1,h2,h3⟩:=aGJ P f l hl;by_cases ha:P a/\f m<f a
   ·refine⟨a,aR ..,ha.1,λr hr hp=>?_⟩;rcases cD.1 hr with rfl|hr
    ·exact OF.le_refl _
    ·exact OF.le_trans (h3 r hr hp) (OF.le_of_lt ha.2)
   ·refine⟨m,bI _ h1,h2,λr hr hp=>?_⟩;rcases cD.1 hr with rfl|hr
    ·exact OF.not_lt.1 λk=>ha ⟨hp,k⟩
    ·exact h3 r hr hp
  ·obtain⟨m,h1,h2⟩:=h;rcases cD.1 h1 with rfl|h1
   ·refine⟨m,aR ..,h2,λr hr hp=>?_⟩;rcases cD.1 hr with rfl|hr
    ·exact OF.le_refl _
    ·exact absurd ⟨r,hr,hp⟩ hl
   ·exact absurd ⟨m,h1,h2⟩ hl
theorem aGK{a b:F}(h:a<0)(k:b<0):0<a*b:=by have:=OF.mul_pos (OF.neg_pos.2 h) (OF.neg_pos.2 k);rwa[CR.neg_mul,CR.mul_neg,CR.neg_neg]at this
theorem rk.go{ps S:List (HS F)}(h:rk ps S){w r:V3 F}(hw:ev ps w)(hr:∀ m∈S,cB m w->dot m.n r<=0):∀ q∈ps,cB q w->dot q.n r<=0:=by
 obtain⟨e,he,bh⟩:=Rq (S.map λm=>if OF.aH (m.d-dot m.n w)=1 then(dot m.n r,m.d-dot m.n w)else(0,1)) λx hx=>by
  obtain⟨m,_,rfl⟩:=db.1 hx;split
  ·rename_i hs;exact OF.gj.2 hs
  ·exact OF.zero_lt_one
 have cC:ev ps (w+smul r e):=(h.same _).1 λm hm=>by
  rw[jm,gk];have h1:dot m.n w<=m.d:=hw m (h.sub m hm);by_cases hs:OF.aH (m.d-dot m.n w)=1
  ·have:=bh _ (db.2 ⟨m,hm,rfl⟩);rw[aB hs]at this;have:=(OF.add_le_add_left (dot m.n w)).2 this;rwa[show dot m.n w+(m.d-dot m.n w)=m.d from jP (dot m.n w) m.d (λa d=>a+(d-a)) (λ_ d=>d) d_]at this
  ·have ht:cB m w:=OF.le_antisymm h1 (OF.not_lt.1 λk=>hs (OF.gj.1 (OF.sub_pos.2 k)));have h2:=OF.mul_nonneg (OF.neg_nonneg.2 (hr m hm ht)) (OF.le_of_lt he);rw[CR.neg_mul,OF.neg_nonneg]at h2;have:=OF.add_le_add h1 h2;rwa[CR.add_zero]at this
 intro q hq tq;have:=cC q hq;rw[jm,gk,show dot q.n w=q.d from tq]at this;apply OF.not_lt.1;intro k;have h2:=(OF.add_lt_add_left q.d).2 (OF.mul_pos k he);rw[CR.add_zero]at h2;exact OF.lt_irrefl _ (OF.lt_of_lt_of_le h2 this)
theorem RG{ps:List (HS F)}{x w:V3 F}(hx:yf ps x):∀ q∈ps,cB q w->dot q.n (x-w)<0:=λq hq tq=>by have:=hx q hq;rw[<-show dot q.n w=q.d from tq,<-OF.sub_pos]at this;rw[hZ];rwa[<-OF.neg_sub,OF.neg_pos]at this
theorem rk.side{ps S:List (HS F)}(h:rk ps S){x w:V3 F}(hx:yf ps x)(hw:ev ps w){a:HS F}(ha:a∈ps)(ta:cB a w)(u:V3 F):
  ∃ q∈S,cB q w/\∀ r∈ps,cB r w->dK (x-w) u r.n<=dK (x-w) u q.n:=by
 have neg:=RG (w:=w) hx;have ne:∃ m∈S,cB m w:=by apply iP;intro fU;have h1:=h.go (r:=-(x-w)) hw (λm hm tm=>absurd ⟨m,hm,tm⟩ fU) a ha ta;rw[vx,OF.Im]at h1;exact OF.lt_irrefl _ (OF.lt_of_lt_of_le (neg a ha ta) h1)
 obtain⟨q,hq,tq,vz⟩:=aGJ (λm=>cB m w) (λm=>dK (x-w) u m.n) S ne;refine⟨q,hq,tq,λr hr tr=>?_⟩;have dir:∀ m∈ps,cB m w->dot m.n (u+smul (x-w) (dK (x-w) u q.n))=dot m.n (x-w)*(dK (x-w) u q.n-dK (x-w) u m.n):=λm hm tm=>by rw[jm,gk,X5 (OF.ne_of_lt (neg m hm tm))];generalize dot m.n (x-w)=b;generalize dK (x-w) u q.n=s;generalize dK (x-w) u m.n=t;exact kJ b s t (λb s t=>-(t*b)+b*s) (λb s t=>b*(s-t)) d_
 have:=h.go (r:=u+smul (x-w) (dK (x-w) u q.n)) hw (λm hm tm=>by have bJ:=h.sub m hm;rw[dir m bJ tm];have:=OF.mul_nonneg (OF.le_of_lt (OF.neg_pos.2 (neg m bJ tm))) (OF.sub_nonneg.2 (vz m hm tm));rwa[CR.neg_mul,OF.neg_nonneg]at this) r hr tr
 rw[dir r hr tr]at this;apply OF.not_lt.1;intro k;have h2:dK (x-w) u q.n-dK (x-w) u r.n<0:=by rw[<-OF.neg_pos,OF.neg_sub];exact OF.sub_pos.2 k
 exact OF.lt_irrefl _ (OF.lt_of_lt_of_le (aGK (neg r hr tr) h2) this)
theorem aT6(n d y u v:V3 F):dot n v*bA d y u=dot n d*bA v y u+dot n y*bA d v u+dot n u*bA d y v:=
 ring [n,d,y,u,v] [] (λV _=>dot (V 0) (V 4)*bA (V 1) (V 2) (V 3)) (λV _=>dot (V 0) (V 1)*bA (V 4) (V 2) (V 3)+dot (V 0) (V 2)*bA (V 1) (V 4) (V 3)+dot (V 0) (V 3)*bA (V 1) (V 2) (V 4)) d_
theorem aT7(d y u v:V3 F):smul v (bA d y u)=smul d (bA v y u)+smul y (bA d v u)+smul u (bA d y v):=
 gV [d,y,u,v] [] (λV _=>smul (V 3) (bA (V 0) (V 1) (V 2))) (λV _=>smul (V 0) (bA (V 3) (V 1) (V 2))+smul (V 1) (bA (V 0) (V 3) (V 2))+smul (V 2) (bA (V 0) (V 1) (V 3))) d_
theorem aT8(d y u n:V3 F):smul n (bA d y u)=smul (af y u) (dot n d)+smul (af u d) (dot n y)+smul (af d y) (dot n u):=
 gV [d,y,u,n] [] (λV _=>smul (V 3) (bA (V 0) (V 1) (V 2))) (λV _=>smul (af (V 1) (V 2)) (dot (V 3) (V 0))+smul (af (V 2) (V 0)) (dot (V 3) (V 1))+smul (af (V 0) (V 1)) (dot (V 3) (V 2))) d_
theorem aGL{n d y u:V3 F}(hd:dot n d=0)(hb:dot n y<0)(v:V3 F):dot n v*bA d y u=dot n y*(bA d v u-dK y u n*bA d y v):=by rw[aT6,hd,X5 (u:=u) (OF.ne_of_lt hb)];generalize dot n y=b;generalize dK y u n=s;generalize bA d v u=e;generalize bA d y v=x;generalize bA v y u=z;exact Ij b s e x z (λb s e x z=>0*z+b*e+-(s*b)*x) (λb s e x z=>b*(e-s*x)) d_
theorem aGM{n d y u v:V3 F}(D:0<bA d y u)(hd:dot n d=0)(hb:dot n y<0)(h:dot n v<=0):dK y u n*bA d y v<=bA d v u:=by
 apply OF.not_lt.1;intro k;have h1:bA d v u-dK y u n*bA d y v<0:=by rw[<-OF.neg_pos,OF.neg_sub];exact OF.sub_pos.2 k
 have h2:=aGK hb h1;rw[<-aGL hd hb v]at h2;have h3:=OF.mul_nonneg (OF.neg_nonneg.2 h) (OF.le_of_lt D);rw[CR.neg_mul,OF.neg_nonneg]at h3;exact OF.lt_irrefl _ (OF.lt_of_lt_of_le h2 h3)
theorem aT9{n n1 n2 d y u v:V3 F}(D:0<bA d y u)(hd:dot n d=0)(Gg:dot n1 d=0)(KZ:dot n2 d=0)(hb:dot n y<0)(nj:dot n1 y<0)(gE:dot n2 y<0)(h:dot n v=0)(h1:dot n1 v<=0)(h2:dot n2 v<=0)
  (l1:dK y u n<dK y u n1) (l2:dK y u n2<dK y u n):smul v (bA d y u)=smul d (bA v y u):=by
 have k:=aGL hd hb (u:=u) v;rw[h,CR.zero_mul]at k;have e:bA d v u=dK y u n*bA d y v:=by
  rcases OF.mul_eq_zero.1 k.symm with k|k
  ·exact absurd k (OF.ne_of_lt hb)
  ·exact OF.sub_eq_zero.1 k
 have k1:=aGM D Gg nj h1;have k2:=aGM D KZ gE h2;rw[e]at k1 k2;have g1:=OF.sub_pos.2 l1;have g2:=OF.sub_pos.2 l2;have x0:bA d y v=0:=by
  rcases OF.lt_trichotomy (bA d y v) 0 with hx|hx|hx
  ·exfalso;have:=OF.mul_pos g2 (OF.neg_pos.2 hx);rw[CR.mul_neg,OF.neg_pos]at this;rw[<-OF.sub_nonneg,show dK y u n*bA d y v-dK y u n2*bA d y v=(dK y u n-dK y u n2)*bA d y v from kJ (dK y u n) (dK y u n2) (bA d y v) (λa b x=>a*x-b*x) (λa b x=>(a-b)*x) d_]at k2;exact OF.lt_irrefl _ (OF.lt_of_lt_of_le this k2)
  ·exact hx
  ·exfalso;have:=OF.mul_pos g1 hx;rw[<-OF.sub_nonneg,show dK y u n*bA d y v-dK y u n1*bA d y v=-((dK y u n1-dK y u n)*bA d y v)from kJ (dK y u n) (dK y u n1) (bA d y v) (λa b x=>a*x-b*x) (λa b x=>-((b-a)*x)) d_,OF.neg_nonneg]at k1;exact OF.lt_irrefl _ (OF.lt_of_lt_of_le this k1)
 rw[aT7,e,x0,CR.mul_zero];exact gV [d,y,u] [bA v y u] (λV S=>smul (V 0) (S 0)+smul (V 1) 0+smul (V 2) 0) (λV S=>smul (V 0) (S 0)) d_
theorem aGN{p q:V3 F}{k:F}(hk:k≠0)(h:smul p k=smul q k):p=q:=by
 have e:∀ p:V3 F,smul (smul p k) k⁻¹=p:=λp=>by rw[show smul (smul p k) k⁻¹=smul p (k*k⁻¹)from gV [p] [k,k⁻¹] (λV S=>smul (smul (V 0) (S 0)) (S 1)) (λV S=>smul (V 0) (S 0*S 1)) d_,OF.jz k hk,V3.U9]
 rw[<-e p,h,e]
theorem aUa{n n1 d y u:V3 F}(D:bA d y u≠0)(hd:dot n d=0)(Gg:dot n1 d=0)(hb:dot n y<0)(nj:dot n1 y<0)(e:dK y u n1=dK y u n):∃ k:F,0<k/\n1=smul n k:=by
 have hn:=OF.ne_of_lt hb;refine⟨dot n1 y*(dot n y)⁻¹,?_,aGN D ?_⟩
 ·have:=OF.mul_pos (OF.neg_pos.2 nj) (OF.inv_pos (OF.neg_pos.2 hb));have h2:(-dot n y)⁻¹=-(dot n y)⁻¹:=by
   have bw:-dot n y≠0:=OF.ne_of_gt (OF.neg_pos.2 hb);have h3:-dot n y*-(dot n y)⁻¹=1:=by rw[CR.neg_mul,CR.mul_neg,CR.neg_neg,OF.jz _ hn]
   rw[<-CR.mul_one (-dot n y)⁻¹,<-h3,<-CR.mul_assoc,OF.inv_mul bw,CR.one_mul]
  rwa[h2,CR.neg_mul,CR.mul_neg,CR.neg_neg]at this
 ·have g:∀ m:V3 F,dot m d=0->dot m y<0->dK y u m=dK y u n->smul m (bA d y u)=smul (af u d-smul (af d y) (dK y u n)) (dot m y):=λm h1 h2 h3=>by rw[aT8,h1,X5 (u:=u) (OF.ne_of_lt h2),h3];exact gV [af y u,af u d,af d y] [dot m y,dK y u n] (λV S=>smul (V 0) 0+smul (V 1) (S 0)+smul (V 2) (-(S 1*S 0))) (λV S=>smul (V 1-smul (V 2) (S 1)) (S 0)) d_
  have g1:=g n1 Gg nj e;have g2:=g n hd hb rfl;rw[g1,show smul (smul n (dot n1 y*(dot n y)⁻¹)) (bA d y u)=smul (smul n (bA d y u)) (dot n1 y*(dot n y)⁻¹)from gV [n] [dot n1 y*(dot n y)⁻¹,bA d y u] (λV S=>smul (smul (V 0) (S 0)) (S 1)) (λV S=>smul (smul (V 0) (S 1)) (S 0)) d_,g2,show ∀(p:V3 F) (a b c:F),smul (smul p a) (b*c)=smul p (b*(a*c))from λp a b c=>gV [p] [a,b,c] (λV S=>smul (smul (V 0) (S 0)) (S 1*S 2)) (λV S=>smul (V 0) (S 1*(S 0*S 2))) d_,OF.jz _ hn,CR.mul_one]
theorem rk.two{ps S:List (HS F)}(h:rk ps S){x w:V3 F}(hx:yf ps x)(hw:ev ps w)(hn:¬j8 ps w){a b:HS F}(ha:a∈ps)(hb:b∈ps)(ta:cB a w)(tb:cB b w)(b9:af a.n b.n≠0):
  ∃ p∈S,∃ q∈S,cB p w/\cB q w/\(¬∃ k:F,0<k/\q.n=smul p.n k)/\
   ∀ r∈ps,cB r w->(∃ k:F,0<k/\p.n=smul r.n k)\/(∃ k:F,0<k/\q.n=smul r.n k)\/∃ d:V3 F,∀ v,ev ps v->cB r v->∃ c:F,v=w+smul d c:=by
 have neg:=RG (w:=w) hx;have flat:∀ r∈ps,cB r w->dot r.n (af a.n b.n)=0:=λr hr tr=>by apply iP;intro k;refine hn ⟨hw,r,hr,a,ha,b,hb,?_,tr,ta,tb⟩;exact k
 generalize hd:af a.n b.n=d at *;have hdy:af d (x-w)≠0:=λe=>by
  -- then the way inside aWo lie along the aWp
  have h1:=neg a ha ta;have h2:=flat a ha ta;have h3:dot a.n (smul d (dot d (x-w)))=dot a.n (smul (x-w) (dot d d)):=by have:smul (x-w) (dot d d)=smul d (dot d (x-w))+af (af d (x-w)) d:=gV [d,x-w] [] (λV _=>smul (V 1) (dot (V 0) (V 0))) (λV _=>smul (V 0) (dot (V 0) (V 1))+af (af (V 0) (V 1)) (V 0)) d_;rw[this,e,show af (0:V3 F) d=0 from gV [d] [] (λV _=>af 0 (V 0)) (λ_ _=>0) d_,jm,vy,CR.add_zero]
  rw[gk,gk,h2,CR.zero_mul]at h3;rcases OF.mul_eq_zero.1 h3.symm with k|k
  ·exact OF.ne_of_lt h1 k
  ·exact yb b9 k
 obtain⟨u,hu⟩:∃ u,u=af d (x-w):=⟨_,rfl⟩;have D:0<bA d (x-w) u:=by rw[hu,show bA d (x-w) (af d (x-w))=dot (af d (x-w)) (af d (x-w))from ring [d,x-w] [] (λV _=>bA (V 0) (V 1) (af (V 0) (V 1))) (λV _=>dot (af (V 0) (V 1)) (af (V 0) (V 1))) d_];exact D1 hdy
 obtain⟨p,hp,tp,mp⟩:=h.side hx hw ha ta u;obtain⟨q,hq,tq,mq⟩:=h.side hx hw ha ta (-u);have mq:∀ r∈ps,cB r w->dK (x-w) u q.n<=dK (x-w) u r.n:=λr hr tr=>by have:=mq r hr tr;rw[aGI,aGI,<-OF.sub_nonneg]at this;rw[<-OF.sub_nonneg];rwa[show -dK (x-w) u q.n - -dK (x-w) u r.n=dK (x-w) u r.n-dK (x-w) u q.n from jP (dK (x-w) u q.n) (dK (x-w) u r.n) (λa b=>-a - -b) (λa b=>b-a) d_]at this
 have fG:=h.sub p hp;have pw:=h.sub q hq;have dir:∀ m∈ps,∀ r∈ps,cB m w->cB r w->dK (x-w) u m.n=dK (x-w) u r.n->∃ k:F,0<k/\m.n=smul r.n k:=λm hm r hr tm tr e=>
  aUa (OF.ne_of_gt D) (flat r hr tr) (flat m hm tm) (neg r hr tr) (neg m hm tm) e
 refine⟨p,hp,q,hq,tp,tq,?_,λr hr tr=>?_⟩
 ·rintro⟨k,hk,e⟩
  -- then both aWq alike,and so aWr all else
  have hs:dK (x-w) u q.n=dK (x-w) u p.n:=by
   unfold dK;rw[e,Lh,Lh];have h1:=OF.ne_of_lt (neg p fG tp);have h2:=OF.ne_of_gt hk
   congr 1
   have h3:dot p.n (x-w)*k≠0:=OF.mul_ne_zero h1 h2;have h4:(dot p.n (x-w)*k)⁻¹=k⁻¹*(dot p.n (x-w))⁻¹:=by
    have:dot p.n (x-w)*k*(k⁻¹*(dot p.n (x-w))⁻¹)=1:=by rw[show ∀ a b c d:F,a*b*(c*d)=(a*d)*(b*c)from λa b c d=>zX a b c d (λa b c d=>a*b*(c*d)) (λa b c d=>(a*d)*(b*c)) d_,OF.jz _ h1,OF.jz _ h2,CR.mul_one]
    rw[<-CR.mul_one (dot p.n (x-w)*k)⁻¹,<-this,<-CR.mul_assoc,OF.inv_mul h3,CR.one_mul]
   rw[h4,show ∀ a b c d:F,a*b*(c*d)=a*d*(b*c)from λa b c d=>zX a b c d (λa b c d=>a*b*(c*d)) (λa b c d=>a*d*(b*c)) d_,OF.jz _ h2,CR.mul_one]
  have bh:∀ r∈ps,cB r w->dK (x-w) u r.n=dK (x-w) u p.n:=λr hr tr=>OF.le_antisymm (mp r hr tr) (hs▸mq r hr tr);obtain⟨c,_,hc⟩:=dir b hb a ha tb ta ((bh b hb tb).trans (bh a ha ta).symm);apply b9;rw[<-hd,hc];exact gV [a.n] [c] (λV S=>af (V 0) (smul (V 0) (S 0))) (λ_ _=>0) d_
 ·by_cases e1:dK (x-w) u p.n=dK (x-w) u r.n
  ·exact .inl (dir p fG r hr tp tr e1)
  by_cases e2:dK (x-w) u q.n=dK (x-w) u r.n
  ·exact .inr (.inl (dir q pw r hr tq tr e2))
  have l1:=(OF.nX (mp r hr tr)).resolve_right λe=>e1 e.symm;have l2:=(OF.nX (mq r hr tr)).resolve_right e2;refine .inr (.inr ⟨d,λv hv tv=>⟨bA (v-w) (x-w) u*(bA d (x-w) u)⁻¹,?_⟩⟩);have on:∀ m∈ps,cB m w->dot m.n (v-w)<=0:=λm hm tm=>by have:=hv m hm;rw[<-show dot m.n w=m.d from tm,<-OF.sub_nonneg]at this;rw[hZ,<-OF.neg_nonneg,OF.neg_sub];exact this
  have nA:dot r.n (v-w)=0:=by rw[hZ,show dot r.n v=r.d from tv,show dot r.n w=r.d from tr,OF.sub_self]
  have:=aT9 D (flat r hr tr) (flat p fG tp) (flat q pw tq) (neg r hr tr) (neg p fG tp) (neg q pw tq) nA (on p fG tp) (on q pw tq) l1 l2;have hD:=OF.ne_of_gt D;have e:v-w=smul d (bA (v-w) (x-w) u*(bA d (x-w) u)⁻¹):=aGN hD (by rw[this];rw[show ∀(p:V3 F) (a b c:F),smul (smul p (a*b)) c=smul p (a*(c*b))from λp a b c=>gV [p] [a,b,c] (λV S=>smul (smul (V 0) (S 0*S 1)) (S 2)) (λV S=>smul (V 0) (S 0*(S 2*S 1))) d_,OF.jz _ hD,CR.mul_one])
  rw[<-e];exact gV [v,w] [] (λV _=>V 0) (λV _=>V 1+(V 0-V 1)) d_
end
end
section
open CR OF
open V3 (dot af bA smul)
theorem aUb{F:Type}[OF F](n w d:V3 F)(a b c:F):dot n (af (w+smul d b-(w+smul d a)) (w+smul d c-(w+smul d a)))=0:=
 V3.ring [n,w,d] [a,b,c] (λV S=>dot (V 0) (af (V 1+smul (V 2) (S 1)-(V 1+smul (V 2) (S 0))) (V 1+smul (V 2) (S 2)-(V 1+smul (V 2) (S 0))))) (λ_ _=>0) d_
section
variable{ps:c_}{vs:e_}{p q r s:HS K}{v w:V3 K}
theorem X6(hr:r.n≠0)(tr:cB r w)(tp:cB p w)(h:∃ k:K,0<k/\p.n=smul r.n k)(hp:p.n≠0):canon r=canon p:=by
 obtain⟨k,hk,e⟩:=h;refine(XE hr hp).2 ⟨k,hk,?_⟩;have hd:p.d=r.d*k:=by rw[<-show dot p.n w=p.d from tp,e,V3.Lh,show dot r.n w=r.d from tr]
 cases p;unfold CO;rw[HS.mk.injEq];exact⟨e,hd⟩
theorem aUc(hp:p.n≠0)(hq:q.n≠0)(h:canon p=canon q)(vs:e_):ch p vs vs.length=ch q vs vs.length:=by
 unfold ch
 congr 1
 funext k
 rw[qx,OF.sub_eq_zero,OF.sub_eq_zero];exact(XM hp hq h _).2
theorem aUd(hi:ps[i]?=some r)(h:gW ps vs i≠[]):lW ps i r=false:=by
 unfold gW at h;rw[hi]at h;unfold qe at h;dsimp only at h;cases hm:lW ps i r with
 |false=>rfl
 |true=>
  unfold lW at hm;rw[aB hm]at h;exact absurd rfl h
theorem X7(hi:ps[i]?=some r)(hj:ps[j]?=some s)(h1:gW ps vs i≠[])(h2:gW ps vs j≠[])(h:canon r=canon s):i=j:=by
 have key:∀{i j:Nat} {r s:HS K},ps[i]?=some r->ps[j]?=some s->gW ps vs j≠[]->canon r=canon s->¬i<j:=by
  intro i j r s hi hj h2 h al;have hm:=aUd hj h2;have:lW ps j s=true:=by unfold lW;rw[sJ];exact⟨r,cL (i:=i) (by rw[List.getElem?_take_of_lt al];exact hi),aJ h.symm⟩
  rw[this]at hm;cases hm
 have k1:=key hi hj h2 h;have k2:=key hj hi h1 h.symm;omega
theorem aGO(hp:gB ps)(hv:jI ps vs)(hq:q∈ps)(h3:¬(ch q vs vs.length).length<3):∃ i r,ps[i]?=some r/\canon r=canon q/\gW ps vs i≠[]:=by
 obtain⟨i,hi⟩:∃ i,i=ps.findIdx λx=>decide (canon x=canon q):=⟨_,rfl⟩;have al:i<ps.length:=by rw[hi];exact List.findIdx_lt_length_of_exists ⟨q,hq,by simp⟩
 have X8:canon ps[i]=canon q:=by have:=List.findIdx_getElem (xs:=ps) (p:=λx=>decide (canon x=canon q)) (w:=by rw[hi]at al;exact al);subst hi;simpa using this
 refine⟨i,ps[i],aW al,X8,?_⟩;have hr:=hp _ (df al);unfold gW;rw[aW al];dsimp only;rw[hv.CP hr];have uI:¬lW ps i ps[i]=true:=by
  unfold lW;rw[sJ]
  rintro⟨x,hx,hd⟩
  obtain⟨j,hj,rfl⟩:=lS hx;rw[jK]at hj;rw[Xl,X8]at hd;have hd:=kp hd;have hjf:j<i:=by omega
  rw[hi]at hjf;have:=List.not_of_lt_findIdx hjf;simp[hd]at this
 rw[az uI,aUc hr (hp q hq) X8,az h3];exact List.cons_ne_nil _ _
theorem aGP(hp:gB ps)(hv:jI ps vs)(hi:ps[i]?=some r)(h:gW ps vs i≠[]):¬(ch r vs vs.length).length<3:=by intro h3;unfold gW at h;rw[hi]at h;dsimp only at h;rw[hv.CP (hp r (cL hi)),aB h3]at h;split at h<;>exact h rfl
theorem aUe(hv:jI ps vs)(hr:r.n≠0)(h3:¬(ch r vs vs.length).length<3){d:V3 K}(h:∀ v,ev ps v->cB r v->∃ c:K,v=w+smul d c):False:=by
 have hc:=hv.conv (p:=r);have fv:=Ha r vs;have hm:∀ i∈ch r vs vs.length,∃ c:K,aw vs i=w+smul d c:=λi hi=>by obtain⟨h1,h2⟩:=kz.1 hi;exact h _ ((hv.mem _).1 (Jw h1)).1 h2
 generalize ch r vs vs.length=on at *
 match on,h3,hc,fv,hm with
 |[],h3,_,_,_=>exact h3 d_
 |[_],h3,_,_,_=>exact h3 s_
 |[_,_],h3,_,_,_=>exact h3 s_
 |i::j::k::t,_,hc,fv,hm=>
  simp only[XL,cD,not_or]at fv;refine hc.PB hr (a:=i) (b:=j) (c:=k) s_ s_ s_ fv.1.1 fv.1.2.1 fv.2.1.1 ?_;obtain⟨a,ha⟩:=hm i s_;obtain⟨b,hb⟩:=hm j s_;obtain⟨c,hc⟩:=hm k s_;rw[ha,hb,hc];exact aUb _ _ _ _ _ _
theorem jI.two(hc:Cl ps)(hp:gB ps)(hv:jI ps vs)(hf:nG ps)(hw:ev ps w)(hn:¬j8 ps w)(h2:∃ a∈ps,∃ b∈ps,cB a w/\cB b w/\af a.n b.n≠0):
  ∃ i j,i≠j/\i<ps.length/\j<ps.length/\∀ k r,ps[k]?=some r->((gW ps vs k≠[]/\cB r w)↔k=i\/k=j):=by
 obtain⟨a,ha,b,hb,ta,tb,b9⟩:=h2;obtain⟨x,hx⟩:=hf;obtain⟨S,hS⟩:=aSW ps;obtain⟨p,RH,q,hqS,tp,tq,bw,bh⟩:=hS.two hx hw hn ha hb ta tb b9;have on3:∀ p∈S,¬(ch p vs vs.length).length<3:=λp RH=>by obtain⟨A,B,rfl⟩:=List.append_of_mem RH;exact rk.on hc hp hv hx hS
 have fG:=hS.sub p RH;have pw:=hS.sub q hqS;obtain⟨i,ri,hi,ci,fi⟩:=aGO hp hv fG (on3 p RH);obtain⟨j,rj,hj,cj,fj⟩:=aGO hp hv pw (on3 q hqS);have JH:=hp ri (cL hi);have hrj:=hp rj (cL hj);refine⟨i,j,λe=>?_,(dZ.1 hi).1,(dZ.1 hj).1,λk r hk=>⟨λ⟨h1,h2⟩=>?_,?_⟩⟩
 ·subst e;rw[hi]at hj;injection hj with hj;subst hj;obtain⟨k,hk,e⟩:=(XE (hp p fG) (hp q pw)).1 (ci.symm.trans cj);exact bw ⟨k,hk,by rw[e];rfl⟩
 ·have hr:=cL hk;have uD:=hp r hr;rcases bh r hr h2 with h|h|⟨d,h⟩
  ·exact .inl (X7 hk hi h1 fi ((X6 uD h2 tp h (hp p fG)).trans ci.symm))
  ·exact .inr (X7 hk hj h1 fj ((X6 uD h2 tq h (hp q pw)).trans cj.symm))
  ·exact(aUe hv uD (aGP hp hv hk h1) h).elim
 ·rintro(rfl|rfl)
  ·rw[hi]at hk;injection hk with hk;subst hk;exact⟨fi,(XM JH (hp p fG) ci w).2.2 tp⟩
  ·rw[hj]at hk;injection hk with hk;subst hk;exact⟨fj,(XM hrj (hp q pw) cj w).2.2 tq⟩
theorem X9(i:Nat):gW ps vs i=[]\/∃ r l,ps[i]?=some r/\gW ps vs i=[(i,l)]:=by
 unfold gW;cases h:ps[i]? with
 |none=>exact .inl rfl
 |some r=>
  dsimp only;unfold qe;split
  ·exact .inl rfl
  ·split
   ·exact .inl rfl
   ·split
    ·exact .inr ⟨r,_,rfl,rfl⟩
    ·exact .inl rfl
end
end
section
open CR OF V3
section
variable{F:Type}[OF F]
def oQ(a b:V3 F):V3 F:=smul (a+b) (1+1)⁻¹
theorem aUf:(0:F)<1+1:=OF.add_pos OF.zero_lt_one OF.zero_lt_one
theorem RJ(m a b:V3 F):dot m (oQ a b)+dot m (oQ a b)=dot m a+dot m b:=by unfold oQ;have h:(1+1:F)*(1+1)⁻¹=1:=OF.jz _ (OF.ne_of_gt aUf);rw[gk,jm];generalize dot m a+dot m b=x;generalize (1+1:F)⁻¹=y at *;rw[CR.add_mul,CR.one_mul]at h;rw[<-CR.mul_add,h,CR.mul_one]
theorem aGQ{x a b d:F}(h:x+x=a+b)(ha:a<=d)(hb:b<=d):x<=d:=OF.not_lt.1 λk=>by have h1:=OF.add_lt_add k k;rw[h]at h1;exact OF.lt_irrefl _ (OF.lt_of_lt_of_le h1 (OF.add_le_add ha hb))
theorem aUg{x a b d:F}(h:x+x=a+b)(ha:a<=d)(hb:b<=d)(e:x=d):a=d/\b=d:=by
 subst e;constructor
 ·refine OF.le_antisymm ha (OF.not_lt.1 λk=>?_);have:=OF.add_lt_add_of_lt_of_le k hb;rw[h]at this;exact OF.lt_irrefl _ this
 ·refine OF.le_antisymm hb (OF.not_lt.1 λk=>?_);have:=OF.add_lt_add_of_le_of_lt ha k;rw[h]at this;exact OF.lt_irrefl _ this
variable{ps:List (HS F)}{a b w u v:V3 F}{p r s:HS F}
theorem ev.oQ(ha:ev ps a)(hb:ev ps b):ev ps (oQ a b):=λp hp=>aGQ (RJ p.n a b) (ha p hp) (hb p hp)
theorem aGR(ha:ev ps a)(hb:ev ps b)(hp:p∈ps)(h:cB p (oQ a b)):cB p a/\cB p b:=aUg (RJ p.n a b) (ha p hp) (hb p hp) h
theorem aGS(ha:cB p a)(hb:cB p b):cB p (oQ a b):=by have h:=RJ p.n a b;rw[show dot p.n a=p.d from ha,show dot p.n b=p.d from hb]at h;refine OF.le_antisymm (aGQ h (OF.le_refl _) (OF.le_refl _)) (OF.not_lt.1 λk=>?_);have:=OF.add_lt_add k k;rw[h]at this;exact OF.lt_irrefl _ this
theorem aUh(ha:ev ps a)(hb:ev ps b)(b9:a≠b):¬j8 ps (oQ a b):=by
 rintro⟨_,p,hp,q,hq,r,hr,hd,tp,tq,tr⟩
 have z:∀{p:HS F},p∈ps->cB p (oQ a b)->dot p.n (b-a)=0:=λhp tp=>by obtain⟨h1,h2⟩:=aGR ha hb hp tp;rw[hZ,show dot _ b=_ from h2,show dot _ a=_ from h1,OF.sub_self]
 exact b9 (V3.sub_eq_zero.1 (Ge hd (z hp tp) (z hq tq) (z hr tr))).symm
theorem aUi(hr:r∈ps)(h:j8 (ps++[⟨-r.n,-r.d⟩]) v):j8 ps v/\cB r v:=by
 obtain⟨h0,a,ha,b,hb,c,hc,hd,ta,tb,tc⟩:=h;have cC:ev ps v:=λq hq=>h0 q (tS _ hq);have ht:cB r v:=by have h1:dot r.n v<=r.d:=cC r hr;have h2:dot (-r.n) v<=-r.d:=h0 ⟨-r.n,-r.d⟩ s_;rw[ya,<-OF.sub_nonneg,show -r.d - -dot r.n v=dot r.n v-r.d from jP r.d (dot r.n v) (λa b=>-a - -b) (λa b=>b-a) d_,OF.sub_nonneg]at h2;exact OF.le_antisymm h1 h2
 have own:∀{a:HS F},a∈ps++[⟨-r.n,-r.d⟩]->cB a v->∃ a'∈ps,cB a' v/\(a'.n=a.n\/a'.n=-a.n):=λ{a} ha ta=>by
  rw[eX,Cm]at ha;rcases ha with ha|rfl
  ·exact⟨a,ha,ta,.inl rfl⟩
  ·exact⟨r,hr,ht,.inr (V3.neg_neg _).symm⟩
 have turn:∀{x x' y z:V3 F},x'=x\/x'=-x->bA x y z≠0->bA x' y z≠0:=λ{x x' y z} h k=>by
  rcases h with rfl|rfl
  ·exact k
  ·intro e;apply k;rw[show bA (-x) y z=-bA x y z from ring [x,y,z] [] (λV _=>bA (-V 0) (V 1) (V 2)) (λV _=>-bA (V 0) (V 1) (V 2)) d_]at e;rw[<-CR.neg_neg (bA x y z),e,CR.neg_zero]
 obtain⟨a',a1,a2,a3⟩:=own ha ta;obtain⟨b',b1,b2,b3⟩:=own hb tb;obtain⟨c',c1,c2,c3⟩:=own hc tc;refine⟨⟨cC,a',a1,b',b1,c',c1,?_,a2,b2,c2⟩,ht⟩;have h1:=turn a3 hd;rw[Gd]at h1;have h2:=turn b3 h1;rw[Gd]at h2;have h3:=turn c3 h2;rwa[Gd]at h3
theorem aUj(hc:Cl ps)(hp:gB ps)(hr:r∈ps)(hw:ev ps w)(tw:cB r w)(hu:u≠0)(hru:dot r.n u=0)(vz:∀ v,j8 ps v->cB r v->dot u v<=dot u w):∃ q∈ps,cB q w/\0<dot q.n u:=by
 apply iP;intro fU;have bh:∀ q∈ps,cB q w->dot q.n u<=0:=λq hq tq=>OF.not_lt.1 λk=>fU ⟨q,hq,tq,k⟩;obtain⟨e,he,hs⟩:=Rq (ps.map λm=>if OF.aH (m.d-dot m.n w)=1 then(dot m.n u,m.d-dot m.n w)else(0,1)) λx hx=>by
  obtain⟨m,_,rfl⟩:=db.1 hx;split
  ·rename_i hs;exact OF.gj.2 hs
  ·exact OF.zero_lt_one
 have cC:ev ps (w+smul u e):=λm hm=>by
  rw[jm,gk];have h1:dot m.n w<=m.d:=hw m hm;by_cases tX:OF.aH (m.d-dot m.n w)=1
  ·have:=hs _ (db.2 ⟨m,hm,rfl⟩);rw[aB tX]at this;have:=(OF.add_le_add_left (dot m.n w)).2 this;rwa[show dot m.n w+(m.d-dot m.n w)=m.d from jP (dot m.n w) m.d (λa d=>a+(d-a)) (λ_ d=>d) d_]at this
  ·have ht:cB m w:=OF.le_antisymm h1 (OF.not_lt.1 λk=>tX (OF.gj.1 (OF.sub_pos.2 k)));have h2:=OF.mul_nonneg (OF.neg_nonneg.2 (bh m hm ht)) (OF.le_of_lt he);rw[CR.neg_mul,OF.neg_nonneg]at h2;have:=OF.add_le_add h1 h2;rwa[CR.add_zero]at this
 have Mf:ev (ps++[⟨-r.n,-r.d⟩]) (w+smul u e):=λm hm=>by
  rw[eX,Cm]at hm;rcases hm with hm|rfl
  ·exact cC m hm
  ·show dot (-r.n) (w+smul u e)<=-r.d;rw[ya,jm,gk,hru,CR.zero_mul,CR.add_zero,show dot r.n w=r.d from tw];exact OF.le_refl _
 have fG:gB (ps++[⟨-r.n,-r.d⟩]):=λm hm=>by
  rw[eX,Cm]at hm;rcases hm with hm|rfl
  ·exact hp m hm
  ·exact λe=>hp r hr (V3.neg_eq_zero.1 e)
 obtain⟨v,hv,hle⟩:=top (m:=u) (Cl.more hc hp λ_ hq=>tS _ hq) fG Mf;obtain⟨kC,il⟩:=aUi hr hv;have h1:=OF.le_trans hle (vz v kC il);rw[jm,gk]at h1;have h2:=(OF.add_lt_add_left (dot u w)).2 (OF.mul_pos (D1 hu) he);rw[CR.add_zero]at h2;exact OF.lt_irrefl _ (OF.lt_of_lt_of_le h2 h1)
theorem aUk{n m a b e c:V3 F}(kF:af n m≠0)(BX:dot n (b-a)=0)(hma:dot m (b-a)=0)(bw:dot n (e-a)=0)(hme:dot m (e-a)<0)(he:0<turn n a b e)(hmc:dot m (c-b)=0)(k7:dot n (c-b)<0):0<turn m b a c:=by
 have hn:n≠0:=λh=>kF (by rw[h];exact gV [m] [] (λV _=>af 0 (V 0)) (λ_ _=>0) d_);have hm:m≠0:=λh=>kF (by rw[h];exact gV [n] [] (λV _=>af (V 0) 0) (λ_ _=>0) d_);obtain⟨t,ht⟩:∃ t,b-a=smul (af n m) t:=⟨_,Lj kF BX hma⟩;unfold turn at *;rw[ht]at he;rw[show a-b=-(b-a)from Ck b a,ht];generalize e-a=f at *;generalize c-b=g at *;rw[show dot n (af (smul (af n m) t) f)=t*(dot n m*dot n f-dot n n*dot m f)from ring [n,m,f] [t] (λV S=>dot (V 0) (af (smul (af (V 0) (V 1)) (S 0)) (V 2))) (λV S=>S 0*(dot (V 0) (V 1)*dot (V 0) (V 2)-dot (V 0) (V 0)*dot (V 1) (V 2))) d_,bw,CR.mul_zero]at he;rw[show dot m (af (-(smul (af n m) t)) g)=t*(dot m m*-dot n g+dot n m*dot m g)from ring [n,m,g] [t] (λV S=>dot (V 1) (af (-(smul (af (V 0) (V 1)) (S 0))) (V 2))) (λV S=>S 0*(dot (V 1) (V 1)*-dot (V 0) (V 2)+dot (V 0) (V 1)*dot (V 1) (V 2))) d_,hmc,CR.mul_zero,CR.add_zero];have h1:0<dot n n*-dot m f:=OF.mul_pos (D1 hn) (OF.neg_pos.2 hme);have h2:0<dot n n*-dot m f*t:=by rw[show dot n n*-dot m f*t=t*(0-dot n n*dot m f)from kJ (dot n n) (dot m f) t (λa b t=>a*-b*t) (λa b t=>t*(0-a*b)) d_];exact he
 have h3:0<t:=by rw[OF.gj]at h2 ⊢;rwa[OF.OI h1]at h2
 exact OF.mul_pos h3 (OF.mul_pos (D1 hm) (OF.neg_pos.2 k7))
theorem aUl{x:V3 F}(hr:r.n≠0)(h:af r.n s.n=0)(xr:dot r.n (x-w)<0)(xs:dot s.n (x-w)<0):∃ k:F,0<k/\s.n=smul r.n k:=by
 have hn:=D1 hr;have e:s.n=smul r.n (dot r.n s.n*(dot r.n r.n)⁻¹):=by
  have h1:smul s.n (dot r.n r.n)=smul r.n (dot r.n s.n):=by rw[show smul s.n (dot r.n r.n)=smul r.n (dot r.n s.n)+af (af r.n s.n) r.n from gV [r.n,s.n] [] (λV _=>smul (V 1) (dot (V 0) (V 0))) (λV _=>smul (V 0) (dot (V 0) (V 1))+af (af (V 0) (V 1)) (V 0)) d_,h,show af (0:V3 F) r.n=0 from gV [r.n] [] (λV _=>af 0 (V 0)) (λ_ _=>0) d_,V3.add_zero]
  rw[<-Pt,<-h1,Pt,OF.jz _ (OF.ne_of_gt hn),V3.U9]
 refine⟨_,?_,e⟩;generalize dot r.n s.n*(dot r.n r.n)⁻¹=k at *;rw[e,Lh]at xs;have h1:0 < -dot r.n (x-w)*k:=by rw[CR.neg_mul];exact OF.neg_pos.2 xs
 rw[OF.gj]at h1 ⊢;rwa[OF.OI (OF.neg_pos.2 xr)]at h1
theorem aUm(d n x:V3 F):dot (af d n) x=-dot n (af d x):=ring [d,n,x] [] (λV _=>dot (af (V 0) (V 1)) (V 2)) (λV _=>-dot (V 1) (af (V 0) (V 2))) d_
theorem aUn(x:V3 F):af 0 x=0:=gV [x] [] (λV _=>af 0 (V 0)) (λ_ _=>0) d_
theorem aUo(n u:V3 F)(s t:F):dot n (af (smul u s) (smul u t))=0:=ring [n,u] [s,t] (λV S=>dot (V 0) (af (smul (V 1) (S 0)) (smul (V 1) (S 1)))) (λ_ _=>0) d_
end
end
section
open CR OF
open V3 (dot af bA smul)
section
variable{ps:c_}{vs:e_}{r s:HS K}{i j a b:Nat}
def DE(ps:c_)(vs:e_)(i a b:Nat):Prop:=∃ r,ps[i]?=some r/\gW ps vs i≠[]/\a∈ch r vs vs.length/\b∈ch r vs vs.length/\b≠a/\mP r.n (aw vs) (ch r vs vs.length) a b
theorem aGT{l:l_}(hn:l.Nodup)(h3:¬l.length<3)(a b:Nat):∃ e∈l,e≠a/\e≠b:=by
 apply iP;intro fU;have:∀ x∈l,x∈[a,b]:=λx hx=>by
  by_cases h1:x=a
  ·simp[h1]
  ·by_cases h2:x=b
   ·simp[h2]
   ·exact absurd ⟨x,hx,h1,h2⟩ fU
 have:=Jx hn this;simp at this;omega
theorem DE.rev(hc:Cl ps)(hp:gB ps)(hv:jI ps vs)(hf:nG ps)(h:DE ps vs i a b):∃ j,DE ps vs j b a/\∀ k,DE ps vs k b a->k=j:=by
 obtain⟨r,hi,fi,ha,hb,qO,hl⟩:=h;have hr:=cL hi;have uD:=hp r hr;obtain⟨la,ta⟩:=kz.1 ha;obtain⟨lb,tb⟩:=kz.1 hb;have ia:=((hv.mem _).1 (Jw la)).1;have ib:=((hv.mem _).1 (Jw lb)).1;have b9:aw vs a≠aw vs b:=λe=>qO (hv.inj la lb e).symm;obtain⟨e,he,Ya,Lm⟩:=aGT (Ha r vs) (aGP hp hv hi fi) a b;have te:=hl e he Ya Lm;obtain⟨w,hw⟩:∃ w,w=oQ (aw vs a) (aw vs b):=⟨_,rfl⟩;have iw:ev ps w:=hw▸ia.oQ ib;have tw:cB r w:=hw▸aGS ta tb;have nw:¬j8 ps w:=hw▸aUh ia ib b9;have dz:∀{q:HS K},cB q (aw vs a)->cB q (aw vs b)->dot q.n (aw vs b-aw vs a)=0:=λh1 h2=>by rw[V3.hZ,show dot _ (aw vs b)=_ from h2,show dot _ (aw vs a)=_ from h1,OF.sub_self]
 have ud:∀ x:V3 K,dot (af (aw vs b-aw vs a) r.n) x=-dot r.n (af (aw vs b-aw vs a) x):=λx=>aUm _ _ _
 -- a second pX through the Cp
 obtain⟨q,hq,tq,Lk⟩:=aUj (u:=af (aw vs b-aw vs a) r.n) hc hp hr iw tw (λh0=>by
   have h1:=ud (aw vs e-aw vs a);rw[h0,V3.aBZ]at h1;have:0<dot r.n (af (aw vs b-aw vs a) (aw vs e-aw vs a)):=te;rw[<-OF.FP,<-h1]at this;exact OF.lt_irrefl _ this) (V3.Ci _ _) (λv cv tv=>by
   obtain⟨c,lc,rfl⟩:=aGc ((hv.mem v).2 cv);have ba:dot (af (aw vs b-aw vs a) r.n) (aw vs b-aw vs a)=0:=by rw[V3.wE];exact V3.Gb _ _
   have mw:dot (af (aw vs b-aw vs a) r.n) w=dot (af (aw vs b-aw vs a) r.n) (aw vs a):=by
    have h1:=RJ (af (aw vs b-aw vs a) r.n) (aw vs a) (aw vs b);rw[V3.hZ]at ba;rw[OF.sub_eq_zero.1 ba,<-hw]at h1;rcases OF.lt_trichotomy (dot (af (aw vs b-aw vs a) r.n) w) (dot (af (aw vs b-aw vs a) r.n) (aw vs a))with h|h|h
    ·have:=OF.add_lt_add h h;rw[h1]at this;exact absurd this (OF.lt_irrefl _)
    ·exact h
    ·have:=OF.add_lt_add h h;rw[h1]at this;exact absurd this (OF.lt_irrefl _)
   rw[mw,<-OF.sub_nonneg,<-OF.Im,OF.neg_sub,<-V3.hZ];by_cases fB:c=a
   ·subst fB;rw[V3.sub_self,V3.vy];exact OF.le_refl _
   by_cases ku:c=b
   ·subst ku;exact OF.le_of_eq ba
   rw[ud,OF.Im];exact OF.le_of_lt (hl c (kz.2 ⟨lc,tv⟩) fB ku))
 have hrq:af r.n q.n≠0:=λh0=>by have:=Pw uD h0 (V3.Ci (aw vs b-aw vs a) r.n);rw[this]at Lk;exact OF.lt_irrefl _ Lk
 obtain⟨i',j',nh,iF,fY,hk⟩:=jI.two hc hp hv hf iw nw ⟨r,hr,q,hq,tw,tq,hrq⟩;obtain⟨x,hx⟩:=hf
 -- one of the two is the given CP
 obtain⟨j,Js,oE,hk⟩:∃ j,j<ps.length/\j≠i/\∀ k r,ps[k]?=some r->((gW ps vs k≠[]/\cB r w)↔k=i\/k=j):=by
  rcases(hk i r hi).1 ⟨fi,tw⟩with e|e
  ·subst e;exact⟨j',fY,kO nh,hk⟩
  ·subst e;exact⟨i',iF,nh,λk r h=>(hk k r h).trans Or.comm⟩
 have hj:=aW Js;generalize ps[j]=s at hj;obtain⟨fj,tj⟩:=(hk j s hj).2 (.inr rfl);have hs:=cL hj;obtain⟨sa,sb⟩:=aGR ia ib hs (hw▸tj);have Bw:af r.n s.n≠0:=λh0=>by obtain⟨k,x7,ek⟩:=aUl uD h0 (RG hx r hr tw) (RG hx s hs tj);exact oE (X7 hj hi fj fi (X6 uD tw tj ⟨k,x7,ek⟩ (hp s hs)).symm)
 have onj:∀{c},c∈ch s vs vs.length->c<vs.length/\ev ps (aw vs c)/\cB s (aw vs c):=λh=>by obtain⟨h1,h2⟩:=kz.1 h;exact⟨h1,((hv.mem _).1 (Jw h1)).1,h2⟩
 have ne0:∀{p q:HS K} {y c:Nat},p∈ps->q∈ps->y=a\/y=b->c∈ch q vs vs.length->c≠a->c≠b->cB p (aw vs a)->cB p (aw vs b)->a∈ch q vs vs.length->b∈ch q vs vs.length->af p.n q.n≠0->dot p.n (aw vs c-aw vs y)<0:=λ{p q y c} GJ hqq hy hcq fB ku pa pb aq bq F1=>by
  obtain⟨lc,tc⟩:=kz.1 hcq;have ic:=((hv.mem _).1 (Jw lc)).1;have py:dot p.n (aw vs y)=p.d:=by rcases hy with rfl|rfl;exact pa;exact pb
  rw[V3.hZ,py,<-OF.neg_pos,OF.neg_sub,OF.sub_pos];refine(OF.nX (ic p GJ)).resolve_right λhpc=>?_;have qz:dot q.n (aw vs c-aw vs a)=0:=by rw[V3.hZ,show dot _ (aw vs c)=_ from tc,show dot _ (aw vs a)=_ from(kz.1 aq).2,OF.sub_self]
  have pz:dot p.n (aw vs c-aw vs a)=0:=by rw[V3.hZ,hpc,show dot _ (aw vs a)=_ from pa,OF.sub_self]
  have qb:dot q.n (aw vs b-aw vs a)=0:=dz (kz.1 aq).2 (kz.1 bq).2;have pb':dot p.n (aw vs b-aw vs a)=0:=dz pa pb;obtain⟨t1,e1⟩:∃ t,aw vs b-aw vs a=smul (af p.n q.n) t:=⟨_,V3.Lj F1 pb' qb⟩;obtain⟨t2,e2⟩:∃ t,aw vs c-aw vs a=smul (af p.n q.n) t:=⟨_,V3.Lj F1 pz qz⟩;refine(hv.conv (p:=q)).PB (hp q hqq) aq bq hcq (kO qO) (kO fB) (kO ku) ?_;unfold turn;rw[e1,e2];exact aUo _ _ _ _
 have aj:a∈ch s vs vs.length:=kz.2 ⟨la,sa⟩;have bj:b∈ch s vs vs.length:=kz.2 ⟨lb,sb⟩;have JZ:af s.n r.n≠0:=λh0=>Bw (by rw[V3.Gc,h0,V3.neg_zero]);have me:dot s.n (aw vs e-aw vs a)<0:=ne0 hs hr (.inl rfl) he Ya Lm sa sb ha hb JZ;have re:dot r.n (aw vs e-aw vs a)=0:=by rw[V3.hZ,show dot _ (aw vs e)=_ from(kz.1 he).2,show dot _ (aw vs a)=_ from ta,OF.sub_self]
 refine⟨j,⟨s,hj,fj,bj,aj,kO qO,λc nZ ku fB=>?_⟩,λk gL=>?_⟩
 ·refine aUk Bw (dz ta tb) (dz sa sb) re me te ?_ (ne0 hr hs (.inr rfl) nZ fB ku ta tb aj bj Bw);rw[V3.hZ,show dot _ (aw vs c)=_ from(kz.1 nZ).2,show dot _ (aw vs b)=_ from sb,OF.sub_self]
 ·obtain⟨t,ht,ft,hbt,l4,_,al⟩:=gL;have tt:cB t w:=hw▸aGS (kz.1 l4).2 (kz.1 hbt).2;rcases(hk k t ht).1 ⟨ft,tt⟩with rfl|h
  ·exfalso;rw[hi]at ht;injection ht with ht;subst ht;have h1:=al e he Lm Ya;rw[Gi,Vd,<-Gi]at h1;have h2:=OF.neg_pos.1 h1;exact OF.lt_irrefl _ (OF.lt_trans te (by rwa[Gi]at h2))
  ·exact h
end
section
variable{F:Type}[OF F]
def ou(l:List F):F:=l.foldr (·+·) 0
theorem yV(a:F)(l:List F):ou (a::l)=a+ou l:=rfl
theorem RK:∀ l m:List F,ou (l++m)=ou l+ou m
 |[],m=>(CR.zero_add _).symm
 |a::l,m=>by rw[Dt,yV,yV,RK l m,CR.add_assoc]
theorem aUp{l m:List F}(h:l.Perm m):ou l=ou m:=by
 induction h with
 |nil=>rfl
 |cons x _ ih=>rw[yV,yV,ih]
 |swap x y l=>rw[yV,yV,yV,yV,CR.add_left_comm]
 |trans _ _ h1 h2=>rw[h1,h2]
theorem aGU{α:Type}(f:α->F):∀ l:List α,ou (l.map λx=>-f x)=-ou (l.map f)
 |[]=>CR.neg_zero.symm
 |a::l=>by rw[oZ,oZ,yV,yV,aGU f l,CR.B3]
theorem aGV{α:Type}(f:α->List F):∀ l:List α,ou (l.flatMap f)=ou (l.map λx=>ou (f x))
 |[]=>rfl
 |a::l=>by rw[List.flatMap_cons,RK,oZ,yV,aGV f l]
theorem aUq{a:F}(h:a=-a):a=0:=by
 rcases OF.lt_trichotomy a 0 with k|k|k
 ·have:=OF.neg_pos.2 k;rw[<-h]at this;exact absurd (OF.lt_trans this k) (OF.lt_irrefl _)
 ·exact k
 ·have:=OF.FP.2 k;rw[<-h]at this;exact absurd (OF.lt_trans this k) (OF.lt_irrefl _)
end
def uP(h:Nat):List Nat->List (Nat×Nat)
 |[]=>[]
 |[x]=>[(x,h)]
 |x::y::t=>(x,y)::uP h (y::t)
def JI:List Nat->List (Nat×Nat)
 |[]=>[]
 |a::m=>uP a (a::m)
theorem RL(h:Nat):∀ l:List Nat,(uP h l).map (·.1)=l
 |[]=>rfl
 |[x]=>rfl
 |x::y::t=>by rw[uP,oZ,RL h (y::t)]
theorem aGW{R:Nat->Nat->Prop}(h:Nat):∀ l:List Nat,mA R (l++[h])->∀ p∈uP h l,R p.1 p.2
 |[],_,p,hp=>by cases hp
 |[x],hs,p,hp=>by simp[uP]at hp;subst hp;exact hs.1
 |x::y::t,hs,p,hp=>by
  rcases cD.1 hp with rfl|hp
  ·exact hs.1
  ·exact aGW h (y::t) hs.2 p hp
theorem aGX(h:Nat):∀ l:List Nat,∀ p∈uP h l,p.2=h\/p.2∈l
 |[],p,hp=>by cases hp
 |[x],p,hp=>by simp[uP]at hp;subst hp;exact .inl rfl
 |x::y::t,p,hp=>by
  rcases cD.1 hp with rfl|hp
  ·exact .inr s_
  ·exact(aGX h (y::t) p hp).imp id (bI _)
section
variable{ps:c_}{vs:e_}{r s:HS K}{i j a b:Nat}
theorem JJ(hp:gB ps)(hv:jI ps vs){f:Nat×List Nat}(h:f∈cN ps vs ps.length):∃ r,ps[f.1]?=some r/\gW ps vs f.1=[f]/\¬(ch r vs vs.length).length<3/\
  ∃ a m,f.2=a::m/\(a::m).Nodup/\(∀ x,x∈a::m↔x∈ch r vs vs.length)/\mA (mP r.n (aw vs) (ch r vs vs.length)) (a::m++[a]):=by
 unfold cN at h;rw[wI]at h;obtain⟨i,hi,hf⟩:=h;have lQ:=ki.1 hi;have hr:=aW lQ;have uD:=hp _ (df lQ);generalize ps[i]=r at *;have e:gW ps vs i=if lW ps i r then[]else if(ch r vs vs.length).length<3 then[]else[(i,order r.n (aw vs) (ch r vs vs.length))]:=by unfold gW;rw[hr];exact hv.CP uD i
 by_cases hm:lW ps i r=true
 ·rw[e,aB hm]at hf;cases hf
 rw[az hm]at e;by_cases h3:(ch r vs vs.length).length<3
 ·rw[e,aB h3]at hf;cases hf
 rw[az h3]at e;rw[e,Cm]at hf;subst hf;refine⟨r,hr,e,h3,?_⟩;have hc:=hv.conv (p:=r);have hs:=hv.sort (p:=r);clear e;generalize ch r vs vs.length=on at *
 match on,h3,hc,hs with
 |a::b::l,_,hc,hs=>
  obtain⟨m,e1,e2,e3,e4⟩:=aCc uD hc hs;exact⟨a,m,e1,e2,e3,e4⟩
 |[],h3,_,_=>exact(h3 s_).elim
 |[_],h3,_,_=>exact(h3 s_).elim
theorem aUr(hn:(ch r vs vs.length).Nodup)(h3:¬(ch r vs vs.length).length<3){n:V3 K}(h:mP n (aw vs) (ch r vs vs.length) a b):b≠a:=by
 rintro rfl
 obtain⟨e,he,h1,_⟩:=aGT hn h3 b b;have:=h e he h1 h1;unfold turn at this;rw[V3.sub_self,show af (0:V3 K) (aw vs e-aw vs b)=0 from aUn _,V3.vy]at this;exact OF.lt_irrefl _ this
theorem RM(hp:gB ps)(hv:jI ps vs){f:Nat×List Nat}(h:f∈cN ps vs ps.length){e:Nat×Nat}(he:e∈JI f.2):DE ps vs f.1 e.1 e.2:=by
 obtain⟨r,hr,Cb,h3,a,m,e1,fv,nS,bT⟩:=JJ hp hv h;rw[e1]at he;have hl:=aGW a (a::m) bT e he;have hx:e.1∈a::m:=by have:e.1∈(uP a (a::m)).map (·.1):=db.2 ⟨e,he,rfl⟩;rwa[RL]at this
 have hy:e.2∈a::m:=(aGX a (a::m) e he).elim (λh=>by rw[h];exact aR ..) id;exact⟨r,hr,by rw[Cb];exact List.cons_ne_nil _ _,(nS _).1 hx,(nS _).1 hy,aUr (Ha r vs) h3 hl,hl⟩
theorem aUs(hp:gB ps)(hv:jI ps vs)(h:DE ps vs i a b):∃ f∈cN ps vs ps.length,f.1=i/\(a,b)∈JI f.2:=by
 obtain⟨r,hr,hf,ha,hb,qO,hl⟩:=h;obtain⟨f,F4⟩:∃ f,f∈gW ps vs i:=List.exists_mem_of_ne_nil _ hf;have hi:=(dZ.1 hr).1;have nS:f∈cN ps vs ps.length:=by unfold cN;exact wI.2 ⟨i,ki.2 hi,F4⟩
 have kX:f.1=i:=by
  rcases X9 (ps:=ps) (vs:=vs) i with e|⟨_,l,_,e⟩
  ·rw[e]at F4;cases F4
  ·rw[e,Cm]at F4;rw[F4]
 obtain⟨r',sD,_,_,a',m,e1,fv,hm,bT⟩:=JJ hp hv nS;rw[kX,hr]at sD;injection sD with sD;subst sD;refine⟨f,nS,kX,?_⟩;have vg:a∈(uP a' (a'::m)).map (·.1):=by rw[RL];exact(hm a).2 ha
 obtain⟨e,he,rfl⟩:=db.1 vg;have pK:e∈JI f.2:=by rw[e1];exact he
 obtain⟨r2,lk,_,_,gE,aUt,jr⟩:=RM hp hv nS pK;rw[kX,hr]at lk;injection lk with lk;subst lk;have cC:∀ a∈ch r vs vs.length,∀ b∈ch r vs vs.length,aw vs a=aw vs b->a=b:=λa ha b hb e=>hv.inj (kz.1 ha).1 (kz.1 hb).1 e;have:=Vl (pt:=aw vs) (n:=r.n) cC hb gE qO aUt hl jr;rw[this];exact pK
def A3(ps:c_)(vs:e_):List (Nat×Nat):=(cN ps vs ps.length).flatMap λf=>JI f.2
theorem aGY(hp:gB ps)(hv:jI ps vs):(a,b)∈A3 ps vs↔∃ i,DE ps vs i a b:=by unfold A3;rw[wI];exact⟨λ⟨f,h1,h2⟩=>⟨f.1,RM hp hv h1 h2⟩,λ⟨i,h⟩=>by obtain⟨f,h1,_,h2⟩:=aUs hp hv h;exact⟨f,h1,h2⟩⟩
theorem DE.uniq(hc:Cl ps)(hp:gB ps)(hv:jI ps vs)(hf:nG ps)(h1:DE ps vs i a b)(h2:DE ps vs j a b):i=j:=by obtain⟨k,hk,_⟩:=h1.rev hc hp hv hf;obtain⟨m,_,hm⟩:=hk.rev hc hp hv hf;rw[hm i h1,hm j h2]
theorem aUu(ps:c_)(vs:e_)(n:Nat):(cN ps vs n).Pairwise λf g=>f.1≠g.1:=by
 unfold cN;rw[List.pairwise_flatMap];refine⟨λi _=>?_,(List.nodup_range (n:=n)).imp λ{i j} nh f hf g hg=>?_⟩
 ·rcases X9 (ps:=ps) (vs:=vs) i with e|⟨_,l,_,e⟩<;>rw[e]
  ·exact .nil
  ·exact Vn ..
 ·have one:∀{i:Nat} {f:Nat×List Nat},f∈gW ps vs i->f.1=i:=λ{i f} hf=>by
   rcases X9 (ps:=ps) (vs:=vs) i with e|⟨_,l,_,e⟩
   ·rw[e]at hf;cases hf
   ·rw[e,Cm]at hf;rw[hf]
  rw[one hf,one hg];exact nh
theorem aUv(hc:Cl ps)(hp:gB ps)(hv:jI ps vs)(hf:nG ps):(A3 ps vs).Nodup:=by
 unfold A3;refine List.pairwise_flatMap.2 ⟨λf MU=>?_,?_⟩
 ·obtain⟨r,_,_,_,a,m,e1,fv,_,_⟩:=JJ hp hv MU;rw[e1];have:((uP a (a::m)).map (·.1)).Nodup:=by rw[RL];exact fv
  exact List.Pairwise.of_map (·.1) (λx y h e=>h (by rw[e])) this
 ·refine List.Pairwise.imp_of_mem (λ{f g} MU hgm bw=>?_) (aUu ps vs ps.length)
  rintro e he e' pK rfl
  exact bw ((RM hp hv MU he).uniq hc hp hv hf (RM hp hv hgm pK))
theorem aUw(hc:Cl ps)(hp:gB ps)(hv:jI ps vs)(hf:nG ps)(φ:Nat->Nat->K)(aUx:∀ x y,φ y x=-φ x y):ou ((A3 ps vs).map λe=>φ e.1 e.2)=0:=by
 have fv:=aUv hc hp hv hf;have hsw:(A3 ps vs).Perm ((A3 ps vs).map λe=>(e.2,e.1)):=by
  refine(aS3 fv ?_).2 λe=>?_
  ·exact List.Pairwise.map _ (λx y h e=>h (by have:=Prod.mk.inj e;exact Prod.ext this.2 this.1)) fv
  ·obtain⟨x,y⟩:=e;rw[db];have rv:∀{x y},(x,y)∈A3 ps vs->(y,x)∈A3 ps vs:=λh=>by obtain⟨i,h⟩:=(aGY hp hv).1 h;obtain⟨j,hj,_⟩:=h.rev hc hp hv hf;exact(aGY hp hv).2 ⟨j,hj⟩
   exact⟨λh=>⟨(y,x),rv h,rfl⟩,λ⟨e',h1,h2⟩=>by have:=Prod.mk.inj h2;rw[<-this.1,<-this.2];exact rv h1⟩
 have h1:=aUp (hsw.map λe=>φ e.1 e.2);rw[Tt]at h1;have h2:(λe:Nat×Nat=>φ e.1 e.2)∘(λe:Nat×Nat=>(e.2,e.1))=λe=>-φ e.1 e.2:=by funext e;exact aUx e.1 e.2
 rw[h2,aGU]at h1;exact aUq h1
end
section
variable{F:Type}[OF F]
def A4(φ:Nat->Nat->F):List Nat->F
 |x::y::t=>φ x y+A4 φ (y::t)
 |_=>0
theorem aGZ(g:Nat->Nat->F)(hg:∀ x y,g y x=-g x y)(a:Nat):∀(x:Nat) (t:l_),A4 (λx y=>g a x+g x y+g y a) (x::t)=ou ((JI (a::x::t)).map λe=>g e.1 e.2)
 |x,[]=>by show(0:F)=g a x+(g x a+0);rw[hg a x,CR.add_zero,CR.add_neg]
 |x,y::t=>by have ih:=aGZ g hg a y t;have e:∀ z (l:l_),ou ((JI (a::z::l)).map λe=>g e.1 e.2)=g a z+ou ((uP a (z::l)).map λe=>g e.1 e.2):=λz l=>rfl;rw[e]at ih ⊢;show g a x+g x y+g y a+A4 _ (y::t)=g a x+(g x y+ou ((uP a (y::t)).map λe=>g e.1 e.2));rw[ih,hg a y];generalize ou ((uP a (y::t)).map λe=>g e.1 e.2)=s;generalize g a y=p;generalize g a x=q;generalize g x y=r;exact zX p q r s (λp q r s=>q+r+-p+(p+s)) (λp q r s=>q+(r+s)) d_
theorem aG0{φ:Nat->Nat->F}{R:Nat->Nat->Prop}:∀{m:l_},mA R m->(∀ x∈m,∀ y∈m,R x y->0<φ x y)->2<=m.length->0<A4 φ m
 |[],_,_,h=>by simp at h
 |[_],_,_,h=>by simp at h
 |[x,y],hs,hp,_=>by show 0<φ x y+0;rw[CR.add_zero];exact hp x s_ y s_ hs.1
 |x::y::z::t,hs,hp,_=>OF.add_pos (hp x s_ y s_ hs.1) (aG0 (m:=y::z::t) hs.2 (λu hu v hv=>hp u (bI _ hu) v (bI _ hv)) s_)
theorem aG1{R:Nat->Nat->Prop}:∀{l r:l_},mA R (l++r)->mA R l
 |[],_,_=>trivial
 |[_],_,_=>trivial
 |_::y::t,r,h=>⟨h.1,aG1 (l:=y::t) (r:=r) h.2⟩
theorem aUy{R:Nat->Nat->Prop}:∀{l:l_},mA R (a::l)->mA R l
 |[],_=>trivial
 |_::_,h=>h.2
end
section
variable{ps:c_}{vs:e_}
def MV(g:Nat->Nat->Nat->K):List Nat->K
 |[]=>0
 |a::m=>A4 (g a) m
def MW(ps:c_)(vs:e_)(g:Nat->Nat->Nat->K):K:=ou ((cN ps vs ps.length).map λf=>MV g f.2)
theorem aUz(hc:Cl ps)(hp:gB ps)(hv:jI ps vs)(hf:nG ps)(g:Nat->Nat->K)(hg:∀ x y,g y x=-g x y):MW ps vs (λa x y=>g a x+g x y+g y a)=0:=by
 have:=aUw hc hp hv hf g hg;unfold A3 at this;rw[List.map_flatMap,aGV]at this;unfold MW;rw[<-this]
 congr 1
 refine xj λf MU=>?_;obtain⟨r,_,_,h3,a,m,e1,fv,nS,_⟩:=JJ hp hv MU;have hm:m≠[]:=by
  rintro rfl
  have:=Jx (Ha r vs) (J:=[a]) λx hx=>(nS x).2 hx;simp at this;omega
 rw[e1];cases m with
 |nil=>exact absurd rfl hm
 |cons x t=>exact aGZ g hg a x t
def aG2(ps:c_)(vs:e_):K:=MW ps vs λa x y=>bA (aw vs a) (aw vs x) (aw vs y)
end
section
variable{F:Type}[OF F]
end
section
variable{ps:c_}{vs:e_}
end
end
theorem aUA{ns:l_}:∀{Os cz:aM},cz.map (·.1)=Os.map (·.1)++ns->∀ k,ai cz k=none↔(ai Os k=none/\ns.contains k=false):=by
 have look:∀(l:aM) (k:Nat),ai l k=none↔(l.map (·.1)).contains k=false:=by
  intro l k;induction l with
  |nil=>exact⟨λ_=>rfl,λ_=>rfl⟩
  |cons p l ih=>
   obtain⟨a,x⟩:=p;rw[show ai ((a,x)::l) k=if Nat.beq a k=true then some x else ai l k from rfl,oZ,List.contains_cons];by_cases h:Nat.beq a k=true
   ·rw[aB h];have:=k9 h;subst this;simp
   ·rw[az h,ih];have:(k==a)=false:=by
     cases e:k==a with
     |false=>rfl
     |true=>have:=eq_of_beq e;subst this;exact absurd (Hu k) h
    rw[this,zH]
 intro Os cz h k;rw[look,look,h,List.contains_append,Np]
section
variable{P:j_}{B:aa}{N:Nat}
theorem aG3(ho:xn P o=some 1){l:List Int}(hi:l[i]?=some z):
  cI P B o [.pointer (some ⟨m,0,some 9⟩),vI i] [(k,none),(m,some (.fact (eA l)))] (.pointer (some ⟨k,0,some 7⟩)) [(k,.view [iV z])]:=by
 unfold xn at ho;split at ho
 ·rename_i t x y ck;split at ho
  ·rename_i e ht;split at ho
   ·rename_i inf Bg;injection ho with ho;refine iM.step λι c ρ w aU hm oW=>?_;rw[ck]at aU;obtain⟨v,v2,hu,hc,dq⟩:=js aU;have dS:ρ x=v:=by simp[Op.operands]at hu;exact hu.1
    have e8:ρ y=v2:=by simp[Op.operands]at hu;exact hu.2
    have dq:=dq.fD rfl;have GY:c m=some (.fact (eA l)):=oW (m,some (.fact (eA l))) s_;have k0:c k=none:=oW (k,none) s_;have GW:=Ah hm GY hc;have loc:ι m=some (.val v):=by
     obtain⟨lc,q1,u,q2,q3⟩:=hm.born m _ GY;subst q2;generalize hp:Value.pointer (some ⟨m,0,some 9⟩)=p at hc;cases hc with
     |same h=>subst hp;cases h
     |ptr h=>injection hp with hp;injection hp with hp;injection hp with _ _ hp;cases hp
     |slc h=>cases hp
     |slcN h=>cases hp
     |opq h4 h5 h6=>injection hp with hp;injection hp with hp;injection hp with iY;subst iY;exact h4
     |fn=>cases hp
     |agg=>cases hp
     |tup=>cases hp
    have al:=(dZ.1 hi).1;have hw:oj w v l.length (fN l):=GW.1;have lD:(fN l)[i]?=some (iV z):=by unfold fN;rw[sH,hi];rfl
    rcases hw.row o_ with ⟨_,q2,_⟩|⟨b,o',c',q1,q2,q3,q4⟩
    ·omega
    have hF:(eA l).cW v w b:=⟨by omega,by rw[q1];rfl⟩;have m2:aO B (dR ι k (.at b (o'+i*1) 0)) (bt c k (.view [iV z])) w:=
     hm.add k0 (.inr ⟨b,o'+i*1,0,[iV z],rfl,.cons (.same rfl) .nil,λj x hj=>by
      cases j with
      |zero=>simp at hj;subst hj;have:=q4 _ _ lD;simpa using this
      |succ j=>simp at hj⟩) n_ n_ (λb1 o1 lY _ e=>by
      injection e with e1 e2 e3;subst e1;exact⟨q3,λj y o2 ql hj hy he=>hm.apart j m y _ b o2 ql v hj hy he GY loc hF⟩)
    refine⟨_,.pointer (some ⟨b,o'+i*1,none⟩),w,gZ (hm.dE k k0),?_,m2,.inl ?_⟩
    ·have:=aL.ptr (off:=0) (fX ι k (.at b (o'+i*1) 0));rwa[jg]at this
    ·subst q1;simp only[execOp,ck,dS,e8,dq];have h0:(0:Int)<=(i:Int):=by omega
     simp[Instr.indexAt,asIntOf,jM ht,sizeOf,typeInfo,Bg,h0,zg,vI,ho];intro ga;omega
   ·cases ho
  ·cases ho
 ·cases ho
end
end Go.Proofs.YthjhinbiabcfiaaGreatDoor
