/- Solids of lists of planes: the proof of SolidOfCardSaid (the law's function answers true at every list of planes; theorem solidOf_card, last part), part 5 of 6; no condition. -/
import Derived.Test.YthccllenbnhogaaGreatDoorOC4
namespace Go.Proofs.YthccllenbnhogaaGreatDoor
open Go Go.RowKit Tryz
variable{i m k a q b j e off cc N cap len n1 n2 A:Nat}{w w':h_}{ι:Map}{p:HS K}{o:Oper}{c:g_}{f:FuncId}{B Bs:ae}{x:m_}{ps:c_}{t:Bool}{fr:aL}{ty:TypeId}{M:aC}{z:Int}{xs cells' eg pre post:ak}{α β:Type}{l:List aJ}{fs:f_}{u va res:i_}{P:j_}{F:Fact}{σ:List (Option Nat)}{acc:e_}{ks:List (Value×ak)}{ns:l_}{f':Int×List Int}
section
open V3 (dot aw cV smul)
def cF(p:HS K)(vs:e_)(j:Nat):List Nat:=(List.range j).filter λk=>decide (dot p.n (aR vs k)-p.d=0)
theorem aDr(p:HS K)(vs:e_)(j:Nat):cF p vs (j+1)=cF p vs j++(if dot p.n (aR vs j)-p.d=0 then[j]else[]):=by
 unfold cF;rw[Jj,Vq]
 congr 1
 by_cases h:dot p.n (aR vs j)-p.d=0<;>simp[h]
theorem Vr{vs:e_}{x:Nat}(h:x∈cF p vs j):x<j:=by unfold cF at h;rw[List.mem_filter,kf]at h;exact h.1
theorem Hx(p:HS K)(vs:e_)(j:Nat):(cF p vs j).length<=j:=by have:=aDs (λk=>decide (dot p.n (aR vs k)-p.d=0)) (List.range j);rw[zL]at this;exact this
def uj(ps:c_)(vs:e_)(i:Nat)(p:HS K):List (Nat×List Nat):=
 if(ps.take i).any (λq=>decide (canon p=canon q))then[]
 else if(cF p vs vs.length).length<3 then[]
 else if(order p.n (aR vs) (cF p vs vs.length)).length>2 then[(i,order p.n (aR vs) (cF p vs vs.length))]else[]
def oW(ps:c_)(vs:e_)(i:Nat):List (Nat×List Nat):=match ps[i]? with|some p=>uj ps vs i p|none=>[]
def eK(ps:c_)(vs:e_)(n:Nat):List (Nat×List Nat):=(List.range n).flatMap (oW ps vs)
theorem KG(ps:c_)(vs:e_)(n:Nat):eK ps vs (n+1)=eK ps vs n++oW ps vs n:=by unfold eK;rw[Jj,JZ];simp
theorem aO9(ps:c_)(vs:e_)(i:Nat)(p:HS K):(uj ps vs i p).length<=1:=by
 unfold uj;split
 ·exact kB _
 ·split
  ·exact kB _
  ·split
   ·exact aZ _
   ·exact kB _
theorem KH(ps:c_)(vs:e_):∀ n,(eK ps vs n).length<=n
 |0=>aZ _
 |n+1=>by
  rw[KG,jW];have h1:=KH ps vs n;have h2:(oW ps vs n).length<=1:=by
   unfold oW;split
   ·exact aO9 _ _ _ _
   ·exact kB _
  omega
def jR(f:Nat×List Nat):Int×List Int:=((f.1:Int),f.2.map λx:Nat=>(x:Int))
section
variable{Bs:ae}{ps:c_}{vs:e_}
def KI(nv j L:Nat):aL:=[(26,vI j),(24,sl 1 nv),(25,vI nv),(7,bY 3),(8,sl 4 L)]
def yX(vs:e_)(p:HS K):aC:=[(1,.view (aW vs)),(3,.aH (cS p).cs 66)]
def jE(l:l_):List Obj:=[.row (aj l) 3 1]
theorem aPa:∀ x∈yX vs p,fW m x.2:=λx hx=>by
 simp only[yX,ch,fF,fG]at hx;rcases hx with rfl|rfl
 ·exact λv hv=>iM (aX.1 (eH vs) v hv)
 ·exact λv hv=>iM (iD.flat _ v hv)
theorem Vt{l:l_}:∀ x∈jE l,fW m x:=λx hx=>by simp only[jE,ch,fF,fG]at hx;subst hx;exact λv hv=>iM (lJ _ v hv)
theorem aPb{l:l_}(hj:j<vs.length)(hp:bA m p)(mg:p.n≠0)(aK:∀ v∈vs,aF q v)(hm:100*(m+q)+1000<=az)(h63:l.length<900000)(ui:vs.length<1000000):
  ∃ σ gg,(∀ l0:List Nat,uO (yX vs p++dc [none] (jE l0)) 4 σ (KI vs.length (j+1) (l++if dot p.n (aR vs j)-p.d=0 then[j]else[]).length) (yX vs p) (jE (l++if dot p.n (aR vs j)-p.d=0 then[j]else[]))=true)/\
   ag prog Bs 59 (aE (af Tryz.f49 2)) (KI vs.length j l.length) (yX vs p++marks 4 (jE l)) 5 ⟨.normal,eY 4 σ (KI vs.length (j+1) (l++if dot p.n (aR vs j)-p.d=0 then[j]else[]).length),yX vs p++dc σ (jE (l++if dot p.n (aR vs j)-p.d=0 then[j]else[])),gg⟩:=by
 have hv:=k8 hj;have hs:=JW hp (aK _ (cL hv)) o_ mg;by_cases h:dot p.n (aR vs j)-p.d=0
 ·rw[aq h];have e:(Value.bool (OF.aA (dot p.n (aR vs j)-p.d)==0))=.bool true:=by rw[OF.MJ.1 h];rfl
  have hr:aj l++[vI j]=aj (l++[j]):=by simp[aj]
  have C9:(aj l).length=l.length*1:=by rw[mU,fY]
  have h1:=KE l;rw[show(l++[j]).length=l.length+1 by simp];unfold jE;refine⟨[some 7],8,λl0=>k_,?_⟩;generalize OF.aA (dot p.n (aR vs j)-p.d)=z at *;generalize aR vs j=v at *;generalize aj l=c0 at *;generalize aj (l++[j])=c1 at *;exact ay [.lt 27 j vs.length true (aD hj),.de Tryz.f49 29 1 vs.length j 30 hj k_,.ld Tryz.f49 30 42 1 (j*30) (.view (aW vs)) (bN v) rfl (nC hv) k_,hs.at 33,.rw 34 (.bool (z==0)) b_ e,.bs Tryz.f49 37 6 1 3 1 [0] (vI 0) [vI j] #[vI j] (.row [vI j] 3 1) rfl (λv hv=>by simp at hv;subst hv;rfl) (λv hv=>by simp at hv;subst hv;rfl) k_ rfl d_ d_ k_,.pr Tryz.f49 38 7 4 l.length 1 (l.length+1) 3 1 8 c0 6 (.row [vI j] 3 1) c1 rfl rfl rfl C9 hr (λv hv=>by simp[Obj.cells]at hv;subst hv;rfl) d_ (by simp[maxLen];omega) o_ k_,.sum 39 j 1 (j+1) rfl o_]
 ·rw[al h,gO];have e:(Value.bool (OF.aA (dot p.n (aR vs j)-p.d)==0))=.bool false:=by
   congr 1
   have:OF.aA (dot p.n (aR vs j)-p.d)≠0:=λe=>h (OF.MJ.2 e);simpa using this
  refine⟨[some 4],6,λl0=>k_,?_⟩;generalize OF.aA (dot p.n (aR vs j)-p.d)=z at *;generalize aR vs j=v at *;exact ay [.lt 27 j vs.length true (aD hj),.de Tryz.f49 29 1 vs.length j 30 hj k_,.ld Tryz.f49 30 42 1 (j*30) (.view (aW vs)) (bN v) rfl (nC hv) k_,hs.at 33,.rw 34 (.bool (z==0)) a_ e,.sum 39 j 1 (j+1) rfl o_]
theorem Vu(hp:bA m p)(mg:p.n≠0)(aK:∀ v∈vs,aF q v)(hm:100*(m+q)+1000<=az)(h63:vs.length<900000):
  ag prog Bs 59 (.block 2 (af Tryz.f49 2)) (eY 4 [none] (KI vs.length 0 0)) (yX vs p++dc [none] (jE [])) 4 ⟨.normal,[(8,sl 4 (cF p vs vs.length).length),(7,bY 3)],yX vs p++marks 4 (jE (cF p vs vs.length)),5⟩:=by
 have:=rm (P:=prog) (B:=Bs) (N:=59) (b:=aE (af Tryz.f49 2)) (next:=4) (p:=1) (r:=⟨.exit 2,[(8,sl 4 (cF p vs vs.length).length),(7,bY 3)],yX vs p++marks 4 (jE (cF p vs vs.length)),5⟩) vs.length
  (λj=>KI vs.length j (cF p vs j).length) (λ_=>yX vs p) (λj=>jE (cF p vs j)) [none] (λ_ _=>rfl) (λj _=>⟨aPa,Vt⟩) k_ k_
  (λj hj=>by have hl:=Hx p vs j;obtain⟨σ,gg,h1,h2⟩:=aPb (Bs:=Bs) (l:=cF p vs j) hj hp mg aK hm o_ o_;rw[aDr];exact⟨σ,gg,h1 _,h2⟩)
  (by generalize cF p vs vs.length=a;exact ay [.lt 27 vs.length vs.length false s_]) n_
 exact bO (id:=2) this
def fI(n nv i c:Nat):aL:=[(14,vI i),(12,sl 0 n),(13,vI n),(0,sl 0 n),(1,sl 1 nv),(5,sl 2 c)]
def fM(ps:c_)(vs:e_)(cells:ak):aC:=[(0,.view (bw ps)),(1,.view (aW vs)),(2,.row cells 50 2)]
def sW(ps:c_)(i:Nat)(p:HS K):Bool:=(ps.take i).any λq=>decide (canon p=canon q)
noncomputable def fS(hi:i<ps.length)(iE:ps[i]?=some p)(bT:∀ p∈ps,bA m p/\p.n≠0)(hm:100*m+1000<=az)(h63:ps.length<=500)(ht:sW ps i p=t)(more:bK prog Bs 59):bK prog Bs 59:=
 .lt 15 i ps.length true (aD hi)::.de Tryz.f49 17 0 ps.length i 40 hi k_::.ld Tryz.f49 18 66 0 (i*40) (.view (bw ps)) (dr p) rfl (yF iE) k_::.upto Tryz.f49 21 0 ps.length i 40 o_ k_::
  .step 23 (au Tryz.f49 23) [.func (.func 42) #[] #[],sl 0 i,.func (.func 96) #[] #[bY 3]] [(0,some (.view (bw ps))),(3,some (.aH (cS p).cs 66))] (.bool t) [] (by
   have hp:=bT p (cL iE);have hc:=T0 (g:=96) (caps:=(cS p).cs) (ps:=ps.take i) (b:=λq=>decide (canon p=canon q)) k_ (aX.2 (iD.flat _)) (by rw[je];omega) λq hq=>
    aKC hp.1 (bT q (EJ hq)).1 o_ o_ hp.2 (bT q (EJ hq)).2
   rw[show(ps.take i).any (λq=>decide (canon p=canon q))=t from ht]at hc;have hl:(ps.take i).length=i:=by rw[je];omega
   have e:bw (ps.take i)=((Obj.view (bw ps)).cells.drop 0).take (i*40):=by show _=((bw ps).drop 0).take (i*40);rw[lv];unfold bw;rw[TW iD,<-BE]
   unfold ee at hc;rw[hl,e]at hc;exact od hc (.r (x:=.view (bw ps)) rfl (dF ps) (λh=>by rw[h]) (.f (x:=.aH (cS p).cs 66) rfl (aX.2 (iD.flat _)) .nil)) (x:=.func 42) k_ k_ rfl)::more
theorem aPc{c:Nat}{cells:ak}(hi:i<ps.length)(iE:ps[i]?=some p)(bT:∀ p∈ps,bA m p/\p.n≠0)(hm:100*m+1000<=az)(h63:ps.length<=500)(ht:sW ps i p=true):
  ag prog Bs 59 (aE (af Tryz.f49 0)) (fI ps.length vs.length i c) (fM ps vs cells) 3 ⟨.normal,fI ps.length vs.length (i+1) c,fM ps vs cells,4⟩:=
 ay (fS hi iE bT hm h63 ht [.sum 57 i 1 (i+1) rfl o_])
theorem aPd{c:Nat}{cells:ak}(hi:i<ps.length)(iE:ps[i]?=some p)(bT:∀ p∈ps,bA m p/\p.n≠0)(aK:∀ v∈vs,aF q v)(hm:100*(m+q)+1000<=az)(h63:ps.length<=500)(kx:vs.length<900000)(ht:sW ps i p=false)(ho:(cF p vs vs.length).length<3):
  ag prog Bs 59 (aE (af Tryz.f49 0)) (fI ps.length vs.length i c) (fM ps vs cells) 3 ⟨.normal,fI ps.length vs.length (i+1) c,fM ps vs cells,5⟩:=by
 have hp:=bT p (cL iE);have lo:=Vu (Bs:=Bs) hp.1 hp.2 aK hm kx;generalize cF p vs vs.length=on at *;exact ay (fS hi iE bT o_ h63 ht [.code 2 _ _ _ _ _ lo,.lt 42 on.length 3 true (aD ho),.sum 57 i 1 (i+1) rfl o_])
noncomputable def fL{on l:l_}(hl:order p.n (aR vs) on=l)(hp:bA m p)(aK:∀ v∈vs,aF q v)(hm:100*(m+q)+1000<=az)(gS:∀ x∈on,x<vs.length)(h3:0<on.length)(h63:on.length<900000):aO prog Bs 59:=
 .step 47 (au Tryz.f49 47) [.func (.func 98) #[] #[],sl 1 vs.length,sl 4 on.length,bN p.n] [(5,none),(1,some (.view (aW vs))),(4,some (.row (aj on) 3 1))] (sl 5 l.length) [(5,.row (aj l) 3 1)]
  (rI (hl▸Vp h3 gS aK hp.1 hm h63) (.w (x:=.view (aW vs)) rfl (eH vs) wU (.w (x:=.row (aj on) 3 1) rfl (gQ on) (λh=>O3 h) (.p k_ .nil))) (x:=.func 98) k_ k_ (gQ l) 5)
theorem aPe{c:Nat}{cells:ak}(hi:i<ps.length)(iE:ps[i]?=some p)(bT:∀ p∈ps,bA m p/\p.n≠0)(aK:∀ v∈vs,aF q v)(hm:100*(m+q)+1000<=az)(h63:ps.length<=500)(kx:vs.length<900000)(ht:sW ps i p=false)(ho:¬(cF p vs vs.length).length<3)
  (hl:¬(order p.n (aR vs) (cF p vs vs.length)).length>2):ag prog Bs 59 (aE (af Tryz.f49 0)) (fI ps.length vs.length i c) (fM ps vs cells) 3 ⟨.normal,fI ps.length vs.length (i+1) c,fM ps vs cells,6⟩:=by
 have hp:=bT p (cL iE);have lo:=Vu (Bs:=Bs) hp.1 hp.2 aK hm kx;have gS:∀ x∈cF p vs vs.length,x<vs.length:=λx hx=>Vr hx;have hol:=Hx p vs vs.length;obtain⟨l,cW⟩:∃ l,order p.n (aR vs) (cF p vs vs.length)=l:=⟨_,rfl⟩;rw[cW]at hl;generalize cF p vs vs.length=on at *;exact ay (fS hi iE bT o_ h63 ht [.code 2 _ _ _ _ _ lo,.lt 42 on.length 3 false (aQ ho),fL cW hp.1 aK hm gS o_ o_,.gt 50 l.length 2 false (aQ o_),.sum 57 i 1 (i+1) rfl o_])
theorem aDt{it:TypeInfo}{z:i_}(h1:prog.info? 50=some it)(h2:it.zero=some z):∀ v∈z.cells.toList,flat v=true:=by have e:(prog.info? 50).bind (·.zero)=some (.agg #[vI 0,.slice none 0 0]):=k_;rw[h1]at e;have e:it.zero=some (.agg #[vI 0,.slice none 0 0]):=e;rw[h2]at e;injection e with e;subst e;intro v hv;have hv:v∈[vI 0,.slice none 0 0]:=hv;simp at hv;rcases hv with rfl|rfl<;>rfl
theorem aPf{c:Nat}{cells:ak}(hi:i<ps.length)(iE:ps[i]?=some p)(bT:∀ p∈ps,bA m p/\p.n≠0)(aK:∀ v∈vs,aF q v)(hm:100*(m+q)+1000<=az)(h63:ps.length<=500)(kx:vs.length<900000)(ht:sW ps i p=false)(ho:¬(cF p vs vs.length).length<3)
  (hl:(order p.n (aR vs) (cF p vs vs.length)).length>2) (hc:cells.length=c*2) (KJ:c<=500) (Dp:∀ v∈cells,v.oneCell'=true) :
  ag prog Bs 59 (aE (af Tryz.f49 0)) (fI ps.length vs.length i c) (fM ps vs cells) 3
   ⟨.normal,[(14,vI (i+1)),(12,sl 0 ps.length),(13,vI ps.length),(0,sl 0 ps.length),(1,sl 1 vs.length),(5,sl 7 (c+1))],[(0,.view (bw ps)),(1,.view (aW vs)),(5,.row (aj (order p.n (aR vs) (cF p vs vs.length))) 3 1),(7,.row (cells++[vI i,sl 5 (aj (order p.n (aR vs) (cF p vs vs.length))).length]) 50 2)],8⟩:=by
 have hp:=bT p (cL iE);have lo:=Vu (Bs:=Bs) hp.1 hp.2 aK hm kx;have gS:∀ x∈cF p vs vs.length,x<vs.length:=λx hx=>Vr hx;have hol:=Hx p vs vs.length;obtain⟨l,cW⟩:∃ l,order p.n (aR vs) (cF p vs vs.length)=l:=⟨_,rfl⟩;rw[cW]at hl ⊢;rw[mU];generalize cF p vs vs.length=on at *;generalize lP:cells++[vI i,sl 5 l.length]=cells' at *;exact ay (fS hi iE bT o_ h63 ht [.code 2 _ _ _ _ _ lo,.lt 42 on.length 3 false (aQ ho),fL cW hp.1 aK hm gS o_ o_,.gt 50 l.length 2 true (aD hl),.step 54 (au Tryz.f49 54) [vI i,sl 5 l.length] [] (.agg #[vI i,sl 5 l.length]) [] (Oe (t:=50) (idx:=[0,1]) k_ (λit z h1 h2=>aDt h1 h2) k_),.bsM Tryz.f49 55 6 1 50 2 [0] (.agg #[vI 0,.slice none 0 0]) [.agg #[vI i,sl 5 l.length]] #[vI i,sl 5 l.length] (.row [vI i,sl 5 l.length] 50 2) rfl (λv hv=>by
   have hv:v∈[vI 0,.slice none 0 0]:=hv;simp at hv;rcases hv with rfl|rfl<;>rfl) d_ k_ rfl d_ d_ k_,.pr Tryz.f49 56 7 2 c 1 (c+1) 50 2 32 cells 6 (.row [vI i,sl 5 l.length] 50 2) cells' rfl rfl rfl hc lP (λv hv=>by
   simp[Obj.cells]at hv;rcases hv with rfl|rfl<;>rfl) d_ (by simp[maxLen];omega) o_ k_,.sum 57 i 1 (i+1) rfl o_])
end
end
theorem nF.one{cs:ak}(h:nF w fs cs):∀ v∈cs,v.oneCell'=true:=by
 induction h with
 |nil=>intro v hv;cases hv
 |cons h1 _ _ ih=>
  intro v hv;rcases ch.1 hv with rfl|hv
  ·rfl
  rcases ch.1 hv with rfl|hv
  ·rcases h1 with ⟨e,_⟩|⟨_,_,_,e,_⟩<;>rw[e]<;>rfl
  ·exact ih v hv
structure yY(B:ae)(fs:f_)(ks:List (Value×ak))(cs:ak):Prop where
 flat:∀ v∈cs,Go.Proofs.YthccllenbnhogaaGreatDoor.flat v=true
 cells:∀ w,(∀ p∈ks,cZ w p.1 p.2.length p.2)->nF w fs cs
 slice:∀ v∈cs,∀ b,hZ v=some b->¬B.cI b
theorem yY.nil{B:ae}:yY B [] [] []:=⟨λv h=>(by cases h),λw _=>.nil,λv h=>(by cases h)⟩
theorem yY.snoc{cells:ak}(h:yY B fs ks cells){l:l_}(hu:Go.Proofs.YthccllenbnhogaaGreatDoor.flat u=true)(hb:∀ b,hZ u=some b->¬B.cI b):
  yY B (fs++[jR (i,l)]) ((u,aj l)::ks) (cells++[vI i,u]):=by
 refine⟨λv hv=>?_,λw hw=>?_,λv hv b rV=>?_⟩
 ·rcases fm.1 hv with hv|hv
  ·exact h.flat v hv
  ·simp at hv;rcases hv with rfl|rfl
   ·rfl
   ·exact hu
 ·have h1:=h.cells w λp hp=>hw p (bB _ hp);have h2:=hw (u,aj l) (aN ..);have h2:cZ w u (aj l).length (aj l):=h2;rw[aLJ]at h2;have e:(e6 (l.map λx:Nat=>(x:Int))).length=(l.map λx:Nat=>(x:Int)).length:=by simp[e6]
  rw[e]at h2;exact h1.snoc (i:=(i:Int)) h2 hu
 ·rcases fm.1 hv with hv|hv
  ·exact h.slice v hv b rV
  ·simp at hv;rcases hv with rfl|rfl
   ·cases rV
   ·exact hb b rV
theorem yY.out{cells:ak}(h:yY B fs ks cells){v:i_}(hm:aI (B.jd ks) ι c w)(hk:c k=some (.row cells ty 2))(hc:aG ι (.slice (some ⟨k,0,some 7⟩) fs.length 0) v):
  AE w v (mn fs)/\∀ b,(mn fs).cI v w b->¬B.cI b:=by
 have hf:=h.cells w hm.base.2;have hl:=hf.length;have hr:=nQ (len:=fs.length*2) hm hk rfl h.flat (λe=>by rw[e]) hc;have hr:cZ w v fs.length cells:=by
  have e:((Obj.row cells ty 2).cells.drop 0).take (fs.length*2)=cells:=by rw[lv];exact jN (uA hl)
  rwa[e]at hr
 have oc:Of w v fs:=⟨cells,hr,hf⟩;have own:∀ b,hZ v=some b->¬B.cI b:=by
  intro b hb hF;rcases hc.gK rfl with ⟨_,_,_,_,q5⟩|⟨b',oo,cap,c',q1,_,_,q5⟩
  ·rw[q5]at hb;cases hb
  ·rw[q5]at hb;injection hb with hb;subst hb;exact(hm.own k _ b' oo cap hk rfl q1).2 (.inl hF)
 refine⟨⟨oc,?_,?_⟩,λb hF=>?_⟩
 ·rcases hr with ⟨e,_⟩|⟨_,_,_,e,_⟩<;>rw[e]<;>rfl
 ·rcases hr with ⟨e,_⟩|⟨_,_,_,e,_⟩<;>rw[e]<;>rfl
 ·rcases hF with hF|⟨b',o,c',j,u,e,hj,kA,hb⟩
  ·exact own b hF
  ·have hu:=Oh hr hf e hj kA;exact h.slice u hu b hb
section
variable{ps:c_}{vs:e_}
noncomputable def fC0:Code:=wZ (dx Tryz.f49)
noncomputable def fC1:Code:=wZ (pP (dx Tryz.f49))
noncomputable def fC2:Code:=wZ (wZ (pP (pP (dx Tryz.f49))))
noncomputable def fC3:Code:=wZ (pP (pP (pP (dx Tryz.f49))))
theorem aPg:(Tryz.f49).body=some (.seq fC0 (.seq fC1 (.seq (.seq fC2 (.block 0 (.loop (aE (af Tryz.f49 0))))) (.seq fC3 .ret)))):=k_
theorem Vv{cells:ak}(cA:∀ v∈cells,flat v=true)(r:List (Nat×Nat)):∀ p∈fM ps vs cells,Hc r p.2:=λp hp=>by
 simp only[fM,ch,fF,fG]at hp;rcases hp with rfl|rfl|rfl
 ·exact λv hv=>aX.1 (dF ps) v hv
 ·exact λv hv=>aX.1 (eH vs) v hv
 ·exact cA
def O7(B:ae)(ps:c_)(vs:e_)(i:Nat)(a:Act)(w:h_):Prop:=
 ∃ ks cells,yY B ((eK ps vs i).map jR) ks cells/\St (B.jd ks) 59 (fI ps.length vs.length i (eK ps vs i).length) (fM ps vs cells) 3 a w
theorem aDu{cells:ak}{fs:List (Nat×List Nat)}{next:Nat}{a:Act}(h:yY B (fs.map jR) ks cells)(hs:St (B.jd ks) N fr M next a w):cells.length=fs.length*2/\∀ v∈cells,v.oneCell'=true:=by obtain⟨ι,cc,_,h2,_,_⟩:=hs;have:=h.cells w h2.base.2;exact⟨by rw[this.length,gF],this.one⟩
theorem aPh(qk:∀ k,B.mp k=none)(hi:i<ps.length)(bT:∀ p∈ps,bA m p/\p.n≠0)(aK:∀ v∈vs,aF q v)(hm:100*(m+q)+1000<=az)(h63:ps.length<=500)(kx:vs.length<900000){a:Act}(h:O7 B ps vs i a w)
  (K:Act->World->Prop) (Q:Exit->Act->World->Prop) (hK:∀ a' w',O7 B ps vs (i+1) a' w'->K a' w'):(aE (af Tryz.f49 0)).wpIn (FW none) 0 prog (Exit.then K Q) a w:=by
 obtain⟨ks,cells,hF,hS⟩:=h;have iE:ps[i]?=some ps[i]:=bd hi;have lS:oW ps vs i=uj ps vs i ps[i]:=by unfold oW;rw[iE]
 obtain⟨ga,Dp⟩:=aDu hF hS;have KJ:(eK ps vs i).length<=500:=by have:=KH ps vs i;omega
 have stay:oW ps vs i=[]->∀ next a' w',St (B.jd ks) 59 (fI ps.length vs.length (i+1) (eK ps vs i).length) (fM ps vs cells) next a' w'->K a' w':=by
  intro he next a' w' h';have e:eK ps vs (i+1)=eK ps vs i:=by rw[KG,he,gO]
  refine hK a' w' ⟨ks,cells,by rw[e];exact hF,?_⟩;rw[e];exact h'.Kc qk [(0,0),(1,1),(2,2)] k_ rfl (Vv hF.flat _) k_ k_ k_ k_ k_
 by_cases vn:sW ps i ps[i]=true
 ·have he:oW ps vs i=[]:=by rw[lS];unfold uj;rw[aq (show(ps.take i).any (λq=>decide (canon ps[i]=canon q))=true from vn)]
  exact pO (aPc hi iE bT o_ h63 vn) hS λa' w' h'=>stay he _ a' w' h'
 ·have Hy:sW ps i ps[i]=false:=by simpa using vn
  by_cases ho:(cF ps[i] vs vs.length).length<3
  ·have he:oW ps vs i=[]:=by rw[lS];unfold uj;rw[al (show ¬(ps.take i).any (λq=>decide (canon ps[i]=canon q))=true from vn),aq ho]
   exact pO (aPd hi iE bT aK hm h63 kx Hy ho) hS λa' w' h'=>stay he _ a' w' h'
  ·by_cases hl:(order ps[i].n (aR vs) (cF ps[i] vs vs.length)).length>2
   ·have he:oW ps vs i=[(i,order ps[i].n (aR vs) (cF ps[i] vs vs.length))]:=by rw[lS];unfold uj;rw[al (show ¬(ps.take i).any (λq=>decide (canon ps[i]=canon q))=true from vn),al ho,aq hl]
    refine pO (aPf hi iE bT aK hm h63 kx Hy ho hl ga KJ Dp) hS λa' w' h'=>?_;show K a' w';obtain⟨u,hu,wF,h2⟩:=h'.Ot (m:=5) (k:=7) rfl (gQ _) rfl d_;have e:eK ps vs (i+1)=eK ps vs i++[(i,order ps[i].n (aR vs) (cF ps[i] vs vs.length))]:=by rw[KG,he]
    have Bb:=hF.snoc (i:=i) (l:=order ps[i].n (aR vs) (cF ps[i] vs vs.length)) hu wF;refine hK a' w' ⟨_,cells++[vI i,u],by rw[e,vC];exact Bb,?_⟩;rw[e,jW];have cA:=Bb.flat;generalize cells++[vI i,u]=cells' at *;exact h2.Kc qk [(0,0),(1,1),(2,7)] k_ rfl (Vv cA _) k_ k_ k_ k_ k_
   ·have he:oW ps vs i=[]:=by rw[lS];unfold uj;rw[al (show ¬(ps.take i).any (λq=>decide (canon ps[i]=canon q))=true from vn),al ho,al hl]
    exact pO (aPe hi iE bT aK hm h63 kx Hy ho hl) hS λa' w' h'=>stay he _ a' w' h'
theorem aPi(bT:∀ p∈ps,bA m p/\p.n≠0)(aK:∀ v∈vs,aF q v)(hm:100*(m+q)+1000<=az)(h63:ps.length<=500)(kx:vs.length<900000):
  aBM prog 49 [ee ps,tZ vs] (mn ((eK ps vs ps.length).map jR)):=by
 intro w args cB;have ax:([ee ps,tZ vs].all aJ.ok)=true:=by simp only[fp,gm,Vm,aDd,AV]
 obtain⟨ι,c,h1,h2,h3,h4,h5,h6,h7⟩:=wL cB (aX.1 ax) 0 _ _ (sj w) n_ (λ_ _=>rfl);have qk:∀ k,(ae.at w).mp k=none:=λ_=>rfl;refine aBH (N:=59) (B:=(ae.at w).jd []) func49 aPg k_ h6 (aBA h2) h4 h3 rfl λa bH=>?_;have g0:∀ B:ae,ag prog B 59 fC0 (jL 0 (eE 0 [ee ps,tZ vs])) (iY 0 [ee ps,tZ vs]) 2 ⟨.normal,[(0,sl 0 ps.length),(1,sl 1 vs.length)],[(0,.view (bw ps)),(1,.view (aW vs))],2⟩:=λB=>ay [];have g1:∀ B:ae,ag prog B 59 fC1 [(0,sl 0 ps.length),(1,sl 1 vs.length)] [(0,.view (bw ps)),(1,.view (aW vs))] 2 ⟨.normal,[(5,.slice none 0 0),(0,sl 0 ps.length),(1,sl 1 vs.length)],[(0,.view (bw ps)),(1,.view (aW vs))],2⟩:=λB=>ay []
 have g2:∀ B:ae,ag prog B 59 fC2 [(5,.slice none 0 0),(0,sl 0 ps.length),(1,sl 1 vs.length)] [(0,.view (bw ps)),(1,.view (aW vs))] 2
   ⟨.normal,[(14,vI 0),(12,sl 0 ps.length),(13,vI ps.length),(0,sl 0 ps.length),(1,sl 1 vs.length),(5,.slice none 0 0)],[(0,.view (bw ps)),(1,.view (aW vs))],2⟩:=λB=>ay []
 refine lp (pO (g0 _) bH λa1 w1 s1=>?_);refine lp (pO (g1 _) s1 λa2 w2 s2=>?_);refine lp (lp (pO (g2 _) s2 λa3 w3 s3=>?_));refine Ij ?_;have i0:O7 (ae.at w) ps vs 0 a3 w3:=⟨[],[],.nil,(s3.nil 5 rfl 50 2).Kc qk [(0,0),(1,1),(2,2)] k_ rfl (Vv n_ _) k_ k_ k_ k_ k_⟩;refine aBF ps.length (O7 (ae.at w) ps vs) i0 (λi hi a' w' h' K hK=>aPh qk hi bT aK hm h63 kx h' K _ hK) λa' w' h'=>?_;obtain⟨ks,cells,hF,hS⟩:=h';refine pO (r:=⟨.exit 0,[(5,sl 2 (eK ps vs ps.length).length)],[(2,.row cells 50 2)],3⟩) (ay [.lt 15 ps.length ps.length false s_]) hS λa4 w4 s4=>?_;show Code.wpIn _ _ _ _ _ _ _;refine lp (pO (r:=⟨.normal,[(4,sl 2 (eK ps vs ps.length).length)],[(2,.row cells 50 2)],3⟩) (ay []) s4 λa5 w5 s5=>?_);refine wpIn_ret ?_;refine(aBI s5 rfl (v:=sl 2 (eK ps vs ps.length).length) k_ λao bP v' bh Bc hc=>⟨v',rfl,?_,?_,bh.base.1⟩).1
 ·rw[show(eK ps vs ps.length).length=((eK ps vs ps.length).map jR).length by rw[gF]]at hc;exact(hF.out bh (Bc 2 _ rfl) hc).1
 ·rw[show(eK ps vs ps.length).length=((eK ps vs ps.length).map jR).length by rw[gF]]at hc;intro b hb;have:=(hF.out bh (Bc 2 _ rfl) hc).2 b hb;exact Nu this
end
section
open V3 (dot aw cV smul)
section
variable{Bs:ae}{g:FuncId}{ps:List RP}{b:RP->Bool}
def xn(g:FuncId):Value:=.func (.func g) #[] #[]
def yZ(g:FuncId)(n i:Nat):aL:=[(8,vI i),(6,sl 0 n),(7,vI n),(0,sl 0 n),(1,xn g)]
def sY(ps:List RP):aC:=[(0,.view (db ps))]
noncomputable def igS{p:RP}{b:Bool}(hc:fN prog g=true)(hi:i<ps.length)(hp:ps[i]?=some p)(h:aB prog g [p.v] (.bool b))(more:bK prog Bs 19):bK prog Bs 19:=
 .lt 9 i ps.length true (aD hi)::.de f82 14 0 ps.length i 40 hi k_::.ld f82 15 66 0 (i*40) (.view (db ps)) p.v rfl (u5 hp) k_::
  .step 16 (au f82 16) [xn g,p.v] [] (.bool b) [] (od (l:=[.p p.v]) (x:=.tmp 11) (λw vs cB=>by
   cases cB with
   |cons h1 h2=>
    cases h2;cases h1;exact h w) (.p rfl .nil) k_ hc rfl)::more
theorem aPj{p:RP}(hc:fN prog g=true)(hi:i<ps.length)(hp:ps[i]?=some p)(h:aB prog g [p.v] a_)(h63:ps.length<9223372036854775807):
  ag prog Bs 19 (aE (af f82 0)) (yZ g ps.length i) (sY ps) 1 ⟨.normal,yZ g ps.length (i+1),sY ps,1⟩:=
 ay (igS hc hi hp h [.sum 18 i 1 (i+1) rfl o_])
theorem aPk{p:RP}(hc:fN prog g=true)(hi:i<ps.length)(hp:ps[i]?=some p)(h:aB prog g [p.v] b_):
  ag prog Bs 19 (aE (af f82 0)) (yZ g ps.length i) (sY ps) 1 ⟨.ret,[(4,vI i)],sY ps,1⟩:=
 ay (igS hc hi hp h [])
theorem aPl:ag prog Bs 19 (aE (af f82 0)) (yZ g ps.length ps.length) (sY ps) 1 ⟨.exit 0,[],sY ps,1⟩:=
 ay [.lt 9 ps.length ps.length false s_]
theorem Vw(ps:List RP):(aJ.r ps.length (db ps)).ok=true:=iZ iD ps
theorem aDv(g:FuncId):(aJ.p (xn g)).ok=true:=rfl
theorem aDw{ps:List RP}(h:ps.length=0):db ps=[]:=by rw[j9 h];rfl
theorem aPm(hc:fN prog g=true)(h63:ps.length<9223372036854775807)(h:∀ p∈ps,aB prog g [p.v] (.bool (b p))):cJ prog 82 [.r ps.length (db ps),.p (xn g)] (.int .i64 (AU b ps 0)):=by
 have ax:([aJ.r ps.length (db ps),.p (xn g)].all aJ.ok)=true:=by simp only[fp,gm,Vw,aDv,AV]
 have pL:∀(B:ae) e,e<=ps.length->(∀ j y,j<e->ps[j]?=some y->b y=false)->∀ i,i<e->ag prog B 19 (aE (af f82 0)) (yZ g ps.length i) (sY ps) 1 ⟨.normal,yZ g ps.length (i+1),sY ps,1⟩:=λB e he hb i hi=>by
  have av:i<ps.length:=by omega
  have hp:ps[i]?=some ps[i]:=bd av;have hh:=h ps[i] (eh av);rw[hb i ps[i] hi hp]at hh;exact aPj hc av hp hh h63
 rcases EG b ps with hn|⟨e,x,h1,h2,h3⟩
 ·rw[NZ 0 hn];have lo:∀ B:ae,ag prog B 19 (.block 0 (af f82 0)) (yZ g ps.length 0) (sY ps) 1 ⟨.normal,[],sY ps,1⟩:=λB=>
   bO (id:=0) (cg ps.length (λi=>yZ g ps.length i) (λ_=>sY ps) (λi k _=>Iff.rfl) (pL B ps.length (aZ _) λj y _ hy=>hn y (cL hy)) aPl n_)
  exact dR func82 ax 19 (λw=>[.code 0 _ _ _ _ _ (lo _)])
 ·have av:=(eD.1 h1).1;have hh:=h x (cL h1);rw[h2]at hh;rw[N0 0 h1 h2 h3,jv];have lo:∀ B:ae,ag prog B 19 (.block 0 (af f82 0)) (yZ g ps.length 0) (sY ps) 1 ⟨.ret,[(4,vI e)],sY ps,1⟩:=λB=>
   bO (id:=0) (cg e (λi=>yZ g ps.length i) (λ_=>sY ps) (λi k _=>Iff.rfl) (pL B e o_ h3) (aPk hc av h1 hh) n_)
  exact dR func82 ax 19 (λw=>[.code 0 _ _ _ _ _ (lo _)])
theorem aDx(hc:fN prog g=true)(h63:ps.length<9223372036854775807)(h:∀ p∈ps,aB prog g [p.v] (.bool (b p))):cJ prog 42 [.r ps.length (db ps),.p (xn g)] (.bool (ps.any b)):=by
 have ax:([aJ.r ps.length (db ps),.p (xn g)].all aJ.ok)=true:=by simp only[fp,gm,Vw,aDv,AV]
 rw[<-aA5];exact dR func42 ax 9 (λw=>[.cR f42 7 [sl 0 ps.length,xn g] (aPm hc h63 h) (.w (x:=.view (db ps)) rfl (iZ iD ps) aDw (.p rfl .nil))])
end
theorem aDy{r:RP}{b:Bool}(h:aB prog 44 [r.v] (.bool b)):aB prog 43 [r.v] (.bool (!b)):=aV func43 (λ_=>[h.at 4])
section
variable{F:Type}[OF F]
open OF
def KK(s:eG F)(a b:F):eG F:=
 if OF.aA a=0 then s
 else if OF.aA a>0 then(match s.hi with|some h=>if OF.aA (b*a⁻¹-h)<0 then⟨s.lo,some (b*a⁻¹)⟩else s|none=>⟨s.lo,some (b*a⁻¹)⟩)
 else(match s.lo with|some l=>if OF.aA (b*a⁻¹-l)>0 then⟨some (b*a⁻¹),s.hi⟩else s|none=>⟨some (b*a⁻¹),s.hi⟩)
def O8(s:eG F):Bool:=match s.lo,s.hi with
 |some l,some h=>decide (OF.aA (l-h)<0)
 |_,_=>true
def O9(s:eG F)(a b:F):Bool:=if OF.aA a=0 then decide (OF.aA b>=0)else O8 (KK s a b)
theorem aDz{x:F}:OF.aA x>0↔OF.aA x=1:=by rcases OF.iB x with h|h|h<;>rw[h]<;>decide
theorem aPn{x:F}:OF.aA x<0↔OF.aA x=-1:=by rcases OF.iB x with h|h|h<;>rw[h]<;>decide
theorem aPo{x:F}:OF.aA x>=0↔OF.aA x≠-1:=by rcases OF.iB x with h|h|h<;>rw[h]<;>decide
theorem Pa{x y:F}:OF.aA (x-y)<0↔x<y:=by rw[aPn,OF.Ef,OF.lt_def];omega
theorem aDA{x y:F}:OF.aA (x-y)>0↔y<x:=by rw[aDz,OF.lt_def]
theorem Pb{x:F}:OF.aA x>0↔0<x:=by rw[aDz,OF.iC]
theorem Pc{x:F}:OF.aA x>=0↔0<=x:=by rw[aPo,OF.Jb]
theorem aPp(s:eG F)(a b:F):AN s a b=if O9 s a b then some (KK s a b)else none:=by
 unfold AN O9 KK;by_cases ha:OF.aA a=0
 ·rw[aq ha,aq ha,aq ha];by_cases hb:0<=b
  ·rw[aq hb,aD (Pc.2 hb)];rfl
  ·rw[al hb,aQ (λh=>hb (Pc.1 h))];rfl
 ·rw[al ha,al ha,al ha];obtain⟨lo,hi⟩:=s;dsimp only;generalize b*a⁻¹=t;have fin:∀ s':eG F,(match s'.lo,s'.hi with|some l,some h=>if l<h then some s' else none|_,_=>some s')=if O8 s'=true then some s' else none:=by
   rintro⟨l,h⟩
   unfold O8;cases l with
   |none=>rfl
   |some l=>
    cases h with
    |none=>rfl
    |some h=>
     dsimp only;by_cases av:l<h
     ·exact(aq av).trans (aq (aD (Pa.2 av))).symm
     ·exact(al av).trans (al (λh=>av (Pa.1 (lC h)))).symm
  by_cases hp:0<a
  ·rw[aq hp,aq (Pb.2 hp)];cases hi with
   |none=>exact fin ⟨lo,some t⟩
   |some h=>
    dsimp only;by_cases av:t<h
    ·simp only[aq av,aq (Pa.2 av)];exact fin ⟨lo,some t⟩
    ·simp only[al av,al (λe=>av (Pa.1 e))];exact fin ⟨lo,some h⟩
  ·rw[al hp,al (λe=>hp (Pb.1 e))];cases lo with
   |none=>exact fin ⟨some t,hi⟩
   |some l=>
    dsimp only;by_cases av:l<t
    ·simp only[aq av,aq (aDA.2 av)];exact fin ⟨some t,hi⟩
    ·simp only[al av,al (λe=>av (aDA.1 e))];exact fin ⟨some l,hi⟩
end
theorem aPq(s:eG K)(a b:K):AN s a b=if rN s a b then some (qF s a b)else none:=by
 have h1:∀ s:eG K,aA9 s=O8 s:=λs=>by obtain⟨lo,hi⟩:=s;cases lo<;>cases hi<;>rfl
 have h2:qF s a b=KK s a b:=by unfold qF KK;obtain⟨lo,hi⟩:=s;cases lo<;>cases hi<;>rfl
 have h3:rN s a b=O9 s a b:=by unfold rN O9;rw[h2,h1]
 rw[h2,h3];exact aPp s a b
theorem aDB(b d:V3 K):∀(l:c_) (s:eG K),EC s (l.map λp=>(dot p.n d,p.d-dot p.n b))=if u9 s b d l then some (nE s b d l)else none
 |[],s=>rfl
 |p::l,s=>by
  show(AN s (dot p.n d) (p.d-dot p.n b)).bind _=_;rw[aPq];unfold u9 nE;by_cases h:rN s (dot p.n d) (p.d-dot p.n b)=true
  ·rw[aq h,h,oH];exact aDB b d l _
  ·rw[al h];have:rN s (dot p.n d) (p.d-dot p.n b)=false:=by simpa using h
   rw[this,BL];rfl
theorem aDC(p q:HS K):u7 p q=lG p q:=by unfold u7 lG dS;rw[show kI 1*(dot (aw p.n q.n) (aw p.n q.n))⁻¹=(dot (aw p.n q.n) (aw p.n q.n))⁻¹ from CR.one_mul _]
theorem aDD(p q:HS K):dS p q≠0->dot (dS p q) (dS p q)≠0:=λh=>V3.AJ h
theorem aPr(ps:c_)(p q:HS K):EI ps p q=yC ps p q:=by
 unfold EI yC;have hd:dS p q=aw p.n q.n:=rfl;rw[aDC];dsimp only;by_cases h0:dS p q=0
 ·rw[aq h0,aq ((NN (aw p.n q.n)).2 h0)]
 ·rw[al h0,al (λh=>h0 ((NN (aw p.n q.n)).1 h))];rw[aDB];unfold J2;rw[aDC,hd];by_cases hs:u9 ⟨none,none⟩ (lG p q) (aw p.n q.n) ps=true
  ·rw[aq hs,aq hs];generalize nE ⟨none,none⟩ (lG p q) (aw p.n q.n) ps=s;obtain⟨lo,hi⟩:=s;cases lo<;>cases hi<;>rfl
  ·rw[al hs,al hs]
theorem Vx{q:HS K}{v:V3 K}:v∈qG ps p q↔∃ u w,yC ps p q=some (u,w)/\(v=u\/v=w):=by
 unfold qG;rw[aPr];cases h:yC ps p q with
 |none=>simp
 |some uw=>
  obtain⟨u,w⟩:=uw;simp only[ch,fF,fG];exact⟨λhv=>⟨u,w,rfl,hv⟩,λ⟨u',w',e,hv⟩=>by injection e with e;injection e with e1 e2;subst e1;subst e2;exact hv⟩
theorem aPs{v:V3 K}:v∈ml ps ps.length↔∃(i j:Nat) (p q:HS K),j<i/\ps[i]?=some p/\ps[j]?=some q/\v∈qG ps p q:=by
 unfold ml;rw[CF];constructor
 ·rintro⟨i,hi,hv⟩
  have av:=kf.1 hi;have hp:ps[i]?=some ps[i]:=bd av;rw[Oa hp]at hv;unfold kK at hv;obtain⟨q,hq,hv⟩:=CF.1 hv;obtain⟨j,hj,rfl⟩:=lI hq;rw[je]at hj;refine⟨i,j,_,_,by omega,hp,?_,hv⟩;rw[aDE];exact bd o_
 ·rintro⟨i,j,p,q,oD,hp,hq,hv⟩
  have av:=(eD.1 hp).1;refine⟨i,kf.2 av,?_⟩;rw[Oa hp];refine CF.2 ⟨q,?_,hv⟩;exact cL (i:=j) (by rw[tj,aq oD];exact hq)
theorem aPt(hc:Cl ps)(hp:l9 ps)(hf:∀ v:V3 K,∃ x,mQ ps x/\x≠v)(v:V3 K):v∈ml ps ps.length↔pI ps v:=by
 rw[aPs];constructor
 ·rintro⟨i,j,p,q,_,h1,h2,hv⟩
  obtain⟨u,w,he,hv⟩:=Vx.1 hv;have:=aJ2 (cL h1) (cL h2) he;rcases hv with rfl|rfl
  ·exact this.1
  ·exact this.2
 ·intro hv;obtain⟨x,hx,aY⟩:=hf v;obtain⟨p,ik,q,Ai,hd,h1,h2⟩:=aJ4 hc hp hv hx aY;obtain⟨i,hi,rfl⟩:=lI ik;obtain⟨j,hj,rfl⟩:=lI Ai;rcases rW i j with h|h|h
  ·exact⟨j,i,_,_,h,bd hj,bd hi,Vx.2 h2⟩
  ·subst h;exfalso;apply hd;exact V3.JI _
  ·exact⟨i,j,_,_,h,bd hi,bd hj,Vx.2 h1⟩
def uk:Value:=.agg #[.slice none 0 0,.slice none 0 0,.slice none 0 0]
def mz(n:Int):Value:=.int .i64 n
def jF(ps:c_):f_:=(eK ps (cD ps) ps.length).map jR
structure vo(ps:c_)(m:Nat):Prop where
 len:ps.length<=20
 sz:∀ p∈ps,bA m p
 ne:∀ p∈ps,p.n≠0
 bound:1000000000*(m+10)<=az
theorem KL(ps:c_)(h:ps.length<=20):(cD ps).length<=800:=by
 have h1:(cD ps).length<=(ml ps ps.length).length:=by
  unfold cD;rw[<-aC6];have:∀ l:e_,(dd l).length<=l.length:=λl=>by have:=(OZ l l.length).2;unfold iG at this;rwa[nB]at this
  exact c9 (this _) (uA (KC _).length_eq)
 have h2:=Ob ps.length (aZ _) (ps:=ps);have h3:ps.length*(2*ps.length)<=20*40:=BS h o_;omega
theorem Pd(bT:∀ p∈ps,bA m p):∀ v∈cD ps,aF (10000*(m+10)) v:=λv hv=>by unfold cD at hv;rw[TO]at hv;exact aC7 bT aDD ps.length v hv
theorem E8{n:Nat}(hm:1000000000*(m+10)<=az)(hn:n<=800):100*(m+n*(10000*(m+10)+1))+10000<=az/\10000000*(m+10)<=az/\100*(m+10000*(m+10))+1000<=az/\m<=az/\100*m+1000<=az:=by
 have h0:m<=1089:=by
  rcases eQ m 1090 with h|h
  ·exact Nat.le_of_lt_succ h
  ·have h2:1000000000*(1090+10)<=1000000000*(m+10):=iX _ (KM h 10);exact absurd (c9 h2 hm) d_
 clear hm;have q:10000*(m+10)+1<=10990001:=by omega
 obtain⟨x,hx⟩:∃ x,x=n*(10000*(m+10)+1):=⟨_,rfl⟩;have h1:x<=8792000800:=by rw[hx];exact BS hn q
 rw[<-hx];clear hx;have h2:100*(m+x)+10000<=100*(1089+8792000800)+10000:=KM (iX _ (Jm h0 h1)) _;have h6:m+10<=1099:=KM h0 10;have h3:10000000*(m+10)<=10000000*1099:=iX _ h6;have h4:100*(m+10000*(m+10))+1000<=100*(1089+10000*1099)+1000:=KM (iX _ (Jm h0 (iX _ h6))) _;have h5:100*m+1000<=100*1089+1000:=KM (iX _ h0) _;exact⟨c9 h2 (o7 rfl),c9 h3 (o7 rfl),c9 h4 (o7 rfl),c9 h0 (o7 rfl),c9 h5 (o7 rfl)⟩
theorem aDF{it:TypeInfo}{z:i_}(h1:prog.info? 28=some it)(h2:it.zero=some z):∀ v∈z.cells.toList,flat v=true:=by have e:(prog.info? 28).bind (·.zero)=some uk:=k_;rw[h1]at e;have e:it.zero=some uk:=e;rw[h2]at e;injection e with e;subst e;intro v hv;have hv:v∈[.slice none 0 0,.slice none 0 0,.slice none 0 0]:=hv;simp at hv;subst hv;rfl
section
variable{ps:c_}{m:Nat}
theorem aPu(h:vo ps m):cJ prog 42 [ee ps,.p (xn 43)] a_:=by
 obtain⟨_,_,_,b4,_⟩:=E8 (n:=0) h.bound o_;have hc:=aDx (g:=43) (ps:=ps.map cS) (b:=λ_=>false) k_ (by rw[gF];have:=h.len;omega) (λr hr=>by obtain⟨p,hp,rfl⟩:=dq.1 hr;have hv:=AQ (h.sz p hp) b4;rw[aD (h.ne p hp)]at hv;exact aDy hv)
 rw[gF,show(ps.map cS).any (λ_=>false)=false by simp]at hc;exact hc
theorem Da(ps:c_):([ee ps].all aJ.ok)=true:=by simp only[fp,gm,Vm,AV]
noncomputable def Vy(h:vo ps m)(ht:oS ps=t)(more:bK prog Bs 33):bK prog Bs 33:=
 .cR f12 7 [sl 0 ps.length,xn 43] (aPu h) (.w (x:=.view (bw ps)) rfl (dF ps) j4 (.p rfl .nil))::
 .gt 12 ps.length 100 false (aQ (by have:=h.len;omega))::
 .cR f12 16 [sl 0 ps.length] (ht▸aKM h.sz (E8 (n:=0) h.bound o_).2.2.2.2 (by have:=h.len;omega)) (.w (x:=.view (bw ps)) rfl (dF ps) j4 .nil)::more
noncomputable def aDG(h:vo ps m)(ht:rO ps (cD ps)=t)(more:bK prog Bs 33):bK prog Bs 33:=
 .step 20 (au f12 20) [.func (.func 46) #[] #[],sl 0 ps.length] [(2,none),(0,some (.view (bw ps)))] (sl 2 (cD ps).length) [(2,.row (aW (cD ps)) 42 30)]
  (rI (aOO h.sz (E8 (n:=0) h.bound o_).2.1 (by have:=h.len;omega) aDD) (.w (x:=.view (bw ps)) rfl (dF ps) j4 .nil) (x:=.func 46) k_ k_ (eH _) 2)::
 .cR f12 23 [sl 0 ps.length,sl 2 (cD ps).length] (ht▸aK7 (λp hp=>⟨h.sz p hp,h.ne p hp⟩) (Pd h.sz) (E8 h.bound (KL ps h.len)).1 (by have:=KL ps h.len;omega) (by have:=h.len;omega)) (.w (x:=.view (bw ps)) rfl (dF ps) j4 (.w (x:=.row (aW (cD ps)) 42 30) rfl (eH _) wU .nil))::more
theorem aDH(h:vo ps m)(hc:oS ps=false):cJ prog 12 [ee ps] (.tuple #[uk,mz 13]):=
 dR func12 (Da ps) 33 (λ_=>Vy h hc [])
theorem aDI(h:vo ps m)(hc:oS ps=true)(hi:rO ps (cD ps)=false):cJ prog 12 [ee ps] (.tuple #[uk,mz 12]):=
 dR func12 (Da ps) 33 (λ_=>Vy h hc (aDG h hi []))
theorem aPv(hc:oS ps=true):0<ps.length:=by
 cases ps with
 |nil=>exact absurd hc d_
 |cons p l=>simp
theorem aDJ(h:vo ps m)(hc:oS ps=true)(hi:rO ps (cD ps)=true):
  A1 prog 12 [ee ps] 66 40 ps.length (bw ps) 42 30 (cD ps).length (aW (cD ps)) (mn (jF ps)) [mz 0]:=by
 have hf:=aPi (ps:=ps) (vs:=cD ps) (λp hp=>⟨h.sz p hp,h.ne p hp⟩) (Pd h.sz) (E8 (n:=0) h.bound o_).2.2.1 (by have:=h.len;omega) (by have:=KL ps h.len;omega);have ga:=aOR (aPv hc) (by have:=h.len;omega);refine Ul (k1:=3) (k2:=2) (k3:=4) mixed func12 (Da ps) 100 (N:=33) k_ (λw=>Vy h hc (aDG h hi [
  .step 27 (au f12 27) [.func (.func 48) #[] #[],sl 0 ps.length] [(3,none),(0,some (.view (bw ps)))] (sl 3 ps.length) [(3,.row (bw ps) 66 40)]
   (rI ga (.w (x:=.view (bw ps)) rfl (dF ps) j4 .nil) (x:=.func 48) k_ k_ (dF ps) 3),
  .step 31 (au f12 31) [.func (.func 49) #[] #[],sl 0 ps.length,sl 2 (cD ps).length] [(4,none),(0,some (.view (bw ps))),(2,some (.row (aW (cD ps)) 42 30))] (.pointer (some ⟨4,0,some 9⟩)) [(4,.fact ((mn (jF ps)).iS w.heap.size))]
   (aLM (B:=ae.at w) (S:=w.heap.size) hf (.w (x:=.view (bw ps)) rfl (dF ps) j4 (.w (x:=.row (aW (cD ps)) 42 30) rfl (eH _) wU .nil)) (x:=.func 49) k_ k_ rfl (λw' hb=>Below.size hb) 4),
  .step 32 (au f12 32) [sl 3 ps.length,sl 2 (cD ps).length,.pointer (some ⟨4,0,some 9⟩)] [] (.agg #[sl 3 ps.length,sl 2 (cD ps).length,.pointer (some ⟨4,0,some 9⟩)]) [] (Oe (t:=28) (idx:=[0,1,2]) k_ (λit z h1 h2=>aDF h1 h2) k_)])) (λw=>?_) d_ (dF ps) (C7 ps) (eH _) (sQ _) k_
 kernel_rfl
end
end
section
variable{P:j_}{B:ae}{N:Nat}
def aO.Pe(fn:Func)(key k j n m nm e size bytes off cc:Nat)(cells:ak)(q:Nat)(x:Obj)(new:ak)(kS:n+m=nm)(hx:x.reads=true)(hlen:((x.cells.drop off).take (m*size)).length=m*size)(jI:cells.length=n*size)(iw:cells++(x.cells.drop off).take (m*size)=new)
  (h1:∀ v∈x.cells,v.oneCell'=true) (bE:0<size) (h63:nm<=maxLen) (hb:nm*bytes<=140737488355328) (ho:DZ P (au fn key)=some (e,size,bytes,size,true)):aO P B N:=
 .step key (au fn key) [.slice (some ⟨j,0,some 7⟩) n 0,.slice (some ⟨q,off,some 7⟩) m cc] [(k,none),(j,some (.row cells e size)),(q,some x)] (.slice (some ⟨k,0,some 7⟩) nm 0) [(k,.row new e size),(j,.dead)] (by subst kS;have hs:Bn B (.slice (some ⟨q,off,some 7⟩) m cc) m ((x.cells.drop off).take (m*size)) [(q,some x)]:=Le (B:=B) (k:=q) (off:=off) (m:=m) (cc:=cc) hx (len:=m*size) (λh=>by rw[h,kT]);have:=X7 (B:=B) ho bE hs hlen (λv hv=>h1 v (Vn (EJ hv))) (j:=j) (n:=n) (cells:=cells) (uA jI.symm) h63 hb k;rw[jN (uA jI),iw]at this;exact this)
def aO.aPw(fn:Func)(key k n s:Nat)(ho:rf P (au fn key)=some (true,false,s)):aO P B N:=
 .step key (au fn key) [.slice (some ⟨k,0,some 7⟩) n 0,vI 0] [] (.slice (some ⟨k,0,some 7⟩) n 0) [] (by have:=FG (B:=B) ho (k:=k) (off:=0) (n:=n) (cc:=0) (l:=0) (h:=n) n_ (λ_=>rfl) (kB _) (aZ _) (.inr rfl);simpa using this)
theorem aPx{s:Nat}(ho:rf P o=some (true,false,s)){n:Nat}{x:Obj}(hx:x.jc=true)(j:Nat):
  ct P B o [.slice (some ⟨k,off,some 7⟩) n cc,vI n] [(j,none),(k,some x)] (.slice (some ⟨j,0,some 7⟩) 0 0) [(j,.view [])]:=by
 unfold rf at ho;split at ho
 ·rename_i t y lo hi bM;split at ho
  ·rename_i e ht;split at ho
   ·rename_i i gU;injection ho with ho;injection ho with h1 ho;injection ho with h2 h3;cases lo with
    |none=>cases h1
    |some yl=>
    cases hi with
    |some yh=>cases h2
    |none=>
    refine gL.step λι c ρ w aK hm hn=>?_;have hj:c j=none:=hn (j,none) s_;have hk:c k=some x:=hn (k,some x) s_;rw[bM]at aK;obtain⟨u,u2,hu,hc,c7⟩:=iH aK;have du:ρ y=u:=by simp[Op.operands]at hu;exact hu.1
    have ew:ρ yl=u2:=by simp[Op.operands]at hu;exact hu.2
    have c7:=c7.eW rfl;have Ki:∀ y code,n<=y->(Instr.sliceBound (.int .i64 n) y code).run P w=.ok n w:=by intro y code hq;have:(0:Int)<=n/\(n:Int)<=y:=⟨by omega,by omega⟩;simp[Instr.sliceBound,asIntOf,this]
    rcases hc.gK rfl with ⟨hb,jV,pa,xK,he⟩|⟨b,oo,cap,c',hb,kQ,lP,he⟩
    ·refine⟨dy ι j .nil,.slice none 0 0,w,fZ (hm.dp j hj),.slcN (fj _ _ _),hm.add hj (.inl ⟨rfl,rfl⟩) n_ n_ n_,.inl ?_⟩;subst jV;have kk:∀ code,(Instr.sliceBound (.int .i64 0) 0 code).run P w=.ok 0 w:=λcode=>by simp[Instr.sliceBound,asIntOf]
     simp only[execOp,bM];simp[Instr.sliceAt,iI ht,Instr.slice,du,ew,c7,he,vI,Instr.sliceBounds,kk,sizeOf,typeInfo,gU]
    ·dsimp only at hb he;obtain⟨o1,wj⟩:∃ o1,o1=(if c'=n then oo+off else oo+off+n*i.size):=⟨_,rfl⟩;have hsn:=hm.seen k x b oo cap hk hx hb;refine⟨dy ι j (.at b o1 (c'-n)),.slice (some ⟨b,o1+0,none⟩) 0 (c'-n),w,fZ (hm.dp j hj),.slc (fj _ _ _) (kB _) (jv _),hm.add hj (.inr ⟨b,o1,c'-n,[],rfl,.nil,λj u h=>by simp at h⟩) n_ n_ (λb1 o2 kz _ e=>?_),.inl ?_⟩
     ·injection e with e1 e2 e3;subst e1;exact hsn
     ·simp only[execOp,bM];by_cases ga:c'=n
      ·rw[aq ga]at wj;subst wj;subst ga;simp[Instr.sliceAt,iI ht,Instr.slice,du,ew,c7,he,vI,Instr.sliceBounds,Ki c' _ (aZ _),sizeOf,typeInfo,gU]
      ·rw[al ga]at wj;subst wj;simp[Instr.sliceAt,iI ht,Instr.slice,du,ew,c7,he,vI,Instr.sliceBounds,Ki n _ (aZ _),sizeOf,typeInfo,gU,ga,xJ]
   ·cases ho
  ·cases ho
 ·cases ho
def aO.aPy(fn:Func)(key k off n cc s j:Nat)(x:Obj)(hx:x.jc=true)(ho:rf P (au fn key)=some (true,false,s)):aO P B N:=
 .step key (au fn key) [.slice (some ⟨k,off,some 7⟩) n cc,vI n] [(j,none),(k,some x)] (.slice (some ⟨j,0,some 7⟩) 0 0) [(j,.view [])] (aPx ho hx j)
end
theorem bJ.swap{R:α->β->Prop}{a a':α}(h:∀ b,R a b->R a' b):∀(pre:List α) {post:List α} {m:List β},bJ R (pre++a::post) m->bJ R (pre++a'::post) m
 |[],_,_,h1=>by cases h1 with|cons h2 h3=>exact .cons (h _ h2) h3
 |_::pre,_,_,h1=>by cases h1 with|cons h2 h3=>exact .cons h2 (bJ.swap h pre h3)
theorem aDK(h:cT c M)(k:Nat)(x:Obj):cT (aT c k x) ((k,x)::M):=λj y e=>by
 unfold ah at e;unfold aT;split at e
 ·rename_i hb;injection e with e;subst e;rw[aq (jK hb).symm]
 ·rename_i hb;rw[al (λe'=>hb (by rw[e'];exact DH k))];exact h j y e
theorem aPz{n:Nat}(h:eA c n)(hk:k<n)(x:Obj):eA (aT c k x) n:=λj hj=>by unfold aT;rw[al o_];exact h j hj
section
variable{P:j_}{B:ae}{N:Nat}
theorem aI.aPA(hm:aI B ι c w){cells:ak}(hk:c k=some (.aH cells ty))(h:∀ bW,bJ (aG ι) cells bW->bJ (aG ι) cells' bW):aI B ι (aT c k (.aH cells' ty)) w:=by obtain⟨l,h1,b,bW,e1,e2,e3⟩:=hm.born k _ hk;subst e1;exact hm.write hk rfl h1 (.refl w) rfl rfl (aZ _) (λ_ _ _=>rfl) ⟨b,bW,rfl,h _ e2,e3⟩ n_ rfl
theorem St.aDL{next:Nat}{a:Act}(h:St B N fr M next a w){tb:TypeId}(hk:ah M k=some (.aH (pre++.slice none 0 0::post) tb))(ty:TypeId)(s:Nat):
  St B N fr ((k,.aH (pre++.slice (some ⟨next,0,some 7⟩) 0 0::post) tb)::(next,.row [] ty s)::M) (next+1) a w:=by
 obtain⟨ι,cc,h1,h2,h3,h4⟩:=h;have hn:=h4 next (aZ _);have hle:Map.le ι (dy ι next .nil):=fZ (h2.dp next hn);have EO:=h3 k _ hk;have qb:k≠next:=λe=>by subst e;rw[hn]at EO;cases EO
 have av:k<next:=by
  rcases eQ k next with h|h
  ·exact h
  ·rw[h4 k h]at EO;cases EO
 have m1:aI B (dy ι next .nil) (aT cc next (.row [] ty s)) w:=h2.add hn (.inl ⟨rfl,rfl⟩) n_ n_ n_;have m2:=m1.aPA (k:=k) (cells:=pre++.slice none 0 0::post) (cells':=pre++.slice (some ⟨next,0,some 7⟩) 0 0::post) (ty:=tb) (by unfold aT;rw[al qb];exact EO) λbW hc=>
  bJ.swap (λb hb=>by rw[hb.eW rfl];exact .slcN (fj _ _ _)) pre hc
 refine⟨_,_,⟨h1.defers,h1.size,λt=>(h1.slot t).mono hle⟩,m2,aDK (aDK h3 _ _) _ _,aPz (λj hj=>?_) o_ _⟩;unfold aT;rw[al o_];exact h4 j o_
def aDM(P:j_)(f:FuncId)(kt s1 np:Nat)(xp:ak)(nv:Nat)(xv:ak)(F:Fact):Prop:=
 ∀ w v1 b o c,cZ w v1 np xp->cZ w (.slice (some ⟨b,o,none⟩) nv c) nv xv->Calls P f #[v1,.slice (some ⟨b,o,none⟩) nv c] w λe w'=>∃ u1 u3,e=.returned (.agg #[u1,.slice (some ⟨b,o,none⟩) nv c,u3])/\
  w'.ownsRow w.heap.size kt s1 u1 np xp/\AE w' u3 F/\(∀ b,F.cI u3 w' b->w.heap.size<=b)/\(∀ b,hZ u1=some b->¬F.cI u3 w' b)/\Below w.heap.size w w'
theorem aPB{np nv:Nat}{xv:ak}{a1 a2:i_}{nd:q_}{S:Nat}(h:aDM P f n2 A np eg nv xv F)(hs:gk B [.r np eg,.r nv xv] [a1,a2] nd)(ho:da o.op=some x)(eB:fN P f=true)(vB:F.rc=false)
  (f1:(eg.all flat)=true) (hnv:0<nv) (hS:∀ w,B.G w->S<=w.heap.size) (k:Nat) :
  ct P B o (.func (.func f) #[] #[]::[a1,a2]) ((k,none)::(k+1,none)::nd) (.agg #[.slice (some ⟨k,0,some 7⟩) np 0,a2,.pointer (some ⟨k+1,0,some 9⟩)])
   [(k+1,.fact (F.iS S)),(k,.row eg n2 A)]:=by
 have:=jy (P:=P) (B:=B) (o:=o) (x:=x) (f:=f) (fi:=[]) (args:=[a1,a2]) (ca:=[]) (need:=(k,none)::(k+1,none)::nd)
  (val:=.agg #[.slice (some ⟨k,0,some 7⟩) np 0,a2,.pointer (some ⟨k+1,0,some 9⟩)]) (cK:=[(k+1,.fact (F.iS S)),(k,.row eg n2 A)]) ho eB ?_
 ·simpa using this
 ·intro ι c w hm hn args' ha;rw[jg,gO]at ha;have k0:c k=none:=hn (k,none) s_;have k1:c (k+1)=none:=hn (k+1,none) s_;have cB:=AG hs hm (λp hp=>hn p (by simp[hp])) ha;obtain⟨v1,v2,rfl,ca1,Xu⟩:=iH ha;cases cB with
  |cons i1 cB=>
  cases cB with
  |cons i2 _=>
  have i1:cZ w v1 np eg:=i1;have i2:cZ w v2 nv xv:=i2;have i3:=i2;rcases i2 with ⟨_,e,_⟩|⟨b,o',c',rfl,_⟩
  ·omega
  refine(h w v1 b o' c' i1 i3).mono ?_
  rintro e w' ⟨u1,u3,rfl,r1,r3,f3,Ow,hb⟩
  have Ke:=hS w hm.base;have EP:=hm.call hb;have cM:∀ j y b o cap,c j=some y->ι j=some (.at b o cap)->y.owns=true\/y.jc=true->b<w.heap.size:=λj y b o cap hj hl hy=>by
   rcases hy with hy|hy
   ·exact(hm.own j y b o cap hj hy hl).1
   ·exact(hm.seen j y b o cap hj hy hl).1
  have Ox:∀ j F u b,c j=some (.fact F)->ι j=some (.val u)->F.cI u w' b->b<w.heap.size:=λj F u b hj hu hF=>by have hF:=hm.Dl hj hu hb.size (λk hk _=>hb.block k hk) hF;obtain⟨l,q1,q2⟩:=hm.born j _ hj;rw[hu]at q1;injection q1 with q1;exact q2.Dk q1.symm hF
  have Kf:∀ b,hZ u1=some b->w.heap.size<=b:=λb hb=>by
   rcases r1.2 with ⟨h1,_⟩|⟨g,cap,cur,h1,h2,_⟩
   ·rw[h1]at hb;cases hb
   ·rw[h1]at hb;injection hb with hb;subst hb;exact h2
  have Oy:∀ b,B.cI b->b<w.heap.size:=λb hF=>B.lt w b hm.base hF;obtain⟨bF,l1,m1,c1,p1⟩:=Um EP k0 r1 f1 Oy (λj y b o cap hj hl hy e=>by have a:=cM j y b o cap hj hl hy;have b:=Kf b e;omega) (λj F u b hj hu e hF=>by have a:=Ox j F u b hj hu hF;have b:=Kf b e;omega);have back:∀ j y l,c j=some y->bF j=some l->ι j=some l:=λj y l hj hl=>by obtain⟨l',cW,_⟩:=EP.born j y hj;have:=l1 j l' cW;rw[hl]at this;injection this with this;rw[this];exact cW
  have Oz:aT c k (.row eg n2 A) (k+1)=none:=by unfold aT;rw[al o_];exact k1
  have Kg:∀ j y,aT c k (.row eg n2 A) j=some y->(j=k/\y=.row eg n2 A)\/(j≠k/\c j=some y):=λj y hj=>by
   unfold aT at hj;by_cases bL:j=k
   ·rw[aq bL]at hj;injection hj with hj;exact .inl ⟨bL,hj.symm⟩
   ·rw[al bL]at hj;exact .inr ⟨bL,hj⟩
  have m3:aI B (dy bF (k+1) (.val u3)) (aT (aT c k (.row eg n2 A)) (k+1) (.fact (F.iS S))) w':=
   m1.add Oz ⟨u3,rfl,r3.1,λb hF=>c9 Ke (f3 b hF)⟩ n_ (λF' v b e1 e2 hF j y o' bf hj hy he=>by
    injection e1 with e1;subst e1;injection e2 with e2;subst e2;have hF:F.cI u3 w' b:=hF;rcases Kg j y hj with ⟨rfl,rfl⟩|⟨_,hj⟩
    ·exact Ow b (p1 b o' bf he) hF
    ·have h1:=cM j y b o' bf hj (back j y _ hj he) (.inl hy);have h2:=f3 b hF;omega) n_ λF' e hr=>by
    injection e with e;subst e;have:F.rc=true:=hr;rw[vB]at this;cases this
  have l3:Map.le bF (dy bF (k+1) (.val u3)):=fZ (m1.dp _ Oz);exact⟨_,_,rfl,l1.trans l3,.agg (.cons (c1.mono l3) (.cons (Xu.mono (l1.trans l3)) (.cons (.opq (fj _ _ _) r3.2.1 r3.2.2) .nil))),m3⟩
end
section
variable{P:j_}{B:ae}{N:Nat}
end
section
variable{P:j_}{B:ae}{N:Nat}
end
def cx(k:Nat):Value:=.pointer (some ⟨k,0,some 9⟩)
def qN(L:l_):List Int:=L.map λx:Nat=>(x:Int)
def oq(w:h_)(v:i_)(n:Nat)(xs:ak):Prop:=cZ w v n xs\/(n=0/\∃ a,v=.slice (some a) 0 0)
theorem Vz{l:List Int}(h:oq w u l.length (e6 l))(hs:w.heap.size<=w'.heap.size)(hk:0<l.length->∀ b,hZ u=some b->wX w w' b):oq w' u l.length (e6 l):=by
 rcases h with h|h
 ·rcases nr l.length with h0|h0
  ·rcases h with h|⟨b,o,c,h1,h2,h3,h4⟩
   ·exact .inl (.inl h)
   ·refine .inl (.inr ⟨b,o,c,h1,h2,cy h3 hs,λj u hj=>?_⟩);rw[j9 h0]at hj;simp[e6]at hj
  ·exact .inl (h.kept hs (hk h0))
 ·exact .inr h
theorem oq.lt{n:Nat}(h:oq w u n xs)(h0:0<n)(hb:hZ u=some b):b<w.heap.size:=by
 rcases h with h|⟨h,_⟩
 ·exact h.lt hb
 ·omega
theorem oq.row{n:Nat}(h:oq w u n xs)(h0:0<n):cZ w u n xs:=by
 rcases h with h|⟨h,_⟩
 ·exact h
 ·omega
theorem oq.one{n:Nat}(h:oq w u n xs):u.cells=#[u]/\u.oneCell'=true:=by rcases h with (⟨e,_⟩|⟨_,_,_,e,_⟩)|⟨_,_,e⟩<;>rw[e]<;>exact⟨rfl,rfl⟩
theorem oq.form{n:Nat}(h:oq w u n xs):(u=.slice none 0 0/\n=0)\/∃ a c,u=.slice (some a) n c:=by
 rcases h with (⟨e,e2,_⟩|⟨_,_,_,e,_⟩)|⟨e1,_,e⟩
 ·exact .inl ⟨e,e2⟩
 ·exact .inr ⟨_,_,e⟩
 ·subst e1;exact .inr ⟨_,_,e⟩
def dK(l:List Int):Fact where
 G u w:=oq w u l.length (e6 l)
 cI u w k:=0<l.length/\hZ u=some k
 lt u w k h hF:=h.lt hF.1 hF.2
 dep u w w' h hs hk:=⟨Vz h hs λh0 b hb cs ty f hc=>(hk b ⟨h0,hb⟩).trans hc,λk hF=>hF⟩
 soft _ u w w' h hs hk:=⟨Vz h hs λh0 b hb=>hk b ⟨h0,hb⟩,λk hF=>hF⟩
inductive sZ(w:h_):f_->ak->Prop
 |nil:sZ w [] []
 |cons {i:Int} {l:List Int} {u:i_} {fs:f_} {cs:ak}:oq w u l.length (e6 l)->sZ w fs cs->sZ w ((i,l)::fs) (iV i::u::cs)
theorem sZ.length{cs:ak}(h:sZ w fs cs):cs.length=fs.length*2:=by
 induction h with
 |nil=>rfl
 |cons _ _ ih=>simp only[pU,ih];omega
theorem aDN{w:h_}:∀{fs:f_} {cs:ak},sZ w fs cs->∀{i:Nat} {f:Int×List Int},fs[i]?=some f->∃ u,cs[i*2]?=some (iV f.1)/\cs[i*2+1]?=some u/\oq w u f.2.length (e6 f.2)
 |_,_,.nil,i,f,h=>by simp at h
 |_,_,.cons (u:=u) h1 h2,0,f,h=>by simp at h;subst h;exact⟨u,rfl,rfl,h1⟩
 |_,_,.cons h1 h2,i+1,f,h=>by
  obtain⟨u,q1,q2,q3⟩:=aDN h2 (i:=i) (by simpa using h);refine⟨u,?_,?_,q3⟩
  ·rw[show(i+1)*2=i*2+2 by omega];exact q1
  ·rw[show(i+1)*2+1=i*2+1+2 by omega];exact q2
def KN(u:i_)(k:Nat):Prop:=∃ a n c,u=.slice (some a) n c/\0<n/\a.block=k
theorem aPC(h:KN u k):hZ u=some k:=by obtain⟨a,n,c,rfl,_,e⟩:=h;show some a.block=_;rw[e]
theorem sZ.kept{cs:ak}(h:sZ w fs cs)(hs:w.heap.size<=w'.heap.size)(hk:∀ u∈cs,∀ b,KN u b->wX w w' b):sZ w' fs cs:=by
 induction h with
 |nil=>exact .nil
 |cons h1 _ ih=>
  refine .cons (Vz h1 hs λh0 b hb=>hk _ (bB _ (aN ..)) b ?_) (ih λu hu=>hk u (bB _ (bB _ hu)));rcases h1.form with ⟨e,e2⟩|⟨a,c,e⟩
  ·omega
  ·subst e;injection hb with hb;exact⟨a,_,c,rfl,h0,hb⟩
theorem sZ.lt{cs:ak}(h:sZ w fs cs):∀ u∈cs,∀ b,KN u b->b<w.heap.size:=by
 induction h with
 |nil=>intro u hu;cases hu
 |cons h1 _ ih=>
  intro u hu b hb;rcases ch.1 hu with rfl|hu
  ·obtain⟨a,n,c,e,_⟩:=hb;cases e
  ·rcases ch.1 hu with rfl|hu
   ·obtain⟨a,n,c,e,h0,e2⟩:=hb;rcases h1.form with ⟨e',e3⟩|⟨a',c',e'⟩
    ·rw[e']at e;cases e
    ·rw[e']at e;injection e with e1 BN e3;subst BN;exact h1.lt h0 (by rw[e'];injection e1 with e1;subst e1;show some a'.block=_;rw[e2])
   ·exact ih u hu b hb
def VA(w:h_)(v:i_)(fs:f_):Prop:=∃ cs,cZ w v fs.length cs/\sZ w fs cs
def Pf(n:Nat)(v:i_)(w:h_)(k:Nat):Prop:=
 hZ v=some k\/∃ b o c j u,v=.slice (some ⟨b,o,none⟩) n c/\j<n*2/\w.cell? ⟨b,o+j,none⟩=some u/\KN u k
theorem aPD{v:i_}{cs:ak}(h1:cZ w v fs.length cs)(h2:sZ w fs cs){o c:Nat}(hv:v=.slice (some ⟨b,o,none⟩) fs.length c)(hj:j<fs.length*2)(hu:w.cell? ⟨b,o+j,none⟩=some u):u∈cs:=by
 rcases h1 with ⟨h,_⟩|⟨b',o',c',e,_,_,h4⟩
 ·rw[h]at hv;cases hv
 ·rw[e]at hv;injection hv with hv _ _;injection hv with hv;injection hv with e1 e2 _;subst e1;subst e2;have av:j<cs.length:=by rw[h2.length];exact hj
  have oQ:cs[j]?=some cs[j]:=bd av;have:=h4 j _ oQ;rw[hu]at this;injection this with this;rw[this];exact eh av
theorem aDO{v:i_}(h:VA w v fs)(hs:w.heap.size<=w'.heap.size)(hk:∀ k,Pf fs.length v w k->wX w w' k):
  VA w' v fs/\∀ k,Pf fs.length v w' k->Pf fs.length v w k:=by
 obtain⟨cs,h1,h2⟩:=h;have G8:∀ b,hZ v=some b->wX w w' b:=λb hb=>hk b (.inl hb);have Oi:∀ u∈cs,∀ b,KN u b->wX w w' b:=λu hu b hb=>by
  rcases h1 with ⟨_,_,h⟩|⟨b',o',c',e,_,_,h4⟩
  ·rw[h]at hu;cases hu
  ·obtain⟨j,hj,rfl⟩:=lI hu;refine hk b (.inr ⟨b',o',c',j,_,e,by rw[<-h2.length];exact hj,h4 j _ (bd hj),hb⟩)
 refine⟨⟨cs,h1.kept hs G8,h2.kept hs Oi⟩,λk hF=>?_⟩;rcases hF with hF|⟨b,o,c,j,u,e,hj,hc,hb⟩
 ·exact .inl hF
 ·rcases h1 with ⟨h,_⟩|⟨b',o',c',e',_,_,h4⟩
  ·rw[h]at e;cases e
  ·rw[e']at e;injection e with e1 _ e3;injection e1 with e1;injection e1 with e1 e2 _;subst e1;subst e2;subst e3;have av:j<cs.length:=by rw[h2.length];exact hj
   have h5:=h4 j _ (bd av);have h6:=Ub (G8 b' (by rw[e'];rfl)) h5;rw[hc]at h6;injection h6 with h6;exact .inr ⟨b',o',c',j,u,e',hj,by rw[h6];exact h5,hb⟩
def jS(fs:f_):Fact where
 G v w:=VA w v fs
 cI v w k:=Pf fs.length v w k
 lt v w k h hF:=by
  obtain⟨cs,h1,h2⟩:=h;rcases hF with hF|⟨b,o,c,j,u,e,hj,hc,hb⟩
  ·exact h1.lt hF
  ·exact h2.lt u (aPD h1 h2 e hj hc) k hb
 dep v w w' h hs hk:=aDO h hs λk hF cs ty f hc=>(hk k hF).trans hc
 soft _ v w w' h hs hk:=aDO h hs hk
structure ou(fs:f_)(F:Fact):Prop where
 G:∀ v w,F.G v w->(jS fs).G v w
 cI:∀ v w k,(jS fs).cI v w k->F.cI v w k
theorem ou.self(fs:f_):ou fs (jS fs):=⟨λ_ _ h=>h,λ_ _ _ h=>h⟩
theorem nF.aPE{cs:ak}(h:nF w fs cs):sZ w fs cs:=by
 induction h with
 |nil=>exact .nil
 |cons h1 _ _ ih=>exact .cons (.inl h1) ih
theorem ou.full(fs:f_):ou fs (mn fs):=by
 refine⟨λv w h=>?_,λv w k h=>?_⟩
 ·obtain⟨cs,h1,h2⟩:=h;exact⟨cs,h1,h2.aPE⟩
 ·rcases h with h|⟨b,o,c,j,u,e,hj,hc,hb⟩
  ·exact .inl h
  ·exact .inr ⟨b,o,c,j,u,e,hj,hc,aPC hb⟩
theorem ou.iS(h:ou fs F)(S:Nat):ou fs (F.iS S):=⟨λv w hv=>h.G v w hv.1,h.cI⟩
section
variable{P:j_}{B:ae}{N:Nat}
theorem y0(ho:Ou P o=true)(hF:ou fs F):ct P B o [.pointer (some ⟨k,0,some 9⟩)] [(k,some (.fact F))] (vI fs.length) []:=by
 obtain⟨x,t,e,bM,ht⟩:=aBL ho;refine gL.step λι c ρ w aK hm nN=>?_;rw[bM]at aK;obtain⟨u,hu,hc⟩:=lO aK;have hu:ρ x=u:=by simpa[Op.operands,Call.operands]using hu
 have E9:=yv hm (nN (k,_) (aN ..)) hc;obtain⟨cs,hr,_⟩:=hF.G _ _ E9.1;refine⟨ι,vI fs.length,w,Map.le.refl _,.same rfl,hm,.inl ?_⟩;rcases hr with ⟨q1,q2,_⟩|⟨b,o',c',q1,_⟩
 ·subst q1;simp[execOp,bM,resolve,invoke,builtin,Builtin.len_,hu,iI ht,goInt,q2,vI]
 ·subst q1;simp[execOp,bM,resolve,invoke,builtin,Builtin.len_,hu,iI ht,goInt,vI]
theorem oX(ho:Ou P o=true){l:List Int}:ct P B o [.pointer (some ⟨k,0,some 9⟩)] [(k,some (.fact (dK l)))] (vI l.length) []:=by
 obtain⟨x,t,e,bM,ht⟩:=aBL ho;refine gL.step λι c ρ w aK hm nN=>?_;rw[bM]at aK;obtain⟨u,hu,hc⟩:=lO aK;have hu:ρ x=u:=by simpa[Op.operands,Call.operands]using hu
 have E9:=yv hm (nN (k,_) (aN ..)) hc;have hw:oq w u l.length (e6 l):=E9.1;refine⟨ι,vI l.length,w,Map.le.refl _,.same rfl,hm,.inl ?_⟩;rcases hw.form with ⟨q1,q2⟩|⟨a,c',q1⟩
 ·subst q1;simp[execOp,bM,resolve,invoke,builtin,Builtin.len_,hu,iI ht,goInt,q2,vI]
 ·subst q1;simp[execOp,bM,resolve,invoke,builtin,Builtin.len_,hu,iI ht,goInt,vI]
theorem KO(ho:vQ P o=some 2){f:Int×List Int}(hF:ou fs F)(hi:fs[i]?=some f)(Ha:m<k):
  ct P B o [.pointer (some ⟨m,0,some 9⟩),vI i] [(k,none),(k+1,none),(m,some (.fact F))] (.pointer (some ⟨k,0,some 7⟩)) [(k,.view [iV f.1,.pointer (some ⟨k+1,0,some 9⟩)]),(k+1,.fact (dK f.2))]:=by
 unfold vQ at ho;split at ho
 ·rename_i t x y bM;split at ho
  ·rename_i e ht;split at ho
   ·rename_i inf zr;injection ho with ho;refine gL.step λι c ρ w aK hm nN=>?_;rw[bM]at aK;obtain⟨v,v2,hu,hc,c7⟩:=iH aK;have du:ρ x=v:=by simp[Op.operands]at hu;exact hu.1
    have ew:ρ y=v2:=by simp[Op.operands]at hu;exact hu.2
    have c7:=c7.eW rfl;have Fb:c m=some (.fact F):=nN (m,some (.fact F)) s_;have k0:c k=none:=nN (k,none) s_;have k1:c (k+1)=none:=nN (k+1,none) s_;have E9:=yv hm Fb hc;have loc:ι m=some (.val v):=by
     obtain⟨lc,q1,u,q2,q3⟩:=hm.born m _ Fb;subst q2;generalize hp:Value.pointer (some ⟨m,0,some 9⟩)=p at hc;cases hc with
     |same h=>subst hp;cases h
     |ptr h=>injection hp with hp;injection hp with hp;injection hp with _ _ hp;cases hp
     |slc h=>cases hp
     |slcN h=>cases hp
     |opq h4 h5 h6=>injection hp with hp;injection hp with hp;injection hp with ik;subst ik;exact h4
     |fn=>cases hp
     |agg=>cases hp
     |tup=>cases hp
    obtain⟨cs,hr,jI⟩:=hF.G _ _ E9.1;obtain⟨u,a1,a2,a3⟩:=aDN jI hi;have av:=(eD.1 hi).1;rcases hr with ⟨_,q2,_⟩|⟨b,o',c',q1,q2,q3,q4⟩
    ·omega
    have own:∀ bb,F.cI v w bb->∀ j y o' bf,c j=some y->y.owns=true->ι j≠some (.at bb o' bf):=λbb hb j y o1 kz hj hy he=>hm.apart j m y F bb o1 kz v hj hy he Fb loc hb;have hFb:F.cI v w b:=hF.cI _ _ _ (.inl (by rw[q1];rfl));have hFu:∀ bb,(dK f.2).cI u w bb->F.cI v w bb:=λbb hb=>hF.cI _ _ _ (.inr ⟨b,o',c',i*2+1,u,q1,by omega,q4 _ _ a2,by
     obtain⟨h0,hb⟩:=hb;rcases a3.form with ⟨e',e2⟩|⟨a,c2,e'⟩
     ·omega
     ·subst e';injection hb with hb;exact⟨a,_,c2,rfl,h0,hb⟩⟩)
    have m1:aI B (dy ι (k+1) (.val u)) (aT c (k+1) (.fact (dK f.2))) w:=hm.add k1 ⟨u,rfl,a3⟩ n_ (λF' v' b' e1 e2 hb j y o1 kz hj hy he=>by injection e1 with e1;subst e1;injection e2 with e2;subst e2;exact own b' (hFu b' hb) j y o1 kz hj hy he) n_ λF' e hr=>by injection e with e;subst e;cases hr
    have k0':aT c (k+1) (.fact (dK f.2)) k=none:=by unfold aT;rw[al o_];exact k0
    have l1:Map.le ι (dy ι (k+1) (.val u)):=fZ (hm.dp _ k1);have cu:aG (dy ι (k+1) (.val u)) (.pointer (some ⟨k+1,0,some 9⟩)) u:=.opq (fj _ _ _) a3.one.1 a3.one.2;have l2:Map.le (dy ι (k+1) (.val u)) (dy (dy ι (k+1) (.val u)) k (.at b (o'+i*2) 0)):=fZ (m1.dp _ k0');have back:∀ j y b' o1 kz,aT c (k+1) (.fact (dK f.2)) j=some y->y.owns=true->dy ι (k+1) (.val u) j=some (.at b' o1 kz)->c j=some y/\ι j=some (.at b' o1 kz):=λj y b' o1 kz hj hy he=>by
     unfold aT at hj;unfold dy at he;by_cases bL:j=k+1
     ·rw[aq bL]at hj;injection hj with hj;subst hj;cases hy
     ·rw[al bL]at hj he;exact⟨hj,he⟩
    have m2:aI B (dy (dy ι (k+1) (.val u)) k (.at b (o'+i*2) 0)) (aT (aT c (k+1) (.fact (dK f.2))) k (.view [iV f.1,.pointer (some ⟨k+1,0,some 9⟩)])) w:=
     m1.add k0' (.inr ⟨b,o'+i*2,0,[iV f.1,u],rfl,.cons (.same rfl) (.cons (cu.mono l2) .nil),λj x hj=>by
      cases j with
      |zero=>simp at hj;subst hj;have:=q4 _ _ a1;simpa using this
      |succ j=>cases j with
       |zero=>simp at hj;subst hj;have:=q4 _ _ a2;rw[tt];exact this
       |succ j=>simp at hj⟩) n_ n_ (λb1 o1 kz _ e=>by
      injection e with e1 e2 e3;subst e1;exact⟨q3,λj y o2 o6 hj hy he=>by obtain⟨hj,he⟩:=back j y b o2 o6 hj hy he;exact own b hFb j y o2 o6 hj hy he⟩)
    refine⟨_,.pointer (some ⟨b,o'+i*2,none⟩),w,l1.trans l2,?_,m2,.inl ?_⟩
    ·have:=aG.ptr (off:=0) (fj (dy ι (k+1) (.val u)) k (.at b (o'+i*2) 0));rwa[iJ]at this
    ·subst q1;simp only[execOp,bM,du,ew,c7];have h0:(0:Int)<=(i:Int):=by omega
     simp[Instr.indexAt,asIntOf,iI ht,sizeOf,typeInfo,zr,h0,xJ,vI,ho];intro fJ;omega
   ·cases ho
  ·cases ho
 ·cases ho
end
section
open V3 (dot aw cV smul)
theorem cJ.aPF{x1 x2:ak}{F':Fact}(h:cJ P f (.s n1 x1 n2 x2 F::l) res)(hF:∀ v w,F'.G v w->F.G v w):cJ P f (.s n1 x1 n2 x2 F'::l) res:=by
 intro w vs cB;cases cB with
 |cons h1 h2=>
  obtain⟨u1,u2,u3,e,r1,r2,r3⟩:=h1;exact h w _ (.cons ⟨u1,u2,u3,e,r1,r2,hF _ _ r3.1,r3.2⟩ h2)
theorem aPG(fs:f_)(S:Nat):∀ v w,((mn fs).iS S).G v w->(jS fs).G v w:=λv w h=>(ou.full fs).G v w h.1
theorem aDP{x y:Nat}(h:decide (x≠y)=t):Value.bool ((x:Int)!=(y:Int))=.bool t:=by
 rw[<-h];congr 1
 by_cases e:x=y
 ·subst e;simp
 ·rw[aD e,qg];omega
theorem aPH{a b:List Int}(h63:a.length<9223372036854775807):cJ prog 56 [.o (dK a),.o (dK b)] (.bool (decide (a=b))):=by
 have ax:([aJ.o (dK a),.o (dK b)].all aJ.ok)=true:=rfl;by_cases hl:a.length=b.length
 ·rcases nr a.length with h0|h0
  ·have ha:=j9 h0;have hb:=j9 (hl▸h0);subst ha;subst hb;exact dR func56 ax 26 (λw=>[.step 7 (au f56 7) [cx 0] [(0,some (.fact (dK [])))] (vI 0) [] (oX k_),.step 9 (au f56 9) [cx 1] [(1,some (.fact (dK [])))] (vI 0) [] (oX k_),.step 12 (au f56 12) [cx 0] [(0,some (.fact (dK [])))] (vI 0) [] (oX k_)])
  ·intro w vs cB;cases cB with
   |cons h1 cB=>
   cases cB with
   |cons h2 cB=>
   cases cB;have r1:cZ w _ a.length (e6 a):=oq.row h1.1 h0;have r2:cZ w _ b.length (e6 b):=oq.row h2.1 o_;exact aLm h63 w _ (.cons r1 (.cons r2 .nil))
 ·have bX:a≠b:=λh=>hl (by rw[h]);rw[aQ bX];exact dR func56 ax 26 (λw=>[.step 7 (au f56 7) [cx 0] [(0,some (.fact (dK a)))] (vI a.length) [] (oX k_),.step 9 (au f56 9) [cx 1] [(1,some (.fact (dK b)))] (vI b.length) [] (oX k_),.rw 10 _ b_ (aDP (x:=a.length) (y:=b.length) (by simp[hl]))])
theorem aPI{i j:Int}{l l':List Int}(h63:l.length<9223372036854775807):cJ prog 55 [.c (iV i) (dK l),.c (iV j) (dK l')] (.bool (decide ((i,l)=(j,l')))):=by
 have ax:([aJ.c (iV i) (dK l),.c (iV j) (dK l')].all aJ.ok)=true:=rfl;have he:=aPH (a:=l) (b:=l') h63;have e1:decide ((i,l)=(j,l'))=(decide (i=j)&&decide (l=l')):=by rw[<-Bool.decide_and];exact pe.2 s_
 have e0:(Value.bool (i==j))=.bool (decide (i=j)):=rfl;rw[e1];generalize decide (i=j)=s at *;generalize decide (l=l')=t at *;refine jP mixed func55 ax 100 (N:=17) k_ (λw=>[.rw 9 _ _ e0,.cR f55 15 [cx 0,cx 1] he (.o (.o .nil))]) (λ_=>?_) ?_<;>cases s<;>kernel_rfl
section
variable{Bs:ae}{fs fs':f_}
def KP:Value:=.func (.func 55) #[] #[]
def y7(n i:Nat):aL:=[(17,vI i),(15,cx 0),(16,vI n),(1,cx 1),(2,KP)]
def qO(fs fs':f_):aC:=[(0,.fact (jS fs)),(1,.fact (jS fs'))]
theorem aPJ:∀ x∈qO fs fs',fW 2 x.2:=λx hx=>by simp only[qO,ch,fF,fG]at hx;rcases hx with rfl|rfl<;>exact λv hv=>(by cases hv)
noncomputable def efS{n:Nat}{f:Int×List Int}(hi:i<n)(h1:fs[i]?=some f)(h2:fs'[i]?=some f')(h63:f.2.length<9223372036854775807)(ht:decide (f=f')=t)(more:bK prog Bs 32):bK prog Bs 32:=
 .lt 18 i n true (aD hi)::.step 20 (au f58 20) [cx 0,vI i] [(2,none),(2+1,none),(0,some (.fact (jS fs)))] (.pointer (some ⟨2,0,some 7⟩)) [(2,.view [iV f.1,cx 3]),(2+1,.fact (dK f.2))] (KO k_ (.self fs) h1 d_)::
 .step 24 (au f58 24) [cx 1,vI i] [(5,none),(5+1,none),(1,some (.fact (jS fs')))] (.pointer (some ⟨5,0,some 7⟩)) [(5,.view [iV f'.1,cx 6]),(5+1,.fact (dK f'.2))] (KO k_ (.self fs') h2 d_)::
 .step 29 (au f58 29) [KP,.agg #[iV f.1,cx 3],.agg #[iV f'.1,cx 6]] [(3,some (.fact (dK f.2))),(6,some (.fact (dK f'.2)))] (.bool t) [] (od (ht▸aPI (i:=f.1) (j:=f'.1) h63) (.c rfl (λ_ _ h=>h) (.c rfl (λ_ _ h=>h) .nil)) (x:=.tmp 26) k_ k_ rfl)::more
theorem aPK{n:Nat}{f:Int×List Int}(hi:i<n)(h1:fs[i]?=some f)(h2:fs'[i]?=some f)(h63:f.2.length<9223372036854775807)(VB:n<9223372036854775807):ag prog Bs 32 (aE (af f58 0)) (y7 n i) (qO fs fs') 2 ⟨.normal,y7 n (i+1),qO fs fs',2⟩:=
 vP mixed 100 (gg:=8) (efS hi h1 h2 h63 (t:=true) s_ [.sum 31 i 1 (i+1) rfl o_]) k_ rfl k_ aPJ k_
theorem aPL{n:Nat}{f:Int×List Int}(hi:i<n)(h1:fs[i]?=some f)(h2:fs'[i]?=some f')(h63:f.2.length<9223372036854775807)(ht:f≠f'):ag prog Bs 32 (aE (af f58 0)) (y7 n i) (qO fs fs') 2 ⟨.ret,[(6,.bool false)],qO fs fs',8⟩:=
 ay (efS hi h1 h2 h63 (aQ ht) [])
theorem aPM{n:Nat}:ag prog Bs 32 (aE (af f58 0)) (y7 n n) (qO fs fs') 2 ⟨.exit 0,[],qO fs fs',2⟩:=
 ay [.lt 18 n n false s_]
noncomputable def VC(ht:decide (fs.length≠fs'.length)=t)(more:bK prog Bs 32):bK prog Bs 32:=
 .step 11 (au f58 11) [cx 0] [(0,some (.fact (jS fs)))] (vI fs.length) [] (y0 k_ (.self fs))::.step 13 (au f58 13) [cx 1] [(1,some (.fact (jS fs')))] (vI fs'.length) [] (y0 k_ (.self fs'))::.rw 14 _ (.bool t) (aDP ht)::more
theorem aPN(h63:fs.length<9223372036854775807)(ui:∀ f∈fs,f.2.length<9223372036854775807):cJ prog 58 [.o (jS fs),.o (jS fs'),.p KP] (.bool (decide (fs=fs'))):=by
 have ax:([aJ.o (jS fs),.o (jS fs'),.p KP].all aJ.ok)=true:=rfl;by_cases hl:fs.length=fs'.length
 ·have pL:∀(B:ae) e,e<=fs.length->(∀ i x y,i<e->fs[i]?=some x->fs'[i]?=some y->x=y)->∀ i,i<e->ag prog B 32 (aE (af f58 0)) (y7 fs.length i) (qO fs fs') 2 ⟨.normal,y7 fs.length (i+1),qO fs fs',2⟩:=λB e he h4 i hi=>by have hx:fs[i]?=some fs[i]:=bd o_;have hy:fs'[i]?=some fs'[i]:=bd o_;have:=h4 i _ _ hi hx hy;rw[<-this]at hy;exact aPK o_ hx hy (ui _ (eh _)) h63
  rcases CJ fs fs' hl with h|⟨e,x,y,q1,q2,q3,q4⟩
  ·have lo:∀ B:ae,ag prog B 32 (.block 0 (af f58 0)) (y7 fs.length 0) (qO fs fs') 2 ⟨.normal,[],qO fs fs',2⟩:=λB=>
    bO (id:=0) (cg fs.length (λi=>y7 fs.length i) (λ_=>qO fs fs') (λi k _=>Iff.rfl) (pL B fs.length (aZ _) λi x y _ hx hy=>by rw[h,hy]at hx;injection hx with hx;exact hx.symm) aPM n_)
   rw[aD h];exact dR func58 ax 32 (λw=>VC (fs:=fs) (fs':=fs') (t:=false) (by simp[hl]) [.step 16 (au f58 16) [cx 0] [(0,some (.fact (jS fs)))] (vI fs.length) [] (y0 k_ (.self fs)),.code 0 _ _ _ _ _ (lo _)])
  ·have bX:fs≠fs':=λh=>by subst h;rw[q1]at q2;injection q2 with q2;exact q3 q2
   rw[aQ bX];have av:=(eD.1 q1).1;have lo:∀ B:ae,ag prog B 32 (.block 0 (af f58 0)) (y7 fs.length 0) (qO fs fs') 2 ⟨.ret,[(6,.bool false)],qO fs fs',8⟩:=λB=>
    bO (id:=0) (cg e (λi=>y7 fs.length i) (λ_=>qO fs fs') (λi k _=>Iff.rfl) (pL B e o_ q4) (aPL av q1 q2 (ui _ (cL q1)) q3) n_)
   exact dR func58 ax 32 (λw=>VC (fs:=fs) (fs':=fs') (t:=false) (by simp[hl]) [.step 16 (au f58 16) [cx 0] [(0,some (.fact (jS fs)))] (vI fs.length) [] (y0 k_ (.self fs)),.code 0 _ _ _ _ _ (lo _)])
 ·have bX:fs≠fs':=λh=>hl (by rw[h]);rw[aQ bX];exact dR func58 ax 32 (λw=>VC (fs:=fs) (fs':=fs') (t:=true) (by simp[hl]) [])
end
end
theorem aDQ{t:TypeId}{s:Nat}(ht:G3 P t=some s){cells:ak}(hl:off+s<=cells.length):dB P t cells off=some (.agg ((cells.drop off).take s).toArray):=by
 unfold G3 at ht;split at ht
 ·rename_i d inf h1 h2;split at ht
  ·rename_i hr;injection ht with ht;unfold dB;rw[h1,h2];dsimp only;rw[aq hr,ht,aq (by rw[Nat.ble_eq];exact hl)]
  ·cases ht
 ·cases ht
theorem aDR{l:List RP}{p:RP}(h:l[i]?=some p):i*40+40<=(db l).length:=by rw[rL iD];have av:=(eD.1 h).1;have:=eR 40 av;omega
theorem Pg{l:List RP}{p:RP}(h:l[i]?=some p):dB prog 42 (db l) (i*40)=some p.n.v:=by
 rw[aDQ (s:=30) k_ (by have:=aDR h;omega)];have e:=NX iD h;have e2:((db l).drop (i*40)).take 30=p.n.cs:=by
  have:((db l).drop (i*40)).take 30=(((db l).drop (i*40)).take 40).take 30:=by rw[Li];rfl
  rw[this,e];rfl
 rw[e2];rfl
theorem aDS{l:List RP}{p:RP}(h:l[i]?=some p):dB prog 40 (db l) (i*40+30)=some p.d.v:=by
 rw[aDQ (s:=10) k_ (by have:=aDR h;omega)];have e:=NX iD h;have e2:((db l).drop (i*40+30)).take 10=p.d.cs:=by
  rw[<-L6];have:(((db l).drop (i*40)).drop 30).take 10=(((db l).drop (i*40)).take 40).drop 30:=by rw[List.drop_take]
  rw[this,e];rfl
 rw[e2];rfl
theorem Fc(b:α->Bool)(l:List α):l.all b=true\/∃(n:Nat) (x:α),l[n]?=some x/\b x=false/\(∀(i:Nat) (y:α),i<n->l[i]?=some y->b y=true)/\l.all b=false:=by
 induction l with
 |nil=>exact .inl rfl
 |cons x l ih=>
  rcases hb:b x with _|_
  ·exact .inr ⟨0,x,rfl,hb,λi y hi=>by omega,by simp[hb]⟩
  ·rcases ih with h|⟨n,y,h1,h2,h3,h4⟩
   ·exact .inl (by rw[fp,hb,h];rfl)
   ·refine .inr ⟨n+1,y,by simpa using h1,h2,λi z hi hz=>?_,by rw[fp,h4,L3]⟩;cases i with
    |zero=>simp at hz;rw[<-hz];exact hb
    |succ i=>exact h3 i z o_ (by simpa using hz)
theorem Hz{b:α->Bool}{l:List α}(h:l.all b=true){x:α}(hx:l[i]?=some x):b x=true:=aX.1 h x (cL hx)
theorem VD(h:decide (a<=b)=t):Value.bool (decide ((a:Int)<=(b:Int)))=.bool t:=by rw[<-h];congr 1;rw[pe];omega
section
variable{Bs:ae}{vs:List RV}{k:Nat}
end
def Ph(p:RP):Bool:=decide (24<wV p.n)||decide (15<wN p.d)
def rX(ps:List RP)(i:Nat):Nat:=((ps.take i).filter Ph).length
theorem aPO{ps:List RP}{p:RP}(h:ps[i]?=some p):rX ps (i+1)=rX ps i+if Ph p then 1 else 0:=by unfold rX;rw[ua,h];simp only[Option.toList,Vq,jW];rcases hb:Ph p with _|_<;>simp[hb]
theorem aPP(ps:List RP)(i:Nat):rX ps i<=i:=by unfold rX;refine c9 (aDs _ _) ?_;rw[je];omega
theorem Pj{r:RN}(h:ug r k=true):wN r<=5*k:=by unfold ug at h;simp only[cY,tz]at h;unfold wN;omega
theorem aPQ{r:RV}(h:A9 r k=true):wV r<=15*k:=by unfold A9 at h;simp only[cY]at h;have h1:=Pj h.1;have h2:=Pj h.2.1;have h3:=Pj h.2.2;unfold wV;omega
section
variable{Bs:ae}{ps:List RP}
def y8(ps:List RP)(n i:Nat):aL:=[(6,vI i),(0,sl 0 n),(5,vI (rX ps i))]
def xo(ps:List RP):aC:=[(0,.view (db ps))]
theorem aDT{n:Nat}{x:RP}(hi:i<n)(hx:ps[i]?=some x)(hb:Ba x 3=true)(h63:n<9223372036854775807):
  ag prog Bs 45 (aE (af f11 0)) (y8 ps n i) (xo ps) 1 ⟨.normal,y8 ps n (i+1),xo ps,1⟩:=by
 have hr:=aCM x 3;rw[hb]at hr;have gD:A9 x.n 3=true/\ug x.d 3=true:=by unfold Ba at hb;simpa using hb
 have w1:=aPQ gD.1;have w2:=Pj gD.2;have q1:=aOc (r:=x.n) o_;have q2:=OP (r:=x.d) o_;have hs:=aPO hx;have hle:=aPP ps i;unfold y8;rw[hs];generalize rX ps i=c at *;unfold Ph;by_cases g1:24<wV x.n
 ·rw[aD g1];exact ay [.lt 10 i n true (aD hi),.de f11 15 0 n i 40 hi k_,.ld f11 16 66 0 (i*40) (.view (db ps)) x.v rfl (u5 hx) k_,hr.at 17,.de f11 21 0 n i 40 hi k_,.ld f11 23 42 0 (i*40) (.view (db ps)) x.n.v rfl (Pg hx) k_,q1.at 24,.gt 25 (wV x.n) 24 true (aD g1),.sum 36 c 1 (c+1) rfl o_,.sum 12 i 1 (i+1) rfl o_]
 ·rw[aQ g1];by_cases g2:15<wN x.d
  ·rw[aD g2];exact ay [.lt 10 i n true (aD hi),.de f11 15 0 n i 40 hi k_,.ld f11 16 66 0 (i*40) (.view (db ps)) x.v rfl (u5 hx) k_,hr.at 17,.de f11 21 0 n i 40 hi k_,.ld f11 23 42 0 (i*40) (.view (db ps)) x.n.v rfl (Pg hx) k_,q1.at 24,.gt 25 (wV x.n) 24 false (aQ g1),.de f11 29 0 n i 40 hi k_,.ld f11 31 40 0 (i*40+30) (.view (db ps)) x.d.v rfl (aDS hx) k_,q2.at 32,.gt 33 (wN x.d) 15 true (aD g2),.sum 36 c 1 (c+1) rfl o_,.sum 12 i 1 (i+1) rfl o_]
  ·rw[aQ g2];exact ay [.lt 10 i n true (aD hi),.de f11 15 0 n i 40 hi k_,.ld f11 16 66 0 (i*40) (.view (db ps)) x.v rfl (u5 hx) k_,hr.at 17,.de f11 21 0 n i 40 hi k_,.ld f11 23 42 0 (i*40) (.view (db ps)) x.n.v rfl (Pg hx) k_,q1.at 24,.gt 25 (wV x.n) 24 false (aQ g1),.de f11 29 0 n i 40 hi k_,.ld f11 31 40 0 (i*40+30) (.view (db ps)) x.d.v rfl (aDS hx) k_,q2.at 32,.gt 33 (wN x.d) 15 false (aQ g2),.sum 12 i 1 (i+1) rfl o_]
theorem aPR{n:Nat}{x:RP}(hi:i<n)(hx:ps[i]?=some x)(hb:Ba x 3=false):
  ag prog Bs 45 (aE (af f11 0)) (y8 ps n i) (xo ps) 1 ⟨.ret,[(4,.bool false)],xo ps,1⟩:=by
 have hr:=aCM x 3;rw[hb]at hr;exact ay [.lt 10 i n true (aD hi),.de f11 15 0 n i 40 hi k_,.ld f11 16 66 0 (i*40) (.view (db ps)) x.v rfl (u5 hx) k_,hr.at 17]
def HA(ps:List RP)(k:Nat):Bool:=ps.all (λx=>Ba x 3)&&(decide (rX ps ps.length<=1)&&decide (ps.length<=k))
theorem aPS(k:Nat)(h63:ps.length<9223372036854775807):cJ prog 11 [.r ps.length (db ps),.p (vI k)] (.bool (HA ps k)):=by
 have ax:([aJ.r ps.length (db ps),.p (vI k)].all aJ.ok)=true:=by simp only[fp,gm,aJ.ok,iZ iD,ja];rfl
 unfold HA;rcases Fc (λx=>Ba x 3) ps with h|⟨n,x,h1,h2,h3,h4⟩
 ·rw[h,oH];have lo:∀ B:ae,ag prog B 45 (.block 0 (af f11 0)) (y8 ps ps.length 0) (xo ps) 1 ⟨.normal,[(0,sl 0 ps.length),(5,vI (rX ps ps.length))],xo ps,1⟩:=λB=>
   bO (id:=0) (cg ps.length (λi=>y8 ps ps.length i) (λ_=>xo ps) (λi k _=>Iff.rfl) (r:=⟨.exit 0,[(0,sl 0 ps.length),(5,vI (rX ps ps.length))],xo ps,1⟩) (λi hi=>by have hx:ps[i]?=some ps[i]:=bd hi;exact aDT hi hx (Hz h hx) h63) (ay [.lt 10 ps.length ps.length false s_]) n_)
  unfold y8 at lo;have e0:rX ps 0=0:=by unfold rX;simp
  rw[e0]at lo;generalize rX ps ps.length=c at *;by_cases hc:c<=1
  ·rw[aD hc,oH];exact dR func11 ax 45 (λw=>[.code 0 _ _ _ _ _ (lo _),.rw 38 _ b_ (VD (a:=c) (b:=1) (aD hc)),.rw 43 _ (.bool (decide (ps.length<=k))) (VD rfl)])
  ·rw[aQ hc,BL];exact dR func11 ax 45 (λw=>[.code 0 _ _ _ _ _ (lo _),.rw 38 _ a_ (VD (a:=c) (b:=1) (aQ hc))])
 ·rw[h4,BL];have av:=(eD.1 h1).1;have lo:∀ B:ae,ag prog B 45 (.block 0 (af f11 0)) (y8 ps ps.length 0) (xo ps) 1 ⟨.ret,[(4,.bool false)],xo ps,1⟩:=λB=>
   bO (id:=0) (cg n (λi=>y8 ps ps.length i) (λ_=>xo ps) (λi k _=>Iff.rfl) (λi hi=>by have hx:ps[i]?=some ps[i]:=bd o_;exact aDT o_ hx (h3 i _ hi hx) h63) (aPR av h1 h2) n_)
  have e0:rX ps 0=0:=by unfold rX;simp
  unfold y8 at lo;rw[e0]at lo;exact dR func11 ax 45 (λw=>[.code 0 _ _ _ _ _ (lo _)])
end
section
open V3 (dot aw cV smul)
theorem aDU(h:ps[i]?=some p):(ps.map cS)[i]?=some (cS p):=by rw[xN,h];rfl
theorem KQ(h:ps[i]?=some p):dB prog 42 (bw ps) (i*40)=some (bN p.n):=Pg (aDU h)
theorem Pk(h:ps[i]?=some p):dB prog 66 (bw ps) (i*40)=some (dr p):=u5 (aDU h)
section
variable{Bs:ae}{ps:List RP}{m:Nat}
def Fe(n i:Nat):aL:=[(3,vI i),(0,sl 0 n)]
def vp(ps:List RP):aC:=[(0,.view (db ps))]
theorem aDV{n:Nat}{x:RP}(hi:i<n)(hx:ps[i]?=some x)(hs:uh m x)(hm:m<=az)(hb:mw x=true)(h63:n<9223372036854775807):
  ag prog Bs 16 (aE (af Tryz.f50 0)) (Fe n i) (vp ps) 1 ⟨.normal,Fe n (i+1),vp ps,1⟩:=by
 have hv:=Vd hs hm;rw[hb]at hv;exact ay [.lt 7 i n true (aD hi),.de Tryz.f50 12 0 n i 40 hi k_,.ld Tryz.f50 13 66 0 (i*40) (.view (db ps)) x.v rfl (u5 hx) k_,hv.at 14,.sum 9 i 1 (i+1) rfl o_]
theorem aPT{n:Nat}{x:RP}(hi:i<n)(hx:ps[i]?=some x)(hs:uh m x)(hm:m<=az)(hb:mw x=false):
  ag prog Bs 16 (aE (af Tryz.f50 0)) (Fe n i) (vp ps) 1 ⟨.ret,[(2,.bool false)],vp ps,1⟩:=by
 have hv:=Vd hs hm;rw[hb]at hv;exact ay [.lt 7 i n true (aD hi),.de Tryz.f50 12 0 n i 40 hi k_,.ld Tryz.f50 13 66 0 (i*40) (.view (db ps)) x.v rfl (u5 hx) k_,hv.at 14]
theorem aDW(hs:∀ x∈ps,uh m x)(hm:m<=az)(h63:ps.length<9223372036854775807):cJ prog 50 [.r ps.length (db ps)] (.bool (ps.all mw)):=by
 have ax:([aJ.r ps.length (db ps)].all aJ.ok)=true:=by simp only[fp,gm,aJ.ok,iZ iD,ja]
 rcases Fc mw ps with h|⟨n,x,h1,h2,h3,h4⟩
 ·rw[h];have lo:∀ B:ae,ag prog B 16 (.block 0 (af Tryz.f50 0)) (Fe ps.length 0) (vp ps) 1 ⟨.normal,[],vp ps,1⟩:=λB=>
   bO (id:=0) (cg ps.length (λi=>Fe ps.length i) (λ_=>vp ps) (λi k _=>Iff.rfl) (r:=⟨.exit 0,[],vp ps,1⟩) (λi hi=>by have hx:ps[i]?=some ps[i]:=bd hi;exact aDV hi hx (hs _ (eh hi)) hm (Hz h hx) h63) (ay [.lt 7 ps.length ps.length false s_]) n_)
  exact dR func50 ax 16 (λw=>[.code 0 _ _ _ _ _ (lo _)])
 ·rw[h4];have av:=(eD.1 h1).1;have lo:∀ B:ae,ag prog B 16 (.block 0 (af Tryz.f50 0)) (Fe ps.length 0) (vp ps) 1 ⟨.ret,[(2,.bool false)],vp ps,1⟩:=λB=>
   bO (id:=0) (cg n (λi=>Fe ps.length i) (λ_=>vp ps) (λi k _=>Iff.rfl) (r:=⟨.ret,[(2,.bool false)],vp ps,1⟩) (λi hi=>by
    have mh:i<ps.length:=by omega
    have hx:ps[i]?=some ps[i]:=bd mh;exact aDV mh hx (hs _ (eh mh)) hm (h3 i _ hi hx) h63) (aPT av h1 (hs x (cL h1)) hm h2) n_)
  exact dR func50 ax 16 (λw=>[.code 0 _ _ _ _ _ (lo _)])
end
section
variable{Bs:ae}{ps:c_}{m:Nat}{d:V3 K}
def xq(ps:c_)(d:V3 K):Bool:=ps.all λp=>decide (OF.aA (dot p.n d)<=0)
def Ff(n i:Nat):aL:=[(5,vI i),(0,sl 0 n),(3,ptr 1)]
def xt(ps:c_)(d:V3 K):aC:=[(0,.view (bw ps)),(1,.aH (cO d).cs 42)]
theorem Pl(h:decide (z<=0)=!t):Value.bool (decide (z>0))=.bool t:=by
 congr 1
 cases t
 ·have:=lC h;exact aQ o_
 ·have:=Cf h;exact aD o_
theorem aDX{n:Nat}(hi:i<n)(hx:ps[i]?=some p)(hp:bA m p)(hd:aF m d)(hm:100*m+1000<=az)(hb:decide (OF.aA (dot p.n d)<=0)=true)(h63:n<9223372036854775807):
  ag prog Bs 21 (aE (af f100 0)) (Ff n i) (xt ps d) 2 ⟨.normal,Ff n (i+1),xt ps d,2⟩:=
 ay [.lt 9 i n true (aD hi),.de f100 14 0 n i 40 hi k_,.ld f100 16 42 0 (i*40) (.view (bw ps)) (bN p.n) rfl (KQ hx) k_,(aTp hp.1 hd o_).at 18,(aTd (hp.1.dot hd) o_).at 19,.rw 20 _ a_ (Pl (t:=false) hb),.sum 11 i 1 (i+1) rfl o_]
theorem aPU{n:Nat}(hi:i<n)(hx:ps[i]?=some p)(hp:bA m p)(hd:aF m d)(hm:100*m+1000<=az)(hb:decide (OF.aA (dot p.n d)<=0)=false):
  ag prog Bs 21 (aE (af f100 0)) (Ff n i) (xt ps d) 2 ⟨.ret,[(4,.bool false)],xt ps d,2⟩:=
 ay [.lt 9 i n true (aD hi),.de f100 14 0 n i 40 hi k_,.ld f100 16 42 0 (i*40) (.view (bw ps)) (bN p.n) rfl (KQ hx) k_,(aTp hp.1 hd o_).at 18,(aTd (hp.1.dot hd) o_).at 19,.rw 20 _ b_ (Pl (t:=true) hb)]
theorem Pm(hs:∀ p∈ps,bA m p)(hd:aF m d)(hm:100*m+1000<=az)(h63:ps.length<9223372036854775807):cJ prog 100 [.r ps.length (bw ps),.p (bN d)] (.bool (xq ps d)):=by
 have ax:([aJ.r ps.length (bw ps),.p (bN d)].all aJ.ok)=true:=by simp only[fp,gm,aJ.ok,ja];rw[show(bw ps).all flat=true from dF ps];rfl
 unfold xq;rcases Fc (λp=>decide (OF.aA (dot p.n d)<=0)) ps with h|⟨n,x,h1,h2,h3,h4⟩
 ·rw[h];have lo:∀ B:ae,ag prog B 21 (.block 0 (af f100 0)) (Ff ps.length 0) (xt ps d) 2 ⟨.normal,[],xt ps d,2⟩:=λB=>
   bO (id:=0) (cg ps.length (λi=>Ff ps.length i) (λ_=>xt ps d) (λi k _=>Iff.rfl) (r:=⟨.exit 0,[],xt ps d,2⟩) (λi hi=>by have hx:ps[i]?=some ps[i]:=bd hi;exact aDX hi hx (hs _ (eh hi)) hd hm (Hz h hx) h63) (ay [.lt 9 ps.length ps.length false s_]) n_)
  exact dR func100 ax 21 (λw=>[.code 0 _ _ _ _ _ (lo _)])
 ·rw[h4];have av:=(eD.1 h1).1;have lo:∀ B:ae,ag prog B 21 (.block 0 (af f100 0)) (Ff ps.length 0) (xt ps d) 2 ⟨.ret,[(4,.bool false)],xt ps d,2⟩:=λB=>
   bO (id:=0) (cg n (λi=>Ff ps.length i) (λ_=>xt ps d) (λi k _=>Iff.rfl) (λi hi=>by
    have mh:i<ps.length:=by omega
    have hx:ps[i]?=some ps[i]:=bd mh;exact aDX mh hx (hs _ (eh mh)) hd hm (h3 i _ hi hx) h63) (aPU av h1 (hs x (cL h1)) hd hm h2) n_)
  exact dR func100 ax 21 (λw=>[.code 0 _ _ _ _ _ (lo _)])
end
def Bd(ps:c_)(d:V3 K):Bool:=ps.all λp=>decide (dot p.n d=0)
def Pn(ps:c_)(i:Nat):V3 K:=match ps[i]? with|some p=>p.n|none=>0
def mA(ps:c_)(i j:Nat):V3 K:=aw (Pn ps i) (Pn ps j)
def y9(ps:c_)(i j:Nat):Bool:=decide (mA ps i j≠0)&&(xq ps (mA ps i j)||xq ps (-mA ps i j))
def ow(ps:c_)(f:Bool)(i:Nat):Nat->Bool
 |0=>f
 |j+1=>if mA ps i j=0 then ow ps f i j else ow ps f i j&&Bd ps (mA ps i j)
def lK(ps:c_):Nat->Bool
 |0=>true
 |i+1=>ow ps (lK ps i) i i
def Db(ps:c_)(i:Nat):Bool:=(List.range i).all λj=>!y9 ps i j
def Dc(ps:c_):Bool:=(List.range ps.length).all (Db ps)&&!lK ps ps.length
theorem HB(b:Nat->Bool)(n:Nat):(List.range n).all b=true\/∃ e,e<n/\b e=false/\(∀ i,i<e->b i=true)/\(List.range n).all b=false:=by
 rcases Fc b (List.range n)with h|⟨e,x,h1,h2,h3,h4⟩
 ·exact .inl h
 ·have av:=(eD.1 h1).1;rw[zL]at av;rw[J1 av]at h1;injection h1 with h1;subst h1;exact .inr ⟨e,av,h2,λi hi=>h3 i i hi (J1 o_),h4⟩
theorem HC{b:Nat->Bool}{n:Nat}(h:(List.range n).all b=true)(hi:i<n):b i=true:=aX.1 h i (kf.2 hi)
section
variable{Bs:ae}{ps:c_}{m:Nat}{d:V3 K}
def Fg(n k:Nat)(f:Bool):aL:=[(7,vI k),(0,sl 0 n),(3,.bool f),(6,ptr 1)]
def vt(ps:c_)(d:V3 K):aC:=[(0,.view (bw ps)),(1,.aH (cO d).cs 42)]
theorem aDY{n:Nat}(hk:k<n)(hx:ps[k]?=some p)(hp:bA m p)(hd:aF m d)(hm:100*m+1000<=az)(ht:decide (dot p.n d=0)=t)(h63:n<9223372036854775807):
  ag prog Bs 61 (aE (af f51 4)) (Fg n k true) (vt ps d) 2 ⟨.normal,Fg n (k+1) t,vt ps d,2⟩:=by
 have h49:Value.bool (OF.aA (dot p.n d)==0)=.bool t:=by
  by_cases h:dot p.n d=0
  ·rw[aD h]at ht;subst ht;exact xk ((OF.eZ _).2 h)
  ·rw[aQ h]at ht;subst ht;exact oV (λe=>h ((OF.eZ _).1 e))
 exact ay [.lt 35 k n true (aD hk),.de f51 43 0 n k 40 hk k_,.ld f51 45 42 0 (k*40) (.view (bw ps)) (bN p.n) rfl (KQ hx) k_,(aTp hp.1 hd o_).at 47,(aTd (hp.1.dot hd) o_).at 48,.rw 49 _ (.bool t) h49,.sum 40 k 1 (k+1) rfl o_]
theorem aDZ{n:Nat}:ag prog Bs 61 (aE (af f51 4)) (Fg n k false) (vt ps d) 2 ⟨.exit 4,[(0,sl 0 n),(3,.bool false),(6,ptr 1)],vt ps d,2⟩:=by
 by_cases h:k<n
 ·exact ay [.lt 35 k n true (aD h)]
 ·exact ay [.lt 35 k n false (aQ h)]
theorem aD0(hs:∀ p∈ps,bA m p)(hd:aF m d)(hm:100*m+1000<=az)(h63:ps.length<9223372036854775807)(f:Bool):
  ag prog Bs 61 (.block 4 (af f51 4)) (Fg ps.length 0 f) (vt ps d) 2 ⟨.normal,[(0,sl 0 ps.length),(3,.bool (f&&Bd ps d)),(6,ptr 1)],vt ps d,2⟩:=by
 cases f with
 |false=>exact bO (id:=4) (cg 0 (λ_=>Fg ps.length 0 false) (λ_=>vt ps d) (λ_ _ _=>Iff.rfl) (r:=⟨.exit 4,[(0,sl 0 ps.length),(3,.bool false),(6,ptr 1)],vt ps d,2⟩) (λi hi=>by omega) aDZ n_)
 |true=>
  unfold Bd;rcases Fc (λp=>decide (dot p.n d=0)) ps with h|⟨n,x,h1,h2,h3,h4⟩
  ·rw[h];exact bO (id:=4) (cg ps.length (λi=>Fg ps.length i true) (λ_=>vt ps d) (λ_ _ _=>Iff.rfl) (r:=⟨.exit 4,[(0,sl 0 ps.length),(3,.bool true),(6,ptr 1)],vt ps d,2⟩) (λi hi=>by have hx:ps[i]?=some ps[i]:=bd hi;exact aDY hi hx (hs _ (eh hi)) hd hm (Hz h hx) h63) (ay [.lt 35 ps.length ps.length false s_]) n_)
  ·rw[h4];have av:=(eD.1 h1).1;exact bO (id:=4) (cg (n+1) (λi=>Fg ps.length i (decide (i<=n))) (λ_=>vt ps d) (λ_ _ _=>Iff.rfl) (r:=⟨.exit 4,[(0,sl 0 ps.length),(3,.bool false),(6,ptr 1)],vt ps d,2⟩) (λi hi=>by
    have mh:i<ps.length:=by omega
    have hx:ps[i]?=some ps[i]:=bd mh;simp only[aD (show i<=n by omega)];refine aDY mh hx (hs _ (eh mh)) hd hm ?_ h63;by_cases he:i=n
    ·subst he;rw[hx]at h1;injection h1 with h1;rw[h1,h2];exact(aQ o_).symm
    ·have:=h3 i _ o_ hx;rw[this];exact(aD o_).symm) (by
    simp only[aQ (show ¬n+1<=n by omega)];exact aDZ) n_)
def xu(ps:c_)(f:Bool)(n i j:Nat):aL:=[(5,vI j),(4,vI i),(0,sl 0 n),(3,.bool (ow ps f i j))]
def mX(ps:c_):aC:=[(0,.view (bw ps))]
theorem HD(h:ps[i]?=some p):Pn ps i=p.n:=by unfold Pn;rw[h]
noncomputable def Po{n:Nat}{q:HS K}(hi:i<n)(nJ:j<i)(hp:ps[i]?=some p)(hq:ps[j]?=some q)(sp:bA m p)(sq:bA m q)(hm:1000*m+10000<=az)(ht:decide (aw p.n q.n=0)=t)(more:bK prog Bs 61):bK prog Bs 61:=
 .lt 16 j i true (aD nJ)::.de f51 21 0 n i 40 hi k_::.ld f51 23 42 0 (i*40) (.view (bw ps)) (bN p.n) rfl (KQ hp) k_::.de f51 26 0 n j 40 o_ k_::.ld f51 28 42 0 (j*40) (.view (bw ps)) (bN q.n) rfl (KQ hq) k_::
 (aS6 sp.1 sq.1 o_).at 29::(ht▸aTZ (sp.1.aw sq.1) o_:aB prog 79 [bN (aw p.n q.n)] (.bool t)).at 31::more
theorem aD1(hs:∀ p∈ps,bA m p)(hm:1000*m+10000<=az){f:Bool}(hi:i<ps.length)(nJ:j<i)(hb:y9 ps i j=false)(h63:ps.length<9223372036854775807):
  ag prog Bs 61 (aE (af f51 2)) (xu ps f ps.length i j) (mX ps++marks 1 []) 1 ⟨.normal,eY 1 [] (xu ps f ps.length i (j+1)),mX ps++dc [] [],2⟩:=by
 have hj:j<ps.length:=by omega
 have hp:ps[i]?=some ps[i]:=bd hi;have hq:ps[j]?=some ps[j]:=bd hj;have sp:=hs _ (eh hi);have sq:=hs _ (eh hj);generalize ps[i]=p at *;generalize ps[j]=q at *;have hd:mA ps i j=aw p.n q.n:=by unfold mA;rw[HD hp,HD hq]
 have oE:∀ r∈ps,bA (4*m+9) r:=λr hr=>(hs r hr).mono o_;have Be:aF (4*m+9) (aw p.n q.n):=(sp.1.aw sq.1).mono o_;unfold y9 at hb;have er:ow ps f i (j+1)=if mA ps i j=0 then ow ps f i j else ow ps f i j&&Bd ps (mA ps i j):=rfl
 unfold xu;rw[er];rw[hd]at hb ⊢;by_cases hz:aw p.n q.n=0
 ·rw[aq hz];exact ay (Po hi nJ hp hq sp sq hm (aD hz) [.sum 18 j 1 (j+1) rfl o_])
 ·rw[al hz];rw[aD hz,oH]at hb;have pc:xq ps (aw p.n q.n)=false:=by revert hb;cases xq ps (aw p.n q.n)<;>simp
  have gD:xq ps (-aw p.n q.n)=false:=by revert hb;cases xq ps (-aw p.n q.n)<;>simp
  have l1:=Pm oE Be o_ h63;have l2:=Pm oE Be.neg o_ h63;rw[pc]at l1;rw[gD]at l2;have c4:=aD0 (Bs:=Bs) oE Be o_ h63 (ow ps f i j);generalize ow ps f i j=ff at *;generalize (ff&&Bd ps (aw p.n q.n))=fg at *;exact ay (Po hi nJ hp hq sp sq hm (aQ hz) [.code 4 _ _ _ _ _ c4,.cR f51 52 [sl 0 ps.length,bN (aw p.n q.n)] l1 (.w (x:=.view (bw ps)) rfl (dF ps) j4 (.p rfl .nil)),(aS2 Be o_).at 56,.cR f51 57 [sl 0 ps.length,bN (-aw p.n q.n)] l2 (.w (x:=.view (bw ps)) rfl (dF ps) j4 (.p rfl .nil)),.sum 18 j 1 (j+1) rfl o_])
theorem aPV(hs:∀ p∈ps,bA m p)(hm:1000*m+10000<=az){f:Bool}(hi:i<ps.length)(nJ:j<i)(hb:y9 ps i j=true)(h63:ps.length<9223372036854775807):
  ag prog Bs 61 (aE (af f51 2)) (xu ps f ps.length i j) (mX ps++marks 1 []) 1 ⟨.ret,[(2,.bool false)],[],2⟩:=by
 have hj:j<ps.length:=by omega
 have hp:ps[i]?=some ps[i]:=bd hi;have hq:ps[j]?=some ps[j]:=bd hj;have sp:=hs _ (eh hi);have sq:=hs _ (eh hj);generalize ps[i]=p at *;generalize ps[j]=q at *;have hd:mA ps i j=aw p.n q.n:=by unfold mA;rw[HD hp,HD hq]
 have oE:∀ r∈ps,bA (4*m+9) r:=λr hr=>(hs r hr).mono o_;have Be:aF (4*m+9) (aw p.n q.n):=(sp.1.aw sq.1).mono o_;unfold y9 at hb;unfold xu;rw[hd]at hb;have hz:aw p.n q.n≠0:=by intro e;rw[aQ (λh=>h e)]at hb;cases hb
 rw[aD hz,oH]at hb;have l1:=Pm oE Be o_ h63;have l2:=Pm oE Be.neg o_ h63;have c4:=aD0 (Bs:=Bs) oE Be o_ h63 (ow ps f i j);generalize ow ps f i j=ff at *;generalize (ff&&Bd ps (aw p.n q.n))=fg at *;rcases pc:xq ps (aw p.n q.n)with _|_
 ·rw[pc]at l1 hb;rw[vY]at hb;rw[hb]at l2;exact ay (Po hi nJ hp hq sp sq hm (aQ hz) [.code 4 _ _ _ _ _ c4,.cR f51 52 [sl 0 ps.length,bN (aw p.n q.n)] l1 (.w (x:=.view (bw ps)) rfl (dF ps) j4 (.p rfl .nil)),(aS2 Be o_).at 56,.cR f51 57 [sl 0 ps.length,bN (-aw p.n q.n)] l2 (.w (x:=.view (bw ps)) rfl (dF ps) j4 (.p rfl .nil))])
 ·rw[pc]at l1;exact ay (Po hi nJ hp hq sp sq hm (aQ hz) [.code 4 _ _ _ _ _ c4,.cR f51 52 [sl 0 ps.length,bN (aw p.n q.n)] l1 (.w (x:=.view (bw ps)) rfl (dF ps) j4 (.p rfl .nil))])
theorem aD2(q:Nat×Obj)(hq:q∈mX ps):fW 1 q.2:=by unfold mX at hq;simp at hq;subst hq;exact FZ (aX.1 (dF ps))
theorem aPW(hs:∀ p∈ps,bA m p)(hm:1000*m+10000<=az){f:Bool}(hi:i<ps.length)(hb:Db ps i=true)(h63:ps.length<9223372036854775807):
  ag prog Bs 61 (.block 2 (af f51 2)) (xu ps f ps.length i 0) (mX ps) 1 ⟨.normal,[(4,vI i),(0,sl 0 ps.length),(3,.bool (ow ps f i i))],mX ps,1⟩:=by
 have:=rm (P:=prog) (B:=Bs) (N:=61) (b:=aE (af f51 2)) (next:=1) (p:=0) (r:=⟨.exit 2,[(4,vI i),(0,sl 0 ps.length),(3,.bool (ow ps f i i))],mX ps,1⟩) i (xu ps f ps.length i) (λ_=>mX ps) (λ_=>[]) [] (λ_ _=>rfl)
  (λj _=>⟨aD2,λz hz=>by cases hz⟩) k_ k_
  (λj hj=>⟨[],2,k_,aD1 hs hm hi hj (by have:=HC hb hj;simpa using this) h63⟩)
  (ay [.lt 16 i i false s_]) n_
 exact bO (id:=2) this
theorem aPX(hs:∀ p∈ps,bA m p)(hm:1000*m+10000<=az){f:Bool}(hi:i<ps.length)(hb:Db ps i=false)(h63:ps.length<9223372036854775807):
  ag prog Bs 61 (.block 2 (af f51 2)) (xu ps f ps.length i 0) (mX ps) 1 ⟨.ret,[(2,.bool false)],[],2⟩:=by
 rcases HB (λj=>!y9 ps i j) i with h|⟨e,h1,h2,h3,_⟩
 ·unfold Db at hb;rw[h]at hb;cases hb
 ·have:=rm (P:=prog) (B:=Bs) (N:=61) (b:=aE (af f51 2)) (next:=1) (p:=0) (r:=⟨.ret,[(2,.bool false)],[],2⟩) e (xu ps f ps.length i) (λ_=>mX ps) (λ_=>[]) [] (λ_ _=>rfl)
   (λj _=>⟨aD2,λz hz=>by cases hz⟩) k_ k_
   (λj hj=>⟨[],2,k_,aD1 hs hm hi o_ (by have:=h3 j hj;simpa using this) h63⟩)
   (aPV hs hm hi h1 (by simpa using h2) h63) n_
  exact bO (id:=2) this
def xw(ps:c_)(n i:Nat):aL:=[(4,vI i),(0,sl 0 n),(3,.bool (lK ps i))]
theorem aD3(hs:∀ p∈ps,bA m p)(hm:1000*m+10000<=az)(hi:i<ps.length)(hb:Db ps i=true)(h63:ps.length<9223372036854775807):
  ag prog Bs 61 (aE (af f51 0)) (xw ps ps.length i) (mX ps) 1 ⟨.normal,xw ps ps.length (i+1),mX ps,1⟩:=by
 have lo:=aPW (Bs:=Bs) (f:=lK ps i) hs hm hi hb h63;unfold xu at lo;unfold xw;show ag _ _ _ _ _ _ _ ⟨.normal,[(4,vI (i+1)),(0,sl 0 ps.length),(3,.bool (ow ps (lK ps i) i i))],mX ps,1⟩;have e0:ow ps (lK ps i) i 0=lK ps i:=rfl;rw[e0]at lo;generalize ow ps (lK ps i) i i=g at *;generalize lK ps i=f at *;exact ay [.lt 11 i ps.length true (aD hi),.code 2 _ _ _ _ _ lo,.sum 13 i 1 (i+1) rfl o_]
theorem aPY(hs:∀ p∈ps,bA m p)(hm:1000*m+10000<=az)(hi:i<ps.length)(hb:Db ps i=false)(h63:ps.length<9223372036854775807):
  ag prog Bs 61 (aE (af f51 0)) (xw ps ps.length i) (mX ps) 1 ⟨.ret,[(2,.bool false)],[],2⟩:=by
 have lo:=aPX (Bs:=Bs) (f:=lK ps i) hs hm hi hb h63;unfold xu at lo;unfold xw;have e0:ow ps (lK ps i) i 0=lK ps i:=rfl;rw[e0]at lo;generalize lK ps i=f at *;exact ay [.lt 11 i ps.length true (aD hi),.code 2 _ _ _ _ _ lo]
theorem aPZ(hs:∀ p∈ps,bA m p)(hm:1000*m+10000<=az)(h63:ps.length<9223372036854775807):cJ prog 51 [ee ps] (.bool (Dc ps)):=by
 unfold Dc;rcases HB (Db ps) ps.length with h|⟨e,h1,h2,h3,h4⟩
 ·rw[h,oH];have lo:∀ B:ae,ag prog B 61 (.block 0 (af f51 0)) (xw ps ps.length 0) (mX ps) 1 ⟨.normal,[(3,.bool (lK ps ps.length))],mX ps,1⟩:=λB=>
   bO (id:=0) (cg ps.length (xw ps ps.length) (λ_=>mX ps) (λ_ _ _=>Iff.rfl) (r:=⟨.exit 0,[(3,.bool (lK ps ps.length))],mX ps,1⟩) (λi hi=>aD3 hs hm hi (HC h hi) h63) (ay [.lt 11 ps.length ps.length false s_]) n_)
  unfold xw at lo;have e0:lK ps 0=true:=rfl;rw[e0]at lo;generalize lK ps ps.length=g at *;cases g<;>exact dR func51 (Da ps) 61 (λw=>[.code 0 _ _ _ _ _ (lo _)])
 ·rw[h4,BL];have lo:∀ B:ae,ag prog B 61 (.block 0 (af f51 0)) (xw ps ps.length 0) (mX ps) 1 ⟨.ret,[(2,.bool false)],[],2⟩:=λB=>
   bO (id:=0) (cg e (xw ps ps.length) (λ_=>mX ps) (λ_ _ _=>Iff.rfl) (r:=⟨.ret,[(2,.bool false)],[],2⟩) (λi hi=>aD3 hs hm o_ (h3 i hi) h63) (aPY hs hm h1 h2 h63) n_)
  unfold xw at lo;have e0:lK ps 0=true:=rfl;rw[e0]at lo;exact dR func51 (Da ps) 61 (λw=>[.code 0 _ _ _ _ _ (lo _)])
end
def aTs:e_->V3 K->List (V3 K)
 |[],v=>[v]
 |p::l,v=>if dQ p v=0 then p::l else if 0<dQ p v then v::p::l else p::aTs l v
theorem Pp(v:V3 K):∀ vs:e_,(∃(i:Nat) (p:V3 K),vs[i]?=some p/\dQ p v=0/\(∀(j:Nat) (q:V3 K),j<i->vs[j]?=some q->dQ q v<0)/\aTs vs v=vs)\/
  ∃ i:Nat,i<=vs.length/\(∀(j:Nat) (q:V3 K),j<i->vs[j]?=some q->dQ q v<0)/\(i=vs.length\/∃ p,vs[i]?=some p/\0<dQ p v)/\aTs vs v=vs.take i++[v]++vs.drop i
 |[]=>.inr ⟨0,aZ _,λj q hj=>by omega,.inl rfl,rfl⟩
 |p::l=>by
  unfold aTs;by_cases h0:dQ p v=0
  ·rw[aq h0];exact .inl ⟨0,p,rfl,h0,λj q hj=>by omega,rfl⟩
  ·rw[al h0];by_cases h1:0<dQ p v
   ·rw[aq h1];exact .inr ⟨0,kB _,λj q hj=>by omega,.inr ⟨p,rfl,h1⟩,rfl⟩
   ·rw[al h1];have di:∀{i:Nat} (H:∀(j:Nat) (q:V3 K),j<i->l[j]?=some q->dQ q v<0) (j:Nat) (q:V3 K),j<i+1->(p::l)[j]?=some q->dQ q v<0:=λ{i} H j q hj hq=>by
     cases j with
     |zero=>simp at hq;subst hq;omega
     |succ j=>exact H j q o_ (by simpa using hq)
    rcases Pp v l with ⟨i,q,q1,q2,q3,q4⟩|⟨i,q1,q2,q3,q4⟩
    ·exact .inl ⟨i+1,q,by simpa using q1,q2,di q3,by rw[q4]⟩
    ·refine .inr ⟨i+1,by simpa using q1,di q2,?_,by rw[q4];rfl⟩;rcases q3 with h|⟨q,h,h2⟩
     ·exact .inl (by rw[h];rfl)
     ·exact .inr ⟨q,by simpa using h,h2⟩
theorem aP0{a b:Int}(h:decide (a=b)=t):Value.bool (a==b)=.bool t:=by
 by_cases e:a=b
 ·rw[aD e]at h;subst h;exact xk e
 ·rw[aQ e]at h;subst h;exact oV e
theorem aP1{vs:e_}{p:V3 K}(h:vs[i]?=some p):dB prog 42 (aW vs) (i*30)=some (bN p):=tY (by rw[xN,h];rfl)
theorem aD4(vs:e_)(i:Nat):(aW vs).drop (i*30)=aW (vs.drop i):=by unfold aW;rw[TV iR,List.map_drop]
theorem Pq(vs:e_)(i:Nat):(aW vs).take (i*30)=aW (vs.take i):=by unfold aW;rw[TW iR,BE]
section
variable{Bs:ae}{vs:e_}{v:V3 K}{m:Nat}
def xx(n i:Nat):aL:=[(5,vI i),(0,sl 0 n),(3,ptr 1)]
def s7(vs:e_)(v:V3 K):aC:=[(0,.view (aW vs)),(1,.aH (cO v).cs 42)]
noncomputable def VE{n:Nat}{p:V3 K}(hi:i<n)(hp:vs[i]?=some p)(sp:aF m p)(sv:aF m v)(hm:8*m+100<=az)(ht:decide (dQ p v=0)=t)(more:bK prog Bs 36):bK prog Bs 36:=
 .lt 10 i n true (aD hi)::.de f102 13 0 n i 30 hi k_::.ld f102 14 42 0 (i*30) (.view (aW vs)) (bN p) rfl (aP1 hp) k_::(aTX sp sv o_).at 16::.rw 18 _ (.bool t) (aP0 ht)::more
theorem aD5{n:Nat}{p:V3 K}(hi:i<n)(hp:vs[i]?=some p)(sp:aF m p)(sv:aF m v)(hm:8*m+100<=az)(hb:dQ p v<0)(h63:n<1000):
  ag prog Bs 36 (aE (af f102 0)) (xx n i) (s7 vs v) 2 ⟨.normal,xx n (i+1),s7 vs v,2⟩:=
 ay (VE hi hp sp sv hm (aQ o_) [.rw 21 _ a_ (Pl (z:=dQ p v) (t:=false) (aD o_)),.sum 23 i 1 (i+1) rfl o_])
theorem aP2{n:Nat}{p:V3 K}(hi:i<n)(hp:vs[i]?=some p)(sp:aF m p)(sv:aF m v)(hm:8*m+100<=az)(hb:dQ p v=0):
  ag prog Bs 36 (aE (af f102 0)) (xx n i) (s7 vs v) 2 ⟨.ret,[(4,sl 0 n)],s7 vs v,2⟩:=
 ay (VE hi hp sp sv hm (aD hb) [])
theorem aP3{n:Nat}{p:V3 K}(hi:i<n)(hp:vs[i]?=some p)(sp:aF m p)(sv:aF m v)(hm:8*m+100<=az)(hb:0<dQ p v):
  ag prog Bs 36 (aE (af f102 0)) (xx n i) (s7 vs v) 2 ⟨.exit 0,xx n i,s7 vs v,2⟩:=
 ay (VE hi hp sp sv hm (aQ o_) [.rw 21 _ b_ (Pl (z:=dQ p v) (t:=true) (aQ o_))])
theorem aP4(hs:∀ p∈vs,aF m p)(sv:aF m v)(hm:8*m+100<=az)(h63:vs.length<1000)(hi:i<=vs.length)(h1:∀(j:Nat) (q:V3 K),j<i->vs[j]?=some q->dQ q v<0)(h2:i=vs.length\/∃ p,vs[i]?=some p/\0<dQ p v):
  ag prog Bs 36 (.block 0 (af f102 0)) (xx vs.length 0) (s7 vs v) 2 ⟨.normal,xx vs.length i,s7 vs v,2⟩:=
 bO (id:=0) (cg i (xx vs.length) (λ_=>s7 vs v) (λ_ _ _=>Iff.rfl) (r:=⟨.exit 0,xx vs.length i,s7 vs v,2⟩) (λj hj=>by
  have hx:vs[j]?=some vs[j]:=bd o_;exact aD5 o_ hx (hs _ (eh _)) sv hm (h1 j _ hj hx) h63) (by
  rcases h2 with rfl|⟨p,h2,h3⟩
  ·exact ay [.lt 10 vs.length vs.length false s_]
  ·exact aP3 (eD.1 h2).1 h2 (hs p (cL h2)) sv hm h3) n_)
theorem aP5(hs:∀ p∈vs,aF m p)(sv:aF m v)(hm:8*m+100<=az)(h63:vs.length<1000){p:V3 K}(hp:vs[i]?=some p)(h0:dQ p v=0)(h1:∀(j:Nat) (q:V3 K),j<i->vs[j]?=some q->dQ q v<0)(fQ:cZ w va vs.length (aW vs)):
  Calls prog 102 #[va,bN v] w λe w'=>e=.returned va/\Below w.heap.size w w':=by
 have hl:∀ s∈[cq.row va vs.length (aW vs),cq.plain (bN v)],s.OK w:=by
  intro s hs;simp at hs;rcases hs with rfl|rfl
  ·exact⟨fQ,aX.1 (eH _)⟩
  ·rfl
 have av:=(eD.1 hp).1;have lo:ag prog (ae.at w) 36 (.block 0 (af f102 0)) (xx vs.length 0) (s7 vs v) 2 ⟨.ret,[(4,sl 0 vs.length)],s7 vs v,2⟩:=
  bO (id:=0) (cg i (xx vs.length) (λ_=>s7 vs v) (λ_ _ _=>Iff.rfl) (r:=⟨.ret,[(4,sl 0 vs.length)],s7 vs v,2⟩) (λj hj=>by have hx:vs[j]?=some vs[j]:=bd o_;exact aD5 o_ hx (hs _ (eh _)) sv hm (h1 j _ hj hx) h63) (aP2 av hp (hs p (cL hp)) sv hm h0) n_)
 refine kU (Q:=λe w'=>e=.returned va/\Below w.heap.size w w') mixed func102 [cq.row va vs.length (aW vs),cq.plain (bN v)] hl 100 (N:=36) k_
  (rs:=[(.code 0 _ _ _ _ _ lo:aO prog (ae.at w) 36)]) (v:=sl 0 vs.length) (ms:=[]) k_ λao bP v' w' jH bh _ dw=>⟨?_,bh.base⟩
 cases dw with
 |cons h5 _=>rw[Ik jH h5];rfl
end
section
variable{vs:e_}{v:V3 K}{m:Nat}
noncomputable def VF(Bs:ae)(vs:e_)(v:V3 K)(i:Nat)(hi:i<=vs.length)(h63:vs.length<1000)(more:bK prog Bs 36):bK prog Bs 36:=
 .Kd f102 24 2 42 30 zV.v k_::.upto f102 27 0 vs.length i 30 hi k_::
 .Pe f102 28 3 2 0 i i 42 30 360 0 0 [] 0 (.view (aW vs)) (aW (vs.take i)) (jv i) rfl (by
   show((aW vs).drop 0 |>.take (i*30)).length=i*30;rw[lv,Pq,sQ,je,mE hi]) rfl (by
   show[]++(((aW vs).drop 0).take (i*30))=_;rw[lv,Pq];rfl) (J5 vs) d_ (by simp[maxLen];omega) o_ k_::
 .bs f102 30 4 1 42 30 [0] zV.v [bN v] (aW [v]).toArray (.row (aW [v]) 42 30) rfl (aX.1 k_) (aX.1 (eH _)) k_ k_ d_ d_ k_::
 .pr f102 31 5 3 i 1 (i+1) 42 30 360 (aW (vs.take i)) 4 (.row (aW [v]) 42 30) (aW (vs.take i++[v])) rfl rfl (sQ _) (by rw[sQ,je,mE hi]) (T9 _ _) (J5 _) d_ (by simp[maxLen];omega) o_ k_::more
theorem aP6(hs:∀ p∈vs,aF m p)(sv:aF m v)(hm:8*m+100<=az)(h63:vs.length<1000)(hi:i<=vs.length)(h1:∀(j:Nat) (q:V3 K),j<i->vs[j]?=some q->dQ q v<0)(h2:i=vs.length\/∃ p,vs[i]?=some p/\0<dQ p v):
  ko prog 102 [tZ vs,.p (bN v)] 42 30 (vs.length+1) (aW (vs.take i++[v]++vs.drop i)):=by
 have ax:([tZ vs,aJ.p (bN v)].all aJ.ok)=true:=by simp only[fp,gm,ja];rw[show(tZ vs).ok=true from eH vs];rfl
 have lo:=λBs=>aP4 (Bs:=Bs) hs sv hm h63 hi h1 h2;have hlen:(aW (vs.take i++[v]++vs.drop i)).length=(vs.length+1)*30:=by
  rw[sQ];congr 1
  simp[je];omega
 have gy:(aW (vs.take i++[v])).length=(i+1)*30:=by
  rw[sQ];congr 1
  simp[je];omega
 rcases eQ i vs.length with av|fJ
 ·refine yu (k:=6) mixed func102 ax 200 (N:=36) k_ (λw=>.code 0 _ _ _ _ _ (lo _)::VF _ vs v i hi h63 [.behind f102 34 0 vs.length i (vs.length-i) 30 o_ o_ k_,.Pe f102 35 6 5 (i+1) (vs.length-i) (vs.length+1) 42 30 360 (i*30) i (aW (vs.take i++[v])) 0 (.view (aW vs)) (aW (vs.take i++[v]++vs.drop i)) o_ rfl (by
    show(((aW vs).drop (i*30)).take ((vs.length-i)*30)).length=(vs.length-i)*30;rw[aD4,Pq,sQ,je,uD,Nat.min_self]) gy (by
    show _++(((aW vs).drop (i*30)).take ((vs.length-i)*30))=_;rw[aD4,Pq,show(vs.drop i).take (vs.length-i)=vs.drop i from jN (by rw[uD];exact aZ _),T9]) (J5 vs) d_ (by simp[maxLen];omega) o_ k_]) (λw=>k_) (eH _) hlen
 ·have cB:i=vs.length:=by omega
  subst cB;have e:vs.take vs.length++[v]++vs.drop vs.length=vs.take vs.length++[v]:=by rw[List.drop_length,gO]
  rw[e]at hlen ⊢;by_cases h0:vs.length=0
  ·refine yu (k:=6) mixed func102 ax 200 (N:=36) k_ (λw=>.code 0 _ _ _ _ _ (lo _)::VF _ vs v vs.length hi h63 [.rw 33 (vI vs.length) (vI 0) (by rw[h0]),.aPw f102 34 0 vs.length 30 k_,.Pe f102 35 6 5 (vs.length+1) vs.length (vs.length+1) 42 30 360 0 0 (aW (vs.take vs.length++[v])) 0 (.view (aW vs)) (aW (vs.take vs.length++[v])) o_ rfl (by
     show(((aW vs).drop 0).take (vs.length*30)).length=vs.length*30;rw[h0];rfl) gy (by
     show _++(((aW vs).drop 0).take (vs.length*30))=_;rw[show((aW vs).drop 0).take (vs.length*30)=[]by rw[h0,kT,Ri]];exact gO _) (J5 vs) d_ (by simp[maxLen];omega) o_ k_]) (λw=>k_) (eH _) hlen
  ·refine yu (k:=7) mixed func102 ax 200 (N:=36) k_ (λw=>.code 0 _ _ _ _ _ (lo _)::VF _ vs v vs.length hi h63 [.aPy f102 34 0 0 vs.length 0 30 6 (.view (aW vs)) rfl k_,.pr f102 35 7 5 (vs.length+1) 0 (vs.length+1) 42 30 360 (aW (vs.take vs.length++[v])) 6 (.view []) (aW (vs.take vs.length++[v])) rfl rfl rfl gy (gO _) n_ d_ (by simp[maxLen];omega) o_ k_]) (λw=>k_) (eH _) hlen
end
def dU(ps:c_)(i:Nat):HS K:=match ps[i]? with|some p=>p|none=>⟨0,0⟩
theorem oY(h:ps[i]?=some p):dU ps i=p:=by unfold dU;rw[h]
def HE(i j k:Nat)(x:V3 K)(l:Nat)(p:HS K):Bool:=decide (l=i)||(decide (l=j)||(decide (l=k)||decide (OF.aA (dot p.n x-p.d)<=0)))
def zf(ps:c_)(i j k:Nat)(x:V3 K):Bool:=(List.range ps.length).all λl=>HE i j k x l (dU ps l)
def s8(ps:c_)(acc:e_)(i j k:Nat):e_:=
 if cV (dU ps i).n (dU ps j).n (dU ps k).n=0 then acc else if zf ps i j k (kv (dU ps i) (dU ps j) (dU ps k))then aTs acc (kv (dU ps i) (dU ps j) (dU ps k))else acc
theorem aP7{vs:e_}{v:V3 K}(hs:∀ p∈vs,aF m p)(sv:aF m v)(hm:8*m+100<=az)(h63:vs.length<1000){p:V3 K}(hp:vs[i]?=some p)(h0:dQ p v=0)(h1:∀(j:Nat) (q:V3 K),j<i->vs[j]?=some q->dQ q v<0)
  {o:Oper} {y:m_} (ho:da o.op=some y) (k:Nat):ct prog Bs o [.func (.func 102) #[] #[],sl k vs.length,bN v] [(k,some (.row (aW vs) 42 30))] (sl k vs.length) []:=by
 refine jy (fi:=[]) (ca:=[]) ho k_ λι c w bh hn args' aU=>?_;rw[jg,gO]at aU;obtain⟨va,vb,rfl,hv,gW⟩:=iH aU;rw[gW.eW rfl];have hk:c k=some _:=hn _ (aN ..);have hr:=nQ (len:=vs.length*30) bh hk rfl (aX.1 (eH vs)) (λh=>by rw[h]) hv;have e:(((Obj.row (aW vs) 42 30).cells.drop 0).take (vs.length*30))=aW vs:=by show((aW vs).drop 0).take (vs.length*30)=_;rw[lv,jN (by rw[sQ];exact aZ _)]
 rw[e]at hr;refine(aP5 hs sv hm h63 hp h0 h1 hr).mono ?_
 rintro e w' ⟨rfl,hb⟩
 exact⟨ι,_,rfl,Map.le.refl _,hv,bh.call hb⟩
section
variable{Bs:ae}{ps:c_}{m:Nat}
def HF(n i j k l:Nat)(f:Bool):aL:=[(10,vI l),(9,.bool f),(0,sl 0 n),(4,vI i),(5,vI j),(6,vI k),(7,ptr 4)]
def zg(ps:c_)(x:V3 K):aC:=[(0,.view (bw ps)),(4,.aH (cO x).cs 42)]
theorem aD6{l:Nat}{x:V3 K}(hl:l<ps.length)(hp:ps[l]?=some p)(sp:bA m p)(sx:aF m x)(pn:p.n≠0)(hm:100*m+1000<=az)(ht:HE i j k x l p=t)(h63:ps.length<1000):
  ag prog Bs 81 (aE (af f52 6)) (HF ps.length i j k l true) (zg ps x) 5 ⟨.normal,HF ps.length i j k (l+1) t,zg ps x,5⟩:=by
 unfold HE at ht;have sd:=aTa sp sx o_ pn;by_cases h1:l=i
 ·rw[aD h1,FD]at ht;subst ht;exact ay [.lt 48 l ps.length true (aD hl),.fX 56 l i true (aD h1),.sum 53 l 1 (l+1) rfl o_]
 rw[aQ h1,vY]at ht;by_cases h2:l=j
 ·rw[aD h2,FD]at ht;subst ht;exact ay [.lt 48 l ps.length true (aD hl),.fX 56 l i false (aQ h1),.fX 60 l j true (aD h2),.sum 53 l 1 (l+1) rfl o_]
 rw[aQ h2,vY]at ht;by_cases h3:l=k
 ·rw[aD h3,FD]at ht;subst ht;exact ay [.lt 48 l ps.length true (aD hl),.fX 56 l i false (aQ h1),.fX 60 l j false (aQ h2),.fX 65 l k true (aD h3),.sum 53 l 1 (l+1) rfl o_]
 rw[aQ h3,vY]at ht;exact ay [.lt 48 l ps.length true (aD hl),.fX 56 l i false (aQ h1),.fX 60 l j false (aQ h2),.fX 65 l k false (aQ h3),.de f52 70 0 ps.length l 40 hl k_,.ld f52 71 66 0 (l*40) (.view (bw ps)) (dr p) rfl (Pk hp) k_,sd.at 73,.rw 74 (.bool (decide (OF.aA (dot p.n x-p.d)<=0))) (.bool t) (by rw[ht]),.sum 53 l 1 (l+1) rfl o_]
theorem aP8{l:Nat}{x:V3 K}:ag prog Bs 81 (aE (af f52 6)) (HF ps.length i j k l false) (zg ps x) 5 ⟨.exit 6,[(9,.bool false)],zg ps x,5⟩:=by
 by_cases h:l<ps.length
 ·exact ay [.lt 48 l ps.length true (aD h)]
 ·exact ay [.lt 48 l ps.length false (aQ h)]
theorem aP9{x:V3 K}(hs:∀ p∈ps,bA m p/\p.n≠0)(sx:aF m x)(hm:100*m+1000<=az)(h63:ps.length<1000):
  ag prog Bs 81 (.block 6 (af f52 6)) (HF ps.length i j k 0 true) (zg ps x) 5 ⟨.normal,[(9,.bool (zf ps i j k x))],zg ps x,5⟩:=by
 unfold zf;rcases HB (λl=>HE i j k x l (dU ps l)) ps.length with h|⟨n,hn,h2,h3,h4⟩
 ·rw[h];exact bO (id:=6) (cg ps.length (λl=>HF ps.length i j k l true) (λ_=>zg ps x) (λ_ _ _=>Iff.rfl) (r:=⟨.exit 6,[(9,.bool true)],zg ps x,5⟩) (λl hl=>by have hx:ps[l]?=some ps[l]:=bd hl;have:=HC h hl;rw[oY hx]at this;exact aD6 hl hx (hs _ (eh hl)).1 sx (hs _ (eh hl)).2 hm this h63) (ay [.lt 48 ps.length ps.length false s_]) n_)
 ·rw[h4];exact bO (id:=6) (cg (n+1) (λl=>HF ps.length i j k l (decide (l<=n))) (λ_=>zg ps x) (λ_ _ _=>Iff.rfl) (r:=⟨.exit 6,[(9,.bool false)],zg ps x,5⟩) (λl hl=>by
   have mh:l<ps.length:=by omega
   have hx:ps[l]?=some ps[l]:=bd mh;simp only[aD (show l<=n by omega)];refine aD6 mh hx (hs _ (eh mh)).1 sx (hs _ (eh mh)).2 hm ?_ h63;by_cases he:l=n
   ·subst he;rw[oY hx]at h2;rw[h2];exact(aQ o_).symm
   ·have:=h3 l o_;rw[oY hx]at this;rw[this];exact(aD o_).symm) (by
   simp only[aQ (show ¬n+1<=n by omega)];exact aP8) n_)
def KR(n i j k L:Nat):aL:=[(6,vI k),(5,vI j),(4,vI i),(0,sl 0 n),(3,sl 3 L)]
def nG(ps:c_):aC:=[(0,.view (bw ps))]
def nH(acc:e_):List Obj:=[.row (aW acc) 42 30]
noncomputable def Pr{q r:HS K}(hi:i<ps.length)(hj:j<i)(hk:k<j)(hp:ps[i]?=some p)(hq:ps[j]?=some q)(hr:ps[k]?=some r)(sp:bA m p)(sq:bA m q)(sr:bA m r)(pn:p.n≠0)(qn:q.n≠0)(rn:r.n≠0)(hm:200*m+1000<=az)
  (hu:(if cV p.n q.n r.n=0 then Value.tuple #[zV.v,.int .i64 11]else .tuple #[bN (kv p q r),.int .i64 0])=u) (more:bK prog Bs 81):bK prog Bs 81:=
 .lt 24 k j true (aD hk)::.de f52 30 0 ps.length i 40 hi k_::.ld f52 31 66 0 (i*40) (.view (bw ps)) (dr p) rfl (Pk hp) k_::.de f52 34 0 ps.length j 40 o_ k_::.ld f52 35 66 0 (j*40) (.view (bw ps)) (dr q) rfl (Pk hq) k_::
 .de f52 38 0 ps.length k 40 o_ k_::.ld f52 39 66 0 (k*40) (.view (bw ps)) (dr r) rfl (Pk hr) k_::(hu▸aOl sp sq sr hm pn qn rn:aB prog 101 [dr p,dr q,dr r] u).at 40::more
theorem aQa{M:Nat}(hs:∀ p∈ps,bA m p/\p.n≠0)(hm:200*m+1000<=az)(hM:120*m+365<=M)(zi:100*M+1000<=az)(ha:∀ v∈acc,aF M v)(hL:acc.length<1000)(hi:i<ps.length)(hj:j<i)(hk:k<j)(h63:ps.length<1000):
  ∃ σ gg,(∀ AZ:e_,uO (nG ps++dc [some 2] (nH AZ)) 3 σ (KR ps.length i j (k+1) (s8 ps acc i j k).length) (nG ps) (nH (s8 ps acc i j k))=true)/\
   ag prog Bs 81 (aE (af f52 4)) (KR ps.length i j k acc.length) (nG ps++marks 3 (nH acc)) 4 ⟨.normal,eY 3 σ (KR ps.length i j (k+1) (s8 ps acc i j k).length),nG ps++dc σ (nH (s8 ps acc i j k)),gg⟩:=by
 have hp:ps[i]?=some ps[i]:=bd hi;have hq:ps[j]?=some ps[j]:=bd o_;have hr:ps[k]?=some ps[k]:=bd o_;obtain⟨sp,pn⟩:=hs _ (eh hi);obtain⟨sq,qn⟩:=hs _ (eh (show j<ps.length by omega));obtain⟨sr,rn⟩:=hs _ (eh (show k<ps.length by omega));unfold s8;rw[oY hp,oY hq,oY hr];generalize ps[i]=p at *;generalize ps[j]=q at *;generalize ps[k]=r at *;by_cases hd:cV p.n q.n r.n=0
 ·rw[aq hd];refine⟨[some 3],5,λAZ=>k_,?_⟩;exact fo mixed 200 (Pr hi hj hk hp hq hr sp sq sr pn qn rn hm (aq hd) [.sum 26 k 1 (k+1) rfl o_]) k_
 ·rw[al hd];have sx:aF M (kv p q r):=(aF.kv sp sq sr hd).mono hM;have mM:m<=M:=by clear hm zi;omega
  have oE:∀ p∈ps,bA M p/\p.n≠0:=λt ht=>⟨(hs t ht).1.mono mM,(hs t ht).2⟩;have lo:=aP9 (Bs:=Bs) (i:=i) (j:=j) (k:=k) oE sx zi h63;generalize kv p q r=x at *;by_cases hb:zf ps i j k x=true
  ·rw[aq hb];rw[hb]at lo;rcases Pp x acc with ⟨t,y,h1,h2,h3,h4⟩|⟨t,h1,h2,h3,h4⟩
   ·rw[h4];refine⟨[some 3],5,λAZ=>k_,?_⟩;exact fo mixed 200 (Pr hi hj hk hp hq hr sp sq sr pn qn rn hm (al hd) [.code 6 _ _ _ _ _ lo,.step 79 (au f52 79) [.func (.func 102) #[] #[],sl 3 acc.length,bN x] [(3,some (.row (aW acc) 42 30))] (sl 3 acc.length) [] (aP7 ha sx (by clear hm;omega) hL h1 h2 h3 (y:=.func 102) k_ 3),.sum 26 k 1 (k+1) rfl o_]) k_
   ·have hlen:(aTs acc x).length=acc.length+1:=by rw[h4];simp only[jW,je,uD,J0];omega
    have hc:=aP6 ha sx (by clear hm;omega) hL h1 h2 h3;rw[<-h4]at hc;rw[hlen];generalize aTs acc x=aD7 at *;refine⟨[some 5],6,λAZ=>k_,?_⟩;exact fo mixed 200 (Pr hi hj hk hp hq hr sp sq sr pn qn rn hm (al hd) [.code 6 _ _ _ _ _ lo,.step 79 (au f52 79) [.func (.func 102) #[] #[],sl 3 acc.length,bN x] [(5,none),(3,some (.row (aW acc) 42 30))] (sl 5 (acc.length+1)) [(5,.row (aW aD7) 42 30)]
      (rI hc (.w (x:=.row (aW acc) 42 30) rfl (eH acc) wU (.p k_ .nil)) (x:=.func 102) k_ k_ (eH aD7) 5),
     .sum 26 k 1 (k+1) rfl o_]) k_
  ·have nq:zf ps i j k x=false:=by cases h:zf ps i j k x<;>first|rfl|exact absurd h hb
   rw[al hb];rw[nq]at lo;refine⟨[some 3],5,λAZ=>k_,?_⟩;exact fo mixed 200 (Pr hi hj hk hp hq hr sp sq sr pn qn rn hm (al hd) [.code 6 _ _ _ _ _ lo,.sum 26 k 1 (k+1) rfl o_]) k_
end
def ox(ps:c_)(acc:e_)(i j:Nat):Nat->List (V3 K)
 |0=>acc
 |k+1=>s8 ps (ox ps acc i j k) i j k
def mY(ps:c_)(acc:e_)(i:Nat):Nat->List (V3 K)
 |0=>acc
 |j+1=>ox ps (mY ps acc i j) i j j
def qP(ps:c_):Nat->List (V3 K)
 |0=>[]
 |i+1=>mY ps (qP ps i) i i
def ig(ps:c_):e_:=qP ps ps.length
theorem aQb{v x:V3 K}:∀{vs:e_},x∈aTs vs v->x∈vs\/x=v:=λ{vs} h=>by
 rcases Pp v vs with ⟨_,_,_,_,_,h4⟩|⟨t,_,_,_,h4⟩
 ·rw[h4]at h;exact .inl h
 ·rw[h4]at h;simp only[fm,wR]at h;rcases h with (h|h)|h
  ·exact .inl (EJ h)
  ·exact .inr h
  ·exact .inl (Vn h)
theorem aQc(v:V3 K)(vs:e_):(aTs vs v).length<=vs.length+1:=by
 rcases Pp v vs with ⟨_,_,_,_,_,h4⟩|⟨t,_,_,_,h4⟩
 ·rw[h4];omega
 ·rw[h4];simp only[jW,je,uD,J0];omega
theorem aQd(ps:c_)(acc:e_)(i j k:Nat):(s8 ps acc i j k).length<=acc.length+1:=by
 unfold s8;by_cases h:cV (dU ps i).n (dU ps j).n (dU ps k).n=0
 ·rw[aq h];omega
 ·rw[al h];split
  ·exact aQc _ _
  ·omega
theorem VG(hs:∀ p∈ps,bA m p/\p.n≠0)(hi:i<ps.length):bA m (dU ps i):=by rw[oY (bd hi)];exact(hs _ (eh hi)).1
theorem aQe{M:Nat}(hs:∀ p∈ps,bA m p/\p.n≠0)(hM:120*m+365<=M)(ha:∀ v∈acc,aF M v)(hi:i<ps.length)(hj:j<ps.length)(hk:k<ps.length):∀ v∈s8 ps acc i j k,aF M v:=by
 unfold s8;by_cases h:cV (dU ps i).n (dU ps j).n (dU ps k).n=0
 ·rw[aq h];exact ha
 ·rw[al h];split
  ·intro v hv;rcases aQb hv with hv|hv
   ·exact ha v hv
   ·rw[hv];exact(aF.kv (VG hs hi) (VG hs hj) (VG hs hk) h).mono hM
  ·exact ha
section
variable{ps:c_}{m M:Nat}
theorem VH(hs:∀ p∈ps,bA m p/\p.n≠0)(hM:120*m+365<=M){acc:e_}(ha:∀ v∈acc,aF M v){i j:Nat}(hi:i<ps.length)(hj:j<i):∀ k,k<=j->(∀ v∈ox ps acc i j k,aF M v)/\(ox ps acc i j k).length<=acc.length+k
 |0,_=>⟨ha,aZ _⟩
 |k+1,h=>by obtain⟨h1,h2⟩:=VH hs hM ha hi hj k o_;have:=aQd ps (ox ps acc i j k) i j k;exact⟨aQe hs hM h1 hi o_ o_,by unfold ox;omega⟩
theorem VI(hs:∀ p∈ps,bA m p/\p.n≠0)(hM:120*m+365<=M)(h9:ps.length<=9){acc:e_}(ha:∀ v∈acc,aF M v){i:Nat}(hi:i<ps.length):∀ j,j<=i->(∀ v∈mY ps acc i j,aF M v)/\(mY ps acc i j).length<=acc.length+9*j
 |0,_=>⟨ha,aZ _⟩
 |j+1,h=>by obtain⟨h1,h2⟩:=VI hs hM h9 ha hi j o_;obtain⟨h3,h4⟩:=VH hs hM h1 hi (show j<i by omega) j (aZ _);exact⟨h3,by unfold mY;omega⟩
theorem VJ(hs:∀ p∈ps,bA m p/\p.n≠0)(hM:120*m+365<=M)(h9:ps.length<=9):∀ i,i<=ps.length->(∀ v∈qP ps i,aF M v)/\(qP ps i).length<=81*i
 |0,_=>⟨λv hv=>(by cases hv),aZ _⟩
 |i+1,h=>by obtain⟨h1,h2⟩:=VJ hs hM h9 i o_;obtain⟨h3,h4⟩:=VI hs hM h9 h1 (show i<ps.length by omega) i (aZ _);exact⟨h3,by unfold qP;omega⟩
theorem VK{m:Nat}:∀ x∈nG ps,fW m x.2:=λx hx=>by simp only[nG,ch,fF,fG]at hx;subst hx;exact λv hv=>iM (aX.1 (dF ps) v hv)
theorem VL{m:Nat}:∀ x∈nH acc,fW m x:=λx hx=>by simp only[nH,ch,fF,fG]at hx;subst hx;exact λv hv=>iM (aX.1 (eH acc) v hv)
variable{Bs:ae}
theorem aQf(hs:∀ p∈ps,bA m p/\p.n≠0)(hm:200*m+1000<=az)(hM:120*m+365<=M)(zi:100*M+1000<=az)(ha:∀ v∈acc,aF M v)(hi:i<ps.length)(hj:j<i)(h9:ps.length<=9)(hL:acc.length+j<1000):
  ag prog Bs 81 (.block 4 (af f52 4)) (eY 3 [some 2] (KR ps.length i j 0 acc.length)) (nG ps++dc [some 2] (nH acc)) 3 ⟨.normal,[(3,sl 3 (ox ps acc i j j).length)],nG ps++marks 3 (nH (ox ps acc i j j)),4⟩:=by
 have:=rm (P:=prog) (B:=Bs) (N:=81) (b:=aE (af f52 4)) (next:=3) (p:=1) (r:=⟨.exit 4,[(3,sl 3 (ox ps acc i j j).length)],nG ps++marks 3 (nH (ox ps acc i j j)),4⟩) j
  (λk=>KR ps.length i j k (ox ps acc i j k).length) (λ_=>nG ps) (λk=>nH (ox ps acc i j k)) [some 2] (λ_ _=>rfl) (λ_ _=>⟨VK,VL⟩) k_ k_
  (λk hk=>by obtain⟨h1,h2⟩:=VH hs hM ha hi hj k o_;obtain⟨σ,gg,e1,e2⟩:=aQa (Bs:=Bs) hs hm hM zi h1 o_ hi hj hk o_;exact⟨σ,gg,e1 _,e2⟩)
  (by generalize ox ps acc i j j=a;exact ay [.lt 24 j j false s_]) n_
 exact bO (id:=4) this
def VM(n i j L:Nat):aL:=[(5,vI j),(4,vI i),(0,sl 0 n),(3,sl 2 L)]
theorem aQg(hs:∀ p∈ps,bA m p/\p.n≠0)(hm:200*m+1000<=az)(hM:120*m+365<=M)(zi:100*M+1000<=az)(ha:∀ v∈acc,aF M v)(hi:i<ps.length)(h9:ps.length<=9)(hL:acc.length+9*i<1000):
  ag prog Bs 81 (.block 2 (af f52 2)) (eY 2 [some 1] (VM ps.length i 0 acc.length)) (nG ps++dc [some 1] (nH acc)) 2 ⟨.normal,[(3,sl 2 (mY ps acc i i).length)],nG ps++marks 2 (nH (mY ps acc i i)),3⟩:=by
 have:=rm (P:=prog) (B:=Bs) (N:=81) (b:=aE (af f52 2)) (next:=2) (p:=1) (r:=⟨.exit 2,[(3,sl 2 (mY ps acc i i).length)],nG ps++marks 2 (nH (mY ps acc i i)),3⟩) i
  (λj=>VM ps.length i j (mY ps acc i j).length) (λ_=>nG ps) (λj=>nH (mY ps acc i j)) [some 1] (λ_ _=>rfl) (λ_ _=>⟨VK,VL⟩) k_ k_
  (λj hj=>by obtain⟨h1,h2⟩:=VI hs hM h9 ha hi j o_;have lo:=aQf (Bs:=Bs) hs hm hM zi h1 hi hj h9 o_;refine⟨[some 3],4,k_,?_⟩;show ag _ _ _ _ _ _ _ ⟨.normal,eY 2 [some 3] (VM ps.length i (j+1) (ox ps (mY ps acc i j) i j j).length),nG ps++dc [some 3] (nH (ox ps (mY ps acc i j) i j j)),4⟩;generalize mY ps acc i j=a at *;generalize ox ps a i j j=b at *;exact ay [.lt 19 j i true (aD hj),.code 4 _ _ _ _ _ lo,.sum 21 j 1 (j+1) rfl o_])
  (by generalize mY ps acc i i=a;exact ay [.lt 19 i i false s_]) n_
 exact bO (id:=2) this
def VN(n i L:Nat):aL:=[(4,vI i),(0,sl 0 n),(3,sl 1 L)]
theorem aQh(hs:∀ p∈ps,bA m p/\p.n≠0)(hm:200*m+1000<=az)(hM:120*m+365<=M)(zi:100*M+1000<=az)(h9:ps.length<=9):
  ag prog Bs 81 (.block 0 (af f52 0)) (eY 1 [none] (VN ps.length 0 0)) (nG ps++dc [none] (nH [])) 1 ⟨.normal,[(3,sl 1 (ig ps).length)],nG ps++marks 1 (nH (ig ps)),2⟩:=by
 have:=rm (P:=prog) (B:=Bs) (N:=81) (b:=aE (af f52 0)) (next:=1) (p:=1) (r:=⟨.exit 0,[(3,sl 1 (qP ps ps.length).length)],nG ps++marks 1 (nH (qP ps ps.length)),2⟩) ps.length
  (λi=>VN ps.length i (qP ps i).length) (λ_=>nG ps) (λi=>nH (qP ps i)) [none] (λ_ _=>rfl) (λ_ _=>⟨VK,VL⟩) k_ k_
  (λi hi=>by obtain⟨h1,h2⟩:=VJ hs hM h9 i o_;have lo:=aQg (Bs:=Bs) hs hm hM zi h1 hi h9 o_;refine⟨[some 2],3,k_,?_⟩;show ag _ _ _ _ _ _ _ ⟨.normal,eY 1 [some 2] (VN ps.length (i+1) (mY ps (qP ps i) i i).length),nG ps++dc [some 2] (nH (mY ps (qP ps i) i i)),3⟩;generalize qP ps i=a at *;generalize mY ps a i i=b at *;exact ay [.lt 14 i ps.length true (aD hi),.code 2 _ _ _ _ _ lo,.sum 16 i 1 (i+1) rfl o_])
  (by generalize qP ps ps.length=a;exact ay [.lt 14 ps.length ps.length false s_]) n_
 exact bO (id:=0) this
theorem aQi(hs:∀ p∈ps,bA m p/\p.n≠0)(hm:200*m+1000<=az)(hM:120*m+365<=M)(zi:100*M+1000<=az)(h9:ps.length<=9):ko prog 52 [ee ps] 42 30 (ig ps).length (aW (ig ps)):=by
 have ax:([ee ps].all aJ.ok)=true:=by simp only[fp,gm,ee,aJ.ok,dF,ja]
 have lo:=λBs=>aQh (Bs:=Bs) hs hm hM zi h9;generalize ig ps=c at *;exact yu (k:=1) mixed func52 ax 100 (N:=81) k_ (λ_=>[.code 0 _ _ _ _ _ (lo _)]) (λ_=>k_) (eH c) (sQ c)
end
def Ps(g:V3 K)(vs:e_)(o a b:Nat):Int:=OF.aA (cV g (aR vs a-aR vs o) (aR vs b-aR vs o))
def Bf(g:V3 K)(vs:e_)(o a:Nat)(b:Nat):Bool:=decide (Ps g vs o a b=0)
section
variable{Bs:ae}{vs:e_}{p:HS K}{o a:Nat}{l:l_}{m:Nat}
def Fh(n r i:Nat):aL:=[(7,vI (i+2)),(1,sl 0 n),(2,sl 1 r),(3,ptr 2)]
def vu(vs:e_)(p:HS K)(on:l_):aC:=[(0,.view (aW vs)),(1,.view (aj on)),(2,.aH (cS p).cs 66)]
theorem neB(h:decide (z=0)=!t):Value.bool (z !=0)=.bool t:=by
 congr 1
 cases t
 ·have:=lC h;subst this;rfl
 ·have:=Cf h;exact qg.2 this
theorem jT(hs:∀ v∈vs,aF m v)(hi:i<vs.length):aF m (aR vs i):=hs _ (cL (k8 hi))
noncomputable def flS(hb:l[i]?=some b)(hn:aF m p.n)(hs:∀ v∈vs,aF m v)(ho:o<vs.length)(ha:a<vs.length)(rV:b<vs.length)(hm:200*m+400<=az)(ht:Bf p.n vs o a b=!t)(more:bK prog Bs 37):bK prog Bs 37:=
 .lt 11 (i+2) (l.length+2) true (aD (by have:=(eD.1 hb).1;omega))::.ix f153 18 1 (l.length+2) 0 o_ k_::.ld f153 19 3 1 0 (.view (aj (o::a::l))) (vI o) rfl (dJ (l:=o::a::l) (i:=0) rfl) k_::
 .de f153 20 0 vs.length o 30 ho k_::.ld f153 21 42 0 (o*30) (.view (aW vs)) (bN (aR vs o)) rfl (nC (k8 ho)) k_::.ix f153 24 1 (l.length+2) 1 o_ k_::.ld f153 25 3 1 1 (.view (aj (o::a::l))) (vI a) rfl (dJ (l:=o::a::l) (i:=1) rfl) k_::
 .de f153 26 0 vs.length a 30 ha k_::.ld f153 27 42 0 (a*30) (.view (aW vs)) (bN (aR vs a)) rfl (nC (k8 ha)) k_::.ix f153 31 1 (l.length+2) (i+2) (by have:=(eD.1 hb).1;omega) k_::
 .ld f153 32 3 1 (i+2) (.view (aj (o::a::l))) (vI b) rfl (dJ (l:=o::a::l) (i:=i+2) hb) k_::.de f153 33 0 vs.length b 30 rV k_::.ld f153 34 42 0 (b*30) (.view (aW vs)) (bN (aR vs b)) rfl (nC (k8 rV)) k_::
 (aCN hn (jT hs ho) (jT hs ha) (jT hs rV) hm).at 35::.rw 36 _ (.bool t) (neB ht)::more
theorem aD8(hb:l[i]?=some b)(hn:aF m p.n)(hs:∀ v∈vs,aF m v)(ho:o<vs.length)(ha:a<vs.length)(rV:b<vs.length)(hm:200*m+400<=az)(ht:Bf p.n vs o a b=true)(h63:l.length<900000):
  ag prog Bs 37 (aE (af f153 0)) (Fh vs.length (l.length+2) i) (vu vs p (o::a::l)) 3 ⟨.normal,Fh vs.length (l.length+2) (i+1),vu vs p (o::a::l),3⟩:=by
 have hi:=(eD.1 hb).1;exact fo mixed 200 (flS (t:=false) hb hn hs ho ha rV hm ht [.sum 13 (i+2) 1 (i+1+2) o_ o_]) k_
theorem aQj(hb:l[i]?=some b)(hn:aF m p.n)(hs:∀ v∈vs,aF m v)(ho:o<vs.length)(ha:a<vs.length)(rV:b<vs.length)(hm:200*m+400<=az)(ht:Bf p.n vs o a b=false):
  ag prog Bs 37 (aE (af f153 0)) (Fh vs.length (l.length+2) i) (vu vs p (o::a::l)) 3 ⟨.ret,[(6,.bool false)],vu vs p (o::a::l),3⟩:=
 fo mixed 200 (flS (t:=true) hb hn hs ho ha rV hm ht []) k_
theorem aQk(hn:aF m p.n)(hs:∀ v∈vs,aF m v)(gS:∀ x∈o::a::l,x<vs.length)(hm:200*m+400<=az)(h63:l.length<900000):cJ prog 153 [.p (dr p),.r vs.length (aW vs),.r (l.length+2) (aj (o::a::l))] (.bool (l.all (Bf p.n vs o a))):=by
 have ax:([aJ.p (dr p),.r vs.length (aW vs),.r (l.length+2) (aj (o::a::l))].all aJ.ok)=true:=by simp only[fp,gm,aJ.ok,ja];rw[show(aW vs).all flat=true from eH vs,show(aj (o::a::l)).all flat=true from gQ _];rfl
 have ho:=gS o (aN ..);have ha:=gS a (bB _ (aN ..));have hl:∀{i b:Nat},l[i]?=some b->b<vs.length:=λh=>gS _ (bB _ (bB _ (cL h)));rcases Fc (Bf p.n vs o a) l with h|⟨n,x,h1,h2,h3,h4⟩
 ·rw[h];have lo:∀ B:ae,ag prog B 37 (.block 0 (af f153 0)) (Fh vs.length (l.length+2) 0) (vu vs p (o::a::l)) 3 ⟨.normal,[],vu vs p (o::a::l),3⟩:=λB=>
   bO (id:=0) (cg l.length (λi=>Fh vs.length (l.length+2) i) (λ_=>vu vs p (o::a::l)) (λi k _=>Iff.rfl) (r:=⟨.exit 0,[],vu vs p (o::a::l),3⟩) (λi hi=>by have hx:l[i]?=some l[i]:=bd hi;exact aD8 hx hn hs ho ha (hl hx) hm (Hz h hx) h63) (ay [.lt 11 (l.length+2) (l.length+2) false s_]) n_)
  exact dR func153 ax 37 (λw=>[.code 0 _ _ _ _ _ (lo _)])
 ·rw[h4];have lo:∀ B:ae,ag prog B 37 (.block 0 (af f153 0)) (Fh vs.length (l.length+2) 0) (vu vs p (o::a::l)) 3 ⟨.ret,[(6,.bool false)],vu vs p (o::a::l),3⟩:=λB=>
   bO (id:=0) (cg n (λi=>Fh vs.length (l.length+2) i) (λ_=>vu vs p (o::a::l)) (λi k _=>Iff.rfl) (r:=⟨.ret,[(6,.bool false)],vu vs p (o::a::l),3⟩) (λi hi=>by have av:=(eD.1 h1).1;have hx:l[i]?=some l[i]:=bd o_;exact aD8 hx hn hs ho ha (hl hx) hm (h3 i _ hi hx) h63) (aQj h1 hn hs ho ha (hl h1) hm h2) n_)
  exact dR func153 ax 37 (λw=>[.code 0 _ _ _ _ _ (lo _)])
end
def KS(vs:e_)(i k j:Nat):Bool:=decide (OF.aA (dot (aw (aR vs (i+1)-aR vs 0) (aR vs (k+1)-aR vs 0)) (aR vs (j+1)-aR vs 0))=0)
def Fi(vs:e_)(i k:Nat):Bool:=(List.range k).all (KS vs i k)
def Dd(vs:e_)(i:Nat):Bool:=(List.range i).all (Fi vs i)
def zj(vs:e_):Bool:=(List.range (vs.length-1)).all (Dd vs)
section
variable{Bs:ae}{vs:e_}{m:Nat}
def VO(n i k j:Nat):aL:=[(7,vI (j+1)),(5,vI (k+1)),(0,sl 0 n),(6,ptr 2)]
def sjM(vs:e_)(a c:V3 K):aC:=[(0,.view (aW vs)),(1,.aH (cO a).cs 42),(2,.aH (cO c).cs 42)]
noncomputable def VP(hs:∀ v∈vs,aF m v)(hi:i+1<vs.length)(hk:k<i)(hj:j<k)(hm:300*m+1000<=az)(ht:KS vs i k j=!t)(more:bK prog Bs 54):bK prog Bs 54:=
 .lt 39 (j+1) (k+1) true (aD o_)::.de f53 45 0 vs.length (j+1) 30 o_ k_::.ld f53 46 42 0 ((j+1)*30) (.view (aW vs)) (bN (aR vs (j+1))) rfl (nC (k8 o_)) k_::
 .de f53 48 0 vs.length 0 30 o_ k_::.ld f53 49 42 0 (0*30) (.view (aW vs)) (bN (aR vs 0)) rfl (nC (k8 o_)) k_::
 (aTz (jT hs (show j+1<vs.length by omega)) (jT hs (show 0<vs.length by omega)) o_).at 50::
 (aTp (((jT hs hi).sub (jT hs (show 0<vs.length by omega))).aw ((jT hs (show k+1<vs.length by omega)).sub (jT hs (show 0<vs.length by omega)))) ((jT hs (show j+1<vs.length by omega)).sub (jT hs (show 0<vs.length by omega))) o_).at 51::
 (aTd ((((jT hs hi).sub (jT hs (show 0<vs.length by omega))).aw ((jT hs (show k+1<vs.length by omega)).sub (jT hs (show 0<vs.length by omega)))).dot ((jT hs (show j+1<vs.length by omega)).sub (jT hs (show 0<vs.length by omega)))) o_).at 52::
 .rw 53 _ (.bool t) (neB ht)::more
def Fj(vs:e_)(i k:Nat):aC:=sjM vs (aR vs (i+1)-aR vs 0) (aw (aR vs (i+1)-aR vs 0) (aR vs (k+1)-aR vs 0))
theorem aD9(hs:∀ v∈vs,aF m v)(hi:i+1<vs.length)(hk:k<i)(hm:300*m+1000<=az)(h63:vs.length<900000):
  ag prog Bs 54 (.block 4 (af f53 4)) (VO vs.length i k 0) (Fj vs i k) 3 (if Fi vs i k then⟨.normal,[],Fj vs i k,3⟩else⟨.ret,[(2,.bool true)],Fj vs i k,3⟩):=by
 unfold Fi;rcases HB (KS vs i k) k with h|⟨n,hn,h2,h3,h4⟩
 ·rw[h];exact bO (id:=4) (cg k (λj=>VO vs.length i k j) (λ_=>Fj vs i k) (λ_ _ _=>Iff.rfl) (r:=⟨.exit 4,[],Fj vs i k,3⟩) (λj hj=>
   fo mixed 200 (VP (t:=false) hs hi hk hj hm (HC h hj) [.sum 41 (j+1) 1 (j+1+1) rfl o_]) k_) (ay [.lt 39 (k+1) (k+1) false s_]) n_)
 ·rw[h4];exact bO (id:=4) (cg n (λj=>VO vs.length i k j) (λ_=>Fj vs i k) (λ_ _ _=>Iff.rfl) (r:=⟨.ret,[(2,.bool true)],Fj vs i k,3⟩) (λj hj=>
   fo mixed 200 (VP (t:=false) hs hi hk o_ hm (h3 j hj) [.sum 41 (j+1) 1 (j+1+1) rfl o_]) k_) (fo mixed 200 (VP (t:=true) hs hi hk hn hm h2 []) k_) n_)
def KT(n i k:Nat):aL:=[(5,vI (k+1)),(3,vI (i+1)),(0,sl 0 n),(4,ptr 1)]
def xy(vs:e_)(i:Nat):aC:=[(0,.view (aW vs)),(1,.aH (cO (aR vs (i+1)-aR vs 0)).cs 42)]
theorem aQl{n:Nat}:∀ x∈xy vs i,fW n x.2:=λx hx=>by
 simp only[xy,ch,fF,fG]at hx;rcases hx with rfl|rfl
 ·exact λv hv=>iM (aX.1 (eH vs) v hv)
 ·exact λv hv=>iM (RV.mN _ v hv)
noncomputable def skS(hs:∀ v∈vs,aF m v)(hi:i+1<vs.length)(hk:k<i)(hm:300*m+1000<=az)(more:bK prog Bs 54):bK prog Bs 54:=
 .lt 24 (k+1) (i+1) true (aD o_)::.de f53 30 0 vs.length (k+1) 30 o_ k_::.ld f53 31 42 0 ((k+1)*30) (.view (aW vs)) (bN (aR vs (k+1))) rfl (nC (k8 o_)) k_::
 .de f53 33 0 vs.length 0 30 o_ k_::.ld f53 34 42 0 (0*30) (.view (aW vs)) (bN (aR vs 0)) rfl (nC (k8 o_)) k_::
 (aTz (jT hs (show k+1<vs.length by omega)) (jT hs (show 0<vs.length by omega)) o_).at 35::
 (aS6 ((jT hs hi).sub (jT hs (show 0<vs.length by omega))) ((jT hs (show k+1<vs.length by omega)).sub (jT hs (show 0<vs.length by omega))) o_).at 36::more
theorem aEa(hs:∀ v∈vs,aF m v)(hi:i+1<vs.length)(hm:300*m+1000<=az)(h63:vs.length<900000):
  ag prog Bs 54 (.block 2 (af f53 2)) (KT vs.length i 0) (xy vs i) 2 (if Dd vs i then⟨.normal,[],xy vs i,2⟩else⟨.ret,[(2,.bool true)],xy vs i,3⟩):=by
 have KU:∀ k,k<i->Fi vs i k=true->ag prog Bs 54 (aE (af f53 2)) (KT vs.length i k) (xy vs i) 2 ⟨.normal,KT vs.length i (k+1),xy vs i,2⟩:=λk hk h=>by have lo:=aD9 (Bs:=Bs) hs hi hk hm h63;rw[aq h]at lo;exact vP mixed 200 (gg:=3) (skS hs hi hk hm [.code 4 _ _ _ _ _ lo,.sum 26 (k+1) 1 (k+1+1) rfl o_]) k_ rfl k_ aQl k_
 unfold Dd;rcases HB (Fi vs i) i with h|⟨n,hn,h2,h3,h4⟩
 ·rw[h];exact bO (id:=2) (cg i (λk=>KT vs.length i k) (λ_=>xy vs i) (λ_ _ _=>Iff.rfl) (r:=⟨.exit 2,[],xy vs i,2⟩) (λk hk=>KU k hk (HC h hk)) (ay [.lt 24 (i+1) (i+1) false s_]) n_)
 ·rw[h4];exact bO (id:=2) (cg n (λk=>KT vs.length i k) (λ_=>xy vs i) (λ_ _ _=>Iff.rfl) (r:=⟨.ret,[(2,.bool true)],xy vs i,3⟩) (λk hk=>KU k o_ (h3 k hk)) (by have lo:=aD9 (Bs:=Bs) hs hi hn hm h63;rw[al (by rw[h2];decide)]at lo;exact fo mixed 200 (skS hs hi hn hm [.code 4 _ _ _ _ _ lo]) k_) n_)
def HG(n i:Nat):aL:=[(3,vI (i+1)),(0,sl 0 n)]
def vx(vs:e_):aC:=[(0,.view (aW vs))]
theorem aQm{n:Nat}:∀ x∈vx vs,fW n x.2:=λx hx=>by simp only[vx,ch,fF,fG]at hx;subst hx;exact λv hv=>iM (aX.1 (eH vs) v hv)
noncomputable def stS(hs:∀ v∈vs,aF m v)(hi:i+1<vs.length)(hm:300*m+1000<=az)(more:bK prog Bs 54):bK prog Bs 54:=
 .lt 11 (i+1) vs.length true (aD hi)::.de f53 16 0 vs.length (i+1) 30 hi k_::.ld f53 17 42 0 ((i+1)*30) (.view (aW vs)) (bN (aR vs (i+1))) rfl (nC (k8 hi)) k_::
 .de f53 19 0 vs.length 0 30 o_ k_::.ld f53 20 42 0 (0*30) (.view (aW vs)) (bN (aR vs 0)) rfl (nC (k8 o_)) k_::
 (aTz (jT hs hi) (jT hs (show 0<vs.length by omega)) o_).at 21::more
theorem aQn(hs:∀ v∈vs,aF m v)(hm:300*m+1000<=az)(h63:vs.length<900000):cJ prog 53 [.r vs.length (aW vs)] (.bool (!zj vs)):=by
 have ax:([aJ.r vs.length (aW vs)].all aJ.ok)=true:=by simp only[fp,gm,aJ.ok,ja];exact eH vs
 have KU:∀(B:ae) i,i<vs.length-1->Dd vs i=true->ag prog B 54 (aE (af f53 0)) (HG vs.length i) (vx vs) 1 ⟨.normal,HG vs.length (i+1),vx vs,1⟩:=λB i hi h=>by have lo:=aEa (Bs:=B) hs (show i+1<vs.length by omega) hm h63;rw[aq h]at lo;exact vP mixed 200 (gg:=2) (stS (i:=i) hs o_ hm [.code 2 _ _ _ _ _ lo,.sum 13 (i+1) 1 (i+1+1) rfl o_]) k_ rfl k_ aQm k_
 unfold zj;rcases HB (Dd vs) (vs.length-1)with h|⟨n,hn,h2,h3,h4⟩
 ·rw[h];have lo:∀ B:ae,ag prog B 54 (.block 0 (af f53 0)) (HG vs.length 0) (vx vs) 1 ⟨.normal,[],vx vs,1⟩:=λB=>
   bO (id:=0) (cg (vs.length-1) (λi=>HG vs.length i) (λ_=>vx vs) (λ_ _ _=>Iff.rfl) (r:=⟨.exit 0,[],vx vs,1⟩) (λi hi=>KU B i hi (HC h hi)) (ay [.lt 11 (vs.length-1+1) vs.length false (aQ o_)]) n_)
  exact dR func53 ax 54 (λw=>[.code 0 _ _ _ _ _ (lo _)])
 ·rw[h4];have lo:∀ B:ae,ag prog B 54 (.block 0 (af f53 0)) (HG vs.length 0) (vx vs) 1 ⟨.ret,[(2,.bool true)],vx vs,3⟩:=λB=>
   bO (id:=0) (cg n (λi=>HG vs.length i) (λ_=>vx vs) (λ_ _ _=>Iff.rfl) (r:=⟨.ret,[(2,.bool true)],vx vs,3⟩) (λi hi=>KU B i o_ (h3 i hi)) (by have lo:=aEa (Bs:=B) hs (show n+1<vs.length by omega) hm h63;rw[al (by rw[h2];decide)]at lo;exact fo mixed 200 (stS (i:=n) hs o_ hm [.code 2 _ _ _ _ _ lo]) k_) n_)
  exact dR func53 ax 54 (λw=>[.code 0 _ _ _ _ _ (lo _)])
end
section
variable{Bs:ae}{vs:e_}
def KV(n j L:Nat):aL:=[(6,vI j),(1,sl 0 n),(5,sl 2 L),(2,ptr 1)]
def zk(vs:e_)(p:HS K):aC:=[(0,.view (aW vs)),(1,.aH (cS p).cs 66)]
theorem aQo:∀ x∈zk vs p,fW m x.2:=λx hx=>by
 simp only[zk,ch,fF,fG]at hx;rcases hx with rfl|rfl
 ·exact λv hv=>iM (aX.1 (eH vs) v hv)
 ·exact λv hv=>iM (iD.flat _ v hv)
theorem aQp{l:l_}(hj:j<vs.length)(hp:bA m p)(mg:p.n≠0)(aK:∀ v∈vs,aF q v)(hm:100*(m+q)+1000<=az)(h63:l.length<900000)(ui:vs.length<1000000):
  ∃ σ gg,(∀ l0:List Nat,uO (zk vs p++dc [none] (jE l0)) 2 σ (KV vs.length (j+1) (l++if dot p.n (aR vs j)-p.d=0 then[j]else[]).length) (zk vs p) (jE (l++if dot p.n (aR vs j)-p.d=0 then[j]else[]))=true)/\
   ag prog Bs 124 (aE (af f104 0)) (KV vs.length j l.length) (zk vs p++marks 2 (jE l)) 3 ⟨.normal,eY 2 σ (KV vs.length (j+1) (l++if dot p.n (aR vs j)-p.d=0 then[j]else[]).length),zk vs p++dc σ (jE (l++if dot p.n (aR vs j)-p.d=0 then[j]else[])),gg⟩:=by
 have hv:=k8 hj;have hs:=aTa hp (aK _ (cL hv)) o_ mg;by_cases h:dot p.n (aR vs j)-p.d=0
 ·rw[aq h];have e:(Value.bool (OF.aA (dot p.n (aR vs j)-p.d)==0))=.bool true:=by rw[OF.MJ.1 h];rfl
  have hr:aj l++[vI j]=aj (l++[j]):=by simp[aj]
  have C9:(aj l).length=l.length*1:=by rw[mU,fY]
  have h1:=KE l;rw[show(l++[j]).length=l.length+1 by simp];unfold jE;refine⟨[some 4],5,λl0=>k_,?_⟩;generalize OF.aA (dot p.n (aR vs j)-p.d)=z at *;generalize aR vs j=v at *;generalize aj l=c0 at *;generalize aj (l++[j])=c1 at *;exact ay [.lt 15 j vs.length true (aD hj),.de f104 21 0 vs.length j 30 hj k_,.ld f104 22 42 0 (j*30) (.view (aW vs)) (bN v) rfl (nC hv) k_,hs.at 23,.rw 24 (.bool (z==0)) b_ e,.bs f104 27 3 1 3 1 [0] (vI 0) [vI j] #[vI j] (.row [vI j] 3 1) rfl (λv hv=>by simp at hv;subst hv;rfl) (λv hv=>by simp at hv;subst hv;rfl) k_ rfl d_ d_ k_,.pr f104 28 4 2 l.length 1 (l.length+1) 3 1 8 c0 3 (.row [vI j] 3 1) c1 rfl rfl rfl C9 hr (λv hv=>by simp[Obj.cells]at hv;subst hv;rfl) d_ (by simp[maxLen];omega) o_ k_,.sum 17 j 1 (j+1) rfl o_]
 ·rw[al h,gO];have e:(Value.bool (OF.aA (dot p.n (aR vs j)-p.d)==0))=.bool false:=by
   congr 1
   have:OF.aA (dot p.n (aR vs j)-p.d)≠0:=λe=>h (OF.MJ.2 e);simpa using this
  refine⟨[some 2],3,λl0=>k_,?_⟩;generalize OF.aA (dot p.n (aR vs j)-p.d)=z at *;generalize aR vs j=v at *;exact ay [.lt 15 j vs.length true (aD hj),.de f104 21 0 vs.length j 30 hj k_,.ld f104 22 42 0 (j*30) (.view (aW vs)) (bN v) rfl (nC hv) k_,hs.at 23,.rw 24 (.bool (z==0)) a_ e,.sum 17 j 1 (j+1) rfl o_]
theorem aEb(hp:bA m p)(mg:p.n≠0)(aK:∀ v∈vs,aF q v)(hm:100*(m+q)+1000<=az)(h63:vs.length<900000):
  ag prog Bs 124 (.block 0 (af f104 0)) (eY 2 [none] (KV vs.length 0 0)) (zk vs p++dc [none] (jE [])) 2 ⟨.normal,[(5,sl 2 (cF p vs vs.length).length)],zk vs p++marks 2 (jE (cF p vs vs.length)),3⟩:=by
 have:=rm (P:=prog) (B:=Bs) (N:=124) (b:=aE (af f104 0)) (next:=2) (p:=1) (r:=⟨.exit 0,[(5,sl 2 (cF p vs vs.length).length)],zk vs p++marks 2 (jE (cF p vs vs.length)),3⟩) vs.length
  (λj=>KV vs.length j (cF p vs j).length) (λ_=>zk vs p) (λj=>jE (cF p vs j)) [none] (λ_ _=>rfl) (λj _=>⟨aQo,Vt⟩) k_ k_
  (λj hj=>by have hl:=Hx p vs j;obtain⟨σ,gg,h1,h2⟩:=aQp (Bs:=Bs) (l:=cF p vs j) hj hp mg aK hm o_ o_;rw[aDr];exact⟨σ,gg,h1 _,h2⟩)
  (by generalize cF p vs vs.length=a;exact ay [.lt 15 vs.length vs.length false s_]) n_
 exact bO (id:=0) this
end
def HH(g:V3 K)(vs:e_)(a c b:Nat):Bool:=decide (b=a)||(decide (b=c)||decide (0<Ps g vs a c b))
section
variable{Bs:ae}{vs:e_}{on:l_}{p:HS K}{m:Nat}
def HI(n L a k j:Nat)(f:Bool):aL:=[(11,vI j),(10,.bool f),(5,sl 2 L),(8,vI a),(9,vI k),(1,sl 0 n),(2,ptr 1)]
def mB(vs:e_)(p:HS K)(on:l_):aC:=[(0,.view (aW vs)),(1,.aH (cS p).cs 66),(2,.row (aj on) 3 1)]
theorem gtB(h:decide (0<z)=t):Value.bool (decide (z>0))=.bool t:=by rw[<-h]
theorem aEc{c:Nat}(hb:on[j]?=some b)(hc:on[k]?=some c)(gS:∀ x∈on,x<vs.length)(ha:a<vs.length)(hn:aF m p.n)(hs:∀ v∈vs,aF m v)(hm:200*m+400<=az)(ht:HH p.n vs a c b=t)(h63:on.length<900000):
  ag prog Bs 124 (aE (af f104 6)) (HI vs.length on.length a k j true) (mB vs p on) 5 ⟨.normal,HI vs.length on.length a k (j+1) t,mB vs p on,5⟩:=by
 have hj:=(eD.1 hb).1;have hk:=(eD.1 hc).1;have rV:=gS b (cL hb);have jH:=gS c (cL hc);unfold HH at ht;by_cases h1:b=a
 ·rw[aD h1,FD]at ht;subst ht;exact fo mixed 200 [.lt 68 j on.length true (aD hj),.ix f104 76 2 on.length j hj k_,.ld f104 77 3 2 j (.row (aj on) 3 1) (vI b) rfl (dJ hb) k_,.fX 79 b a true (aD h1),.sum 73 j 1 (j+1) rfl o_] k_
 rw[aQ h1,vY]at ht;by_cases h2:b=c
 ·rw[aD h2,FD]at ht;subst ht;exact fo mixed 200 [.lt 68 j on.length true (aD hj),.ix f104 76 2 on.length j hj k_,.ld f104 77 3 2 j (.row (aj on) 3 1) (vI b) rfl (dJ hb) k_,.fX 79 b a false (aQ h1),.ix f104 83 2 on.length j hj k_,.ld f104 84 3 2 j (.row (aj on) 3 1) (vI b) rfl (dJ hb) k_,.ix f104 87 2 on.length k hk k_,.ld f104 88 3 2 k (.row (aj on) 3 1) (vI c) rfl (dJ hc) k_,.fX 89 b c true (aD h2),.sum 73 j 1 (j+1) rfl o_] k_
 rw[aQ h2,vY]at ht;exact fo mixed 200 [.lt 68 j on.length true (aD hj),.ix f104 76 2 on.length j hj k_,.ld f104 77 3 2 j (.row (aj on) 3 1) (vI b) rfl (dJ hb) k_,.fX 79 b a false (aQ h1),.ix f104 83 2 on.length j hj k_,.ld f104 84 3 2 j (.row (aj on) 3 1) (vI b) rfl (dJ hb) k_,.ix f104 87 2 on.length k hk k_,.ld f104 88 3 2 k (.row (aj on) 3 1) (vI c) rfl (dJ hc) k_,.fX 89 b c false (aQ h2),.de f104 96 0 vs.length a 30 ha k_,.ld f104 97 42 0 (a*30) (.view (aW vs)) (bN (aR vs a)) rfl (nC (k8 ha)) k_,.ix f104 101 2 on.length k hk k_,.ld f104 102 3 2 k (.row (aj on) 3 1) (vI c) rfl (dJ hc) k_,.de f104 103 0 vs.length c 30 jH k_,.ld f104 104 42 0 (c*30) (.view (aW vs)) (bN (aR vs c)) rfl (nC (k8 jH)) k_,.ix f104 108 2 on.length j hj k_,.ld f104 109 3 2 j (.row (aj on) 3 1) (vI b) rfl (dJ hb) k_,.de f104 110 0 vs.length b 30 rV k_,.ld f104 111 42 0 (b*30) (.view (aW vs)) (bN (aR vs b)) rfl (nC (k8 rV)) k_,(aCN hn (jT hs ha) (jT hs jH) (jT hs rV) hm).at 112,.rw 113 _ (.bool t) (gtB ht),.sum 73 j 1 (j+1) rfl o_] k_
theorem aQq:ag prog Bs 124 (aE (af f104 6)) (HI vs.length on.length a k j false) (mB vs p on) 5 ⟨.exit 6,[(10,.bool false)],mB vs p on,5⟩:=by
 by_cases h:j<on.length
 ·exact ay [.lt 68 j on.length true (aD h)]
 ·exact ay [.lt 68 j on.length false (aQ h)]
def KW(g:V3 K)(vs:e_)(on:l_)(a c:Nat):Bool:=on.all (HH g vs a c)
theorem aEd{c:Nat}(hc:on[k]?=some c)(gS:∀ x∈on,x<vs.length)(ha:a<vs.length)(hn:aF m p.n)(hs:∀ v∈vs,aF m v)(hm:200*m+400<=az)(h63:on.length<900000):
  ag prog Bs 124 (.block 6 (af f104 6)) (HI vs.length on.length a k 0 true) (mB vs p on) 5 ⟨.normal,[(10,.bool (KW p.n vs on a c))],mB vs p on,5⟩:=by
 unfold KW;rcases Fc (HH p.n vs a c) on with h|⟨n,x,h1,h2,h3,h4⟩
 ·rw[h];exact bO (id:=6) (cg on.length (λj=>HI vs.length on.length a k j true) (λ_=>mB vs p on) (λ_ _ _=>Iff.rfl) (r:=⟨.exit 6,[(10,.bool true)],mB vs p on,5⟩) (λj hj=>by have hx:on[j]?=some on[j]:=bd hj;exact aEc hx hc gS ha hn hs hm (Hz h hx) h63) (ay [.lt 68 on.length on.length false s_]) n_)
 ·rw[h4];have av:=(eD.1 h1).1;exact bO (id:=6) (cg (n+1) (λj=>HI vs.length on.length a k j (decide (j<=n))) (λ_=>mB vs p on) (λ_ _ _=>Iff.rfl) (r:=⟨.exit 6,[(10,.bool false)],mB vs p on,5⟩) (λj hj=>by
   have Pt:j<on.length:=by omega
   have hx:on[j]?=some on[j]:=bd Pt;simp only[aD (show j<=n by omega)];refine aEc hx hc gS ha hn hs hm ?_ h63;by_cases he:j=n
   ·subst he;rw[h1]at hx;injection hx with hx;rw[<-hx,h2];exact(aQ o_).symm
   ·rw[h3 j _ o_ hx];exact(aD o_).symm) (by
   simp only[aQ (show ¬n+1<=n by omega)];exact aQq) n_)
end
def um(g:V3 K)(vs:e_)(on:l_)(a c:Nat):Bool:=!decide (c=a)&&KW g vs on a c
section
variable{Bs:ae}{vs:e_}{on:l_}{p:HS K}{m:Nat}
def KX(n L R a k:Nat):aL:=[(9,vI k),(5,sl 2 L),(7,sl 4 R),(8,vI a),(1,sl 0 n),(2,ptr 1)]
def Fk(vs:e_)(p:HS K)(on out:l_):aC:=mB vs p on++marks 4 (jE out)
theorem aQr{c:Nat}{out:l_}(hc:on[k]?=some c)(gS:∀ x∈on,x<vs.length)(ha:a<vs.length)(hn:aF m p.n)(hs:∀ v∈vs,aF m v)(hm:200*m+400<=az)(h63:on.length<900000)(hf:um p.n vs on a c=false):
  ag prog Bs 124 (aE (af f104 4)) (KX vs.length on.length out.length a k) (Fk vs p on out) 5 ⟨.normal,KX vs.length on.length out.length a (k+1),Fk vs p on out,5⟩:=by
 have hk:=(eD.1 hc).1;by_cases h:c=a
 ·exact fo mixed 200 [.lt 56 k on.length true (aD hk),.ix f104 61 2 on.length k hk k_,.ld f104 62 3 2 k (.row (aj on) 3 1) (vI c) rfl (dJ hc) k_,.fX 64 c a true (aD h),.sum 58 k 1 (k+1) rfl o_] k_
 ·have lo:=aEd (Bs:=Bs) hc gS ha hn hs hm h63;unfold um at hf;rw[aQ h]at hf;have hf:KW p.n vs on a c=false:=hf;rw[hf]at lo;exact fo mixed 200 [.lt 56 k on.length true (aD hk),.ix f104 61 2 on.length k hk k_,.ld f104 62 3 2 k (.row (aj on) 3 1) (vI c) rfl (dJ hc) k_,.fX 64 c a false (aQ h),.code 6 _ _ _ _ _ lo,.sum 58 k 1 (k+1) rfl o_] k_
theorem aQs{c:Nat}{out:l_}(hc:on[k]?=some c)(gS:∀ x∈on,x<vs.length)(ha:a<vs.length)(hn:aF m p.n)(hs:∀ v∈vs,aF m v)(hm:200*m+400<=az)(h63:on.length<900000)(ho:out.length<900000)(hf:um p.n vs on a c=true):
  ag prog Bs 124 (aE (af f104 4)) (KX vs.length on.length out.length a k) (Fk vs p on out) 5 ⟨.exit 4,[(7,sl 6 (out++[c]).length)],mB vs p on++[(6,.row (aj (out++[c])) 3 1)],7⟩:=by
 have hk:=(eD.1 hc).1;have lo:=aEd (Bs:=Bs) hc gS ha hn hs hm h63;unfold um at hf;rw[cY]at hf;obtain⟨h1,h2⟩:=hf;have h:¬c=a:=by intro e;rw[aD e]at h1;cases h1
 rw[h2]at lo;have hr:aj out++[vI c]=aj (out++[c]):=by simp[aj]
 have C9:(aj out).length=out.length*1:=by rw[mU,fY]
 rw[show(out++[c]).length=out.length+1 by simp];have iA:=dJ hc;unfold Fk jE;generalize aj out=c0 at *;generalize aj (out++[c])=c1 at *;exact fo mixed 200 [.lt 56 k on.length true (aD hk),.ix f104 61 2 on.length k hk k_,.ld f104 62 3 2 k (.row (aj on) 3 1) (vI c) rfl iA k_,.fX 64 c a false (aQ h),.code 6 _ _ _ _ _ lo,.ix f104 119 2 on.length k hk k_,.ld f104 120 3 2 k (.row (aj on) 3 1) (vI c) rfl iA k_,.bs f104 121 5 1 3 1 [0] (vI 0) [vI c] #[vI c] (.row [vI c] 3 1) rfl (λv hv=>by simp at hv;subst hv;rfl) (λv hv=>by simp at hv;subst hv;rfl) k_ rfl d_ d_ k_,.pr f104 122 6 4 out.length 1 (out.length+1) 3 1 8 c0 5 (.row [vI c] 3 1) c1 rfl rfl rfl C9 hr (λv hv=>by simp[Obj.cells]at hv;subst hv;rfl) d_ (by simp[maxLen];omega) o_ k_] k_
theorem aQt{c:Nat}{out:l_}(hc:on[k]?=some c)(gS:∀ x∈on,x<vs.length)(ha:a<vs.length)(hn:aF m p.n)(hs:∀ v∈vs,aF m v)(hm:200*m+400<=az)(h63:on.length<900000)(ho:out.length<900000)(hf:um p.n vs on a c=true)
  (hb:∀(i:Nat) (x:Nat),i<k->on[i]?=some x->um p.n vs on a x=false) :
  ag prog Bs 124 (.block 4 (af f104 4)) (KX vs.length on.length out.length a 0) (Fk vs p on out) 5 ⟨.normal,[(7,sl 6 (out++[c]).length)],mB vs p on++[(6,.row (aj (out++[c])) 3 1)],7⟩:=
 bO (id:=4) (cg k (λi=>KX vs.length on.length out.length a i) (λ_=>Fk vs p on out) (λ_ _ _=>Iff.rfl) (r:=⟨.exit 4,[(7,sl 6 (out++[c]).length)],mB vs p on++[(6,.row (aj (out++[c])) 3 1)],7⟩) (λi hi=>by have hk:=(eD.1 hc).1;have hx:on[i]?=some on[i]:=bd o_;exact aQr hx gS ha hn hs hm h63 (hb i _ hi hx)) (aQs hc gS ha hn hs hm h63 ho hf) n_)
end
section
variable{Bs:ae}{vs:e_}{on:l_}{p:HS K}{m:Nat}
def Pu(n L R:Nat):aL:=[(7,sl 4 R),(5,sl 2 L),(1,sl 0 n),(2,ptr 1)]
theorem aQu{c R:Nat}{out:l_}(hR:out.length=R+1)(av:out.length<on.length)(hl:out[R]?=some a)(hc:on[k]?=some c)(gS:∀ x∈on,x<vs.length)(ha:a<vs.length)(hn:aF m p.n)(hs:∀ v∈vs,aF m v)(hm:200*m+400<=az)(h63:on.length<900000)(hf:um p.n vs on a c=true)
  (hb:∀(i:Nat) (x:Nat),i<k->on[i]?=some x->um p.n vs on a x=false) :
  ag prog Bs 124 (aE (af f104 2)) (Pu vs.length on.length out.length) (mB vs p on++marks 4 (jE out)) 5 ⟨.normal,eY 4 [some 6] (Pu vs.length on.length (out++[c]).length),mB vs p on++dc [some 6] (jE (out++[c])),7⟩:=by
 have lo:=aQt (Bs:=Bs) hc gS ha hn hs hm h63 o_ hf hb (out:=out);have iA:=dJ hl;have e:(out++[c]).length=R+2:=by simp[hR]
 rw[e]at lo ⊢;unfold Fk at lo;rw[hR]at lo ⊢;unfold jE at *;generalize aj out=c0 at *;generalize aj (out++[c])=c1 at *;exact fo mixed 200 [.lt 46 (R+1) on.length true (aD o_),.eO 50 (R+1) 1 R rfl o_,.ix f104 51 4 (R+1) R o_ k_,.ld f104 52 3 4 R (.row c0 3 1) (vI a) rfl iA k_,.code 4 _ _ _ _ _ lo] k_
end
structure aS8(g:V3 K)(vs:e_)(on sq:l_):Prop where
 len:sq.length=on.length
 head:sq[0]?=on[0]?
 step:∀(i a c:Nat),sq[i]?=some a->sq[i+1]?=some c->∃ k:Nat,on[k]?=some c/\um g vs on a c=true/\∀(j x:Nat),j<k->on[j]?=some x->um g vs on a x=false
section
variable{Bs:ae}{vs:e_}{on sq:l_}{p:HS K}{m:Nat}
theorem aQv{n:Nat}:∀ x∈mB vs p on,fW n x.2:=λx hx=>by
 simp only[mB,ch,fF,fG]at hx;rcases hx with rfl|rfl|rfl
 ·exact λv hv=>iM (aX.1 (eH vs) v hv)
 ·exact λv hv=>iM (iD.flat _ v hv)
 ·exact λv hv=>iM (lJ _ v hv)
theorem aQw{o:Nat}(h:aS8 p.n vs on sq)(h0:on[0]?=some o)(gS:∀ x∈on,x<vs.length)(hn:aF m p.n)(hs:∀ v∈vs,aF m v)(hm:200*m+400<=az)(h63:on.length<900000):
  ag prog Bs 124 (.block 2 (af f104 2)) (eY 4 [some 3] (Pu vs.length on.length 1)) (mB vs p on++dc [some 3] (jE [o])) 4 ⟨.normal,[(7,sl 4 sq.length)],mB vs p on++marks 4 (jE sq),5⟩:=by
 have r5:=(eD.1 h0).1;have hlen:=h.len;have qx:∀ x∈sq,x<vs.length:=λx hx=>by
  obtain⟨i,hi,rfl⟩:=lI hx;cases i with
  |zero=>
   have e:=h.head;rw[bd hi,h0]at e;injection e with e;rw[e];exact gS _ (cL h0)
  |succ i=>
   obtain⟨k,e,_⟩:=h.step i _ _ (bd o_) (bd hi);exact gS _ (cL e)
 have e1:sq.take 1=[o]:=by have e:=h.head;rw[h0]at e;rw[List.take_one,List.head?_eq_getElem?,e];rfl
 have tl:∀ i,i<on.length->(sq.take (i+1)).length=i+1:=λi hi=>by rw[je];omega
 have:=rm (P:=prog) (B:=Bs) (N:=124) (b:=aE (af f104 2)) (next:=4) (p:=1) (r:=⟨.exit 2,[(7,sl 4 sq.length)],mB vs p on++marks 4 (jE sq),5⟩) (on.length-1)
  (λi=>Pu vs.length on.length (sq.take (i+1)).length) (λ_=>mB vs p on) (λi=>jE (sq.take (i+1))) [some 3] (λ_ _=>rfl) (λi _=>⟨aQv,Vt⟩) k_ k_
  (λi hi=>by
   have ha:sq[i]?=some sq[i]:=bd o_;have hc:sq[i+1]?=some sq[i+1]:=bd o_;obtain⟨k,q1,q2,q3⟩:=h.step i _ _ ha hc;have e:sq.take (i+1+1)=sq.take (i+1)++[sq[i+1]]:=by rw[ua,hc];rfl
   have hl:=tl i o_;have hr:=aQu (Bs:=Bs) (R:=i) hl o_ (by rw[tj,aq o_];exact ha) q1 gS (qx _ (cL ha)) hn hs hm h63 q2 q3;refine⟨[some 6],7,k_,?_⟩;rw[e];exact hr)
  (by rw[show on.length-1+1=sq.length by omega,nB];rw[hlen];exact ay [.lt 46 on.length on.length false s_]) n_
 simp only[jv,e1]at this;exact bO (id:=2) this
end
def Pv(g:V3 K)(vs:e_):List Nat->Bool
 |o::a::l=>l.all (Bf g vs o a)
 |_=>true
section
variable{vs:e_}{p:HS K}{m q:Nat}
noncomputable def aQx{on:l_}(h3:3<=on.length)(ht:Pv p.n vs on=t)(hn:aF m p.n)(hs:∀ v∈vs,aF m v)(gS:∀ x∈on,x<vs.length)(hm:200*m+400<=az)(h63:on.length<900000):aO prog Bs 124:=
 .cR f104 36 [dr p,sl 0 vs.length,sl 2 on.length] (by
   match on,h3,gS,ht,h63 with
   |o::a::l,_,gS,ht,h63=>
    have:=aQk hn hs gS hm (by simp only[pU]at h63;omega);rw[show l.all (Bf p.n vs o a)=t from ht]at this;exact this) (.p rfl (.w (x:=.view (aW vs)) rfl (eH vs) wU (.w (x:=.row (aj on) 3 1) rfl (gQ on) (λh=>O3 h) .nil)))
theorem aEe:([aJ.p (dr p),.r vs.length (aW vs)].all aJ.ok)=true:=by simp only[fp,gm,aJ.ok,ja];rw[show(aW vs).all flat=true from eH vs];rfl
theorem aQy(hp:bA m p)(mg:p.n≠0)(aK:∀ v∈vs,aF q v)(hm:100*(m+q)+1000<=az)(h63:vs.length<900000)(h:(cF p vs vs.length).length<3):
  cJ prog 104 [.p (dr p),.r vs.length (aW vs)] (.slice none 0 0):=by
 have lo:=λBs=>aEb (Bs:=Bs) hp mg aK hm h63;generalize cF p vs vs.length=on at *;exact jP mixed func104 aEe 200 (N:=124) k_ (λw=>[.code 0 _ _ _ _ _ (lo _),.lt 31 on.length 3 true (aD h)]) (λ_=>k_) k_
theorem aTb{sq:l_}(hp:bA m p)(mg:p.n≠0)(aK:∀ v∈vs,aF m v)(hm:300*m+1000<=az)(h63:vs.length<900000)(h:¬(cF p vs vs.length).length<3)(hf:Pv p.n vs (cF p vs vs.length)=false)(qx:aS8 p.n vs (cF p vs vs.length) sq):
  ko prog 104 [.p (dr p),.r vs.length (aW vs)] 3 1 sq.length (aj sq):=by
 have lo:=λBs=>aEb (Bs:=Bs) hp mg aK o_ h63;have gS:∀ x∈cF p vs vs.length,x<vs.length:=λx hx=>Vr hx;have hol:=Hx p vs vs.length;generalize cF p vs vs.length=on at *;obtain⟨o,h0⟩:∃ o,on[0]?=some o:=⟨_,bd o_⟩;have l2:=λBs=>aQw (Bs:=Bs) qx h0 gS hp.1 aK o_ o_;exact yu (k:=4) mixed func104 aEe 200 (N:=124) k_ (λw=>[.code 0 _ _ _ _ _ (lo _),.lt 31 on.length 3 false (aQ h),aQx o_ hf hp.1 aK gS o_ o_,.ix f104 39 2 on.length 0 o_ k_,.ld f104 40 3 2 0 (.row (aj on) 3 1) (vI o) rfl (dJ h0) k_,.bs f104 41 3 1 3 1 [0] (vI 0) [vI o] #[vI o] (.row [vI o] 3 1) rfl (λv hv=>by simp at hv;subst hv;rfl) (λv hv=>by simp at hv;subst hv;rfl) k_ rfl d_ d_ k_,.code 2 _ _ _ _ _ (l2 _)]) (λ_=>k_) (gQ sq) (by rw[mU,fY])
end
theorem aEf{v:V3 K}:CG ps v=false↔(v=0\/∃ r∈ps,0<dot r.n v):=by
 unfold CG;rw[Bool.and_eq_false_iff,Bool.not_eq_false',Bool.not_eq_false',qC,r6];constructor
 ·rintro(h|⟨r,hr,h⟩)
  ·exact .inl h
  ·exact .inr ⟨r,hr,Pb.1 (lC h)⟩
 ·rintro(h|⟨r,hr,h⟩)
  ·exact .inl h
  ·exact .inr ⟨r,hr,aD (Pb.2 h)⟩
theorem VQ{u:V3 K}:pM ps u=false↔(u≠0->(∃ r∈ps,0<dot r.n u)/\∃ r∈ps,0<dot r.n (-u)):=by
 unfold pM;rw[Lr,aEf,aEf];constructor
 ·rintro⟨h1,h2⟩ hu
  exact⟨h1.resolve_left hu,h2.resolve_left λe=>hu (V3.neg_eq_zero.1 e)⟩
 ·intro h;by_cases hu:u=0
  ·exact⟨.inl hu,.inl (V3.neg_eq_zero.2 hu)⟩
  ·exact⟨.inr (h hu).1,.inr (h hu).2⟩
theorem aEg{ps:c_}:∀ n,n<=ps.length->(sO ps n=true↔∃(i j:Nat) (p q:HS K),i<n/\j<i/\ps[i]?=some p/\ps[j]?=some q/\aw p.n q.n≠0)
 |0,_=>by
  constructor
  ·intro h;cases h
  ·rintro⟨i,_,_,_,h,_⟩;omega
 |n+1,hn=>by
  have hp:ps[n]?=some ps[n]:=bd o_;rw[aA8 hp,qV,aEg n o_];unfold pN;rw[r6];constructor
  ·rintro(⟨i,j,p,q,h1,h2,h3⟩|⟨q,hq,h⟩)
   ·exact⟨i,j,p,q,by omega,h2,h3⟩
   ·obtain⟨j,hj,rfl⟩:=lI hq;rw[je]at hj;rw[aDE]at h;exact⟨n,j,ps[n],ps[j],by omega,by omega,hp,bd o_,by simpa using h⟩
  ·rintro⟨i,j,p,q,h1,h2,h3,h4,h5⟩
   rcases eQ i n with h|h
   ·exact .inl ⟨i,j,p,q,h,h2,h3,h4,h5⟩
   ·have:i=n:=by omega
    subst this;rw[hp]at h3;injection h3 with h3;subst h3;exact .inr ⟨q,cL (i:=j) (by rw[tj,aq h2];exact h4),by simpa using h5⟩
theorem aQz:N3 ps ps.length=false↔∀(i j:Nat) (p q:HS K),j<i->ps[i]?=some p->ps[j]?=some q->pM ps (aw p.n q.n)=false:=by
 unfold N3;rw[Ig];constructor
 ·intro h i j p q oD hp hq;have av:=(eD.1 hp).1;have:=h i (kf.2 av);rw[N4 hp,r6]at this;cases hb:pM ps (aw p.n q.n)with
  |false=>rfl
  |true=>exact absurd ⟨q,cL (i:=j) (by rw[tj,aq oD];exact hq),hb⟩ this
 ·intro h i hi;have av:=kf.1 hi;have hp:ps[i]?=some ps[i]:=bd av;rw[N4 hp,r6]
  rintro⟨q,hq,hb⟩
  obtain⟨j,hj,rfl⟩:=lI hq;rw[je]at hj;have vE:ps[j]?=some ps[j]:=bd o_;rw[aDE]at hb;rw[h i j _ _ o_ hp vE]at hb;cases hb
theorem KY:oS ps=true↔Cl ps:=by
 unfold oS;rw[cY,zy,aEg _ (aZ _),aQz];have sw:∀ p q:HS K,aw q.n p.n=-aw p.n q.n:=λp q=>V3.GV _ _;constructor
 ·rintro⟨h1,i,j,p,q,hi,oD,hp,hq,hc⟩
  refine⟨⟨p,cL hp,q,cL hq,hc⟩,λp hp q hq aY=>?_⟩;obtain⟨i,hi,rfl⟩:=lI hp;obtain⟨j,hj,rfl⟩:=lI hq;rcases rW i j with h|h|h
  ·have:=VQ.1 (h1 j i _ _ h (bd hj) (bd hi)) (λe=>aY (by rw[sw,e];exact V3.neg_eq_zero.2 rfl));rw[sw ps[j] ps[i]];exact this.2
  ·subst h;exact absurd (V3.JI _) aY
  ·exact(VQ.1 (h1 i j _ _ h (bd hi) (bd hj)) aY).1
 ·rintro⟨⟨p,hp,q,hq,aY⟩,aU⟩
  refine⟨λi j p q _ hp hq=>VQ.2 λhu=>?_,?_⟩
  ·have jB:=cL hp;have AK:=cL hq;refine⟨aU p jB q AK hu,?_⟩;rw[<-sw];exact aU q AK p jB (λe=>hu (by rw[sw q p,e];exact V3.neg_eq_zero.2 rfl))
  ·obtain⟨i,hi,rfl⟩:=lI hp;obtain⟨j,hj,rfl⟩:=lI hq;rcases rW i j with h|h|h
   ·exact⟨j,i,_,_,hj,h,bd hj,bd hi,λe=>aY (by rw[sw,e];exact V3.neg_eq_zero.2 rfl)⟩
   ·subst h;exact absurd (V3.JI _) aY
   ·exact⟨i,j,_,_,hi,h,bd hi,bd hj,aY⟩
theorem aEh:∀ n:Nat,(CR.ofNat n:K)=kI (n:Int)
 |0=>rfl
 |n+1=>by
  show(CR.ofNat n:K)+1=_;rw[aEh n];refine bo.ext (bo.ext ?_ ?_) (bo.ext ?_ ?_)
  ·show((n:Int):Rat)+1=(((n+1:Nat):Int):Rat)
   push_cast;rfl
  ·show(0:Rat)+0=0;exact Rat.add_zero 0
  ·show(0:Rat)+0=0;exact Rat.add_zero 0
  ·show(0:Rat)+0=0;exact Rat.add_zero 0
theorem aQA(z:Int):kI z=(Fr.mk z 0 0 0 1).val:=by have h:=SL z;have:=nX (kI z);rw[show bI (kI z)=⟨z,0,0,0,1⟩from h]at this;exact this.symm
theorem aQB{n:Nat}(hn:n≠0):yI 1 (n:Int)*kI (n:Int)=1:=by
 rw[aQA];unfold yI;rw[<-Ji (by simpa using hn) s_];have e:dI ⟨1,0,0,0,(n:Int)⟩ ⟨(n:Int),0,0,0,1⟩=⟨(n:Int),0,0,0,(n:Int)⟩:=by unfold dI;simp
 rw[e];unfold Fr.val;dsimp only;have h1:Rat.divInt (n:Int) (n:Int)=1:=by rw[Ao,Ek];exact GD _ (by simpa using hn)
 rw[h1,Rat.zero_divInt];rfl
theorem aQC{n:Nat}(hn:n≠0):yI 1 (n:Int)=(CR.ofNat n:K)⁻¹:=by
 have h:=aQB hn;rw[<-aEh]at h;have aY:(CR.ofNat n:K)≠0:=OF.ne_of_gt (TK o_);have h2:=OF.pA _ aY
 calc yI 1 (n:Int)=yI 1 (n:Int)*(CR.ofNat n*(CR.ofNat n:K)⁻¹):=by rw[h2,CR.mul_one]
  _=(CR.ofNat n:K)⁻¹:=by rw[<-CR.mul_assoc,h,CR.one_mul]
theorem aEi{l:e_}(h:l≠[]):AY l=CB l:=by have hl:l.length≠0:=λe=>h (j9 e);unfold AY CB;rw[aQC hl];rfl
theorem aEj{vs:e_}:rO ps vs=true↔vs≠[]/\JP ps (CB vs):=by
 unfold rO;rw[cY,zy,zy,X5,Ig];have hl:¬vs.length=0↔vs≠[]:=⟨λh e=>h (by rw[e];rfl),λh e=>h (j9 e)⟩;rw[hl];constructor
 ·rintro⟨h1,h2⟩
  refine⟨h1,λp hp=>?_⟩;have:=h2 p hp;rw[qC,Pc,aEi h1,OF.sub_nonneg]at this;exact OF.not_le.1 this
 ·rintro⟨h1,h2⟩
  refine⟨h1,λp hp=>?_⟩;rw[qC,Pc,aEi h1,OF.sub_nonneg];exact OF.not_le.2 (h2 p hp)

end
section
open CR OF V3
section
variable{F:Type}[OF F]
theorem aQD(a b c:V3 F)(x y z:F):dot a (smul (aw b c) x+smul (aw c a) y+smul (aw a b) z)=x*cV a b c:=
 ring [a,b,c] [x,y,z] (λV S=>dot (V 0) (smul (aw (V 1) (V 2)) (S 0)+smul (aw (V 2) (V 0)) (S 1)+smul (aw (V 0) (V 1)) (S 2))) (λV S=>S 0*cV (V 0) (V 1) (V 2)) d_
theorem aQE(a b c:V3 F)(x y z:F):dot b (smul (aw b c) x+smul (aw c a) y+smul (aw a b) z)=y*cV a b c:=
 ring [a,b,c] [x,y,z] (λV S=>dot (V 1) (smul (aw (V 1) (V 2)) (S 0)+smul (aw (V 2) (V 0)) (S 1)+smul (aw (V 0) (V 1)) (S 2))) (λV S=>S 1*cV (V 0) (V 1) (V 2)) d_
theorem aQF(a b c:V3 F)(x y z:F):dot c (smul (aw b c) x+smul (aw c a) y+smul (aw a b) z)=z*cV a b c:=
 ring [a,b,c] [x,y,z] (λV S=>dot (V 2) (smul (aw (V 1) (V 2)) (S 0)+smul (aw (V 2) (V 0)) (S 1)+smul (aw (V 0) (V 1)) (S 2))) (λV S=>S 2*cV (V 0) (V 1) (V 2)) d_
theorem aEk(u w:V3 F):cV u u w=0:=ring [u,w] [] (λV _=>cV (V 0) (V 0) (V 1)) (λ_ _=>0) d_
theorem aEl(u w:V3 F):cV u w w=0:=ring [u,w] [] (λV _=>cV (V 0) (V 1) (V 1)) (λ_ _=>0) d_
theorem aEm(u w:V3 F):cV u w u=0:=ring [u,w] [] (λV _=>cV (V 0) (V 1) (V 0)) (λ_ _=>0) d_
end
end
section
open CR OF
open V3 (dot aw cV smul)
theorem aEn{x:K}:¬OF.aA x<=0↔0<x:=by rw[OF.iC];rcases OF.iB x with h|h|h<;>rw[h]<;>decide
theorem aEo{x:K}:OF.aA x<=0↔x<=0:=by rw[OF.Sa];rcases OF.iB x with h|h|h<;>rw[h]<;>decide
theorem aEp{d:V3 K}:xq ps d=false↔∃ r∈ps,0<dot r.n d:=by
 unfold xq;rw[HJ];constructor
 ·rintro⟨r,hr,h⟩
  exact⟨r,hr,aEn.1 (by simpa using h)⟩
 ·rintro⟨r,hr,h⟩
  exact⟨r,hr,by simpa using aEn.2 h⟩
theorem VR{ps:c_}{f:Bool}{i:Nat}:∀ n,ow ps f i n=true↔f=true/\∀ j,j<n->mA ps i j=0\/Bd ps (mA ps i j)=true
 |0=>⟨λh=>⟨h,λj hj=>by omega⟩,λh=>h.1⟩
 |n+1=>by
  unfold ow;by_cases h:mA ps i n=0
  ·rw[aq h,VR n];refine⟨λ⟨h1,h2⟩=>⟨h1,λj hj=>?_⟩,λ⟨h1,h2⟩=>⟨h1,λj hj=>h2 j o_⟩⟩;rcases eQ j n with hl|hl
   ·exact h2 j hl
   ·have:j=n:=by omega
    subst this;exact .inl h
  ·rw[al h,cY,VR n];refine⟨λ⟨⟨h1,h2⟩,h3⟩=>⟨h1,λj hj=>?_⟩,λ⟨h1,h2⟩=>⟨⟨h1,λj hj=>h2 j o_⟩,(h2 n o_).resolve_left h⟩⟩;rcases eQ j n with hl|hl
   ·exact h2 j hl
   ·have:j=n:=by omega
    subst this;exact .inr h3
theorem VT{ps:c_}:∀ n,lK ps n=true↔∀ i j,i<n->j<i->mA ps i j=0\/Bd ps (mA ps i j)=true
 |0=>⟨λ_ i j hi=>by omega,λ_=>rfl⟩
 |n+1=>by
  unfold lK;rw[VR,VT n];refine⟨λ⟨h1,h2⟩ i j hi hj=>?_,λh=>⟨λi j hi hj=>h i j o_ hj,λj hj=>h n j o_ hj⟩⟩;rcases eQ i n with hl|hl
  ·exact h1 i j hl hj
  ·have:i=n:=by omega
   subst this;exact h2 j hj
theorem VU:Dc ps=true↔Cl ps:=by
 unfold Dc Db;rw[cY,aX];have sw:∀ p q:HS K,aw q.n p.n=-aw p.n q.n:=λp q=>V3.GV _ _;have bad:∀{i j:Nat},y9 ps i j=false↔(mA ps i j≠0->(∃ r∈ps,0<dot r.n (mA ps i j))/\∃ r∈ps,0<dot r.n (-mA ps i j)):=by
  intro i j;unfold y9;rw[Bool.and_eq_false_iff,Lr,aEp,aEp,X5];constructor
  ·rintro(h|h) h0
   ·exact absurd h0 h
   ·exact h
  ·intro h;by_cases h0:mA ps i j≠0
   ·exact .inr (h h0)
   ·exact .inl h0
 have HK:∀{p q:HS K} {i j:Nat},ps[i]?=some p->ps[j]?=some q->mA ps i j=aw p.n q.n:=λhp hq=>by unfold mA;rw[HD hp,HD hq]
 constructor
 ·rintro⟨h1,h2⟩
  have hb:∀ i j,i<ps.length->j<i->y9 ps i j=false:=λi j hi hj=>by have:=h1 i (kf.2 hi);rw[aX]at this;simpa using this j (kf.2 hj)
  have o5:¬lK ps ps.length=true:=by simpa using h2
  rw[VT]at o5;refine⟨?_,λp hp q hq aY=>?_⟩
  ·apply jM;intro fP;refine o5 λi j hi hj=>.inl ?_;rw[HK (bd hi) (bd (lA hj hi))];exact jM λh=>fP ⟨_,eh _,_,eh _,h⟩
  ·obtain⟨i,hi,rfl⟩:=lI hp;obtain⟨j,hj,rfl⟩:=lI hq;rcases rW i j with h|h|h
   ·have:=bad.1 (hb j i hj h);rw[HK (bd hj) (bd hi)]at this;rw[sw ps[j] ps[i]];exact(this λe=>aY (by rw[sw,e];exact V3.neg_eq_zero.2 rfl)).2
   ·subst h;exact absurd (V3.JI _) aY
   ·have:=bad.1 (hb i j hi h);rw[HK (bd hi) (bd hj)]at this;exact(this aY).1
 ·rintro⟨⟨p,hp,q,hq,aY⟩,aU⟩
  refine⟨λi hi=>?_,?_⟩
  ·have hi:=kf.1 hi;rw[aX];intro j hj;have hj:=kf.1 hj;have hp:=bd hi;have hq:=bd (lA hj hi);have:y9 ps i j=false:=bad.2 λh0=>by rw[HK hp hq]at h0 ⊢;refine⟨aU _ (cL hp) _ (cL hq) h0,?_⟩;rw[<-sw];exact aU _ (cL hq) _ (cL hp) λe=>h0 (by rw[sw,e];exact V3.neg_eq_zero.2 rfl)
   rw[this];rfl
  ·obtain⟨i,hi,rfl⟩:=lI hp;obtain⟨j,hj,rfl⟩:=lI hq;have key:∀ i j (hi:i<ps.length) (hj:j<ps.length),j<i->aw ps[i].n ps[j].n≠0->(!lK ps ps.length)=true:=by
    intro i j hi hj oD aY;have:lK ps ps.length≠true:=λhf=>by
     rcases(VT _).1 hf i j hi oD with h|h
     ·rw[HK (bd hi) (bd hj)]at h;exact aY h
     ·rw[HK (bd hi) (bd hj)]at h;obtain⟨r,hr,oL⟩:=aU _ (eh hi) _ (eh hj) aY;unfold Bd at h;rw[aX]at h;have:=lC (h r hr);rw[this]at oL;exact OF.lt_irrefl _ oL
    simpa using this
   rcases rW i j with h|h|h
   ·exact key j i hj hi h λe=>aY (by rw[sw,e];exact V3.neg_eq_zero.2 rfl)
   ·subst h;exact absurd (V3.JI _) aY
   ·exact key i j hi hj h aY
theorem VV(v:V3 K):∀ l:e_,aTs l v=lH v l
 |[]=>rfl
 |a::l=>by
  unfold aTs lH;rw[VV v l];have:(0<dQ a v)↔dQ a v=1:=by rcases GY a v with h|h|h<;>rw[h]<;>decide
  by_cases h0:dQ a v=0
  ·rw[aq h0,aq h0]
  ·rw[al h0,al h0];by_cases h1:dQ a v=1
   ·rw[aq h1,aq (this.2 h1)]
   ·rw[al h1,al (λh=>h1 (this.1 h))]
theorem aEq{q r:HS K}(h:cV p.n q.n r.n≠0):fE p (kv p q r)/\fE q (kv p q r)/\fE r (kv p q r):=by unfold fE kv Hs;rw[V3.kJ,V3.kJ,V3.kJ,aN4,CR.one_mul];have e1:=aQD p.n q.n r.n p.d q.d r.d;have e2:=aQE p.n q.n r.n p.d q.d r.d;have e3:=aQF p.n q.n r.n p.d q.d r.d;rw[e1,e2,e3,CR.mul_assoc,CR.mul_assoc,CR.mul_assoc,OF.pA _ h,CR.mul_one,CR.mul_one,CR.mul_one];exact⟨rfl,rfl,rfl⟩
theorem aQG{q r:HS K}(h:cV p.n q.n r.n≠0){x:V3 K}(hp:fE p x)(hq:fE q x)(hr:fE r x):x=kv p q r:=by
 obtain⟨h1,h2,h3⟩:=aEq h;refine V3.sub_eq_zero.1 (V3.GW h ?_ ?_ ?_)
 ·rw[V3.mP,show dot p.n x=p.d from hp,show dot p.n (kv p q r)=p.d from h1,OF.sub_self]
 ·rw[V3.mP,show dot q.n x=q.d from hq,show dot q.n (kv p q r)=q.d from h2,OF.sub_self]
 ·rw[V3.mP,show dot r.n x=r.d from hr,show dot r.n (kv p q r)=r.d from h3,OF.sub_self]
def De(ps:c_)(i j k:Nat):Prop:=cV (dU ps i).n (dU ps j).n (dU ps k).n≠0/\zf ps i j k (kv (dU ps i) (dU ps j) (dU ps k))=true
theorem aQH{x:V3 K}:x∈s8 ps acc i j k↔x∈acc\/(De ps i j k/\x=kv (dU ps i) (dU ps j) (dU ps k)):=by
 unfold s8 De;by_cases h:cV (dU ps i).n (dU ps j).n (dU ps k).n=0
 ·rw[aq h];exact⟨.inl,λe=>e.elim id λe=>absurd h e.1.1⟩
 ·rw[al h];by_cases h2:zf ps i j k (kv (dU ps i) (dU ps j) (dU ps k))=true
  ·rw[aq h2,VV,NS];exact⟨λe=>e.elim (λe=>.inr ⟨⟨h,h2⟩,e⟩) .inl,λe=>e.elim .inr λe=>.inl e.2⟩
  ·rw[al h2];exact⟨.inl,λe=>e.elim id λe=>absurd e.1.2 h2⟩
theorem aQI(h:acc.Pairwise jr):(s8 ps acc i j k).Pairwise jr:=by
 unfold s8;split
 ·exact h
 ·split
  ·rw[VV];exact TM h
  ·exact h
theorem aEr{ps:c_}{acc:e_}{i j:Nat}{x:V3 K}:∀ n,x∈ox ps acc i j n↔x∈acc\/∃ k,k<n/\De ps i j k/\x=kv (dU ps i) (dU ps j) (dU ps k)
 |0=>⟨.inl,λe=>e.elim id λ⟨k,h,_⟩=>by omega⟩
 |n+1=>by
  unfold ox;rw[aQH,aEr n];constructor
  ·rintro((h|⟨k,h1,h2⟩)|h)
   ·exact .inl h
   ·exact .inr ⟨k,by omega,h2⟩
   ·exact .inr ⟨n,by omega,h⟩
  ·rintro(h|⟨k,h1,h2⟩)
   ·exact .inl (.inl h)
   ·rcases eQ k n with hl|hl
    ·exact .inl (.inr ⟨k,hl,h2⟩)
    ·have:k=n:=by omega
     subst this;exact .inr h2
theorem aEs{ps:c_}{acc:e_}{i:Nat}{x:V3 K}:∀ n,x∈mY ps acc i n↔x∈acc\/∃ j k,j<n/\k<j/\De ps i j k/\x=kv (dU ps i) (dU ps j) (dU ps k)
 |0=>⟨.inl,λe=>e.elim id λ⟨k,_,h,_⟩=>by omega⟩
 |n+1=>by
  unfold mY;rw[aEr,aEs n];constructor
  ·rintro((h|⟨j,k,h1,h2⟩)|⟨k,h⟩)
   ·exact .inl h
   ·exact .inr ⟨j,k,by omega,h2⟩
   ·exact .inr ⟨n,k,by omega,h⟩
  ·rintro(h|⟨j,k,h1,h2⟩)
   ·exact .inl (.inl h)
   ·rcases eQ j n with hl|hl
    ·exact .inl (.inr ⟨j,k,hl,h2⟩)
    ·have:j=n:=by omega
     subst this;exact .inr ⟨k,h2⟩
theorem aEt{ps:c_}{x:V3 K}:∀ n,x∈qP ps n↔∃ i j k,i<n/\j<i/\k<j/\De ps i j k/\x=kv (dU ps i) (dU ps j) (dU ps k)
 |0=>⟨λh=>(by cases h),λ⟨i,_,_,h,_⟩=>by omega⟩
 |n+1=>by
  unfold qP;rw[aEs,aEt n];constructor
  ·rintro(⟨i,j,k,h1,h2⟩|⟨j,k,h⟩)
   ·exact⟨i,j,k,by omega,h2⟩
   ·exact⟨n,j,k,by omega,h⟩
  ·rintro⟨i,j,k,h1,h2⟩
   rcases eQ i n with hl|hl
   ·exact .inl ⟨i,j,k,hl,h2⟩
   ·have:i=n:=by omega
    subst this;exact .inr ⟨j,k,h2⟩
theorem aEu{ps:c_}{acc:e_}{i j:Nat}(h:acc.Pairwise jr):∀ n,(ox ps acc i j n).Pairwise jr
 |0=>h
 |n+1=>aQI (aEu h n)
theorem aEv{ps:c_}{acc:e_}{i:Nat}(h:acc.Pairwise jr):∀ n,(mY ps acc i n).Pairwise jr
 |0=>h
 |n+1=>aEu (aEv h n) _
theorem aEw{ps:c_}:∀ n,(qP ps n).Pairwise jr
 |0=>aAX
 |n+1=>aEv (aEw n) _
theorem aQJ(hi:i<ps.length)(hj:j<ps.length)(hk:k<ps.length)(h:De ps i j k):pI ps (kv (dU ps i) (dU ps j) (dU ps k)):=by
 obtain⟨hd,hb⟩:=h;obtain⟨t1,t2,t3⟩:=aEq hd;have gU:=bd hi;have gA:=bd hj;have gM:=bd hk;have mi:dU ps i∈ps:=by rw[oY gU];exact eh hi
 have mj:dU ps j∈ps:=by rw[oY gA];exact eh hj
 have mk:dU ps k∈ps:=by rw[oY gM];exact eh hk
 refine⟨λp hp=>?_,_,mi,_,mj,_,mk,hd,t1,t2,t3⟩;obtain⟨l,hl,rfl⟩:=lI hp;unfold zf at hb;rw[aX]at hb;have:=hb l (kf.2 hl);unfold HE at this;rw[oY (bd hl)]at this;simp only[qV,tz]at this;rcases this with rfl|rfl|rfl|h
 ·rw[oY gU]at t1 ⊢;exact OF.le_of_eq t1
 ·rw[oY gA]at t2 ⊢;exact OF.le_of_eq t2
 ·rw[oY gM]at t3 ⊢;exact OF.le_of_eq t3
 ·have:=aEo.1 h;rw[<-OF.sub_nonneg];rw[<-OF.neg_nonneg,OF.neg_sub]at this;exact this
theorem HL{q r:HS K}{x:V3 K}(hp:ps[i]?=some p)(hq:ps[j]?=some q)(hr:ps[k]?=some r)(hd:cV p.n q.n r.n≠0)(hx:mQ ps x)(t1:fE p x)(t2:fE q x)(t3:fE r x):
  De ps i j k/\x=kv (dU ps i) (dU ps j) (dU ps k):=by
 unfold De;rw[oY hp,oY hq,oY hr];have e:=aQG hd t1 t2 t3;refine⟨⟨hd,?_⟩,e⟩;rw[<-e];unfold zf;rw[aX];intro l hl;have hl:=kf.1 hl;rw[oY (bd hl)];unfold HE;simp only[qV,tz];refine .inr (.inr (.inr (aEo.2 ?_)));have:=hx _ (eh hl);rw[<-OF.neg_nonneg,OF.neg_sub];exact OF.sub_nonneg.2 this
theorem Pw{x:V3 K}:x∈ig ps↔pI ps x:=by
 unfold ig;rw[aEt];constructor
 ·rintro⟨i,j,k,h1,h2,h3,h4,rfl⟩
  exact aQJ h1 o_ o_ h4
 ·rintro⟨cB,p,hp,q,hq,r,hr,hd,t1,t2,t3⟩
  obtain⟨a,ha,rfl⟩:=lI hp;obtain⟨b,hb,rfl⟩:=lI hq;obtain⟨c,hc,rfl⟩:=lI hr;have il:=bd ha;have nq:=bd hb;have lR:=bd hc;have same:∀ u w:V3 K,cV u u w=0:=aEk;have VW:∀ u w:V3 K,cV u w w=0:=aEl;have VX:∀ u w:V3 K,cV u w u=0:=aEm;have ab:a≠b:=λe=>by subst e;exact hd (same _ _)
  have bc:b≠c:=λe=>by subst e;exact hd (VW _ _)
  have ac:a≠c:=λe=>by subst e;exact hd (VX _ _)
  have s1:∀{u v w:V3 K},cV u v w≠0->cV u w v≠0:=λ{u v w} h e=>h (by rw[V3.aAi,e,CR.neg_zero]);have r1:∀{u v w:V3 K},cV u v w≠0->cV v w u≠0:=λ{u v w} h e=>h (by rw[V3.NA];exact e);rcases rW a b with h1|h1|h1
  ·rcases rW b c with h2|h2|h2
   ·exact⟨c,b,a,hc,h2,h1,HL lR nq il (r1 (s1 (r1 (r1 (r1 hd))))) cB t3 t2 t1⟩
   ·exact absurd h2 bc
   ·rcases rW a c with h3|h3|h3
    ·exact⟨b,c,a,hb,h2,h3,HL nq lR il (r1 hd) cB t2 t3 t1⟩
    ·exact absurd h3 ac
    ·exact⟨b,a,c,hb,h1,h3,HL nq il lR (s1 (r1 hd)) cB t2 t1 t3⟩
  ·exact absurd h1 ab
  ·rcases rW a c with h2|h2|h2
   ·exact⟨c,a,b,hc,h2,h1,HL lR il nq (r1 (r1 hd)) cB t3 t1 t2⟩
   ·exact absurd h2 ac
   ·rcases rW b c with h3|h3|h3
    ·exact⟨a,c,b,ha,h2,h3,HL il lR nq (s1 hd) cB t1 t3 t2⟩
    ·exact absurd h3 bc
    ·exact⟨a,b,c,ha,h1,h3,HL il nq lR hd cB t1 t2 t3⟩
theorem aQK(ps:c_):(ig ps).Pairwise jr:=aEw _
theorem HM(hc:Cl ps)(hp:l9 ps)(hf:qB ps):cD ps=ig ps:=by unfold cD;refine TN (TP _) (aQK ps) λx=>?_;rw[TO,Pw,aPt hc hp (aJ7 hc hp hf)]
theorem aEx(hc:Cl ps)(hp:l9 ps)(hf:qB ps){x:V3 K}:x∈cD ps↔pI ps x:=by rw[HM hc hp hf,Pw]
theorem aEy{vs:e_}:zj vs=false↔TL vs:=by
 unfold zj;rw[HJ];constructor
 ·rintro⟨i,hi,h⟩
  have hi:=kf.1 hi;unfold Dd at h;rw[N2,HJ]at h;obtain⟨k,hk,h⟩:=h;have hk:=kf.1 hk;unfold Fi at h;rw[N2,HJ]at h;obtain⟨j,hj,h⟩:=h;have hj:=kf.1 hj;unfold KS at h;cases vs with
  |nil=>simp at hi
  |cons o rest=>
   simp only[pU,Mk]at hi;have get:∀{n:Nat} (hn:n<rest.length),aR (o::rest) (n+1)=rest[n]:=λhn=>by unfold aR;simp[bd hn]
   rw[get hi,get o_,get o_,show aR (o::rest) 0=o from rfl]at h;refine⟨o,rest,rfl,rest[j],eh _,rest[i],eh _,rest[k],eh _,λe=>?_⟩;refine h (aD ((OF.eZ _).2 ?_));rw[V3.AH];exact e
 ·rintro⟨o,rest,rfl,a,ha,b,hb,c,hc,hd⟩
  obtain⟨a,la,rfl⟩:=lI ha;obtain⟨b,lb,rfl⟩:=lI hb;obtain⟨c,lc,rfl⟩:=lI hc;have get:∀{n:Nat} (hn:n<rest.length),aR (o::rest) (n+1)=rest[n]:=λhn=>by unfold aR;simp[bd hn]
  have fin:∀(i k j:Nat) (hi:i<rest.length) (hk:k<rest.length) (hj:j<rest.length),k<i->j<k->cV (rest[j]-o) (rest[i]-o) (rest[k]-o)≠0->∃ x∈List.range ((o::rest).length-1),¬Dd (o::rest) x=true:=by intro i k j hi hk hj hki bL hd;refine⟨i,kf.2 (by simpa using hi),?_⟩;unfold Dd;rw[N2,HJ];refine⟨k,kf.2 hki,?_⟩;unfold Fi;rw[N2,HJ];refine⟨j,kf.2 bL,?_⟩;unfold KS;rw[get hi,get hk,get hj,show aR (o::rest) 0=o from rfl,tz,OF.eZ,V3.AH];exact hd
  have same:∀ u w:V3 K,cV u u w=0:=aEk;have VW:∀ u w:V3 K,cV u w w=0:=aEl;have VX:∀ u w:V3 K,cV u w u=0:=aEm;have ab:a≠b:=λe=>by subst e;exact hd (same _ _)
  have bc:b≠c:=λe=>by subst e;exact hd (VW _ _)
  have ac:a≠c:=λe=>by subst e;exact hd (VX _ _)
  have s1:∀{u v w:V3 K},cV u v w≠0->cV u w v≠0:=λ{u v w} h e=>h (by rw[V3.aAi,e,CR.neg_zero]);have r1:∀{u v w:V3 K},cV u v w≠0->cV v w u≠0:=λ{u v w} h e=>h (by rw[V3.NA];exact e);rcases rW a b with h1|h1|h1
  ·rcases rW b c with h2|h2|h2
   ·exact fin c b a lc lb la h2 h1 (s1 hd)
   ·exact absurd h2 bc
   ·rcases rW a c with h3|h3|h3
    ·exact fin b c a lb lc la h2 h3 hd
    ·exact absurd h3 ac
    ·exact fin b a c lb la lc h1 h3 (r1 (s1 hd))
  ·exact absurd h1 ab
  ·rcases rW a c with h2|h2|h2
   ·exact fin c a b lc la lb h2 h1 (r1 hd)
   ·exact absurd h2 ac
   ·rcases rW b c with h3|h3|h3
    ·exact fin a c b la lc lb h2 h3 (r1 (r1 (s1 hd)))
    ·exact absurd h3 bc
    ·exact fin a b c la lb lc h1 h3 (r1 (r1 hd))
theorem aEz{ι:Type}{R:ι->ι->Prop}:∀{l:List ι},pJ R l->∀(i:Nat) (x y:ι),l[i]?=some x->l[i+1]?=some y->R x y
 |[],_,i,x,y,h,_=>by simp at h
 |[a],_,i,x,y,_,h=>by simp at h
 |a::b::l,hs,0,x,y,h,k=>by simp at h k;subst h;subst k;exact hs.1
 |a::b::l,hs,i+1,x,y,h,k=>aEz hs.2 i x y (by simpa using h) (by simpa using k)
theorem aEA{g:V3 K}{vs:e_}{on:l_}{c:Nat}:um g vs on a c=true↔c≠a/\oe g (aR vs) on a c:=by
 unfold um KW;rw[cY,aX];have e:∀ b,HH g vs a c b=true↔(b=a\/b=c\/0<turn g (aR vs a) (aR vs c) (aR vs b)):=by
  intro b;unfold HH Ps;simp only[qV,tz];have:(0<OF.aA (cV g (aR vs c-aR vs a) (aR vs b-aR vs a)))↔0<turn g (aR vs a) (aR vs c) (aR vs b):=by rw[OF.iC];show 0<OF.aA (turn g (aR vs a) (aR vs c) (aR vs b))↔_;rcases OF.iB (turn g (aR vs a) (aR vs c) (aR vs b))with h|h|h<;>rw[h]<;>decide
  rw[this]
 constructor
 ·rintro⟨h1,h2⟩
  refine⟨by simpa using h1,λb hb EB yy=>?_⟩;rcases(e b).1 (h2 b hb)with h|h|h
  ·exact absurd h EB
  ·exact absurd h yy
  ·exact h
 ·rintro⟨h1,h2⟩
  refine⟨by simpa using h1,λb hb=>(e b).2 ?_⟩;by_cases EB:b=a
  ·exact .inl EB
  ·by_cases yy:b=c
   ·exact .inr (.inl yy)
   ·exact .inr (.inr (h2 b hb EB yy))
theorem HN{vs:e_}:i∈cF p vs vs.length↔i<vs.length/\fE p (aR vs i):=by unfold cF fE;rw[List.mem_filter,kf,tz,OF.sub_eq_zero]
theorem aEB(p:HS K)(vs:e_):(cF p vs vs.length).Pairwise (·<·):=by unfold cF;exact List.Pairwise.filter _ List.pairwise_lt_range
theorem aQL{vs:e_}(h:i<vs.length):aR vs i∈vs:=cL (k8 h)
structure xz(ps:c_)(vs:e_):Prop where
 sorted:vs.Pairwise jr
 mem:∀ v,v∈vs↔pI ps v
theorem xz.lt{vs:e_}(h:xz ps vs)(nJ:i<j)(hj:j<vs.length):jr (aR vs i) (aR vs j):=by have h1:=k8 (vs:=vs) (i:=i) o_;have h2:=k8 hj;rw[bd o_]at h1 h2;injection h1 with h1;injection h2 with h2;rw[<-h1,<-h2];exact O2.1 h.sorted i j o_ hj nJ
theorem xz.inj{vs:e_}(h:xz ps vs)(hi:i<vs.length)(hj:j<vs.length)(e:aR vs i=aR vs j):i=j:=by
 rcases rW i j with hl|hl|hl
 ·have:=h.lt hl hj;rw[e]at this;exact absurd this (CC _)
 ·exact hl
 ·have:=h.lt hl hi;rw[e]at this;exact absurd this (CC _)
section
variable{ps:c_}{vs:e_}{p:HS K}
theorem xz.conv(h:xz ps vs):Conv p.n (aR vs) (cF p vs vs.length):=
 aJZ (ps:=ps) (p:=p) (λi hi=>by obtain⟨h1,h2⟩:=HN.1 hi;exact⟨(h.mem _).1 (aQL h1),h2⟩) λi hi j hj e=>h.inj (HN.1 hi).1 (HN.1 hj).1 e
theorem xz.sort(h:xz ps vs):wP (aR vs) aAE (cF p vs vs.length):=by unfold wP;refine List.Pairwise.imp_of_mem (λ{a b} ha hb av=>?_) (aEB p vs);have:=h.lt av (HN.1 hb).1;exact JQ.1 this
theorem aQM(p:HS K)(vs:e_):(cF p vs vs.length).Nodup:=(aEB p vs).imp λ{a b} h=>Nat.ne_of_lt h
theorem xz.loop(h:xz ps vs)(hp:p.n≠0)(hl:¬(cF p vs vs.length).length<3):
  Pv p.n vs (cF p vs vs.length)=false/\aS8 p.n vs (cF p vs vs.length) (order p.n (aR vs) (cF p vs vs.length))/\(order p.n (aR vs) (cF p vs vs.length)).length=(cF p vs vs.length).length:=by
 have hc:=h.conv (p:=p);have hs:=h.sort (p:=p);have jA:=aQM p vs;have cB:∀ a∈cF p vs vs.length,∀ b∈cF p vs vs.length,aR vs a=aR vs b->a=b:=λa ha b hb e=>h.inj (HN.1 ha).1 (HN.1 hb).1 e;generalize gS:cF p vs vs.length=on at *
 match on,hl,hc,hs,jA,cB with
 |a::b::c::l,_,hc,hs,jA,cB=>
  obtain⟨m,e1,e2,e3,e4⟩:=aJB hp hc hs;have hlen:(a::m).length=(a::b::c::l).length:=((List.perm_ext_iff_of_nodup e2 jA).2 e3).length_eq;refine⟨?_,⟨?_,?_,λi x y hx hy=>?_⟩,?_⟩
  ·show(c::l).all (Bf p.n vs a b)=false;rw[HJ];refine⟨c,aN ..,?_⟩;unfold Bf Ps;rw[tz,OF.eZ];simp only[List.nodup_cons,ch,not_or]at jA;exact hc.aAt hp (aN ..) (bB _ (aN ..)) (bB _ (bB _ (aN ..))) jA.1.1 jA.1.2.1 jA.2.1.1
  ·rw[e1,hlen]
  ·rw[e1];rfl
  ·rw[e1]at hx hy;have Fx:=(eD.1 hy).1;have ku:=aEz e4 i x y (by rw[Ie o_];exact hx) (by rw[Ie Fx];exact hy);have hym:=(e3 y).1 (cL hy);have jX:y≠x:=by intro e;subst e;have Vo:=(eD.1 hx).1;have h1:=(eD.1 hx).2;have h2:=(eD.1 hy).2;have:=(O2.1 e2) i (i+1) Vo Fx o_;exact this (h1.trans h2.symm)
   obtain⟨k,hk,hke⟩:=lI hym;refine⟨k,by rw[bd hk,hke],aEA.2 ⟨jX,ku⟩,λj z hj hz=>?_⟩;cases hf:um p.n vs (a::b::c::l) x z with
   |false=>rfl
   |true=>
    obtain⟨q1,q2⟩:=aEA.1 hf;have:=aAA (pt:=aR vs) (n:=p.n) cB hym (cL hz) jX q1 ku q2;subst this;have Pt:=(eD.1 hz).1;have hje:=(eD.1 hz).2;exact absurd (hje.trans hke.symm) (O2.1 jA j k Pt hk hj)
  ·rw[e1,hlen]
 |[],hl,_,_,_,_=>simp at hl
 |[_],hl,_,_,_,_=>simp at hl
 |[_,_],hl,_,_,_,_=>simp at hl
end
end
section
open V3 (dot aw cV smul)
theorem VY(F:Fact)(S:Nat):∀ v w,(F.iS S).G v w->F.G v w:=λ_ _ h=>h.1
def VZ(ps:c_)(vs:List RV)(fs:f_):aJ:=.s ps.length (bw ps) vs.length (dj vs) (mn fs)
def Px(ps:c_)(vs:List RV)(fs:f_):Bool:=oS ps&&(rO ps (cD ps)&&(decide (vs=(cD ps).map cO)&&decide (fs=jF ps)))
section
variable{ps:c_}{m:Nat}{vs:List RV}{fs:f_}
def Py(ps:c_)(vs:List RV)(fs:f_):aJ:=.s ps.length (bw ps) vs.length (dj vs) (jS fs)
theorem aQN(ps:c_)(vs:List RV)(fs:f_):([Py ps vs fs].all aJ.ok)=true:=by
 have e:(Py ps vs fs).ok=true:=by show((bw ps).all flat&&((dj vs).all flat&&true))=true;rw[dF,iZ iR];rfl
 simp only[fp,gm,e,AV]
theorem HO{vs:List RV}(h:vs.length=0):dj vs=[]:=by rw[j9 h];rfl
theorem aQO(h:vo ps m)(aK:∀ x∈vs,x.Sm)(kx:vs.length<9223372036854775807)(vy:fs.length<9223372036854775807)(ui:∀ f∈fs,f.2.length<9223372036854775807):cJ prog 15 [Py ps vs fs] (.bool (Px ps vs fs)):=by
 unfold Px;have ax:=aQN ps vs fs;unfold Py at *;by_cases hc:oS ps=true
 ·by_cases hi:rO ps (cD ps)=true
  ·have zn:=aDJ h hc hi;rw[hc,hi];have sU:∀ x∈(cD ps).map cO,x.Sm:=λx hx=>by obtain⟨v,hv,rfl⟩:=dq.1 hx;exact(Pd h.sz v hv).sm (Vj (E8 (n:=0) h.bound o_).2.1).2.2
   have heq:=aLj (a:=vs) (b:=(cD ps).map cO) aK sU kx;have hef:=aPN (fs:=fs) (fs':=jF ps) vy ui;unfold aW at zn;have hlen:(cD ps).length=((cD ps).map cO).length:=by rw[gF]
   rw[hlen]at zn;generalize (cD ps).map cO=cU at *;have e0:decide (vs=cU)=true\/decide (vs=cU)=false:=by cases decide (vs=cU)<;>simp
   rcases e0 with e0|e0
   ·rw[e0]at heq ⊢;rw[oH,oH,oH];generalize decide (fs=jF ps)=t at *;refine jP mixed func15 ax 100 (N:=29) k_ (λw=>[
     .step 9 (au Tryz.f15 9) [.func (.func 12) #[] #[],sl 0 ps.length] [(4,none),(5,none),(6,none),(0,some (.view (bw ps)))] (.tuple #[.agg #[sl 4 ps.length,sl 5 cU.length,cx 6],mz 0]) [(6,.fact ((mn (jF ps)).iS w.heap.size)),(5,.row (dj cU) 42 30),(4,.row (bw ps) 66 40)]
      (Hf (B:=ae.at w) (S:=w.heap.size) zn (.w (x:=.view (bw ps)) rfl (dF ps) j4 .nil) (x:=.func 12) k_ k_ rfl (dF ps) (iZ iR _) rfl (λw' hb=>Below.size hb) 4),
     .cR Tryz.f15 19 [sl 1 vs.length,sl 5 cU.length] heq (.w (x:=.view (dj vs)) rfl (iZ iR _) HO (.w (x:=.row (dj cU) 42 30) rfl (iZ iR _) HO .nil)),
     .step 27 (au Tryz.f15 27) [.func (.func 58) #[] #[],cx 2,cx 6,KP] [(2,some (.fact (jS fs))),(6,some (.fact ((mn (jF ps)).iS w.heap.size)))] (.bool t) []
      (od hef (.o (.oi (aPG _ _) (.p rfl .nil))) (x:=.func 58) k_ k_ rfl)]) (λw=>?_) k_
    kernel_rfl
   ·rw[e0]at heq ⊢;refine jP mixed func15 ax 100 (N:=29) k_ (λw=>[
     .step 9 (au Tryz.f15 9) [.func (.func 12) #[] #[],sl 0 ps.length] [(4,none),(5,none),(6,none),(0,some (.view (bw ps)))] (.tuple #[.agg #[sl 4 ps.length,sl 5 cU.length,cx 6],mz 0]) [(6,.fact ((mn (jF ps)).iS w.heap.size)),(5,.row (dj cU) 42 30),(4,.row (bw ps) 66 40)]
      (Hf (B:=ae.at w) (S:=w.heap.size) zn (.w (x:=.view (bw ps)) rfl (dF ps) j4 .nil) (x:=.func 12) k_ k_ rfl (dF ps) (iZ iR _) rfl (λw' hb=>Below.size hb) 4),
     .cR Tryz.f15 19 [sl 1 vs.length,sl 5 cU.length] heq (.w (x:=.view (dj vs)) rfl (iZ iR _) HO (.w (x:=.row (dj cU) 42 30) rfl (iZ iR _) HO .nil))]) (λw=>?_) k_
    kernel_rfl
  ·have hi:rO ps (cD ps)=false:=by simpa using hi
   rw[hc,hi];exact jP mixed func15 ax 100 (N:=29) k_ (λw=>[.cR Tryz.f15 9 [sl 0 ps.length] (aDI h hc hi) (.w (x:=.view (bw ps)) rfl (dF ps) j4 .nil)]) (λw=>k_) k_
 ·have hc:oS ps=false:=by simpa using hc
  rw[hc];exact jP mixed func15 ax 100 (N:=29) k_ (λw=>[.cR Tryz.f15 9 [sl 0 ps.length] (aDH h hc) (.w (x:=.view (bw ps)) rfl (dF ps) j4 .nil)]) (λw=>k_) k_
theorem aQP(h:vo ps m)(aK:∀ x∈vs,x.Sm)(kx:vs.length<9223372036854775807)(vy:fs.length<9223372036854775807)(ui:∀ f∈fs,f.2.length<9223372036854775807):cJ prog 15 [VZ ps vs fs] (.bool (Px ps vs fs)):=
 cJ.aPF (aQO h aK kx vy ui) (ou.full fs).G
end
def aEC(ps:c_):aJ:=VZ ps ((cD ps).map cO) (jF ps)
def Fl(ps:c_):Bool:=oS ps&&rO ps (cD ps)
theorem aED(ps:c_):(jF ps).length<=ps.length:=by unfold jF;rw[gF];exact KH ps _ _
theorem aQQ(nn:V3 K)(vs:e_)(l:l_):(order nn (aR vs) l).length<=2*l.length:=by
 have bE:∀ l:List Nat,(jQ nn vs l).length<=l.length:=λl=>by have:=(KF (nn:=nn) (vs:=vs) (l:=l) l.length (aZ _)).2;unfold bH at this;rw[nB]at this;unfold jQ;rw[E7,List.length_tail];omega
 rw[aDp,jW];have h1:=bE l;have h2:=bE l.reverse;rw[E7]at h2;omega
theorem V0(h:ps.length<=20):∀ f∈jF ps,f.2.length<=1600:=by
 intro f hf;unfold jF at hf;obtain⟨g,hg,rfl⟩:=dq.1 hf;unfold eK at hg;rw[CF]at hg;obtain⟨i,_,hg⟩:=hg;unfold oW at hg;split at hg
 ·rename_i p hp;unfold uj at hg;split at hg
  ·cases hg
  ·split at hg
   ·cases hg
   ·split at hg
    ·simp at hg;subst hg;show(List.map _ _).length<=_;rw[gF];show(order p.n (aR (cD ps)) (cF p (cD ps) (cD ps).length)).length<=1600;have h1:=aQQ p.n (cD ps) (cF p (cD ps) (cD ps).length);have h2:=Hx p (cD ps) (cD ps).length;have h3:=KL ps h;omega
    ·cases hg
 ·cases hg
section
variable{ps:c_}{m:Nat}{p:HS K}
theorem vsm(h:vo ps m):∀ x∈(cD ps).map cO,x.Sm:=λx hx=>by obtain⟨v,hv,rfl⟩:=dq.1 hx;exact(Pd h.sz v hv).sm (Vj (E8 (n:=0) h.bound o_).2.1).2.2
theorem aQR(h:vo ps m)(hs:Fl ps=true):cJ prog 15 [aEC ps] b_:=by have h1:=KL ps h.len;have h2:=aED ps;have h3:=h.len;have:=aQP (vs:=(cD ps).map cO) (fs:=jF ps) h (vsm h) (by rw[gF];omega) o_ λf hf=>eP (V0 h3 f hf) d_;unfold Fl at hs;unfold Px at this;rw[cY]at hs;rw[hs.1,hs.2,aD rfl,aD rfl]at this;exact this
end
structure KZ(p:HS K)(vs:e_):Prop where
 flat:Pv p.n vs (cF p vs vs.length)=false
 seq:aS8 p.n vs (cF p vs vs.length) (order p.n (aR vs) (cF p vs vs.length))
 len:(order p.n (aR vs) (cF p vs vs.length)).length=(cF p vs vs.length).length
def HP(ps:c_)(k:Nat)(p:HS K):Bool:=(ps.take k).any λq=>decide (canon p=canon q)
theorem aQS{q:HS K}(h:ps[k]?=some q)(p:HS K):HP ps (k+1) p=(HP ps k p||decide (canon p=canon q)):=by unfold HP;rw[ua,h,List.any_append];simp
section
variable{Bs:ae}{ps:c_}{vs:e_}
def Pz(n i k:Nat)(b:Bool):aL:=[(8,vI k),(7,.bool b),(6,vI i),(0,sl 0 n)]
def HQ(ps:c_):aC:=[(0,.view (bw ps))]
theorem aQT{q:HS K}{b:Bool}(hk:k<i)(hi:i<ps.length)(hp:ps[i]?=some p)(hq:ps[k]?=some q)(bT:∀ p∈ps,bA m p/\p.n≠0)(hm:100*m+1000<=az)(h63:ps.length<=500)(ht:(b||decide (canon p=canon q))=t):
  ag prog Bs 57 (aE (af f54 2)) (Pz ps.length i k b) (HQ ps) 5 ⟨.normal,Pz ps.length i (k+1) t,HQ ps,5⟩:=by
 have sp:=bT p (cL hp);have sq:=bT q (cL hq);have hs:=aTt sp.1 sq.1 o_ o_ sp.2 sq.2;cases b with
 |true=>
  rw[FD]at ht;subst ht;exact ay [.lt 23 k i true (aD hk),.sum 25 k 1 (k+1) rfl o_]
 |false=>
  rw[vY]at ht;rw[ht]at hs;exact ay [.lt 23 k i true (aD hk),.de f54 30 0 ps.length i 40 hi k_,.ld f54 31 66 0 (i*40) (.view (bw ps)) (dr p) rfl (yF hp) k_,.de f54 34 0 ps.length k 40 o_ k_,.ld f54 35 66 0 (k*40) (.view (bw ps)) (dr q) rfl (yF hq) k_,hs.at 36,.sum 25 k 1 (k+1) rfl o_]
theorem aEE(hi:i<ps.length)(hp:ps[i]?=some p)(bT:∀ p∈ps,bA m p/\p.n≠0)(hm:100*m+1000<=az)(h63:ps.length<=500):
  ag prog Bs 57 (.block 2 (af f54 2)) (Pz ps.length i 0 false) (HQ ps) 5 ⟨.normal,[(7,.bool (sW ps i p))],HQ ps,5⟩:=
 bO (id:=2) (cg (r:=⟨.exit 2,[(7,.bool (HP ps i p))],HQ ps,5⟩) i (λk=>Pz ps.length i k (HP ps k p)) (λ_=>HQ ps) (λi k _=>Iff.rfl) (λk hk=>by
  have hq:=bd (l:=ps) (i:=k) o_;exact aQT hk hi hp hq bT hm h63 (aQS hq p).symm) (by
  generalize HP ps i p=b;exact ay [.lt 23 i i false s_]) n_)
def Df(n i:Nat)(v2:i_):aL:=[(6,vI i),(0,sl 0 n),(1,v2),(4,ptr 1),(5,ptr 3)]
def xA(ps:c_)(v2:i_)(cells:ak)(c:Nat):aC:=
 [(0,.view (bw ps)),(1,.aH [.slice none 0 0,.slice none 0 0,.slice none 0 0] 28),(2,.row (bw ps) 66 40),(3,.aH [sl 2 ps.length,v2,sl 4 c] 28),(4,.row cells 50 2)]
section
variable{b o c:Nat}
theorem aQU{cells:ak}(hi:i<ps.length)(hp:ps[i]?=some p)(bT:∀ p∈ps,bA m p/\p.n≠0)(hm:300*m+1000<=az)(h63:ps.length<=500)(ht:sW ps i p=true):
  ag prog Bs 57 (aE (af f54 0)) (Df ps.length i (.slice (some ⟨b,o,none⟩) vs.length c)) (xA ps (.slice (some ⟨b,o,none⟩) vs.length c) cells cc) 5
   ⟨.normal,Df ps.length (i+1) (.slice (some ⟨b,o,none⟩) vs.length c),xA ps (.slice (some ⟨b,o,none⟩) vs.length c) cells cc,5⟩:=by
 have lo:=aEE (Bs:=Bs) hi hp bT o_ h63;rw[ht]at lo;exact ay [.lt 18 i ps.length true (aD hi),.code 2 _ _ _ _ _ lo,.sum 20 i 1 (i+1) rfl o_]
noncomputable def rcS(hi:i<ps.length)(hp:ps[i]?=some p)(bT:∀ p∈ps,bA m p/\p.n≠0)(hm:300*m+1000<=az)(h63:ps.length<=500)(ht:sW ps i p=false)(more:bK prog Bs 57):bK prog Bs 57:=
 .lt 18 i ps.length true (aD hi)::.code 2 _ _ _ _ _ (ht▸aEE (Bs:=Bs) hi hp bT o_ h63)::.de f54 41 0 ps.length i 40 hi k_::.ld f54 42 66 0 (i*40) (.view (bw ps)) (dr p) rfl (yF hp) k_::more
theorem aQV{cells:ak}(hi:i<ps.length)(hp:ps[i]?=some p)(bT:∀ p∈ps,bA m p/\p.n≠0)(aK:∀ v∈vs,aF m v)(hm:300*m+1000<=az)(h63:ps.length<=500)(kx:vs.length<900000)(ht:sW ps i p=false)
  (gW:∀ w,Bs.G w->cZ w (.slice (some ⟨b,o,none⟩) vs.length c) vs.length (aW vs)) (ho:(cF p vs vs.length).length<3) :
  ag prog Bs 57 (aE (af f54 0)) (Df ps.length i (.slice (some ⟨b,o,none⟩) vs.length c)) (xA ps (.slice (some ⟨b,o,none⟩) vs.length c) cells cc) 5
   ⟨.normal,Df ps.length (i+1) (.slice (some ⟨b,o,none⟩) vs.length c),xA ps (.slice (some ⟨b,o,none⟩) vs.length c) cells cc,5⟩:=by
 have sp:=bT p (cL hp);have hl:=aQy sp.1 sp.2 aK o_ kx ho;exact ay (rcS hi hp bT hm h63 ht [.step 44 (au f54 44) [.func (.func 104) #[] #[],dr p,.slice (some ⟨b,o,none⟩) vs.length c] [] (.slice none 0 0) []
   (od hl (.p rfl (.e rfl gW .nil)) (x:=.func 104) k_ k_ rfl),.gt 47 0 0 false rfl,.sum 20 i 1 (i+1) rfl o_])
theorem aQW{cells:ak}(hi:i<ps.length)(hp:ps[i]?=some p)(bT:∀ p∈ps,bA m p/\p.n≠0)(aK:∀ v∈vs,aF m v)(hm:300*m+1000<=az)(h63:ps.length<=500)(kx:vs.length<900000)(ht:sW ps i p=false)
  (gW:∀ w,Bs.G w->cZ w (.slice (some ⟨b,o,none⟩) vs.length c) vs.length (aW vs)) (ho:¬(cF p vs vs.length).length<3) (hk:KZ p vs) (hc:cells.length=cc*2) (KJ:cc<=500) (Dp:∀ v∈cells,v.oneCell'=true) :
  ag prog Bs 57 (aE (af f54 0)) (Df ps.length i (.slice (some ⟨b,o,none⟩) vs.length c)) (xA ps (.slice (some ⟨b,o,none⟩) vs.length c) cells cc) 5
   ⟨.normal,Df ps.length (i+1) (.slice (some ⟨b,o,none⟩) vs.length c),[(0,.view (bw ps)),(1,.aH [.slice none 0 0,.slice none 0 0,.slice none 0 0] 28),(2,.row (bw ps) 66 40),(3,.aH [sl 2 ps.length,.slice (some ⟨b,o,none⟩) vs.length c,sl 7 (cc+1)] 28),(5,.row (aj (order p.n (aR vs) (cF p vs vs.length))) 3 1),(7,.row (cells++[vI i,sl 5 (aj (order p.n (aR vs) (cF p vs vs.length))).length]) 50 2)],8⟩:=by
 have sp:=bT p (cL hp);have hl:=aTb sp.1 sp.2 aK hm kx ho hk.flat hk.seq;have hlen:=hk.len;rw[mU];generalize order p.n (aR vs) (cF p vs vs.length)=l at *;generalize lP:cells++[vI i,sl 5 l.length]=cells' at *;exact ay (rcS hi hp bT hm h63 ht [.step 44 (au f54 44) [.func (.func 104) #[] #[],dr p,.slice (some ⟨b,o,none⟩) vs.length c] [(5,none)] (sl 5 l.length) [(5,.row (aj l) 3 1)]
   (rI hl (.p rfl (.e rfl gW .nil)) (x:=.func 104) k_ k_ (gQ l) 5),.gt 47 l.length 0 true (aD o_),
  .step 52 (au f54 52) [vI i,sl 5 l.length] [] (.agg #[vI i,sl 5 l.length]) [] (Oe (t:=50) (idx:=[0,1]) k_ (λit z h1 h2=>aDt h1 h2) k_),
  .bsM f54 53 6 1 50 2 [0] (.agg #[vI 0,.slice none 0 0]) [.agg #[vI i,sl 5 l.length]] #[vI i,sl 5 l.length] (.row [vI i,sl 5 l.length] 50 2) rfl (λv hv=>by
   have hv:v∈[vI 0,.slice none 0 0]:=hv;simp at hv;rcases hv with rfl|rfl<;>rfl) d_ k_ rfl d_ d_ k_,.pr f54 54 7 4 cc 1 (cc+1) 50 2 32 cells 6 (.row [vI i,sl 5 l.length] 50 2) cells' rfl rfl rfl hc lP (λv hv=>by
   simp[Obj.cells]at hv;rcases hv with rfl|rfl<;>rfl) d_ (by simp[maxLen];omega) o_ k_,.sum 20 i 1 (i+1) rfl o_])
end
end
end
theorem aI.aQX(h:aI (B.jd ks) ι c w):aI B ι c w:=
 ⟨h.base.1,h.dp,h.born,λk x b o cap e hx hl=>⟨(h.own k x b o cap e hx hl).1,λhF=>(h.own k x b o cap e hx hl).2 (.inl hF)⟩,h.inj,h.apart,h.seen,h.fa,h.one,h.qR⟩
def Kept(ks:List (Value×ak))(cs:ak):Prop:=∀ v∈cs,∀ b,hZ v=some b->∃ p∈ks,hZ p.1=some b
theorem Kept.snoc{cs:ak}(h:Kept ks cs)(i:Nat)(u:i_)(xs:ak):Kept ((u,xs)::ks) (cs++[vI i,u]):=λv hv b hb=>by
 rcases fm.1 hv with hv|hv
 ·obtain⟨p,hp,e⟩:=h v hv b hb;exact⟨p,bB _ hp,e⟩
 ·simp at hv;rcases hv with rfl|rfl
  ·cases hb
  ·exact⟨_,aN ..,hb⟩
section
open V3 (dot aw cV smul)
section
variable{ps:c_}{vs:e_}{b o c:Nat}
noncomputable def rC0:Code:=wZ (dx f54)
noncomputable def rC1:Code:=wZ (pP (dx f54))
noncomputable def rC2:Code:=wZ (wZ (pP (pP (dx f54))))
noncomputable def rC3:Code:=wZ (pP (pP (pP (dx f54))))
theorem aQY:(f54).body=some (.seq rC0 (.seq rC1 (.seq (.seq rC2 (.block 0 (.loop (aE (af f54 0))))) (.seq rC3 .ret)))):=k_
theorem aEF{cells:ak}(cA:∀ v∈cells,flat v=true){r:List (Nat×Nat)}(h1:(([.slice none 0 0,.slice none 0 0,.slice none 0 0]:ak).all (yL r))=true)(h3:([sl 2 ps.length,.slice (some ⟨b,o,none⟩) vs.length c,sl 4 cc].all (yL r))=true):∀ p∈xA ps (.slice (some ⟨b,o,none⟩) vs.length c) cells cc,Hc r p.2:=λp hp=>by
 simp only[xA,ch,fF,fG]at hp;rcases hp with rfl|rfl|rfl|rfl|rfl
 ·exact λv hv=>aX.1 (dF ps) v hv
 ·exact h1
 ·exact λv hv=>aX.1 (dF ps) v hv
 ·exact h3
 ·exact cA
def PA(B:ae)(ps:c_)(vs:e_)(v2:i_)(i:Nat)(a:Act)(w:h_):Prop:=
 ∃ ks cells,yY B ((eK ps vs i).map jR) ks cells/\Kept ks cells/\St (B.jd ks) 57 (Df ps.length i v2) (xA ps v2 cells (eK ps vs i).length) 5 a w
theorem aQZ(qk:∀ k,B.mp k=none)(hi:i<ps.length)(bT:∀ p∈ps,bA m p/\p.n≠0)(aK:∀ v∈vs,aF m v)(hm:300*m+1000<=az)(h63:ps.length<=500)(kx:vs.length<900000)
  (gW:∀ w,B.G w->cZ w (.slice (some ⟨b,o,none⟩) vs.length c) vs.length (aW vs)) (ep:∀ p∈ps,¬(cF p vs vs.length).length<3->KZ p vs) {a:Act} {w:h_} (h:PA B ps vs (.slice (some ⟨b,o,none⟩) vs.length c) i a w)
  (K:Act->World->Prop) (Q:Exit->Act->World->Prop) (hK:∀ a' w',PA B ps vs (.slice (some ⟨b,o,none⟩) vs.length c) (i+1) a' w'->K a' w'):(aE (af f54 0)).wpIn (FW none) 0 prog (Exit.then K Q) a w:=by
 obtain⟨ks,cells,hF,PB,hS⟩:=h;have iE:ps[i]?=some ps[i]:=bd hi;have lS:oW ps vs i=uj ps vs i ps[i]:=by unfold oW;rw[iE]
 obtain⟨ga,Dp⟩:=aDu hF hS;have KJ:(eK ps vs i).length<=500:=by have:=KH ps vs i;omega
 have aEG:∀ w,(B.jd ks).G w->cZ w (.slice (some ⟨b,o,none⟩) vs.length c) vs.length (aW vs):=λw h=>gW w h.1;have stay:oW ps vs i=[]->∀ a' w',St (B.jd ks) 57 (Df ps.length (i+1) (.slice (some ⟨b,o,none⟩) vs.length c)) (xA ps (.slice (some ⟨b,o,none⟩) vs.length c) cells (eK ps vs i).length) 5 a' w'->K a' w':=by
  intro he a' w' h';have e:eK ps vs (i+1)=eK ps vs i:=by rw[KG,he,gO]
  exact hK a' w' ⟨ks,cells,by rw[e];exact hF,PB,by rw[e];exact h'⟩
 by_cases vn:sW ps i ps[i]=true
 ·have he:oW ps vs i=[]:=by rw[lS];unfold uj;rw[aq (show(ps.take i).any (λq=>decide (canon ps[i]=canon q))=true from vn)]
  exact pO (aQU hi iE bT hm h63 vn) hS λa' w' h'=>stay he a' w' h'
 ·have Hy:sW ps i ps[i]=false:=by simpa using vn
  by_cases ho:(cF ps[i] vs vs.length).length<3
  ·have he:oW ps vs i=[]:=by rw[lS];unfold uj;rw[al (show ¬(ps.take i).any (λq=>decide (canon ps[i]=canon q))=true from vn),aq ho]
   exact pO (aQV hi iE bT aK hm h63 kx Hy aEG ho) hS λa' w' h'=>stay he a' w' h'
  ·have hlk:=ep _ (eh hi) ho;have he:oW ps vs i=[(i,order ps[i].n (aR vs) (cF ps[i] vs vs.length))]:=by rw[lS];unfold uj;rw[al (show ¬(ps.take i).any (λq=>decide (canon ps[i]=canon q))=true from vn),al ho,aq (by rw[hlk.len];omega)]
   refine pO (aQW hi iE bT aK hm h63 kx Hy aEG ho hlk ga KJ Dp) hS λa' w' h'=>?_;show K a' w';obtain⟨u,hu,wF,h2⟩:=h'.Ot (m:=5) (k:=7) rfl (gQ _) rfl d_;have e:eK ps vs (i+1)=eK ps vs i++[(i,order ps[i].n (aR vs) (cF ps[i] vs vs.length))]:=by rw[KG,he]
   have Bb:=hF.snoc (i:=i) (l:=order ps[i].n (aR vs) (cF ps[i] vs vs.length)) hu wF;refine hK a' w' ⟨_,cells++[vI i,u],by rw[e,vC];exact Bb,PB.snoc i u _,?_⟩;rw[e,jW];have cA:=Bb.flat;generalize cells++[vI i,u]=cells' at *;exact h2.Kc qk [(0,0),(1,1),(2,2),(3,3),(4,7)] k_ rfl (aEF cA k_ k_) k_ k_ k_ k_ k_
theorem aQ0(ps:c_):((bw ps).drop 0).take (ps.length*40)=bw ps:=by rw[lv,jN (by rw[C7];exact aZ _)]
theorem aQ1(bT:∀ p∈ps,bA m p/\p.n≠0)(aK:∀ v∈vs,aF m v)(hm:300*m+1000<=az)(h63:ps.length<=500)(kx:vs.length<900000)(ep:∀ p∈ps,¬(cF p vs vs.length).length<3->KZ p vs):
  aDM prog 54 66 40 ps.length (bw ps) vs.length (aW vs) (mn ((eK ps vs ps.length).map jR)):=by
 intro w v1 b o c sT mJ;have cB:tT w [ee ps,.p (.slice (some ⟨b,o,none⟩) vs.length c)] [v1,.slice (some ⟨b,o,none⟩) vs.length c]:=.cons sT (.cons rfl .nil);have ax:([ee ps,.p (.slice (some ⟨b,o,none⟩) vs.length c)].all aJ.ok)=true:=by simp only[fp,gm,Vm,oH,ja];rfl
 obtain⟨ι,cc,h1,h2,h3,h4,h5,h6,h7⟩:=wL cB (aX.1 ax) 0 _ _ (sj w) n_ (λ_ _=>rfl);have qk:∀ k,(ae.at w).mp k=none:=λ_=>rfl;have gW:∀ w',(ae.at w).G w'->cZ w' (.slice (some ⟨b,o,none⟩) vs.length c) vs.length (aW vs):=λw' hb=>mJ.jd hb;refine aBH (N:=57) (B:=(ae.at w).jd []) func54 aQY k_ h6 (aBA h2) h4 h3 rfl λa bH=>?_;have Cb:=aQ0 ps;have qM:=C7 ps
 have g0:∀ B:ae,ag prog B 57 rC0 (jL 0 (eE 0 [ee ps,.p (.slice (some ⟨b,o,none⟩) vs.length c)])) (iY 0 [ee ps,.p (.slice (some ⟨b,o,none⟩) vs.length c)]) 1
   ⟨.normal,[(4,ptr 1),(0,sl 0 ps.length),(1,.slice (some ⟨b,o,none⟩) vs.length c)],[(0,.view (bw ps)),(1,.aH [.slice none 0 0,.slice none 0 0,.slice none 0 0] 28)],2⟩:=λB=>ay []
 have g1:∀ B:ae,ag prog B 57 rC1 [(4,ptr 1),(0,sl 0 ps.length),(1,.slice (some ⟨b,o,none⟩) vs.length c)] [(0,.view (bw ps)),(1,.aH [.slice none 0 0,.slice none 0 0,.slice none 0 0] 28)] 2
   ⟨.normal,[(4,ptr 1),(5,ptr 4),(0,sl 0 ps.length),(1,.slice (some ⟨b,o,none⟩) vs.length c)],[(0,.view (bw ps)),(1,.aH [.slice none 0 0,.slice none 0 0,.slice none 0 0] 28),(3,.row (bw ps) 66 40),(4,.aH [sl 3 ps.length,.slice (some ⟨b,o,none⟩) vs.length c,.slice none 0 0] 28)],5⟩:=λB=>
  ay [.Kd f54 10 2 66 40 (RP.v ⟨rT,Ht⟩) k_,.Pe f54 12 3 2 0 ps.length ps.length 66 40 480 0 0 [] 0 (.view (bw ps)) (bw ps) (jv _) rfl (by show(((bw ps).drop 0).take (ps.length*40)).length=_;rw[Cb,qM]) rfl (by show[]++((bw ps).drop 0).take (ps.length*40)=_;rw[Cb,jg]) (aDb ps) d_ (by simp[maxLen];omega) o_ k_,.step 14 (au f54 14) [sl 3 ps.length,.slice (some ⟨b,o,none⟩) vs.length c] [] (.agg #[sl 3 ps.length,.slice (some ⟨b,o,none⟩) vs.length c,.slice none 0 0]) [] (Oe (t:=28) (idx:=[0,1]) k_ (λit z h1 h2=>aDF h1 h2) k_)]
 have g2:∀ B:ae,ag prog B 57 rC2 [(4,ptr 1),(5,ptr 4),(0,sl 0 ps.length),(1,.slice (some ⟨b,o,none⟩) vs.length c)]
    [(0,.view (bw ps)),(1,.aH [.slice none 0 0,.slice none 0 0,.slice none 0 0] 28),(3,.row (bw ps) 66 40),(4,.aH [sl 3 ps.length,.slice (some ⟨b,o,none⟩) vs.length c,.slice none 0 0] 28)] 5
   ⟨.normal,[(6,vI 0),(0,sl 0 ps.length),(1,.slice (some ⟨b,o,none⟩) vs.length c),(4,ptr 1),(5,ptr 4)],[(0,.view (bw ps)),(1,.aH [.slice none 0 0,.slice none 0 0,.slice none 0 0] 28),(3,.row (bw ps) 66 40),(4,.aH [sl 3 ps.length,.slice (some ⟨b,o,none⟩) vs.length c,.slice none 0 0] 28)],5⟩:=λB=>ay []
 refine lp (pO (g0 _) bH λa1 w1 s1=>?_);refine lp (pO (g1 _) s1 λa2 w2 s2=>?_);refine lp (lp (pO (g2 _) s2 λa3 w3 s3=>?_));refine Ij ?_;have s4:=St.aDL (k:=4) (pre:=[sl 3 ps.length,.slice (some ⟨b,o,none⟩) vs.length c]) (post:=[]) (tb:=28) s3 rfl 50 2;have i0:PA (ae.at w) ps vs (.slice (some ⟨b,o,none⟩) vs.length c) 0 a3 w3:=⟨[],[],.nil,λv h=>(by cases h),s4.Kc qk [(0,0),(1,1),(2,3),(3,4),(4,5)] k_ rfl (aEF n_ k_ k_) k_ k_ k_ k_ k_⟩;refine aBF ps.length (PA (ae.at w) ps vs (.slice (some ⟨b,o,none⟩) vs.length c)) i0 (λi hi a' w' h' K hK=>aQZ qk hi bT aK hm h63 kx gW ep h' K _ hK) λa' w' h'=>?_;obtain⟨ks,cells,hF,PB,hS⟩:=h';have fM:aC:=xA ps (.slice (some ⟨b,o,none⟩) vs.length c) cells (eK ps vs ps.length).length;refine pO (r:=⟨.exit 0,[(4,ptr 1),(5,ptr 3)],xA ps (.slice (some ⟨b,o,none⟩) vs.length c) cells (eK ps vs ps.length).length,5⟩) (ay [.lt 18 ps.length ps.length false s_]) hS λa4 w4 s4=>?_;show Code.wpIn _ _ _ _ _ _ _;refine lp (pO (r:=⟨.normal,[(4,ptr 1)],[(1,.aH [sl 2 ps.length,.slice (some ⟨b,o,none⟩) vs.length c,sl 4 (eK ps vs ps.length).length] 28),(2,.row (bw ps) 66 40),(4,.row cells 50 2)],5⟩) (ay []) s4 λa5 w5 s5=>?_);refine wpIn_ret ?_;refine(aBI s5 rfl (v:=.agg #[sl 2 ps.length,.slice (some ⟨b,o,none⟩) vs.length c,sl 4 (eK ps vs ps.length).length]) k_ λao bP v' bh Bc hc=>?_).1;obtain⟨us,rfl,JE⟩:=hc.Fu;obtain⟨u1,u2,u3,e3,c1,c2,c3⟩:=H4 JE;have e2:=c2.eW rfl;subst e2;rw[show(eK ps vs ps.length).length=((eK ps vs ps.length).map jR).length by rw[gF]]at c3;have ho:=hF.out bh (Bc 4 _ rfl) c3;have iW:=uJ bh.aQX (Bc 2 _ rfl) c1 (by rw[qM];exact aZ _) (aX.1 (dF ps));rw[<-qM,nB]at iW;refine⟨u1,u3,?_,iW,ho.1,λb' nq=>Nu (ho.2 b' nq),λb' nq Bb=>?_,bh.base.1⟩
 ·congr 2
  rw[<-yw (xs:=us),e3]
 ·obtain⟨o1,kz,q1⟩:=He bh c1 nq;have DM:=bh.own 2 _ b' o1 kz (Bc 2 _ rfl) rfl q1;rcases Bb with Bb|⟨b2,oo,o6,j,u,e,hj,kA,gD⟩
  ·obtain⟨o4,aQ2,q4⟩:=He bh c3 Bb;have:=bh.inj 2 4 _ _ b' o1 kz o4 aQ2 (Bc 2 _ rfl) rfl (Bc 4 _ rfl) rfl q1 q4;cases this
  ·have hf:=hF.cells _ bh.base.2;have hl:=hf.length;have hr:=nQ (len:=((eK ps vs ps.length).map jR).length*2) bh (Bc 4 _ rfl) rfl hF.flat (λe=>by rw[e]) c3;have hr:cZ w5 u3 ((eK ps vs ps.length).map jR).length cells:=by
    have e:((Obj.row cells 50 2).cells.drop 0).take (((eK ps vs ps.length).map jR).length*2)=cells:=by rw[lv];exact jN (uA hl)
    rwa[e]at hr
   obtain⟨q,hq,e'⟩:=PB u (Oh hr hf e hj kA) b' gD;exact DM.2 (.inr ⟨q,hq,e'⟩)
end
section
variable{ps:c_}{m M:Nat}
structure s9(ps:c_)(m M:Nat):Prop where
 len:ps.length<=9
 pl:∀ p∈ps,bA m p/\p.n≠0
 low:120*m+365<=M
 lim:1000*M+10000<=az
theorem s9.sz(h:s9 ps m M):(∀ v∈ig ps,aF M v)/\(ig ps).length<=81*9:=by obtain⟨h1,h2⟩:=VJ h.pl h.low h.len ps.length (aZ _);refine⟨h1,c9 h2 ?_⟩;have:=h.len;omega
theorem s9.uC(h:s9 ps m M):m<=M/\1000*m+10000<=az/\200*m+1000<=az/\100*M+1000<=az/\300*M+1000<=az/\m<=az/\M<=az:=by have h1:=h.low;have h2:=h.lim;have hmM:m<=M:=c9 (c9 (T7 m (by decide:0<120)) (IG _ 365)) h1;have q1:1000*m+10000<=az:=c9 (KM (iX _ hmM) _) h2;have q2:200*m+1000<=az:=c9 (Jm (eR m (by decide:200<=1000)) d_) q1;have q3:100*M+1000<=az:=c9 (Jm (eR M (by decide:100<=1000)) d_) h2;have q4:300*M+1000<=az:=c9 (Jm (eR M (by decide:300<=1000)) d_) h2;have q5:m<=az:=c9 (c9 (T7 m (by decide:0<200)) (IG _ 1000)) q2;have q6:M<=az:=c9 (c9 (T7 M (by decide:0<1000)) (IG _ 10000)) h2;exact⟨hmM,q1,q2,q3,q4,q5,q6⟩
theorem s9.all(h:s9 ps m M):cJ prog 50 [ee ps] b_:=by
 have:=aDW (ps:=ps.map cS) (m:=m) (λx hx=>by obtain⟨p,hp,rfl⟩:=dq.1 hx;exact aCK (h.pl p hp).1) h.uC.2.2.2.2.2.1 (by rw[gF];have:=h.len;omega)
 rw[gF,show(ps.map cS).all mw=true by rw[aX];intro x hx;obtain⟨p,hp,rfl⟩:=dq.1 hx;rw[aCJ];exact aD (h.pl p hp).2]at this
 exact this
noncomputable def V1(h:s9 ps m M)(ht:Dc ps=t)(more:bK prog Bs 29):bK prog Bs 29:=
 .cR f13 7 [sl 0 ps.length] h.all (.w (x:=.view (bw ps)) rfl (dF ps) j4 .nil)::
 .gt 13 ps.length 100 false (aQ (by have:=h.len;omega))::
 .cR f13 17 [sl 0 ps.length] (ht▸aPZ (λp hp=>(h.pl p hp).1) h.uC.2.1 (by have:=h.len;omega)) (.w (x:=.view (bw ps)) rfl (dF ps) j4 .nil)::more
noncomputable def aEH(h:s9 ps m M)(ht:zj (ig ps)=!t)(more:bK prog Bs 29):bK prog Bs 29:=
 .step 21 (au f13 21) [.func (.func 52) #[] #[],sl 0 ps.length] [(2,none),(0,some (.view (bw ps)))] (sl 2 (ig ps).length) [(2,.row (aW (ig ps)) 42 30)]
  (rI (aQi h.pl h.uC.2.2.1 h.low h.uC.2.2.2.1 h.len) (.w (x:=.view (bw ps)) rfl (dF ps) j4 .nil) (x:=.func 52) k_ k_ (eH _) 2)::
 .cR f13 23 [sl 2 (ig ps).length] (by have:=aQn h.sz.1 h.uC.2.2.2.2.1 (by have:=h.sz.2;omega);rw[ht,Bool.not_not]at this;exact this) (.w (x:=.row (aW (ig ps)) 42 30) rfl (eH _) wU .nil)::more
theorem aQ3{rs:List RP}(hs:∀ x∈rs,uh m x)(hm:m<=az)(h63:rs.length<9223372036854775807)(hb:rs.all mw=false):cJ prog 13 [.r rs.length (db rs)] (.tuple #[uk,mz 1]):=by
 have ha:=aDW hs hm h63;rw[hb]at ha;have ax:([aJ.r rs.length (db rs)].all aJ.ok)=true:=by simp only[fp,gm,aJ.ok,iZ iD,ja]
 exact dR func13 ax 29 (λ_=>[.cR f13 7 [sl 0 rs.length] ha (.w (x:=.view (db rs)) rfl (iZ iD rs) (λh=>by rw[j9 h];rfl) .nil)])
theorem aQ4(h:s9 ps m M)(hc:Dc ps=false):cJ prog 13 [ee ps] (.tuple #[uk,mz 13]):=
 dR func13 (Da ps) 29 (λ_=>V1 h hc [])
theorem aQ5(h:s9 ps m M)(hc:Dc ps=true)(hi:zj (ig ps)=true):cJ prog 13 [ee ps] (.tuple #[uk,mz 12]):=
 dR func13 (Da ps) 29 (λ_=>V1 h hc (aEH (t:=false) h hi []))
def PC(ps:c_):f_:=(eK ps (ig ps) ps.length).map jR
theorem aQ6(h:s9 ps m M)(hc:Dc ps=true)(hi:zj (ig ps)=false)(ep:∀ p∈ps,¬(cF p (ig ps) (ig ps).length).length<3->KZ p (ig ps)):
  A1 prog 13 [ee ps] 66 40 ps.length (bw ps) 42 30 (ig ps).length (aW (ig ps)) (mn (PC ps)) [mz 0]:=by
 have aQ7:=aQ1 (ps:=ps) (vs:=ig ps) (m:=M) (λp hp=>⟨(h.pl p hp).1.mono h.uC.1,(h.pl p hp).2⟩) h.sz.1 h.uC.2.2.2.2.1 (by have:=h.len;omega) (by have:=h.sz.2;omega) ep;have yb:0<(ig ps).length:=by
  rcases nr (ig ps).length with h0|h0
  ·rw[j9 h0]at hi;cases hi
  ·exact h0
 refine Ul (k1:=3) (k2:=2) (k3:=4) mixed func13 (Da ps) 100 (N:=29) k_ (λw=>V1 h hc (aEH (t:=true) h hi [
  .step 28 (au f13 28) [.func (.func 54) #[] #[],sl 0 ps.length,sl 2 (ig ps).length] [(3,none),(4,none),(0,some (.view (bw ps))),(2,some (.row (aW (ig ps)) 42 30))]
   (.agg #[sl 3 ps.length,sl 2 (ig ps).length,cx 4]) [(4,.fact ((mn (PC ps)).iS w.heap.size)),(3,.row (bw ps) 66 40)]
   (aPB (B:=ae.at w) (S:=w.heap.size) aQ7 (.w (x:=.view (bw ps)) rfl (dF ps) j4 (.w (x:=.row (aW (ig ps)) 42 30) rfl (eH _) wU .nil)) (x:=.func 54) k_ k_ rfl (dF ps) yb (λw' hb=>Below.size hb) 3)])) (λw=>?_) d_ (dF ps) (C7 ps) (eH _) (sQ _) k_
 kernel_rfl
end
def Fm(rs:List RP)(vs:List RV)(fs:f_):aJ:=.s rs.length (db rs) vs.length (dj vs) (jS fs)
theorem aQ8(rs:List RP)(vs:List RV)(fs:f_):(Fm rs vs fs).ok=true:=by show((db rs).all flat&&((dj vs).all flat&&true))=true;rw[iZ iD,iZ iR];rfl
theorem aEI{rs:List RP}(h:rs.length=0):db rs=[]:=by rw[j9 h];rfl
theorem aQ9{a b:List Int}(h63:a.length<9223372036854775807):cJ prog 39 [.o (dK a),.o (dK b)] (.bool (decide (a=b))):=by
 have ax:([aJ.o (dK a),.o (dK b)].all aJ.ok)=true:=rfl;by_cases hl:a.length=b.length
 ·rcases nr a.length with h0|h0
  ·have ha:=j9 h0;have hb:=j9 (hl▸h0);subst ha;subst hb;exact dR func39 ax 26 (λw=>[.step 7 (au f39 7) [cx 0] [(0,some (.fact (dK [])))] (vI 0) [] (oX k_),.step 9 (au f39 9) [cx 1] [(1,some (.fact (dK [])))] (vI 0) [] (oX k_),.step 13 (au f39 13) [cx 0] [(0,some (.fact (dK [])))] (vI 0) [] (oX k_)])
  ·intro w vs cB;cases cB with
   |cons h1 cB=>
   cases cB with
   |cons h2 cB=>
   cases cB;have r1:cZ w _ a.length (e6 a):=oq.row h1.1 h0;have r2:cZ w _ b.length (e6 b):=oq.row h2.1 o_;exact aOr h63 w _ (.cons r1 (.cons r2 .nil))
 ·have bX:a≠b:=λh=>hl (by rw[h]);rw[aQ bX];exact dR func39 ax 26 (λw=>[.step 7 (au f39 7) [cx 0] [(0,some (.fact (dK a)))] (vI a.length) [] (oX k_),.step 9 (au f39 9) [cx 1] [(1,some (.fact (dK b)))] (vI b.length) [] (oX k_),.rw 10 _ b_ (sS (x:=a.length) (y:=b.length) (by simp[hl]))])
section
variable{Bs:ae}{ra rb:List RP}{va vb:List RV}{fa fb:f_}
def PD(ra:List RP)(va:List RV)(fa:f_)(k:Nat):Obj:=.aH [sl k ra.length,sl (k+1) va.length,cx (k+2)] 28
def aTq(i:Nat):aL:=[(5,vI i),(2,ptr 6),(3,ptr 7)]
def vz(ra rb:List RP)(va vb:List RV)(fa fb:f_):aC:=[(0,.view (db ra)),(3,.view (db rb)),(6,PD ra va fa 0),(7,PD rb vb fb 3)]
noncomputable def smS{x y:RP}(hi:i<ra.length)(gU:i<rb.length)(hx:ra[i]?=some x)(hy:rb[i]?=some y)(sx:x.Sm)(sy:y.Sm)(ht:(!t)=true↔x=y)(more:bK prog Bs 85):bK prog Bs 85:=
 .lt 35 i ra.length true (aD hi)::.de Tryz.f14 41 0 ra.length i 40 hi k_::.ld Tryz.f14 42 66 0 (i*40) (.view (db ra)) x.v rfl (u5 hx) k_::.de Tryz.f14 46 3 rb.length i 40 gU k_::.ld Tryz.f14 47 66 3 (i*40) (.view (db rb)) y.v rfl (u5 hy) k_::
  .step 48 (au Tryz.f14 48) [x.v,y.v] [] (.bool t) [] (SF (neg:=false) k_ x y sx sy ht)::more
theorem aTO{x:RP}(hi:i<ra.length)(gU:i<rb.length)(hx:ra[i]?=some x)(hy:rb[i]?=some x)(sx:x.Sm)(h63:ra.length<9223372036854775807):
  ag prog Bs 85 (aE (af Tryz.f14 0)) (aTq i) (vz ra rb va vb fa fb) 8 ⟨.normal,aTq (i+1),vz ra rb va vb fa fb,8⟩:=
 ay (smS (t:=false) hi gU hx hy sx sx s_ [.sum 37 i 1 (i+1) rfl o_])
theorem aRa{x y:RP}(hi:i<ra.length)(gU:i<rb.length)(hx:ra[i]?=some x)(hy:rb[i]?=some y)(sx:x.Sm)(sy:y.Sm)(aY:x≠y):
  ag prog Bs 85 (aE (af Tryz.f14 0)) (aTq i) (vz ra rb va vb fa fb) 8 ⟨.ret,[(4,.bool false)],vz ra rb va vb fa fb,8⟩:=
 ay (smS (t:=true) hi gU hx hy sx sy (by simp[aY]) [])
theorem aRb:ag prog Bs 85 (aE (af Tryz.f14 0)) (aTq ra.length) (vz ra rb va vb fa fb) 8 ⟨.exit 0,[(2,ptr 6),(3,ptr 7)],vz ra rb va vb fa fb,8⟩:=
 ay [.lt 35 ra.length ra.length false s_]
def xB(i:Nat):aL:=[(6,vI i),(2,ptr 6),(3,ptr 7)]
def oy(ra rb:List RP)(va vb:List RV)(fa fb:f_):aC:=[(2,.fact (jS fa)),(5,.fact (jS fb)),(6,PD ra va fa 0),(7,PD rb vb fb 3)]
theorem aRc:∀ x∈oy ra rb va vb fa fb,fW 8 x.2:=λx hx=>by
 simp only[oy,ch,fF,fG]at hx;rcases hx with rfl|rfl|rfl|rfl
 ·exact λv hv=>(by cases hv)
 ·exact λv hv=>(by cases hv)
 ·intro v hv;have hv:v∈[sl 0 ra.length,sl 1 va.length,cx 2]:=hv;simp at hv;rcases hv with rfl|rfl|rfl<;>rfl
 ·intro v hv;have hv:v∈[sl 3 rb.length,sl 4 vb.length,cx 5]:=hv;simp at hv;rcases hv with rfl|rfl|rfl<;>rfl
def vw(f:Int×List Int)(k:Nat):Obj:=.view [iV f.1,cx (k+1)]
noncomputable def PE(key m k i:Nat){f:Int×List Int}(hi:fs[i]?=some f)(Ha:m<k)(ho:vQ prog (au Tryz.f14 key)=some 2):aO prog Bs 85:=
 .step key (au Tryz.f14 key) [cx m,vI i] [(k,none),(k+1,none),(m,some (.fact (jS fs)))] (ptr k) [(k,vw f k),(k+1,.fact (dK f.2))] (KO ho (.self fs) hi Ha)
noncomputable def V2{f:Int×List Int}(hi:i<fa.length)(h1:fa[i]?=some f)(h2:fb[i]?=some f')(ht:decide (f.1≠f'.1)=t)(more:bK prog Bs 85):bK prog Bs 85:=
 .step 52 (au Tryz.f14 52) [cx 2] [(2,some (.fact (jS fa)))] (vI fa.length) [] (y0 k_ (.self fa))::.lt 53 i fa.length true (aD hi)::PE 59 2 8 i h1 d_ k_::PE 65 5 10 i h2 d_ k_::.rw 68 _ (.bool t) (neZ ht)::more
noncomputable def sfT{f:Int×List Int}(h1:fa[i]?=some f)(h2:fb[i]?=some f')(h63:f.2.length<9223372036854775807)(ht:decide (f.2=f'.2)=t)(more:bK prog Bs 85):bK prog Bs 85:=
 PE 73 2 12 i h1 d_ k_::PE 79 5 14 i h2 d_ k_::
  .cR Tryz.f14 82 [cx 13,cx 15] (ht▸aQ9 h63) (.o (.o .nil))::more
theorem aEJ{f:Int×List Int}(hi:i<fa.length)(q1:fa[i]?=some f)(q2:fb[i]?=some f')(h63:f.2.length<9223372036854775807)(VB:fa.length<9223372036854775807)(ht:f=f'):
  ag prog Bs 85 (aE (af Tryz.f14 2)) (xB i) (oy ra rb va vb fa fb) 8 ⟨.normal,xB (i+1),oy ra rb va vb fa fb,8⟩:=by
 have h1:decide (f.1≠f'.1)=false:=by rw[ht];simp
 have h2:decide (f.2=f'.2)=true:=by rw[ht];simp
 exact vP mixed 100 (gg:=16) (V2 hi q1 q2 h1 (sfT q1 q2 h63 h2 [.sum 55 i 1 (i+1) rfl o_])) k_ rfl k_ aRc k_
theorem aRd:ag prog Bs 85 (aE (af Tryz.f14 2)) (xB fa.length) (oy ra rb va vb fa fb) 8 ⟨.exit 2,[],oy ra rb va vb fa fb,8⟩:=
 ay [.step 52 (au Tryz.f14 52) [cx 2] [(2,some (.fact (jS fa)))] (vI fa.length) [] (y0 k_ (.self fa)),.lt 53 fa.length fa.length false s_]
def PF(ra rb:List RP)(va vb:List RV)(fa fb:f_):Bool:=decide (ra=rb)&&(decide (va=vb)&&decide (fa=fb))
noncomputable def Fo{na:Bool}(h1:decide (ra.length≠rb.length)=na)(more:bK prog Bs 85):bK prog Bs 85:=.rw 13 _ (.bool na) (sS h1)::more
noncomputable def HR{nb:Bool}(h2:decide (fa.length≠fb.length)=nb)(more:bK prog Bs 85):bK prog Bs 85:=
 .step 17 (au Tryz.f14 17) [cx 2] [(2,some (.fact (jS fa)))] (vI fa.length) [] (y0 k_ (.self fa))::.step 20 (au Tryz.f14 20) [cx 5] [(5,some (.fact (jS fb)))] (vI fb.length) [] (y0 k_ (.self fb))::.rw 21 _ (.bool nb) (sS h2)::more
noncomputable def K0(hV:cJ prog 35 [.r va.length (dj va),.r vb.length (dj vb)] (.bool t))(more:bK prog Bs 85):bK prog Bs 85:=
 .cR Tryz.f14 28 [sl 1 va.length,sl 4 vb.length] hV (.w (x:=.view (dj va)) rfl (iZ iR _) HO (.w (x:=.view (dj vb)) rfl (iZ iR _) HO .nil))::more
theorem aRe(ha:∀ x∈ra,x.Sm)(hb:∀ x∈rb,x.Sm)(fQ:∀ x∈va,x.Sm)(kF:∀ x∈vb,x.Sm)(hn:ra.length<9223372036854775807)(kx:va.length<9223372036854775807)(vy:fa.length<9223372036854775807)(ui:∀ f∈fa,f.2.length<9223372036854775807):
  cJ prog 14 [Fm ra va fa,Fm rb vb fb] (.bool (PF ra rb va vb fa fb)):=by
 have ax:([Fm ra va fa,Fm rb vb fb].all aJ.ok)=true:=by simp only[fp,gm,aQ8,AV]
 have hV:=aOo fQ kF kx;unfold PF;unfold Fm at *;by_cases hl:ra.length=rb.length
 ·have n13:decide (ra.length≠rb.length)=false:=by simp[hl]
  by_cases hf:fa.length=fb.length
  ·have n21:decide (fa.length≠fb.length)=false:=by simp[hf]
   by_cases PG:va=vb
   ·rw[aD PG]at hV;rw[aD PG,oH];rcases CJ ra rb hl with hp|⟨e,x,y,q1,q2,q3,q4⟩
    ·rw[aD hp,oH];have lo:∀ B:ae,ag prog B 85 (.block 0 (af Tryz.f14 0)) (aTq 0) (vz ra rb va vb fa fb) 8 ⟨.normal,[(2,ptr 6),(3,ptr 7)],vz ra rb va vb fa fb,8⟩:=λB=>
      bO (id:=0) (cg ra.length (λi=>aTq i) (λ_=>vz ra rb va vb fa fb) (λi k _=>Iff.rfl) (λi hi=>by have hx:ra[i]?=some ra[i]:=bd hi;exact aTO hi o_ hx (by rw[<-hp];exact hx) (ha _ (eh hi)) hn) aRb n_)
     rcases CJ fa fb hf with NJ|⟨e,x,y,q1,q2,q3,q4⟩
     ·rw[aD NJ];have uX:∀ B:ae,ag prog B 85 (.block 2 (af Tryz.f14 2)) (xB 0) (oy ra rb va vb fa fb) 8 ⟨.normal,[],oy ra rb va vb fa fb,8⟩:=λB=>
       bO (id:=2) (cg fa.length (λi=>xB i) (λ_=>oy ra rb va vb fa fb) (λi k _=>Iff.rfl) (λi hi=>by have hx:fa[i]?=some fa[i]:=bd hi;exact aEJ hi hx (by rw[<-NJ];exact hx) (ui _ (eh hi)) vy rfl) aRd n_)
      exact jP mixed func14 ax 200 (N:=85) k_ (λw=>Fo n13 (HR n21 (K0 hV [.code 0 _ _ _ _ _ (lo _),.code 2 _ _ _ _ _ (uX _)]))) (λ_=>k_) k_
     ·have bX:fa≠fb:=λh=>by subst h;rw[q1]at q2;injection q2 with q2;exact q3 q2
      rw[aQ bX];have av:=(eD.1 q1).1;have rounds:∀{B:ae},∀ i,i<e->ag prog B 85 (aE (af Tryz.f14 2)) (xB i) (oy ra rb va vb fa fb) 8 ⟨.normal,xB (i+1),oy ra rb va vb fa fb,8⟩:=λi hi=>by have hx:fa[i]?=some fa[i]:=bd o_;have hy:fb[i]?=some fb[i]:=bd o_;exact aEJ o_ hx hy (ui _ (eh _)) vy (q4 i _ _ hi hx hy)
      by_cases he:x.1=y.1
      ·have h1:decide (x.1≠y.1)=false:=by rw[he];simp
       have h2:decide (x.2=y.2)=false:=aQ λe=>q3 (Prod.ext he e);have uX:∀ B:ae,ag prog B 85 (.block 2 (af Tryz.f14 2)) (xB 0) (oy ra rb va vb fa fb) 8 ⟨.ret,[(4,.bool false)],oy ra rb va vb fa fb,16⟩:=λB=>
        bO (id:=2) (cg (r:=⟨.ret,[(4,.bool false)],oy ra rb va vb fa fb,16⟩) e (λi=>xB i) (λ_=>oy ra rb va vb fa fb) (λi k _=>Iff.rfl) rounds (ay (V2 av q1 q2 h1 (sfT q1 q2 (ui _ (cL q1)) h2 []))) n_)
       exact jP mixed func14 ax 200 (N:=85) k_ (λw=>Fo n13 (HR n21 (K0 hV [.code 0 _ _ _ _ _ (lo _),.code 2 _ _ _ _ _ (uX _)]))) (λ_=>k_) k_
      ·have h1:decide (x.1≠y.1)=true:=aD he;have uX:∀ B:ae,ag prog B 85 (.block 2 (af Tryz.f14 2)) (xB 0) (oy ra rb va vb fa fb) 8 ⟨.ret,[(4,.bool false)],oy ra rb va vb fa fb,12⟩:=λB=>
        bO (id:=2) (cg (r:=⟨.ret,[(4,.bool false)],oy ra rb va vb fa fb,12⟩) e (λi=>xB i) (λ_=>oy ra rb va vb fa fb) (λi k _=>Iff.rfl) rounds (ay (V2 av q1 q2 h1 [])) n_)
       exact jP mixed func14 ax 200 (N:=85) k_ (λw=>Fo n13 (HR n21 (K0 hV [.code 0 _ _ _ _ _ (lo _),.code 2 _ _ _ _ _ (uX _)]))) (λ_=>k_) k_
    ·have bX:ra≠rb:=λh=>by subst h;rw[q1]at q2;injection q2 with q2;exact q3 q2
     rw[aQ bX,BL];have av:=(eD.1 q1).1;have lo:∀ B:ae,ag prog B 85 (.block 0 (af Tryz.f14 0)) (aTq 0) (vz ra rb va vb fa fb) 8 ⟨.ret,[(4,.bool false)],vz ra rb va vb fa fb,8⟩:=λB=>
      bO (id:=0) (cg e (λi=>aTq i) (λ_=>vz ra rb va vb fa fb) (λi k _=>Iff.rfl) (λi hi=>by have hx:ra[i]?=some ra[i]:=bd o_;have hy:rb[i]?=some rb[i]:=bd o_;have:=q4 i _ _ hi hx hy;exact aTO o_ o_ hx (by rw[this];exact hy) (ha _ (eh _)) hn) (aRa av o_ q1 q2 (ha _ (cL q1)) (hb _ (cL q2)) q3) n_)
     exact jP mixed func14 ax 200 (N:=85) k_ (λw=>Fo n13 (HR n21 (K0 hV [.code 0 _ _ _ _ _ (lo _)]))) (λ_=>k_) k_
   ·rw[aQ PG]at hV;rw[aQ PG,BL,L3];exact jP mixed func14 ax 200 (N:=85) k_ (λw=>Fo n13 (HR n21 (K0 hV []))) (λ_=>k_) k_
  ·have n21:decide (fa.length≠fb.length)=true:=by simp[hf]
   have bX:fa≠fb:=λh=>hf (by rw[h]);rw[aQ bX,L3,L3];exact jP mixed func14 ax 200 (N:=85) k_ (λw=>Fo n13 (HR n21 [])) (λ_=>k_) k_
 ·have n13:decide (ra.length≠rb.length)=true:=by simp[hl]
  have bX:ra≠rb:=λh=>hl (by rw[h]);rw[aQ bX,BL];exact jP mixed func14 ax 200 (N:=85) k_ (λw=>Fo n13 []) (λ_=>k_) k_
end
section
variable{ps:c_}{m M:Nat}{rs:List RP}{vs:List RV}{fs:f_}
end
section
variable{ps:c_}{v:V3 K}
end
section
variable{Bs:ae}{rs:List RP}{vs:List RV}{fs:f_}
end
theorem aEK(l:c_)(p:HS K):bw l++(cS p).cs=bw (l++[p]):=by unfold bw;rw[vC];show cr RP.cs _++_=cr RP.cs _;rw[JY];simp[cr]
theorem aRf(p:HS K):(cS p).cs=bw [p]:=by have:=aEK [] p;rwa[show bw ([]:c_)=[]from rfl,jg,jg]at this
section
variable{n1 n2 n3 n4 n5 n6:V3 K}{q:K}
def Bg(n1 n2 n3 n4 n5 n6:V3 K)(q:K):c_:=[⟨n1,q⟩,⟨n2,q⟩,⟨n3,q⟩,⟨n4,q⟩,⟨n5,q⟩,⟨n6,q⟩]
end
end
section
open CR OF
open V3 (dot aw cV smul)
section
variable{ps:c_}{vs:List RV}{fs:f_}{p:HS K}
theorem aRg(hc:Cl ps)(hp:l9 ps)(hf:qB ps):xz ps (cD ps):=⟨by unfold cD;exact TP _,λ_=>aEx hc hp hf⟩
theorem aEL(hp:l9 ps):Fl ps=true↔Cl ps/\qB ps:=by
 unfold Fl;rw[cY,KY,aEj];constructor
 ·rintro⟨h1,_,h3⟩
  exact⟨h1,_,h3⟩
 ·rintro⟨h1,h2⟩
  exact⟨h1,aAS h1 hp (λv=>aEx h1 hp h2) h2⟩
theorem aRh(hc:Cl ps)(hp:l9 ps)(hf:qB ps):∀ p∈ps,¬(cF p (cD ps) (cD ps).length).length<3->KZ p (cD ps):=λp kp hl=>by obtain⟨h1,h2,h3⟩:=(aRg hc hp hf).loop (hp p kp) hl;exact⟨h1,h2,h3⟩
theorem aRi(hp:l9 ps)(h:zj (ig ps)=false):qB ps:=
 aJ8 hp (λv hv=>(Pw.1 hv).1) (aEy.1 h)
theorem aRj(hc:Cl ps)(hp:l9 ps)(hf:qB ps):zj (ig ps)=false:=
 aEy.2 (aJ9 hc hp (λv=>Pw) hf)
theorem aRk(hc:Cl ps)(hp:l9 ps)(hf:qB ps):PC ps=jF ps:=by unfold PC jF;rw[HM hc hp hf]
theorem aEM(hc:Cl ps)(hp:l9 ps):rO ps (cD ps)=true↔qB ps:=by
 constructor
 ·intro h;exact⟨_,(aEj.1 h).2⟩
 ·intro h;have:=(aEL hp).2 ⟨hc,h⟩;unfold Fl at this;rw[cY]at this;exact this.2
end
def lf:c_:=Bg ⟨kI 1,kI 0,kI 0⟩ ⟨kI (-1),kI 0,kI 0⟩ ⟨kI 0,kI 1,kI 0⟩ ⟨kI 0,kI (-1),kI 0⟩ ⟨kI 0,kI 0,kI 1⟩ ⟨kI 0,kI 0,kI (-1)⟩ (kI 1)
def PH:HS K:=⟨⟨kI 1,kI 1,kI 1⟩,kI 2⟩
def Dg(a b c:Int):V3 K:=⟨kI a,kI b,kI c⟩
def V4:e_:=[Dg (-1) (-1) (-1),Dg (-1) (-1) 1,Dg (-1) 1 (-1),Dg (-1) 1 1,Dg 1 (-1) (-1),Dg 1 (-1) 1,Dg 1 1 (-1),Dg 1 1 1]
theorem aRl:oS lf=true:=by kernel_rfl
theorem aRm:ig lf=V4:=by kernel_rfl
theorem V5(h:p∈lf++[PH]):∃ a b c d:Int,p=⟨⟨kI a,kI b,kI c⟩,kI d⟩/\(a.natAbs<=1/\b.natAbs<=1/\c.natAbs<=1)/\(0<d/\d<=2)/\(a≠0\/b≠0\/c≠0):=by
 simp only[lf,Bg,fm,ch,fF,fG]at h;rcases h with (rfl|rfl|rfl|rfl|rfl|rfl)|rfl
 ·exact⟨1,0,0,1,rfl,by decide,by decide,by decide⟩
 ·exact⟨-1,0,0,1,rfl,by decide,by decide,by decide⟩
 ·exact⟨0,1,0,1,rfl,by decide,by decide,by decide⟩
 ·exact⟨0,-1,0,1,rfl,by decide,by decide,by decide⟩
 ·exact⟨0,0,1,1,rfl,by decide,by decide,by decide⟩
 ·exact⟨0,0,-1,1,rfl,by decide,by decide,by decide⟩
 ·exact⟨1,1,1,2,rfl,by decide,by decide,by decide⟩
theorem aRn(h:p∈lf++[PH]):bA 2 p:=by obtain⟨a,b,c,d,rfl,⟨h1,h2,h3⟩,⟨h4,h5⟩,_⟩:=V5 h;exact⟨⟨qs o_ d_,qs o_ d_,qs o_ d_⟩,qs o_ d_⟩
theorem V6{a b:Int}(h:kI a=kI b):a=b:=by
 have h1:((a:Rat))=(b:Rat):=b9 (λx:K=>x.re.re) h
 exact_mod_cast h1
theorem aEN(h:p∈lf++[PH]):p.n≠0:=by
 obtain⟨a,b,c,d,rfl,_,_,h6⟩:=V5 h;intro e;have e1:kI a=kI 0:=b9 V3.x e;have e2:kI b=kI 0:=b9 V3.y e;have e3:kI c=kI 0:=b9 V3.z e;rcases h6 with h|h|h
 ·exact h (V6 e1)
 ·exact h (V6 e2)
 ·exact h (V6 e3)
theorem aRo(h:p∈lf++[PH]):dot p.n 0<p.d:=by
 obtain⟨a,b,c,d,rfl,_,⟨h4,h5⟩,_⟩:=V5 h;rw[V3.Cx];have hd:d=1\/d=2:=by omega
 rcases hd with rfl|rfl
 ·show OF.aA (kI 1-0)=1;kernel_rfl
 ·show OF.aA (kI 2-0)=1;kernel_rfl
theorem aRp:l9 lf:=λ_ h=>aEN (Jq _ h)
theorem aEO:qB lf:=⟨0,λ_ h=>aRo (Jq _ h)⟩
theorem aEP:Cl lf:=KY.1 aRl
theorem aRq{M:Nat}(h:s9 ps m M)(hc:Cl ps)(hp:l9 ps)(hf:qB ps):
  A1 prog 13 [ee ps] 66 40 ps.length (bw ps) 42 30 (cD ps).length (aW (cD ps)) (mn (jF ps)) [mz 0]:=by
 have ep:=aRh hc hp hf;rw[HM hc hp hf]at ep;have:=aQ6 h (VU.2 hc) (aRj hc hp hf) ep;rw[aRk hc hp hf]at this;rw[HM hc hp hf];exact this
theorem aEQ:cD lf=V4:=(HM aEP aRp aEO).trans aRm
section
variable{ps:c_}{p:HS K}
end
theorem aRr{rs:List RP}(h:rs.all mw=true):rs=(rs.map pZ).map cS/\∀ q∈rs.map pZ,q.n≠0:=by
 rw[aX]at h;constructor
 ·rw[List.map_map]
  conv=>lhs;rw[<-List.map_id rs]
  exact vM λr hr=>(aCL (h r hr)).1
 ·intro q hq;obtain⟨r,hr,rfl⟩:=dq.1 hq;exact(aCL (h r hr)).2
section
variable{rs:List RP}{vs:List RV}{fs:f_}
end
end
section
variable{H:Type}{enc:TypeId×Value->H}{P:j_}{w:h_}{base:Nat}{spare:Nat->Bool}{held:Bool}{fuel:Nat}{t:TypeId}{cs:ak}{x:DataW H×List MemPlace}
def PI(P:j_)(t:TypeId)(i:Nat):Option (TypeId×Nat):=match P.underlying t with
 |some (.struct fs)=>(fs[i]?).map λf=>(f.type,f.offset)
 |_=>none
def aER(P:j_)(t:TypeId):Option (Nat×TypeId):=match P.underlying t with
 |some (.array n e)=>some (n,e)
 |_=>none
theorem PJ{u o:Nat}(hf:PI P t i=some (u,o))(h:DataW.trod enc P w base spare held fuel t cs=some x):cs.length=P.cellsOf t:=by
 unfold PI at hf;split at hf
 ·rename_i fs ht;obtain⟨_,_,_,_,hl,_⟩:=DataW.trod_struct ht h;exact hl
 ·cases hf
theorem Bh{u o:Nat}(hf:PI P t i=some (u,o))(h:DataW.trod enc P w base spare held fuel t cs=some x):∃ n y,DataW.trod enc P w base spare held n u ((cs.drop o).take (P.cellsOf u))=some y:=by
 unfold PI at hf;split at hf
 ·rename_i fs ht;obtain⟨xs,n,_,_,_,hlen,aU⟩:=DataW.trod_struct ht h;rw[Option.map_eq_some_iff]at hf;obtain⟨f,oc,he⟩:=hf;injection he with e1 e2;subst e1;subst e2;have:=aU i f oc;have hi:i<xs.length:=by rw[hlen];exact(zK.1 oc).1
  rw[bd hi]at this;exact⟨n,_,this⟩
 ·cases hf
theorem aRs{e:TypeId}{a:Addr}(ht:P.underlying t=some (.slice e))(hb:0<P.bytesOf e)(h:DataW.trod enc P w base spare held fuel t [.slice (some a) len cap]=some x)(hw:∀ k∈x.1.weights P t,k<=reachBytes):len<=reachBytes:=by
 rcases DataW.trod_slice ht h with ⟨h1,_⟩|⟨a',kV,bf,elems,rest,n,_,h1,hx,_,_,_,hlen,_⟩
 ·cases h1
 ·injection h1 with h1;injection h1 with _ e2 _;subst e2;have:=hw ((elems.length+rest.length)*P.bytesOf e) (by rw[hx];show _∈(DataW.slice (elems.map (·.1)) (rest.map (·.1))).weights P t;unfold DataW.weights;rw[ht];simp)
  have h2:elems.length+rest.length<=(elems.length+rest.length)*P.bytesOf e:=DY _ hb;omega
theorem aRt{n:Nat}(he:aER P t=some (n,e))(h:DataW.trod enc P w base spare held fuel t cs=some x):cs.length=P.cellsOf t/\∀ i,i<n->∃ m y,DataW.trod enc P w base spare held m e ((cs.drop (i*P.cellsOf e)).take (P.cellsOf e))=some y:=by
 unfold aER at he;split at he
 ·rename_i n' e' ht;injection he with he;injection he with e1 e2;subst e1;subst e2;obtain⟨xs,m,_,_,hl,hlen,aU⟩:=DataW.trod_array ht h;refine⟨hl,λi hi=>?_⟩;have:=aU i hi;rw[bd o_]at this;exact⟨m,_,this⟩
 ·cases he
theorem aES{α:Type}{p:Nat->α->Prop}:∀ n,(∀ i,i<n->∃ r,p i r)->∃ rs:List α,rs.length=n/\∀ i r,rs[i]?=some r->p i r
 |0,_=>⟨[],rfl,λi r h=>by simp at h⟩
 |n+1,h=>by
  obtain⟨rs,h1,h2⟩:=aES n λi hi=>h i o_;obtain⟨r,hr⟩:=h n o_;refine⟨rs++[r],by rw[jW,h1];rfl,λi r' hi=>?_⟩;rcases eQ i rs.length with av|fJ
  ·rw[Ie av]at hi;exact h2 i r' hi
  ·rw[Dx fJ]at hi;have hi0:i-rs.length=0:=by have:=(eD.1 hi).1;simp at this;omega
   rw[hi0]at hi;simp at hi;subst hi;have:i=n:=by omega
   subst this;exact hr
theorem aRu{f:α->ak}{s:Nat}(hE:∀ x,(f x).length=s)(pD:0<s){e:TypeId}(ht:P.underlying t=some (.slice e))(hs:P.cellsOf e=s)(V7:∀ n cs y,DataW.trod enc P w 0 (λ_=>true) true n e cs=some y->∃ r,cs=f r)
  {v:i_} (h:DataW.trod enc P w 0 (λ_=>true) true fuel t [v]=some x) :
  v=.slice none 0 0\/∃ a len cap,∃ rs:List α,v=.slice (some a) len cap/\len<=cap/\cap<=maxLen/\rs.length=len/\(∀ i r j u,rs[i]?=some r->(f r)[j]?=some u->w.cell? ((a.add (i*s)).add j)=some u)/\(0<cap->∃ u,w.cell? (a.add 0)=some u):=by
 rcases DataW.trod_slice ht h with ⟨h1,_⟩|⟨a,len,cap,elems,rest,n,_,h1,_,hb,hl,hc,hlen,rG,tO,_⟩
 ·injection h1 with h1;exact .inl h1
 ·injection h1 with h1;subst h1;refine .inr ⟨a,len,cap,?_⟩;have key:∀ i,i<len->∃ r:α,∀ j u,(f r)[j]?=some u->w.cell? ((a.add (i*s)).add j)=some u:=by intro i hi;have:=rG i hi;rw[bd o_,aET]at this;obtain⟨bW,h2,h3⟩:=this;obtain⟨r,rfl⟩:=V7 _ _ _ h3;refine⟨r,λj u hj=>?_⟩;rw[hs]at h2;obtain⟨_,kO,aU⟩:=World.cells?_some h2;have Pt:=(eD.1 hj).1;rw[aU j o_];exact hj
  obtain⟨rs,q1,q2⟩:=aES len key;refine⟨rs,rfl,hl,hc,q1,λi r j u hi hj=>q2 i r hi j u hj,λyb=>?_⟩;have any:∃ bW,w.cells? 0 (a.add (0*s)) s=some bW:=by
   rcases nr len with h0|h0
   ·obtain⟨C9,hr⟩:=tO rfl;have:=hr 0 o_;rw[bd o_,aET]at this;obtain⟨bW,h2,_⟩:=this;rw[h0,hs]at h2;exact⟨bW,h2⟩
   ·have:=rG 0 h0;rw[bd o_,aET]at this;obtain⟨bW,h2,_⟩:=this;rw[hs]at h2;exact⟨bW,h2⟩
  obtain⟨bW,h2⟩:=any;obtain⟨_,kO,aU⟩:=World.cells?_some h2;have:=aU 0 pD;rw[bd (by rw[kO];exact pD),kT]at this;exact⟨_,this⟩
theorem aEU{α:Type}{f:α->ak}{s:Nat}(hE:∀ x,(f x).length=s):∀{l:List α} {k:Nat} {u:i_},(cr f l)[k]?=some u->∃ i r j,l[i]?=some r/\(f r)[j]?=some u/\k=i*s+j
 |[],k,u,h=>by simp[cr]at h
 |x::l,k,u,h=>by
  rw[show cr f (x::l)=f x++cr f l from rfl]at h;rcases eQ k (f x).length with av|fJ
  ·rw[Ie av]at h;exact⟨0,x,k,rfl,h,by rw[kT,jv]⟩
  ·rw[Dx fJ]at h;obtain⟨i,r,j,h1,h2,h3⟩:=aEU hE h;refine⟨i+1,r,j,by simpa using h1,h2,?_⟩;rw[hE]at h3 fJ;rw[tC];omega
theorem aRv(b o i j:Nat):((⟨b,o,none⟩:Addr).add i).add j=⟨b,o+(i+j),none⟩:=by unfold Addr.add;by_cases hi:i=0<;>by_cases hj:j=0<;>simp[hi,hj,tt]
theorem aRw{T e:TypeId}{a:Addr}{r:Reach}(ht:P.underlying T=some (.slice e))(h:Cell.okWide P w r base T (.slice (some a) len cap)):a.spot=none/\a.block<w.heap.size:=by
 unfold Cell.okWide at h;rw[ht]at h;have h:Cell.ok P w r base T (.slice (some a) len cap):=h;unfold Cell.ok at h;rw[ht]at h;obtain⟨_,_,_,h1,row,cells,h2,_⟩:=h;refine⟨h1,?_⟩;unfold World.shape? at h2;split at h2
 ·rename_i c t f he;exact(zK.1 he).1
 ·cases h2
theorem aRx{f:α->ak}{s:Nat}(hE:∀ x,(f x).length=s){o:Nat}{rs:List α}(hl:len<=cap)(hb:b<w.heap.size)(hlen:rs.length=len)(h:∀ i r j u,rs[i]?=some r->(f r)[j]?=some u->w.cell? (((⟨b,o,none⟩:Addr).add (i*s)).add j)=some u):
  cZ w (.slice (some ⟨b,o,none⟩) len cap) rs.length (cr f rs):=by
 refine .inr ⟨b,o,cap,by rw[hlen],by omega,hb,λk u hk=>?_⟩;obtain⟨i,r,j,h1,h2,rfl⟩:=aEU hE hk;have:=h i r j u h1 h2;rwa[aRv]at this
end
section
variable{H:Type}{enc:TypeId×Value->H}{w:h_}{base:Nat}{spare:Nat->Bool}{held:Bool}{fuel:Nat}{cs:ak}{x:DataW H×List MemPlace}
theorem aRy{cs:ak}(h:cs.length=2):∃ a b,cs=[a,b]:=by
 match cs,h with
 |[a,b],_=>exact⟨a,b,rfl⟩
theorem aRz(h:DataW.trod enc prog w base spare held fuel 4 cs=some x):∃ b,cs=[.bool b]:=by obtain⟨b,h1,_⟩:=DataW.trod_bool (P:=prog) k_ h;exact⟨b,h1⟩
theorem aRA(h:DataW.trod enc prog w base spare held fuel 9 cs=some x):∃ l:List UInt8,cs=[.string (BA l)]:=by obtain⟨s,h1,_⟩:=DataW.trod_string (P:=prog) k_ h;exact⟨s.data.toList,by rw[h1];rfl⟩
theorem K1(h:DataW.trod enc prog w base spare held fuel 37 cs=some x):∃ q:RI,cs=q.cs:=by have hl:=PJ (P:=prog) (i:=0) (u:=4) (o:=0) k_ h;rw[show prog.cellsOf 37=2 from k_]at hl;obtain⟨_,_,h0⟩:=Bh (P:=prog) (i:=0) (u:=4) (o:=0) k_ h;obtain⟨_,_,h1⟩:=Bh (P:=prog) (i:=1) (u:=9) (o:=1) k_ h;rw[show prog.cellsOf 4=1 from k_]at h0;rw[show prog.cellsOf 9=1 from k_]at h1;obtain⟨a,b,rfl⟩:=aRy hl;obtain⟨b0,e0⟩:=aRz h0;obtain⟨l,e1⟩:=aRA h1;simp at e0 e1;subst e0;subst e1;exact⟨⟨b0,l⟩,rfl⟩
theorem aRB(h:DataW.trod enc prog w base spare held fuel 38 cs=some x):∃ a b c e:RI,cs=a.cs++(b.cs++(c.cs++e.cs)):=by
 obtain⟨hl,aU⟩:=aRt (P:=prog) (n:=4) (e:=37) k_ h;rw[show prog.cellsOf 38=8 from k_]at hl;rw[show prog.cellsOf 37=2 from k_]at aU;obtain⟨_,_,h0⟩:=aU 0 d_;obtain⟨_,_,h1⟩:=aU 1 d_;obtain⟨_,_,h2⟩:=aU 2 d_;obtain⟨_,_,h3⟩:=aU 3 d_;obtain⟨a,e0⟩:=K1 h0;obtain⟨b,e1⟩:=K1 h1;obtain⟨c,e2⟩:=K1 h2;obtain⟨e,e3⟩:=K1 h3;refine⟨a,b,c,e,?_⟩;rw[<-e0,<-e1,<-e2,<-e3]
 match cs,hl with
 |[_,_,_,_,_,_,_,_],_=>rfl
theorem PK(h:DataW.trod enc prog w base spare held fuel 40 cs=some x):∃ r:RN,cs=r.cs:=by
 have hl:=PJ (P:=prog) (i:=0) (u:=38) (o:=0) k_ h;rw[show prog.cellsOf 40=10 from k_]at hl;obtain⟨_,_,h0⟩:=Bh (P:=prog) (i:=0) (u:=38) (o:=0) k_ h;obtain⟨_,_,h1⟩:=Bh (P:=prog) (i:=1) (u:=37) (o:=8) k_ h;rw[show prog.cellsOf 38=8 from k_]at h0;rw[show prog.cellsOf 37=2 from k_]at h1;obtain⟨a,b,c,e,e0⟩:=aRB h0;obtain⟨d,e1⟩:=K1 h1;have:cs=(cs.drop 0).take 8++(cs.drop 8).take 2:=by
  match cs,hl with
  |[_,_,_,_,_,_,_,_,_,_],_=>rfl
 refine⟨⟨a,b,c,e,d⟩,?_⟩;rw[this,e0,e1];rfl
theorem aRC(h:DataW.trod enc prog w base spare held fuel 42 cs=some x):∃ r:RV,cs=r.cs:=by
 have hl:=PJ (P:=prog) (i:=0) (u:=40) (o:=0) k_ h;rw[show prog.cellsOf 42=30 from k_]at hl;obtain⟨_,_,h0⟩:=Bh (P:=prog) (i:=0) (u:=40) (o:=0) k_ h;obtain⟨_,_,h1⟩:=Bh (P:=prog) (i:=1) (u:=40) (o:=10) k_ h;obtain⟨_,_,h2⟩:=Bh (P:=prog) (i:=2) (u:=40) (o:=20) k_ h;rw[show prog.cellsOf 40=10 from k_]at h0 h1 h2;obtain⟨a,e0⟩:=PK h0;obtain⟨b,e1⟩:=PK h1;obtain⟨c,e2⟩:=PK h2;have:cs=(cs.drop 0).take 10++((cs.drop 10).take 10++(cs.drop 20).take 10):=by
  have t2:(cs.drop 20).take 10=cs.drop 20:=jN (by rw[uD];omega);have t1:(cs.drop 10).take 10++cs.drop 20=cs.drop 10:=by have:=Ov 10 (cs.drop 10);rwa[L6]at this
  rw[t2,t1,lv,Ov]
 refine⟨⟨a,b,c⟩,?_⟩;rw[this,e0,e1,e2];rfl
theorem aRD(h:DataW.trod enc prog w base spare held fuel 66 cs=some x):∃ r:RP,cs=r.cs:=by
 have hl:=PJ (P:=prog) (i:=0) (u:=42) (o:=0) k_ h;rw[show prog.cellsOf 66=40 from k_]at hl;obtain⟨_,_,h0⟩:=Bh (P:=prog) (i:=0) (u:=42) (o:=0) k_ h;obtain⟨_,_,h1⟩:=Bh (P:=prog) (i:=1) (u:=40) (o:=30) k_ h;rw[show prog.cellsOf 42=30 from k_]at h0;rw[show prog.cellsOf 40=10 from k_]at h1;obtain⟨a,e0⟩:=aRC h0;obtain⟨b,e1⟩:=PK h1;have:cs=(cs.drop 0).take 30++(cs.drop 30).take 10:=by have t2:(cs.drop 30).take 10=cs.drop 30:=jN (by rw[uD];omega);rw[t2,lv,Ov]
 refine⟨⟨a,b⟩,?_⟩;rw[this,e0,e1];rfl
set_option maxRecDepth 100000 in
theorem aRE{f:α->ak}{s:Nat}(hE:∀ x,(f x).length=s)(pD:0<s){T e:TypeId}(ht:prog.underlying T=some (.slice e))(hs:prog.cellsOf e=s)(hb:0<prog.bytesOf e)(V7:∀ n cs (y:DataW H×List MemPlace),DataW.trod enc prog w 0 (λ_=>true) true n e cs=some y->∃ r,cs=f r)
  {v:i_} {r:Reach} (ax:Cell.okWide prog w r base T v) (h:DataW.trod enc prog w 0 (λ_=>true) true fuel T [v]=some x) (hw:∀ k∈x.1.weights prog T,k<=reachBytes):∃ rs:List α,cZ w v rs.length (cr f rs)/\rs.length<=reachBytes:=by
 rcases aRu hE pD ht hs V7 h with h1|⟨a,len,cap,rs,h1,hl,hc,hlen,kA,_⟩
 ·exact⟨[],.inl ⟨h1,rfl,rfl⟩,kB _⟩
 ·subst h1;obtain⟨q1,q2⟩:=aRw ht ax;have NL:=aRs ht hb h hw;obtain⟨b,o,sp⟩:=a;dsimp only at q1 q2;subst q1;exact⟨rs,aRx hE hl q2 hlen kA,by omega⟩
end
section
open V3 (dot aw cV smul)
theorem PL{r:RN}{n:Nat}(bE:dE n (fh r))(hn:n<=az):aB prog 84 [r.v] (.bool (j6 r)):=by
 have va:=rz r.a.neg r.a.aP;have vb:=rz r.b.neg r.b.aP;have vc:=rz r.c.neg r.c.aP;have ve:=rz r.e.neg r.e.aP;have vd:=rz r.d.neg r.d.aP;change aB _ _ _ (.bool (eU r.a))at va;change aB _ _ _ (.bool (eU r.b))at vb;change aB _ _ _ (.bool (eU r.c))at vc;change aB _ _ _ (.bool (eU r.e))at ve;change aB _ _ _ (.bool (eU r.d))at vd;by_cases aU:(eU r.a&&(eU r.b&&(eU r.c&&(eU r.e&&eU r.d))))=true
 ·simp only[cY]at aU;obtain⟨ha,hb,hc,he,hd⟩:=aU;have er:r=qp (fh r):=by obtain⟨a,b,c,e,d⟩:=r;show RN.mk a b c e d=RN.mk (bj (dH a)) (bj (dH b)) (bj (dH c)) (bj (dH e)) (bj (dH d));rw[vj ha,vj hb,vj hc,vj he,vj hd]
  have e2:j6 r=(decide (0<(fh r).d)&&decide ((fh r).g=1)):=by unfold j6;rw[ha,hb,hc,he,hd];rfl
  rw[e2];clear e2 va vb vc ve vd ha hb hc he hd;generalize fh r=f at *;subst er;have hc:=SH (c:=co f) (d:=f.d) bE hn;have e:nw (co f) f.d=f:=rfl;rw[e]at hc;have hs:decide (f.d.sign>0)=decide (0<f.d):=pe.2 ⟨λh=>Zc.1 (by have:=Cr f.d;omega),λh=>by rw[yg h];decide⟩;have one:(bj 1).Sm:=sH (n:=1) d_ d_;have hgs:f.g<2^n:=sI (sI (sI (sI bE.2.2.2.2 bE.1) bE.2.1) bE.2.2.1) bE.2.2.2.1;have sg':(bj (f.g:Int)).Sm:=sH (n:=n) (by rw[An];exact hgs) hn;generalize hP:decide (0<f.d)=t at *;generalize hG:decide (f.g=1)=u at *;have heq:(if(true:Bool)then u else !u)=true↔bj (f.g:Int)=bj 1:=by rw[aq rfl,<-hG,qC];exact⟨λh=>by rw[h];rfl,λh=>by have:=wE h;omega⟩
  refine eX mixed func84 100 (λ_=>[(kY f.a).at 11,(kY f.b).at 11,(kY f.c).at 11,(kY f.e).at 11,(kY f.d).at 16,(qm f.d).at 20,.rw 21 (.bool (decide (f.d.sign>0))) (.bool t) (by rw[hs]),hc.at 28,(kH (z:=1) d_).at 29,.step 30 (au f84 30) _ _ _ _ (Ap (neg:=true) k_ (bj f.g) (bj 1) sg' one (b:=u) heq)]) (λ_=>?_) k_ ?_<;>cases t<;>kernel_rfl
 ·have e2:j6 r=false:=EZ.2 λh=>aU (by unfold j6 at h;simp only[cY]at h ⊢;exact⟨h.1,h.2.1,h.2.2.1,h.2.2.2.1,h.2.2.2.2.1⟩);rw[e2];generalize eU r.a=a at *;generalize eU r.b=b at *;generalize eU r.c=c at *;generalize eU r.e=e at *;generalize eU r.d=d at *;refine eX mixed func84 100 (λ_=>[va.at 11,vb.at 11,vc.at 11,ve.at 11,vd.at 16]) (λ_=>?_) k_ k_;cases a<;>cases b<;>cases c<;>cases e<;>cases d<;>first|exact absurd rfl aU|kernel_rfl
theorem aRF{r:RV}{n:Nat}(h:Hr n r)(hn:n<=az):aB prog 70 [r.v] (.bool (vk r)):=by have:=JB (PL h.1 hn) (PL h.2.1 hn) (PL h.2.2 hn);rw[Bool.and_assoc]at this;exact this
theorem aRG{r:RP}{n:Nat}(h:uh n r)(hn:n<=az):aB prog 44 [r.v] (.bool (mw r)):=by
 have hv:=aRF h.1 hn;have hd:=PL h.2 hn;unfold mw;rcases hb:vk r.n with _|_
 ·rw[hb]at hv;exact aV func44 (λ_=>[hv.at 5])
 ·rw[hb]at hv;have hz:=AP (Vc hb h.1) hn;unfold bN at hz;rw[<-Vb hb]at hz;by_cases h0:vZ r.n=0
  ·rw[aD h0]at hz;rw[aQ (λe=>e h0)];exact aV func44 (λ_=>[hv.at 5,hz.at 9])
  ·rw[aQ h0]at hz;rw[aD h0];exact aV func44 (λ_=>[hv.at 5,hz.at 9,hd.at 15])
section
variable{rs:List RP}{vs:List RV}{fs:f_}{m:Nat}
theorem aRH(hs:∀ x∈rs,uh m x)(hm:m<=az)(h63:rs.length<9223372036854775807)(hb:rs.all mw=false):cJ prog 12 [.r rs.length (db rs)] (.tuple #[uk,mz 1]):=by
 have hc:=aDx (g:=43) (ps:=rs) (b:=λx=>!mw x) k_ h63 (λr hr=>aDy (aRG (hs r hr) hm));have e:rs.any (λx=>!mw x)=true:=by rw[<-List.not_all_eq_any_not,hb];rfl
 rw[e]at hc;have ax:([aJ.r rs.length (db rs)].all aJ.ok)=true:=by simp only[fp,gm,Vw,ja]
 exact dR func12 ax 33 (λ_=>[.cR f12 7 [sl 0 rs.length,xn 43] hc (.w (x:=.view (db rs)) rfl (iZ iD rs) aDw (.p rfl .nil))])
end
def PM(ps:c_):aJ:=.s ps.length (bw ps) (cD ps).length (aW (cD ps)) (mn (jF ps))
structure nI(ps:c_):Prop where
 len:ps.length<=9
 sz:∀ p∈ps,bA 24 p/\p.n≠0
 cl:Cl ps
 full:qB ps
section
variable{ps:c_}
theorem nI.proper(h:nI ps):l9 ps:=λq hq=>(h.sz q hq).2
theorem nI.K3(h:nI ps):vo ps 24:=⟨by have:=h.len;omega,λq hq=>(h.sz q hq).1,h.proper,by decide⟩
theorem nI.vsz(h:nI ps):(∀ v∈cD ps,aF 4000 v)/\(cD ps).length<=81*9:=by rw[HM h.cl h.proper h.full];exact s9.sz (m:=24) (M:=4000) ⟨h.len,h.sz,by decide,by decide⟩
theorem nI.TH(h:nI ps):Fl ps=true:=(aEL h.proper).2 ⟨h.cl,h.full⟩
theorem nI.valid(h:nI ps):cJ prog 15 [PM ps] b_:=by have:=aQR h.K3 h.TH;unfold aEC VZ at this;rw[gF]at this;exact this
end
theorem V8:nI lf:=⟨by decide,λp h=>⟨(aRn (Jq _ h)).mono d_,aEN (Jq _ h)⟩,aEP,aEO⟩

end
section
open CR OF
open V3 (dot aw cV smul)
section
variable{rs:List RP}
def Dh(ps:c_):Prop:=ps.length<=9/\∀ q∈ps,bA 24 q/\q.n≠0
theorem Dh.proper(h:Dh ps):l9 ps:=λq hq=>(h.2 q hq).2
theorem Dh.K3(h:Dh ps):vo ps 24:=⟨by have:=h.1;omega,λq hq=>(h.2 q hq).1,h.proper,by decide⟩
theorem Dh.ref(h:Dh ps):s9 ps 24 4000:=⟨h.1,h.2,by decide,by decide⟩
theorem aRI(hk:k<=9)(hb:HA rs k=true):(rs.all mw=false/\∀ x∈rs,uh 24 x)\/∃ ps,rs=ps.map cS/\Dh ps/\(oS ps=false\/(oS ps=true/\rO ps (cD ps)=false)\/nI ps):=by
 unfold HA at hb;simp only[cY,tz]at hb;obtain⟨hr,_,h9⟩:=hb;rw[aX]at hr;have bE:∀ x∈rs,uh 24 x:=λx hx=>aOh (hr x hx) d_;cases aU:rs.all mw with
 |false=>exact .inl ⟨rfl,bE⟩
 |true=>
  obtain⟨ers,mg⟩:=aRr aU;have bT:Dh (rs.map pZ):=⟨by rw[gF];omega,λq hq=>by refine⟨?_,mg q hq⟩;obtain⟨x,hx,rfl⟩:=dq.1 hq;exact aOg (aX.1 aU x hx) (bE x hx)⟩
  refine .inr ⟨_,ers,bT,?_⟩;cases hc:oS (rs.map pZ)with
  |false=>exact .inl rfl
  |true=>
   have ga:=KY.1 hc;cases hi:rO (rs.map pZ) (cD (rs.map pZ))with
   |false=>exact .inr (.inl ⟨rfl,rfl⟩)
   |true=>exact .inr (.inr ⟨bT.1,bT.2,ga,(aEM ga bT.proper).1 hi⟩)
def te(rs:List RP):aJ:=.r rs.length (db rs)
theorem HT(ps:c_):te (ps.map cS)=ee ps:=by unfold te ee bw;rw[gF]
theorem aRJ(h63:rs.length<9223372036854775807)(hb:rs.all mw=false)(hs:∀ x∈rs,uh 24 x):cJ prog 12 [te rs] (.tuple #[uk,mz 1]):=aRH hs d_ h63 hb
end
end
section
open Go Go.ChangeShapes Go.WideShapes Go.ChangeAt Go.RowKit
section
set_option maxRecDepth 100000 in
theorem aRK{H:Type}{enc:TypeId×Value->H}{base:Nat}{v:i_}{d:DataW H}{p:List MemPlace}(hv:Value.okWide prog w .any base 22 v)(h:DataW.Trod enc prog w 0 (λ_=>true) true 22 v d p)(hw:∀ k∈d.weights prog 22,k<=reachBytes):
  ∃ rs:List RP,(te rs).In w v/\rs.length<=reachBytes:=by
 have ax:Cell.okWide prog w .any base 22 v:=by unfold Value.okWide at hv;rw[Tryz.underlying22]at hv;exact hv
 obtain⟨fuel,h⟩:=h;have hc:v.cells.toList=[v]:=by have h':=h;unfold Cell.okWide at ax;rw[Tryz.underlying22]at ax;cases v<;>first|rfl|(exact(by cases ax))
 rw[hc]at h;exact aRE (f:=RP.cs) (s:=40) iD.len d_ (e:=66) k_ k_ (lC k_) (λn cs y hy=>aRD hy) ax h hw
end
end
section
variable{P:j_}{B:ae}{N:Nat}
def V9(P:j_)(o:Oper):Option Nat:=match o.op with
 |.slice t _ none none none=>match P.underlying t with
  |some (.array n e)=>(match P.info? e with|some _=>some n|none=>none)
  |_=>none
 |_=>none
theorem aRL{n:Nat}(ho:V9 P o=some n){cells:ak}(h0:0<n)(j:Nat):
  ct P B o [.pointer (some ⟨k,0,some 7⟩)] [(j,none),(k,some (.aH cells ty))] (.slice (some ⟨j,0,some 7⟩) n 0) [(j,.view cells),(k,.dead)]:=by
 unfold V9 at ho;split at ho
 ·rename_i t y bM;split at ho
  ·rename_i n' e ht;split at ho
   ·rename_i i gU;injection ho with ho;subst ho;refine gL.step λι c ρ w aK hm hn=>?_;have hj:c j=none:=hn (j,none) s_;have hk:c k=some (.aH cells ty):=hn (k,some (.aH cells ty)) s_;rw[bM]at aK;obtain⟨u,hu,hc⟩:=lO aK;have du:ρ y=u:=by simp[Op.operands]at hu;exact hu
    have Bo:=hm.kill k (by rw[hk];exact n_);have gA:aT c k .dead j=none:=by unfold aT;rw[al (λe=>by subst e;rw[hj]at hk;cases hk)];exact hj
    obtain⟨b,oo,cap,hb,he⟩:=hc.ux rfl;dsimp only at hb he;obtain⟨l,h1,b',bW,rfl,e7,kA⟩:=hm.born k _ hk;rw[hb]at h1;injection h1 with h1;injection h1 with e1 e2 e3;subst e1;subst e2;subst e3;have gy:=hm.own k _ b 0 0 hk rfl hb;have hle:=fZ (l:=.at b 0 n') (hm.dp j hj);refine⟨dy ι j (.at b 0 n'),.slice (some ⟨b,0+0,none⟩) n' n',w,hle,.slc (fj _ _ _) (aZ _) (jv _),Bo.add gA (.inr ⟨b,0,n',bW,rfl,mC hle e7,λq u h=>?_⟩) n_ n_ (λb1 o2 kz _ e=>?_),.inl ?_⟩
    ·unfold World.cell?;dsimp only;rw[kA];simp[h]
    ·injection e with e1 e2 e3;subst e1;refine⟨gy.1,λq y o' bf hq hy vD=>?_⟩;unfold aT at hq;by_cases qU:q=k
     ·rw[aq qU]at hq;injection hq with hq;subst hq;cases hy
     ·rw[al qU]at hq;exact qU (hm.inj q k y _ b o' bf 0 0 hq hy hk rfl vD hb)
    ·simp only[execOp,bM];simp[Instr.sliceAt,iI ht,Instr.sureAddr,du,he,Instr.sliceBounds,sizeOf,typeInfo,gU,Addr.add]
   ·cases ho
  ·cases ho
 ·cases ho
def aO.slA(fn:Func)(key k n j:Nat)(cells:ak)(ty:TypeId)(h0:0<n)(ho:V9 P (au fn key)=some n):aO P B N:=
 .step key (au fn key) [.pointer (some ⟨k,0,some 7⟩)] [(j,none),(k,some (.aH cells ty))] (.slice (some ⟨j,0,some 7⟩) n 0) [(j,.view cells),(k,.dead)] (aRL ho h0 j)
end
section
open Go.Shelf
def aEV:Go.Shelf.Ren:=⟨λ| 6=>65|15=>114|14=>113|28=>170|29=>171|20=>162|21=>163|22=>164|23=>165|24=>166|25=>167|26=>168|27=>169|46=>207|47=>208|48=>209|49=>210|50=>211|57=>229|n=>n,λ| 22=>51|24=>88|25=>91|3=>3|39=>124|0=>0|53=>172|55=>118|4=>4|46=>166|45=>165|50=>159|5=>5|9=>9|66=>194|70=>198|76=>211|77=>212|n=>n,λ| n=>n⟩
theorem aRM:Go.Proofs.SlLaysF0.n6 prog aEV:={
 mixed:=by kernel_rfl
 f6:=⟨f65.name,by decide,func65.trans (b9 some k_)⟩
 f14:=⟨f113.name,by decide,func113.trans (b9 some k_)⟩
 f15:=func114.trans (b9 some k_)
 f20:=⟨f162.name,by decide,func162.trans (b9 some k_)⟩
 f21:=⟨f163.name,by decide,func163.trans (b9 some k_)⟩
 f22:=⟨f164.name,by decide,func164.trans (b9 some k_)⟩
 f23:=⟨f165.name,by decide,func165.trans (b9 some k_)⟩
 f24:=⟨f166.name,by decide,func166.trans (b9 some k_)⟩
 f25:=⟨f167.name,by decide,func167.trans (b9 some k_)⟩
 f26:=⟨f168.name,by decide,func168.trans (b9 some k_)⟩
 f27:=⟨f169.name,by decide,func169.trans (b9 some k_)⟩
 f28:=func170.trans (b9 some k_)
 f29:=func171.trans (b9 some k_)
 f46:=⟨f207.name,by decide,func207.trans (b9 some k_)⟩
 f47:=func208.trans (b9 some k_)
 f48:=func209.trans (b9 some k_)
 f49:=⟨f210.name,by decide,func210.trans (b9 some k_)⟩
 f50:=⟨f211.name,by decide,func211.trans (b9 some k_)⟩
 f57:=⟨f229.name,by decide,func229.trans (b9 some k_)⟩
 t0:=Tryz.underlying0
 a0:=isAgg0
 z0:=sizeOf0
 v0:=Tryz.zeroValue0
 t3:=Tryz.underlying3
 a3:=isAgg3
 z3:=sizeOf3
 v3:=Tryz.zeroValue3
 t4:=Tryz.underlying4
 a4:=isAgg4
 z4:=sizeOf4
 v4:=Tryz.zeroValue4
 t5:=Tryz.underlying5
 a5:=isAgg5
 z5:=sizeOf5
 v5:=Tryz.zeroValue5
 t9:=Tryz.underlying9
 a9:=isAgg9
 z9:=sizeOf9
 v9:=Tryz.zeroValue9
 t22:=Tryz.underlying51
 a22:=isAgg51
 z22:=sizeOf51
 v22:=Tryz.zeroValue51
 t25:=Tryz.underlying91
 a25:=isAgg91
 z25:=sizeOf91
 v25:=Tryz.zeroValue91
 t39:=Tryz.underlying124
 a39:=isAgg124
 z39:=sizeOf124
 v39:=Tryz.zeroValue124
 t45:=Tryz.underlying165
 a45:=isAgg165
 z45:=sizeOf165
 v45:=Tryz.zeroValue165
 t46:=Tryz.underlying166
 a46:=isAgg166
 z46:=sizeOf166
 v46:=Tryz.zeroValue166
 t50:=Tryz.underlying159
 a50:=isAgg159
 z50:=sizeOf159
 v50:=Tryz.zeroValue159
 t53:=Tryz.underlying172
 a53:=isAgg172
 z53:=sizeOf172
 v53:=Tryz.zeroValue172
 t55:=Tryz.underlying118
 a55:=isAgg118
 z55:=sizeOf118
 v55:=Tryz.zeroValue118
 t66:=Tryz.underlying194
 a66:=isAgg194
 z66:=sizeOf194
 v66:=Tryz.zeroValue194
 t70:=Tryz.underlying198
 a70:=isAgg198
 z70:=sizeOf198
 v70:=Tryz.zeroValue198
 t76:=Tryz.underlying211
 a76:=isAgg211
 z76:=sizeOf211
 v76:=Tryz.zeroValue211
 t77:=Tryz.underlying212
 a77:=isAgg212
 z77:=sizeOf212
 v77:=Tryz.zeroValue212 }
end
section
open Go.Sort (SWO)
def Di(a b:Nat):Int:=if a<b then -1 else if b<a then 1 else 0
def Bi(u v:Nat×Nat):Int:=if Di u.1 v.1=0 then Di u.2 v.2 else Di u.1 v.1
theorem aRN{u v:Nat×Nat}:Bi u v<0↔u.1<v.1\/(u.1=v.1/\u.2<v.2):=by
 unfold Bi Di
 repeat' split
 all_goals omega
def uo(u v:Nat×Nat):Bool:=decide (u.1<v.1\/(u.1=v.1/\u.2<=v.2))
def K4(u v:Nat×Nat):Bool:=Go.Proofs.ltOf Bi u v
theorem PN{u v:Nat×Nat}:K4 u v=true↔u.1<v.1\/(u.1=v.1/\u.2<v.2):=by show decide (Bi u v<0)=true↔_;rw[qC,aRN]
theorem aRO{u v:Nat×Nat}:K4 u v=false↔uo v u=true:=by rw[EZ,ne_eq,PN];unfold uo;rw[qC];omega
theorem aRP:SWO K4 where
 irrefl x:=by rw[EZ,ne_eq,PN];omega
 trans x y z h k:=by rw[PN]at *;omega
 ntrans x y z h k:=by rw[EZ,ne_eq,PN]at *;omega
theorem aRQ(u v w:Nat×Nat)(h:uo u v=true)(k:uo v w=true):uo u w=true:=by unfold uo at *;rw[qC]at *;omega
theorem aRR(u v:Nat×Nat):(uo u v||uo v u)=true:=by unfold uo;rw[qV,qC,qC];omega
def xC(l:List (Nat×Nat)):List (Nat×Nat):=l.mergeSort uo
theorem aEW(l:List (Nat×Nat)):(xC l).Perm l:=List.mergeSort_perm l uo
theorem aRS{l d:List (Nat×Nat)}(hp:d.Perm l)(hs:d.Pairwise λu v=>uo u v=true):d=xC l:=
 List.Perm.eq_of_pairwise (λu v _ _ h k=>by unfold uo at h k;rw[qC]at h k;exact Prod.ext o_ o_) hs (List.pairwise_mergeSort aRQ aRR l) (hp.trans (aEW l).symm)
def eV(e:Nat×Nat):Value:=.agg #[vI e.1,vI e.2]
def ev(e:Nat×Nat):ak:=[vI e.1,vI e.2]
theorem Fp:pK ev 2:=⟨λ_=>rfl,λ_ v hv=>by
 simp only[ev,ch,fF,fG]at hv;rcases hv with rfl|rfl<;>rfl,λ_ v hv=>by
 simp only[ev,ch,fF,fG]at hv;rcases hv with rfl|rfl<;>rfl⟩
theorem HU(a:Nat):aB prog 172 [vI a] a_:=aV func172 (λ_=>[.rw 5 (.bool ((a:Int)!=(a:Int))) a_ s_])
theorem aEX(a b:Nat):aB prog 115 [vI a,vI b] (.int .i64 (Di a b)):=by
 unfold Di;by_cases h:a<b
 ·rw[aq h];exact aV func115 (λ_=>[(HU a).at 8,(HU b).at 10,.lt 16 a b true (aD h)])
 ·rw[al h];by_cases h2:b<a
  ·rw[aq h2];exact aV func115 (λ_=>[(HU a).at 8,(HU b).at 10,.lt 16 a b false (aQ h),.gt 19 a b true (aD h2)])
  ·rw[al h2];exact aV func115 (λ_=>[(HU a).at 8,(HU b).at 10,.lt 16 a b false (aQ h),.gt 19 a b false (aQ h2)])
theorem aRT(u v:Nat×Nat):cJ prog 67 [.r 2 (ev u),.r 2 (ev v)] (.int .i64 (Bi u v)):=by
 have c1:=aEX u.1 v.1;have c2:=aEX u.2 v.2;have ne:∀ z:Int,∀ t:Bool,decide (z=0)=!t->Value.bool (z !=0)=.bool t:=λz t h=>by
  congr 1
  cases t
  ·have:=lC h;subst this;rfl
  ·have:=Cf h;simpa using this
 unfold Bi;generalize Di u.1 v.1=x at *;generalize Di u.2 v.2=y at *;by_cases h:x=0
 ·rw[aq h];by_cases h2:y=0
  ·subst h2;exact wT func67 36 (λw=>[c1.at 26,.rw 28 _ a_ (ne x false (aD h)),c2.at 26,.rw 28 _ a_ (ne 0 false rfl)])
  ·exact wT func67 36 (λw=>[c1.at 26,.rw 28 _ a_ (ne x false (aD h)),c2.at 26,.rw 28 _ b_ (ne y true (aQ h2))])
 ·rw[al h];exact wT func67 36 (λw=>[c1.at 26,.rw 28 _ b_ (ne x true (aQ h))])
theorem aRU(u v:Nat×Nat):aB prog 66 [eV u,eV v] (.int .i64 (Bi u v)):=by have hc:=aRT u v;generalize Bi u v=z at *;exact aV func66 (λ_=>[.slA f66 5 0 2 2 (ev u) 88 d_ k_,.slA f66 6 1 2 3 (ev v) 88 d_ k_,.cR f66 7 [sl 2 2,sl 3 2] hc (.w (k:=2) (x:=.view (ev u)) rfl rfl n_ (.w (k:=3) (x:=.view (ev v)) rfl rfl n_ .nil))])
def Wa:Value:=.func (.func 66) #[] #[]
theorem aRV(l:List (Nat×Nat))(h63:l.length<4611686018427387904):Ue prog 65 Wa ev 2 K4 l:=by
 intro aH cap w hH hblk
 have:=aOG (P:=prog) (ρ:=aEV) aRM 2 isAgg88 sizeOf88 ev Fp.len Fp.one Bi aRP 66 #[] aH 0 cap l.toArray w
  (aC9 k_) (aBw (λx y=>aRU x y) aH _ _ w) hH hblk (by simpa using h63)
 have e:l.toArray.size=l.length:=by simp
 rw[e]at this;exact this
theorem aRW{l:List (Nat×Nat)}(h63:l.length<4611686018427387904)(h0:l≠[])(ho:da o.op=some x)(k:Nat):
  ct prog Bs o [.func (.func 65) #[] #[],sl k l.length,Wa] [(k,some (.row (cr ev l) 88 2))] (.tuple #[]) [(k,.row (cr ev (xC l)) 88 2)]:=
 aBy (P:=prog) (B:=Bs) (l:=l) (l':=xC l) (o:=o) (x:=x) (ty:=88) (lt:=K4) (g:=Wa) Fp d_ (aRV l h63) k_ ho k_ k (λh=>absurd h h0) λd hd hs=>by refine aRS hd ?_;rw[O2];intro i j hi hj nJ;have:=hs i j nJ hj _ _ (bd hi) (bd hj);exact aRO.1 this
end
section
variable{P:j_}{B:ae}{N:Nat}
theorem Dj(ho:vQ P o=some 1){l:List Int}(hi:l[i]?=some z):
  ct P B o [.pointer (some ⟨m,0,some 9⟩),vI i] [(k,none),(m,some (.fact (dK l)))] (.pointer (some ⟨k,0,some 7⟩)) [(k,.view [iV z])]:=by
 unfold vQ at ho;split at ho
 ·rename_i t x y bM;split at ho
  ·rename_i e ht;split at ho
   ·rename_i inf zr;injection ho with ho;refine gL.step λι c ρ w aK hm nN=>?_;rw[bM]at aK;obtain⟨v,v2,hu,hc,c7⟩:=iH aK;have du:ρ x=v:=by simp[Op.operands]at hu;exact hu.1
    have ew:ρ y=v2:=by simp[Op.operands]at hu;exact hu.2
    have c7:=c7.eW rfl;have Fb:c m=some (.fact (dK l)):=nN (m,some (.fact (dK l))) s_;have k0:c k=none:=nN (k,none) s_;have E9:=yv hm Fb hc;have loc:ι m=some (.val v):=by
     obtain⟨lc,q1,u,q2,q3⟩:=hm.born m _ Fb;subst q2;generalize hp:Value.pointer (some ⟨m,0,some 9⟩)=p at hc;cases hc with
     |same h=>subst hp;cases h
     |ptr h=>injection hp with hp;injection hp with hp;injection hp with _ _ hp;cases hp
     |slc h=>cases hp
     |slcN h=>cases hp
     |opq h4 h5 h6=>injection hp with hp;injection hp with hp;injection hp with ik;subst ik;exact h4
     |fn=>cases hp
     |agg=>cases hp
     |tup=>cases hp
    have av:=(eD.1 hi).1;have hw:oq w v l.length (e6 l):=E9.1;have kA:(e6 l)[i]?=some (iV z):=by unfold e6;rw[xN,hi];rfl
    rcases hw.row o_ with ⟨_,q2,_⟩|⟨b,o',c',q1,q2,q3,q4⟩
    ·omega
    have hF:(dK l).cI v w b:=⟨by omega,by rw[q1];rfl⟩;have m2:aI B (dy ι k (.at b (o'+i*1) 0)) (aT c k (.view [iV z])) w:=
     hm.add k0 (.inr ⟨b,o'+i*1,0,[iV z],rfl,.cons (.same rfl) .nil,λj x hj=>by
      cases j with
      |zero=>simp at hj;subst hj;have:=q4 _ _ kA;simpa using this
      |succ j=>simp at hj⟩) n_ n_ (λb1 o1 kz _ e=>by
      injection e with e1 e2 e3;subst e1;exact⟨q3,λj y o2 o6 hj hy he=>hm.apart j m y _ b o2 o6 v hj hy he Fb loc hF⟩)
    refine⟨_,.pointer (some ⟨b,o'+i*1,none⟩),w,fZ (hm.dp k k0),?_,m2,.inl ?_⟩
    ·have:=aG.ptr (off:=0) (fj ι k (.at b (o'+i*1) 0));rwa[iJ]at this
    ·subst q1;simp only[execOp,bM,du,ew,c7];have h0:(0:Int)<=(i:Int):=by omega
     simp[Instr.indexAt,asIntOf,iI ht,sizeOf,typeInfo,zr,h0,xJ,vI,ho];intro fJ;omega
   ·cases ho
  ·cases ho
 ·cases ho
end
def HV(h:Nat):List Nat->List (Nat×Nat)
 |[]=>[]
 |[x]=>[(x,h)]
 |x::y::t=>(x,y)::HV h (y::t)
def lg:List Nat->List (Nat×Nat)
 |[]=>[]
 |a::m=>HV a (a::m)
theorem aEY(h:Nat):∀ l:List Nat,(HV h l).map (·.1)=l
 |[]=>rfl
 |[x]=>rfl
 |x::y::t=>by rw[HV,qc,aEY h (y::t)]
section
theorem aEZ(h:Nat):∀(l:l_) (t x:Nat),l[t]?=some x->(HV h l)[t]?=some (x,(l[t+1]?).getD h)
 |[],_,_,e=>by simp at e
 |[y],t,x,e=>by
  cases t with
  |zero=>simp at e;subst e;rfl
  |succ t=>simp at e
 |y::z::l,t,x,e=>by
  cases t with
  |zero=>simp at e;subst e;rfl
  |succ t=>simpa[HV]using aEZ h (z::l) t x (by simpa using e)
theorem aRX{L:l_}{t x y:Nat}(hx:L[t]?=some x)(hy:L[(t+1)%L.length]?=some y):(lg L)[t]?=some (x,y):=by
 have ht:=(eD.1 hx).1;cases L with
 |nil=>simp at hx
 |cons a m=>
  have:=aEZ a (a::m) t x hx;refine this.trans ?_
  congr 2
  rcases eQ (t+1) (a::m).length with h|h
  ·rw[dG h]at hy;rw[hy];rfl
  ·have e:t+1=(a::m).length:=by omega
   rw[e,Nat.mod_self]at hy;rw[xH o_];simpa using hy
theorem Wb:∀ L:List Nat,(lg L).length=L.length
 |[]=>rfl
 |a::m=>by have:=b9 List.length (aEY a (a::m));rw[gF]at this;exact this
def ky(l:List (Nat×Nat)):List (Nat×Nat):=l.filter λe=>decide (e.1<e.2)
theorem aRY(l:List (Nat×Nat))(e:Nat×Nat):ky (l++[e])=if e.1<e.2 then ky l++[e]else ky l:=by
 unfold ky;rw[Vq];by_cases h:e.1<e.2
 ·rw[aq h,List.filter_cons_of_pos (by simpa using h)];rfl
 ·rw[al h,List.filter_cons_of_neg (by simpa using h),List.filter_nil,gO]
theorem aE0(l:List (Nat×Nat)):(ky l).length<=l.length:=aDs _ _
theorem aE1(l:List (Nat×Nat)):(cr ev l).length=l.length*2:=rL Fp l
theorem aRZ(l:List (Nat×Nat))(e:Nat×Nat):cr ev l++ev e=cr ev (l++[e]):=by unfold cr;rw[JZ];simp
end
section
variable{np nv:Nat}{xp xv:ak}{F:Fact}{e:Nat×Nat}{l:List (Nat×Nat)}{i:Int}
def qQ(np nv R:Nat)(l:List (Nat×Nat)):aC:=[(3,.aH [sl 0 np,sl 1 nv,cx 2] 28),(4,.aH [sl R l.length] 51),(6,.aH [sl 0 np,sl 1 nv,cx 2] 28),(R,.row (cr ev l) 88 2)]
def jU(xp xv:ak)(F:Fact):aC:=[(0,.view xp),(1,.view xv),(2,.fact F)]
def vA:aL:=[(1,bY 3),(2,.slice none 0 0),(3,bY 4),(10,.func (.func 112) #[] #[bY 6])]
theorem PO(l:List (Nat×Nat)):∀ v∈cr ev l,flat v=true:=G2 Fp l
theorem Wc(l:List (Nat×Nat)):lF m (k,.row (cr ev l) 88 2)=true:=yH λv hv=>PO l v hv
theorem PQ(jn:xp.all flat=true)(iq:xv.all flat=true):∀ p∈jU xp xv F,lF m p=true:=λp hp=>by
 simp only[jU,ch,fF,fG]at hp;rcases hp with rfl|rfl|rfl
 ·exact yH λv hv=>aX.1 jn v hv
 ·exact yH λv hv=>aX.1 iq v hv
 ·rfl
theorem Bj{x:Obj}(h:lF m (0,x)=true):∀ v∈x.cells,pF m ns v=true:=λv hv=>by unfold pF;rw[aX.1 h v hv];rfl
def Wd(np nv:Nat)(l:List (Nat×Nat))(e:Nat×Nat):aC:=
 if e.1<e.2 then[(3,.aH [sl 0 np,sl 1 nv,cx 2] 28),(4,.aH [sl 17 (l.length+1)] 51),(6,.aH [sl 0 np,sl 1 nv,cx 2] 28),(12,.dead),(17,.row (cr ev (l++[e])) 88 2)]else qQ np nv 12 l
def We(e:Nat×Nat):List Nat:=if e.1<e.2 then[17]else[]
theorem aR0(jn:xp.all flat=true)(iq:xv.all flat=true)(hF:F.rc=false)(h63:l.length<1000000):
  GQ prog 7 15 25 #[11,12] (Az (oR Tryz.f20)) (AA (oR Tryz.f20)) vA (qQ np nv 12 l) (jU xp xv F) (Wd np nv l e) (We e) [.int .i64 i,eV e] none:=by
 have di:∀ p∈qQ np nv 12 l++jU xp xv F,p.1<15/\p.1≠7/\lF 15 p=true:=λp hp=>by
  rcases fm.1 hp with hp|hp
  ·simp only[qQ,ch,fF,fG]at hp;rcases hp with rfl|rfl|rfl|rfl
   ·exact⟨by dsimp only;decide,by dsimp only;decide,rfl⟩
   ·exact⟨by dsimp only;decide,by dsimp only;decide,rfl⟩
   ·exact⟨by dsimp only;decide,by dsimp only;decide,rfl⟩
   ·exact⟨by dsimp only;decide,by dsimp only;decide,Wc l⟩
  ·refine⟨?_,?_,PQ jn iq p hp⟩<;>
   ·simp only[jU,ch,fF,fG]at hp;rcases hp with rfl|rfl|rfl<;>(dsimp only;decide)
 have jG:((jU xp xv F).all λp=>p.2.soft)=true:=by show(true&&(true&&(!F.rc&&true)))=true;rw[hF];rfl
 have hA:∀ B:ae,ag prog B 25 (Az (oR Tryz.f20)) (Jo [(11,.int .i64 i),(12,eV e)] vA) (qQ np nv 12 l++jU xp xv F) 15 ⟨.normal,(5,bY 15)::vA,(15,.aH (ev e) 88)::(qQ np nv 12 l++jU xp xv F),16⟩:=λB=>ay [];unfold Wd We;by_cases h:e.1<e.2
 ·rw[aq h,aq h];have iW:=aRZ l e;have hlen:=aE1 l
  refine Jx [17] (rA:=⟨.normal,(5,bY 15)::vA,(15,.aH (ev e) 88)::(qQ np nv 12 l++jU xp xv F),16⟩) (rB:=⟨.normal,[],[(3,.aH [sl 0 np,sl 1 nv,cx 2] 28),(4,.aH [sl 17 (l.length+1)] 51),(6,.aH [sl 0 np,sl 1 nv,cx 2] 28),(12,.dead),(17,.row (cr ev (l++[e])) 88 2)],18⟩)
   k_ rfl k_ d_ di (λp hp=>?_) k_ (λp hp=>?_) jG k_ k_ hA rfl k_ rfl (λB=>?_) (λk x h=>h) rfl
  ·simp only[ch,fF,fG]at hp;rcases hp with rfl|rfl|rfl|rfl|rfl
   ·exact Bj rfl
   ·exact λv hv=>by have hv:v∈[sl 17 (l.length+1)]:=hv;rw[wR]at hv;subst hv;rfl
   ·exact Bj rfl
   ·exact n_
   ·exact Bj (Wc _)
  ·simp only[ch,fF,fG]at hp;rcases hp with rfl|rfl|rfl|rfl|rfl
   ·exact .inl rfl
   ·exact .inl rfl
   ·exact .inl rfl
   ·exact .inr rfl
   ·exact .inl rfl
  ·unfold qQ;generalize cr ev (l++[e])=r' at *;generalize cr ev l=r at *;exact ay [.lt 17 e.1 e.2 true (aD h),.bs Tryz.f20 20 16 1 88 2 [0] (eV (0,0)) [eV e] (ev e).toArray (.row (ev e) 88 2) rfl (λv hv=>by simp at hv;subst hv;rfl) (λv hv=>Fp.flat e v hv) k_ rfl d_ d_ k_,.pr Tryz.f20 21 17 12 l.length 1 (l.length+1) 88 2 16 r 16 (.row (ev e) 88 2) r' rfl rfl rfl hlen iW (λv hv=>Fp.one e v hv) d_ (by simp[maxLen];omega) o_ k_]
 ·rw[al h,al h]
  refine Jx [] (rA:=⟨.normal,(5,bY 15)::vA,(15,.aH (ev e) 88)::(qQ np nv 12 l++jU xp xv F),16⟩) (rB:=⟨.normal,[],qQ np nv 12 l,16⟩)
   k_ rfl k_ d_ di (λp hp=>Bj (di p (Jq _ hp)).2.2) k_ (Jz k_) jG (by rw[gO]) k_ hA rfl k_ rfl (λB=>?_) (λk x h=>h) rfl
  unfold qQ;generalize cr ev l=r at *;exact ay [.lt 17 e.1 e.2 false (aQ h)]
end
section
variable{np nv:Nat}{xp xv:ak}{F:Fact}{l:List (Nat×Nat)}{fs:f_}{m:Map}{S:Nat->Prop}{T:p_}{W1:h_}{y D:Nat}{cv:FuncId}
noncomputable def lL(y:Nat)(cv:FuncId)(T:p_)(D:Nat):Obj:=.fact (fe y (gj cv T #[11,12] (Az (oR Tryz.f20)) (AA (oR Tryz.f20)) D))
def K5(n t i y:Nat):aL:=[(18,vI t),(16,cx 10),(17,vI n),(4,bY 11),(3,vI i),(0,.func (.yield y) #[] #[])]
def ur(np nv:Nat)(xp xv:ak)(F:Fact)(k:Int)(L:l_)(r:Obj)(n:Nat):aC:=
 [(3,.aH [sl 0 np,sl 1 nv,cx 2] 28),(4,.aH [sl 12 n] 51),(6,.aH [sl 0 np,sl 1 nv,cx 2] 28),(7,r),(11,.aH [iV k,cx 10] 50),(10,.fact (dK (qN L)))]++jU xp xv F
def kN(l:List (Nat×Nat)):List Obj:=[.row (cr ev l) 88 2]
theorem aE2{m:Nat}(l:List (Nat×Nat)):∀ x∈kN l,fW m x:=λx hx=>by rw[kN,wR]at hx;subst hx;exact λv hv=>iM (PO l v hv)
theorem Bk{next:Nat}{x:Obj}(h:lF next (0,x)=true):wh next σ x:=((FV (σ:=σ) (F:=[(0,x)]) λp hp=>by rw[wR]at hp;subst hp;exact Ni h).2 (0,x) (aN ..))
theorem aE3{next:Nat}(jn:xp.all flat=true)(iq:xv.all flat=true):∀ p∈jU xp xv F,wh next σ p.2:=λp hp=>Bk (PQ jn iq p hp)
theorem aE4{k:Int}{L:l_}{n:Nat}(jn:xp.all flat=true)(iq:xv.all flat=true):∀ p∈ur np nv xp xv F k L (lL y cv T D) n,wh 12 [some q] p.2:=λp hp=>by
 unfold ur at hp;rcases fm.1 hp with hp|hp
 ·simp only[ch,fF,fG]at hp;rcases hp with rfl|rfl|rfl|rfl|rfl|rfl
  ·exact Bk rfl
  ·exact λv hv=>by rw[wR]at hv;subst hv;rfl
  ·exact Bk rfl
  ·exact Bk rfl
  ·exact Bk rfl
  ·exact Bk rfl
 ·exact aE3 jn iq p hp
def HW(x y:Nat):Nat:=if x<y then 17 else 12
theorem aR1{k:Int}{L:l_}{t x z:Nat}(jn:xp.all flat=true)(iq:xv.all flat=true)(hF:F.rc=false)(ob:Aw 7 25 vA m T)(hx:L[t]?=some x)(hz:L[(t+1)%L.length]?=some z)(h63:l.length<1000000)(hL:L.length<1000000):
  ag prog (n9 W1 y S m) 41 (aE (af f112 2)) (K5 L.length t i y) (ur np nv xp xv F k L (lL y cv T D) l.length++marks 12 (kN l)) 13
   ⟨.normal,eY 12 [some (HW x z)] (K5 L.length (t+1) i y),pq 12 [some (HW x z)] (ur np nv xp xv F k L (lL y cv T D) (if x<z then l++[(x,z)]else l).length)++dc [some (HW x z)] (kN (if x<z then l++[(x,z)]else l)),if x<z then 18 else 15⟩:=by
 have ht:=(eD.1 hx).1;have ga:(qN L).length=L.length:=gF ..;have sD:(qN L)[t]?=some (x:Int):=by unfold qN;rw[xN,hx];rfl
 have lj:(qN L)[(t+1)%L.length]?=some (z:Int):=by unfold qN;rw[xN,hz];rfl
 have st:=S8 (S:=S) (W1:=W1) (l:=y) (D:=D) (cv:=cv) (x:=.tmp 23) (o:=au f112 37) (aR0 (np:=np) (nv:=nv) (e:=(x,z)) (i:=(i:Int)) (l:=l) jn iq hF h63) k_ ob;have ln:=oX (P:=prog) (B:=n9 W1 y S m) (o:=au f112 32) k_ (k:=10) (l:=qN L);rw[ga]at ln;generalize hr:(t+1)%L.length=r at *;unfold Wd We at st;unfold HW ur lL kN;by_cases h:x<z
 ·rw[aq h,aq h]at st;rw[aq h,aq h,aq h,jW,J0];unfold qQ at st;generalize cr ev (l++[(x,z)])=r' at *;generalize cr ev l=r0 at *;exact ay [.lt 19 t L.length true (aD ht),.step 21 (au f112 21) [cx 10,vI t] [(13,none),(10,some (.fact (dK (qN L))))] (bY 13) [(13,.view [iV x])] (Dj k_ sD),.sum 29 t 1 (t+1) rfl o_,.step 32 _ _ _ _ _ ln,.zR f112 33 .i64 ((t+1:Nat):Int) (L.length:Int) (r:Int) o_ (by rw[<-hr];exact(Int.ofNat_tmod _ _).symm) k_,.step 34 (au f112 34) [cx 10,vI r] [(14,none),(10,some (.fact (dK (qN L))))] (bY 14) [(14,.view [iV z])] (Dj k_ lj),.step 37 _ _ _ _ _ st,.sum 39 t 1 (t+1) rfl o_]
 ·rw[al h,al h]at st;rw[al h,al h,al h];unfold qQ at st;generalize cr ev l=r0 at *;exact ay [.lt 19 t L.length true (aD ht),.step 21 (au f112 21) [cx 10,vI t] [(13,none),(10,some (.fact (dK (qN L))))] (bY 13) [(13,.view [iV x])] (Dj k_ sD),.sum 29 t 1 (t+1) rfl o_,.step 32 _ _ _ _ _ ln,.zR f112 33 .i64 ((t+1:Nat):Int) (L.length:Int) (r:Int) o_ (by rw[<-hr];exact(Int.ofNat_tmod _ _).symm) k_,.step 34 (au f112 34) [cx 10,vI r] [(14,none),(10,some (.fact (dK (qN L))))] (bY 14) [(14,.view [iV z])] (Dj k_ lj),.step 37 _ _ _ _ _ st,.sum 39 t 1 (t+1) rfl o_]
end
section
variable{np nv:Nat}{xp xv:ak}{F:Fact}{l:List (Nat×Nat)}{Fs:List (Nat×List Nat)}{m:Map}{S:Nat->Prop}{T:p_}{W1:h_}{y D:Nat}{cv:FuncId}
theorem aR2{L:l_}{t x z:Nat}(hx:L[t]?=some x)(hz:L[(t+1)%L.length]?=some z)(l:List (Nat×Nat)):
  l++ky ((lg L).take (t+1))=if x<z then(l++ky ((lg L).take t))++[(x,z)]else l++ky ((lg L).take t):=by
 rw[ua,aRX hx hz];show l++ky (_++[(x,z)])=_;rw[aRY];dsimp only;split
 ·rw[Bx]
 ·rfl
theorem aE5{k:Int}{L:l_}{t:Nat}{a b:List (Nat×Nat)}(h:q=8\/q=17\/q=12):
  uO (pq 12 [some 8] (ur np nv xp xv F k L (lL y cv T D) n2)++dc [some 8] (kN a)) 12 [some q] (K5 L.length t i y) (ur np nv xp xv F k L (lL y cv T D) n1) (kN b)=true:=by
 unfold kN;generalize cr ev a=r0;generalize cr ev b=r1;rcases h with rfl|rfl|rfl<;>kernel_rfl
theorem aR3{k:Int}{L:l_}(jn:xp.all flat=true)(iq:xv.all flat=true)(hF:F.rc=false)(ob:Aw 7 25 vA m T)(h63:l.length+L.length<1000000):
  ag prog (n9 W1 y S m) 41 (.block 2 (af f112 2)) (eY 12 [some 8] (K5 L.length 0 i y)) (pq 12 [some 8] (ur np nv xp xv F k L (lL y cv T D) l.length)++dc [some 8] (kN l)) 12
   ⟨.normal,[],ur np nv xp xv F k L (lL y cv T D) (l++ky (lg L)).length++marks 12 (kN (l++ky (lg L))),13⟩:=by
 have hb:∀ t,(l++ky ((lg L).take t)).length<1000000:=λt=>by have h1:=aE0 ((lg L).take t);rw[je,Wb]at h1;rw[jW];omega
 have e0:l++ky ((lg L).take 0)=l:=by rw[Ri];exact gO l
 have:=Rk (P:=prog) (B:=n9 W1 y S m) (N:=41) (b:=aE (af f112 2)) (next:=12) (p:=1) (r:=⟨.exit 2,[],ur np nv xp xv F k L (lL y cv T D) (l++ky (lg L)).length++marks 12 (kN (l++ky (lg L))),13⟩) L.length
  (λt=>K5 L.length t i y) (λt=>ur np nv xp xv F k L (lL y cv T D) (l++ky ((lg L).take t)).length) (λt=>kN (l++ky ((lg L).take t))) [some 8] (λ_ _=>rfl) (aE4 jn iq) (λ_ _=>aE2 _)
  (aE5 (.inl rfl)) rfl (λt ht=>by
   have hx:=bd ht;obtain⟨z,hz⟩:∃ z,L[(t+1)%L.length]?=some z:=⟨_,bd (cC _ o_)⟩;refine⟨[some (HW L[t] z)],if L[t]<z then 18 else 15,aE5 ?_,aE4 jn iq,?_⟩
   ·unfold HW;split
    ·exact .inr (.inl rfl)
    ·exact .inr (.inr rfl)
   ·have h:=aR1 (np:=np) (nv:=nv) (W1:=W1) (S:=S) (y:=y) (D:=D) (cv:=cv) (k:=k) (i:=i) jn iq hF ob hx hz (hb t) o_;rw[<-aR2 hx hz l]at h;exact h)
  (by rw[show(lg L).take L.length=lg L from jN (by rw[Wb];exact aZ _)];unfold ur lL kN;generalize (l++ky (lg L)).length=n;generalize cr ev (l++ky (lg L))=r;exact ay [.lt 19 L.length L.length false s_]) n_
 rw[e0]at this;exact bO (id:=2) this
def K6(n i y:Nat):aL:=[(10,vI i),(8,cx 2),(9,vI n),(0,.func (.yield y) #[] #[]),(1,bY 6)]
def uu(np nv:Nat)(xp xv:ak)(F:Fact)(r:Obj)(n:Nat):aC:=
 [(3,.aH [sl 0 np,sl 1 nv,cx 2] 28),(4,.aH [sl 8 n] 51),(6,.aH [sl 0 np,sl 1 nv,cx 2] 28),(7,r)]++jU xp xv F
theorem aE6{n:Nat}(jn:xp.all flat=true)(iq:xv.all flat=true):∀ p∈uu np nv xp xv F (lL y cv T D) n,wh 8 [some q] p.2:=λp hp=>by
 unfold uu at hp;rcases fm.1 hp with hp|hp
 ·simp only[ch,fF,fG]at hp;rcases hp with rfl|rfl|rfl|rfl
  ·exact Bk rfl
  ·exact λv hv=>by rw[wR]at hv;subst hv;rfl
  ·exact Bk rfl
  ·exact Bk rfl
 ·exact aE3 jn iq p hp
theorem aR4{k:Int}{L:l_}(jn:xp.all flat=true)(iq:xv.all flat=true)(hF:F.rc=false)(xD:ou fs F)(ob:Aw 7 25 vA m T)(hi:i<fs.length)(hf:fs[i]?=some (k,qN L))(h63:l.length+L.length<1000000)(vy:fs.length<1000000):
  ag prog (n9 W1 y S m) 41 (aE (af f112 0)) (K6 fs.length i y) (uu np nv xp xv F (lL y cv T D) l.length++marks 8 (kN l)) 9
   ⟨.normal,eY 8 [some 12] (K6 fs.length (i+1) y),pq 8 [some 12] (uu np nv xp xv F (lL y cv T D) (l++ky (lg L)).length)++dc [some 12] (kN (l++ky (lg L))),13⟩:=by
 have lo:=aR3 (np:=np) (nv:=nv) (W1:=W1) (S:=S) (y:=y) (D:=D) (cv:=cv) (k:=k) (i:=i) jn iq hF ob h63;have ln:=oX (P:=prog) (B:=n9 W1 y S m) (o:=au f112 17) k_ (k:=10) (l:=qN L);rw[show(qN L).length=L.length from gF ..]at ln;unfold uu;unfold ur lL kN at *;generalize (l++ky (lg L)).length=n1 at *;generalize cr ev (l++ky (lg L))=r1 at *;generalize cr ev l=r0 at *;exact ay [.lt 11 i fs.length true (aD hi),.step 13 (au f112 13) [cx 2,vI i] [(9,none),(9+1,none),(2,some (.fact F))] (bY 9) [(9,.view [iV k,cx 10]),(9+1,.fact (dK (qN L)))] (KO k_ xD hf d_),.step 17 _ _ _ _ _ ln,.code 2 _ _ _ _ _ lo,.sum 40 i 1 (i+1) rfl o_]
def gn(Fs:List (Nat×List Nat)):List (Nat×Nat):=ky (Fs.flatMap λf=>lg f.2)
theorem aR5{f:Nat×List Nat}(hf:Fs[i]?=some f):gn (Fs.take (i+1))=gn (Fs.take i)++ky (lg f.2):=by unfold gn ky;rw[ua,hf,JZ,Vq];simp
theorem aE7{M:Nat}(h:∀ f∈Fs,f.2.length<=M):(gn Fs).length<=Fs.length*M:=by
 unfold gn;refine c9 (aE0 _) ?_;induction Fs with
 |nil=>simp
 |cons f l ih=>
  rw[List.flatMap_cons,jW,Wb,pU,tC];have:=ih λg hg=>h g (bB _ hg);have:=h f (aN ..);omega
theorem aE8{a b:List (Nat×Nat)}(h:q=5\/q=12):
  uO (pq 8 [some 5] (uu np nv xp xv F (lL y cv T D) n2)++dc [some 5] (kN a)) 8 [some q] (K6 k i y) (uu np nv xp xv F (lL y cv T D) n1) (kN b)=true:=by
 unfold kN;generalize cr ev a=r0;generalize cr ev b=r1;rcases h with rfl|rfl<;>kernel_rfl
theorem aR6{M:Nat}(jn:xp.all flat=true)(iq:xv.all flat=true)(hF:F.rc=false)(xD:ou (Fs.map jR) F)(ob:Aw 7 25 vA m T)(hM:∀ f∈Fs,f.2.length<=M)(h63:(Fs.length+1)*M<1000000)(vy:Fs.length<1000000):
  ag prog (n9 W1 y S m) 41 (.block 0 (af f112 0)) (eY 8 [some 5] (K6 (Fs.map jR).length 0 y)) (pq 8 [some 5] (uu np nv xp xv F (lL y cv T D) 0)++dc [some 5] (kN [])) 8
   ⟨.normal,[],uu np nv xp xv F (lL y cv T D) (gn Fs).length++marks 8 (kN (gn Fs)),9⟩:=by
 have hlen:(Fs.map jR).length=Fs.length:=gF ..;have hb:∀ i,i<=Fs.length->(gn (Fs.take i)).length+M<1000000:=λi hi=>by have h1:=aE7 (Fs:=Fs.take i) (M:=M) λf hf=>hM f (EJ hf);rw[je,mE hi]at h1;have h2:i*M<=Fs.length*M:=eR _ hi;rw[tC]at h63;omega
 have:=Rk (P:=prog) (B:=n9 W1 y S m) (N:=41) (b:=aE (af f112 0)) (next:=8) (p:=1) (r:=⟨.exit 0,[],uu np nv xp xv F (lL y cv T D) (gn Fs).length++marks 8 (kN (gn Fs)),9⟩) (Fs.map jR).length
  (λi=>K6 (Fs.map jR).length i y) (λi=>uu np nv xp xv F (lL y cv T D) (gn (Fs.take i)).length) (λi=>kN (gn (Fs.take i))) [some 5] (λ_ _=>rfl) (aE6 jn iq) (λ_ _=>aE2 _)
  (aE8 (.inl rfl)) rfl (λi hi=>by
   have gU:i<Fs.length:=by omega
   have hq:=bd gU;have hm:=eh gU;have hc:(Fs.map jR)[i]?=some ((Fs[i].1:Int),qN Fs[i].2):=by rw[xN,hq];rfl
   refine⟨[some 12],13,aE8 (.inr rfl),aE6 jn iq,?_⟩;have h:=aR4 (np:=np) (nv:=nv) (W1:=W1) (S:=S) (y:=y) (D:=D) (cv:=cv) (l:=gn (Fs.take i)) jn iq hF xD ob hi hc (by have:=hb i o_;have:=hM _ hm;omega) o_;rw[<-aR5 hq]at h;exact h)
  (by rw[show Fs.take (Fs.map jR).length=Fs from jN o_];unfold uu lL kN;generalize (gn Fs).length=n;generalize cr ev (gn Fs)=r;exact ay [.lt 11 (Fs.map jR).length (Fs.map jR).length false s_]) n_
 exact bO (id:=0) this
def Fq(np nv:Nat)(l:List (Nat×Nat)):aC:=[(3,.aH [sl 0 np,sl 1 nv,cx 2] 28),(4,.aH [sl 8 l.length] 51),(6,.aH [sl 0 np,sl 1 nv,cx 2] 28),(8,.row (cr ev l) 88 2)]
theorem aR7{M:Nat}(jn:xp.all flat=true)(iq:xv.all flat=true)(hF:F.rc=false)(xD:ou (Fs.map jR) F)(hM:∀ f∈Fs,f.2.length<=M)(h63:(Fs.length+1)*M<1000000)(vy:Fs.length<1000000):
  Jt prog 7 25 #[11,12] (Az (oR Tryz.f20)) (AA (oR Tryz.f20)) vA (qQ np nv 5 []) (jU xp xv F) (Fq np nv (gn Fs)) m T 112 [bY 6] none:=by
 refine JA (Nc:=41) (ca:=[bY 6]) mixed func112 k_ 100 (v:=.tuple #[]) λob cv y D W1 S=>?_;have lo:=aR6 (np:=np) (nv:=nv) (W1:=W1) (S:=S) (y:=y) (D:=D) (cv:=cv) jn iq hF xD ob hM h63 vy;unfold Fq;unfold uu lL kN at lo;generalize Fs.map jR=fs at *;generalize (gn Fs).length=n at *;generalize cr ev (gn Fs)=r at *;exact⟨[.step 9 (au f112 9) [cx 2] [(2,some (.fact F))] (vI fs.length) [] (y0 k_ xD),.code 0 _ _ _ _ _ lo],k_⟩
theorem aR8:yD prog 64 6 ([.agg #[sl 0 np,sl 1 nv,cx 2]]++[]) [] (jU xp xv F) (.func (.func 112) #[] #[bY 6]) [(6,.aH [sl 0 np,sl 1 nv,cx 2] 28)]:=
 oh mixed func64 100 (N:=4) k_ (λ_=>[]) (λ_=>k_)
theorem aR9{M:Nat}(jn:xp.all flat=true)(hnp:np=0->xp=[])(iq:xv.all flat=true)(hnv:nv=0->xv=[])(hF:F.rc=false)(xD:ou (Fs.map jR) F)(hM:∀ f∈Fs,f.2.length<=M)(h63:(Fs.length+1)*M<1000000)(vy:Fs.length<1000000)(aY:gn Fs≠[])
  (qf:cJ prog 15 [.s np xp nv xv F] b_):ko prog 20 [.s np xp nv xv F] 88 2 (gn Fs).length (cr ev (xC (gn Fs))):=by
 have ax:([aJ.s np xp nv xv F].all aJ.ok)=true:=by show((xp.all flat&&(xv.all flat&&!F.rc))&&true)=true;rw[jn,iq,hF];rfl
 intro w vs cB;refine aKr (N:=25) (c:=(Tryz.f20).body.getD .skip) func20 k_ k_ ax (λι cc a hf hm ha hu=>?_) cB;have vv:=λB (o:Oper) (ho:da o.op=some (.func 15))=>od (P:=prog) (B:=B) (o:=o) (vs:=[.agg #[sl 0 np,sl 1 nv,cx 2]]) (nd:=[(0,some (.view xp)),(1,some (.view xv)),(2,some (.fact F))]) qf (.s (x1:=.view xp) (x2:=.view xv) rfl jn hnp rfl iq hnv .nil) ho k_ rfl
 have VB:(gn Fs).length<4611686018427387904:=by have:=aE7 hM;rw[tC]at h63;omega
 have uI:=λm T=>aR7 (np:=np) (nv:=nv) (m:=m) (T:=T) jn iq hF xD hM h63 vy;have jG:((jU xp xv F).all λp=>p.2.soft)=true:=by show(true&&(true&&(!F.rc&&true)))=true;rw[hF];rfl
 have hlen:=aE1 (xC (gn Fs));rw[(aEW _).length_eq]at hlen;have cA:=PO (xC (gn Fs));have st:=λBs (o:Oper) (ho:da o.op=some (.func 65))=>aRW (Bs:=Bs) (o:=o) VB aY ho 8
 have RQ:∀ p∈Fq np nv (gn Fs)++jU xp xv F,∀ v∈p.2.cells,pF 7 [8] v=true:=λp hp=>by
  rcases fm.1 hp with hp|hp
  ·simp only[Fq,ch,fF,fG]at hp;rcases hp with rfl|rfl|rfl|rfl
   ·exact Bj rfl
   ·exact λv hv=>by have hv:v∈[sl 8 (gn Fs).length]:=hv;rw[wR]at hv;subst hv;rfl
   ·exact Bj rfl
   ·exact Bj (Wc _)
  ·exact Bj (PQ jn iq p hp)
 have g0:ag prog (ae.at w) 25 (Cv Tryz.f20 0) (jL 0 (eE 0 [.s np xp nv xv F])) (iY 0 [.s np xp nv xv F]) 3 ⟨.normal,[(1,bY 3),(2,.slice none 0 0)],(3,.aH [sl 0 np,sl 1 nv,cx 2] 28)::jU xp xv F,4⟩:=ay [];have g1:ag prog (ae.at w) 25 (wZ (pP ((Tryz.f20).body.getD .skip))) [(1,bY 3),(2,.slice none 0 0)] ((3,.aH [sl 0 np,sl 1 nv,cx 2] 28)::jU xp xv F) 4 ⟨.normal,[(1,bY 3),(2,.slice none 0 0)],(3,.aH [sl 0 np,sl 1 nv,cx 2] 28)::jU xp xv F,4⟩:=
  ay [.step 7 _ _ _ _ _ (vv _ (au Tryz.f20 7) k_)]
 have g2:ag prog (ae.at w) 25 (Cv Tryz.f20 3) [(1,bY 3),(2,.slice none 0 0)] ((3,.aH [sl 0 np,sl 1 nv,cx 2] 28)::jU xp xv F) 4 ⟨.normal,[(1,bY 3),(2,.slice none 0 0),(3,bY 4)],(4,.aH [.slice none 0 0] 51)::(3,.aH [sl 0 np,sl 1 nv,cx 2] 28)::jU xp xv F,5⟩:=ay [];have g3:ag prog (ae.at w) 25 (Cv Tryz.f20 4) [(1,bY 3),(2,.slice none 0 0),(3,bY 4)] ((4,.aH [sl 5 0] 51)::(5,.row [] 88 2)::(4,.aH [.slice none 0 0] 51)::(3,.aH [sl 0 np,sl 1 nv,cx 2] 28)::jU xp xv F) 6 ⟨.normal,vA,qQ np nv 5 []++jU xp xv F,7⟩:=ay [
  .step 10 _ _ _ _ _ (aA0 (K:=6) (args:=[.agg #[sl 0 np,sl 1 nv,cx 2]]) (ca:=[]) (ns:=[6]) (Os:=[]) (Vs:=jU xp xv F) (x:=.func 64) (o:=au Tryz.f20 10) aR8 k_ k_ k_ k_ (aX.2 λp hp=>by
   rw[jg]at hp;rw[PQ jn iq p hp,ja];simp only[jU,ch,fF,fG]at hp;rcases hp with rfl|rfl|rfl<;>rfl) (λp hp=>by
   rw[wR]at hp;subst hp;exact Bj rfl) k_ (λp hp=>by rw[wR]at hp;subst hp;exact .inl rfl) jG (S3 rfl))]
 have ge:∀ B,ag prog B 25 (pP (pP (pP (pP ((Tryz.f20).body.getD .skip))))) vA (Fq np nv (gn Fs)++jU xp xv F) 9 ⟨.ret,[(2,sl 8 (gn Fs).length)],[(8,.row (cr ev (xC (gn Fs))) 88 2)],9⟩:=λB=>by have st:=st B (au Tryz.f20 23) k_;unfold Fq;generalize cr ev (xC (gn Fs))=r1 at *;generalize cr ev (gn Fs)=r0 at *;generalize (gn Fs).length=n at *;exact ay [.step 23 _ _ _ _ _ st]
 refine lp (g0 none _ _ a w _ hf hm ha hu λsC cc0 a0 w0 aAe zG jJ mG ye JC _=>?_);refine lp (g1 none _ _ a0 w0 _ zG jJ mG ye λbF fV a1 w1 iK gN cP dT du gE _=>?_);refine lp (g2 none _ _ a1 w1 _ gN cP dT du λdf qa a2 w2 ke iU dz fO ew fT _=>?_);obtain⟨Nx,cc3,TT,uy,Ax,Te⟩:=St.aDL (k:=4) (pre:=[]) (post:=[]) (tb:=51) ⟨df,qa,iU,dz,fO,ew⟩ rfl 88 2;refine lp (lp (g3 none _ _ a2 w2 _ TT uy Ax Te λaSX cc4 a4 w4 aSY hf4 hm4 ha4 hu4 hk4 _=>Ij ?_));refine Tg (next:=7) (next':=9) (ns:=[8]) (Os:=qQ np nv 5 []) (Vs:=jU xp xv F) (ck:=Fq np nv (gn Fs)) (gf:=112) (ca:=[bY 6]) (j:=none) hf4 hm4 ha4 hu4 k_ jG k_ k_ k_ k_ k_ k_ d_ k_ RQ (uI _ _) λD κ bP w' Cu hDw _ hf5 Tf ha5 hu5=>?_;refine Z9 (B:=ae.at w) (v:=sl 8 (gn Fs).length) ge rfl k_ hf5 Tf ha5 hu5 rfl (λF h=>h) Cu λao cc v' w' hc bh il=>⟨v',rfl,?_,bh.base⟩;have:=uJ bh (il 8 _ rfl) hc o_ cA;rwa[<-hlen,nB]at this
end
section
open V3 (dot aw cV smul)
section
noncomputable def HX(k:Nat)(p:HS K):aO prog Bs 38:=
 .bs f16 31 k 1 66 40 [0] (RP.v ⟨rT,Ht⟩) [dr p] (cS p).cs.toArray (.row (cS p).cs 66 40) rfl (λv hv=>by simp at hv;subst hv;rfl) (λv hv=>iD.flat _ v hv) k_ rfl d_ d_ k_
noncomputable def K7(k n:Nat)(l l':c_)(p:HS K)(hl:l.length=n)(hn:n<=6)(cW:l'=l++[p]):aO prog Bs 38:=
 .pr f16 32 (k+2) (k-1) n 1 (n+1) 66 40 480 (bw l) (k+1) (.row (cS p).cs 66 40) (bw l') rfl rfl rfl (by rw[C7,hl]) (by subst cW;exact aEK l p) (iD.one _) d_ (by simp[maxLen];omega) o_ k_
noncomputable def bk6(n1 n2 n3 n4 n5 n6:V3 K):aO prog Bs 38:=
 .bs f16 20 1 6 42 30 [0,1,2,3,4,5] (RV.v rT) [bN n1,bN n2,bN n3,bN n4,bN n5,bN n6] (aW [n1,n2,n3,n4,n5,n6]).toArray (.row (aW [n1,n2,n3,n4,n5,n6]) 42 30) k_ (λv hv=>by simp only[ch,fF,fG]at hv;rcases hv with rfl|rfl|rfl|rfl|rfl|rfl<;>rfl) (λv hv=>aX.1 (eH _) v hv) k_ k_ d_ d_ k_
variable{n1 n2 n3 n4 n5 n6:V3 K}{q:K}{z:Int}
structure aE9(n1 n2 n3 n4 n5 n6:V3 K)(q:K)(z:Int):Prop where
 c1:aB prog 59 [.int .i64 1,.int .i64 0,.int .i64 0] (bN n1)
 c2:aB prog 59 [.int .i64 (-1),.int .i64 0,.int .i64 0] (bN n2)
 c3:aB prog 59 [.int .i64 0,.int .i64 1,.int .i64 0] (bN n3)
 c4:aB prog 59 [.int .i64 0,.int .i64 (-1),.int .i64 0] (bN n4)
 c5:aB prog 59 [.int .i64 0,.int .i64 0,.int .i64 1] (bN n5)
 c6:aB prog 59 [.int .i64 0,.int .i64 0,.int .i64 (-1)] (bN n6)
 d:aB prog 60 [.int .i64 z] (bZ q)
set_option maxRecDepth 100000 in
theorem aSa{n:Nat}(h:aE9 n1 n2 n3 n4 n5 n6 q z)(h1:1<=z)(h2:z<=1000000)(hx:xs.all flat=true)(hl:xs.length=n*30)(vB:F.rc=false)
  (zn:A1 prog 12 [ee (Bg n1 n2 n3 n4 n5 n6 q)] 66 40 6 (bw (Bg n1 n2 n3 n4 n5 n6 q)) 42 30 n xs F [mz 0]) :
  A1 prog 16 [.p (.int .i64 z)] 66 40 6 (bw (Bg n1 n2 n3 n4 n5 n6 q)) 42 30 n xs F [mz 0]:=by
 refine Ul (k1:=20) (k2:=21) (k3:=22) mixed func16 rfl 300 (N:=38) k_ (λw=>[
  .rw 8 (.bool (decide (z<1))) a_ (by rw[aQ o_]),.rw 11 (.bool (decide (z>1000000))) a_ (by rw[aQ o_]),
  h.c1.at 14,h.c2.at 15,h.c3.at 16,h.c4.at 17,h.c5.at 18,h.c6.at 19,
  bk6 n1 n2 n3 n4 n5 n6,
  h.d.at 29,HX 3 ⟨n1,q⟩,.ap0 f16 32 4 1 66 40 480 3 (.row (cS ⟨n1,q⟩).cs 66 40) (bw [⟨n1,q⟩]) rfl rfl (aRf _) d_ d_ d_ k_,
  h.d.at 29,HX 6 ⟨n2,q⟩,K7 5 1 [⟨n1,q⟩] [⟨n1,q⟩,⟨n2,q⟩] ⟨n2,q⟩ rfl d_ rfl,
  h.d.at 29,HX 9 ⟨n3,q⟩,K7 8 2 [⟨n1,q⟩,⟨n2,q⟩] [⟨n1,q⟩,⟨n2,q⟩,⟨n3,q⟩] ⟨n3,q⟩ rfl d_ rfl,
  h.d.at 29,HX 12 ⟨n4,q⟩,K7 11 3 [⟨n1,q⟩,⟨n2,q⟩,⟨n3,q⟩] [⟨n1,q⟩,⟨n2,q⟩,⟨n3,q⟩,⟨n4,q⟩] ⟨n4,q⟩ rfl d_ rfl,
  h.d.at 29,HX 15 ⟨n5,q⟩,K7 14 4 [⟨n1,q⟩,⟨n2,q⟩,⟨n3,q⟩,⟨n4,q⟩] [⟨n1,q⟩,⟨n2,q⟩,⟨n3,q⟩,⟨n4,q⟩,⟨n5,q⟩] ⟨n5,q⟩ rfl d_ rfl,
  h.d.at 29,HX 18 ⟨n6,q⟩,K7 17 5 [⟨n1,q⟩,⟨n2,q⟩,⟨n3,q⟩,⟨n4,q⟩,⟨n5,q⟩] (Bg n1 n2 n3 n4 n5 n6 q) ⟨n6,q⟩ rfl d_ rfl,
  .step 35 (au f16 35) [.func (.func 12) #[] #[],sl 19 6] [(20,none),(21,none),(22,none),(19,some (.row (bw (Bg n1 n2 n3 n4 n5 n6 q)) 66 40))] (.tuple #[.agg #[sl 20 6,sl 21 n,cx 22],mz 0]) [(22,.fact (F.iS w.heap.size)),(21,.row xs 42 30),(20,.row (bw (Bg n1 n2 n3 n4 n5 n6 q)) 66 40)]
   (Hf (B:=ae.at w) (S:=w.heap.size) zn (.w (x:=.row (bw (Bg n1 n2 n3 n4 n5 n6 q)) 66 40) rfl (dF _) j4 .nil) (x:=.func 12) k_ k_ vB (dF _) hx rfl (λw' hb=>Below.size hb) 20)]) (λw=>?_) d_ (dF _) (C7 _) hx hl rfl
 kernel_rfl
end
theorem aSb(hz:z.natAbs<9223372036854775808):aE9 ⟨kI 1,kI 0,kI 0⟩ ⟨kI (-1),kI 0,kI 0⟩ ⟨kI 0,kI 1,kI 0⟩ ⟨kI 0,kI (-1),kI 0⟩ ⟨kI 0,kI 0,kI 1⟩ ⟨kI 0,kI 0,kI (-1)⟩ (kI z) z:=
 ⟨wS d_ d_ d_,wS d_ d_ d_,wS d_ d_ d_,wS d_ d_ d_,wS d_ d_ d_,wS d_ d_ d_,sK hz⟩
theorem aSc:cJ prog 39 [.o (dK [4,6,7,5]),.r 4 (e6 [4,6,7,5])] b_:=
 wT func39 26 (λw=>[.step 7 (au f39 7) [cx 0] [(0,some (.fact (dK [4,6,7,5])))] (vI 4) [] (oX k_),.step 13 (au f39 13) [cx 0] [(0,some (.fact (dK [4,6,7,5])))] (vI 4) [] (oX k_),.step 19 (au f39 19) [cx 0,vI 0] [(2,none),(0,some (.fact (dK [4,6,7,5])))] (bY 2) [(2,.view [iV 4])] (Dj k_ rfl),.step 13 (au f39 13) [cx 0] [(0,some (.fact (dK [4,6,7,5])))] (vI 4) [] (oX k_),.step 19 (au f39 19) [cx 0,vI 1] [(3,none),(0,some (.fact (dK [4,6,7,5])))] (bY 3) [(3,.view [iV 6])] (Dj k_ rfl),.step 13 (au f39 13) [cx 0] [(0,some (.fact (dK [4,6,7,5])))] (vI 4) [] (oX k_),.step 19 (au f39 19) [cx 0,vI 2] [(4,none),(0,some (.fact (dK [4,6,7,5])))] (bY 4) [(4,.view [iV 7])] (Dj k_ rfl),.step 13 (au f39 13) [cx 0] [(0,some (.fact (dK [4,6,7,5])))] (vI 4) [] (oX k_),.step 19 (au f39 19) [cx 0,vI 3] [(5,none),(0,some (.fact (dK [4,6,7,5])))] (bY 5) [(5,.view [iV 5])] (Dj k_ rfl),.step 13 (au f39 13) [cx 0] [(0,some (.fact (dK [4,6,7,5])))] (vI 4) [] (oX k_)])
section
variable{ps:c_}
theorem nI.both(h:nI ps):oS ps=true/\rO ps (cD ps)=true:=by have:=h.TH;unfold Fl at this;rwa[cY]at this
theorem nI.made(h:nI ps):A1 prog 12 [ee ps] 66 40 ps.length (bw ps) 42 30 (cD ps).length (aW (cD ps)) (mn (jF ps)) [mz 0]:=aDJ h.K3 h.both.1 h.both.2
theorem nI.aSd(h:nI ps)(aY:gn (eK ps (cD ps) ps.length)≠[]):
  ko prog 20 [PM ps] 88 2 (gn (eK ps (cD ps) ps.length)).length (cr ev (xC (gn (eK ps (cD ps) ps.length)))):=by
 have hl:=KH ps (cD ps) ps.length;have h9:=h.len;exact aR9 (Fs:=eK ps (cD ps) ps.length) (M:=1600) (dF ps) j4 (eH _) wU rfl (ou.full _) (λf hf=>by have:=V0 (ps:=ps) o_ (jR f) (dq.2 ⟨f,hf,rfl⟩);simpa[jR]using this) o_ o_ aY h.valid
end
theorem aSe{xv es:ak}{k:Int}(xD:ou fs F)(hF:F.rc=false)(f1:eg.all flat=true)(f2:xv.all flat=true)(he:es.all flat=true)(h6:fs.length=6)(h0:fs[0]?=some (k,[4,6,7,5]))
  (hB:A1 prog 16 [.p (vI 1)] 66 40 6 eg 42 30 8 xv F [mz 0]) (hV:cJ prog 15 [.s 6 eg 8 xv F] b_) (hE:ko prog 20 [.s 6 eg 8 xv F] 88 2 12 es) :
  cJ prog 10 [] b_:=by
 have ln:=λ(B:ae) (S:Nat)=>y0 (P:=prog) (B:=B) (o:=au f10 18) k_ (k:=2) (xD.iS S)
 rw[h6]at ln;exact jP mixed func10 rfl 300 (N:=40) k_ (λw=>[
  .step 4 (au f10 4) [.func (.func 16) #[] #[],vI 1] [(0,none),(1,none),(2,none)] (.tuple #[.agg #[sl 0 6,sl 1 8,cx 2],mz 0]) [(2,.fact (F.iS w.heap.size)),(1,.row xv 42 30),(0,.row eg 66 40)]
   (Hf (B:=ae.at w) (S:=w.heap.size) hB (.p rfl .nil) (x:=.func 16) k_ k_ hF f1 f2 rfl (λw' hb=>Below.size hb) 0),
  .step 18 _ _ _ _ _ (ln _ w.heap.size),
  .step 24 (au f10 24) [cx 2,vI 0] [(4,none),(4+1,none),(2,some (.fact (F.iS w.heap.size)))] (bY 4) [(4,.view [iV k,cx 5]),(4+1,.fact (dK [4,6,7,5]))] (KO k_ (xD.iS _) h0 d_),
  .bs f10 27 6 4 3 1 [0,1,2,3] (vI 0) [vI 4,vI 6,vI 7,vI 5] #[vI 4,vI 6,vI 7,vI 5] (.row (e6 [4,6,7,5]) 3 1) rfl (λv hv=>by
   simp only[ch,fF,fG]at hv;rcases hv with rfl|rfl|rfl|rfl<;>rfl) (λv hv=>by
   simp only[ch,fF,fG]at hv;rcases hv with rfl|rfl|rfl|rfl<;>rfl) k_ rfl d_ d_ k_,.cR f10 28 [cx 5,sl 6 4] aSc (.o (k:=5) (.w (k:=6) (x:=.row (e6 [4,6,7,5]) 3 1) rfl rfl n_ .nil)),.step 32 (au f10 32) [.func (.func 15) #[] #[],.agg #[sl 0 6,sl 1 8,cx 2]] [(0,some (.row eg 66 40)),(1,some (.row xv 42 30)),(2,some (.fact (F.iS w.heap.size)))] b_ []
   (od hV (.si (VY _ _) (x1:=.row eg 66 40) (x2:=.row xv 42 30) rfl f1 n_ rfl f2 n_ .nil) (x:=.func 15) k_ k_ k_),
  .step 36 (au f10 36) [.func (.func 20) #[] #[],.agg #[sl 0 6,sl 1 8,cx 2]] [(7,none),(0,some (.row eg 66 40)),(1,some (.row xv 42 30)),(2,some (.fact (F.iS w.heap.size)))] (sl 7 12) [(7,.row es 88 2)]
   (rI hE (.si (VY _ _) (x1:=.row eg 66 40) (x2:=.row xv 42 30) rfl f1 n_ rfl f2 n_ .nil) (x:=.func 20) k_ k_ he 7)]) (λw=>k_) k_
theorem aSf:eK lf V4 6=[(0,[4,6,7,5]),(1,[0,1,3,2]),(2,[2,3,7,6]),(3,[0,4,5,1]),(4,[1,5,7,3]),(5,[0,2,6,4])]:=by kernel_rfl
theorem Wf:cJ prog 10 [] b_:=by
 have zn:=V8.made;have hV:=V8.valid;have hF:eK lf (cD lf) lf.length=[(0,[4,6,7,5]),(1,[0,1,3,2]),(2,[2,3,7,6]),(3,[0,4,5,1]),(4,[1,5,7,3]),(5,[0,2,6,4])]:=by rw[aEQ];exact aSf
 have hE:=V8.aSd (by rw[hF];decide);have hfs:jF lf=[(0,[4,6,7,5]),(1,[0,1,3,2]),(2,[2,3,7,6]),(3,[0,4,5,1]),(4,[1,5,7,3]),(5,[0,2,6,4])]:=by unfold jF;rw[hF];rfl
 have hl:(gn (eK lf (cD lf) lf.length)).length=12:=by rw[hF];decide
 have hv:(cD lf).length=8:=by rw[aEQ];rfl
 have he:=aX.2 (PO (xC (gn (eK lf (cD lf) lf.length))));rw[hl]at hE;unfold PM at hE hV;rw[hfs]at hE hV zn;rw[hv]at hE hV zn;exact aSe (ou.full _) rfl (dF _) (eH _) he rfl rfl (aSa (z:=1) (aSb d_)
  d_ d_ (eH _) (by rw[sQ,hv]) rfl zn) hV hE

end
section
open CR OF
open V3 (dot aw cV smul)
section
variable{ps:c_}{rs:List RP}
theorem aSg:aB prog 35 [.slice none 0 0,.slice none 0 0] b_:=aV func35 (λ_=>[])
theorem aSh:aB prog 14 [uk,uk] b_:=aV func14 (λ_=>[aSg.at 28])
theorem aSi(h:nI ps):cJ prog 14 [.s ps.length (bw ps) (cD ps).length (aW (cD ps)) (jS (jF ps)),.s ps.length (bw ps) (cD ps).length (aW (cD ps)) (jS (jF ps))] b_:=by
 have hv:=h.vsz;have h9:=h.len;have hl:=aED ps;have hp:∀ x∈ps.map cS,x.Sm:=λx hx=>by obtain⟨p,hp,rfl⟩:=dq.1 hx;exact(h.sz p hp).1.sm d_
 have aK:∀ x∈(cD ps).map cO,x.Sm:=λx hx=>by obtain⟨v,oC,rfl⟩:=dq.1 hx;exact(hv.1 v oC).sm d_
 have:=aRe (ra:=ps.map cS) (rb:=ps.map cS) (va:=(cD ps).map cO) (vb:=(cD ps).map cO) (fa:=jF ps) (fb:=jF ps) hp hp aK aK (by rw[gF];omega) (by rw[gF];have:=hv.2;omega) o_ λf hf=>eP (V0 o_ f hf) d_;rw[show PF (ps.map cS) (ps.map cS) ((cD ps).map cO) ((cD ps).map cO) (jF ps) (jF ps)=true by unfold PF;simp]at this;unfold Fm at this;rw[gF,gF]at this;exact this
theorem Wg{e:Int}(he:e=1\/e=12\/e=13)(xE:cJ prog 11 [te rs,.p (vI 9)] b_)(h1:cJ prog 12 [te rs] (.tuple #[uk,mz e]))(h2:cJ prog 13 [te rs] (.tuple #[uk,mz e])):
  cJ prog 3 [te rs] b_:=by
 have ax:([te rs].all aJ.ok)=true:=by show((db rs).all flat&&true)=true;rw[iZ iD];rfl
 have hn:=aEI (rs:=rs);have cA:(db rs).all flat=true:=iZ iD rs;unfold te at *;generalize db rs=X at *;rcases he with rfl|rfl|rfl<;>
 exact jP mixed func3 ax 300 (N:=38) k_ (λw=>[.cR Tryz.f3 7 [] Wf .nil,.cR Tryz.f3 10 [sl 0 rs.length,vI 9] xE (.w (k:=0) (x:=.view X) rfl cA hn (.p rfl .nil)),.cR Tryz.f3 14 [sl 0 rs.length] h1 (.w (k:=0) (x:=.view X) rfl cA hn .nil),.cR Tryz.f3 19 [sl 0 rs.length] h2 (.w (k:=0) (x:=.view X) rfl cA hn .nil),aSh.at 24]) (λ_=>k_) k_
theorem aSj(h:nI ps)(xE:cJ prog 11 [ee ps,.p (vI 9)] b_):cJ prog 3 [ee ps] b_:=by
 have ax:([ee ps].all aJ.ok)=true:=by show((bw ps).all flat&&true)=true;rw[dF];rfl
 have h1:=h.made;have h2:=aRq (m:=24) (M:=4000) ⟨h.len,h.sz,by decide,by decide⟩ h.cl h.proper h.full;have h3:=aSi h;have h4:=h.valid;have hW:=λS=>((ou.full (jF ps)).iS S).G;have f1:=dF ps;have f2:=eH (cD ps);have n1:=j4 (ps:=ps);have n2:=wU (vs:=cD ps);unfold PM at h4;unfold ee at *;generalize bw ps=X at *;generalize aW (cD ps)=Y at *;generalize (cD ps).length=nv at *;generalize ps.length=n at *;generalize jF ps=fs at *;exact jP mixed func3 ax 300 (N:=38) k_ (λw=>[.cR Tryz.f3 7 [] Wf .nil,.cR Tryz.f3 10 [sl 0 n,vI 9] xE (.w (k:=0) (x:=.view X) rfl f1 n1 (.p rfl .nil)),.step 14 (au Tryz.f3 14) [.func (.func 12) #[] #[],sl 0 n] [(1,none),(2,none),(3,none),(0,some (.view X))] (.tuple #[.agg #[sl 1 n,sl 2 nv,cx 3],mz 0]) [(3,.fact ((mn fs).iS w.heap.size)),(2,.row Y 42 30),(1,.row X 66 40)]
   (Hf (B:=ae.at w) (S:=w.heap.size) h1 (.w (x:=.view X) rfl f1 n1 .nil) (x:=.func 12) k_ k_ rfl f1 f2 rfl (λw' hb=>Below.size hb) 1),
  .step 19 (au Tryz.f3 19) [.func (.func 13) #[] #[],sl 0 n] [(5,none),(6,none),(7,none),(0,some (.view X))] (.tuple #[.agg #[sl 5 n,sl 6 nv,cx 7],mz 0]) [(7,.fact ((mn fs).iS w.heap.size)),(6,.row Y 42 30),(5,.row X 66 40)]
   (Hf (B:=ae.at w) (S:=w.heap.size) h2 (.w (x:=.view X) rfl f1 n1 .nil) (x:=.func 13) k_ k_ rfl f1 f2 rfl (λw' hb=>Below.size hb) 5),
  .step 24 (au Tryz.f3 24) [.func (.func 14) #[] #[],.agg #[sl 1 n,sl 2 nv,cx 3],.agg #[sl 5 n,sl 6 nv,cx 7]] [(1,some (.row X 66 40)),(2,some (.row Y 42 30)),(3,some (.fact ((mn fs).iS w.heap.size))),(5,some (.row X 66 40)),(6,some (.row Y 42 30)),(7,some (.fact ((mn fs).iS w.heap.size)))] b_ []
   (od h3 (.si (hW _) (x1:=.row X 66 40) (x2:=.row Y 42 30) rfl f1 n1 rfl f2 n2 (.si (hW _) (x1:=.row X 66 40) (x2:=.row Y 42 30) rfl f1 n1 rfl f2 n2 .nil)) (x:=.func 14) k_ k_ k_),
  .step 35 (au Tryz.f3 35) [.func (.func 15) #[] #[],.agg #[sl 1 n,sl 2 nv,cx 3]] [(1,some (.row X 66 40)),(2,some (.row Y 42 30)),(3,some (.fact ((mn fs).iS w.heap.size)))] b_ []
   (od h4 (.si (VY _ _) (x1:=.row X 66 40) (x2:=.row Y 42 30) rfl f1 n1 rfl f2 n2 .nil) (x:=.func 15) k_ k_ k_)]) (λ_=>k_) k_
theorem aSk(h63:rs.length<9223372036854775807):cJ prog 3 [te rs] b_:=by
 have xE:=aPS (ps:=rs) 9 h63;by_cases hb:HA rs 9=true
 ·rw[hb]at xE;rcases aRI (aZ _) hb with ⟨h1,h2⟩|⟨ps,rfl,hp,h|⟨h,hi⟩|h⟩
  ·exact Wg (.inl rfl) xE (aRJ h63 h1 h2) (aQ3 h2 d_ h63 h1)
  ·refine Wg (.inr (.inr rfl)) xE (by rw[HT];exact aDH hp.K3 h) (by rw[HT];exact aQ4 hp.ref (EZ.2 λk=>by rw[KY.2 (VU.1 k)]at h;cases h))
  ·have hc:=KY.1 h;refine Wg (.inr (.inl rfl)) xE (by rw[HT];exact aDI hp.K3 h hi) (by
    rw[HT];refine aQ5 hp.ref (VU.2 hc) ?_;cases hs:zj (ig ps)with
    |true=>rfl
    |false=>
     rw[(aEM hc hp.proper).2 (aRi hp.proper hs)]at hi;cases hi)
  ·have:=aSj h (by have e:=xE;rw[show aJ.r (ps.map cS).length (db (ps.map cS))=ee ps from HT ps]at e;exact e)
   rw[HT];exact this
 ·have hb:HA rs 9=false:=by simpa using hb
  rw[hb]at xE;have ax:([te rs].all aJ.ok)=true:=by show((db rs).all flat&&true)=true;rw[iZ iD];rfl
  have hn:=aEI (rs:=rs);have cA:(db rs).all flat=true:=iZ iD rs;unfold te at *;generalize db rs=X at *;exact jP mixed func3 ax 300 (N:=38) k_ (λw=>[.cR Tryz.f3 7 [] Wf .nil,.cR Tryz.f3 10 [sl 0 rs.length,vI 9] xE (.w (k:=0) (x:=.view X) rfl cA hn (.p rfl .nil))]) (λ_=>k_) k_
end
end
end Go.Proofs.YthccllenbnhogaaGreatDoor
