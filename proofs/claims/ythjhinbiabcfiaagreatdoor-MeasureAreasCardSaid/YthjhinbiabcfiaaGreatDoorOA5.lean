/- Ends and areas: the proof of MeasureAreasCardSaid (the law's function answers true at every solid, direction and number; theorem measureAreas_card, last part), part 5 of 7; no condition. -/
import Derived.Test.YthjhinbiabcfiaaGreatDoorOA4
namespace Go.Proofs.YthjhinbiabcfiaaGreatDoor
open Go Go.RowKit Tryz
variable{i k a b j e off N cc cap len np n2 n1 A nv:Nat}{w w':h_}{ι:Map}{o:Oper}{c:g_}{f:FuncId}{B Bs:aa}{x:K}{t:Bool}{ps:c_}{fr:aN}{M:aH}{ty:TypeId}{xs cells' eT pre post xp:ah}{fn:Func}{α β:Type}{l:List aL}{u va res:i_}{fs:f_}{P:j_}{z:Int}{acc:e_}{ks:List (Value×ah)}{f':Int×List Int}
section
open V3 (dot av cE smul)
def ck(p:HS K)(vs:e_)(j:Nat):List Nat:=(List.range j).filter λk=>decide (dot p.n (aJ vs k)-p.d=0)
theorem aE8(p:HS K)(vs:e_)(j:Nat):ck p vs (j+1)=ck p vs j++(if dot p.n (aJ vs j)-p.d=0 then[j]else[]):=by
 unfold ck;rw[KG,List.filter_append]
 congr 1
 by_cases h:dot p.n (aJ vs j)-p.d=0<;>simp[h]
theorem Xb{p:HS K}{vs:e_}{x:Nat}(h:x∈ck p vs j):x<j:=by unfold ck at h;rw[aE9,j4]at h;exact h.1
theorem I2(p:HS K)(vs:e_)(j:Nat):(ck p vs j).length<=j:=by have:=List.length_filter_le (λk=>decide (dot p.n (aJ vs k)-p.d=0)) (List.range j);rw[yY]at this;exact this
def rP(ps:c_)(vs:e_)(i:Nat)(p:HS K):List (Nat×List Nat):=
 if(ps.take i).any (λq=>decide (canon p=canon q))then[]
 else if(ck p vs vs.length).length<3 then[]
 else if(order p.n (aJ vs) (ck p vs vs.length)).length>2 then[(i,order p.n (aJ vs) (ck p vs vs.length))]else[]
def kL(ps:c_)(vs:e_)(i:Nat):List (Nat×List Nat):=match ps[i]? with|some p=>rP ps vs i p|none=>[]
def cT(ps:c_)(vs:e_)(n:Nat):List (Nat×List Nat):=(List.range n).flatMap (kL ps vs)
theorem Mb(ps:c_)(vs:e_)(n:Nat):cT ps vs (n+1)=cT ps vs n++kL ps vs n:=by unfold cT;rw[KG,VE];simp
theorem aQ9(ps:c_)(vs:e_)(i:Nat)(p:HS K):(rP ps vs i p).length<=1:=by
 unfold rP;split
 ·exact jH _
 ·split
  ·exact jH _
  ·split
   ·exact bA _
   ·exact jH _
theorem I3(ps:c_)(vs:e_):∀ n,(cT ps vs n).length<=n
 |0=>bA _
 |n+1=>by
  rw[Mb,kP];have h1:=I3 ps vs n;have h2:(kL ps vs n).length<=1:=by
   unfold kL;split
   ·exact aQ9 _ _ _ _
   ·exact jH _
  omega
def eR(f:Nat×List Nat):Int×List Int:=((f.1:Int),f.2.map λx:Nat=>(x:Int))
section
variable{Bs:aa}{ps:c_}{vs:e_}
def Mc(nv j L:Nat):aN:=[(26,vI j),(24,sl 1 nv),(25,vI nv),(7,aX 3),(8,sl 4 L)]
def Aq(vs:e_)(p:HS K):aH:=[(1,.view (aG vs)),(3,.aI (db p).cs 50)]
def ki(l:l_):List Obj:=[.row (al l) 3 1]
theorem aRa{p:HS K}{m:Nat}:∀ x∈Aq vs p,fe m x.2:=λx hx=>by
 simp only[Aq,ct,iX,iY]at hx;rcases hx with rfl|rfl
 ·exact λv hv=>gB (bd.1 (cW vs) v hv)
 ·exact λv hv=>gB (ja.flat _ v hv)
theorem Xc{m:Nat}{l:l_}:∀ x∈ki l,fe m x:=λx hx=>by simp only[ki,ct,iX,iY]at hx;subst hx;exact λv hv=>gB (mD _ v hv)
theorem aRb{m q:Nat}{p:HS K}{l:l_}(hj:j<vs.length)(hp:bM m p)(jL:p.n≠0)(aQ:∀ v∈vs,aw q v)(hm:100*(m+q)+1000<=az)(h63:l.length<900000)(pT:vs.length<1000000):
  ∃ σ fC,(∀ l0:List Nat,zr (Aq vs p++dB [none] (ki l0)) 4 σ (Mc vs.length (j+1) (l++if dot p.n (aJ vs j)-p.d=0 then[j]else[]).length) (Aq vs p) (ki (l++if dot p.n (aJ vs j)-p.d=0 then[j]else[]))=true)/\
   af prog Bs 59 (aF (ag f146 2)) (Mc vs.length j l.length) (Aq vs p++marks 4 (ki l)) 5 ⟨.normal,fj 4 σ (Mc vs.length (j+1) (l++if dot p.n (aJ vs j)-p.d=0 then[j]else[]).length),Aq vs p++dB σ (ki (l++if dot p.n (aJ vs j)-p.d=0 then[j]else[])),fC⟩:=by
 have hv:=iy hj;have hs:=Le hp (aQ _ (cH hv)) o_ jL;by_cases h:dot p.n (aJ vs j)-p.d=0
 ·rw[ax h];have e:(Value.bool (OF.aD (dot p.n (aJ vs j)-p.d)==0))=.bool true:=by rw[OF.Oo.1 h];rfl
  have hr:al l++[vI j]=al (l++[j]):=by simp[al]
  have Eb:(al l).length=l.length*1:=by rw[nP,gC]
  have h1:=L8 l;rw[show(l++[j]).length=l.length+1 by simp];unfold ki;refine⟨[some 7],8,λl0=>k_,?_⟩;generalize OF.aD (dot p.n (aJ vs j)-p.d)=z at *;generalize aJ vs j=v at *;generalize al l=c0 at *;generalize al (l++[j])=c1 at *;exact aC [.lt 27 j vs.length true (aE hj),.cM f146 29 1 vs.length j 30 hj k_,.ld f146 30 38 1 (j*30) (.view (aG vs)) (aZ v) rfl (gD hv) k_,hs.at 33,.rw 34 (.bool (z==0)) b_ e,.bs f146 37 6 1 3 1 [0] (vI 0) [vI j] #[vI j] (.row [vI j] 3 1) rfl (λv hv=>by simp at hv;subst hv;rfl) (λv hv=>by simp at hv;subst hv;rfl) k_ rfl d_ d_ k_,.oX f146 38 7 4 l.length 1 (l.length+1) 3 1 8 c0 6 (.row [vI j] 3 1) c1 rfl rfl rfl Eb hr (λv hv=>by simp[Obj.cells]at hv;subst hv;rfl) d_ (by simp[maxLen];omega) o_ k_,.sum 39 j 1 (j+1) rfl o_]
 ·rw[ao h,jh];have e:(Value.bool (OF.aD (dot p.n (aJ vs j)-p.d)==0))=.bool false:=by
   congr 1
   have:OF.aD (dot p.n (aJ vs j)-p.d)≠0:=λe=>h (OF.Oo.2 e);simpa using this
  refine⟨[some 4],6,λl0=>k_,?_⟩;generalize OF.aD (dot p.n (aJ vs j)-p.d)=z at *;generalize aJ vs j=v at *;exact aC [.lt 27 j vs.length true (aE hj),.cM f146 29 1 vs.length j 30 hj k_,.ld f146 30 38 1 (j*30) (.view (aG vs)) (aZ v) rfl (gD hv) k_,hs.at 33,.rw 34 (.bool (z==0)) a_ e,.sum 39 j 1 (j+1) rfl o_]
theorem Xd{m q:Nat}{p:HS K}(hp:bM m p)(jL:p.n≠0)(aQ:∀ v∈vs,aw q v)(hm:100*(m+q)+1000<=az)(h63:vs.length<900000):
  af prog Bs 59 (.block 2 (ag f146 2)) (fj 4 [none] (Mc vs.length 0 0)) (Aq vs p++dB [none] (ki [])) 4 ⟨.normal,[(8,sl 4 (ck p vs vs.length).length),(7,aX 3)],Aq vs p++marks 4 (ki (ck p vs vs.length)),5⟩:=by
 have:=pH (P:=prog) (B:=Bs) (N:=59) (b:=aF (ag f146 2)) (next:=4) (p:=1) (r:=⟨.exit 2,[(8,sl 4 (ck p vs vs.length).length),(7,aX 3)],Aq vs p++marks 4 (ki (ck p vs vs.length)),5⟩) vs.length
  (λj=>Mc vs.length j (ck p vs j).length) (λ_=>Aq vs p) (λj=>ki (ck p vs j)) [none] (λ_ _=>rfl) (λj _=>⟨aRa,Xc⟩) k_ k_
  (λj hj=>by have hl:=I2 p vs j;obtain⟨σ,fC,h1,h2⟩:=aRb (Bs:=Bs) (l:=ck p vs j) hj hp jL aQ hm o_ o_;rw[aE8];exact⟨σ,fC,h1 _,h2⟩)
  (by generalize ck p vs vs.length=a;exact aC [.lt 27 vs.length vs.length false s_]) n_
 exact bO (id:=2) this
def fI(n nv i c:Nat):aN:=[(14,vI i),(12,sl 0 n),(13,vI n),(0,sl 0 n),(1,sl 1 nv),(5,sl 2 c)]
def fM(ps:c_)(vs:e_)(cells:ah):aH:=[(0,.view (bB ps)),(1,.view (aG vs)),(2,.row cells 47 2)]
def oG(ps:c_)(i:Nat)(p:HS K):Bool:=(ps.take i).any λq=>decide (canon p=canon q)
noncomputable def fS{m:Nat}{p:HS K}(hi:i<ps.length)(jn:ps[i]?=some p)(cd:∀ p∈ps,bM m p/\p.n≠0)(hm:100*m+1000<=az)(h63:ps.length<=500)(ht:oG ps i p=t)(more:bL prog Bs 59):bL prog Bs 59:=
 .lt 15 i ps.length true (aE hi)::.cM f146 17 0 ps.length i 40 hi k_::.ld f146 18 50 0 (i*40) (.view (bB ps)) (dH p) rfl (z8 jn) k_::.upto f146 21 0 ps.length i 40 o_ k_::
  .step 23 (aA f146 23) [.func (.func 139) #[] #[],sl 0 i,.func (.func 188) #[] #[aX 3]] [(0,some (.view (bB ps))),(3,some (.aI (db p).cs 50))] (.bool t) [] (by
   have hp:=cd p (cH jn);have hc:=VK (g:=188) (caps:=(db p).cs) (ps:=ps.take i) (b:=λq=>decide (canon p=canon q)) k_ (bd.2 (ja.flat _)) (by rw[jr];omega) λq hq=>
    aMH hp.1 (cd q (Iw hq)).1 o_ o_ hp.2 (cd q (Iw hq)).2
   rw[show(ps.take i).any (λq=>decide (canon p=canon q))=t from ht]at hc;have hl:(ps.take i).length=i:=by rw[jr];omega
   have e:bB (ps.take i)=((Obj.view (bB ps)).cells.drop 0).take (i*40):=by show _=((bB ps).drop 0).take (i*40);rw[mg];unfold bB;rw[VG ja,<-CI]
   unfold fO at hc;rw[hl,e]at hc;exact pb hc (.r (x:=.view (bB ps)) rfl (dx ps) (λh=>by rw[h]) (.f (x:=.aI (db p).cs 50) rfl (bd.2 (ja.flat _)) .nil)) (x:=.func 139) k_ k_ rfl)::more
theorem aRc{c m:Nat}{p:HS K}{cells:ah}(hi:i<ps.length)(jn:ps[i]?=some p)(cd:∀ p∈ps,bM m p/\p.n≠0)(hm:100*m+1000<=az)(h63:ps.length<=500)(ht:oG ps i p=true):
  af prog Bs 59 (aF (ag f146 0)) (fI ps.length vs.length i c) (fM ps vs cells) 3 ⟨.normal,fI ps.length vs.length (i+1) c,fM ps vs cells,4⟩:=
 aC (fS hi jn cd hm h63 ht [.sum 57 i 1 (i+1) rfl o_])
theorem aRd{c m q:Nat}{p:HS K}{cells:ah}(hi:i<ps.length)(jn:ps[i]?=some p)(cd:∀ p∈ps,bM m p/\p.n≠0)(aQ:∀ v∈vs,aw q v)(hm:100*(m+q)+1000<=az)(h63:ps.length<=500)(iz:vs.length<900000)(ht:oG ps i p=false)(ho:(ck p vs vs.length).length<3):
  af prog Bs 59 (aF (ag f146 0)) (fI ps.length vs.length i c) (fM ps vs cells) 3 ⟨.normal,fI ps.length vs.length (i+1) c,fM ps vs cells,5⟩:=by
 have hp:=cd p (cH jn);have lo:=Xd (Bs:=Bs) hp.1 hp.2 aQ hm iz;generalize ck p vs vs.length=on at *;exact aC (fS hi jn cd o_ h63 ht [.code 2 _ _ _ _ _ lo,.lt 42 on.length 3 true (aE ho),.sum 57 i 1 (i+1) rfl o_])
noncomputable def fL{m q:Nat}{p:HS K}{on l:l_}(hl:order p.n (aJ vs) on=l)(hp:bM m p)(aQ:∀ v∈vs,aw q v)(hm:100*(m+q)+1000<=az)(gS:∀ x∈on,x<vs.length)(h3:0<on.length)(h63:on.length<900000):aU prog Bs 59:=
 .step 47 (aA f146 47) [.func (.func 190) #[] #[],sl 1 vs.length,sl 4 on.length,aZ p.n] [(5,none),(1,some (.view (aG vs))),(4,some (.row (al on) 3 1))] (sl 5 l.length) [(5,.row (al l) 3 1)]
  (qF (hl▸Xa h3 gS aQ hp.1 hm h63) (.w (x:=.view (aG vs)) rfl (cW vs) oB (.w (x:=.row (al on) 3 1) rfl (iv on) (λh=>QJ h) (.p k_ .nil))) (x:=.func 190) k_ k_ (iv l) 5)
theorem aRe{c m q:Nat}{p:HS K}{cells:ah}(hi:i<ps.length)(jn:ps[i]?=some p)(cd:∀ p∈ps,bM m p/\p.n≠0)(aQ:∀ v∈vs,aw q v)(hm:100*(m+q)+1000<=az)(h63:ps.length<=500)(iz:vs.length<900000)(ht:oG ps i p=false)(ho:¬(ck p vs vs.length).length<3)
  (hl:¬(order p.n (aJ vs) (ck p vs vs.length)).length>2):af prog Bs 59 (aF (ag f146 0)) (fI ps.length vs.length i c) (fM ps vs cells) 3 ⟨.normal,fI ps.length vs.length (i+1) c,fM ps vs cells,6⟩:=by
 have hp:=cd p (cH jn);have lo:=Xd (Bs:=Bs) hp.1 hp.2 aQ hm iz;have gS:∀ x∈ck p vs vs.length,x<vs.length:=λx hx=>Xb hx;have hol:=I2 p vs vs.length;obtain⟨l,dh⟩:∃ l,order p.n (aJ vs) (ck p vs vs.length)=l:=⟨_,rfl⟩;rw[dh]at hl;generalize ck p vs vs.length=on at *;exact aC (fS hi jn cd o_ h63 ht [.code 2 _ _ _ _ _ lo,.lt 42 on.length 3 false (aO ho),fL dh hp.1 aQ hm gS o_ o_,.gt 50 l.length 2 false (aO o_),.sum 57 i 1 (i+1) rfl o_])
theorem aFa{it:TypeInfo}{z:i_}(h1:prog.info? 47=some it)(h2:it.zero=some z):∀ v∈z.cells.toList,flat v=true:=by have e:(prog.info? 47).bind (·.zero)=some (.agg #[vI 0,.slice none 0 0]):=k_;rw[h1]at e;have e:it.zero=some (.agg #[vI 0,.slice none 0 0]):=e;rw[h2]at e;injection e with e;subst e;intro v hv;have hv:v∈[vI 0,.slice none 0 0]:=hv;simp at hv;rcases hv with rfl|rfl<;>rfl
theorem aRf{c m q:Nat}{p:HS K}{cells:ah}(hi:i<ps.length)(jn:ps[i]?=some p)(cd:∀ p∈ps,bM m p/\p.n≠0)(aQ:∀ v∈vs,aw q v)(hm:100*(m+q)+1000<=az)(h63:ps.length<=500)(iz:vs.length<900000)(ht:oG ps i p=false)(ho:¬(ck p vs vs.length).length<3)
  (hl:(order p.n (aJ vs) (ck p vs vs.length)).length>2) (hc:cells.length=c*2) (Md:c<=500) (ED:∀ v∈cells,v.oneCell'=true) :
  af prog Bs 59 (aF (ag f146 0)) (fI ps.length vs.length i c) (fM ps vs cells) 3
   ⟨.normal,[(14,vI (i+1)),(12,sl 0 ps.length),(13,vI ps.length),(0,sl 0 ps.length),(1,sl 1 vs.length),(5,sl 7 (c+1))],[(0,.view (bB ps)),(1,.view (aG vs)),(5,.row (al (order p.n (aJ vs) (ck p vs vs.length))) 3 1),(7,.row (cells++[vI i,sl 5 (al (order p.n (aJ vs) (ck p vs vs.length))).length]) 47 2)],8⟩:=by
 have hp:=cd p (cH jn);have lo:=Xd (Bs:=Bs) hp.1 hp.2 aQ hm iz;have gS:∀ x∈ck p vs vs.length,x<vs.length:=λx hx=>Xb hx;have hol:=I2 p vs vs.length;obtain⟨l,dh⟩:∃ l,order p.n (aJ vs) (ck p vs vs.length)=l:=⟨_,rfl⟩;rw[dh]at hl ⊢;rw[nP];generalize ck p vs vs.length=on at *;generalize mL:cells++[vI i,sl 5 l.length]=cells' at *;exact aC (fS hi jn cd o_ h63 ht [.code 2 _ _ _ _ _ lo,.lt 42 on.length 3 false (aO ho),fL dh hp.1 aQ hm gS o_ o_,.gt 50 l.length 2 true (aE hl),.step 54 (aA f146 54) [vI i,sl 5 l.length] [] (.agg #[vI i,sl 5 l.length]) [] (P1 (t:=47) (idx:=[0,1]) k_ (λit z h1 h2=>aFa h1 h2) k_),.bsM f146 55 6 1 47 2 [0] (.agg #[vI 0,.slice none 0 0]) [.agg #[vI i,sl 5 l.length]] #[vI i,sl 5 l.length] (.row [vI i,sl 5 l.length] 47 2) rfl (λv hv=>by
   have hv:v∈[vI 0,.slice none 0 0]:=hv;simp at hv;rcases hv with rfl|rfl<;>rfl) d_ k_ rfl d_ d_ k_,.oX f146 56 7 2 c 1 (c+1) 47 2 32 cells 6 (.row [vI i,sl 5 l.length] 47 2) cells' rfl rfl rfl hc mL (λv hv=>by
   simp[Obj.cells]at hv;rcases hv with rfl|rfl<;>rfl) d_ (by simp[maxLen];omega) o_ k_,.sum 57 i 1 (i+1) rfl o_])
end
end
theorem oE.one{cs:ah}(h:oE w fs cs):∀ v∈cs,v.oneCell'=true:=by
 induction h with
 |nil=>intro v hv;cases hv
 |cons h1 _ _ ih=>
  intro v hv;rcases ct.1 hv with rfl|hv
  ·rfl
  rcases ct.1 hv with rfl|hv
  ·rcases h1 with ⟨e,_⟩|⟨_,_,_,e,_⟩<;>rw[e]<;>rfl
  ·exact ih v hv
structure Ar(B:aa)(fs:f_)(ks:List (Value×ah))(cs:ah):Prop where
 flat:∀ v∈cs,Go.Proofs.YthjhinbiabcfiaaGreatDoor.flat v=true
 cells:∀ w,(∀ p∈ks,dp w p.1 p.2.length p.2)->oE w fs cs
 slice:∀ v∈cs,∀ b,iL v=some b->¬B.cS b
theorem Ar.nil{B:aa}:Ar B [] [] []:=⟨λv h=>(by cases h),λw _=>.nil,λv h=>(by cases h)⟩
theorem Ar.snoc{cells:ah}(h:Ar B fs ks cells){l:l_}(hu:Go.Proofs.YthjhinbiabcfiaaGreatDoor.flat u=true)(hb:∀ b,iL u=some b->¬B.cS b):
  Ar B (fs++[eR (i,l)]) ((u,al l)::ks) (cells++[vI i,u]):=by
 refine⟨λv hv=>?_,λw hw=>?_,λv hv b ti=>?_⟩
 ·rcases fo.1 hv with hv|hv
  ·exact h.flat v hv
  ·simp at hv;rcases hv with rfl|rfl
   ·rfl
   ·exact hu
 ·have h1:=h.cells w λp hp=>hw p (bH _ hp);have h2:=hw (u,al l) (aP ..);have h2:dp w u (al l).length (al l):=h2;rw[aNM]at h2;have e:(fE (l.map λx:Nat=>(x:Int))).length=(l.map λx:Nat=>(x:Int)).length:=by simp[fE]
  rw[e]at h2;exact h1.snoc (i:=(i:Int)) h2 hu
 ·rcases fo.1 hv with hv|hv
  ·exact h.slice v hv b ti
  ·simp at hv;rcases hv with rfl|rfl
   ·cases ti
   ·exact hb b ti
theorem Ar.out{cells:ah}(h:Ar B fs ks cells){v:i_}(hm:aM (B.jO ks) ι c w)(hk:c k=some (.row cells ty 2))(hc:aK ι (.slice (some ⟨k,0,some 7⟩) fs.length 0) v):
  BK w v (iu fs)/\∀ b,(iu fs).cS v w b->¬B.cS b:=by
 have hf:=h.cells w hm.base.2;have hl:=hf.length;have hr:=oS (len:=fs.length*2) hm hk rfl h.flat (λe=>by rw[e]) hc;have hr:dp w v fs.length cells:=by
  have e:((Obj.row cells ty 2).cells.drop 0).take (fs.length*2)=cells:=by rw[mg];exact j8 (vC hl)
  rwa[e]at hr
 have kv:Lu w v fs:=⟨cells,hr,hf⟩;have own:∀ b,iL v=some b->¬B.cS b:=by
  intro b hb hF;rcases hc.hZ rfl with ⟨_,_,_,_,q5⟩|⟨b',oo,cap,c',q1,_,_,q5⟩
  ·rw[q5]at hb;cases hb
  ·rw[q5]at hb;injection hb with hb;subst hb;exact(hm.own k _ b' oo cap hk rfl q1).2 (.inl hF)
 refine⟨⟨kv,?_,?_⟩,λb hF=>?_⟩
 ·rcases hr with ⟨e,_⟩|⟨_,_,_,e,_⟩<;>rw[e]<;>rfl
 ·rcases hr with ⟨e,_⟩|⟨_,_,_,e,_⟩<;>rw[e]<;>rfl
 ·rcases hF with hF|⟨b',o,c',j,u,e,hj,lg,hb⟩
  ·exact own b hF
  ·have hu:=P3 hr hf e hj lg;exact h.slice u hu b hb
section
variable{ps:c_}{vs:e_}
noncomputable def fC0:Code:=Ae (dz f146)
noncomputable def fC1:Code:=Ae (wk (dz f146))
noncomputable def fC2:Code:=Ae (Ae (wk (wk (dz f146))))
noncomputable def fC3:Code:=Ae (wk (wk (wk (dz f146))))
theorem aRg:(f146).body=some (.seq fC0 (.seq fC1 (.seq (.seq fC2 (.block 0 (.loop (aF (ag f146 0))))) (.seq fC3 .ret)))):=k_
theorem Xe{cells:ah}(cK:∀ v∈cells,flat v=true)(r:List (Nat×Nat)):∀ p∈fM ps vs cells,ID r p.2:=λp hp=>by
 simp only[fM,ct,iX,iY]at hp;rcases hp with rfl|rfl|rfl
 ·exact λv hv=>bd.1 (dx ps) v hv
 ·exact λv hv=>bd.1 (cW vs) v hv
 ·exact cK
def QN(B:aa)(ps:c_)(vs:e_)(i:Nat)(a:Act)(w:h_):Prop:=
 ∃ ks cells,Ar B ((cT ps vs i).map eR) ks cells/\St (B.jO ks) 59 (fI ps.length vs.length i (cT ps vs i).length) (fM ps vs cells) 3 a w
theorem aFb{cells:ah}{fs:List (Nat×List Nat)}{next:Nat}{a:Act}(h:Ar B (fs.map eR) ks cells)(hs:St (B.jO ks) N fr M next a w):cells.length=fs.length*2/\∀ v∈cells,v.oneCell'=true:=by obtain⟨ι,cc,_,h2,_,_⟩:=hs;have:=h.cells w h2.base.2;exact⟨by rw[this.length,dr],this.one⟩
theorem aRh{m q:Nat}(rk:∀ k,B.mp k=none)(hi:i<ps.length)(cd:∀ p∈ps,bM m p/\p.n≠0)(aQ:∀ v∈vs,aw q v)(hm:100*(m+q)+1000<=az)(h63:ps.length<=500)(iz:vs.length<900000){a:Act}(h:QN B ps vs i a w)
  (K:Act->World->Prop) (Q:Exit->Act->World->Prop) (hK:∀ a' w',QN B ps vs (i+1) a' w'->K a' w'):(aF (ag f146 0)).wpIn (FW none) 0 prog (Exit.then K Q) a w:=by
 obtain⟨ks,cells,hF,hS⟩:=h;have jn:ps[i]?=some ps[i]:=aT hi;have mO:kL ps vs i=rP ps vs i ps[i]:=by unfold kL;rw[jn]
 obtain⟨ig,ED⟩:=aFb hF hS;have Md:(cT ps vs i).length<=500:=by have:=I3 ps vs i;omega
 have stay:kL ps vs i=[]->∀ next a' w',St (B.jO ks) 59 (fI ps.length vs.length (i+1) (cT ps vs i).length) (fM ps vs cells) next a' w'->K a' w':=by
  intro he next a' w' h';have e:cT ps vs (i+1)=cT ps vs i:=by rw[Mb,he,jh]
  refine hK a' w' ⟨ks,cells,by rw[e];exact hF,?_⟩;rw[e];exact h'.Ly rk [(0,0),(1,1),(2,2)] k_ rfl (Xe hF.flat _) k_ k_ k_ k_ k_
 by_cases uo:oG ps i ps[i]=true
 ·have he:kL ps vs i=[]:=by rw[mO];unfold rP;rw[ax (show(ps.take i).any (λq=>decide (canon ps[i]=canon q))=true from uo)]
  exact qL (aRc hi jn cd o_ h63 uo) hS λa' w' h'=>stay he _ a' w' h'
 ·have I4:oG ps i ps[i]=false:=by simpa using uo
  by_cases ho:(ck ps[i] vs vs.length).length<3
  ·have he:kL ps vs i=[]:=by rw[mO];unfold rP;rw[ao (show ¬(ps.take i).any (λq=>decide (canon ps[i]=canon q))=true from uo),ax ho]
   exact qL (aRd hi jn cd aQ hm h63 iz I4 ho) hS λa' w' h'=>stay he _ a' w' h'
  ·by_cases hl:(order ps[i].n (aJ vs) (ck ps[i] vs vs.length)).length>2
   ·have he:kL ps vs i=[(i,order ps[i].n (aJ vs) (ck ps[i] vs vs.length))]:=by rw[mO];unfold rP;rw[ao (show ¬(ps.take i).any (λq=>decide (canon ps[i]=canon q))=true from uo),ao ho,ax hl]
    refine qL (aRf hi jn cd aQ hm h63 iz I4 ho hl ig Md ED) hS λa' w' h'=>?_;show K a' w';obtain⟨u,hu,xD,h2⟩:=h'.Qb (m:=5) (k:=7) rfl (iv _) rfl d_;have e:cT ps vs (i+1)=cT ps vs i++[(i,order ps[i].n (aJ vs) (ck ps[i] vs vs.length))]:=by rw[Mb,he]
    have Ci:=hF.snoc (i:=i) (l:=order ps[i].n (aJ vs) (ck ps[i] vs vs.length)) hu xD;refine hK a' w' ⟨_,cells++[vI i,u],by rw[e,rW];exact Ci,?_⟩;rw[e,kP];have cK:=Ci.flat;generalize cells++[vI i,u]=cells' at *;exact h2.Ly rk [(0,0),(1,1),(2,7)] k_ rfl (Xe cK _) k_ k_ k_ k_ k_
   ·have he:kL ps vs i=[]:=by rw[mO];unfold rP;rw[ao (show ¬(ps.take i).any (λq=>decide (canon ps[i]=canon q))=true from uo),ao ho,ao hl]
    exact qL (aRe hi jn cd aQ hm h63 iz I4 ho hl) hS λa' w' h'=>stay he _ a' w' h'
theorem aRi{m q:Nat}(cd:∀ p∈ps,bM m p/\p.n≠0)(aQ:∀ v∈vs,aw q v)(hm:100*(m+q)+1000<=az)(h63:ps.length<=500)(iz:vs.length<900000):
  aDx prog 146 [fO ps,k6 vs] (iu ((cT ps vs ps.length).map eR)):=by
 intro w args cv;have au:([fO ps,k6 vs].all aL.ok)=true:=by simp only[dT,eC,W7,L9,z7]
 obtain⟨ι,c,h1,h2,h3,h4,h5,h6,h7⟩:=xJ cv (bd.1 au) 0 _ _ (tH w) n_ (λ_ _=>rfl);have rk:∀ k,(aa.at w).mp k=none:=λ_=>rfl;refine aDs (N:=59) (B:=(aa.at w).jO []) func146 aRg k_ h6 (aDl h2) h4 h3 rfl λa bT=>?_;have g0:∀ B:aa,af prog B 59 fC0 (jR 0 (eG 0 [fO ps,k6 vs])) (ji 0 [fO ps,k6 vs]) 2 ⟨.normal,[(0,sl 0 ps.length),(1,sl 1 vs.length)],[(0,.view (bB ps)),(1,.view (aG vs))],2⟩:=λB=>aC [];have g1:∀ B:aa,af prog B 59 fC1 [(0,sl 0 ps.length),(1,sl 1 vs.length)] [(0,.view (bB ps)),(1,.view (aG vs))] 2 ⟨.normal,[(5,.slice none 0 0),(0,sl 0 ps.length),(1,sl 1 vs.length)],[(0,.view (bB ps)),(1,.view (aG vs))],2⟩:=λB=>aC []
 have g2:∀ B:aa,af prog B 59 fC2 [(5,.slice none 0 0),(0,sl 0 ps.length),(1,sl 1 vs.length)] [(0,.view (bB ps)),(1,.view (aG vs))] 2
   ⟨.normal,[(14,vI 0),(12,sl 0 ps.length),(13,vI ps.length),(0,sl 0 ps.length),(1,sl 1 vs.length),(5,.slice none 0 0)],[(0,.view (bB ps)),(1,.view (aG vs))],2⟩:=λB=>aC []
 refine l9 (qL (g0 _) bT λa1 w1 s1=>?_);refine l9 (qL (g1 _) s1 λa2 w2 s2=>?_);refine l9 (l9 (qL (g2 _) s2 λa3 w3 s3=>?_));refine JL ?_;have i0:QN (aa.at w) ps vs 0 a3 w3:=⟨[],[],.nil,(s3.nil 5 rfl 47 2).Ly rk [(0,0),(1,1),(2,2)] k_ rfl (Xe n_ _) k_ k_ k_ k_ k_⟩;refine aDq ps.length (QN (aa.at w) ps vs) i0 (λi hi a' w' h' K hK=>aRh rk hi cd aQ hm h63 iz h' K _ hK) λa' w' h'=>?_;obtain⟨ks,cells,hF,hS⟩:=h';refine qL (r:=⟨.exit 0,[(5,sl 2 (cT ps vs ps.length).length)],[(2,.row cells 47 2)],3⟩) (aC [.lt 15 ps.length ps.length false s_]) hS λa4 w4 s4=>?_;show Code.wpIn _ _ _ _ _ _ _;refine l9 (qL (r:=⟨.normal,[(4,sl 2 (cT ps vs ps.length).length)],[(2,.row cells 47 2)],3⟩) (aC []) s4 λa5 w5 s5=>?_);refine wpIn_ret ?_;refine(aDt s5 rfl (v:=sl 2 (cT ps vs ps.length).length) k_ λay b9 v' bF Cj hc=>⟨v',rfl,?_,?_,bF.base.1⟩).1
 ·rw[show(cT ps vs ps.length).length=((cT ps vs ps.length).map eR).length by rw[dr]]at hc;exact(hF.out bF (Cj 2 _ rfl) hc).1
 ·rw[show(cT ps vs ps.length).length=((cT ps vs ps.length).map eR).length by rw[dr]]at hc;intro b hb;have:=(hF.out bF (Cj 2 _ rfl) hc).2 b hb;exact O9 this
end
section
open V3 (dot av cE smul)
section
variable{Bs:aa}{g:FuncId}{ps:List RP}{b:RP->Bool}
def qQ(g:FuncId):Value:=.func (.func g) #[] #[]
def ur(g:FuncId)(n i:Nat):aN:=[(8,vI i),(6,sl 0 n),(7,vI n),(0,sl 0 n),(1,qQ g)]
def uu(ps:List RP):aH:=[(0,.view (dw ps))]
noncomputable def igS{p:RP}{b:Bool}(hc:fN prog g=true)(hi:i<ps.length)(hp:ps[i]?=some p)(h:aB prog g [p.v] (.bool b))(more:bL prog Bs 19):bL prog Bs 19:=
 .lt 9 i ps.length true (aE hi)::.cM f179 14 0 ps.length i 40 hi k_::.ld f179 15 50 0 (i*40) (.view (dw ps)) p.v rfl (v8 hp) k_::
  .step 16 (aA f179 16) [qQ g,p.v] [] (.bool b) [] (pb (l:=[.p p.v]) (x:=.tmp 11) (λw vs cv=>by
   cases cv with
   |cons h1 h2=>
    cases h2;cases h1;exact h w) (.p rfl .nil) k_ hc rfl)::more
theorem aRj{p:RP}(hc:fN prog g=true)(hi:i<ps.length)(hp:ps[i]?=some p)(h:aB prog g [p.v] a_)(h63:ps.length<9223372036854775807):
  af prog Bs 19 (aF (ag f179 0)) (ur g ps.length i) (uu ps) 1 ⟨.normal,ur g ps.length (i+1),uu ps,1⟩:=
 aC (igS hc hi hp h [.sum 18 i 1 (i+1) rfl o_])
theorem aRk{p:RP}(hc:fN prog g=true)(hi:i<ps.length)(hp:ps[i]?=some p)(h:aB prog g [p.v] b_):
  af prog Bs 19 (aF (ag f179 0)) (ur g ps.length i) (uu ps) 1 ⟨.ret,[(4,vI i)],uu ps,1⟩:=
 aC (igS hc hi hp h [])
theorem aRl:af prog Bs 19 (aF (ag f179 0)) (ur g ps.length ps.length) (uu ps) 1 ⟨.exit 0,[],uu ps,1⟩:=
 aC [.lt 9 ps.length ps.length false s_]
theorem Xf(ps:List RP):(aL.r ps.length (dw ps)).ok=true:=gK ja ps
theorem aFc(g:FuncId):(aL.p (qQ g)).ok=true:=rfl
theorem Xg{ps:List RP}(h:ps.length=0):dw ps=[]:=by rw[kO h];rfl
theorem aRm(hc:fN prog g=true)(h63:ps.length<9223372036854775807)(h:∀ p∈ps,aB prog g [p.v] (.bool (b p))):bw prog 179 [.r ps.length (dw ps),.p (qQ g)] (.int .i64 (BX b ps 0)):=by
 have au:([aL.r ps.length (dw ps),.p (qQ g)].all aL.ok)=true:=by simp only[dT,eC,Xf,aFc,z7]
 have qI:∀(B:aa) e,e<=ps.length->(∀ j y,j<e->ps[j]?=some y->b y=false)->∀ i,i<e->af prog B 19 (aF (ag f179 0)) (ur g ps.length i) (uu ps) 1 ⟨.normal,ur g ps.length (i+1),uu ps,1⟩:=λB e he hb i hi=>by
  have ak:i<ps.length:=by omega
  have hp:ps[i]?=some ps[i]:=aT ak;have hh:=h ps[i] (cY ak);rw[hb i ps[i] hi hp]at hh;exact aRj hc ak hp hh h63
 rcases F7 b ps with hn|⟨e,x,h1,h2,h3⟩
 ·rw[PK 0 hn];have lo:∀ B:aa,af prog B 19 (.block 0 (ag f179 0)) (ur g ps.length 0) (uu ps) 1 ⟨.normal,[],uu ps,1⟩:=λB=>
   bO (id:=0) (ch ps.length (λi=>ur g ps.length i) (λ_=>uu ps) (λi k _=>Iff.rfl) (qI B ps.length (bA _) λj y _ hy=>hn y (cH hy)) aRl n_)
  exact cC func179 au 19 (λw=>[.code 0 _ _ _ _ _ (lo _)])
 ·have ak:=(eA.1 h1).1;have hh:=h x (cH h1);rw[h2]at hh;rw[PL 0 h1 h2 h3,ko];have lo:∀ B:aa,af prog B 19 (.block 0 (ag f179 0)) (ur g ps.length 0) (uu ps) 1 ⟨.ret,[(4,vI e)],uu ps,1⟩:=λB=>
   bO (id:=0) (ch e (λi=>ur g ps.length i) (λ_=>uu ps) (λi k _=>Iff.rfl) (qI B e o_ h3) (aRk hc ak h1 hh) n_)
  exact cC func179 au 19 (λw=>[.code 0 _ _ _ _ _ (lo _)])
theorem aFd(hc:fN prog g=true)(h63:ps.length<9223372036854775807)(h:∀ p∈ps,aB prog g [p.v] (.bool (b p))):bw prog 139 [.r ps.length (dw ps),.p (qQ g)] (.bool (ps.any b)):=by
 have au:([aL.r ps.length (dw ps),.p (qQ g)].all aL.ok)=true:=by simp only[dT,eC,Xf,aFc,z7]
 rw[<-aCR];exact cC func139 au 9 (λw=>[.cR f139 7 [sl 0 ps.length,qQ g] (aRm hc h63 h) (.w (x:=.view (dw ps)) rfl (gK ja ps) Xg (.p rfl .nil))])
end
theorem aFe{r:RP}{b:Bool}(h:aB prog 141 [r.v] (.bool b)):aB prog 140 [r.v] (.bool (!b)):=bo func140 (λ_=>[h.at 4])
section
variable{F:Type}[OF F]
open OF
def Me(s:e7 F)(a b:F):e7 F:=
 if OF.aD a=0 then s
 else if OF.aD a>0 then(match s.hi with|some h=>if OF.aD (b*a⁻¹-h)<0 then⟨s.lo,some (b*a⁻¹)⟩else s|none=>⟨s.lo,some (b*a⁻¹)⟩)
 else(match s.lo with|some l=>if OF.aD (b*a⁻¹-l)>0 then⟨some (b*a⁻¹),s.hi⟩else s|none=>⟨some (b*a⁻¹),s.hi⟩)
def QO(s:e7 F):Bool:=match s.lo,s.hi with
 |some l,some h=>decide (OF.aD (l-h)<0)
 |_,_=>true
def QP(s:e7 F)(a b:F):Bool:=if OF.aD a=0 then decide (OF.aD b>=0)else QO (Me s a b)
theorem aFf{x:F}:OF.aD x>0↔OF.aD x=1:=by rcases OF.iR x with h|h|h<;>rw[h]<;>decide
theorem aFg{x:F}:OF.aD x<0↔OF.aD x=-1:=by rcases OF.iR x with h|h|h<;>rw[h]<;>decide
theorem aRn{x:F}:OF.aD x>=0↔OF.aD x≠-1:=by rcases OF.iR x with h|h|h<;>rw[h]<;>decide
theorem QQ{x y:F}:OF.aD (x-y)<0↔x<y:=by rw[aFg,OF.FD,OF.lt_def];omega
theorem aFh{x y:F}:OF.aD (x-y)>0↔y<x:=by rw[aFf,OF.lt_def]
theorem QR{x:F}:OF.aD x>0↔0<x:=by rw[aFf,OF.iJ]
theorem QS{x:F}:OF.aD x>=0↔0<=x:=by rw[aRn,OF.Ky]
theorem aRo(s:e7 F)(a b:F):BT s a b=if QP s a b then some (Me s a b)else none:=by
 unfold BT QP Me;by_cases ha:OF.aD a=0
 ·rw[ax ha,ax ha,ax ha];by_cases hb:0<=b
  ·rw[ax hb,aE (QS.2 hb)];rfl
  ·rw[ao hb,aO (λh=>hb (QS.1 h))];rfl
 ·rw[ao ha,ao ha,ao ha];obtain⟨lo,hi⟩:=s;dsimp only;generalize b*a⁻¹=t;have fin:∀ s':e7 F,(match s'.lo,s'.hi with|some l,some h=>if l<h then some s' else none|_,_=>some s')=if QO s'=true then some s' else none:=by
   rintro⟨l,h⟩
   unfold QO;cases l with
   |none=>rfl
   |some l=>
    cases h with
    |none=>rfl
    |some h=>
     dsimp only;by_cases ak:l<h
     ·exact(ax ak).trans (ax (aE (QQ.2 ak))).symm
     ·exact(ao ak).trans (ao (λh=>ak (QQ.1 (jz h)))).symm
  by_cases hp:0<a
  ·rw[ax hp,ax (QR.2 hp)];cases hi with
   |none=>exact fin ⟨lo,some t⟩
   |some h=>
    dsimp only;by_cases ak:t<h
    ·simp only[ax ak,ax (QQ.2 ak)];exact fin ⟨lo,some t⟩
    ·simp only[ao ak,ao (λe=>ak (QQ.1 e))];exact fin ⟨lo,some h⟩
  ·rw[ao hp,ao (λe=>hp (QR.1 e))];cases lo with
   |none=>exact fin ⟨some t,hi⟩
   |some l=>
    dsimp only;by_cases ak:l<t
    ·simp only[ax ak,ax (aFh.2 ak)];exact fin ⟨some t,hi⟩
    ·simp only[ao ak,ao (λe=>ak (aFh.1 e))];exact fin ⟨some l,hi⟩
end
theorem aRp(s:e7 K)(a b:K):BT s a b=if sZ s a b then some (rH s a b)else none:=by
 have h1:∀ s:e7 K,aCV s=QO s:=λs=>by obtain⟨lo,hi⟩:=s;cases lo<;>cases hi<;>rfl
 have h2:rH s a b=Me s a b:=by unfold rH Me;obtain⟨lo,hi⟩:=s;cases lo<;>cases hi<;>rfl
 have h3:sZ s a b=QP s a b:=by unfold sZ QP;rw[h2,h1]
 rw[h2,h3];exact aRo s a b
theorem aFi(b d:V3 K):∀(l:c_) (s:e7 K),F4 s (l.map λp=>(dot p.n d,p.d-dot p.n b))=if we s b d l then some (oD s b d l)else none
 |[],s=>rfl
 |p::l,s=>by
  show(BT s (dot p.n d) (p.d-dot p.n b)).bind _=_;rw[aRp];unfold we oD;by_cases h:sZ s (dot p.n d) (p.d-dot p.n b)=true
  ·rw[ax h,h,jy];exact aFi b d l _
  ·rw[ao h];have:sZ s (dot p.n d) (p.d-dot p.n b)=false:=by simpa using h
   rw[this,zg];rfl
theorem aFj(p q:HS K):wb p q=mq p q:=by unfold wb mq eD;rw[show kI 1*(dot (av p.n q.n) (av p.n q.n))⁻¹=(dot (av p.n q.n) (av p.n q.n))⁻¹ from CR.one_mul _]
theorem aFk(p q:HS K):eD p q≠0->dot (eD p q) (eD p q)≠0:=λh=>V3.BO h
theorem aRq(ps:c_)(p q:HS K):F9 ps p q=zU ps p q:=by
 unfold F9 zU;have hd:eD p q=av p.n q.n:=rfl;rw[aFj];dsimp only;by_cases h0:eD p q=0
 ·rw[ax h0,ax ((Pu (av p.n q.n)).2 h0)]
 ·rw[ao h0,ao (λh=>h0 ((Pu (av p.n q.n)).1 h))];rw[aFi];unfold Ll;rw[aFj,hd];by_cases hs:we ⟨none,none⟩ (mq p q) (av p.n q.n) ps=true
  ·rw[ax hs,ax hs];generalize oD ⟨none,none⟩ (mq p q) (av p.n q.n) ps=s;obtain⟨lo,hi⟩:=s;cases lo<;>cases hi<;>rfl
  ·rw[ao hs,ao hs]
theorem Xh{p q:HS K}{v:V3 K}:v∈rI ps p q↔∃ u w,zU ps p q=some (u,w)/\(v=u\/v=w):=by
 unfold rI;rw[aRq];cases h:zU ps p q with
 |none=>simp
 |some uw=>
  obtain⟨u,w⟩:=uw;simp only[ct,iX,iY];exact⟨λhv=>⟨u,w,rfl,hv⟩,λ⟨u',w',e,hv⟩=>by injection e with e;injection e with e1 e2;subst e1;subst e2;exact hv⟩
theorem aRr{v:V3 K}:v∈nq ps ps.length↔∃(i j:Nat) (p q:HS K),j<i/\ps[i]?=some p/\ps[j]?=some q/\v∈rI ps p q:=by
 unfold nq;rw[zY];constructor
 ·rintro⟨i,hi,hv⟩
  have ak:=j4.1 hi;have hp:ps[i]?=some ps[i]:=aT ak;rw[PX hp]at hv;unfold lD at hv;obtain⟨q,hq,hv⟩:=zY.1 hv;obtain⟨j,hj,rfl⟩:=k7 hq;rw[jr]at hj;refine⟨i,j,_,_,by omega,hp,?_,hv⟩;rw[Xi];exact aT o_
 ·rintro⟨i,j,p,q,pB,hp,hq,hv⟩
  have ak:=(eA.1 hp).1;refine⟨i,j4.2 ak,?_⟩;rw[PX hp];refine zY.2 ⟨q,?_,hv⟩;exact cH (i:=j) (by rw[uG,ax pB];exact hq)
theorem aRs(hc:Cl ps)(hp:jl ps)(hf:∀ v:V3 K,∃ x,iq ps x/\x≠v)(v:V3 K):v∈nq ps ps.length↔mo ps v:=by
 rw[aRr];constructor
 ·rintro⟨i,j,p,q,_,h1,h2,hv⟩
  obtain⟨u,w,he,hv⟩:=Xh.1 hv;have:=aMa (cH h1) (cH h2) he;rcases hv with rfl|rfl
  ·exact this.1
  ·exact this.2
 ·intro hv;obtain⟨x,hx,bj⟩:=hf v;obtain⟨p,iN,q,Bo,hd,h1,h2⟩:=aMc hc hp hv hx bj;obtain⟨i,hi,rfl⟩:=k7 iN;obtain⟨j,hj,rfl⟩:=k7 Bo;rcases tj i j with h|h|h
  ·exact⟨j,i,_,_,h,aT hj,aT hi,Xh.2 h2⟩
  ·subst h;exfalso;apply hd;exact V3.K0 _
  ·exact⟨i,j,_,_,h,aT hi,aT hj,Xh.2 h1⟩
def Ec:Value:=.agg #[.slice none 0 0,.slice none 0 0,.slice none 0 0]
def de(n:Int):Value:=.int .i64 n
def eH(ps:c_):f_:=(cT ps (bf ps) ps.length).map eR
structure wz(ps:c_)(m:Nat):Prop where
 len:ps.length<=20
 sz:∀ p∈ps,bM m p
 ne:∀ p∈ps,p.n≠0
 bound:1000000000*(m+10)<=az
theorem Mf(ps:c_)(h:ps.length<=20):(bf ps).length<=800:=by
 have h1:(bf ps).length<=(nq ps ps.length).length:=by
  unfold bf;rw[<-aEP];have:∀ l:e_,(dd l).length<=l.length:=λl=>by have:=(QF l l.length).2;unfold jq at this;rwa[ox]at this
  exact di (this _) (vC (L6 _).length_eq)
 have h2:=PY ps.length (bA _) (ps:=ps);have h3:ps.length*(2*ps.length)<=20*40:=xi h o_;omega
theorem QT{m:Nat}(cd:∀ p∈ps,bM m p):∀ v∈bf ps,aw (10000*(m+10)) v:=λv hv=>by unfold bf at hv;rw[Vy]at hv;exact aEQ cd aFk ps.length v hv
theorem Gx{m n:Nat}(hm:1000000000*(m+10)<=az)(hn:n<=800):100*(m+n*(10000*(m+10)+1))+10000<=az/\10000000*(m+10)<=az/\100*(m+10000*(m+10))+1000<=az/\m<=az/\100*m+1000<=az:=by
 have h0:m<=1089:=by
  rcases fm m 1090 with h|h
  ·exact Nat.le_of_lt_succ h
  ·have h2:1000000000*(1090+10)<=1000000000*(m+10):=jJ _ (Gy h 10);exact absurd (di h2 hm) d_
 clear hm;have q:10000*(m+10)+1<=10990001:=by omega
 obtain⟨x,hx⟩:∃ x,x=n*(10000*(m+10)+1):=⟨_,rfl⟩;have h1:x<=8792000800:=by rw[hx];exact xi hn q
 rw[<-hx];clear hx;have h2:100*(m+x)+10000<=100*(1089+8792000800)+10000:=Gy (jJ _ (KL h0 h1)) _;have h6:m+10<=1099:=Gy h0 10;have h3:10000000*(m+10)<=10000000*1099:=jJ _ h6;have h4:100*(m+10000*(m+10))+1000<=100*(1089+10000*1099)+1000:=Gy (jJ _ (KL h0 (jJ _ h6))) _;have h5:100*m+1000<=100*1089+1000:=Gy (jJ _ h0) _;exact⟨di h2 (qc rfl),di h3 (qc rfl),di h4 (qc rfl),di h0 (qc rfl),di h5 (qc rfl)⟩
theorem aFl{it:TypeInfo}{z:i_}(h1:prog.info? 26=some it)(h2:it.zero=some z):∀ v∈z.cells.toList,flat v=true:=by have e:(prog.info? 26).bind (·.zero)=some Ec:=k_;rw[h1]at e;have e:it.zero=some Ec:=e;rw[h2]at e;injection e with e;subst e;intro v hv;have hv:v∈[.slice none 0 0,.slice none 0 0,.slice none 0 0]:=hv;simp at hv;subst hv;rfl
section
variable{ps:c_}{m:Nat}
theorem aRt(h:wz ps m):bw prog 139 [fO ps,.p (qQ 140)] a_:=by
 obtain⟨_,_,_,b4,_⟩:=Gx (n:=0) h.bound o_;have hc:=aFd (g:=140) (ps:=ps.map db) (b:=λ_=>false) k_ (by rw[dr];have:=h.len;omega) (λr hr=>by obtain⟨p,hp,rfl⟩:=dj.1 hr;have hv:=BW (h.sz p hp) b4;rw[aE (h.ne p hp)]at hv;exact aFe hv)
 rw[dr,show(ps.map db).any (λ_=>false)=false by simp]at hc;exact hc
theorem Ed(ps:c_):([fO ps].all aL.ok)=true:=by simp only[dT,eC,W7,z7]
noncomputable def Xj(h:wz ps m)(ht:ug ps=t)(more:bL prog Bs 33):bL prog Bs 33:=
 .cR f83 7 [sl 0 ps.length,qQ 140] (aRt h) (.w (x:=.view (bB ps)) rfl (dx ps) jm (.p rfl .nil))::
 .gt 12 ps.length 100 false (aO (by have:=h.len;omega))::
 .cR f83 16 [sl 0 ps.length] (ht▸aMR h.sz (Gx (n:=0) h.bound o_).2.2.2.2 (by have:=h.len;omega)) (.w (x:=.view (bB ps)) rfl (dx ps) jm .nil)::more
noncomputable def aFm(h:wz ps m)(ht:xQ ps (bf ps)=t)(more:bL prog Bs 33):bL prog Bs 33:=
 .step 20 (aA f83 20) [.func (.func 143) #[] #[],sl 0 ps.length] [(2,none),(0,some (.view (bB ps)))] (sl 2 (bf ps).length) [(2,.row (aG (bf ps)) 38 30)]
  (qF (aQO h.sz (Gx (n:=0) h.bound o_).2.1 (by have:=h.len;omega) aFk) (.w (x:=.view (bB ps)) rfl (dx ps) jm .nil) (x:=.func 143) k_ k_ (cW _) 2)::
 .cR f83 23 [sl 0 ps.length,sl 2 (bf ps).length] (ht▸aM9 (λp hp=>⟨h.sz p hp,h.ne p hp⟩) (QT h.sz) (Gx h.bound (Mf ps h.len)).1 (by have:=Mf ps h.len;omega) (by have:=h.len;omega)) (.w (x:=.view (bB ps)) rfl (dx ps) jm (.w (x:=.row (aG (bf ps)) 38 30) rfl (cW _) oB .nil))::more
theorem aRu(h:wz ps m)(hc:ug ps=false):bw prog 83 [fO ps] (.tuple #[Ec,de 13]):=
 cC func83 (Ed ps) 33 (λ_=>Xj h hc [])
theorem aRv(h:wz ps m)(hc:ug ps=true)(hi:xQ ps (bf ps)=false):bw prog 83 [fO ps] (.tuple #[Ec,de 12]):=
 cC func83 (Ed ps) 33 (λ_=>Xj h hc (aFm h hi []))
theorem aRw(hc:ug ps=true):0<ps.length:=by
 cases ps with
 |nil=>exact absurd hc d_
 |cons p l=>simp
theorem aRx(h:wz ps m)(hc:ug ps=true)(hi:xQ ps (bf ps)=true):
  B8 prog 83 [fO ps] 50 40 ps.length (bB ps) 38 30 (bf ps).length (aG (bf ps)) (iu (eH ps)) [de 0]:=by
 have hf:=aRi (ps:=ps) (vs:=bf ps) (λp hp=>⟨h.sz p hp,h.ne p hp⟩) (QT h.sz) (Gx (n:=0) h.bound o_).2.2.1 (by have:=h.len;omega) (by have:=Mf ps h.len;omega);have ig:=aQR (aRw hc) (by have:=h.len;omega);refine V4 (k1:=3) (k2:=2) (k3:=4) mixed func83 (Ed ps) 100 (N:=33) k_ (λw=>Xj h hc (aFm h hi [
  .step 27 (aA f83 27) [.func (.func 145) #[] #[],sl 0 ps.length] [(3,none),(0,some (.view (bB ps)))] (sl 3 ps.length) [(3,.row (bB ps) 50 40)]
   (qF ig (.w (x:=.view (bB ps)) rfl (dx ps) jm .nil) (x:=.func 145) k_ k_ (dx ps) 3),
  .step 31 (aA f83 31) [.func (.func 146) #[] #[],sl 0 ps.length,sl 2 (bf ps).length] [(4,none),(0,some (.view (bB ps))),(2,some (.row (aG (bf ps)) 38 30))] (.pointer (some ⟨4,0,some 9⟩)) [(4,.fact ((iu (eH ps)).mE w.heap.size))]
   (aNP (B:=aa.at w) (S:=w.heap.size) hf (.w (x:=.view (bB ps)) rfl (dx ps) jm (.w (x:=.row (aG (bf ps)) 38 30) rfl (cW _) oB .nil)) (x:=.func 146) k_ k_ rfl (λw' hb=>Below.size hb) 4),
  .step 32 (aA f83 32) [sl 3 ps.length,sl 2 (bf ps).length,.pointer (some ⟨4,0,some 9⟩)] [] (.agg #[sl 3 ps.length,sl 2 (bf ps).length,.pointer (some ⟨4,0,some 9⟩)]) [] (P1 (t:=26) (idx:=[0,1,2]) k_ (λit z h1 h2=>aFl h1 h2) k_)])) (λw=>?_) d_ (dx ps) (D9 ps) (cW _) (nN _) k_
 kernel_rfl
end
end
section
variable{P:j_}{B:aa}{N:Nat}
def aU.QU(fn:Func)(key k j n m nm e size bytes off cc:Nat)(cells:ah)(q:Nat)(x:Obj)(new:ah)(lL:n+m=nm)(hx:x.reads=true)(hlen:((x.cells.drop off).take (m*size)).length=m*size)(jt:cells.length=n*size)(je:cells++(x.cells.drop off).take (m*size)=new)
  (h1:∀ v∈x.cells,v.oneCell'=true) (bC:0<size) (h63:nm<=maxLen) (hb:nm*bytes<=140737488355328) (ho:Fg P (aA fn key)=some (e,size,bytes,size,true)):aU P B N:=
 .step key (aA fn key) [.slice (some ⟨j,0,some 7⟩) n 0,.slice (some ⟨q,off,some 7⟩) m cc] [(k,none),(j,some (.row cells e size)),(q,some x)] (.slice (some ⟨k,0,some 7⟩) nm 0) [(k,.row new e size),(j,.dead)] (by subst lL;have hs:Cw B (.slice (some ⟨q,off,some 7⟩) m cc) m ((x.cells.drop off).take (m*size)) [(q,some x)]:=ML (B:=B) (k:=q) (off:=off) (m:=m) (cc:=cc) hx (len:=m*size) (λh=>by rw[h,kS]);have:=Z5 (B:=B) ho bC hs hlen (λv hv=>h1 v (W8 (Iw hv))) (j:=j) (n:=n) (cells:=cells) (vC jt.symm) h63 hb k;rw[j8 (vC jt),je]at this;exact this)
def aU.aRy(fn:Func)(key k n s:Nat)(ho:su P (aA fn key)=some (true,false,s)):aU P B N:=
 .step key (aA fn key) [.slice (some ⟨k,0,some 7⟩) n 0,vI 0] [] (.slice (some ⟨k,0,some 7⟩) n 0) [] (by have:=Hd (B:=B) ho (k:=k) (off:=0) (n:=n) (cc:=0) (l:=0) (h:=n) n_ (λ_=>rfl) (jH _) (bA _) (.inr rfl);simpa using this)
theorem aRz{s:Nat}(ho:su P o=some (true,false,s)){n:Nat}{x:Obj}(hx:x.jN=true)(j:Nat):
  cA P B o [.slice (some ⟨k,off,some 7⟩) n cc,vI n] [(j,none),(k,some x)] (.slice (some ⟨j,0,some 7⟩) 0 0) [(j,.view [])]:=by
 unfold su at ho;split at ho
 ·rename_i t y lo hi bY;split at ho
  ·rename_i e ht;split at ho
   ·rename_i i gy;injection ho with ho;injection ho with h1 ho;injection ho with h2 h3;cases lo with
    |none=>cases h1
    |some yl=>
    cases hi with
    |some yh=>cases h2
    |none=>
    refine iC.step λι c ρ w aQ hm hn=>?_;have hj:c j=none:=hn (j,none) s_;have hk:c k=some x:=hn (k,some x) s_;rw[bY]at aQ;obtain⟨u,u2,hu,hc,dq⟩:=js aQ;have dS:ρ y=u:=by simp[Op.operands]at hu;exact hu.1
    have eX:ρ yl=u2:=by simp[Op.operands]at hu;exact hu.2
    have dq:=dq.fk rfl;have LI:∀ y code,n<=y->(Instr.sliceBound (.int .i64 n) y code).run P w=.ok n w:=by intro y code hq;have:(0:Int)<=n/\(n:Int)<=y:=⟨by omega,by omega⟩;simp[Instr.sliceBound,asIntOf,this]
    rcases hc.hZ rfl with ⟨hb,kz,qf,yM,he⟩|⟨b,oo,cap,c',hb,lJ,mL,he⟩
    ·refine⟨dR ι j .nil,.slice none 0 0,w,gN (hm.dJ j hj),.slcN (fP _ _ _),hm.add hj (.inl ⟨rfl,rfl⟩) n_ n_ n_,.inl ?_⟩;subst kz;have kX:∀ code,(Instr.sliceBound (.int .i64 0) 0 code).run P w=.ok 0 w:=λcode=>by simp[Instr.sliceBound,asIntOf]
     simp only[execOp,bY];simp[Instr.sliceAt,jF ht,Instr.slice,dS,eX,dq,he,vI,Instr.sliceBounds,kX,sizeOf,typeInfo,gy]
    ·dsimp only at hb he;obtain⟨o1,xn⟩:∃ o1,o1=(if c'=n then oo+off else oo+off+n*i.size):=⟨_,rfl⟩;have hsn:=hm.seen k x b oo cap hk hx hb;refine⟨dR ι j (.at b o1 (c'-n)),.slice (some ⟨b,o1+0,none⟩) 0 (c'-n),w,gN (hm.dJ j hj),.slc (fP _ _ _) (jH _) (ko _),hm.add hj (.inr ⟨b,o1,c'-n,[],rfl,.nil,λj u h=>by simp at h⟩) n_ n_ (λb1 o2 lG _ e=>?_),.inl ?_⟩
     ·injection e with e1 e2 e3;subst e1;exact hsn
     ·simp only[execOp,bY];by_cases ig:c'=n
      ·rw[ax ig]at xn;subst xn;subst ig;simp[Instr.sliceAt,jF ht,Instr.slice,dS,eX,dq,he,vI,Instr.sliceBounds,LI c' _ (bA _),sizeOf,typeInfo,gy]
      ·rw[ao ig]at xn;subst xn;simp[Instr.sliceAt,jF ht,Instr.slice,dS,eX,dq,he,vI,Instr.sliceBounds,LI n _ (bA _),sizeOf,typeInfo,gy,ig,yL]
   ·cases ho
  ·cases ho
 ·cases ho
def aU.aRA(fn:Func)(key k off n cc s j:Nat)(x:Obj)(hx:x.jN=true)(ho:su P (aA fn key)=some (true,false,s)):aU P B N:=
 .step key (aA fn key) [.slice (some ⟨k,off,some 7⟩) n cc,vI n] [(j,none),(k,some x)] (.slice (some ⟨j,0,some 7⟩) 0 0) [(j,.view [])] (aRz ho hx j)
end
theorem bW.swap{R:α->β->Prop}{a a':α}(h:∀ b,R a b->R a' b):∀(pre:List α) {post:List α} {m:List β},bW R (pre++a::post) m->bW R (pre++a'::post) m
 |[],_,_,h1=>by cases h1 with|cons h2 h3=>exact .cons (h _ h2) h3
 |_::pre,_,_,h1=>by cases h1 with|cons h2 h3=>exact .cons h2 (bW.swap h pre h3)
theorem aFn(h:da c M)(k:Nat)(x:Obj):da (bh c k x) ((k,x)::M):=λj y e=>by
 unfold ai at e;unfold bh;split at e
 ·rename_i hb;injection e with e;subst e;rw[ax (kt hb).symm]
 ·rename_i hb;rw[ao (λe'=>hb (by rw[e'];exact EW k))];exact h j y e
theorem aRB{n:Nat}(h:eU c n)(hk:k<n)(x:Obj):eU (bh c k x) n:=λj hj=>by unfold bh;rw[ao o_];exact h j hj
section
variable{P:j_}{B:aa}{N:Nat}
theorem aM.aRC(hm:aM B ι c w){cells:ah}(hk:c k=some (.aI cells ty))(h:∀ cg,bW (aK ι) cells cg->bW (aK ι) cells' cg):aM B ι (bh c k (.aI cells' ty)) w:=by obtain⟨l,h1,b,cg,e1,e2,e3⟩:=hm.born k _ hk;subst e1;exact hm.write hk rfl h1 (.refl w) rfl rfl (bA _) (λ_ _ _=>rfl) ⟨b,cg,rfl,h _ e2,e3⟩ n_ rfl
theorem St.aRD{next:Nat}{a:Act}(h:St B N fr M next a w){tb:TypeId}(hk:ai M k=some (.aI (pre++.slice none 0 0::post) tb))(ty:TypeId)(s:Nat):
  St B N fr ((k,.aI (pre++.slice (some ⟨next,0,some 7⟩) 0 0::post) tb)::(next,.row [] ty s)::M) (next+1) a w:=by
 obtain⟨ι,cc,h1,h2,h3,h4⟩:=h;have hn:=h4 next (bA _);have hle:Map.le ι (dR ι next .nil):=gN (h2.dJ next hn);have Ge:=h3 k _ hk;have qY:k≠next:=λe=>by subst e;rw[hn]at Ge;cases Ge
 have ak:k<next:=by
  rcases fm k next with h|h
  ·exact h
  ·rw[h4 k h]at Ge;cases Ge
 have m1:aM B (dR ι next .nil) (bh cc next (.row [] ty s)) w:=h2.add hn (.inl ⟨rfl,rfl⟩) n_ n_ n_;have m2:=m1.aRC (k:=k) (cells:=pre++.slice none 0 0::post) (cells':=pre++.slice (some ⟨next,0,some 7⟩) 0 0::post) (ty:=tb) (by unfold bh;rw[ao qY];exact Ge) λcg hc=>
  bW.swap (λb hb=>by rw[hb.fk rfl];exact .slcN (fP _ _ _)) pre hc
 refine⟨_,_,⟨h1.defers,h1.size,λt=>(h1.slot t).mono hle⟩,m2,aFn (aFn h3 _ _) _ _,aRB (λj hj=>?_) o_ _⟩;unfold bh;rw[ao o_];exact h4 j o_
def aFo(P:j_)(f:FuncId)(k8 s1 np:Nat)(xp:ah)(nv:Nat)(xv:ah)(F:Fact):Prop:=
 ∀ w v1 b o c,dp w v1 np xp->dp w (.slice (some ⟨b,o,none⟩) nv c) nv xv->Calls P f #[v1,.slice (some ⟨b,o,none⟩) nv c] w λe w'=>∃ u1 u3,e=.returned (.agg #[u1,.slice (some ⟨b,o,none⟩) nv c,u3])/\
  w'.ownsRow w.heap.size k8 s1 u1 np xp/\BK w' u3 F/\(∀ b,F.cS u3 w' b->w.heap.size<=b)/\(∀ b,iL u1=some b->¬F.cS u3 w' b)/\Below w.heap.size w w'
theorem aRE{F:Fact}{a1 a2:i_}{nd:q_}{x:m_}{S:Nat}(h:aFo P f n2 A np xp nv eT F)(hs:fW B [.r np xp,.r nv eT] [a1,a2] nd)(ho:dC o.op=some x)(eY:fN P f=true)(wJ:F.rc=false)
  (f1:(xp.all flat)=true) (hnv:0<nv) (hS:∀ w,B.G w->S<=w.heap.size) (k:Nat) :
  cA P B o (.func (.func f) #[] #[]::[a1,a2]) ((k,none)::(k+1,none)::nd) (.agg #[.slice (some ⟨k,0,some 7⟩) np 0,a2,.pointer (some ⟨k+1,0,some 9⟩)])
   [(k+1,.fact (F.mE S)),(k,.row xp n2 A)]:=by
 have:=j7 (P:=P) (B:=B) (o:=o) (x:=x) (f:=f) (fi:=[]) (args:=[a1,a2]) (ca:=[]) (need:=(k,none)::(k+1,none)::nd)
  (val:=.agg #[.slice (some ⟨k,0,some 7⟩) np 0,a2,.pointer (some ⟨k+1,0,some 9⟩)]) (cX:=[(k+1,.fact (F.mE S)),(k,.row xp n2 A)]) ho eY ?_
 ·simpa using this
 ·intro ι c w hm hn args' ha;rw[jG,jh]at ha;have k0:c k=none:=hn (k,none) s_;have k1:c (k+1)=none:=hn (k+1,none) s_;have cv:=BM hs hm (λp hp=>hn p (by simp[hp])) ha;obtain⟨v1,v2,rfl,ca1,Zs⟩:=js ha;cases cv with
  |cons i1 cv=>
  cases cv with
  |cons i2 _=>
  have i1:dp w v1 np xp:=i1;have i2:dp w v2 nv eT:=i2;have i3:=i2;rcases i2 with ⟨_,e,_⟩|⟨b,o',c',rfl,_⟩
  ·omega
  refine(h w v1 b o' c' i1 i3).mono ?_
  rintro e w' ⟨u1,u3,rfl,r1,r3,f3,Qc,hb⟩
  have LC:=hS w hm.base;have vm:=hm.call hb;have c9:∀ j y b o cap,c j=some y->ι j=some (.at b o cap)->y.owns=true\/y.jN=true->b<w.heap.size:=λj y b o cap hj hl hy=>by
   rcases hy with hy|hy
   ·exact(hm.own j y b o cap hj hy hl).1
   ·exact(hm.seen j y b o cap hj hy hl).1
  have Qd:∀ j F u b,c j=some (.fact F)->ι j=some (.val u)->F.cS u w' b->b<w.heap.size:=λj F u b hj hu hF=>by have hF:=hm.Ez hj hu hb.size (λk hk _=>hb.block k hk) hF;obtain⟨l,q1,q2⟩:=hm.born j _ hj;rw[hu]at q1;injection q1 with q1;exact q2.Ey q1.symm hF
  have LF:∀ b,iL u1=some b->w.heap.size<=b:=λb hb=>by
   rcases r1.2 with ⟨h1,_⟩|⟨g,cap,cur,h1,h2,_⟩
   ·rw[h1]at hb;cases hb
   ·rw[h1]at hb;injection hb with hb;subst hb;exact h2
  have Qe:∀ b,B.cS b->b<w.heap.size:=λb hF=>B.lt w b hm.base hF;obtain⟨bP,l1,m1,c1,p1⟩:=V5 vm k0 r1 f1 Qe (λj y b o cap hj hl hy e=>by have a:=c9 j y b o cap hj hl hy;have b:=LF b e;omega) (λj F u b hj hu e hF=>by have a:=Qd j F u b hj hu hF;have b:=LF b e;omega);have back:∀ j y l,c j=some y->bP j=some l->ι j=some l:=λj y l hj hl=>by obtain⟨l',dh,_⟩:=vm.born j y hj;have:=l1 j l' dh;rw[hl]at this;injection this with this;rw[this];exact dh
  have Qf:bh c k (.row xp n2 A) (k+1)=none:=by unfold bh;rw[ao o_];exact k1
  have LG:∀ j y,bh c k (.row xp n2 A) j=some y->(j=k/\y=.row xp n2 A)\/(j≠k/\c j=some y):=λj y hj=>by
   unfold bh at hj;by_cases bX:j=k
   ·rw[ax bX]at hj;injection hj with hj;exact .inl ⟨bX,hj.symm⟩
   ·rw[ao bX]at hj;exact .inr ⟨bX,hj⟩
  have m3:aM B (dR bP (k+1) (.val u3)) (bh (bh c k (.row xp n2 A)) (k+1) (.fact (F.mE S))) w':=
   m1.add Qf ⟨u3,rfl,r3.1,λb hF=>di LC (f3 b hF)⟩ n_ (λF' v b e1 e2 hF j y o' bE hj hy he=>by
    injection e1 with e1;subst e1;injection e2 with e2;subst e2;have hF:F.cS u3 w' b:=hF;rcases LG j y hj with ⟨rfl,rfl⟩|⟨_,hj⟩
    ·exact Qc b (p1 b o' bE he) hF
    ·have h1:=c9 j y b o' bE hj (back j y _ hj he) (.inl hy);have h2:=f3 b hF;omega) n_ λF' e hr=>by
    injection e with e;subst e;have:F.rc=true:=hr;rw[wJ]at this;cases this
  have l3:Map.le bP (dR bP (k+1) (.val u3)):=gN (m1.dJ _ Qf);exact⟨_,_,rfl,l1.trans l3,.agg (.cons (c1.mono l3) (.cons (Zs.mono (l1.trans l3)) (.cons (.opq (fP _ _ _) r3.2.1 r3.2.2) .nil))),m3⟩
end
section
variable{P:j_}{B:aa}{N:Nat}
end
section
variable{P:j_}{B:aa}{N:Nat}
end
def cy(k:Nat):Value:=.pointer (some ⟨k,0,some 9⟩)
def cU(L:l_):List Int:=L.map λx:Nat=>(x:Int)
def nS(w:h_)(v:i_)(n:Nat)(xs:ah):Prop:=dp w v n xs\/(n=0/\∃ a,v=.slice (some a) 0 0)
theorem Xk{l:List Int}(h:nS w u l.length (fE l))(hs:w.heap.size<=w'.heap.size)(hk:0<l.length->∀ b,iL u=some b->xT w w' b):nS w' u l.length (fE l):=by
 rcases h with h|h
 ·rcases nF l.length with h0|h0
  ·rcases h with h|⟨b,o,c,h1,h2,h3,h4⟩
   ·exact .inl (.inl h)
   ·refine .inl (.inr ⟨b,o,c,h1,h2,cF h3 hs,λj u hj=>?_⟩);rw[kO h0]at hj;simp[fE]at hj
  ·exact .inl (h.kept hs (hk h0))
 ·exact .inr h
theorem nS.lt{n:Nat}(h:nS w u n xs)(h0:0<n)(hb:iL u=some b):b<w.heap.size:=by
 rcases h with h|⟨h,_⟩
 ·exact h.lt hb
 ·omega
theorem nS.row{n:Nat}(h:nS w u n xs)(h0:0<n):dp w u n xs:=by
 rcases h with h|⟨h,_⟩
 ·exact h
 ·omega
theorem nS.one{n:Nat}(h:nS w u n xs):u.cells=#[u]/\u.oneCell'=true:=by rcases h with (⟨e,_⟩|⟨_,_,_,e,_⟩)|⟨_,_,e⟩<;>rw[e]<;>exact⟨rfl,rfl⟩
theorem nS.form{n:Nat}(h:nS w u n xs):(u=.slice none 0 0/\n=0)\/∃ a c,u=.slice (some a) n c:=by
 rcases h with (⟨e,e2,_⟩|⟨_,_,_,e,_⟩)|⟨e1,_,e⟩
 ·exact .inl ⟨e,e2⟩
 ·exact .inr ⟨_,_,e⟩
 ·subst e1;exact .inr ⟨_,_,e⟩
def eg(l:List Int):Fact where
 G u w:=nS w u l.length (fE l)
 cS u w k:=0<l.length/\iL u=some k
 lt u w k h hF:=h.lt hF.1 hF.2
 dep u w w' h hs hk:=⟨Xk h hs λh0 b hb cs ty f hc=>(hk b ⟨h0,hb⟩).trans hc,λk hF=>hF⟩
 soft _ u w w' h hs hk:=⟨Xk h hs λh0 b hb=>hk b ⟨h0,hb⟩,λk hF=>hF⟩
inductive rQ(w:h_):f_->ah->Prop
 |nil:rQ w [] []
 |cons {i:Int} {l:List Int} {u:i_} {fs:f_} {cs:ah}:nS w u l.length (fE l)->rQ w fs cs->rQ w ((i,l)::fs) (iV i::u::cs)
theorem rQ.length{cs:ah}(h:rQ w fs cs):cs.length=fs.length*2:=by
 induction h with
 |nil=>rfl
 |cons _ _ ih=>simp only[oL,ih];omega
theorem aFp{w:h_}:∀{fs:f_} {cs:ah},rQ w fs cs->∀{i:Nat} {f:Int×List Int},fs[i]?=some f->∃ u,cs[i*2]?=some (iV f.1)/\cs[i*2+1]?=some u/\nS w u f.2.length (fE f.2)
 |_,_,.nil,i,f,h=>by simp at h
 |_,_,.cons (u:=u) h1 h2,0,f,h=>by simp at h;subst h;exact⟨u,rfl,rfl,h1⟩
 |_,_,.cons h1 h2,i+1,f,h=>by
  obtain⟨u,q1,q2,q3⟩:=aFp h2 (i:=i) (by simpa using h);refine⟨u,?_,?_,q3⟩
  ·rw[show(i+1)*2=i*2+2 by omega];exact q1
  ·rw[show(i+1)*2+1=i*2+1+2 by omega];exact q2
def Mg(u:i_)(k:Nat):Prop:=∃ a n c,u=.slice (some a) n c/\0<n/\a.block=k
theorem aRF(h:Mg u k):iL u=some k:=by obtain⟨a,n,c,rfl,_,e⟩:=h;show some a.block=_;rw[e]
theorem rQ.kept{cs:ah}(h:rQ w fs cs)(hs:w.heap.size<=w'.heap.size)(hk:∀ u∈cs,∀ b,Mg u b->xT w w' b):rQ w' fs cs:=by
 induction h with
 |nil=>exact .nil
 |cons h1 _ ih=>
  refine .cons (Xk h1 hs λh0 b hb=>hk _ (bH _ (aP ..)) b ?_) (ih λu hu=>hk u (bH _ (bH _ hu)));rcases h1.form with ⟨e,e2⟩|⟨a,c,e⟩
  ·omega
  ·subst e;injection hb with hb;exact⟨a,_,c,rfl,h0,hb⟩
theorem rQ.lt{cs:ah}(h:rQ w fs cs):∀ u∈cs,∀ b,Mg u b->b<w.heap.size:=by
 induction h with
 |nil=>intro u hu;cases hu
 |cons h1 _ ih=>
  intro u hu b hb;rcases ct.1 hu with rfl|hu
  ·obtain⟨a,n,c,e,_⟩:=hb;cases e
  ·rcases ct.1 hu with rfl|hu
   ·obtain⟨a,n,c,e,h0,e2⟩:=hb;rcases h1.form with ⟨e',e3⟩|⟨a',c',e'⟩
    ·rw[e']at e;cases e
    ·rw[e']at e;injection e with e1 CQ e3;subst CQ;exact h1.lt h0 (by rw[e'];injection e1 with e1;subst e1;show some a'.block=_;rw[e2])
   ·exact ih u hu b hb
def QV(w:h_)(v:i_)(fs:f_):Prop:=∃ cs,dp w v fs.length cs/\rQ w fs cs
def QW(n:Nat)(v:i_)(w:h_)(k:Nat):Prop:=
 iL v=some k\/∃ b o c j u,v=.slice (some ⟨b,o,none⟩) n c/\j<n*2/\w.cell? ⟨b,o+j,none⟩=some u/\Mg u k
theorem aRG{v:i_}{cs:ah}(h1:dp w v fs.length cs)(h2:rQ w fs cs){o c:Nat}(hv:v=.slice (some ⟨b,o,none⟩) fs.length c)(hj:j<fs.length*2)(hu:w.cell? ⟨b,o+j,none⟩=some u):u∈cs:=by
 rcases h1 with ⟨h,_⟩|⟨b',o',c',e,_,_,h4⟩
 ·rw[h]at hv;cases hv
 ·rw[e]at hv;injection hv with hv _ _;injection hv with hv;injection hv with e1 e2 _;subst e1;subst e2;have ak:j<cs.length:=by rw[h2.length];exact hj
  have pO:cs[j]?=some cs[j]:=aT ak;have:=h4 j _ pO;rw[hu]at this;injection this with this;rw[this];exact cY ak
theorem aFq{v:i_}(h:QV w v fs)(hs:w.heap.size<=w'.heap.size)(hk:∀ k,QW fs.length v w k->xT w w' k):
  QV w' v fs/\∀ k,QW fs.length v w' k->QW fs.length v w k:=by
 obtain⟨cs,h1,h2⟩:=h;have Iy:∀ b,iL v=some b->xT w w' b:=λb hb=>hk b (.inl hb);have P4:∀ u∈cs,∀ b,Mg u b->xT w w' b:=λu hu b hb=>by
  rcases h1 with ⟨_,_,h⟩|⟨b',o',c',e,_,_,h4⟩
  ·rw[h]at hu;cases hu
  ·obtain⟨j,hj,rfl⟩:=k7 hu;refine hk b (.inr ⟨b',o',c',j,_,e,by rw[<-h2.length];exact hj,h4 j _ (aT hj),hb⟩)
 refine⟨⟨cs,h1.kept hs Iy,h2.kept hs P4⟩,λk hF=>?_⟩;rcases hF with hF|⟨b,o,c,j,u,e,hj,hc,hb⟩
 ·exact .inl hF
 ·rcases h1 with ⟨h,_⟩|⟨b',o',c',e',_,_,h4⟩
  ·rw[h]at e;cases e
  ·rw[e']at e;injection e with e1 _ e3;injection e1 with e1;injection e1 with e1 e2 _;subst e1;subst e2;subst e3;have ak:j<cs.length:=by rw[h2.length];exact hj
   have h5:=h4 j _ (aT ak);have h6:=VV (Iy b' (by rw[e'];rfl)) h5;rw[hc]at h6;injection h6 with h6;exact .inr ⟨b',o',c',j,u,e',hj,by rw[h6];exact h5,hb⟩
def iA(fs:f_):Fact where
 G v w:=QV w v fs
 cS v w k:=QW fs.length v w k
 lt v w k h hF:=by
  obtain⟨cs,h1,h2⟩:=h;rcases hF with hF|⟨b,o,c,j,u,e,hj,hc,hb⟩
  ·exact h1.lt hF
  ·exact h2.lt u (aRG h1 h2 e hj hc) k hb
 dep v w w' h hs hk:=aFq h hs λk hF cs ty f hc=>(hk k hF).trans hc
 soft _ v w w' h hs hk:=aFq h hs hk
structure pU(fs:f_)(F:Fact):Prop where
 G:∀ v w,F.G v w->(iA fs).G v w
 cS:∀ v w k,(iA fs).cS v w k->F.cS v w k
theorem pU.self(fs:f_):pU fs (iA fs):=⟨λ_ _ h=>h,λ_ _ _ h=>h⟩
theorem oE.aRH{cs:ah}(h:oE w fs cs):rQ w fs cs:=by
 induction h with
 |nil=>exact .nil
 |cons h1 _ _ ih=>exact .cons (.inl h1) ih
theorem pU.full(fs:f_):pU fs (iu fs):=by
 refine⟨λv w h=>?_,λv w k h=>?_⟩
 ·obtain⟨cs,h1,h2⟩:=h;exact⟨cs,h1,h2.aRH⟩
 ·rcases h with h|⟨b,o,c,j,u,e,hj,hc,hb⟩
  ·exact .inl h
  ·exact .inr ⟨b,o,c,j,u,e,hj,hc,aRF hb⟩
theorem aRI{v:i_}(h:QV w v fs)(hl:∀ f∈fs,0<f.2.length):Lu w v fs:=by
 obtain⟨cs,h1,h2⟩:=h;refine⟨cs,h1,?_⟩;clear h1;induction h2 with
 |nil=>exact .nil
 |cons h3 _ ih=>
  have hr:=h3.row (hl _ (aP ..));refine .cons hr ?_ (ih λf hf=>hl f (bH _ hf));rcases hr with ⟨e,_⟩|⟨_,_,_,e,_⟩<;>rw[e]<;>rfl
section
variable{P:j_}{B:aa}{N:Nat}
theorem tn(ho:LA P o=true){F:Fact}(hF:pU fs F):cA P B o [.pointer (some ⟨k,0,some 9⟩)] [(k,some (.fact F))] (vI fs.length) []:=by
 obtain⟨x,t,e,bY,ht⟩:=aDw ho;refine iC.step λι c ρ w aQ hm oP=>?_;rw[bY]at aQ;obtain⟨u,hu,hc⟩:=nB aQ;have hu:ρ x=u:=by simpa[Op.operands,Call.operands]using hu
 have Gz:=zJ hm (oP (k,_) (aP ..)) hc;obtain⟨cs,hr,_⟩:=hF.G _ _ Gz.1;refine⟨ι,vI fs.length,w,Map.le.refl _,.same rfl,hm,.inl ?_⟩;rcases hr with ⟨q1,q2,_⟩|⟨b,o',c',q1,_⟩
 ·subst q1;simp[execOp,bY,resolve,invoke,builtin,Builtin.len_,hu,jF ht,goInt,q2,vI]
 ·subst q1;simp[execOp,bY,resolve,invoke,builtin,Builtin.len_,hu,jF ht,goInt,vI]
theorem tt(ho:LA P o=true){l:List Int}:cA P B o [.pointer (some ⟨k,0,some 9⟩)] [(k,some (.fact (eg l)))] (vI l.length) []:=by
 obtain⟨x,t,e,bY,ht⟩:=aDw ho;refine iC.step λι c ρ w aQ hm oP=>?_;rw[bY]at aQ;obtain⟨u,hu,hc⟩:=nB aQ;have hu:ρ x=u:=by simpa[Op.operands,Call.operands]using hu
 have Gz:=zJ hm (oP (k,_) (aP ..)) hc;have hw:nS w u l.length (fE l):=Gz.1;refine⟨ι,vI l.length,w,Map.le.refl _,.same rfl,hm,.inl ?_⟩;rcases hw.form with ⟨q1,q2⟩|⟨a,c',q1⟩
 ·subst q1;simp[execOp,bY,resolve,invoke,builtin,Builtin.len_,hu,jF ht,goInt,q2,vI]
 ·subst q1;simp[execOp,bY,resolve,invoke,builtin,Builtin.len_,hu,jF ht,goInt,vI]
theorem GA(ho:w6 P o=some 2){m:Nat}{f:Int×List Int}{F:Fact}(hF:pU fs F)(hi:fs[i]?=some f)(IA:m<k):
  cA P B o [.pointer (some ⟨m,0,some 9⟩),vI i] [(k,none),(k+1,none),(m,some (.fact F))] (.pointer (some ⟨k,0,some 7⟩)) [(k,.view [iV f.1,.pointer (some ⟨k+1,0,some 9⟩)]),(k+1,.fact (eg f.2))]:=by
 unfold w6 at ho;split at ho
 ·rename_i t x y bY;split at ho
  ·rename_i e ht;split at ho
   ·rename_i inf AN;injection ho with ho;refine iC.step λι c ρ w aQ hm oP=>?_;rw[bY]at aQ;obtain⟨v,v2,hu,hc,dq⟩:=js aQ;have dS:ρ x=v:=by simp[Op.operands]at hu;exact hu.1
    have eX:ρ y=v2:=by simp[Op.operands]at hu;exact hu.2
    have dq:=dq.fk rfl;have GB:c m=some (.fact F):=oP (m,some (.fact F)) s_;have k0:c k=none:=oP (k,none) s_;have k1:c (k+1)=none:=oP (k+1,none) s_;have Gz:=zJ hm GB hc;have loc:ι m=some (.val v):=by
     obtain⟨lc,q1,u,q2,q3⟩:=hm.born m _ GB;subst q2;generalize hp:Value.pointer (some ⟨m,0,some 9⟩)=p at hc;cases hc with
     |same h=>subst hp;cases h
     |ptr h=>injection hp with hp;injection hp with hp;injection hp with _ _ hp;cases hp
     |slc h=>cases hp
     |slcN h=>cases hp
     |opq h4 h5 h6=>injection hp with hp;injection hp with hp;injection hp with iN;subst iN;exact h4
     |fn=>cases hp
     |agg=>cases hp
     |tup=>cases hp
    obtain⟨cs,hr,jt⟩:=hF.G _ _ Gz.1;obtain⟨u,a1,a2,a3⟩:=aFp jt hi;have ak:=(eA.1 hi).1;rcases hr with ⟨_,q2,_⟩|⟨b,o',c',q1,q2,q3,q4⟩
    ·omega
    have own:∀ bb,F.cS v w bb->∀ j y o' bE,c j=some y->y.owns=true->ι j≠some (.at bb o' bE):=λbb hb j y o1 lG hj hy he=>hm.apart j m y F bb o1 lG v hj hy he GB loc hb;have hFb:F.cS v w b:=hF.cS _ _ _ (.inl (by rw[q1];rfl));have hFu:∀ bb,(eg f.2).cS u w bb->F.cS v w bb:=λbb hb=>hF.cS _ _ _ (.inr ⟨b,o',c',i*2+1,u,q1,by omega,q4 _ _ a2,by
     obtain⟨h0,hb⟩:=hb;rcases a3.form with ⟨e',e2⟩|⟨a,c2,e'⟩
     ·omega
     ·subst e';injection hb with hb;exact⟨a,_,c2,rfl,h0,hb⟩⟩)
    have m1:aM B (dR ι (k+1) (.val u)) (bh c (k+1) (.fact (eg f.2))) w:=hm.add k1 ⟨u,rfl,a3⟩ n_ (λF' v' b' e1 e2 hb j y o1 lG hj hy he=>by injection e1 with e1;subst e1;injection e2 with e2;subst e2;exact own b' (hFu b' hb) j y o1 lG hj hy he) n_ λF' e hr=>by injection e with e;subst e;cases hr
    have k0':bh c (k+1) (.fact (eg f.2)) k=none:=by unfold bh;rw[ao o_];exact k0
    have l1:Map.le ι (dR ι (k+1) (.val u)):=gN (hm.dJ _ k1);have cu:aK (dR ι (k+1) (.val u)) (.pointer (some ⟨k+1,0,some 9⟩)) u:=.opq (fP _ _ _) a3.one.1 a3.one.2;have l2:Map.le (dR ι (k+1) (.val u)) (dR (dR ι (k+1) (.val u)) k (.at b (o'+i*2) 0)):=gN (m1.dJ _ k0');have back:∀ j y b' o1 lG,bh c (k+1) (.fact (eg f.2)) j=some y->y.owns=true->dR ι (k+1) (.val u) j=some (.at b' o1 lG)->c j=some y/\ι j=some (.at b' o1 lG):=λj y b' o1 lG hj hy he=>by
     unfold bh at hj;unfold dR at he;by_cases bX:j=k+1
     ·rw[ax bX]at hj;injection hj with hj;subst hj;cases hy
     ·rw[ao bX]at hj he;exact⟨hj,he⟩
    have m2:aM B (dR (dR ι (k+1) (.val u)) k (.at b (o'+i*2) 0)) (bh (bh c (k+1) (.fact (eg f.2))) k (.view [iV f.1,.pointer (some ⟨k+1,0,some 9⟩)])) w:=
     m1.add k0' (.inr ⟨b,o'+i*2,0,[iV f.1,u],rfl,.cons (.same rfl) (.cons (cu.mono l2) .nil),λj x hj=>by
      cases j with
      |zero=>simp at hj;subst hj;have:=q4 _ _ a1;simpa using this
      |succ j=>cases j with
       |zero=>simp at hj;subst hj;have:=q4 _ _ a2;rw[uI];exact this
       |succ j=>simp at hj⟩) n_ n_ (λb1 o1 lG _ e=>by
      injection e with e1 e2 e3;subst e1;exact⟨q3,λj y o2 qb hj hy he=>by obtain⟨hj,he⟩:=back j y b o2 qb hj hy he;exact own b hFb j y o2 qb hj hy he⟩)
    refine⟨_,.pointer (some ⟨b,o'+i*2,none⟩),w,l1.trans l2,?_,m2,.inl ?_⟩
    ·have:=aK.ptr (off:=0) (fP (dR ι (k+1) (.val u)) k (.at b (o'+i*2) 0));rwa[jd]at this
    ·subst q1;simp only[execOp,bY,dS,eX,dq];have h0:(0:Int)<=(i:Int):=by omega
     simp[Instr.indexAt,asIntOf,jF ht,sizeOf,typeInfo,AN,h0,yL,vI,ho];intro fR;omega
   ·cases ho
  ·cases ho
 ·cases ho
end
section
open V3 (dot av cE smul)
theorem bw.QX{x1 x2:ah}{F F':Fact}(h:bw P f (.s n1 x1 n2 x2 F::l) res)(hF:∀ v w,F'.G v w->F.G v w):bw P f (.s n1 x1 n2 x2 F'::l) res:=by
 intro w vs cv;cases cv with
 |cons h1 h2=>
  obtain⟨u1,u2,u3,e,r1,r2,r3⟩:=h1;exact h w _ (.cons ⟨u1,u2,u3,e,r1,r2,hF _ _ r3.1,r3.2⟩ h2)
theorem aFr(fs:f_)(S:Nat):∀ v w,((iu fs).mE S).G v w->(iA fs).G v w:=λv w h=>(pU.full fs).G v w h.1
theorem aFs{x y:Nat}(h:decide (x≠y)=t):Value.bool ((x:Int)!=(y:Int))=.bool t:=by
 rw[<-h];congr 1
 by_cases e:x=y
 ·subst e;simp
 ·rw[aE e,rh];omega
theorem aRJ{a b:List Int}(h63:a.length<9223372036854775807):bw prog 85 [.o (eg a),.o (eg b)] (.bool (decide (a=b))):=by
 have au:([aL.o (eg a),.o (eg b)].all aL.ok)=true:=rfl;by_cases hl:a.length=b.length
 ·rcases nF a.length with h0|h0
  ·have ha:=kO h0;have hb:=kO (hl▸h0);subst ha;subst hb;exact cC func85 au 26 (λw=>[.step 7 (aA f85 7) [cy 0] [(0,some (.fact (eg [])))] (vI 0) [] (tt k_),.step 9 (aA f85 9) [cy 1] [(1,some (.fact (eg [])))] (vI 0) [] (tt k_),.step 12 (aA f85 12) [cy 0] [(0,some (.fact (eg [])))] (vI 0) [] (tt k_)])
  ·intro w vs cv;cases cv with
   |cons h1 cv=>
   cases cv with
   |cons h2 cv=>
   cases cv;have r1:dp w _ a.length (fE a):=nS.row h1.1 h0;have r2:dp w _ b.length (fE b):=nS.row h2.1 o_;exact aNo h63 w _ (.cons r1 (.cons r2 .nil))
 ·have bZ:a≠b:=λh=>hl (by rw[h]);rw[aO bZ];exact cC func85 au 26 (λw=>[.step 7 (aA f85 7) [cy 0] [(0,some (.fact (eg a)))] (vI a.length) [] (tt k_),.step 9 (aA f85 9) [cy 1] [(1,some (.fact (eg b)))] (vI b.length) [] (tt k_),.rw 10 _ b_ (aFs (x:=a.length) (y:=b.length) (by simp[hl]))])
theorem aRK{i j:Int}{l l':List Int}(h63:l.length<9223372036854775807):bw prog 84 [.c (iV i) (eg l),.c (iV j) (eg l')] (.bool (decide ((i,l)=(j,l')))):=by
 have au:([aL.c (iV i) (eg l),.c (iV j) (eg l')].all aL.ok)=true:=rfl;have he:=aRJ (a:=l) (b:=l') h63;have e1:decide ((i,l)=(j,l'))=(decide (i=j)&&decide (l=l')):=by rw[<-Bool.decide_and];exact pD.2 s_
 have e0:(Value.bool (i==j))=.bool (decide (i=j)):=rfl;rw[e1];generalize decide (i=j)=s at *;generalize decide (l=l')=t at *;refine iT mixed func84 au 100 (N:=17) k_ (λw=>[.rw 9 _ _ e0,.cR f84 15 [cy 0,cy 1] he (.o (.o .nil))]) (λ_=>?_) ?_<;>cases s<;>kernel_rfl
section
variable{Bs:aa}{fs fs':f_}
def Mh:Value:=.func (.func 84) #[] #[]
def As(n i:Nat):aN:=[(17,vI i),(15,cy 0),(16,vI n),(1,cy 1),(2,Mh)]
def rR(fs fs':f_):aH:=[(0,.fact (iA fs)),(1,.fact (iA fs'))]
theorem aRL:∀ x∈rR fs fs',fe 2 x.2:=λx hx=>by simp only[rR,ct,iX,iY]at hx;rcases hx with rfl|rfl<;>exact λv hv=>(by cases hv)
noncomputable def efS{n:Nat}{f:Int×List Int}(hi:i<n)(h1:fs[i]?=some f)(h2:fs'[i]?=some f')(h63:f.2.length<9223372036854775807)(ht:decide (f=f')=t)(more:bL prog Bs 32):bL prog Bs 32:=
 .lt 18 i n true (aE hi)::.step 20 (aA f87 20) [cy 0,vI i] [(2,none),(2+1,none),(0,some (.fact (iA fs)))] (.pointer (some ⟨2,0,some 7⟩)) [(2,.view [iV f.1,cy 3]),(2+1,.fact (eg f.2))] (GA k_ (.self fs) h1 d_)::
 .step 24 (aA f87 24) [cy 1,vI i] [(5,none),(5+1,none),(1,some (.fact (iA fs')))] (.pointer (some ⟨5,0,some 7⟩)) [(5,.view [iV f'.1,cy 6]),(5+1,.fact (eg f'.2))] (GA k_ (.self fs') h2 d_)::
 .step 29 (aA f87 29) [Mh,.agg #[iV f.1,cy 3],.agg #[iV f'.1,cy 6]] [(3,some (.fact (eg f.2))),(6,some (.fact (eg f'.2)))] (.bool t) [] (pb (ht▸aRK (i:=f.1) (j:=f'.1) h63) (.c rfl (λ_ _ h=>h) (.c rfl (λ_ _ h=>h) .nil)) (x:=.tmp 26) k_ k_ rfl)::more
theorem aRM{n:Nat}{f:Int×List Int}(hi:i<n)(h1:fs[i]?=some f)(h2:fs'[i]?=some f)(h63:f.2.length<9223372036854775807)(aRN:n<9223372036854775807):af prog Bs 32 (aF (ag f87 0)) (As n i) (rR fs fs') 2 ⟨.normal,As n (i+1),rR fs fs',2⟩:=
 qZ mixed 100 (fC:=8) (efS hi h1 h2 h63 (t:=true) s_ [.sum 31 i 1 (i+1) rfl o_]) k_ rfl k_ aRL k_
theorem aRO{n:Nat}{f:Int×List Int}(hi:i<n)(h1:fs[i]?=some f)(h2:fs'[i]?=some f')(h63:f.2.length<9223372036854775807)(ht:f≠f'):af prog Bs 32 (aF (ag f87 0)) (As n i) (rR fs fs') 2 ⟨.ret,[(6,.bool false)],rR fs fs',8⟩:=
 aC (efS hi h1 h2 h63 (aO ht) [])
theorem aRP{n:Nat}:af prog Bs 32 (aF (ag f87 0)) (As n n) (rR fs fs') 2 ⟨.exit 0,[],rR fs fs',2⟩:=
 aC [.lt 18 n n false s_]
noncomputable def Xl(ht:decide (fs.length≠fs'.length)=t)(more:bL prog Bs 32):bL prog Bs 32:=
 .step 11 (aA f87 11) [cy 0] [(0,some (.fact (iA fs)))] (vI fs.length) [] (tn k_ (.self fs))::.step 13 (aA f87 13) [cy 1] [(1,some (.fact (iA fs')))] (vI fs'.length) [] (tn k_ (.self fs'))::.rw 14 _ (.bool t) (aFs ht)::more
theorem aRQ(h63:fs.length<9223372036854775807)(pT:∀ f∈fs,f.2.length<9223372036854775807):bw prog 87 [.o (iA fs),.o (iA fs'),.p Mh] (.bool (decide (fs=fs'))):=by
 have au:([aL.o (iA fs),.o (iA fs'),.p Mh].all aL.ok)=true:=rfl;by_cases hl:fs.length=fs'.length
 ·have qI:∀(B:aa) e,e<=fs.length->(∀ i x y,i<e->fs[i]?=some x->fs'[i]?=some y->x=y)->∀ i,i<e->af prog B 32 (aF (ag f87 0)) (As fs.length i) (rR fs fs') 2 ⟨.normal,As fs.length (i+1),rR fs fs',2⟩:=λB e he h4 i hi=>by have hx:fs[i]?=some fs[i]:=aT o_;have hy:fs'[i]?=some fs'[i]:=aT o_;have:=h4 i _ _ hi hx hy;rw[<-this]at hy;exact aRM o_ hx hy (pT _ (cY _)) h63
  rcases DK fs fs' hl with h|⟨e,x,y,q1,q2,q3,q4⟩
  ·have lo:∀ B:aa,af prog B 32 (.block 0 (ag f87 0)) (As fs.length 0) (rR fs fs') 2 ⟨.normal,[],rR fs fs',2⟩:=λB=>
    bO (id:=0) (ch fs.length (λi=>As fs.length i) (λ_=>rR fs fs') (λi k _=>Iff.rfl) (qI B fs.length (bA _) λi x y _ hx hy=>by rw[h,hy]at hx;injection hx with hx;exact hx.symm) aRP n_)
   rw[aE h];exact cC func87 au 32 (λw=>Xl (fs:=fs) (fs':=fs') (t:=false) (by simp[hl]) [.step 16 (aA f87 16) [cy 0] [(0,some (.fact (iA fs)))] (vI fs.length) [] (tn k_ (.self fs)),.code 0 _ _ _ _ _ (lo _)])
  ·have bZ:fs≠fs':=λh=>by subst h;rw[q1]at q2;injection q2 with q2;exact q3 q2
   rw[aO bZ];have ak:=(eA.1 q1).1;have lo:∀ B:aa,af prog B 32 (.block 0 (ag f87 0)) (As fs.length 0) (rR fs fs') 2 ⟨.ret,[(6,.bool false)],rR fs fs',8⟩:=λB=>
    bO (id:=0) (ch e (λi=>As fs.length i) (λ_=>rR fs fs') (λi k _=>Iff.rfl) (qI B e o_ q4) (aRO ak q1 q2 (pT _ (cH q1)) q3) n_)
   exact cC func87 au 32 (λw=>Xl (fs:=fs) (fs':=fs') (t:=false) (by simp[hl]) [.step 16 (aA f87 16) [cy 0] [(0,some (.fact (iA fs)))] (vI fs.length) [] (tn k_ (.self fs)),.code 0 _ _ _ _ _ (lo _)])
 ·have bZ:fs≠fs':=λh=>hl (by rw[h]);rw[aO bZ];exact cC func87 au 32 (λw=>Xl (fs:=fs) (fs':=fs') (t:=true) (by simp[hl]) [])
end
end
theorem aFt{t:TypeId}{s:Nat}(ht:Iu P t=some s){cells:ah}(hl:off+s<=cells.length):dO P t cells off=some (.agg ((cells.drop off).take s).toArray):=by
 unfold Iu at ht;split at ht
 ·rename_i d inf h1 h2;split at ht
  ·rename_i hr;injection ht with ht;unfold dO;rw[h1,h2];dsimp only;rw[ax hr,ht,ax (by rw[Nat.ble_eq];exact hl)]
  ·cases ht
 ·cases ht
theorem aFu{l:List RP}{p:RP}(h:l[i]?=some p):i*40+40<=(dw l).length:=by rw[uc ja];have ak:=(eA.1 h).1;have:=eh 40 ak;omega
theorem QY{l:List RP}{p:RP}(h:l[i]?=some p):dO prog 38 (dw l) (i*40)=some p.n.v:=by
 rw[aFt (s:=30) k_ (by have:=aFu h;omega)];have e:=PH ja h;have e2:((dw l).drop (i*40)).take 30=p.n.cs:=by
  have:((dw l).drop (i*40)).take 30=(((dw l).drop (i*40)).take 40).take 30:=by rw[MP];rfl
  rw[this,e];rfl
 rw[e2];rfl
theorem aFv{l:List RP}{p:RP}(h:l[i]?=some p):dO prog 33 (dw l) (i*40+30)=some p.d.v:=by
 rw[aFt (s:=10) k_ (by have:=aFu h;omega)];have e:=PH ja h;have e2:((dw l).drop (i*40+30)).take 10=p.d.cs:=by
  rw[<-NK];have:(((dw l).drop (i*40)).drop 30).take 10=(((dw l).drop (i*40)).take 40).drop 30:=by rw[List.drop_take]
  rw[this,e];rfl
 rw[e2];rfl
theorem Ck(b:α->Bool)(l:List α):l.all b=true\/∃(n:Nat) (x:α),l[n]?=some x/\b x=false/\(∀(i:Nat) (y:α),i<n->l[i]?=some y->b y=true)/\l.all b=false:=by
 induction l with
 |nil=>exact .inl rfl
 |cons x l ih=>
  rcases hb:b x with _|_
  ·exact .inr ⟨0,x,rfl,hb,λi y hi=>by omega,by simp[hb]⟩
  ·rcases ih with h|⟨n,y,h1,h2,h3,h4⟩
   ·exact .inl (by rw[dT,hb,h];rfl)
   ·refine .inr ⟨n+1,y,by simpa using h1,h2,λi z hi hz=>?_,by rw[dT,h4,NG]⟩;cases i with
    |zero=>simp at hz;rw[<-hz];exact hb
    |succ i=>exact h3 i z o_ (by simpa using hz)
theorem Ee{b:α->Bool}{l:List α}(h:l.all b=true){x:α}(hx:l[i]?=some x):b x=true:=bd.1 h x (cH hx)
theorem Mi(h:decide (a<=b)=t):Value.bool (decide ((a:Int)<=(b:Int)))=.bool t:=by rw[<-h];congr 1;rw[pD];omega
section
variable{Bs:aa}{vs:List RV}{k:Nat}
def GC(n k i:Nat):aN:=[(7,vI i),(0,sl 0 n),(2,vI k)]
def yj(vs:List RV):aH:=[(0,.view (cV vs))]
theorem aFw{n:Nat}{x:RV}(hi:i<n)(hx:vs[i]?=some x)(hb:oF x k=true)(h63:n<9223372036854775807):
  af prog Bs 25 (aF (ag f34 0)) (GC n k i) (yj vs) 1 ⟨.normal,GC n k (i+1),yj vs,1⟩:=by
 have hr:=QB x k;rw[hb]at hr;exact aC [.lt 11 i n true (aE hi),.cM f34 16 0 n i 30 hi k_,.ld f34 17 38 0 (i*30) (.view (cV vs)) x.v rfl (sV hx) k_,hr.at 19,.sum 13 i 1 (i+1) rfl o_]
theorem aRR{n:Nat}{x:RV}(hi:i<n)(hx:vs[i]?=some x)(hb:oF x k=false):
  af prog Bs 25 (aF (ag f34 0)) (GC n k i) (yj vs) 1 ⟨.ret,[(6,.bool false)],yj vs,1⟩:=by
 have hr:=QB x k;rw[hb]at hr;exact aC [.lt 11 i n true (aE hi),.cM f34 16 0 n i 30 hi k_,.ld f34 17 38 0 (i*30) (.view (cV vs)) x.v rfl (sV hx) k_,hr.at 19]
theorem aRS(m:Nat)(h63:vs.length<9223372036854775807):bw prog 34 [.r vs.length (cV vs),.p (vI m),.p (vI k)] (.bool (vs.all (λx=>oF x k)&&decide (vs.length<=m))):=by
 have au:([aL.r vs.length (cV vs),.p (vI m),.p (vI k)].all aL.ok)=true:=by simp only[dT,eC,aL.ok,gK fD,gp];rfl
 rcases Ck (λx=>oF x k) vs with h|⟨n,x,h1,h2,h3,h4⟩
 ·rw[h,jy];have lo:∀ B:aa,af prog B 25 (.block 0 (ag f34 0)) (GC vs.length k 0) (yj vs) 1 ⟨.normal,[(0,sl 0 vs.length)],yj vs,1⟩:=λB=>
   bO (id:=0) (ch vs.length (λi=>GC vs.length k i) (λ_=>yj vs) (λi k _=>Iff.rfl) (r:=⟨.exit 0,[(0,sl 0 vs.length)],yj vs,1⟩) (λi hi=>by have hx:vs[i]?=some vs[i]:=aT hi;exact aFw hi hx (Ee h hx) h63) (aC [.lt 11 vs.length vs.length false s_]) n_)
  exact cC func34 au 25 (λw=>[.code 0 _ _ _ _ _ (lo _),.rw 24 _ (.bool (decide (vs.length<=m))) (Mi rfl)])
 ·rw[h4,zg];have ak:=(eA.1 h1).1;have lo:∀ B:aa,af prog B 25 (.block 0 (ag f34 0)) (GC vs.length k 0) (yj vs) 1 ⟨.ret,[(6,.bool false)],yj vs,1⟩:=λB=>
   bO (id:=0) (ch n (λi=>GC vs.length k i) (λ_=>yj vs) (λi k _=>Iff.rfl) (λi hi=>by have hx:vs[i]?=some vs[i]:=aT o_;exact aFw o_ hx (h3 i _ hi hx) h63) (aRR ak h1 h2) n_)
  exact cC func34 au 25 (λw=>[.code 0 _ _ _ _ _ (lo _)])
end
def QZ(p:RP):Bool:=decide (24<wV p.n)||decide (15<wN p.d)
def tu(ps:List RP)(i:Nat):Nat:=((ps.take i).filter QZ).length
theorem aRT{ps:List RP}{p:RP}(h:ps[i]?=some p):tu ps (i+1)=tu ps i+if QZ p then 1 else 0:=by unfold tu;rw[sY,h];simp only[Option.toList,List.filter_append,kP];rcases hb:QZ p with _|_<;>simp[hb]
theorem aRU(ps:List RP)(i:Nat):tu ps i<=i:=by unfold tu;refine di (List.length_filter_le _ _) ?_;rw[jr];omega
theorem Q0{r:RN}(h:tg r k=true):wN r<=5*k:=by unfold tg at h;simp only[cZ,r6]at h;unfold wN;omega
theorem aRV{r:RV}(h:oF r k=true):wV r<=15*k:=by unfold oF at h;simp only[cZ]at h;have h1:=Q0 h.1;have h2:=Q0 h.2.1;have h3:=Q0 h.2.2;unfold wV;omega
section
variable{Bs:aa}{ps:List RP}
def Au(ps:List RP)(n i:Nat):aN:=[(6,vI i),(0,sl 0 n),(5,vI (tu ps i))]
def yk(ps:List RP):aH:=[(0,.view (dw ps))]
theorem aFx{n:Nat}{x:RP}(hi:i<n)(hx:ps[i]?=some x)(hb:Ch x 3=true)(h63:n<9223372036854775807):
  af prog Bs 45 (aF (ag f33 0)) (Au ps n i) (yk ps) 1 ⟨.normal,Au ps n (i+1),yk ps,1⟩:=by
 have hr:=aEv x 3;rw[hb]at hr;have gW:oF x.n 3=true/\tg x.d 3=true:=by unfold Ch at hb;simpa using hb
 have w1:=aRV gW.1;have w2:=Q0 gW.2;have q1:=aQd (r:=x.n) o_;have q2:=Qt (r:=x.d) o_;have hs:=aRT hx;have hle:=aRU ps i;unfold Au;rw[hs];generalize tu ps i=c at *;unfold QZ;by_cases g1:24<wV x.n
 ·rw[aE g1];exact aC [.lt 10 i n true (aE hi),.cM f33 15 0 n i 40 hi k_,.ld f33 16 50 0 (i*40) (.view (dw ps)) x.v rfl (v8 hx) k_,hr.at 17,.cM f33 21 0 n i 40 hi k_,.ld f33 23 38 0 (i*40) (.view (dw ps)) x.n.v rfl (QY hx) k_,q1.at 24,.gt 25 (wV x.n) 24 true (aE g1),.sum 36 c 1 (c+1) rfl o_,.sum 12 i 1 (i+1) rfl o_]
 ·rw[aO g1];by_cases g2:15<wN x.d
  ·rw[aE g2];exact aC [.lt 10 i n true (aE hi),.cM f33 15 0 n i 40 hi k_,.ld f33 16 50 0 (i*40) (.view (dw ps)) x.v rfl (v8 hx) k_,hr.at 17,.cM f33 21 0 n i 40 hi k_,.ld f33 23 38 0 (i*40) (.view (dw ps)) x.n.v rfl (QY hx) k_,q1.at 24,.gt 25 (wV x.n) 24 false (aO g1),.cM f33 29 0 n i 40 hi k_,.ld f33 31 33 0 (i*40+30) (.view (dw ps)) x.d.v rfl (aFv hx) k_,q2.at 32,.gt 33 (wN x.d) 15 true (aE g2),.sum 36 c 1 (c+1) rfl o_,.sum 12 i 1 (i+1) rfl o_]
  ·rw[aO g2];exact aC [.lt 10 i n true (aE hi),.cM f33 15 0 n i 40 hi k_,.ld f33 16 50 0 (i*40) (.view (dw ps)) x.v rfl (v8 hx) k_,hr.at 17,.cM f33 21 0 n i 40 hi k_,.ld f33 23 38 0 (i*40) (.view (dw ps)) x.n.v rfl (QY hx) k_,q1.at 24,.gt 25 (wV x.n) 24 false (aO g1),.cM f33 29 0 n i 40 hi k_,.ld f33 31 33 0 (i*40+30) (.view (dw ps)) x.d.v rfl (aFv hx) k_,q2.at 32,.gt 33 (wN x.d) 15 false (aO g2),.sum 12 i 1 (i+1) rfl o_]
theorem aRW{n:Nat}{x:RP}(hi:i<n)(hx:ps[i]?=some x)(hb:Ch x 3=false):
  af prog Bs 45 (aF (ag f33 0)) (Au ps n i) (yk ps) 1 ⟨.ret,[(4,.bool false)],yk ps,1⟩:=by
 have hr:=aEv x 3;rw[hb]at hr;exact aC [.lt 10 i n true (aE hi),.cM f33 15 0 n i 40 hi k_,.ld f33 16 50 0 (i*40) (.view (dw ps)) x.v rfl (v8 hx) k_,hr.at 17]
def Mj(ps:List RP)(k:Nat):Bool:=ps.all (λx=>Ch x 3)&&(decide (tu ps ps.length<=1)&&decide (ps.length<=k))
theorem aRX(k:Nat)(h63:ps.length<9223372036854775807):bw prog 33 [.r ps.length (dw ps),.p (vI k)] (.bool (Mj ps k)):=by
 have au:([aL.r ps.length (dw ps),.p (vI k)].all aL.ok)=true:=by simp only[dT,eC,aL.ok,gK ja,gp];rfl
 unfold Mj;rcases Ck (λx=>Ch x 3) ps with h|⟨n,x,h1,h2,h3,h4⟩
 ·rw[h,jy];have lo:∀ B:aa,af prog B 45 (.block 0 (ag f33 0)) (Au ps ps.length 0) (yk ps) 1 ⟨.normal,[(0,sl 0 ps.length),(5,vI (tu ps ps.length))],yk ps,1⟩:=λB=>
   bO (id:=0) (ch ps.length (λi=>Au ps ps.length i) (λ_=>yk ps) (λi k _=>Iff.rfl) (r:=⟨.exit 0,[(0,sl 0 ps.length),(5,vI (tu ps ps.length))],yk ps,1⟩) (λi hi=>by have hx:ps[i]?=some ps[i]:=aT hi;exact aFx hi hx (Ee h hx) h63) (aC [.lt 10 ps.length ps.length false s_]) n_)
  unfold Au at lo;have e0:tu ps 0=0:=by unfold tu;simp
  rw[e0]at lo;generalize tu ps ps.length=c at *;by_cases hc:c<=1
  ·rw[aE hc,jy];exact cC func33 au 45 (λw=>[.code 0 _ _ _ _ _ (lo _),.rw 38 _ b_ (Mi (a:=c) (b:=1) (aE hc)),.rw 43 _ (.bool (decide (ps.length<=k))) (Mi rfl)])
  ·rw[aO hc,zg];exact cC func33 au 45 (λw=>[.code 0 _ _ _ _ _ (lo _),.rw 38 _ a_ (Mi (a:=c) (b:=1) (aO hc))])
 ·rw[h4,zg];have ak:=(eA.1 h1).1;have lo:∀ B:aa,af prog B 45 (.block 0 (ag f33 0)) (Au ps ps.length 0) (yk ps) 1 ⟨.ret,[(4,.bool false)],yk ps,1⟩:=λB=>
   bO (id:=0) (ch n (λi=>Au ps ps.length i) (λ_=>yk ps) (λi k _=>Iff.rfl) (λi hi=>by have hx:ps[i]?=some ps[i]:=aT o_;exact aFx o_ hx (h3 i _ hi hx) h63) (aRW ak h1 h2) n_)
  have e0:tu ps 0=0:=by unfold tu;simp
  unfold Au at lo;rw[e0]at lo;exact cC func33 au 45 (λw=>[.code 0 _ _ _ _ _ (lo _)])
end
section
open V3 (dot av cE smul)
theorem aFy{p:HS K}(h:ps[i]?=some p):(ps.map db)[i]?=some (db p):=by rw[qW,h];rfl
theorem Mk{p:HS K}(h:ps[i]?=some p):dO prog 38 (bB ps) (i*40)=some (aZ p.n):=QY (aFy h)
theorem Q1{p:HS K}(h:ps[i]?=some p):dO prog 50 (bB ps) (i*40)=some (dH p):=v8 (aFy h)
section
variable{Bs:aa}{ps:List RP}{m:Nat}
def GD(n i:Nat):aN:=[(3,vI i),(0,sl 0 n)]
def wB(ps:List RP):aH:=[(0,.view (dw ps))]
theorem aFz{n:Nat}{x:RP}(hi:i<n)(hx:ps[i]?=some x)(hs:vt m x)(hm:m<=az)(hb:mF x=true)(h63:n<9223372036854775807):
  af prog Bs 16 (aF (ag f127 0)) (GD n i) (wB ps) 1 ⟨.normal,GD n (i+1),wB ps,1⟩:=by
 have hv:=WV hs hm;rw[hb]at hv;exact aC [.lt 7 i n true (aE hi),.cM f127 12 0 n i 40 hi k_,.ld f127 13 50 0 (i*40) (.view (dw ps)) x.v rfl (v8 hx) k_,hv.at 14,.sum 9 i 1 (i+1) rfl o_]
theorem aRY{n:Nat}{x:RP}(hi:i<n)(hx:ps[i]?=some x)(hs:vt m x)(hm:m<=az)(hb:mF x=false):
  af prog Bs 16 (aF (ag f127 0)) (GD n i) (wB ps) 1 ⟨.ret,[(2,.bool false)],wB ps,1⟩:=by
 have hv:=WV hs hm;rw[hb]at hv;exact aC [.lt 7 i n true (aE hi),.cM f127 12 0 n i 40 hi k_,.ld f127 13 50 0 (i*40) (.view (dw ps)) x.v rfl (v8 hx) k_,hv.at 14]
theorem aFA(hs:∀ x∈ps,vt m x)(hm:m<=az)(h63:ps.length<9223372036854775807):bw prog 127 [.r ps.length (dw ps)] (.bool (ps.all mF)):=by
 have au:([aL.r ps.length (dw ps)].all aL.ok)=true:=by simp only[dT,eC,aL.ok,gK ja,gp]
 rcases Ck mF ps with h|⟨n,x,h1,h2,h3,h4⟩
 ·rw[h];have lo:∀ B:aa,af prog B 16 (.block 0 (ag f127 0)) (GD ps.length 0) (wB ps) 1 ⟨.normal,[],wB ps,1⟩:=λB=>
   bO (id:=0) (ch ps.length (λi=>GD ps.length i) (λ_=>wB ps) (λi k _=>Iff.rfl) (r:=⟨.exit 0,[],wB ps,1⟩) (λi hi=>by have hx:ps[i]?=some ps[i]:=aT hi;exact aFz hi hx (hs _ (cY hi)) hm (Ee h hx) h63) (aC [.lt 7 ps.length ps.length false s_]) n_)
  exact cC func127 au 16 (λw=>[.code 0 _ _ _ _ _ (lo _)])
 ·rw[h4];have ak:=(eA.1 h1).1;have lo:∀ B:aa,af prog B 16 (.block 0 (ag f127 0)) (GD ps.length 0) (wB ps) 1 ⟨.ret,[(2,.bool false)],wB ps,1⟩:=λB=>
   bO (id:=0) (ch n (λi=>GD ps.length i) (λ_=>wB ps) (λi k _=>Iff.rfl) (r:=⟨.ret,[(2,.bool false)],wB ps,1⟩) (λi hi=>by
    have lC:i<ps.length:=by omega
    have hx:ps[i]?=some ps[i]:=aT lC;exact aFz lC hx (hs _ (cY lC)) hm (h3 i _ hi hx) h63) (aRY ak h1 (hs x (cH h1)) hm h2) n_)
  exact cC func127 au 16 (λw=>[.code 0 _ _ _ _ _ (lo _)])
end
section
variable{Bs:aa}{ps:c_}{m:Nat}{d:V3 K}
def yn(ps:c_)(d:V3 K):Bool:=ps.all λp=>decide (OF.aD (dot p.n d)<=0)
def GF(n i:Nat):aN:=[(5,vI i),(0,sl 0 n),(3,ptr 1)]
def yo(ps:c_)(d:V3 K):aH:=[(0,.view (bB ps)),(1,.aI (cr d).cs 38)]
theorem Q2(h:decide (z<=0)=!t):Value.bool (decide (z>0))=.bool t:=by
 congr 1
 cases t
 ·have:=jz h;exact aO o_
 ·have:=Df h;exact aE o_
theorem aFB{n:Nat}{p:HS K}(hi:i<n)(hx:ps[i]?=some p)(hp:bM m p)(hd:aw m d)(hm:100*m+1000<=az)(hb:decide (OF.aD (dot p.n d)<=0)=true)(h63:n<9223372036854775807):
  af prog Bs 21 (aF (ag f172 0)) (GF n i) (yo ps d) 2 ⟨.normal,GF n (i+1),yo ps d,2⟩:=
 aC [.lt 9 i n true (aE hi),.cM f172 14 0 n i 40 hi k_,.ld f172 16 38 0 (i*40) (.view (bB ps)) (aZ p.n) rfl (Mk hx) k_,(aWQ hp.1 hd o_).at 18,(aWE (hp.1.dot hd) o_).at 19,.rw 20 _ a_ (Q2 (t:=false) hb),.sum 11 i 1 (i+1) rfl o_]
theorem aRZ{n:Nat}{p:HS K}(hi:i<n)(hx:ps[i]?=some p)(hp:bM m p)(hd:aw m d)(hm:100*m+1000<=az)(hb:decide (OF.aD (dot p.n d)<=0)=false):
  af prog Bs 21 (aF (ag f172 0)) (GF n i) (yo ps d) 2 ⟨.ret,[(4,.bool false)],yo ps d,2⟩:=
 aC [.lt 9 i n true (aE hi),.cM f172 14 0 n i 40 hi k_,.ld f172 16 38 0 (i*40) (.view (bB ps)) (aZ p.n) rfl (Mk hx) k_,(aWQ hp.1 hd o_).at 18,(aWE (hp.1.dot hd) o_).at 19,.rw 20 _ b_ (Q2 (t:=true) hb)]
theorem Q3(hs:∀ p∈ps,bM m p)(hd:aw m d)(hm:100*m+1000<=az)(h63:ps.length<9223372036854775807):bw prog 172 [.r ps.length (bB ps),.p (aZ d)] (.bool (yn ps d)):=by
 have au:([aL.r ps.length (bB ps),.p (aZ d)].all aL.ok)=true:=by simp only[dT,eC,aL.ok,gp];rw[show(bB ps).all flat=true from dx ps];rfl
 unfold yn;rcases Ck (λp=>decide (OF.aD (dot p.n d)<=0)) ps with h|⟨n,x,h1,h2,h3,h4⟩
 ·rw[h];have lo:∀ B:aa,af prog B 21 (.block 0 (ag f172 0)) (GF ps.length 0) (yo ps d) 2 ⟨.normal,[],yo ps d,2⟩:=λB=>
   bO (id:=0) (ch ps.length (λi=>GF ps.length i) (λ_=>yo ps d) (λi k _=>Iff.rfl) (r:=⟨.exit 0,[],yo ps d,2⟩) (λi hi=>by have hx:ps[i]?=some ps[i]:=aT hi;exact aFB hi hx (hs _ (cY hi)) hd hm (Ee h hx) h63) (aC [.lt 9 ps.length ps.length false s_]) n_)
  exact cC func172 au 21 (λw=>[.code 0 _ _ _ _ _ (lo _)])
 ·rw[h4];have ak:=(eA.1 h1).1;have lo:∀ B:aa,af prog B 21 (.block 0 (ag f172 0)) (GF ps.length 0) (yo ps d) 2 ⟨.ret,[(4,.bool false)],yo ps d,2⟩:=λB=>
   bO (id:=0) (ch n (λi=>GF ps.length i) (λ_=>yo ps d) (λi k _=>Iff.rfl) (λi hi=>by
    have lC:i<ps.length:=by omega
    have hx:ps[i]?=some ps[i]:=aT lC;exact aFB lC hx (hs _ (cY lC)) hd hm (h3 i _ hi hx) h63) (aRZ ak h1 (hs x (cH h1)) hd hm h2) n_)
  exact cC func172 au 21 (λw=>[.code 0 _ _ _ _ _ (lo _)])
end
def Cm(ps:c_)(d:V3 K):Bool:=ps.all λp=>decide (dot p.n d=0)
def Q4(ps:c_)(i:Nat):V3 K:=match ps[i]? with|some p=>p.n|none=>0
def nw(ps:c_)(i j:Nat):V3 K:=av (Q4 ps i) (Q4 ps j)
def Av(ps:c_)(i j:Nat):Bool:=decide (nw ps i j≠0)&&(yn ps (nw ps i j)||yn ps (-nw ps i j))
def ph(ps:c_)(f:Bool)(i:Nat):Nat->Bool
 |0=>f
 |j+1=>if nw ps i j=0 then ph ps f i j else ph ps f i j&&Cm ps (nw ps i j)
def mG(ps:c_):Nat->Bool
 |0=>true
 |i+1=>ph ps (mG ps i) i i
def Ef(ps:c_)(i:Nat):Bool:=(List.range i).all λj=>!Av ps i j
def wC(ps:c_):Bool:=(List.range ps.length).all (Ef ps)&&!mG ps ps.length
theorem I5(b:Nat->Bool)(n:Nat):(List.range n).all b=true\/∃ e,e<n/\b e=false/\(∀ i,i<e->b i=true)/\(List.range n).all b=false:=by
 rcases Ck b (List.range n)with h|⟨e,x,h1,h2,h3,h4⟩
 ·exact .inl h
 ·have ak:=(eA.1 h1).1;rw[yY]at ak;rw[Lj ak]at h1;injection h1 with h1;subst h1;exact .inr ⟨e,ak,h2,λi hi=>h3 i i hi (Lj o_),h4⟩
theorem I6{b:Nat->Bool}{n:Nat}(h:(List.range n).all b=true)(hi:i<n):b i=true:=bd.1 h i (j4.2 hi)
section
variable{Bs:aa}{ps:c_}{m:Nat}{d:V3 K}
def GG(n k:Nat)(f:Bool):aN:=[(7,vI k),(0,sl 0 n),(3,.bool f),(6,ptr 1)]
def wD(ps:c_)(d:V3 K):aH:=[(0,.view (bB ps)),(1,.aI (cr d).cs 38)]
theorem aFC{n:Nat}{p:HS K}(hk:k<n)(hx:ps[k]?=some p)(hp:bM m p)(hd:aw m d)(hm:100*m+1000<=az)(ht:decide (dot p.n d=0)=t)(h63:n<9223372036854775807):
  af prog Bs 61 (aF (ag f128 4)) (GG n k true) (wD ps d) 2 ⟨.normal,GG n (k+1) t,wD ps d,2⟩:=by
 have h49:Value.bool (OF.aD (dot p.n d)==0)=.bool t:=by
  by_cases h:dot p.n d=0
  ·rw[aE h]at ht;subst ht;exact yf ((OF.fp _).2 h)
  ·rw[aO h]at ht;subst ht;exact pS (λe=>h ((OF.fp _).1 e))
 exact aC [.lt 35 k n true (aE hk),.cM f128 43 0 n k 40 hk k_,.ld f128 45 38 0 (k*40) (.view (bB ps)) (aZ p.n) rfl (Mk hx) k_,(aWQ hp.1 hd o_).at 47,(aWE (hp.1.dot hd) o_).at 48,.rw 49 _ (.bool t) h49,.sum 40 k 1 (k+1) rfl o_]
theorem aFD{n:Nat}:af prog Bs 61 (aF (ag f128 4)) (GG n k false) (wD ps d) 2 ⟨.exit 4,[(0,sl 0 n),(3,.bool false),(6,ptr 1)],wD ps d,2⟩:=by
 by_cases h:k<n
 ·exact aC [.lt 35 k n true (aE h)]
 ·exact aC [.lt 35 k n false (aO h)]
theorem aFE(hs:∀ p∈ps,bM m p)(hd:aw m d)(hm:100*m+1000<=az)(h63:ps.length<9223372036854775807)(f:Bool):
  af prog Bs 61 (.block 4 (ag f128 4)) (GG ps.length 0 f) (wD ps d) 2 ⟨.normal,[(0,sl 0 ps.length),(3,.bool (f&&Cm ps d)),(6,ptr 1)],wD ps d,2⟩:=by
 cases f with
 |false=>exact bO (id:=4) (ch 0 (λ_=>GG ps.length 0 false) (λ_=>wD ps d) (λ_ _ _=>Iff.rfl) (r:=⟨.exit 4,[(0,sl 0 ps.length),(3,.bool false),(6,ptr 1)],wD ps d,2⟩) (λi hi=>by omega) aFD n_)
 |true=>
  unfold Cm;rcases Ck (λp=>decide (dot p.n d=0)) ps with h|⟨n,x,h1,h2,h3,h4⟩
  ·rw[h];exact bO (id:=4) (ch ps.length (λi=>GG ps.length i true) (λ_=>wD ps d) (λ_ _ _=>Iff.rfl) (r:=⟨.exit 4,[(0,sl 0 ps.length),(3,.bool true),(6,ptr 1)],wD ps d,2⟩) (λi hi=>by have hx:ps[i]?=some ps[i]:=aT hi;exact aFC hi hx (hs _ (cY hi)) hd hm (Ee h hx) h63) (aC [.lt 35 ps.length ps.length false s_]) n_)
  ·rw[h4];have ak:=(eA.1 h1).1;exact bO (id:=4) (ch (n+1) (λi=>GG ps.length i (decide (i<=n))) (λ_=>wD ps d) (λ_ _ _=>Iff.rfl) (r:=⟨.exit 4,[(0,sl 0 ps.length),(3,.bool false),(6,ptr 1)],wD ps d,2⟩) (λi hi=>by
    have lC:i<ps.length:=by omega
    have hx:ps[i]?=some ps[i]:=aT lC;simp only[aE (show i<=n by omega)];refine aFC lC hx (hs _ (cY lC)) hd hm ?_ h63;by_cases he:i=n
    ·subst he;rw[hx]at h1;injection h1 with h1;rw[h1,h2];exact(aO o_).symm
    ·have:=h3 i _ o_ hx;rw[this];exact(aE o_).symm) (by
    simp only[aO (show ¬n+1<=n by omega)];exact aFD) n_)
def yp(ps:c_)(f:Bool)(n i j:Nat):aN:=[(5,vI j),(4,vI i),(0,sl 0 n),(3,.bool (ph ps f i j))]
def nT(ps:c_):aH:=[(0,.view (bB ps))]
theorem I7{p:HS K}(h:ps[i]?=some p):Q4 ps i=p.n:=by unfold Q4;rw[h]
noncomputable def Q5{n:Nat}{p q:HS K}(hi:i<n)(pz:j<i)(hp:ps[i]?=some p)(hq:ps[j]?=some q)(sp:bM m p)(sq:bM m q)(hm:1000*m+10000<=az)(ht:decide (av p.n q.n=0)=t)(more:bL prog Bs 61):bL prog Bs 61:=
 .lt 16 j i true (aE pz)::.cM f128 21 0 n i 40 hi k_::.ld f128 23 38 0 (i*40) (.view (bB ps)) (aZ p.n) rfl (Mk hp) k_::.cM f128 26 0 n j 40 o_ k_::.ld f128 28 38 0 (j*40) (.view (bB ps)) (aZ q.n) rfl (Mk hq) k_::
 (aWv sp.1 sq.1 o_).at 29::(ht▸aXs (sp.1.av sq.1) o_:aB prog 21 [aZ (av p.n q.n)] (.bool t)).at 31::more
theorem aFF(hs:∀ p∈ps,bM m p)(hm:1000*m+10000<=az){f:Bool}(hi:i<ps.length)(pz:j<i)(hb:Av ps i j=false)(h63:ps.length<9223372036854775807):
  af prog Bs 61 (aF (ag f128 2)) (yp ps f ps.length i j) (nT ps++marks 1 []) 1 ⟨.normal,fj 1 [] (yp ps f ps.length i (j+1)),nT ps++dB [] [],2⟩:=by
 have hj:j<ps.length:=by omega
 have hp:ps[i]?=some ps[i]:=aT hi;have hq:ps[j]?=some ps[j]:=aT hj;have sp:=hs _ (cY hi);have sq:=hs _ (cY hj);generalize ps[i]=p at *;generalize ps[j]=q at *;have hd:nw ps i j=av p.n q.n:=by unfold nw;rw[I7 hp,I7 hq]
 have pC:∀ r∈ps,bM (4*m+9) r:=λr hr=>(hs r hr).mono o_;have Cn:aw (4*m+9) (av p.n q.n):=(sp.1.av sq.1).mono o_;unfold Av at hb;have er:ph ps f i (j+1)=if nw ps i j=0 then ph ps f i j else ph ps f i j&&Cm ps (nw ps i j):=rfl
 unfold yp;rw[er];rw[hd]at hb ⊢;by_cases hz:av p.n q.n=0
 ·rw[ax hz];exact aC (Q5 hi pz hp hq sp sq hm (aE hz) [.sum 18 j 1 (j+1) rfl o_])
 ·rw[ao hz];rw[aE hz,jy]at hb;have qh:yn ps (av p.n q.n)=false:=by revert hb;cases yn ps (av p.n q.n)<;>simp
  have gW:yn ps (-av p.n q.n)=false:=by revert hb;cases yn ps (-av p.n q.n)<;>simp
  have l1:=Q3 pC Cn o_ h63;have l2:=Q3 pC Cn.neg o_ h63;rw[qh]at l1;rw[gW]at l2;have c4:=aFE (Bs:=Bs) pC Cn o_ h63 (ph ps f i j);generalize ph ps f i j=ff at *;generalize (ff&&Cm ps (av p.n q.n))=fg at *;exact aC (Q5 hi pz hp hq sp sq hm (aO hz) [.code 4 _ _ _ _ _ c4,.cR f128 52 [sl 0 ps.length,aZ (av p.n q.n)] l1 (.w (x:=.view (bB ps)) rfl (dx ps) jm (.p rfl .nil)),(aWr Cn o_).at 56,.cR f128 57 [sl 0 ps.length,aZ (-av p.n q.n)] l2 (.w (x:=.view (bB ps)) rfl (dx ps) jm (.p rfl .nil)),.sum 18 j 1 (j+1) rfl o_])
theorem aR0(hs:∀ p∈ps,bM m p)(hm:1000*m+10000<=az){f:Bool}(hi:i<ps.length)(pz:j<i)(hb:Av ps i j=true)(h63:ps.length<9223372036854775807):
  af prog Bs 61 (aF (ag f128 2)) (yp ps f ps.length i j) (nT ps++marks 1 []) 1 ⟨.ret,[(2,.bool false)],[],2⟩:=by
 have hj:j<ps.length:=by omega
 have hp:ps[i]?=some ps[i]:=aT hi;have hq:ps[j]?=some ps[j]:=aT hj;have sp:=hs _ (cY hi);have sq:=hs _ (cY hj);generalize ps[i]=p at *;generalize ps[j]=q at *;have hd:nw ps i j=av p.n q.n:=by unfold nw;rw[I7 hp,I7 hq]
 have pC:∀ r∈ps,bM (4*m+9) r:=λr hr=>(hs r hr).mono o_;have Cn:aw (4*m+9) (av p.n q.n):=(sp.1.av sq.1).mono o_;unfold Av at hb;unfold yp;rw[hd]at hb;have hz:av p.n q.n≠0:=by intro e;rw[aO (λh=>h e)]at hb;cases hb
 rw[aE hz,jy]at hb;have l1:=Q3 pC Cn o_ h63;have l2:=Q3 pC Cn.neg o_ h63;have c4:=aFE (Bs:=Bs) pC Cn o_ h63 (ph ps f i j);generalize ph ps f i j=ff at *;generalize (ff&&Cm ps (av p.n q.n))=fg at *;rcases qh:yn ps (av p.n q.n)with _|_
 ·rw[qh]at l1 hb;rw[xf]at hb;rw[hb]at l2;exact aC (Q5 hi pz hp hq sp sq hm (aO hz) [.code 4 _ _ _ _ _ c4,.cR f128 52 [sl 0 ps.length,aZ (av p.n q.n)] l1 (.w (x:=.view (bB ps)) rfl (dx ps) jm (.p rfl .nil)),(aWr Cn o_).at 56,.cR f128 57 [sl 0 ps.length,aZ (-av p.n q.n)] l2 (.w (x:=.view (bB ps)) rfl (dx ps) jm (.p rfl .nil))])
 ·rw[qh]at l1;exact aC (Q5 hi pz hp hq sp sq hm (aO hz) [.code 4 _ _ _ _ _ c4,.cR f128 52 [sl 0 ps.length,aZ (av p.n q.n)] l1 (.w (x:=.view (bB ps)) rfl (dx ps) jm (.p rfl .nil))])
theorem aFG(q:Nat×Obj)(hq:q∈nT ps):fe 1 q.2:=by unfold nT at hq;simp at hq;subst hq;exact Hs (bd.1 (dx ps))
theorem aR1(hs:∀ p∈ps,bM m p)(hm:1000*m+10000<=az){f:Bool}(hi:i<ps.length)(hb:Ef ps i=true)(h63:ps.length<9223372036854775807):
  af prog Bs 61 (.block 2 (ag f128 2)) (yp ps f ps.length i 0) (nT ps) 1 ⟨.normal,[(4,vI i),(0,sl 0 ps.length),(3,.bool (ph ps f i i))],nT ps,1⟩:=by
 have:=pH (P:=prog) (B:=Bs) (N:=61) (b:=aF (ag f128 2)) (next:=1) (p:=0) (r:=⟨.exit 2,[(4,vI i),(0,sl 0 ps.length),(3,.bool (ph ps f i i))],nT ps,1⟩) i (yp ps f ps.length i) (λ_=>nT ps) (λ_=>[]) [] (λ_ _=>rfl)
  (λj _=>⟨aFG,λz hz=>by cases hz⟩) k_ k_
  (λj hj=>⟨[],2,k_,aFF hs hm hi hj (by have:=I6 hb hj;simpa using this) h63⟩)
  (aC [.lt 16 i i false s_]) n_
 exact bO (id:=2) this
theorem aR2(hs:∀ p∈ps,bM m p)(hm:1000*m+10000<=az){f:Bool}(hi:i<ps.length)(hb:Ef ps i=false)(h63:ps.length<9223372036854775807):
  af prog Bs 61 (.block 2 (ag f128 2)) (yp ps f ps.length i 0) (nT ps) 1 ⟨.ret,[(2,.bool false)],[],2⟩:=by
 rcases I5 (λj=>!Av ps i j) i with h|⟨e,h1,h2,h3,_⟩
 ·unfold Ef at hb;rw[h]at hb;cases hb
 ·have:=pH (P:=prog) (B:=Bs) (N:=61) (b:=aF (ag f128 2)) (next:=1) (p:=0) (r:=⟨.ret,[(2,.bool false)],[],2⟩) e (yp ps f ps.length i) (λ_=>nT ps) (λ_=>[]) [] (λ_ _=>rfl)
   (λj _=>⟨aFG,λz hz=>by cases hz⟩) k_ k_
   (λj hj=>⟨[],2,k_,aFF hs hm hi o_ (by have:=h3 j hj;simpa using this) h63⟩)
   (aR0 hs hm hi h1 (by simpa using h2) h63) n_
  exact bO (id:=2) this
def yq(ps:c_)(n i:Nat):aN:=[(4,vI i),(0,sl 0 n),(3,.bool (mG ps i))]
theorem aFH(hs:∀ p∈ps,bM m p)(hm:1000*m+10000<=az)(hi:i<ps.length)(hb:Ef ps i=true)(h63:ps.length<9223372036854775807):
  af prog Bs 61 (aF (ag f128 0)) (yq ps ps.length i) (nT ps) 1 ⟨.normal,yq ps ps.length (i+1),nT ps,1⟩:=by
 have lo:=aR1 (Bs:=Bs) (f:=mG ps i) hs hm hi hb h63;unfold yp at lo;unfold yq;show af _ _ _ _ _ _ _ ⟨.normal,[(4,vI (i+1)),(0,sl 0 ps.length),(3,.bool (ph ps (mG ps i) i i))],nT ps,1⟩;have e0:ph ps (mG ps i) i 0=mG ps i:=rfl;rw[e0]at lo;generalize ph ps (mG ps i) i i=g at *;generalize mG ps i=f at *;exact aC [.lt 11 i ps.length true (aE hi),.code 2 _ _ _ _ _ lo,.sum 13 i 1 (i+1) rfl o_]
theorem aR3(hs:∀ p∈ps,bM m p)(hm:1000*m+10000<=az)(hi:i<ps.length)(hb:Ef ps i=false)(h63:ps.length<9223372036854775807):
  af prog Bs 61 (aF (ag f128 0)) (yq ps ps.length i) (nT ps) 1 ⟨.ret,[(2,.bool false)],[],2⟩:=by
 have lo:=aR2 (Bs:=Bs) (f:=mG ps i) hs hm hi hb h63;unfold yp at lo;unfold yq;have e0:ph ps (mG ps i) i 0=mG ps i:=rfl;rw[e0]at lo;generalize mG ps i=f at *;exact aC [.lt 11 i ps.length true (aE hi),.code 2 _ _ _ _ _ lo]
theorem aR4(hs:∀ p∈ps,bM m p)(hm:1000*m+10000<=az)(h63:ps.length<9223372036854775807):bw prog 128 [fO ps] (.bool (wC ps)):=by
 unfold wC;rcases I5 (Ef ps) ps.length with h|⟨e,h1,h2,h3,h4⟩
 ·rw[h,jy];have lo:∀ B:aa,af prog B 61 (.block 0 (ag f128 0)) (yq ps ps.length 0) (nT ps) 1 ⟨.normal,[(3,.bool (mG ps ps.length))],nT ps,1⟩:=λB=>
   bO (id:=0) (ch ps.length (yq ps ps.length) (λ_=>nT ps) (λ_ _ _=>Iff.rfl) (r:=⟨.exit 0,[(3,.bool (mG ps ps.length))],nT ps,1⟩) (λi hi=>aFH hs hm hi (I6 h hi) h63) (aC [.lt 11 ps.length ps.length false s_]) n_)
  unfold yq at lo;have e0:mG ps 0=true:=rfl;rw[e0]at lo;generalize mG ps ps.length=g at *;cases g<;>exact cC func128 (Ed ps) 61 (λw=>[.code 0 _ _ _ _ _ (lo _)])
 ·rw[h4,zg];have lo:∀ B:aa,af prog B 61 (.block 0 (ag f128 0)) (yq ps ps.length 0) (nT ps) 1 ⟨.ret,[(2,.bool false)],[],2⟩:=λB=>
   bO (id:=0) (ch e (yq ps ps.length) (λ_=>nT ps) (λ_ _ _=>Iff.rfl) (r:=⟨.ret,[(2,.bool false)],[],2⟩) (λi hi=>aFH hs hm o_ (h3 i hi) h63) (aR3 hs hm h1 h2 h63) n_)
  unfold yq at lo;have e0:mG ps 0=true:=rfl;rw[e0]at lo;exact cC func128 (Ed ps) 61 (λw=>[.code 0 _ _ _ _ _ (lo _)])
end
def aWT:e_->V3 K->List (V3 K)
 |[],v=>[v]
 |p::l,v=>if eB p v=0 then p::l else if 0<eB p v then v::p::l else p::aWT l v
theorem Q6(v:V3 K):∀ vs:e_,(∃(i:Nat) (p:V3 K),vs[i]?=some p/\eB p v=0/\(∀(j:Nat) (q:V3 K),j<i->vs[j]?=some q->eB q v<0)/\aWT vs v=vs)\/
  ∃ i:Nat,i<=vs.length/\(∀(j:Nat) (q:V3 K),j<i->vs[j]?=some q->eB q v<0)/\(i=vs.length\/∃ p,vs[i]?=some p/\0<eB p v)/\aWT vs v=vs.take i++[v]++vs.drop i
 |[]=>.inr ⟨0,bA _,λj q hj=>by omega,.inl rfl,rfl⟩
 |p::l=>by
  unfold aWT;by_cases h0:eB p v=0
  ·rw[ax h0];exact .inl ⟨0,p,rfl,h0,λj q hj=>by omega,rfl⟩
  ·rw[ao h0];by_cases h1:0<eB p v
   ·rw[ax h1];exact .inr ⟨0,jH _,λj q hj=>by omega,.inr ⟨p,rfl,h1⟩,rfl⟩
   ·rw[ao h1];have dE:∀{i:Nat} (H:∀(j:Nat) (q:V3 K),j<i->l[j]?=some q->eB q v<0) (j:Nat) (q:V3 K),j<i+1->(p::l)[j]?=some q->eB q v<0:=λ{i} H j q hj hq=>by
     cases j with
     |zero=>simp at hq;subst hq;omega
     |succ j=>exact H j q o_ (by simpa using hq)
    rcases Q6 v l with ⟨i,q,q1,q2,q3,q4⟩|⟨i,q1,q2,q3,q4⟩
    ·exact .inl ⟨i+1,q,by simpa using q1,q2,dE q3,by rw[q4]⟩
    ·refine .inr ⟨i+1,by simpa using q1,dE q2,?_,by rw[q4];rfl⟩;rcases q3 with h|⟨q,h,h2⟩
     ·exact .inl (by rw[h];rfl)
     ·exact .inr ⟨q,by simpa using h,h2⟩
theorem aR5{a b:Int}(h:decide (a=b)=t):Value.bool (a==b)=.bool t:=by
 by_cases e:a=b
 ·rw[aE e]at h;subst h;exact yf e
 ·rw[aO e]at h;subst h;exact pS e
theorem aR6{vs:e_}{p:V3 K}(h:vs[i]?=some p):dO prog 38 (aG vs) (i*30)=some (aZ p):=sV (by rw[qW,h];rfl)
theorem aFI(vs:e_)(i:Nat):(aG vs).drop (i*30)=aG (vs.drop i):=by unfold aG;rw[VF fD,List.map_drop]
theorem Q7(vs:e_)(i:Nat):(aG vs).take (i*30)=aG (vs.take i):=by unfold aG;rw[VG fD,CI]
section
variable{Bs:aa}{vs:e_}{v:V3 K}{m:Nat}
def yr(n i:Nat):aN:=[(5,vI i),(0,sl 0 n),(3,ptr 1)]
def ux(vs:e_)(v:V3 K):aH:=[(0,.view (aG vs)),(1,.aI (cr v).cs 38)]
noncomputable def Xm{n:Nat}{p:V3 K}(hi:i<n)(hp:vs[i]?=some p)(sp:aw m p)(sv:aw m v)(hm:8*m+100<=az)(ht:decide (eB p v=0)=t)(more:bL prog Bs 36):bL prog Bs 36:=
 .lt 10 i n true (aE hi)::.cM f175 13 0 n i 30 hi k_::.ld f175 14 38 0 (i*30) (.view (aG vs)) (aZ p) rfl (aR6 hp) k_::(aXq sp sv o_).at 16::.rw 18 _ (.bool t) (aR5 ht)::more
theorem aFJ{n:Nat}{p:V3 K}(hi:i<n)(hp:vs[i]?=some p)(sp:aw m p)(sv:aw m v)(hm:8*m+100<=az)(hb:eB p v<0)(h63:n<1000):
  af prog Bs 36 (aF (ag f175 0)) (yr n i) (ux vs v) 2 ⟨.normal,yr n (i+1),ux vs v,2⟩:=
 aC (Xm hi hp sp sv hm (aO o_) [.rw 21 _ a_ (Q2 (z:=eB p v) (t:=false) (aE o_)),.sum 23 i 1 (i+1) rfl o_])
theorem aR7{n:Nat}{p:V3 K}(hi:i<n)(hp:vs[i]?=some p)(sp:aw m p)(sv:aw m v)(hm:8*m+100<=az)(hb:eB p v=0):
  af prog Bs 36 (aF (ag f175 0)) (yr n i) (ux vs v) 2 ⟨.ret,[(4,sl 0 n)],ux vs v,2⟩:=
 aC (Xm hi hp sp sv hm (aE hb) [])
theorem aR8{n:Nat}{p:V3 K}(hi:i<n)(hp:vs[i]?=some p)(sp:aw m p)(sv:aw m v)(hm:8*m+100<=az)(hb:0<eB p v):
  af prog Bs 36 (aF (ag f175 0)) (yr n i) (ux vs v) 2 ⟨.exit 0,yr n i,ux vs v,2⟩:=
 aC (Xm hi hp sp sv hm (aO o_) [.rw 21 _ b_ (Q2 (z:=eB p v) (t:=true) (aO o_))])
theorem aR9(hs:∀ p∈vs,aw m p)(sv:aw m v)(hm:8*m+100<=az)(h63:vs.length<1000)(hi:i<=vs.length)(h1:∀(j:Nat) (q:V3 K),j<i->vs[j]?=some q->eB q v<0)(h2:i=vs.length\/∃ p,vs[i]?=some p/\0<eB p v):
  af prog Bs 36 (.block 0 (ag f175 0)) (yr vs.length 0) (ux vs v) 2 ⟨.normal,yr vs.length i,ux vs v,2⟩:=
 bO (id:=0) (ch i (yr vs.length) (λ_=>ux vs v) (λ_ _ _=>Iff.rfl) (r:=⟨.exit 0,yr vs.length i,ux vs v,2⟩) (λj hj=>by
  have hx:vs[j]?=some vs[j]:=aT o_;exact aFJ o_ hx (hs _ (cY _)) sv hm (h1 j _ hj hx) h63) (by
  rcases h2 with rfl|⟨p,h2,h3⟩
  ·exact aC [.lt 10 vs.length vs.length false s_]
  ·exact aR8 (eA.1 h2).1 h2 (hs p (cH h2)) sv hm h3) n_)
theorem aSa(hs:∀ p∈vs,aw m p)(sv:aw m v)(hm:8*m+100<=az)(h63:vs.length<1000){p:V3 K}(hp:vs[i]?=some p)(h0:eB p v=0)(h1:∀(j:Nat) (q:V3 K),j<i->vs[j]?=some q->eB q v<0)(gm:dp w va vs.length (aG vs)):
  Calls prog 175 #[va,aZ v] w λe w'=>e=.returned va/\Below w.heap.size w w':=by
 have hl:∀ s∈[cz.row va vs.length (aG vs),cz.plain (aZ v)],s.OK w:=by
  intro s hs;simp at hs;rcases hs with rfl|rfl
  ·exact⟨gm,bd.1 (cW _)⟩
  ·rfl
 have ak:=(eA.1 hp).1;have lo:af prog (aa.at w) 36 (.block 0 (ag f175 0)) (yr vs.length 0) (ux vs v) 2 ⟨.ret,[(4,sl 0 vs.length)],ux vs v,2⟩:=
  bO (id:=0) (ch i (yr vs.length) (λ_=>ux vs v) (λ_ _ _=>Iff.rfl) (r:=⟨.ret,[(4,sl 0 vs.length)],ux vs v,2⟩) (λj hj=>by have hx:vs[j]?=some vs[j]:=aT o_;exact aFJ o_ hx (hs _ (cY _)) sv hm (h1 j _ hj hx) h63) (aR7 ak hp (hs p (cH hp)) sv hm h0) n_)
 refine lN (Q:=λe w'=>e=.returned va/\Below w.heap.size w w') mixed func175 [cz.row va vs.length (aG vs),cz.plain (aZ v)] hl 100 (N:=36) k_
  (rs:=[(.code 0 _ _ _ _ _ lo:aU prog (aa.at w) 36)]) (v:=sl 0 vs.length) (ms:=[]) k_ λay b9 v' w' km bF _ dK=>⟨?_,bF.base⟩
 cases dK with
 |cons h5 _=>rw[JM km h5];rfl
end
section
variable{vs:e_}{v:V3 K}{m:Nat}
noncomputable def Xn(Bs:aa)(vs:e_)(v:V3 K)(i:Nat)(hi:i<=vs.length)(h63:vs.length<1000)(more:bL prog Bs 36):bL prog Bs 36:=
 .Lz f175 24 2 38 30 zV.v k_::.upto f175 27 0 vs.length i 30 hi k_::
 .QU f175 28 3 2 0 i i 38 30 360 0 0 [] 0 (.view (aG vs)) (aG (vs.take i)) (ko i) rfl (by
   show((aG vs).drop 0 |>.take (i*30)).length=i*30;rw[mg,Q7,nN,jr,nZ hi]) rfl (by
   show[]++(((aG vs).drop 0).take (i*30))=_;rw[mg,Q7];rfl) (Lo vs) d_ (by simp[maxLen];omega) o_ k_::
 .bs f175 30 4 1 38 30 [0] zV.v [aZ v] (aG [v]).toArray (.row (aG [v]) 38 30) rfl (bd.1 k_) (bd.1 (cW _)) k_ k_ d_ d_ k_::
 .oX f175 31 5 3 i 1 (i+1) 38 30 360 (aG (vs.take i)) 4 (.row (aG [v]) 38 30) (aG (vs.take i++[v])) rfl rfl (nN _) (by rw[nN,jr,nZ hi]) (Ix _ _) (Lo _) d_ (by simp[maxLen];omega) o_ k_::more
theorem aSb(hs:∀ p∈vs,aw m p)(sv:aw m v)(hm:8*m+100<=az)(h63:vs.length<1000)(hi:i<=vs.length)(h1:∀(j:Nat) (q:V3 K),j<i->vs[j]?=some q->eB q v<0)(h2:i=vs.length\/∃ p,vs[i]?=some p/\0<eB p v):
  kY prog 175 [k6 vs,.p (aZ v)] 38 30 (vs.length+1) (aG (vs.take i++[v]++vs.drop i)):=by
 have au:([k6 vs,aL.p (aZ v)].all aL.ok)=true:=by simp only[dT,eC,gp];rw[show(k6 vs).ok=true from cW vs];rfl
 have lo:=λBs=>aR9 (Bs:=Bs) hs sv hm h63 hi h1 h2;have hlen:(aG (vs.take i++[v]++vs.drop i)).length=(vs.length+1)*30:=by
  rw[nN];congr 1
  simp[jr];omega
 have iB:(aG (vs.take i++[v])).length=(i+1)*30:=by
  rw[nN];congr 1
  simp[jr];omega
 rcases fm i vs.length with ak|fR
 ·refine vT (k:=6) mixed func175 au 200 (N:=36) k_ (λw=>.code 0 _ _ _ _ _ (lo _)::Xn _ vs v i hi h63 [.behind f175 34 0 vs.length i (vs.length-i) 30 o_ o_ k_,.QU f175 35 6 5 (i+1) (vs.length-i) (vs.length+1) 38 30 360 (i*30) i (aG (vs.take i++[v])) 0 (.view (aG vs)) (aG (vs.take i++[v]++vs.drop i)) o_ rfl (by
    show(((aG vs).drop (i*30)).take ((vs.length-i)*30)).length=(vs.length-i)*30;rw[aFI,Q7,nN,jr,vE,Nat.min_self]) iB (by
    show _++(((aG vs).drop (i*30)).take ((vs.length-i)*30))=_;rw[aFI,Q7,show(vs.drop i).take (vs.length-i)=vs.drop i from j8 (by rw[vE];exact bA _),Ix]) (Lo vs) d_ (by simp[maxLen];omega) o_ k_]) (λw=>k_) (cW _) hlen
 ·have cv:i=vs.length:=by omega
  subst cv;have e:vs.take vs.length++[v]++vs.drop vs.length=vs.take vs.length++[v]:=by rw[List.drop_length,jh]
  rw[e]at hlen ⊢;by_cases h0:vs.length=0
  ·refine vT (k:=6) mixed func175 au 200 (N:=36) k_ (λw=>.code 0 _ _ _ _ _ (lo _)::Xn _ vs v vs.length hi h63 [.rw 33 (vI vs.length) (vI 0) (by rw[h0]),.aRy f175 34 0 vs.length 30 k_,.QU f175 35 6 5 (vs.length+1) vs.length (vs.length+1) 38 30 360 0 0 (aG (vs.take vs.length++[v])) 0 (.view (aG vs)) (aG (vs.take vs.length++[v])) o_ rfl (by
     show(((aG vs).drop 0).take (vs.length*30)).length=vs.length*30;rw[h0];rfl) iB (by
     show _++(((aG vs).drop 0).take (vs.length*30))=_;rw[show((aG vs).drop 0).take (vs.length*30)=[]by rw[h0,kS,aAi]];exact jh _) (Lo vs) d_ (by simp[maxLen];omega) o_ k_]) (λw=>k_) (cW _) hlen
  ·refine vT (k:=7) mixed func175 au 200 (N:=36) k_ (λw=>.code 0 _ _ _ _ _ (lo _)::Xn _ vs v vs.length hi h63 [.aRA f175 34 0 0 vs.length 0 30 6 (.view (aG vs)) rfl k_,.oX f175 35 7 5 (vs.length+1) 0 (vs.length+1) 38 30 360 (aG (vs.take vs.length++[v])) 6 (.view []) (aG (vs.take vs.length++[v])) rfl rfl rfl iB (jh _) n_ d_ (by simp[maxLen];omega) o_ k_]) (λw=>k_) (cW _) hlen
end
def eK(ps:c_)(i:Nat):HS K:=match ps[i]? with|some p=>p|none=>⟨0,0⟩
theorem pV{p:HS K}(h:ps[i]?=some p):eK ps i=p:=by unfold eK;rw[h]
def I8(i j k:Nat)(x:V3 K)(l:Nat)(p:HS K):Bool:=decide (l=i)||(decide (l=j)||(decide (l=k)||decide (OF.aD (dot p.n x-p.d)<=0)))
def Aw(ps:c_)(i j k:Nat)(x:V3 K):Bool:=(List.range ps.length).all λl=>I8 i j k x l (eK ps l)
def uy(ps:c_)(acc:e_)(i j k:Nat):e_:=
 if cE (eK ps i).n (eK ps j).n (eK ps k).n=0 then acc else if Aw ps i j k (lf (eK ps i) (eK ps j) (eK ps k))then aWT acc (lf (eK ps i) (eK ps j) (eK ps k))else acc
theorem aSc{vs:e_}{v:V3 K}{m:Nat}(hs:∀ p∈vs,aw m p)(sv:aw m v)(hm:8*m+100<=az)(h63:vs.length<1000){p:V3 K}(hp:vs[i]?=some p)(h0:eB p v=0)(h1:∀(j:Nat) (q:V3 K),j<i->vs[j]?=some q->eB q v<0)
  {o:Oper} {y:m_} (ho:dC o.op=some y) (k:Nat):cA prog Bs o [.func (.func 175) #[] #[],sl k vs.length,aZ v] [(k,some (.row (aG vs) 38 30))] (sl k vs.length) []:=by
 refine j7 (fi:=[]) (ca:=[]) ho k_ λι c w bF hn args' aY=>?_;rw[jG,jh]at aY;obtain⟨va,vb,rfl,hv,iF⟩:=js aY;rw[iF.fk rfl];have hk:c k=some _:=hn _ (aP ..);have hr:=oS (len:=vs.length*30) bF hk rfl (bd.1 (cW vs)) (λh=>by rw[h]) hv;have e:(((Obj.row (aG vs) 38 30).cells.drop 0).take (vs.length*30))=aG vs:=by show((aG vs).drop 0).take (vs.length*30)=_;rw[mg,j8 (by rw[nN];exact bA _)]
 rw[e]at hr;refine(aSa hs sv hm h63 hp h0 h1 hr).mono ?_
 rintro e w' ⟨rfl,hb⟩
 exact⟨ι,_,rfl,Map.le.refl _,hv,bF.call hb⟩
section
variable{Bs:aa}{ps:c_}{m:Nat}
def I9(n i j k l:Nat)(f:Bool):aN:=[(10,vI l),(9,.bool f),(0,sl 0 n),(4,vI i),(5,vI j),(6,vI k),(7,ptr 4)]
def Ax(ps:c_)(x:V3 K):aH:=[(0,.view (bB ps)),(4,.aI (cr x).cs 38)]
theorem aFK{l:Nat}{p:HS K}{x:V3 K}(hl:l<ps.length)(hp:ps[l]?=some p)(sp:bM m p)(sx:aw m x)(pn:p.n≠0)(hm:100*m+1000<=az)(ht:I8 i j k x l p=t)(h63:ps.length<1000):
  af prog Bs 81 (aF (ag f129 6)) (I9 ps.length i j k l true) (Ax ps x) 5 ⟨.normal,I9 ps.length i j k (l+1) t,Ax ps x,5⟩:=by
 unfold I8 at ht;have sd:=aWz sp sx o_ pn;by_cases h1:l=i
 ·rw[aE h1,Ha]at ht;subst ht;exact aC [.lt 48 l ps.length true (aE hl),.fZ 56 l i true (aE h1),.sum 53 l 1 (l+1) rfl o_]
 rw[aO h1,xf]at ht;by_cases h2:l=j
 ·rw[aE h2,Ha]at ht;subst ht;exact aC [.lt 48 l ps.length true (aE hl),.fZ 56 l i false (aO h1),.fZ 60 l j true (aE h2),.sum 53 l 1 (l+1) rfl o_]
 rw[aO h2,xf]at ht;by_cases h3:l=k
 ·rw[aE h3,Ha]at ht;subst ht;exact aC [.lt 48 l ps.length true (aE hl),.fZ 56 l i false (aO h1),.fZ 60 l j false (aO h2),.fZ 65 l k true (aE h3),.sum 53 l 1 (l+1) rfl o_]
 rw[aO h3,xf]at ht;exact aC [.lt 48 l ps.length true (aE hl),.fZ 56 l i false (aO h1),.fZ 60 l j false (aO h2),.fZ 65 l k false (aO h3),.cM f129 70 0 ps.length l 40 hl k_,.ld f129 71 50 0 (l*40) (.view (bB ps)) (dH p) rfl (Q1 hp) k_,sd.at 73,.rw 74 (.bool (decide (OF.aD (dot p.n x-p.d)<=0))) (.bool t) (by rw[ht]),.sum 53 l 1 (l+1) rfl o_]
theorem aSd{l:Nat}{x:V3 K}:af prog Bs 81 (aF (ag f129 6)) (I9 ps.length i j k l false) (Ax ps x) 5 ⟨.exit 6,[(9,.bool false)],Ax ps x,5⟩:=by
 by_cases h:l<ps.length
 ·exact aC [.lt 48 l ps.length true (aE h)]
 ·exact aC [.lt 48 l ps.length false (aO h)]
theorem aSe{x:V3 K}(hs:∀ p∈ps,bM m p/\p.n≠0)(sx:aw m x)(hm:100*m+1000<=az)(h63:ps.length<1000):
  af prog Bs 81 (.block 6 (ag f129 6)) (I9 ps.length i j k 0 true) (Ax ps x) 5 ⟨.normal,[(9,.bool (Aw ps i j k x))],Ax ps x,5⟩:=by
 unfold Aw;rcases I5 (λl=>I8 i j k x l (eK ps l)) ps.length with h|⟨n,hn,h2,h3,h4⟩
 ·rw[h];exact bO (id:=6) (ch ps.length (λl=>I9 ps.length i j k l true) (λ_=>Ax ps x) (λ_ _ _=>Iff.rfl) (r:=⟨.exit 6,[(9,.bool true)],Ax ps x,5⟩) (λl hl=>by have hx:ps[l]?=some ps[l]:=aT hl;have:=I6 h hl;rw[pV hx]at this;exact aFK hl hx (hs _ (cY hl)).1 sx (hs _ (cY hl)).2 hm this h63) (aC [.lt 48 ps.length ps.length false s_]) n_)
 ·rw[h4];exact bO (id:=6) (ch (n+1) (λl=>I9 ps.length i j k l (decide (l<=n))) (λ_=>Ax ps x) (λ_ _ _=>Iff.rfl) (r:=⟨.exit 6,[(9,.bool false)],Ax ps x,5⟩) (λl hl=>by
   have lC:l<ps.length:=by omega
   have hx:ps[l]?=some ps[l]:=aT lC;simp only[aE (show l<=n by omega)];refine aFK lC hx (hs _ (cY lC)).1 sx (hs _ (cY lC)).2 hm ?_ h63;by_cases he:l=n
   ·subst he;rw[pV hx]at h2;rw[h2];exact(aO o_).symm
   ·have:=h3 l o_;rw[pV hx]at this;rw[this];exact(aE o_).symm) (by
   simp only[aO (show ¬n+1<=n by omega)];exact aSd) n_)
def Ml(n i j k L:Nat):aN:=[(6,vI k),(5,vI j),(4,vI i),(0,sl 0 n),(3,sl 3 L)]
def oH(ps:c_):aH:=[(0,.view (bB ps))]
def oI(acc:e_):List Obj:=[.row (aG acc) 38 30]
noncomputable def Q8{p q r:HS K}(hi:i<ps.length)(hj:j<i)(hk:k<j)(hp:ps[i]?=some p)(hq:ps[j]?=some q)(hr:ps[k]?=some r)(sp:bM m p)(sq:bM m q)(sr:bM m r)(pn:p.n≠0)(qn:q.n≠0)(rn:r.n≠0)(hm:200*m+1000<=az)
  (hu:(if cE p.n q.n r.n=0 then Value.tuple #[zV.v,.int .i64 11]else .tuple #[aZ (lf p q r),.int .i64 0])=u) (more:bL prog Bs 81):bL prog Bs 81:=
 .lt 24 k j true (aE hk)::.cM f129 30 0 ps.length i 40 hi k_::.ld f129 31 50 0 (i*40) (.view (bB ps)) (dH p) rfl (Q1 hp) k_::.cM f129 34 0 ps.length j 40 o_ k_::.ld f129 35 50 0 (j*40) (.view (bB ps)) (dH q) rfl (Q1 hq) k_::
 .cM f129 38 0 ps.length k 40 o_ k_::.ld f129 39 50 0 (k*40) (.view (bB ps)) (dH r) rfl (Q1 hr) k_::(hu▸aQl sp sq sr hm pn qn rn:aB prog 173 [dH p,dH q,dH r] u).at 40::more
theorem aSf{M:Nat}(hs:∀ p∈ps,bM m p/\p.n≠0)(hm:200*m+1000<=az)(hM:120*m+365<=M)(Ay:100*M+1000<=az)(ha:∀ v∈acc,aw M v)(hL:acc.length<1000)(hi:i<ps.length)(hj:j<i)(hk:k<j)(h63:ps.length<1000):
  ∃ σ fC,(∀ B5:e_,zr (oH ps++dB [some 2] (oI B5)) 3 σ (Ml ps.length i j (k+1) (uy ps acc i j k).length) (oH ps) (oI (uy ps acc i j k))=true)/\
   af prog Bs 81 (aF (ag f129 4)) (Ml ps.length i j k acc.length) (oH ps++marks 3 (oI acc)) 4 ⟨.normal,fj 3 σ (Ml ps.length i j (k+1) (uy ps acc i j k).length),oH ps++dB σ (oI (uy ps acc i j k)),fC⟩:=by
 have hp:ps[i]?=some ps[i]:=aT hi;have hq:ps[j]?=some ps[j]:=aT o_;have hr:ps[k]?=some ps[k]:=aT o_;obtain⟨sp,pn⟩:=hs _ (cY hi);obtain⟨sq,qn⟩:=hs _ (cY (show j<ps.length by omega));obtain⟨sr,rn⟩:=hs _ (cY (show k<ps.length by omega));unfold uy;rw[pV hp,pV hq,pV hr];generalize ps[i]=p at *;generalize ps[j]=q at *;generalize ps[k]=r at *;by_cases hd:cE p.n q.n r.n=0
 ·rw[ax hd];refine⟨[some 3],5,λB5=>k_,?_⟩;exact fB mixed 200 (Q8 hi hj hk hp hq hr sp sq sr pn qn rn hm (ax hd) [.sum 26 k 1 (k+1) rfl o_]) k_
 ·rw[ao hd];have sx:aw M (lf p q r):=(aw.lf sp sq sr hd).mono hM;have mM:m<=M:=by clear hm Ay;omega
  have pC:∀ p∈ps,bM M p/\p.n≠0:=λt ht=>⟨(hs t ht).1.mono mM,(hs t ht).2⟩;have lo:=aSe (Bs:=Bs) (i:=i) (j:=j) (k:=k) pC sx Ay h63;generalize lf p q r=x at *;by_cases hb:Aw ps i j k x=true
  ·rw[ax hb];rw[hb]at lo;rcases Q6 x acc with ⟨t,y,h1,h2,h3,h4⟩|⟨t,h1,h2,h3,h4⟩
   ·rw[h4];refine⟨[some 3],5,λB5=>k_,?_⟩;exact fB mixed 200 (Q8 hi hj hk hp hq hr sp sq sr pn qn rn hm (ao hd) [.code 6 _ _ _ _ _ lo,.step 79 (aA f129 79) [.func (.func 175) #[] #[],sl 3 acc.length,aZ x] [(3,some (.row (aG acc) 38 30))] (sl 3 acc.length) [] (aSc ha sx (by clear hm;omega) hL h1 h2 h3 (y:=.func 175) k_ 3),.sum 26 k 1 (k+1) rfl o_]) k_
   ·have hlen:(aWT acc x).length=acc.length+1:=by rw[h4];simp only[kP,jr,vE,PJ];omega
    have hc:=aSb ha sx (by clear hm;omega) hL h1 h2 h3;rw[<-h4]at hc;rw[hlen];generalize aWT acc x=aFL at *;refine⟨[some 5],6,λB5=>k_,?_⟩;exact fB mixed 200 (Q8 hi hj hk hp hq hr sp sq sr pn qn rn hm (ao hd) [.code 6 _ _ _ _ _ lo,.step 79 (aA f129 79) [.func (.func 175) #[] #[],sl 3 acc.length,aZ x] [(5,none),(3,some (.row (aG acc) 38 30))] (sl 5 (acc.length+1)) [(5,.row (aG aFL) 38 30)]
      (qF hc (.w (x:=.row (aG acc) 38 30) rfl (cW acc) oB (.p k_ .nil)) (x:=.func 175) k_ k_ (cW aFL) 5),
     .sum 26 k 1 (k+1) rfl o_]) k_
  ·have kR:Aw ps i j k x=false:=by cases h:Aw ps i j k x<;>first|rfl|exact absurd h hb
   rw[ao hb];rw[kR]at lo;refine⟨[some 3],5,λB5=>k_,?_⟩;exact fB mixed 200 (Q8 hi hj hk hp hq hr sp sq sr pn qn rn hm (ao hd) [.code 6 _ _ _ _ _ lo,.sum 26 k 1 (k+1) rfl o_]) k_
end
def pj(ps:c_)(acc:e_)(i j:Nat):Nat->List (V3 K)
 |0=>acc
 |k+1=>uy ps (pj ps acc i j k) i j k
def nU(ps:c_)(acc:e_)(i:Nat):Nat->List (V3 K)
 |0=>acc
 |j+1=>pj ps (nU ps acc i j) i j j
def rS(ps:c_):Nat->List (V3 K)
 |0=>[]
 |i+1=>nU ps (rS ps i) i i
def fv(ps:c_):e_:=rS ps ps.length
theorem aSg{v x:V3 K}:∀{vs:e_},x∈aWT vs v->x∈vs\/x=v:=λ{vs} h=>by
 rcases Q6 v vs with ⟨_,_,_,_,_,h4⟩|⟨t,_,_,_,h4⟩
 ·rw[h4]at h;exact .inl h
 ·rw[h4]at h;simp only[fo,Pr]at h;rcases h with (h|h)|h
  ·exact .inl (Iw h)
  ·exact .inr h
  ·exact .inl (W8 h)
theorem aSh(v:V3 K)(vs:e_):(aWT vs v).length<=vs.length+1:=by
 rcases Q6 v vs with ⟨_,_,_,_,_,h4⟩|⟨t,_,_,_,h4⟩
 ·rw[h4];omega
 ·rw[h4];simp only[kP,jr,vE,PJ];omega
theorem aSi(ps:c_)(acc:e_)(i j k:Nat):(uy ps acc i j k).length<=acc.length+1:=by
 unfold uy;by_cases h:cE (eK ps i).n (eK ps j).n (eK ps k).n=0
 ·rw[ax h];omega
 ·rw[ao h];split
  ·exact aSh _ _
  ·omega
theorem Xo{m:Nat}(hs:∀ p∈ps,bM m p/\p.n≠0)(hi:i<ps.length):bM m (eK ps i):=by rw[pV (aT hi)];exact(hs _ (cY hi)).1
theorem aSj{m M:Nat}(hs:∀ p∈ps,bM m p/\p.n≠0)(hM:120*m+365<=M)(ha:∀ v∈acc,aw M v)(hi:i<ps.length)(hj:j<ps.length)(hk:k<ps.length):∀ v∈uy ps acc i j k,aw M v:=by
 unfold uy;by_cases h:cE (eK ps i).n (eK ps j).n (eK ps k).n=0
 ·rw[ax h];exact ha
 ·rw[ao h];split
  ·intro v hv;rcases aSg hv with hv|hv
   ·exact ha v hv
   ·rw[hv];exact(aw.lf (Xo hs hi) (Xo hs hj) (Xo hs hk) h).mono hM
  ·exact ha
section
variable{ps:c_}{m M:Nat}
theorem Xp(hs:∀ p∈ps,bM m p/\p.n≠0)(hM:120*m+365<=M){acc:e_}(ha:∀ v∈acc,aw M v){i j:Nat}(hi:i<ps.length)(hj:j<i):∀ k,k<=j->(∀ v∈pj ps acc i j k,aw M v)/\(pj ps acc i j k).length<=acc.length+k
 |0,_=>⟨ha,bA _⟩
 |k+1,h=>by obtain⟨h1,h2⟩:=Xp hs hM ha hi hj k o_;have:=aSi ps (pj ps acc i j k) i j k;exact⟨aSj hs hM h1 hi o_ o_,by unfold pj;omega⟩
theorem Xq(hs:∀ p∈ps,bM m p/\p.n≠0)(hM:120*m+365<=M)(h9:ps.length<=9){acc:e_}(ha:∀ v∈acc,aw M v){i:Nat}(hi:i<ps.length):∀ j,j<=i->(∀ v∈nU ps acc i j,aw M v)/\(nU ps acc i j).length<=acc.length+9*j
 |0,_=>⟨ha,bA _⟩
 |j+1,h=>by obtain⟨h1,h2⟩:=Xq hs hM h9 ha hi j o_;obtain⟨h3,h4⟩:=Xp hs hM h1 hi (show j<i by omega) j (bA _);exact⟨h3,by unfold nU;omega⟩
theorem Xr(hs:∀ p∈ps,bM m p/\p.n≠0)(hM:120*m+365<=M)(h9:ps.length<=9):∀ i,i<=ps.length->(∀ v∈rS ps i,aw M v)/\(rS ps i).length<=81*i
 |0,_=>⟨λv hv=>(by cases hv),bA _⟩
 |i+1,h=>by obtain⟨h1,h2⟩:=Xr hs hM h9 i o_;obtain⟨h3,h4⟩:=Xq hs hM h9 h1 (show i<ps.length by omega) i (bA _);exact⟨h3,by unfold rS;omega⟩
theorem Xs{m:Nat}:∀ x∈oH ps,fe m x.2:=λx hx=>by simp only[oH,ct,iX,iY]at hx;subst hx;exact λv hv=>gB (bd.1 (dx ps) v hv)
theorem Xt{m:Nat}:∀ x∈oI acc,fe m x:=λx hx=>by simp only[oI,ct,iX,iY]at hx;subst hx;exact λv hv=>gB (bd.1 (cW acc) v hv)
variable{Bs:aa}
theorem aSk(hs:∀ p∈ps,bM m p/\p.n≠0)(hm:200*m+1000<=az)(hM:120*m+365<=M)(Ay:100*M+1000<=az)(ha:∀ v∈acc,aw M v)(hi:i<ps.length)(hj:j<i)(h9:ps.length<=9)(hL:acc.length+j<1000):
  af prog Bs 81 (.block 4 (ag f129 4)) (fj 3 [some 2] (Ml ps.length i j 0 acc.length)) (oH ps++dB [some 2] (oI acc)) 3 ⟨.normal,[(3,sl 3 (pj ps acc i j j).length)],oH ps++marks 3 (oI (pj ps acc i j j)),4⟩:=by
 have:=pH (P:=prog) (B:=Bs) (N:=81) (b:=aF (ag f129 4)) (next:=3) (p:=1) (r:=⟨.exit 4,[(3,sl 3 (pj ps acc i j j).length)],oH ps++marks 3 (oI (pj ps acc i j j)),4⟩) j
  (λk=>Ml ps.length i j k (pj ps acc i j k).length) (λ_=>oH ps) (λk=>oI (pj ps acc i j k)) [some 2] (λ_ _=>rfl) (λ_ _=>⟨Xs,Xt⟩) k_ k_
  (λk hk=>by obtain⟨h1,h2⟩:=Xp hs hM ha hi hj k o_;obtain⟨σ,fC,e1,e2⟩:=aSf (Bs:=Bs) hs hm hM Ay h1 o_ hi hj hk o_;exact⟨σ,fC,e1 _,e2⟩)
  (by generalize pj ps acc i j j=a;exact aC [.lt 24 j j false s_]) n_
 exact bO (id:=4) this
def Xu(n i j L:Nat):aN:=[(5,vI j),(4,vI i),(0,sl 0 n),(3,sl 2 L)]
theorem aSl(hs:∀ p∈ps,bM m p/\p.n≠0)(hm:200*m+1000<=az)(hM:120*m+365<=M)(Ay:100*M+1000<=az)(ha:∀ v∈acc,aw M v)(hi:i<ps.length)(h9:ps.length<=9)(hL:acc.length+9*i<1000):
  af prog Bs 81 (.block 2 (ag f129 2)) (fj 2 [some 1] (Xu ps.length i 0 acc.length)) (oH ps++dB [some 1] (oI acc)) 2 ⟨.normal,[(3,sl 2 (nU ps acc i i).length)],oH ps++marks 2 (oI (nU ps acc i i)),3⟩:=by
 have:=pH (P:=prog) (B:=Bs) (N:=81) (b:=aF (ag f129 2)) (next:=2) (p:=1) (r:=⟨.exit 2,[(3,sl 2 (nU ps acc i i).length)],oH ps++marks 2 (oI (nU ps acc i i)),3⟩) i
  (λj=>Xu ps.length i j (nU ps acc i j).length) (λ_=>oH ps) (λj=>oI (nU ps acc i j)) [some 1] (λ_ _=>rfl) (λ_ _=>⟨Xs,Xt⟩) k_ k_
  (λj hj=>by obtain⟨h1,h2⟩:=Xq hs hM h9 ha hi j o_;have lo:=aSk (Bs:=Bs) hs hm hM Ay h1 hi hj h9 o_;refine⟨[some 3],4,k_,?_⟩;show af _ _ _ _ _ _ _ ⟨.normal,fj 2 [some 3] (Xu ps.length i (j+1) (pj ps (nU ps acc i j) i j j).length),oH ps++dB [some 3] (oI (pj ps (nU ps acc i j) i j j)),4⟩;generalize nU ps acc i j=a at *;generalize pj ps a i j j=b at *;exact aC [.lt 19 j i true (aE hj),.code 4 _ _ _ _ _ lo,.sum 21 j 1 (j+1) rfl o_])
  (by generalize nU ps acc i i=a;exact aC [.lt 19 i i false s_]) n_
 exact bO (id:=2) this
def Xv(n i L:Nat):aN:=[(4,vI i),(0,sl 0 n),(3,sl 1 L)]
theorem aSm(hs:∀ p∈ps,bM m p/\p.n≠0)(hm:200*m+1000<=az)(hM:120*m+365<=M)(Ay:100*M+1000<=az)(h9:ps.length<=9):
  af prog Bs 81 (.block 0 (ag f129 0)) (fj 1 [none] (Xv ps.length 0 0)) (oH ps++dB [none] (oI [])) 1 ⟨.normal,[(3,sl 1 (fv ps).length)],oH ps++marks 1 (oI (fv ps)),2⟩:=by
 have:=pH (P:=prog) (B:=Bs) (N:=81) (b:=aF (ag f129 0)) (next:=1) (p:=1) (r:=⟨.exit 0,[(3,sl 1 (rS ps ps.length).length)],oH ps++marks 1 (oI (rS ps ps.length)),2⟩) ps.length
  (λi=>Xv ps.length i (rS ps i).length) (λ_=>oH ps) (λi=>oI (rS ps i)) [none] (λ_ _=>rfl) (λ_ _=>⟨Xs,Xt⟩) k_ k_
  (λi hi=>by obtain⟨h1,h2⟩:=Xr hs hM h9 i o_;have lo:=aSl (Bs:=Bs) hs hm hM Ay h1 hi h9 o_;refine⟨[some 2],3,k_,?_⟩;show af _ _ _ _ _ _ _ ⟨.normal,fj 1 [some 2] (Xv ps.length (i+1) (nU ps (rS ps i) i i).length),oH ps++dB [some 2] (oI (nU ps (rS ps i) i i)),3⟩;generalize rS ps i=a at *;generalize nU ps a i i=b at *;exact aC [.lt 14 i ps.length true (aE hi),.code 2 _ _ _ _ _ lo,.sum 16 i 1 (i+1) rfl o_])
  (by generalize rS ps ps.length=a;exact aC [.lt 14 ps.length ps.length false s_]) n_
 exact bO (id:=0) this
theorem aSn(hs:∀ p∈ps,bM m p/\p.n≠0)(hm:200*m+1000<=az)(hM:120*m+365<=M)(Ay:100*M+1000<=az)(h9:ps.length<=9):kY prog 129 [fO ps] 38 30 (fv ps).length (aG (fv ps)):=by
 have au:([fO ps].all aL.ok)=true:=by simp only[dT,eC,fO,aL.ok,dx,gp]
 have lo:=λBs=>aSm (Bs:=Bs) hs hm hM Ay h9;generalize fv ps=c at *;exact vT (k:=1) mixed func129 au 100 (N:=81) k_ (λ_=>[.code 0 _ _ _ _ _ (lo _)]) (λ_=>k_) (cW c) (nN c)
end
def Q9(g:V3 K)(vs:e_)(o a b:Nat):Int:=OF.aD (cE g (aJ vs a-aJ vs o) (aJ vs b-aJ vs o))
def Co(g:V3 K)(vs:e_)(o a:Nat)(b:Nat):Bool:=decide (Q9 g vs o a b=0)
section
variable{Bs:aa}{vs:e_}{p:HS K}{o a:Nat}{l:l_}{m:Nat}
def GH(n r i:Nat):aN:=[(7,vI (i+2)),(1,sl 0 n),(2,sl 1 r),(3,ptr 2)]
def wE(vs:e_)(p:HS K)(on:l_):aH:=[(0,.view (aG vs)),(1,.view (al on)),(2,.aI (db p).cs 50)]
theorem neB(h:decide (z=0)=!t):Value.bool (z !=0)=.bool t:=by
 congr 1
 cases t
 ·have:=jz h;subst this;rfl
 ·have:=Df h;exact rh.2 this
theorem ky(hs:∀ v∈vs,aw m v)(hi:i<vs.length):aw m (aJ vs i):=hs _ (cH (iy hi))
noncomputable def flS(hb:l[i]?=some b)(hn:aw m p.n)(hs:∀ v∈vs,aw m v)(ho:o<vs.length)(ha:a<vs.length)(ti:b<vs.length)(hm:200*m+400<=az)(ht:Co p.n vs o a b=!t)(more:bL prog Bs 37):bL prog Bs 37:=
 .lt 11 (i+2) (l.length+2) true (aE (by have:=(eA.1 hb).1;omega))::.ix f205 18 1 (l.length+2) 0 o_ k_::.ld f205 19 3 1 0 (.view (al (o::a::l))) (vI o) rfl (dZ (l:=o::a::l) (i:=0) rfl) k_::
 .cM f205 20 0 vs.length o 30 ho k_::.ld f205 21 38 0 (o*30) (.view (aG vs)) (aZ (aJ vs o)) rfl (gD (iy ho)) k_::.ix f205 24 1 (l.length+2) 1 o_ k_::.ld f205 25 3 1 1 (.view (al (o::a::l))) (vI a) rfl (dZ (l:=o::a::l) (i:=1) rfl) k_::
 .cM f205 26 0 vs.length a 30 ha k_::.ld f205 27 38 0 (a*30) (.view (aG vs)) (aZ (aJ vs a)) rfl (gD (iy ha)) k_::.ix f205 31 1 (l.length+2) (i+2) (by have:=(eA.1 hb).1;omega) k_::
 .ld f205 32 3 1 (i+2) (.view (al (o::a::l))) (vI b) rfl (dZ (l:=o::a::l) (i:=i+2) hb) k_::.cM f205 33 0 vs.length b 30 ti k_::.ld f205 34 38 0 (b*30) (.view (aG vs)) (aZ (aJ vs b)) rfl (gD (iy ti)) k_::
 (aEw hn (ky hs ho) (ky hs ha) (ky hs ti) hm).at 35::.rw 36 _ (.bool t) (neB ht)::more
theorem aFM(hb:l[i]?=some b)(hn:aw m p.n)(hs:∀ v∈vs,aw m v)(ho:o<vs.length)(ha:a<vs.length)(ti:b<vs.length)(hm:200*m+400<=az)(ht:Co p.n vs o a b=true)(h63:l.length<900000):
  af prog Bs 37 (aF (ag f205 0)) (GH vs.length (l.length+2) i) (wE vs p (o::a::l)) 3 ⟨.normal,GH vs.length (l.length+2) (i+1),wE vs p (o::a::l),3⟩:=by
 have hi:=(eA.1 hb).1;exact fB mixed 200 (flS (t:=false) hb hn hs ho ha ti hm ht [.sum 13 (i+2) 1 (i+1+2) o_ o_]) k_
theorem aSo(hb:l[i]?=some b)(hn:aw m p.n)(hs:∀ v∈vs,aw m v)(ho:o<vs.length)(ha:a<vs.length)(ti:b<vs.length)(hm:200*m+400<=az)(ht:Co p.n vs o a b=false):
  af prog Bs 37 (aF (ag f205 0)) (GH vs.length (l.length+2) i) (wE vs p (o::a::l)) 3 ⟨.ret,[(6,.bool false)],wE vs p (o::a::l),3⟩:=
 fB mixed 200 (flS (t:=true) hb hn hs ho ha ti hm ht []) k_
theorem aSp(hn:aw m p.n)(hs:∀ v∈vs,aw m v)(gS:∀ x∈o::a::l,x<vs.length)(hm:200*m+400<=az)(h63:l.length<900000):bw prog 205 [.p (dH p),.r vs.length (aG vs),.r (l.length+2) (al (o::a::l))] (.bool (l.all (Co p.n vs o a))):=by
 have au:([aL.p (dH p),.r vs.length (aG vs),.r (l.length+2) (al (o::a::l))].all aL.ok)=true:=by simp only[dT,eC,aL.ok,gp];rw[show(aG vs).all flat=true from cW vs,show(al (o::a::l)).all flat=true from iv _];rfl
 have ho:=gS o (aP ..);have ha:=gS a (bH _ (aP ..));have hl:∀{i b:Nat},l[i]?=some b->b<vs.length:=λh=>gS _ (bH _ (bH _ (cH h)));rcases Ck (Co p.n vs o a) l with h|⟨n,x,h1,h2,h3,h4⟩
 ·rw[h];have lo:∀ B:aa,af prog B 37 (.block 0 (ag f205 0)) (GH vs.length (l.length+2) 0) (wE vs p (o::a::l)) 3 ⟨.normal,[],wE vs p (o::a::l),3⟩:=λB=>
   bO (id:=0) (ch l.length (λi=>GH vs.length (l.length+2) i) (λ_=>wE vs p (o::a::l)) (λi k _=>Iff.rfl) (r:=⟨.exit 0,[],wE vs p (o::a::l),3⟩) (λi hi=>by have hx:l[i]?=some l[i]:=aT hi;exact aFM hx hn hs ho ha (hl hx) hm (Ee h hx) h63) (aC [.lt 11 (l.length+2) (l.length+2) false s_]) n_)
  exact cC func205 au 37 (λw=>[.code 0 _ _ _ _ _ (lo _)])
 ·rw[h4];have lo:∀ B:aa,af prog B 37 (.block 0 (ag f205 0)) (GH vs.length (l.length+2) 0) (wE vs p (o::a::l)) 3 ⟨.ret,[(6,.bool false)],wE vs p (o::a::l),3⟩:=λB=>
   bO (id:=0) (ch n (λi=>GH vs.length (l.length+2) i) (λ_=>wE vs p (o::a::l)) (λi k _=>Iff.rfl) (r:=⟨.ret,[(6,.bool false)],wE vs p (o::a::l),3⟩) (λi hi=>by have ak:=(eA.1 h1).1;have hx:l[i]?=some l[i]:=aT o_;exact aFM hx hn hs ho ha (hl hx) hm (h3 i _ hi hx) h63) (aSo h1 hn hs ho ha (hl h1) hm h2) n_)
  exact cC func205 au 37 (λw=>[.code 0 _ _ _ _ _ (lo _)])
end
def Mm(vs:e_)(i k j:Nat):Bool:=decide (OF.aD (dot (av (aJ vs (i+1)-aJ vs 0) (aJ vs (k+1)-aJ vs 0)) (aJ vs (j+1)-aJ vs 0))=0)
def GI(vs:e_)(i k:Nat):Bool:=(List.range k).all (Mm vs i k)
def Eg(vs:e_)(i:Nat):Bool:=(List.range i).all (GI vs i)
def vu(vs:e_):Bool:=(List.range (vs.length-1)).all (Eg vs)
section
variable{Bs:aa}{vs:e_}{m:Nat}
def Xw(n i k j:Nat):aN:=[(7,vI (j+1)),(5,vI (k+1)),(0,sl 0 n),(6,ptr 2)]
def sjM(vs:e_)(a c:V3 K):aH:=[(0,.view (aG vs)),(1,.aI (cr a).cs 38),(2,.aI (cr c).cs 38)]
noncomputable def Xx(hs:∀ v∈vs,aw m v)(hi:i+1<vs.length)(hk:k<i)(hj:j<k)(hm:300*m+1000<=az)(ht:Mm vs i k j=!t)(more:bL prog Bs 54):bL prog Bs 54:=
 .lt 39 (j+1) (k+1) true (aE o_)::.cM f130 45 0 vs.length (j+1) 30 o_ k_::.ld f130 46 38 0 ((j+1)*30) (.view (aG vs)) (aZ (aJ vs (j+1))) rfl (gD (iy o_)) k_::
 .cM f130 48 0 vs.length 0 30 o_ k_::.ld f130 49 38 0 (0*30) (.view (aG vs)) (aZ (aJ vs 0)) rfl (gD (iy o_)) k_::
 (aW1 (ky hs (show j+1<vs.length by omega)) (ky hs (show 0<vs.length by omega)) o_).at 50::
 (aWQ (((ky hs hi).sub (ky hs (show 0<vs.length by omega))).av ((ky hs (show k+1<vs.length by omega)).sub (ky hs (show 0<vs.length by omega)))) ((ky hs (show j+1<vs.length by omega)).sub (ky hs (show 0<vs.length by omega))) o_).at 51::
 (aWE ((((ky hs hi).sub (ky hs (show 0<vs.length by omega))).av ((ky hs (show k+1<vs.length by omega)).sub (ky hs (show 0<vs.length by omega)))).dot ((ky hs (show j+1<vs.length by omega)).sub (ky hs (show 0<vs.length by omega)))) o_).at 52::
 .rw 53 _ (.bool t) (neB ht)::more
def GJ(vs:e_)(i k:Nat):aH:=sjM vs (aJ vs (i+1)-aJ vs 0) (av (aJ vs (i+1)-aJ vs 0) (aJ vs (k+1)-aJ vs 0))
theorem aFN(hs:∀ v∈vs,aw m v)(hi:i+1<vs.length)(hk:k<i)(hm:300*m+1000<=az)(h63:vs.length<900000):
  af prog Bs 54 (.block 4 (ag f130 4)) (Xw vs.length i k 0) (GJ vs i k) 3 (if GI vs i k then⟨.normal,[],GJ vs i k,3⟩else⟨.ret,[(2,.bool true)],GJ vs i k,3⟩):=by
 unfold GI;rcases I5 (Mm vs i k) k with h|⟨n,hn,h2,h3,h4⟩
 ·rw[h];exact bO (id:=4) (ch k (λj=>Xw vs.length i k j) (λ_=>GJ vs i k) (λ_ _ _=>Iff.rfl) (r:=⟨.exit 4,[],GJ vs i k,3⟩) (λj hj=>
   fB mixed 200 (Xx (t:=false) hs hi hk hj hm (I6 h hj) [.sum 41 (j+1) 1 (j+1+1) rfl o_]) k_) (aC [.lt 39 (k+1) (k+1) false s_]) n_)
 ·rw[h4];exact bO (id:=4) (ch n (λj=>Xw vs.length i k j) (λ_=>GJ vs i k) (λ_ _ _=>Iff.rfl) (r:=⟨.ret,[(2,.bool true)],GJ vs i k,3⟩) (λj hj=>
   fB mixed 200 (Xx (t:=false) hs hi hk o_ hm (h3 j hj) [.sum 41 (j+1) 1 (j+1+1) rfl o_]) k_) (fB mixed 200 (Xx (t:=true) hs hi hk hn hm h2 []) k_) n_)
def Mn(n i k:Nat):aN:=[(5,vI (k+1)),(3,vI (i+1)),(0,sl 0 n),(4,ptr 1)]
def yt(vs:e_)(i:Nat):aH:=[(0,.view (aG vs)),(1,.aI (cr (aJ vs (i+1)-aJ vs 0)).cs 38)]
theorem aSq{n:Nat}:∀ x∈yt vs i,fe n x.2:=λx hx=>by
 simp only[yt,ct,iX,iY]at hx;rcases hx with rfl|rfl
 ·exact λv hv=>gB (bd.1 (cW vs) v hv)
 ·exact λv hv=>gB (RV.nJ _ v hv)
noncomputable def skS(hs:∀ v∈vs,aw m v)(hi:i+1<vs.length)(hk:k<i)(hm:300*m+1000<=az)(more:bL prog Bs 54):bL prog Bs 54:=
 .lt 24 (k+1) (i+1) true (aE o_)::.cM f130 30 0 vs.length (k+1) 30 o_ k_::.ld f130 31 38 0 ((k+1)*30) (.view (aG vs)) (aZ (aJ vs (k+1))) rfl (gD (iy o_)) k_::
 .cM f130 33 0 vs.length 0 30 o_ k_::.ld f130 34 38 0 (0*30) (.view (aG vs)) (aZ (aJ vs 0)) rfl (gD (iy o_)) k_::
 (aW1 (ky hs (show k+1<vs.length by omega)) (ky hs (show 0<vs.length by omega)) o_).at 35::
 (aWv ((ky hs hi).sub (ky hs (show 0<vs.length by omega))) ((ky hs (show k+1<vs.length by omega)).sub (ky hs (show 0<vs.length by omega))) o_).at 36::more
theorem aFO(hs:∀ v∈vs,aw m v)(hi:i+1<vs.length)(hm:300*m+1000<=az)(h63:vs.length<900000):
  af prog Bs 54 (.block 2 (ag f130 2)) (Mn vs.length i 0) (yt vs i) 2 (if Eg vs i then⟨.normal,[],yt vs i,2⟩else⟨.ret,[(2,.bool true)],yt vs i,3⟩):=by
 have Mo:∀ k,k<i->GI vs i k=true->af prog Bs 54 (aF (ag f130 2)) (Mn vs.length i k) (yt vs i) 2 ⟨.normal,Mn vs.length i (k+1),yt vs i,2⟩:=λk hk h=>by have lo:=aFN (Bs:=Bs) hs hi hk hm h63;rw[ax h]at lo;exact qZ mixed 200 (fC:=3) (skS hs hi hk hm [.code 4 _ _ _ _ _ lo,.sum 26 (k+1) 1 (k+1+1) rfl o_]) k_ rfl k_ aSq k_
 unfold Eg;rcases I5 (GI vs i) i with h|⟨n,hn,h2,h3,h4⟩
 ·rw[h];exact bO (id:=2) (ch i (λk=>Mn vs.length i k) (λ_=>yt vs i) (λ_ _ _=>Iff.rfl) (r:=⟨.exit 2,[],yt vs i,2⟩) (λk hk=>Mo k hk (I6 h hk)) (aC [.lt 24 (i+1) (i+1) false s_]) n_)
 ·rw[h4];exact bO (id:=2) (ch n (λk=>Mn vs.length i k) (λ_=>yt vs i) (λ_ _ _=>Iff.rfl) (r:=⟨.ret,[(2,.bool true)],yt vs i,3⟩) (λk hk=>Mo k o_ (h3 k hk)) (by have lo:=aFN (Bs:=Bs) hs hi hn hm h63;rw[ao (by rw[h2];decide)]at lo;exact fB mixed 200 (skS hs hi hn hm [.code 4 _ _ _ _ _ lo]) k_) n_)
def Ja(n i:Nat):aN:=[(3,vI (i+1)),(0,sl 0 n)]
def wF(vs:e_):aH:=[(0,.view (aG vs))]
theorem aSr{n:Nat}:∀ x∈wF vs,fe n x.2:=λx hx=>by simp only[wF,ct,iX,iY]at hx;subst hx;exact λv hv=>gB (bd.1 (cW vs) v hv)
noncomputable def stS(hs:∀ v∈vs,aw m v)(hi:i+1<vs.length)(hm:300*m+1000<=az)(more:bL prog Bs 54):bL prog Bs 54:=
 .lt 11 (i+1) vs.length true (aE hi)::.cM f130 16 0 vs.length (i+1) 30 hi k_::.ld f130 17 38 0 ((i+1)*30) (.view (aG vs)) (aZ (aJ vs (i+1))) rfl (gD (iy hi)) k_::
 .cM f130 19 0 vs.length 0 30 o_ k_::.ld f130 20 38 0 (0*30) (.view (aG vs)) (aZ (aJ vs 0)) rfl (gD (iy o_)) k_::
 (aW1 (ky hs hi) (ky hs (show 0<vs.length by omega)) o_).at 21::more
theorem aSs(hs:∀ v∈vs,aw m v)(hm:300*m+1000<=az)(h63:vs.length<900000):bw prog 130 [.r vs.length (aG vs)] (.bool (!vu vs)):=by
 have au:([aL.r vs.length (aG vs)].all aL.ok)=true:=by simp only[dT,eC,aL.ok,gp];exact cW vs
 have Mo:∀(B:aa) i,i<vs.length-1->Eg vs i=true->af prog B 54 (aF (ag f130 0)) (Ja vs.length i) (wF vs) 1 ⟨.normal,Ja vs.length (i+1),wF vs,1⟩:=λB i hi h=>by have lo:=aFO (Bs:=B) hs (show i+1<vs.length by omega) hm h63;rw[ax h]at lo;exact qZ mixed 200 (fC:=2) (stS (i:=i) hs o_ hm [.code 2 _ _ _ _ _ lo,.sum 13 (i+1) 1 (i+1+1) rfl o_]) k_ rfl k_ aSr k_
 unfold vu;rcases I5 (Eg vs) (vs.length-1)with h|⟨n,hn,h2,h3,h4⟩
 ·rw[h];have lo:∀ B:aa,af prog B 54 (.block 0 (ag f130 0)) (Ja vs.length 0) (wF vs) 1 ⟨.normal,[],wF vs,1⟩:=λB=>
   bO (id:=0) (ch (vs.length-1) (λi=>Ja vs.length i) (λ_=>wF vs) (λ_ _ _=>Iff.rfl) (r:=⟨.exit 0,[],wF vs,1⟩) (λi hi=>Mo B i hi (I6 h hi)) (aC [.lt 11 (vs.length-1+1) vs.length false (aO o_)]) n_)
  exact cC func130 au 54 (λw=>[.code 0 _ _ _ _ _ (lo _)])
 ·rw[h4];have lo:∀ B:aa,af prog B 54 (.block 0 (ag f130 0)) (Ja vs.length 0) (wF vs) 1 ⟨.ret,[(2,.bool true)],wF vs,3⟩:=λB=>
   bO (id:=0) (ch n (λi=>Ja vs.length i) (λ_=>wF vs) (λ_ _ _=>Iff.rfl) (r:=⟨.ret,[(2,.bool true)],wF vs,3⟩) (λi hi=>Mo B i o_ (h3 i hi)) (by have lo:=aFO (Bs:=B) hs (show n+1<vs.length by omega) hm h63;rw[ao (by rw[h2];decide)]at lo;exact fB mixed 200 (stS (i:=n) hs o_ hm [.code 2 _ _ _ _ _ lo]) k_) n_)
  exact cC func130 au 54 (λw=>[.code 0 _ _ _ _ _ (lo _)])
end
section
variable{Bs:aa}{vs:e_}
def Mp(n j L:Nat):aN:=[(6,vI j),(1,sl 0 n),(5,sl 2 L),(2,ptr 1)]
def Az(vs:e_)(p:HS K):aH:=[(0,.view (aG vs)),(1,.aI (db p).cs 50)]
theorem aSt{m:Nat}{p:HS K}:∀ x∈Az vs p,fe m x.2:=λx hx=>by
 simp only[Az,ct,iX,iY]at hx;rcases hx with rfl|rfl
 ·exact λv hv=>gB (bd.1 (cW vs) v hv)
 ·exact λv hv=>gB (ja.flat _ v hv)
theorem aSu{m q:Nat}{p:HS K}{l:l_}(hj:j<vs.length)(hp:bM m p)(jL:p.n≠0)(aQ:∀ v∈vs,aw q v)(hm:100*(m+q)+1000<=az)(h63:l.length<900000)(pT:vs.length<1000000):
  ∃ σ fC,(∀ l0:List Nat,zr (Az vs p++dB [none] (ki l0)) 2 σ (Mp vs.length (j+1) (l++if dot p.n (aJ vs j)-p.d=0 then[j]else[]).length) (Az vs p) (ki (l++if dot p.n (aJ vs j)-p.d=0 then[j]else[]))=true)/\
   af prog Bs 124 (aF (ag f177 0)) (Mp vs.length j l.length) (Az vs p++marks 2 (ki l)) 3 ⟨.normal,fj 2 σ (Mp vs.length (j+1) (l++if dot p.n (aJ vs j)-p.d=0 then[j]else[]).length),Az vs p++dB σ (ki (l++if dot p.n (aJ vs j)-p.d=0 then[j]else[])),fC⟩:=by
 have hv:=iy hj;have hs:=aWz hp (aQ _ (cH hv)) o_ jL;by_cases h:dot p.n (aJ vs j)-p.d=0
 ·rw[ax h];have e:(Value.bool (OF.aD (dot p.n (aJ vs j)-p.d)==0))=.bool true:=by rw[OF.Oo.1 h];rfl
  have hr:al l++[vI j]=al (l++[j]):=by simp[al]
  have Eb:(al l).length=l.length*1:=by rw[nP,gC]
  have h1:=L8 l;rw[show(l++[j]).length=l.length+1 by simp];unfold ki;refine⟨[some 4],5,λl0=>k_,?_⟩;generalize OF.aD (dot p.n (aJ vs j)-p.d)=z at *;generalize aJ vs j=v at *;generalize al l=c0 at *;generalize al (l++[j])=c1 at *;exact aC [.lt 15 j vs.length true (aE hj),.cM f177 21 0 vs.length j 30 hj k_,.ld f177 22 38 0 (j*30) (.view (aG vs)) (aZ v) rfl (gD hv) k_,hs.at 23,.rw 24 (.bool (z==0)) b_ e,.bs f177 27 3 1 3 1 [0] (vI 0) [vI j] #[vI j] (.row [vI j] 3 1) rfl (λv hv=>by simp at hv;subst hv;rfl) (λv hv=>by simp at hv;subst hv;rfl) k_ rfl d_ d_ k_,.oX f177 28 4 2 l.length 1 (l.length+1) 3 1 8 c0 3 (.row [vI j] 3 1) c1 rfl rfl rfl Eb hr (λv hv=>by simp[Obj.cells]at hv;subst hv;rfl) d_ (by simp[maxLen];omega) o_ k_,.sum 17 j 1 (j+1) rfl o_]
 ·rw[ao h,jh];have e:(Value.bool (OF.aD (dot p.n (aJ vs j)-p.d)==0))=.bool false:=by
   congr 1
   have:OF.aD (dot p.n (aJ vs j)-p.d)≠0:=λe=>h (OF.Oo.2 e);simpa using this
  refine⟨[some 2],3,λl0=>k_,?_⟩;generalize OF.aD (dot p.n (aJ vs j)-p.d)=z at *;generalize aJ vs j=v at *;exact aC [.lt 15 j vs.length true (aE hj),.cM f177 21 0 vs.length j 30 hj k_,.ld f177 22 38 0 (j*30) (.view (aG vs)) (aZ v) rfl (gD hv) k_,hs.at 23,.rw 24 (.bool (z==0)) a_ e,.sum 17 j 1 (j+1) rfl o_]
theorem aFP{m q:Nat}{p:HS K}(hp:bM m p)(jL:p.n≠0)(aQ:∀ v∈vs,aw q v)(hm:100*(m+q)+1000<=az)(h63:vs.length<900000):
  af prog Bs 124 (.block 0 (ag f177 0)) (fj 2 [none] (Mp vs.length 0 0)) (Az vs p++dB [none] (ki [])) 2 ⟨.normal,[(5,sl 2 (ck p vs vs.length).length)],Az vs p++marks 2 (ki (ck p vs vs.length)),3⟩:=by
 have:=pH (P:=prog) (B:=Bs) (N:=124) (b:=aF (ag f177 0)) (next:=2) (p:=1) (r:=⟨.exit 0,[(5,sl 2 (ck p vs vs.length).length)],Az vs p++marks 2 (ki (ck p vs vs.length)),3⟩) vs.length
  (λj=>Mp vs.length j (ck p vs j).length) (λ_=>Az vs p) (λj=>ki (ck p vs j)) [none] (λ_ _=>rfl) (λj _=>⟨aSt,Xc⟩) k_ k_
  (λj hj=>by have hl:=I2 p vs j;obtain⟨σ,fC,h1,h2⟩:=aSu (Bs:=Bs) (l:=ck p vs j) hj hp jL aQ hm o_ o_;rw[aE8];exact⟨σ,fC,h1 _,h2⟩)
  (by generalize ck p vs vs.length=a;exact aC [.lt 15 vs.length vs.length false s_]) n_
 exact bO (id:=0) this
end
def Jb(g:V3 K)(vs:e_)(a c b:Nat):Bool:=decide (b=a)||(decide (b=c)||decide (0<Q9 g vs a c b))
section
variable{Bs:aa}{vs:e_}{on:l_}{p:HS K}{m:Nat}
def Jc(n L a k j:Nat)(f:Bool):aN:=[(11,vI j),(10,.bool f),(5,sl 2 L),(8,vI a),(9,vI k),(1,sl 0 n),(2,ptr 1)]
def nA(vs:e_)(p:HS K)(on:l_):aH:=[(0,.view (aG vs)),(1,.aI (db p).cs 50),(2,.row (al on) 3 1)]
theorem gtB(h:decide (0<z)=t):Value.bool (decide (z>0))=.bool t:=by rw[<-h]
theorem aFQ{c:Nat}(hb:on[j]?=some b)(hc:on[k]?=some c)(gS:∀ x∈on,x<vs.length)(ha:a<vs.length)(hn:aw m p.n)(hs:∀ v∈vs,aw m v)(hm:200*m+400<=az)(ht:Jb p.n vs a c b=t)(h63:on.length<900000):
  af prog Bs 124 (aF (ag f177 6)) (Jc vs.length on.length a k j true) (nA vs p on) 5 ⟨.normal,Jc vs.length on.length a k (j+1) t,nA vs p on,5⟩:=by
 have hj:=(eA.1 hb).1;have hk:=(eA.1 hc).1;have ti:=gS b (cH hb);have km:=gS c (cH hc);unfold Jb at ht;by_cases h1:b=a
 ·rw[aE h1,Ha]at ht;subst ht;exact fB mixed 200 [.lt 68 j on.length true (aE hj),.ix f177 76 2 on.length j hj k_,.ld f177 77 3 2 j (.row (al on) 3 1) (vI b) rfl (dZ hb) k_,.fZ 79 b a true (aE h1),.sum 73 j 1 (j+1) rfl o_] k_
 rw[aO h1,xf]at ht;by_cases h2:b=c
 ·rw[aE h2,Ha]at ht;subst ht;exact fB mixed 200 [.lt 68 j on.length true (aE hj),.ix f177 76 2 on.length j hj k_,.ld f177 77 3 2 j (.row (al on) 3 1) (vI b) rfl (dZ hb) k_,.fZ 79 b a false (aO h1),.ix f177 83 2 on.length j hj k_,.ld f177 84 3 2 j (.row (al on) 3 1) (vI b) rfl (dZ hb) k_,.ix f177 87 2 on.length k hk k_,.ld f177 88 3 2 k (.row (al on) 3 1) (vI c) rfl (dZ hc) k_,.fZ 89 b c true (aE h2),.sum 73 j 1 (j+1) rfl o_] k_
 rw[aO h2,xf]at ht;exact fB mixed 200 [.lt 68 j on.length true (aE hj),.ix f177 76 2 on.length j hj k_,.ld f177 77 3 2 j (.row (al on) 3 1) (vI b) rfl (dZ hb) k_,.fZ 79 b a false (aO h1),.ix f177 83 2 on.length j hj k_,.ld f177 84 3 2 j (.row (al on) 3 1) (vI b) rfl (dZ hb) k_,.ix f177 87 2 on.length k hk k_,.ld f177 88 3 2 k (.row (al on) 3 1) (vI c) rfl (dZ hc) k_,.fZ 89 b c false (aO h2),.cM f177 96 0 vs.length a 30 ha k_,.ld f177 97 38 0 (a*30) (.view (aG vs)) (aZ (aJ vs a)) rfl (gD (iy ha)) k_,.ix f177 101 2 on.length k hk k_,.ld f177 102 3 2 k (.row (al on) 3 1) (vI c) rfl (dZ hc) k_,.cM f177 103 0 vs.length c 30 km k_,.ld f177 104 38 0 (c*30) (.view (aG vs)) (aZ (aJ vs c)) rfl (gD (iy km)) k_,.ix f177 108 2 on.length j hj k_,.ld f177 109 3 2 j (.row (al on) 3 1) (vI b) rfl (dZ hb) k_,.cM f177 110 0 vs.length b 30 ti k_,.ld f177 111 38 0 (b*30) (.view (aG vs)) (aZ (aJ vs b)) rfl (gD (iy ti)) k_,(aEw hn (ky hs ha) (ky hs km) (ky hs ti) hm).at 112,.rw 113 _ (.bool t) (gtB ht),.sum 73 j 1 (j+1) rfl o_] k_
theorem aSv:af prog Bs 124 (aF (ag f177 6)) (Jc vs.length on.length a k j false) (nA vs p on) 5 ⟨.exit 6,[(10,.bool false)],nA vs p on,5⟩:=by
 by_cases h:j<on.length
 ·exact aC [.lt 68 j on.length true (aE h)]
 ·exact aC [.lt 68 j on.length false (aO h)]
def Mq(g:V3 K)(vs:e_)(on:l_)(a c:Nat):Bool:=on.all (Jb g vs a c)
theorem aFR{c:Nat}(hc:on[k]?=some c)(gS:∀ x∈on,x<vs.length)(ha:a<vs.length)(hn:aw m p.n)(hs:∀ v∈vs,aw m v)(hm:200*m+400<=az)(h63:on.length<900000):
  af prog Bs 124 (.block 6 (ag f177 6)) (Jc vs.length on.length a k 0 true) (nA vs p on) 5 ⟨.normal,[(10,.bool (Mq p.n vs on a c))],nA vs p on,5⟩:=by
 unfold Mq;rcases Ck (Jb p.n vs a c) on with h|⟨n,x,h1,h2,h3,h4⟩
 ·rw[h];exact bO (id:=6) (ch on.length (λj=>Jc vs.length on.length a k j true) (λ_=>nA vs p on) (λ_ _ _=>Iff.rfl) (r:=⟨.exit 6,[(10,.bool true)],nA vs p on,5⟩) (λj hj=>by have hx:on[j]?=some on[j]:=aT hj;exact aFQ hx hc gS ha hn hs hm (Ee h hx) h63) (aC [.lt 68 on.length on.length false s_]) n_)
 ·rw[h4];have ak:=(eA.1 h1).1;exact bO (id:=6) (ch (n+1) (λj=>Jc vs.length on.length a k j (decide (j<=n))) (λ_=>nA vs p on) (λ_ _ _=>Iff.rfl) (r:=⟨.exit 6,[(10,.bool false)],nA vs p on,5⟩) (λj hj=>by
   have Ra:j<on.length:=by omega
   have hx:on[j]?=some on[j]:=aT Ra;simp only[aE (show j<=n by omega)];refine aFQ hx hc gS ha hn hs hm ?_ h63;by_cases he:j=n
   ·subst he;rw[h1]at hx;injection hx with hx;rw[<-hx,h2];exact(aO o_).symm
   ·rw[h3 j _ o_ hx];exact(aE o_).symm) (by
   simp only[aO (show ¬n+1<=n by omega)];exact aSv) n_)
end
def vx(g:V3 K)(vs:e_)(on:l_)(a c:Nat):Bool:=!decide (c=a)&&Mq g vs on a c
section
variable{Bs:aa}{vs:e_}{on:l_}{p:HS K}{m:Nat}
def Mr(n L R a k:Nat):aN:=[(9,vI k),(5,sl 2 L),(7,sl 4 R),(8,vI a),(1,sl 0 n),(2,ptr 1)]
def GK(vs:e_)(p:HS K)(on out:l_):aH:=nA vs p on++marks 4 (ki out)
theorem aSw{c:Nat}{out:l_}(hc:on[k]?=some c)(gS:∀ x∈on,x<vs.length)(ha:a<vs.length)(hn:aw m p.n)(hs:∀ v∈vs,aw m v)(hm:200*m+400<=az)(h63:on.length<900000)(hf:vx p.n vs on a c=false):
  af prog Bs 124 (aF (ag f177 4)) (Mr vs.length on.length out.length a k) (GK vs p on out) 5 ⟨.normal,Mr vs.length on.length out.length a (k+1),GK vs p on out,5⟩:=by
 have hk:=(eA.1 hc).1;by_cases h:c=a
 ·exact fB mixed 200 [.lt 56 k on.length true (aE hk),.ix f177 61 2 on.length k hk k_,.ld f177 62 3 2 k (.row (al on) 3 1) (vI c) rfl (dZ hc) k_,.fZ 64 c a true (aE h),.sum 58 k 1 (k+1) rfl o_] k_
 ·have lo:=aFR (Bs:=Bs) hc gS ha hn hs hm h63;unfold vx at hf;rw[aO h]at hf;have hf:Mq p.n vs on a c=false:=hf;rw[hf]at lo;exact fB mixed 200 [.lt 56 k on.length true (aE hk),.ix f177 61 2 on.length k hk k_,.ld f177 62 3 2 k (.row (al on) 3 1) (vI c) rfl (dZ hc) k_,.fZ 64 c a false (aO h),.code 6 _ _ _ _ _ lo,.sum 58 k 1 (k+1) rfl o_] k_
theorem aSx{c:Nat}{out:l_}(hc:on[k]?=some c)(gS:∀ x∈on,x<vs.length)(ha:a<vs.length)(hn:aw m p.n)(hs:∀ v∈vs,aw m v)(hm:200*m+400<=az)(h63:on.length<900000)(ho:out.length<900000)(hf:vx p.n vs on a c=true):
  af prog Bs 124 (aF (ag f177 4)) (Mr vs.length on.length out.length a k) (GK vs p on out) 5 ⟨.exit 4,[(7,sl 6 (out++[c]).length)],nA vs p on++[(6,.row (al (out++[c])) 3 1)],7⟩:=by
 have hk:=(eA.1 hc).1;have lo:=aFR (Bs:=Bs) hc gS ha hn hs hm h63;unfold vx at hf;rw[cZ]at hf;obtain⟨h1,h2⟩:=hf;have h:¬c=a:=by intro e;rw[aE e]at h1;cases h1
 rw[h2]at lo;have hr:al out++[vI c]=al (out++[c]):=by simp[al]
 have Eb:(al out).length=out.length*1:=by rw[nP,gC]
 rw[show(out++[c]).length=out.length+1 by simp];have iI:=dZ hc;unfold GK ki;generalize al out=c0 at *;generalize al (out++[c])=c1 at *;exact fB mixed 200 [.lt 56 k on.length true (aE hk),.ix f177 61 2 on.length k hk k_,.ld f177 62 3 2 k (.row (al on) 3 1) (vI c) rfl iI k_,.fZ 64 c a false (aO h),.code 6 _ _ _ _ _ lo,.ix f177 119 2 on.length k hk k_,.ld f177 120 3 2 k (.row (al on) 3 1) (vI c) rfl iI k_,.bs f177 121 5 1 3 1 [0] (vI 0) [vI c] #[vI c] (.row [vI c] 3 1) rfl (λv hv=>by simp at hv;subst hv;rfl) (λv hv=>by simp at hv;subst hv;rfl) k_ rfl d_ d_ k_,.oX f177 122 6 4 out.length 1 (out.length+1) 3 1 8 c0 5 (.row [vI c] 3 1) c1 rfl rfl rfl Eb hr (λv hv=>by simp[Obj.cells]at hv;subst hv;rfl) d_ (by simp[maxLen];omega) o_ k_] k_
theorem aSy{c:Nat}{out:l_}(hc:on[k]?=some c)(gS:∀ x∈on,x<vs.length)(ha:a<vs.length)(hn:aw m p.n)(hs:∀ v∈vs,aw m v)(hm:200*m+400<=az)(h63:on.length<900000)(ho:out.length<900000)(hf:vx p.n vs on a c=true)
  (hb:∀(i:Nat) (x:Nat),i<k->on[i]?=some x->vx p.n vs on a x=false) :
  af prog Bs 124 (.block 4 (ag f177 4)) (Mr vs.length on.length out.length a 0) (GK vs p on out) 5 ⟨.normal,[(7,sl 6 (out++[c]).length)],nA vs p on++[(6,.row (al (out++[c])) 3 1)],7⟩:=
 bO (id:=4) (ch k (λi=>Mr vs.length on.length out.length a i) (λ_=>GK vs p on out) (λ_ _ _=>Iff.rfl) (r:=⟨.exit 4,[(7,sl 6 (out++[c]).length)],nA vs p on++[(6,.row (al (out++[c])) 3 1)],7⟩) (λi hi=>by have hk:=(eA.1 hc).1;have hx:on[i]?=some on[i]:=aT o_;exact aSw hx gS ha hn hs hm h63 (hb i _ hi hx)) (aSx hc gS ha hn hs hm h63 ho hf) n_)
end
section
variable{Bs:aa}{vs:e_}{on:l_}{p:HS K}{m:Nat}
def Rb(n L R:Nat):aN:=[(7,sl 4 R),(5,sl 2 L),(1,sl 0 n),(2,ptr 1)]
theorem aSz{c R:Nat}{out:l_}(hR:out.length=R+1)(ak:out.length<on.length)(hl:out[R]?=some a)(hc:on[k]?=some c)(gS:∀ x∈on,x<vs.length)(ha:a<vs.length)(hn:aw m p.n)(hs:∀ v∈vs,aw m v)(hm:200*m+400<=az)(h63:on.length<900000)(hf:vx p.n vs on a c=true)
  (hb:∀(i:Nat) (x:Nat),i<k->on[i]?=some x->vx p.n vs on a x=false) :
  af prog Bs 124 (aF (ag f177 2)) (Rb vs.length on.length out.length) (nA vs p on++marks 4 (ki out)) 5 ⟨.normal,fj 4 [some 6] (Rb vs.length on.length (out++[c]).length),nA vs p on++dB [some 6] (ki (out++[c])),7⟩:=by
 have lo:=aSy (Bs:=Bs) hc gS ha hn hs hm h63 o_ hf hb (out:=out);have iI:=dZ hl;have e:(out++[c]).length=R+2:=by simp[hR]
 rw[e]at lo ⊢;unfold GK at lo;rw[hR]at lo ⊢;unfold ki at *;generalize al out=c0 at *;generalize al (out++[c])=c1 at *;exact fB mixed 200 [.lt 46 (R+1) on.length true (aE o_),.fh 50 (R+1) 1 R rfl o_,.ix f177 51 4 (R+1) R o_ k_,.ld f177 52 3 4 R (.row c0 3 1) (vI a) rfl iI k_,.code 4 _ _ _ _ _ lo] k_
end
structure aWx(g:V3 K)(vs:e_)(on sq:l_):Prop where
 len:sq.length=on.length
 head:sq[0]?=on[0]?
 step:∀(i a c:Nat),sq[i]?=some a->sq[i+1]?=some c->∃ k:Nat,on[k]?=some c/\vx g vs on a c=true/\∀(j x:Nat),j<k->on[j]?=some x->vx g vs on a x=false
section
variable{Bs:aa}{vs:e_}{on sq:l_}{p:HS K}{m:Nat}
theorem aSA{n:Nat}:∀ x∈nA vs p on,fe n x.2:=λx hx=>by
 simp only[nA,ct,iX,iY]at hx;rcases hx with rfl|rfl|rfl
 ·exact λv hv=>gB (bd.1 (cW vs) v hv)
 ·exact λv hv=>gB (ja.flat _ v hv)
 ·exact λv hv=>gB (mD _ v hv)
theorem aSB{o:Nat}(h:aWx p.n vs on sq)(h0:on[0]?=some o)(gS:∀ x∈on,x<vs.length)(hn:aw m p.n)(hs:∀ v∈vs,aw m v)(hm:200*m+400<=az)(h63:on.length<900000):
  af prog Bs 124 (.block 2 (ag f177 2)) (fj 4 [some 3] (Rb vs.length on.length 1)) (nA vs p on++dB [some 3] (ki [o])) 4 ⟨.normal,[(7,sl 4 sq.length)],nA vs p on++marks 4 (ki sq),5⟩:=by
 have tC:=(eA.1 h0).1;have hlen:=h.len;have rz:∀ x∈sq,x<vs.length:=λx hx=>by
  obtain⟨i,hi,rfl⟩:=k7 hx;cases i with
  |zero=>
   have e:=h.head;rw[aT hi,h0]at e;injection e with e;rw[e];exact gS _ (cH h0)
  |succ i=>
   obtain⟨k,e,_⟩:=h.step i _ _ (aT o_) (aT hi);exact gS _ (cH e)
 have e1:sq.take 1=[o]:=by have e:=h.head;rw[h0]at e;rw[List.take_one,List.head?_eq_getElem?,e];rfl
 have tl:∀ i,i<on.length->(sq.take (i+1)).length=i+1:=λi hi=>by rw[jr];omega
 have:=pH (P:=prog) (B:=Bs) (N:=124) (b:=aF (ag f177 2)) (next:=4) (p:=1) (r:=⟨.exit 2,[(7,sl 4 sq.length)],nA vs p on++marks 4 (ki sq),5⟩) (on.length-1)
  (λi=>Rb vs.length on.length (sq.take (i+1)).length) (λ_=>nA vs p on) (λi=>ki (sq.take (i+1))) [some 3] (λ_ _=>rfl) (λi _=>⟨aSA,Xc⟩) k_ k_
  (λi hi=>by
   have ha:sq[i]?=some sq[i]:=aT o_;have hc:sq[i+1]?=some sq[i+1]:=aT o_;obtain⟨k,q1,q2,q3⟩:=h.step i _ _ ha hc;have e:sq.take (i+1+1)=sq.take (i+1)++[sq[i+1]]:=by rw[sY,hc];rfl
   have hl:=tl i o_;have hr:=aSz (Bs:=Bs) (R:=i) hl o_ (by rw[uG,ax o_];exact ha) q1 gS (rz _ (cH ha)) hn hs hm h63 q2 q3;refine⟨[some 6],7,k_,?_⟩;rw[e];exact hr)
  (by rw[show on.length-1+1=sq.length by omega,ox];rw[hlen];exact aC [.lt 46 on.length on.length false s_]) n_
 simp only[ko,e1]at this;exact bO (id:=2) this
end
def Rc(g:V3 K)(vs:e_):List Nat->Bool
 |o::a::l=>l.all (Co g vs o a)
 |_=>true
section
variable{vs:e_}{p:HS K}{m q:Nat}
noncomputable def aSC{on:l_}(h3:3<=on.length)(ht:Rc p.n vs on=t)(hn:aw m p.n)(hs:∀ v∈vs,aw m v)(gS:∀ x∈on,x<vs.length)(hm:200*m+400<=az)(h63:on.length<900000):aU prog Bs 124:=
 .cR f177 36 [dH p,sl 0 vs.length,sl 2 on.length] (by
   match on,h3,gS,ht,h63 with
   |o::a::l,_,gS,ht,h63=>
    have:=aSp hn hs gS hm (by simp only[oL]at h63;omega);rw[show l.all (Co p.n vs o a)=t from ht]at this;exact this) (.p rfl (.w (x:=.view (aG vs)) rfl (cW vs) oB (.w (x:=.row (al on) 3 1) rfl (iv on) (λh=>QJ h) .nil)))
theorem aFS:([aL.p (dH p),.r vs.length (aG vs)].all aL.ok)=true:=by simp only[dT,eC,aL.ok,gp];rw[show(aG vs).all flat=true from cW vs];rfl
theorem aSD(hp:bM m p)(jL:p.n≠0)(aQ:∀ v∈vs,aw q v)(hm:100*(m+q)+1000<=az)(h63:vs.length<900000)(h:(ck p vs vs.length).length<3):
  bw prog 177 [.p (dH p),.r vs.length (aG vs)] (.slice none 0 0):=by
 have lo:=λBs=>aFP (Bs:=Bs) hp jL aQ hm h63;generalize ck p vs vs.length=on at *;exact iT mixed func177 aFS 200 (N:=124) k_ (λw=>[.code 0 _ _ _ _ _ (lo _),.lt 31 on.length 3 true (aE h)]) (λ_=>k_) k_
theorem aWA{sq:l_}(hp:bM m p)(jL:p.n≠0)(aQ:∀ v∈vs,aw m v)(hm:300*m+1000<=az)(h63:vs.length<900000)(h:¬(ck p vs vs.length).length<3)(hf:Rc p.n vs (ck p vs vs.length)=false)(rz:aWx p.n vs (ck p vs vs.length) sq):
  kY prog 177 [.p (dH p),.r vs.length (aG vs)] 3 1 sq.length (al sq):=by
 have lo:=λBs=>aFP (Bs:=Bs) hp jL aQ o_ h63;have gS:∀ x∈ck p vs vs.length,x<vs.length:=λx hx=>Xb hx;have hol:=I2 p vs vs.length;generalize ck p vs vs.length=on at *;obtain⟨o,h0⟩:∃ o,on[0]?=some o:=⟨_,aT o_⟩;have l2:=λBs=>aSB (Bs:=Bs) rz h0 gS hp.1 aQ o_ o_;exact vT (k:=4) mixed func177 aFS 200 (N:=124) k_ (λw=>[.code 0 _ _ _ _ _ (lo _),.lt 31 on.length 3 false (aO h),aSC o_ hf hp.1 aQ gS o_ o_,.ix f177 39 2 on.length 0 o_ k_,.ld f177 40 3 2 0 (.row (al on) 3 1) (vI o) rfl (dZ h0) k_,.bs f177 41 3 1 3 1 [0] (vI 0) [vI o] #[vI o] (.row [vI o] 3 1) rfl (λv hv=>by simp at hv;subst hv;rfl) (λv hv=>by simp at hv;subst hv;rfl) k_ rfl d_ d_ k_,.code 2 _ _ _ _ _ (l2 _)]) (λ_=>k_) (iv sq) (by rw[nP,gC])
end
theorem aFT{v:V3 K}:DF ps v=false↔(v=0\/∃ r∈ps,0<dot r.n v):=by
 unfold DF;rw[Bool.and_eq_false_iff,Bool.not_eq_false',Bool.not_eq_false',zW,rZ];constructor
 ·rintro(h|⟨r,hr,h⟩)
  ·exact .inl h
  ·exact .inr ⟨r,hr,QR.1 (jz h)⟩
 ·rintro(h|⟨r,hr,h⟩)
  ·exact .inl h
  ·exact .inr ⟨r,hr,aE (QR.2 h)⟩
theorem Xy{u:V3 K}:qJ ps u=false↔(u≠0->(∃ r∈ps,0<dot r.n u)/\∃ r∈ps,0<dot r.n (-u)):=by
 unfold qJ;rw[MY,aFT,aFT];constructor
 ·rintro⟨h1,h2⟩ hu
  exact⟨h1.resolve_left hu,h2.resolve_left λe=>hu (V3.neg_eq_zero.1 e)⟩
 ·intro h;by_cases hu:u=0
  ·exact⟨.inl hu,.inl (V3.neg_eq_zero.2 hu)⟩
  ·exact⟨.inr (h hu).1,.inr (h hu).2⟩
theorem aFU{ps:c_}:∀ n,n<=ps.length->(uf ps n=true↔∃(i j:Nat) (p q:HS K),i<n/\j<i/\ps[i]?=some p/\ps[j]?=some q/\av p.n q.n≠0)
 |0,_=>by
  constructor
  ·intro h;cases h
  ·rintro⟨i,_,_,_,h,_⟩;omega
 |n+1,hn=>by
  have hp:ps[n]?=some ps[n]:=aT o_;rw[aCU hp,tE,aFU n o_];unfold qK;rw[rZ];constructor
  ·rintro(⟨i,j,p,q,h1,h2,h3⟩|⟨q,hq,h⟩)
   ·exact⟨i,j,p,q,by omega,h2,h3⟩
   ·obtain⟨j,hj,rfl⟩:=k7 hq;rw[jr]at hj;rw[Xi]at h;exact⟨n,j,ps[n],ps[j],by omega,by omega,hp,aT o_,by simpa using h⟩
  ·rintro⟨i,j,p,q,h1,h2,h3,h4,h5⟩
   rcases fm i n with h|h
   ·exact .inl ⟨i,j,p,q,h,h2,h3,h4,h5⟩
   ·have:i=n:=by omega
    subst this;rw[hp]at h3;injection h3 with h3;subst h3;exact .inr ⟨q,cH (i:=j) (by rw[uG,ax h2];exact h4),by simpa using h5⟩
theorem aSE:PO ps ps.length=false↔∀(i j:Nat) (p q:HS K),j<i->ps[i]?=some p->ps[j]?=some q->qJ ps (av p.n q.n)=false:=by
 unfold PO;rw[JI];constructor
 ·intro h i j p q pB hp hq;have ak:=(eA.1 hp).1;have:=h i (j4.2 ak);rw[PQ hp,rZ]at this;cases hb:qJ ps (av p.n q.n)with
  |false=>rfl
  |true=>exact absurd ⟨q,cH (i:=j) (by rw[uG,ax pB];exact hq),hb⟩ this
 ·intro h i hi;have ak:=j4.1 hi;have hp:ps[i]?=some ps[i]:=aT ak;rw[PQ hp,rZ]
  rintro⟨q,hq,hb⟩
  obtain⟨j,hj,rfl⟩:=k7 hq;rw[jr]at hj;have wL:ps[j]?=some ps[j]:=aT o_;rw[Xi]at hb;rw[h i j _ _ o_ hp wL]at hb;cases hb
theorem aFV:ug ps=true↔Cl ps:=by
 unfold ug;rw[cZ,yP,aFU _ (bA _),aSE];have sw:∀ p q:HS K,av q.n p.n=-av p.n q.n:=λp q=>V3.Im _ _;constructor
 ·rintro⟨h1,i,j,p,q,hi,pB,hp,hq,hc⟩
  refine⟨⟨p,cH hp,q,cH hq,hc⟩,λp hp q hq bj=>?_⟩;obtain⟨i,hi,rfl⟩:=k7 hp;obtain⟨j,hj,rfl⟩:=k7 hq;rcases tj i j with h|h|h
  ·have:=Xy.1 (h1 j i _ _ h (aT hj) (aT hi)) (λe=>bj (by rw[sw,e];exact V3.neg_eq_zero.2 rfl));rw[sw ps[j] ps[i]];exact this.2
  ·subst h;exact absurd (V3.K0 _) bj
  ·exact(Xy.1 (h1 i j _ _ h (aT hi) (aT hj)) bj).1
 ·rintro⟨⟨p,hp,q,hq,bj⟩,aY⟩
  refine⟨λi j p q _ hp hq=>Xy.2 λhu=>?_,?_⟩
  ·have iQ:=cH hp;have BQ:=cH hq;refine⟨aY p iQ q BQ hu,?_⟩;rw[<-sw];exact aY q BQ p iQ (λe=>hu (by rw[sw q p,e];exact V3.neg_eq_zero.2 rfl))
  ·obtain⟨i,hi,rfl⟩:=k7 hp;obtain⟨j,hj,rfl⟩:=k7 hq;rcases tj i j with h|h|h
   ·exact⟨j,i,_,_,hj,h,aT hj,aT hi,λe=>bj (by rw[sw,e];exact V3.neg_eq_zero.2 rfl)⟩
   ·subst h;exact absurd (V3.K0 _) bj
   ·exact⟨i,j,_,_,hi,h,aT hi,aT hj,bj⟩
theorem aFW:∀ n:Nat,(CR.ofNat n:K)=kI (n:Int)
 |0=>rfl
 |n+1=>by
  show(CR.ofNat n:K)+1=_;rw[aFW n];refine bJ.ext (bJ.ext ?_ ?_) (bJ.ext ?_ ?_)
  ·show((n:Int):Rat)+1=(((n+1:Nat):Int):Rat)
   push_cast;rfl
  ·show(0:Rat)+0=0;exact Rat.add_zero 0
  ·show(0:Rat)+0=0;exact Rat.add_zero 0
  ·show(0:Rat)+0=0;exact Rat.add_zero 0
theorem aSF(z:Int):kI z=(Fr.mk z 0 0 0 1).val:=by have h:=Uz z;have:=o7 (kI z);rw[show bN (kI z)=⟨z,0,0,0,1⟩from h]at this;exact this.symm
theorem aSG{n:Nat}(hn:n≠0):gE 1 (n:Int)*kI (n:Int)=1:=by
 rw[aSF];unfold gE;rw[<-KF (by simpa using hn) s_];have e:dY ⟨1,0,0,0,(n:Int)⟩ ⟨(n:Int),0,0,0,1⟩=⟨(n:Int),0,0,0,(n:Int)⟩:=by unfold dY;simp
 rw[e];unfold Fr.val;dsimp only;have h1:Rat.divInt (n:Int) (n:Int)=1:=by rw[Bu,FI];exact H6 _ (by simpa using hn)
 rw[h1,Rat.zero_divInt];rfl
theorem aSH{n:Nat}(hn:n≠0):gE 1 (n:Int)=(CR.ofNat n:K)⁻¹:=by
 have h:=aSG hn;rw[<-aFW]at h;have bj:(CR.ofNat n:K)≠0:=OF.ne_of_gt (Vv o_);have h2:=OF.lS _ bj
 calc gE 1 (n:Int)=gE 1 (n:Int)*(CR.ofNat n*(CR.ofNat n:K)⁻¹):=by rw[h2,CR.mul_one]
  _=(CR.ofNat n:K)⁻¹:=by rw[<-CR.mul_assoc,h,CR.one_mul]
theorem aFX{l:e_}(h:l≠[]):B4 l=DB l:=by have hl:l.length≠0:=λe=>h (kO e);unfold B4 DB;rw[aSH hl];rfl
theorem aSI{vs:e_}:xQ ps vs=true↔vs≠[]/\BU ps (DB vs):=by
 unfold xQ;rw[cZ,yP,yP,Z3,JI];have hl:¬vs.length=0↔vs≠[]:=⟨λh e=>h (by rw[e];rfl),λh e=>h (kO e)⟩;rw[hl];constructor
 ·rintro⟨h1,h2⟩
  refine⟨h1,λp hp=>?_⟩;have:=h2 p hp;rw[zW,QS,aFX h1,OF.sub_nonneg]at this;exact OF.not_le.1 this
 ·rintro⟨h1,h2⟩
  refine⟨h1,λp hp=>?_⟩;rw[zW,QS,aFX h1,OF.sub_nonneg];exact OF.not_le.2 (h2 p hp)
theorem aSJ(h:x≠0):0<iS x:=by
 unfold iS;by_cases hs:OF.aD x<0
 ·rw[ax hs,OF.iJ,OF.pJ,aFg.1 hs];rfl
 ·rw[ao hs,OF.iJ];rcases OF.iR x with e|e|e
  ·rw[e]at hs;exact absurd d_ hs
  ·exact absurd ((OF.fp x).1 e) h
  ·exact e
theorem aFY(h:x≠0):0<mz x:=by unfold mz;rw[show kI 1*(iS x)⁻¹=(iS x)⁻¹ from CR.one_mul _];exact OF.inv_pos (aSJ h)
def Eh(p:HS K)(k:K):HS K:=⟨smul p.n k,p.d*k⟩
theorem Re(p:HS K):canon p=Eh p (mz (qH p.n)):=rfl
theorem aSK(v:V3 K)(a b:K):smul (smul v a) b=smul v (a*b):=V3.ext (CR.mul_assoc _ _ _) (CR.mul_assoc _ _ _) (CR.mul_assoc _ _ _)
theorem aSL(v:V3 K):smul v 1=v:=V3.ext (CR.mul_one _) (CR.mul_one _) (CR.mul_one _)
theorem Xz(p:HS K)(a b:K):Eh (Eh p a) b=Eh p (a*b):=HS.ext (aSK _ _ _) (CR.mul_assoc _ _ _)
theorem aSM(p:HS K):Eh p 1=p:=HS.ext (aSL _) (CR.mul_one _)
theorem aSN{v:V3 K}{k:K}(hk:k≠0):qH (smul v k)=qH v*k:=by
 have z:∀ x:K,x*k≠0↔x≠0:=λx=>⟨λh e=>h (by rw[e,CR.zero_mul]),λh=>OF.mul_ne_zero h hk⟩;unfold qH;show(if v.x*k≠0 then v.x*k else if v.y*k≠0 then v.y*k else v.z*k)=_;by_cases hx:v.x≠0
 ·rw[ax ((z _).2 hx),ax hx]
 ·rw[ao (λh=>hx ((z _).1 h)),ao hx];by_cases hy:v.y≠0
  ·rw[ax ((z _).2 hy),ax hy]
  ·rw[ao (λh=>hy ((z _).1 h)),ao hy]
theorem aSO{k:K}(hk:0<k):iS (x*k)=iS x*k:=by
 unfold iS;have e:OF.aD (x*k)=OF.aD x:=by rw[CR.mul_comm,OF.aA4 hk]
 rw[e];by_cases h:OF.aD x<0
 ·rw[ax h,ax h,CR.neg_mul]
 ·rw[ao h,ao h]
theorem aSP{k:K}(hx:x≠0)(hk:0<k):k*mz (x*k)=mz x:=by
 have e:∀ y:K,mz y=(iS y)⁻¹:=λy=>CR.one_mul _;have BJ:k≠0:=OF.ne_of_gt hk;have h0:iS x≠0:=PF hx;rw[e,e,aSO hk];have h1:=OF.lS _ h0;have h2:=OF.lS (iS x*k) (OF.mul_ne_zero h0 BJ)
 calc k*(iS x*k)⁻¹=(iS x*(iS x)⁻¹)*(k*(iS x*k)⁻¹):=by rw[h1,CR.one_mul]
  _=(iS x)⁻¹*(iS x*k*(iS x*k)⁻¹):=by rw[CR.mul_comm (iS x),CR.mul_assoc,CR.mul_assoc]
  _=(iS x)⁻¹:=by rw[h2,CR.mul_one]
theorem aSQ{p q:HS K}(hp:p.n≠0)(hq:q.n≠0):canon p=canon q↔∃ k:K,0<k/\q=Eh p k:=by
 have ap:=aFY (PG hp);have aq:=aFY (PG hq);constructor
 ·intro h;rw[Re,Re]at h;have h1:=OF.lS _ (OF.ne_of_gt aq);refine⟨mz (qH p.n)*(mz (qH q.n))⁻¹,OF.mul_pos ap (OF.inv_pos aq),?_⟩;rw[<-Xz,h,Xz,h1,aSM]
 ·rintro⟨k,hk,rfl⟩
  rw[Re,Re];have e:qH (Eh p k).n=qH p.n*k:=aSN (OF.ne_of_gt hk);rw[e,Xz,aSP (PG hp) hk]
end
section
open CR OF V3
section
variable{F:Type}[OF F]
theorem aSR(a b c:V3 F)(x y z:F):dot a (smul (av b c) x+smul (av c a) y+smul (av a b) z)=x*cE a b c:=
 ring [a,b,c] [x,y,z] (λV S=>dot (V 0) (smul (av (V 1) (V 2)) (S 0)+smul (av (V 2) (V 0)) (S 1)+smul (av (V 0) (V 1)) (S 2))) (λV S=>S 0*cE (V 0) (V 1) (V 2)) d_
theorem aSS(a b c:V3 F)(x y z:F):dot b (smul (av b c) x+smul (av c a) y+smul (av a b) z)=y*cE a b c:=
 ring [a,b,c] [x,y,z] (λV S=>dot (V 1) (smul (av (V 1) (V 2)) (S 0)+smul (av (V 2) (V 0)) (S 1)+smul (av (V 0) (V 1)) (S 2))) (λV S=>S 1*cE (V 0) (V 1) (V 2)) d_
theorem aST(a b c:V3 F)(x y z:F):dot c (smul (av b c) x+smul (av c a) y+smul (av a b) z)=z*cE a b c:=
 ring [a,b,c] [x,y,z] (λV S=>dot (V 2) (smul (av (V 1) (V 2)) (S 0)+smul (av (V 2) (V 0)) (S 1)+smul (av (V 0) (V 1)) (S 2))) (λV S=>S 2*cE (V 0) (V 1) (V 2)) d_
theorem XA(u w:V3 F):cE u u w=0:=ring [u,w] [] (λV _=>cE (V 0) (V 0) (V 1)) (λ_ _=>0) d_
theorem XB(u w:V3 F):cE u w w=0:=ring [u,w] [] (λV _=>cE (V 0) (V 1) (V 1)) (λ_ _=>0) d_
theorem XC(u w:V3 F):cE u w u=0:=ring [u,w] [] (λV _=>cE (V 0) (V 1) (V 0)) (λ_ _=>0) d_
theorem aFZ:∀(l:List (F×F)),(∀ x∈l,0<x.2)->∃ e:F,0<e/\∀ x∈l,x.1*e<=x.2
 |[],_=>⟨1,OF.zero_lt_one,λx h=>(by cases h)⟩
 |(a,b)::l,h=>by
  obtain⟨e,he,hl⟩:=aFZ l λx hx=>h x (bH _ hx);have hb:0<b:=h (a,b) (aP ..);by_cases bZ:a*e<=b
  ·refine⟨e,he,λx hx=>?_⟩;rcases ct.1 hx with rfl|hx
   ·exact bZ
   ·exact hl x hx
  ·have bZ:=OF.not_le.1 bZ;have ha:0<a:=by
    apply jI;intro Ft;have Ft:=OF.not_lt.1 Ft;have:a*e<=0:=by rw[<-CR.neg_neg (a*e),OF.KA,<-CR.neg_mul];exact OF.mul_nonneg (OF.neg_nonneg.2 Ft) (OF.le_of_lt he)
    exact OF.lt_irrefl _ (OF.lt_of_lt_of_le (OF.lt_trans hb bZ) this)
   have hi:0<b*a⁻¹:=OF.mul_pos hb (OF.inv_pos ha);have hae:a*(b*a⁻¹)=b:=by rw[CR.mul_left_comm,OF.lS _ (OF.ne_of_gt ha),CR.mul_one]
   have ak:b*a⁻¹<e:=by rw[<-OF.mul_lt_mul_left ha,hae];exact bZ
   refine⟨b*a⁻¹,hi,λx hx=>?_⟩;rcases ct.1 hx with rfl|hx
   ·exact OF.le_of_eq hae
   ·by_cases kZ:0<x.1
    ·exact OF.le_trans ((OF.mul_le_mul_left kZ).2 (OF.le_of_lt ak)) (hl x hx)
    ·have kZ:=OF.not_lt.1 kZ;have:x.1*(b*a⁻¹)<=0:=by rw[<-CR.neg_neg (x.1*(b*a⁻¹)),OF.KA,<-CR.neg_mul];exact OF.mul_nonneg (OF.neg_nonneg.2 kZ) (OF.le_of_lt hi)
     exact OF.le_trans this (OF.le_of_lt (h x (bH _ hx)))
structure tv(ps S:List (HS F)):Prop where
 sub:∀ p∈S,p∈ps
 same:∀ v,iq S v↔iq ps v
 least:∀ T:List (HS F),(∀ p∈T,p∈ps)->(∀ v,iq T v↔iq ps v)->S.length<=T.length
theorem aSU(ps:List (HS F)):∃ S,tv ps S:=by
 have key:∀ n,∀ S:List (HS F),S.length=n->(∀ p∈S,p∈ps)->(∀ v,iq S v↔iq ps v)->∃ S,tv ps S:=by
  intro n;induction n using Nat.strongRecOn with
  |ind n ih=>
   intro S hl h1 h2;by_cases h:∃ T:List (HS F),(∀ p∈T,p∈ps)/\(∀ v,iq T v↔iq ps v)/\T.length<n
   ·obtain⟨T,t1,t2,t3⟩:=h;exact ih _ t3 T rfl t1 t2
   ·refine⟨S,h1,h2,λT t1 t2=>?_⟩;rcases fm T.length S.length with ak|fR
    ·exact(h ⟨T,t1,t2,by omega⟩).elim
    ·exact fR
 exact key _ ps rfl (λ_ h=>h) (λ_=>Iff.rfl)
theorem tv.alone{ps A B:List (HS F)}{p:HS F}(h:tv ps (A++p::B)):∃ y,iq (A++B) y/\p.d<dot p.n y:=by
 apply jI;intro fT;have hT:∀ v,iq (A++B) v↔iq ps v:=by
  intro v;rw[<-h.same v];constructor
  ·intro hv q hq;rcases fo.1 hq with hq|hq
   ·exact hv q (tY _ hq)
   ·rcases ct.1 hq with rfl|hq
    ·exact OF.not_lt.1 λak=>fT ⟨v,hv,ak⟩
    ·exact hv q (vS _ hq)
  ·intro hv q hq;refine hv q ?_;rcases fo.1 hq with hq|hq
   ·exact tY _ hq
   ·exact vS _ (bH _ hq)
 have:=h.least (A++B) (λq hq=>h.sub q (by
  rcases fo.1 hq with hq|hq
  ·exact tY _ hq
  ·exact vS _ (bH _ hq))) hT
 simp at this;omega
theorem tv.K8{ps A B:List (HS F)}{p:HS F}(h:tv ps (A++p::B)){x:V3 F}(hx:BU ps x):∃ z,ep p z/\∀ q∈A++B,dot q.n z<q.d:=by
 obtain⟨y,hy,hpy⟩:=h.alone;have hpx:dot p.n x<p.d:=hx p (h.sub p (vS _ (aP ..)));have xN:0<dot p.n y-dot p.n x:=OF.sub_pos.2 (OF.lt_trans hpx hpy);have hda:0<p.d-dot p.n x:=OF.sub_pos.2 hpx;obtain⟨t,ht⟩:∃ t,t=(p.d-dot p.n x)*(dot p.n y-dot p.n x)⁻¹:=⟨_,rfl⟩;have vY:0<t:=ht▸OF.mul_pos hda (OF.inv_pos xN);have NH:(dot p.n y-dot p.n x)*t=p.d-dot p.n x:=by rw[ht,CR.mul_left_comm,OF.lS _ (OF.ne_of_gt xN),CR.mul_one]
 have iP:t<1:=by rw[<-OF.mul_lt_mul_left xN,NH,CR.mul_one];rw[<-OF.sub_pos,show dot p.n y-dot p.n x-(p.d-dot p.n x)=dot p.n y-p.d from lq (dot p.n x) (dot p.n y) p.d (λa b d=>b-a-(d-a)) (λa b d=>b-d) d_];exact OF.sub_pos.2 hpy
 refine⟨x+smul (y-x) t,?_,λq hq=>?_⟩
 ·unfold ep;rw[lv,jk,lA,NH];exact kE (dot p.n x) p.d (λa d=>a+(d-a)) (λa d=>d) d_
 ·rw[lv,jk,lA];have q1:dot q.n x<q.d:=hx q (h.sub q (by
   rcases fo.1 hq with hq|hq
   ·exact tY _ hq
   ·exact vS _ (bH _ hq)))
  have q2:=hy q hq;have e:q.d-(dot q.n x+(dot q.n y-dot q.n x)*t)=(1-t)*(q.d-dot q.n x)+t*(q.d-dot q.n y):=FC (dot q.n x) (dot q.n y) q.d t (λa b d t=>d-(a+(b-a)*t)) (λa b d t=>(1-t)*(d-a)+t*(d-b)) d_;rw[<-OF.sub_pos,e];exact OF.HX (OF.mul_pos (OF.sub_pos.2 iP) (OF.sub_pos.2 q1)) (OF.mul_nonneg (OF.le_of_lt vY) (OF.sub_nonneg.2 q2))
theorem mo.back{ps:List (HS F)}{p:HS F}(hp:p∈ps){v:V3 F}(h:mo (⟨-p.n,-p.d⟩::ps) v):mo ps v/\ep p v:=by
 obtain⟨cv,a,ha,b,hb,c,hc,hd,ta,tb,tc⟩:=h;have tp:ep p v:=by
  have h1:=cv _ (aP ..);dsimp only at h1;rw[BN]at h1;have h1:p.d<=dot p.n v:=by rw[<-OF.sub_nonneg]at h1 ⊢;rwa[show -p.d - -dot p.n v=dot p.n v-p.d from kE (dot p.n v) p.d (λa d=>-d - -a) (λa d=>a-d) d_]at h1
  exact OF.le_antisymm (cv p (bH _ hp)) h1
 have aSV:iq ps v:=λq hq=>cv q (bH _ hq)
 -- a qG of the list with the same normal,vJ for Vk sign
 have bN:∀ q∈(⟨-p.n,-p.d⟩::ps:List (HS F)),ep q v->∃ q'∈ps,ep q' v/\(q'.n=q.n\/q.n=-q'.n):=by
  intro q hq tq;rcases ct.1 hq with rfl|hq
  ·exact⟨p,hp,tp,.inr rfl⟩
  ·exact⟨q,hq,tq,.inl rfl⟩
 obtain⟨a',iO,ta',ea⟩:=bN a ha ta;obtain⟨b',kR,tb',eb⟩:=bN b hb tb;obtain⟨c',kA,tc',ec⟩:=bN c hc tc;refine⟨⟨aSV,a',iO,b',kR,c',kA,λe=>hd ?_,ta',tb',tc'⟩,tp⟩;have n1:∀ u v w:V3 F,cE (-u) v w=-cE u v w:=λu v w=>ring [u,v,w] [] (λV _=>cE (-V 0) (V 1) (V 2)) (λV _=>-cE (V 0) (V 1) (V 2)) d_;have n2:∀ u v w:V3 F,cE u (-v) w=-cE u v w:=λu v w=>ring [u,v,w] [] (λV _=>cE (V 0) (-V 1) (V 2)) (λV _=>-cE (V 0) (V 1) (V 2)) d_;have n3:∀ u v w:V3 F,cE u v (-w)=-cE u v w:=λu v w=>ring [u,v,w] [] (λV _=>cE (V 0) (V 1) (-V 2)) (λV _=>-cE (V 0) (V 1) (V 2)) d_;rcases ea with ea|ea<;>rcases eb with eb|eb<;>rcases ec with ec|ec<;>
  (first|rw[<-ea]|rw[ea,n1])<;>(first|rw[<-eb]|rw[eb,n2])<;>(first|rw[<-ec]|rw[ec,n3])<;>rw[e]<;>(try simp only[CR.neg_zero])
theorem tv.GL{ps A B:List (HS F)}{p:HS F}(hc:Cl ps)(hp:jl ps)(h:tv ps (A++p::B)){x m:V3 F}(hx:BU ps x)(hm:av p.n m≠0):
  ∃ v w,mo ps v/\ep p v/\mo ps w/\ep p w/\dot m w<dot m v:=by
 obtain⟨z,hz,hq⟩:=h.K8 hx;have iU:p∈ps:=h.sub p (vS _ (aP ..));obtain⟨e,he⟩:∃ e,e=av (av p.n m) p.n:=⟨_,rfl⟩;have pe:dot p.n e=0:=by rw[he];exact Dy _ _
 have me:0<dot m e:=by
  have:dot m e=dot (av p.n m) (av p.n m):=by rw[he];exact ring [p.n,m] [] (λV _=>dot (V 1) (av (av (V 0) (V 1)) (V 0))) (λV _=>dot (av (V 0) (V 1)) (av (V 0) (V 1))) d_
  rw[this];exact U6 hm
 obtain⟨t,ht,qN⟩:=aFZ ((A++B).map (λq=>(dot q.n e,q.d-dot q.n z))++(A++B).map (λq=>(-dot q.n e,q.d-dot q.n z))) λy hy=>by
  rcases fo.1 hy with hy|hy
  ·obtain⟨q,lB,rfl⟩:=dj.1 hy;exact OF.sub_pos.2 (hq q lB)
  ·obtain⟨q,lB,rfl⟩:=dj.1 hy;exact OF.sub_pos.2 (hq q lB)
 have aF0:∀ s:F,(∀ q∈A++B,dot q.n e*s<=q.d-dot q.n z)->iq (⟨-p.n,-p.d⟩::ps) (z+smul e s):=by
  intro s hs;have hS:iq (A++p::B) (z+smul e s):=by
   intro q lB;rw[lv,jk];have other:q∈A++B->dot q.n z+dot q.n e*s<=q.d:=λlB=>by have:=hs q lB;rw[<-OF.sub_nonneg]at this ⊢;rwa[show q.d-dot q.n z-dot q.n e*s=q.d-(dot q.n z+dot q.n e*s)from lq q.d (dot q.n z) (dot q.n e*s) (λa b c=>a-b-c) (λa b c=>a-(b+c)) d_]at this
   rcases fo.1 lB with lB|lB
   ·exact other (tY _ lB)
   ·rcases ct.1 lB with rfl|lB
    ·rw[pe,CR.zero_mul,CR.add_zero];exact OF.le_of_eq hz
    ·exact other (vS _ lB)
  have cv:=(h.same _).1 hS;intro q lB;rcases ct.1 lB with rfl|lB
  ·dsimp only;rw[BN,lv,jk,pe,CR.zero_mul,CR.add_zero,show dot p.n z=p.d from hz];exact OF.le_refl _
  ·exact cv q lB
 have kA:Cl (⟨-p.n,-p.d⟩::ps):=Cl.more hc hp λq hq=>bH _ hq;have iQ:jl (⟨-p.n,-p.d⟩::ps):=λq hq=>by
  rcases ct.1 hq with rfl|hq
  ·exact λe=>hp p iU (V3.neg_eq_zero.1 e)
  ·exact hp q hq
 have i1:=aF0 t λq lB=>qN _ (tY _ (dj.2 ⟨q,lB,rfl⟩));have i2:=aF0 (-t) λq lB=>by have:=qN _ (vS _ (dj.2 ⟨q,lB,rfl⟩));dsimp only at this;rwa[CR.neg_mul,<-CR.mul_neg]at this
 obtain⟨v,hv,hmv⟩:=top kA iQ (m:=m) i1;obtain⟨w,hw,vm⟩:=top kA iQ (m:=-m) i2;obtain⟨v1,v2⟩:=hv.back iU;obtain⟨w1,w2⟩:=hw.back iU;refine⟨v,w,v1,v2,w1,w2,?_⟩;rw[BN,BN]at vm;have vm:dot m w<=dot m (z+smul e (-t)):=by rw[<-OF.sub_nonneg]at vm ⊢;rwa[show -dot m w - -dot m (z+smul e (-t))=dot m (z+smul e (-t))-dot m w from kE (dot m w) (dot m (z+smul e (-t))) (λa b=>-a - -b) (λa b=>b-a) d_]at vm
 refine OF.lt_of_le_of_lt vm (OF.lt_of_lt_of_le ?_ hmv);rw[lv,jk,lv,jk,<-OF.sub_pos,show dot m z+dot m e*t-(dot m z+dot m e*-t)=dot m e*t+dot m e*t from lq (dot m z) (dot m e) t (λa b t=>a+b*t-(a+b*-t)) (λa b t=>b*t+b*t) d_];have:=OF.mul_pos me ht;exact OF.add_pos this this
theorem aSW{a b:V3 F}(ha:a≠0):∃ u:V3 F,u≠0/\dot a u=0/\dot b u=0:=by
 by_cases h:av a b=0
 ·obtain⟨u,hu,Pz⟩:=K1 ha;exact⟨u,hu,Pz,Ph ha h Pz⟩
 ·exact⟨_,h,FZ _ _,Dy _ _⟩
theorem XD{a b c:V3 F}(ha:a≠0):∃ u:V3 F,u≠0/\dot a u<=0/\dot b u<=0/\dot c u<=0:=by
 obtain⟨u,hu,h1,h2⟩:=aSW (b:=b) ha;rcases OF.le_total (dot c u) 0 with h|h
 ·exact⟨u,hu,OF.le_of_eq h1,OF.le_of_eq h2,h⟩
 ·refine⟨-u,λe=>hu (V3.neg_eq_zero.1 e),?_,?_,?_⟩
  ·rw[tZ,h1,CR.neg_zero];exact OF.le_refl _
  ·rw[tZ,h2,CR.neg_zero];exact OF.le_refl _
  ·rw[tZ];exact OF.KA.2 h
theorem tv.four{ps S:List (HS F)}(hc:Cl ps)(hp:jl ps)(h:tv ps S){x:V3 F}(hx:BU ps x):4<=S.length:=by
 apply jI;intro ak;have hu:∃ u:V3 F,u≠0/\∀ p∈S,dot p.n u<=0:=by
  match S,ak,h with
  |[],_,_=>
   obtain⟨⟨p,iU,_⟩,_⟩:=hc;exact⟨p.n,hp p iU,λq hq=>(by cases hq)⟩
  |[a],_,h=>
   obtain⟨u,hu,h1,_,_⟩:=XD (a:=a.n) (b:=a.n) (c:=a.n) (hp a (h.sub a s_));exact⟨u,hu,λq hq=>by simp at hq;subst hq;exact h1⟩
  |[a,b],_,h=>
   obtain⟨u,hu,h1,h2,_⟩:=XD (a:=a.n) (b:=b.n) (c:=a.n) (hp a (h.sub a s_));exact⟨u,hu,λq hq=>by simp at hq;rcases hq with rfl|rfl<;>assumption⟩
  |[a,b,c],_,h=>
   obtain⟨u,hu,h1,h2,h3⟩:=XD (a:=a.n) (b:=b.n) (c:=c.n) (hp a (h.sub a s_));exact⟨u,hu,λq hq=>by simp at hq;rcases hq with rfl|rfl|rfl<;>assumption⟩
  |_::_::_::_::_,ak,_=>simp at ak
 obtain⟨u,hu,aY⟩:=hu;obtain⟨r,hr,XE⟩:=hc.bounds hp hu;have hrx:=hx r hr;obtain⟨t,ht⟩:∃ t,t=(r.d-dot r.n x)*(dot r.n u)⁻¹+1:=⟨_,rfl⟩;have vY:0<t:=ht▸OF.add_pos (OF.mul_pos (OF.sub_pos.2 hrx) (OF.inv_pos XE)) OF.zero_lt_one;have cv:iq ps (x+smul u t):=by
  rw[<-h.same];intro q hq;rw[lv,jk];have h1:=aY q hq;have h2:dot q.n u*t<=0:=by rw[<-CR.neg_neg (dot q.n u*t),OF.KA,<-CR.neg_mul];exact OF.mul_nonneg (OF.neg_nonneg.2 h1) (OF.le_of_lt vY)
  have h3:=OF.add_le_add (OF.le_of_lt (hx q (h.sub q hq))) h2;rwa[CR.add_zero]at h3
 have h1:=cv r hr;rw[lv,jk,ht,CR.mul_add,CR.mul_left_comm,OF.lS _ (OF.ne_of_gt XE),CR.mul_one,CR.mul_one]at h1;rw[<-OF.sub_nonneg,show r.d-(dot r.n x+(r.d-dot r.n x+dot r.n u))=-dot r.n u from lq r.d (dot r.n x) (dot r.n u) (λd a b=>d-(a+(d-a+b))) (λd a b=>-b) d_,OF.neg_nonneg]at h1;exact OF.lt_irrefl _ (OF.lt_of_lt_of_le XE h1)
end
end
section
open CR OF
open V3 (dot av cE smul)
theorem aF1:¬OF.aD x<=0↔0<x:=by rw[OF.iJ];rcases OF.iR x with h|h|h<;>rw[h]<;>decide
theorem aF2:OF.aD x<=0↔x<=0:=by rw[OF.T4];rcases OF.iR x with h|h|h<;>rw[h]<;>decide
theorem aF3{d:V3 K}:yn ps d=false↔∃ r∈ps,0<dot r.n d:=by
 unfold yn;rw[Jd];constructor
 ·rintro⟨r,hr,h⟩
  exact⟨r,hr,aF1.1 (by simpa using h)⟩
 ·rintro⟨r,hr,h⟩
  exact⟨r,hr,by simpa using aF1.2 h⟩
theorem XF{ps:c_}{f:Bool}{i:Nat}:∀ n,ph ps f i n=true↔f=true/\∀ j,j<n->nw ps i j=0\/Cm ps (nw ps i j)=true
 |0=>⟨λh=>⟨h,λj hj=>by omega⟩,λh=>h.1⟩
 |n+1=>by
  unfold ph;by_cases h:nw ps i n=0
  ·rw[ax h,XF n];refine⟨λ⟨h1,h2⟩=>⟨h1,λj hj=>?_⟩,λ⟨h1,h2⟩=>⟨h1,λj hj=>h2 j o_⟩⟩;rcases fm j n with hl|hl
   ·exact h2 j hl
   ·have:j=n:=by omega
    subst this;exact .inl h
  ·rw[ao h,cZ,XF n];refine⟨λ⟨⟨h1,h2⟩,h3⟩=>⟨h1,λj hj=>?_⟩,λ⟨h1,h2⟩=>⟨⟨h1,λj hj=>h2 j o_⟩,(h2 n o_).resolve_left h⟩⟩;rcases fm j n with hl|hl
   ·exact h2 j hl
   ·have:j=n:=by omega
    subst this;exact .inr h3
theorem XG{ps:c_}:∀ n,mG ps n=true↔∀ i j,i<n->j<i->nw ps i j=0\/Cm ps (nw ps i j)=true
 |0=>⟨λ_ i j hi=>by omega,λ_=>rfl⟩
 |n+1=>by
  unfold mG;rw[XF,XG n];refine⟨λ⟨h1,h2⟩ i j hi hj=>?_,λh=>⟨λi j hi hj=>h i j o_ hj,λj hj=>h n j o_ hj⟩⟩;rcases fm i n with hl|hl
  ·exact h1 i j hl hj
  ·have:i=n:=by omega
   subst this;exact h2 j hj
theorem Rf:wC ps=true↔Cl ps:=by
 unfold wC Ef;rw[cZ,bd];have sw:∀ p q:HS K,av q.n p.n=-av p.n q.n:=λp q=>V3.Im _ _;have bad:∀{i j:Nat},Av ps i j=false↔(nw ps i j≠0->(∃ r∈ps,0<dot r.n (nw ps i j))/\∃ r∈ps,0<dot r.n (-nw ps i j)):=by
  intro i j;unfold Av;rw[Bool.and_eq_false_iff,MY,aF3,aF3,Z3];constructor
  ·rintro(h|h) h0
   ·exact absurd h0 h
   ·exact h
  ·intro h;by_cases h0:nw ps i j≠0
   ·exact .inr (h h0)
   ·exact .inl h0
 have AA:∀{p q:HS K} {i j:Nat},ps[i]?=some p->ps[j]?=some q->nw ps i j=av p.n q.n:=λhp hq=>by unfold nw;rw[I7 hp,I7 hq]
 constructor
 ·rintro⟨h1,h2⟩
  have hb:∀ i j,i<ps.length->j<i->Av ps i j=false:=λi j hi hj=>by have:=h1 i (j4.2 hi);rw[bd]at this;simpa using this j (j4.2 hj)
  have qa:¬mG ps ps.length=true:=by simpa using h2
  rw[XG]at qa;refine⟨?_,λp hp q hq bj=>?_⟩
  ·apply jI;intro fT;refine qa λi j hi hj=>.inl ?_;rw[AA (aT hi) (aT (lO hj hi))];exact jI λh=>fT ⟨_,cY _,_,cY _,h⟩
  ·obtain⟨i,hi,rfl⟩:=k7 hp;obtain⟨j,hj,rfl⟩:=k7 hq;rcases tj i j with h|h|h
   ·have:=bad.1 (hb j i hj h);rw[AA (aT hj) (aT hi)]at this;rw[sw ps[j] ps[i]];exact(this λe=>bj (by rw[sw,e];exact V3.neg_eq_zero.2 rfl)).2
   ·subst h;exact absurd (V3.K0 _) bj
   ·have:=bad.1 (hb i j hi h);rw[AA (aT hi) (aT hj)]at this;exact(this bj).1
 ·rintro⟨⟨p,hp,q,hq,bj⟩,aY⟩
  refine⟨λi hi=>?_,?_⟩
  ·have hi:=j4.1 hi;rw[bd];intro j hj;have hj:=j4.1 hj;have hp:=aT hi;have hq:=aT (lO hj hi);have:Av ps i j=false:=bad.2 λh0=>by rw[AA hp hq]at h0 ⊢;refine⟨aY _ (cH hp) _ (cH hq) h0,?_⟩;rw[<-sw];exact aY _ (cH hq) _ (cH hp) λe=>h0 (by rw[sw,e];exact V3.neg_eq_zero.2 rfl)
   rw[this];rfl
  ·obtain⟨i,hi,rfl⟩:=k7 hp;obtain⟨j,hj,rfl⟩:=k7 hq;have key:∀ i j (hi:i<ps.length) (hj:j<ps.length),j<i->av ps[i].n ps[j].n≠0->(!mG ps ps.length)=true:=by
    intro i j hi hj pB bj;have:mG ps ps.length≠true:=λhf=>by
     rcases(XG _).1 hf i j hi pB with h|h
     ·rw[AA (aT hi) (aT hj)]at h;exact bj h
     ·rw[AA (aT hi) (aT hj)]at h;obtain⟨r,hr,oj⟩:=aY _ (cY hi) _ (cY hj) bj;unfold Cm at h;rw[bd]at h;have:=jz (h r hr);rw[this]at oj;exact OF.lt_irrefl _ oj
    simpa using this
   rcases tj i j with h|h|h
   ·exact key j i hj hi h λe=>bj (by rw[sw,e];exact V3.neg_eq_zero.2 rfl)
   ·subst h;exact absurd (V3.K0 _) bj
   ·exact key i j hi hj h bj
theorem XH(v:V3 K):∀ l:e_,aWT l v=mw v l
 |[]=>rfl
 |a::l=>by
  unfold aWT mw;rw[XH v l];have:(0<eB a v)↔eB a v=1:=by rcases Iq a v with h|h|h<;>rw[h]<;>decide
  by_cases h0:eB a v=0
  ·rw[ax h0,ax h0]
  ·rw[ao h0,ao h0];by_cases h1:eB a v=1
   ·rw[ax h1,ax (this.2 h1)]
   ·rw[ao h1,ao (λh=>h1 (this.1 h))]
theorem aF4{p q r:HS K}(h:cE p.n q.n r.n≠0):ep p (lf p q r)/\ep q (lf p q r)/\ep r (lf p q r):=by unfold ep lf IY;rw[V3.jk,V3.jk,V3.jk,aP6,CR.one_mul];have e1:=aSR p.n q.n r.n p.d q.d r.d;have e2:=aSS p.n q.n r.n p.d q.d r.d;have e3:=aST p.n q.n r.n p.d q.d r.d;rw[e1,e2,e3,CR.mul_assoc,CR.mul_assoc,CR.mul_assoc,OF.lS _ h,CR.mul_one,CR.mul_one,CR.mul_one];exact⟨rfl,rfl,rfl⟩
theorem aSX{p q r:HS K}(h:cE p.n q.n r.n≠0){x:V3 K}(hp:ep p x)(hq:ep q x)(hr:ep r x):x=lf p q r:=by
 obtain⟨h1,h2,h3⟩:=aF4 h;refine V3.sub_eq_zero.1 (V3.Io h ?_ ?_ ?_)
 ·rw[V3.lA,show dot p.n x=p.d from hp,show dot p.n (lf p q r)=p.d from h1,OF.sub_self]
 ·rw[V3.lA,show dot q.n x=q.d from hq,show dot q.n (lf p q r)=q.d from h2,OF.sub_self]
 ·rw[V3.lA,show dot r.n x=r.d from hr,show dot r.n (lf p q r)=r.d from h3,OF.sub_self]
def Ei(ps:c_)(i j k:Nat):Prop:=cE (eK ps i).n (eK ps j).n (eK ps k).n≠0/\Aw ps i j k (lf (eK ps i) (eK ps j) (eK ps k))=true
theorem aSY{x:V3 K}:x∈uy ps acc i j k↔x∈acc\/(Ei ps i j k/\x=lf (eK ps i) (eK ps j) (eK ps k)):=by
 unfold uy Ei;by_cases h:cE (eK ps i).n (eK ps j).n (eK ps k).n=0
 ·rw[ax h];exact⟨.inl,λe=>e.elim id λe=>absurd h e.1.1⟩
 ·rw[ao h];by_cases h2:Aw ps i j k (lf (eK ps i) (eK ps j) (eK ps k))=true
  ·rw[ax h2,XH,PB];exact⟨λe=>e.elim (λe=>.inr ⟨⟨h,h2⟩,e⟩) .inl,λe=>e.elim .inr λe=>.inl e.2⟩
  ·rw[ao h2];exact⟨.inl,λe=>e.elim id λe=>absurd e.1.2 h2⟩
theorem aSZ(h:acc.Pairwise jX):(uy ps acc i j k).Pairwise jX:=by
 unfold uy;split
 ·exact h
 ·split
  ·rw[XH];exact Vw h
  ·exact h
theorem aF5{ps:c_}{acc:e_}{i j:Nat}{x:V3 K}:∀ n,x∈pj ps acc i j n↔x∈acc\/∃ k,k<n/\Ei ps i j k/\x=lf (eK ps i) (eK ps j) (eK ps k)
 |0=>⟨.inl,λe=>e.elim id λ⟨k,h,_⟩=>by omega⟩
 |n+1=>by
  unfold pj;rw[aSY,aF5 n];constructor
  ·rintro((h|⟨k,h1,h2⟩)|h)
   ·exact .inl h
   ·exact .inr ⟨k,by omega,h2⟩
   ·exact .inr ⟨n,by omega,h⟩
  ·rintro(h|⟨k,h1,h2⟩)
   ·exact .inl (.inl h)
   ·rcases fm k n with hl|hl
    ·exact .inl (.inr ⟨k,hl,h2⟩)
    ·have:k=n:=by omega
     subst this;exact .inr h2
theorem aF6{ps:c_}{acc:e_}{i:Nat}{x:V3 K}:∀ n,x∈nU ps acc i n↔x∈acc\/∃ j k,j<n/\k<j/\Ei ps i j k/\x=lf (eK ps i) (eK ps j) (eK ps k)
 |0=>⟨.inl,λe=>e.elim id λ⟨k,_,h,_⟩=>by omega⟩
 |n+1=>by
  unfold nU;rw[aF5,aF6 n];constructor
  ·rintro((h|⟨j,k,h1,h2⟩)|⟨k,h⟩)
   ·exact .inl h
   ·exact .inr ⟨j,k,by omega,h2⟩
   ·exact .inr ⟨n,k,by omega,h⟩
  ·rintro(h|⟨j,k,h1,h2⟩)
   ·exact .inl (.inl h)
   ·rcases fm j n with hl|hl
    ·exact .inl (.inr ⟨j,k,hl,h2⟩)
    ·have:j=n:=by omega
     subst this;exact .inr ⟨k,h2⟩
theorem aF7{ps:c_}{x:V3 K}:∀ n,x∈rS ps n↔∃ i j k,i<n/\j<i/\k<j/\Ei ps i j k/\x=lf (eK ps i) (eK ps j) (eK ps k)
 |0=>⟨λh=>(by cases h),λ⟨i,_,_,h,_⟩=>by omega⟩
 |n+1=>by
  unfold rS;rw[aF6,aF7 n];constructor
  ·rintro(⟨i,j,k,h1,h2⟩|⟨j,k,h⟩)
   ·exact⟨i,j,k,by omega,h2⟩
   ·exact⟨n,j,k,by omega,h⟩
  ·rintro⟨i,j,k,h1,h2⟩
   rcases fm i n with hl|hl
   ·exact .inl ⟨i,j,k,hl,h2⟩
   ·have:i=n:=by omega
    subst this;exact .inr ⟨j,k,h2⟩
theorem aF8{ps:c_}{acc:e_}{i j:Nat}(h:acc.Pairwise jX):∀ n,(pj ps acc i j n).Pairwise jX
 |0=>h
 |n+1=>aSZ (aF8 h n)
theorem aF9{ps:c_}{acc:e_}{i:Nat}(h:acc.Pairwise jX):∀ n,(nU ps acc i n).Pairwise jX
 |0=>h
 |n+1=>aF8 (aF9 h n) _
theorem aGa{ps:c_}:∀ n,(rS ps n).Pairwise jX
 |0=>aCI
 |n+1=>aF9 (aGa n) _
theorem aS0(hi:i<ps.length)(hj:j<ps.length)(hk:k<ps.length)(h:Ei ps i j k):mo ps (lf (eK ps i) (eK ps j) (eK ps k)):=by
 obtain⟨hd,hb⟩:=h;obtain⟨t1,t2,t3⟩:=aF4 hd;have gy:=aT hi;have fK:=aT hj;have ij:=aT hk;have mi:eK ps i∈ps:=by rw[pV gy];exact cY hi
 have mj:eK ps j∈ps:=by rw[pV fK];exact cY hj
 have mk:eK ps k∈ps:=by rw[pV ij];exact cY hk
 refine⟨λp hp=>?_,_,mi,_,mj,_,mk,hd,t1,t2,t3⟩;obtain⟨l,hl,rfl⟩:=k7 hp;unfold Aw at hb;rw[bd]at hb;have:=hb l (j4.2 hl);unfold I8 at this;rw[pV (aT hl)]at this;simp only[tE,r6]at this;rcases this with rfl|rfl|rfl|h
 ·rw[pV gy]at t1 ⊢;exact OF.le_of_eq t1
 ·rw[pV fK]at t2 ⊢;exact OF.le_of_eq t2
 ·rw[pV ij]at t3 ⊢;exact OF.le_of_eq t3
 ·have:=aF2.1 h;rw[<-OF.sub_nonneg];rw[<-OF.neg_nonneg,OF.neg_sub]at this;exact this
theorem Je{p q r:HS K}{x:V3 K}(hp:ps[i]?=some p)(hq:ps[j]?=some q)(hr:ps[k]?=some r)(hd:cE p.n q.n r.n≠0)(hx:iq ps x)(t1:ep p x)(t2:ep q x)(t3:ep r x):
  Ei ps i j k/\x=lf (eK ps i) (eK ps j) (eK ps k):=by
 unfold Ei;rw[pV hp,pV hq,pV hr];have e:=aSX hd t1 t2 t3;refine⟨⟨hd,?_⟩,e⟩;rw[<-e];unfold Aw;rw[bd];intro l hl;have hl:=j4.1 hl;rw[pV (aT hl)];unfold I8;simp only[tE,r6];refine .inr (.inr (.inr (aF2.2 ?_)));have:=hx _ (cY hl);rw[<-OF.neg_nonneg,OF.neg_sub];exact OF.sub_nonneg.2 this
theorem Rg{x:V3 K}:x∈fv ps↔mo ps x:=by
 unfold fv;rw[aF7];constructor
 ·rintro⟨i,j,k,h1,h2,h3,h4,rfl⟩
  exact aS0 h1 o_ o_ h4
 ·rintro⟨cv,p,hp,q,hq,r,hr,hd,t1,t2,t3⟩
  obtain⟨a,ha,rfl⟩:=k7 hp;obtain⟨b,hb,rfl⟩:=k7 hq;obtain⟨c,hc,rfl⟩:=k7 hr;have iO:=aT ha;have kR:=aT hb;have kA:=aT hc;have same:∀ u w:V3 K,cE u u w=0:=XA;have XI:∀ u w:V3 K,cE u w w=0:=XB;have XJ:∀ u w:V3 K,cE u w u=0:=XC;have ab:a≠b:=λe=>by subst e;exact hd (same _ _)
  have bc:b≠c:=λe=>by subst e;exact hd (XI _ _)
  have ac:a≠c:=λe=>by subst e;exact hd (XJ _ _)
  have s1:∀{u v w:V3 K},cE u v w≠0->cE u w v≠0:=λ{u v w} h e=>h (by rw[V3.aB3,e,CR.neg_zero]);have r1:∀{u v w:V3 K},cE u v w≠0->cE v w u≠0:=λ{u v w} h e=>h (by rw[V3.Pf];exact e);rcases tj a b with h1|h1|h1
  ·rcases tj b c with h2|h2|h2
   ·exact⟨c,b,a,hc,h2,h1,Je kA kR iO (r1 (s1 (r1 (r1 (r1 hd))))) cv t3 t2 t1⟩
   ·exact absurd h2 bc
   ·rcases tj a c with h3|h3|h3
    ·exact⟨b,c,a,hb,h2,h3,Je kR kA iO (r1 hd) cv t2 t3 t1⟩
    ·exact absurd h3 ac
    ·exact⟨b,a,c,hb,h1,h3,Je kR iO kA (s1 (r1 hd)) cv t2 t1 t3⟩
  ·exact absurd h1 ab
  ·rcases tj a c with h2|h2|h2
   ·exact⟨c,a,b,hc,h2,h1,Je kA iO kR (r1 (r1 hd)) cv t3 t1 t2⟩
   ·exact absurd h2 ac
   ·rcases tj b c with h3|h3|h3
    ·exact⟨a,c,b,ha,h2,h3,Je iO kA kR (s1 hd) cv t1 t3 t2⟩
    ·exact absurd h3 bc
    ·exact⟨a,b,c,ha,h1,h3,Je iO kR kA hd cv t1 t2 t3⟩
theorem aS1(ps:c_):(fv ps).Pairwise jX:=aGa _
theorem yu(hc:Cl ps)(hp:jl ps)(hf:pc ps):bf ps=fv ps:=by unfold bf;refine Vx (Vz _) (aS1 ps) λx=>?_;rw[Vy,Rg,aRs hc hp (aMe hc hp hf)]
theorem aGb(hc:Cl ps)(hp:jl ps)(hf:pc ps){x:V3 K}:x∈bf ps↔mo ps x:=by rw[yu hc hp hf,Rg]
theorem Rh{vs:e_}:vu vs=false↔Py vs:=by
 unfold vu;rw[Jd];constructor
 ·rintro⟨i,hi,h⟩
  have hi:=j4.1 hi;unfold Eg at h;rw[PN,Jd]at h;obtain⟨k,hk,h⟩:=h;have hk:=j4.1 hk;unfold GI at h;rw[PN,Jd]at h;obtain⟨j,hj,h⟩:=h;have hj:=j4.1 hj;unfold Mm at h;cases vs with
  |nil=>simp at hi
  |cons o rest=>
   simp only[oL,NZ]at hi;have get:∀{n:Nat} (hn:n<rest.length),aJ (o::rest) (n+1)=rest[n]:=λhn=>by unfold aJ;simp[aT hn]
   rw[get hi,get o_,get o_,show aJ (o::rest) 0=o from rfl]at h;refine⟨o,rest,rfl,rest[j],cY _,rest[i],cY _,rest[k],cY _,λe=>?_⟩;refine h (aE ((OF.fp _).2 ?_));rw[V3.zL];exact e
 ·rintro⟨o,rest,rfl,a,ha,b,hb,c,hc,hd⟩
  obtain⟨a,la,rfl⟩:=k7 ha;obtain⟨b,lb,rfl⟩:=k7 hb;obtain⟨c,lc,rfl⟩:=k7 hc;have get:∀{n:Nat} (hn:n<rest.length),aJ (o::rest) (n+1)=rest[n]:=λhn=>by unfold aJ;simp[aT hn]
  have fin:∀(i k j:Nat) (hi:i<rest.length) (hk:k<rest.length) (hj:j<rest.length),k<i->j<k->cE (rest[j]-o) (rest[i]-o) (rest[k]-o)≠0->∃ x∈List.range ((o::rest).length-1),¬Eg (o::rest) x=true:=by intro i k j hi hk hj hki bX hd;refine⟨i,j4.2 (by simpa using hi),?_⟩;unfold Eg;rw[PN,Jd];refine⟨k,j4.2 hki,?_⟩;unfold GI;rw[PN,Jd];refine⟨j,j4.2 bX,?_⟩;unfold Mm;rw[get hi,get hk,get hj,show aJ (o::rest) 0=o from rfl,r6,OF.fp,V3.zL];exact hd
  have same:∀ u w:V3 K,cE u u w=0:=XA;have XI:∀ u w:V3 K,cE u w w=0:=XB;have XJ:∀ u w:V3 K,cE u w u=0:=XC;have ab:a≠b:=λe=>by subst e;exact hd (same _ _)
  have bc:b≠c:=λe=>by subst e;exact hd (XI _ _)
  have ac:a≠c:=λe=>by subst e;exact hd (XJ _ _)
  have s1:∀{u v w:V3 K},cE u v w≠0->cE u w v≠0:=λ{u v w} h e=>h (by rw[V3.aB3,e,CR.neg_zero]);have r1:∀{u v w:V3 K},cE u v w≠0->cE v w u≠0:=λ{u v w} h e=>h (by rw[V3.Pf];exact e);rcases tj a b with h1|h1|h1
  ·rcases tj b c with h2|h2|h2
   ·exact fin c b a lc lb la h2 h1 (s1 hd)
   ·exact absurd h2 bc
   ·rcases tj a c with h3|h3|h3
    ·exact fin b c a lb lc la h2 h3 hd
    ·exact absurd h3 ac
    ·exact fin b a c lb la lc h1 h3 (r1 (s1 hd))
  ·exact absurd h1 ab
  ·rcases tj a c with h2|h2|h2
   ·exact fin c a b lc la lb h2 h1 (r1 hd)
   ·exact absurd h2 ac
   ·rcases tj b c with h3|h3|h3
    ·exact fin a c b la lc lb h2 h3 (r1 (r1 (s1 hd)))
    ·exact absurd h3 bc
    ·exact fin a b c la lb lc h1 h3 (r1 (r1 hd))
theorem aGc{ι:Type}{R:ι->ι->Prop}:∀{l:List ι},pP R l->∀(i:Nat) (x y:ι),l[i]?=some x->l[i+1]?=some y->R x y
 |[],_,i,x,y,h,_=>by simp at h
 |[a],_,i,x,y,_,h=>by simp at h
 |a::b::l,hs,0,x,y,h,k=>by simp at h k;subst h;subst k;exact hs.1
 |a::b::l,hs,i+1,x,y,h,k=>aGc hs.2 i x y (by simpa using h) (by simpa using k)
theorem aGd{g:V3 K}{vs:e_}{on:l_}{c:Nat}:vx g vs on a c=true↔c≠a/\oy g (aJ vs) on a c:=by
 unfold vx Mq;rw[cZ,bd];have e:∀ b,Jb g vs a c b=true↔(b=a\/b=c\/0<turn g (aJ vs a) (aJ vs c) (aJ vs b)):=by
  intro b;unfold Jb Q9;simp only[tE,r6];have:(0<OF.aD (cE g (aJ vs c-aJ vs a) (aJ vs b-aJ vs a)))↔0<turn g (aJ vs a) (aJ vs c) (aJ vs b):=by rw[OF.iJ];show 0<OF.aD (turn g (aJ vs a) (aJ vs c) (aJ vs b))↔_;rcases OF.iR (turn g (aJ vs a) (aJ vs c) (aJ vs b))with h|h|h<;>rw[h]<;>decide
  rw[this]
 constructor
 ·rintro⟨h1,h2⟩
  refine⟨by simpa using h1,λb hb xN zO=>?_⟩;rcases(e b).1 (h2 b hb)with h|h|h
  ·exact absurd h xN
  ·exact absurd h zO
  ·exact h
 ·rintro⟨h1,h2⟩
  refine⟨by simpa using h1,λb hb=>(e b).2 ?_⟩;by_cases xN:b=a
  ·exact .inl xN
  ·by_cases zO:b=c
   ·exact .inr (.inl zO)
   ·exact .inr (.inr (h2 b hb xN zO))
theorem AB{p:HS K}{vs:e_}:i∈ck p vs vs.length↔i<vs.length/\ep p (aJ vs i):=by unfold ck ep;rw[aE9,j4,r6,OF.sub_eq_zero]
theorem aGe(p:HS K)(vs:e_):(ck p vs vs.length).Pairwise (·<·):=by unfold ck;exact List.Pairwise.filter _ List.pairwise_lt_range
theorem aS2{vs:e_}(h:i<vs.length):aJ vs i∈vs:=cH (iy h)
theorem aS3{vs:e_}{v:V3 K}(h:v∈vs):∃ i,i<vs.length/\aJ vs i=v:=by obtain⟨i,hi,rfl⟩:=k7 h;refine⟨i,hi,?_⟩;have:=iy hi;rw[aT hi]at this;injection this with this;exact this.symm
structure pk(ps:c_)(vs:e_):Prop where
 sorted:vs.Pairwise jX
 mem:∀ v,v∈vs↔mo ps v
theorem pk.lt{vs:e_}(h:pk ps vs)(pz:i<j)(hj:j<vs.length):jX (aJ vs i) (aJ vs j):=by have h1:=iy (vs:=vs) (i:=i) o_;have h2:=iy hj;rw[aT o_]at h1 h2;injection h1 with h1;injection h2 with h2;rw[<-h1,<-h2];exact QI.1 h.sorted i j o_ hj pz
theorem pk.inj{vs:e_}(h:pk ps vs)(hi:i<vs.length)(hj:j<vs.length)(e:aJ vs i=aJ vs j):i=j:=by
 rcases tj i j with hl|hl|hl
 ·have:=h.lt hl hj;rw[e]at this;exact absurd this (DC _)
 ·exact hl
 ·have:=h.lt hl hi;rw[e]at this;exact absurd this (DC _)
section
variable{ps:c_}{vs:e_}{p:HS K}
theorem pk.conv(h:pk ps vs):Conv p.n (aJ vs) (ck p vs vs.length):=
 aL7 (ps:=ps) (p:=p) (λi hi=>by obtain⟨h1,h2⟩:=AB.1 hi;exact⟨(h.mem _).1 (aS2 h1),h2⟩) λi hi j hj e=>h.inj (AB.1 hi).1 (AB.1 hj).1 e
theorem pk.sort(h:pk ps vs):xL (aJ vs) aCo (ck p vs vs.length):=by unfold xL;refine List.Pairwise.imp_of_mem (λ{a b} ha hb ak=>?_) (aGe p vs);have:=h.lt ak (AB.1 hb).1;exact K9.1 this
theorem aGf(p:HS K)(vs:e_):(ck p vs vs.length).Nodup:=(aGe p vs).imp λ{a b} h=>Nat.ne_of_lt h
theorem pk.loop(h:pk ps vs)(hp:p.n≠0)(hl:¬(ck p vs vs.length).length<3):
  Rc p.n vs (ck p vs vs.length)=false/\aWx p.n vs (ck p vs vs.length) (order p.n (aJ vs) (ck p vs vs.length))/\(order p.n (aJ vs) (ck p vs vs.length)).length=(ck p vs vs.length).length:=by
 have hc:=h.conv (p:=p);have hs:=h.sort (p:=p);have jK:=aGf p vs;have cv:∀ a∈ck p vs vs.length,∀ b∈ck p vs vs.length,aJ vs a=aJ vs b->a=b:=λa ha b hb e=>h.inj (AB.1 ha).1 (AB.1 hb).1 e;generalize gS:ck p vs vs.length=on at *
 match on,hl,hc,hs,jK,cv with
 |a::b::c::l,_,hc,hs,jK,cv=>
  obtain⟨m,e1,e2,e3,e4⟩:=aCl hp hc hs;have hlen:(a::m).length=(a::b::c::l).length:=((List.perm_ext_iff_of_nodup e2 jK).2 e3).length_eq;refine⟨?_,⟨?_,?_,λi x y hx hy=>?_⟩,?_⟩
  ·show(c::l).all (Co p.n vs a b)=false;rw[Jd];refine⟨c,aP ..,?_⟩;unfold Co Q9;rw[r6,OF.fp];simp only[List.nodup_cons,ct,not_or]at jK;exact hc.aCc hp (aP ..) (bH _ (aP ..)) (bH _ (bH _ (aP ..))) jK.1.1 jK.1.2.1 jK.2.1.1
  ·rw[e1,hlen]
  ·rw[e1];rfl
  ·rw[e1]at hx hy;have G2:=(eA.1 hy).1;have k9:=aGc e4 i x y (by rw[JH o_];exact hx) (by rw[JH G2];exact hy);have hym:=(e3 y).1 (cH hy);have kB:y≠x:=by intro e;subst e;have W9:=(eA.1 hx).1;have h1:=(eA.1 hx).2;have h2:=(eA.1 hy).2;have:=(QI.1 e2) i (i+1) W9 G2 o_;exact this (h1.trans h2.symm)
   obtain⟨k,hk,hke⟩:=k7 hym;refine⟨k,by rw[aT hk,hke],aGd.2 ⟨kB,k9⟩,λj z hj hz=>?_⟩;cases hf:vx p.n vs (a::b::c::l) x z with
   |false=>rfl
   |true=>
    obtain⟨q1,q2⟩:=aGd.1 hf;have:=aCj (pt:=aJ vs) (n:=p.n) cv hym (cH hz) kB q1 k9 q2;subst this;have Ra:=(eA.1 hz).1;have hje:=(eA.1 hz).2;exact absurd (hje.trans hke.symm) (QI.1 jK j k Ra hk hj)
  ·rw[e1,hlen]
 |[],hl,_,_,_,_=>simp at hl
 |[_],hl,_,_,_,_=>simp at hl
 |[_,_],hl,_,_,_,_=>simp at hl
theorem pk.GL(h:pk ps vs)(hp:p.n≠0)(i:Nat):rP ps vs i p=if oG ps i p then[]else if(ck p vs vs.length).length<3 then[]else[(i,order p.n (aJ vs) (ck p vs vs.length))]:=by
 unfold rP;by_cases h1:oG ps i p=true
 ·rw[ax h1];exact ax h1
 ·rw[ao h1];refine(ao h1).trans ?_;by_cases h2:(ck p vs vs.length).length<3
  ·rw[ax h2,ax h2]
  ·rw[ao h2,ao h2,ax (by rw[(h.loop hp h2).2.2];omega)]
theorem Ri:∀{I J:l_},I.Nodup->(∀ x∈I,x∈J)->I.length<=J.length
 |[],_,_,_=>jH _
 |x::I,J,hn,hs=>by
  obtain⟨A,B,rfl⟩:=List.append_of_mem (hs x (aP ..));rw[List.nodup_cons]at hn;have:=Ri (J:=A++B) hn.2 λy hy=>by
   have h1:=hs y (bH _ hy);rcases fo.1 h1 with h|h
   ·exact tY _ h
   ·rcases ct.1 h with rfl|h
    ·exact absurd hy hn.1
    ·exact vS _ h
  simp only[kP,oL]at this ⊢;omega
theorem aGg(f:Nat->List (Nat×List Nat))(P:Nat->Bool)(h:∀ i,P i=true->f i≠[]):∀ l:List Nat,(l.filter P).length<=(l.flatMap f).length
 |[]=>bA _
 |i::l=>by
  rw[List.flatMap_cons,kP,M6];have:=aGg f P h l;split
  ·rename_i hp;have:=List.length_pos_iff.2 (h i hp);rw[oL];omega
  ·omega
theorem aGh{p q:HS K}(hp:p.n≠0)(hq:q.n≠0)(h:canon p=canon q)(v:V3 K):(dot p.n v<=p.d↔dot q.n v<=q.d)/\(ep p v↔ep q v):=by
 obtain⟨k,hk,rfl⟩:=(aSQ hp hq).1 h;unfold ep Eh
 try dsimp only
 rw[V3.aLr,CR.mul_comm (dot p.n v),CR.mul_comm p.d];refine⟨(OF.mul_le_mul_left hk).symm,λh=>by rw[h],λh=>?_⟩;have BJ:k≠0:=OF.ne_of_gt hk;have:k⁻¹*(k*dot p.n v)=k⁻¹*(k*p.d):=by rw[h]
 rwa[<-CR.mul_assoc,<-CR.mul_assoc,OF.inv_mul BJ,CR.one_mul,CR.one_mul]at this
theorem tv.on(hc:Cl ps)(hp:jl ps)(hv:pk ps vs){x:V3 K}(hx:BU ps x){A B:c_}(h:tv ps (A++p::B)):¬(ck p vs vs.length).length<3:=by
 intro ak;have jL:=hp p (h.sub p (vS _ (aP ..)));have idx:∀ v,mo ps v->ep p v->∃ i∈ck p vs vs.length,aJ vs i=v:=by intro v h1 h2;obtain⟨i,hi,e⟩:=aS3 ((hv.mem v).2 h1);exact⟨i,AB.2 ⟨hi,by rw[e];exact h2⟩,e⟩
 have pl:∀ i∈ck p vs vs.length,dot p.n (aJ vs i)=p.d:=λi hi=>(AB.1 hi).2;obtain⟨u,hu,BP⟩:=K1 jL;generalize ck p vs vs.length=on at *
 match on,ak,idx,pl with
 |[],_,idx,_=>
  obtain⟨v,w,v1,v2,_⟩:=h.GL hc hp hx (F0 jL hu BP);obtain⟨i,hi,_⟩:=idx v v1 v2;cases hi
 |[o],_,idx,_=>
  obtain⟨v,w,v1,v2,w1,w2,ak⟩:=h.GL hc hp hx (F0 jL hu BP);obtain⟨i,hi,e⟩:=idx v v1 v2;obtain⟨j,hj,e'⟩:=idx w w1 w2;simp at hi hj;subst hi;subst hj;rw[<-e,<-e']at ak;exact OF.lt_irrefl _ ak
 |[o,a],_,idx,pl=>
  by_cases hd:aJ vs a-aJ vs o=0
  ·have hd:=V3.sub_eq_zero.1 hd;obtain⟨v,w,v1,v2,w1,w2,ak⟩:=h.GL hc hp hx (F0 jL hu BP);obtain⟨i,hi,e⟩:=idx v v1 v2;obtain⟨j,hj,e'⟩:=idx w w1 w2;simp at hi hj;rw[<-e,<-e']at ak;rcases hi with rfl|rfl<;>rcases hj with rfl|rfl<;>first|exact OF.lt_irrefl _ ak|(rw[hd]at ak;exact OF.lt_irrefl _ ak)
  ·have hdp:dot p.n (aJ vs a-aJ vs o)=0:=by rw[V3.lA,pl a s_,pl o s_,OF.sub_self]
   have c7:=F0 jL hd hdp;have dF:=F0 jL c7 (V3.FZ _ _);obtain⟨v,w,v1,v2,w1,w2,ak⟩:=h.GL hc hp hx dF;obtain⟨i,hi,e⟩:=idx v v1 v2;obtain⟨j,hj,e'⟩:=idx w w1 w2;have heq:dot (av p.n (aJ vs a-aJ vs o)) (aJ vs a)=dot (av p.n (aJ vs a-aJ vs o)) (aJ vs o):=by rw[<-OF.sub_eq_zero,<-V3.lA,V3.zL];exact V3.Dy _ _
   simp at hi hj;rw[<-e,<-e']at ak;rcases hi with rfl|rfl<;>rcases hj with rfl|rfl<;>first|exact OF.lt_irrefl _ ak|(rw[heq]at ak;exact OF.lt_irrefl _ ak)
 |_::_::_::_,ak,_,_=>simp only[oL]at ak;omega
theorem aS4(hc:Cl ps)(hp:jl ps)(hv:pk ps vs)(hf:pc ps):4<=(cT ps vs ps.length).length:=by
 obtain⟨x,hx⟩:=hf;obtain⟨S,hS⟩:=aSU ps;have h4:=hS.four hc hp hx;obtain⟨fi,kv⟩:∃ fi:HS K->Nat,fi=λp=>ps.findIdx λq=>decide (canon q=canon p):=⟨_,rfl⟩;have XK:∀ p∈S,fi p<ps.length:=λp hp=>by rw[kv];exact List.findIdx_lt_length_of_exists ⟨p,hS.sub p hp,by simp⟩
 have AA:∀ p (hp:p∈S),canon (ps[fi p]'(XK p hp))=canon p:=λp hp=>by have h1:=XK p hp;have:=List.findIdx_getElem (xs:=ps) (p:=λq=>decide (canon q=canon p)) (w:=by rw[kv]at h1;exact h1);subst kv;simpa using this
 have split:∀ i (hi:i<S.length),S=S.take i++S[i]::S.drop (i+1):=λi hi=>by rw[<-aCO hi,LB]
 have bj:S.Pairwise λp q=>canon p≠canon q:=by
  rw[QI];intro i j hi hj pz e;have hl:tv ps (S.take i++S[i]::S.drop (i+1)):=by rw[<-split i hi];exact hS
  obtain⟨y,hy,ak⟩:=hl.alone;have hm:S[j]∈S.drop (i+1):=cH (i:=j-(i+1)) (by rw[EC,show i+1+(j-(i+1))=j by omega,aT hj])
  have:=hy _ (vS _ hm);have hs:=(aGh (hp _ (hS.sub _ (cY hi))) (hp _ (hS.sub _ (cY hj))) e y).1;exact OF.lt_irrefl _ (OF.lt_of_lt_of_le ak (hs.2 this))
 have hI:(S.map fi).Nodup:=by
  unfold List.Nodup;rw[List.pairwise_map];refine List.Pairwise.imp_of_mem (λ{a b} ha hb bZ e=>bZ ?_) bj;have h1:=AA a ha;have h2:=AA b hb;rw[<-h1,<-h2]
  congr 1
  have:∀(i j:Nat) (hi:i<ps.length) (hj:j<ps.length),i=j->ps[i]=ps[j]:=λi j hi hj e=>by subst e;rfl
  exact this _ _ _ _ e
 have aS5:∀ i∈S.map fi,i<ps.length/\kL ps vs i≠[]:=by
  intro i hi;obtain⟨p,Rj,rfl⟩:=dj.1 hi;have ak:=XK p Rj;have aGi:=AA p Rj;refine⟨ak,?_⟩;unfold kL;rw[aT ak];dsimp only;have jL:=hp _ (hS.sub p Rj);have zX:=hp _ (cY ak);rw[hv.GL zX];have uo:¬oG ps (fi p) ps[fi p]=true:=by
   unfold oG;rw[rZ]
   rintro⟨q,hq,hd⟩
   obtain⟨j,hj,rfl⟩:=k7 hq;rw[jr]at hj;rw[Xi,aGi]at hd;have hd:=jz hd;have hjf:j<fi p:=by omega
   rw[kv]at hjf;have:=List.not_of_lt_findIdx hjf;simp[hd]at this
  rw[ao uo];obtain⟨k,hk,rfl⟩:=k7 Rj;have hl:tv ps (S.take k++S[k]::S.drop (k+1)):=by rw[<-split k hk];exact hS
  have gS:=tv.on hc hp hv hx hl;have heq:ck ps[fi S[k]] vs vs.length=ck S[k] vs vs.length:=by unfold ck;refine List.filter_congr λi _=>?_;have hs:=(aGh zX jL aGi (aJ vs i)).2;unfold ep at hs;rw[pD,OF.sub_eq_zero,OF.sub_eq_zero];exact hs
  rw[heq,ao gS];exact n_
 have h1:=Ri (J:=(List.range ps.length).filter λi=>decide (kL ps vs i≠[])) hI λi hi=>by rw[aE9,j4,r6];exact aS5 i hi
 have h2:=aGg (kL ps vs) (λi=>decide (kL ps vs i≠[])) (λi hi=>jz hi) (List.range ps.length);rw[dr]at h1;unfold cT;omega
end
end
section
open V3 (dot av cE smul)
theorem aGj(F:Fact)(S:Nat):∀ v w,(F.mE S).G v w->F.G v w:=λ_ _ h=>h.1
def XL(ps:c_)(vs:List RV)(fs:f_):aL:=.s ps.length (bB ps) vs.length (cV vs) (iu fs)
def Jf(ps:c_)(vs:List RV)(fs:f_):Bool:=ug ps&&(xQ ps (bf ps)&&(decide (vs=(bf ps).map cr)&&decide (fs=eH ps)))
section
variable{ps:c_}{m:Nat}{vs:List RV}{fs:f_}
def Mt(ps:c_)(vs:List RV)(fs:f_):aL:=.s ps.length (bB ps) vs.length (cV vs) (iA fs)
theorem aS6(ps:c_)(vs:List RV)(fs:f_):([Mt ps vs fs].all aL.ok)=true:=by
 have e:(Mt ps vs fs).ok=true:=by show((bB ps).all flat&&((cV vs).all flat&&true))=true;rw[dx,gK fD];rfl
 simp only[dT,eC,e,z7]
theorem AD{vs:List RV}(h:vs.length=0):cV vs=[]:=by rw[kO h];rfl
theorem aGk(h:wz ps m)(aQ:∀ x∈vs,x.Sm)(iz:vs.length<9223372036854775807)(pW:fs.length<9223372036854775807)(pT:∀ f∈fs,f.2.length<9223372036854775807):bw prog 35 [Mt ps vs fs] (.bool (Jf ps vs fs)):=by
 unfold Jf;have au:=aS6 ps vs fs;unfold Mt at *;by_cases hc:ug ps=true
 ·by_cases hi:xQ ps (bf ps)=true
  ·have oJ:=aRx h hc hi;rw[hc,hi];have qN:∀ x∈(bf ps).map cr,x.Sm:=λx hx=>by obtain⟨v,hv,rfl⟩:=dj.1 hx;exact(QT h.sz v hv).sm (W4 (Gx (n:=0) h.bound o_).2.1).2.2
   have heq:=aNl (a:=vs) (b:=(bf ps).map cr) aQ qN iz;have hef:=aRQ (fs:=fs) (fs':=eH ps) pW pT;unfold aG at oJ;have hlen:(bf ps).length=((bf ps).map cr).length:=by rw[dr]
   rw[hlen]at oJ;generalize (bf ps).map cr=cQ at *;have e0:decide (vs=cQ)=true\/decide (vs=cQ)=false:=by cases decide (vs=cQ)<;>simp
   rcases e0 with e0|e0
   ·rw[e0]at heq ⊢;rw[jy,jy,jy];generalize decide (fs=eH ps)=t at *;refine iT mixed func35 au 100 (N:=29) k_ (λw=>[
     .step 9 (aA f35 9) [.func (.func 83) #[] #[],sl 0 ps.length] [(4,none),(5,none),(6,none),(0,some (.view (bB ps)))] (.tuple #[.agg #[sl 4 ps.length,sl 5 cQ.length,cy 6],de 0]) [(6,.fact ((iu (eH ps)).mE w.heap.size)),(5,.row (cV cQ) 38 30),(4,.row (bB ps) 50 40)]
      (LD (B:=aa.at w) (S:=w.heap.size) oJ (.w (x:=.view (bB ps)) rfl (dx ps) jm .nil) (x:=.func 83) k_ k_ rfl (dx ps) (gK fD _) rfl (λw' hb=>Below.size hb) 4),
     .cR f35 19 [sl 1 vs.length,sl 5 cQ.length] heq (.w (x:=.view (cV vs)) rfl (gK fD _) AD (.w (x:=.row (cV cQ) 38 30) rfl (gK fD _) AD .nil)),
     .step 27 (aA f35 27) [.func (.func 87) #[] #[],cy 2,cy 6,Mh] [(2,some (.fact (iA fs))),(6,some (.fact ((iu (eH ps)).mE w.heap.size)))] (.bool t) []
      (pb hef (.o (.oi (aFr _ _) (.p rfl .nil))) (x:=.func 87) k_ k_ rfl)]) (λw=>?_) k_
    kernel_rfl
   ·rw[e0]at heq ⊢;refine iT mixed func35 au 100 (N:=29) k_ (λw=>[
     .step 9 (aA f35 9) [.func (.func 83) #[] #[],sl 0 ps.length] [(4,none),(5,none),(6,none),(0,some (.view (bB ps)))] (.tuple #[.agg #[sl 4 ps.length,sl 5 cQ.length,cy 6],de 0]) [(6,.fact ((iu (eH ps)).mE w.heap.size)),(5,.row (cV cQ) 38 30),(4,.row (bB ps) 50 40)]
      (LD (B:=aa.at w) (S:=w.heap.size) oJ (.w (x:=.view (bB ps)) rfl (dx ps) jm .nil) (x:=.func 83) k_ k_ rfl (dx ps) (gK fD _) rfl (λw' hb=>Below.size hb) 4),
     .cR f35 19 [sl 1 vs.length,sl 5 cQ.length] heq (.w (x:=.view (cV vs)) rfl (gK fD _) AD (.w (x:=.row (cV cQ) 38 30) rfl (gK fD _) AD .nil))]) (λw=>?_) k_
    kernel_rfl
  ·have hi:xQ ps (bf ps)=false:=by simpa using hi
   rw[hc,hi];exact iT mixed func35 au 100 (N:=29) k_ (λw=>[.cR f35 9 [sl 0 ps.length] (aRv h hc hi) (.w (x:=.view (bB ps)) rfl (dx ps) jm .nil)]) (λw=>k_) k_
 ·have hc:ug ps=false:=by simpa using hc
  rw[hc];exact iT mixed func35 au 100 (N:=29) k_ (λw=>[.cR f35 9 [sl 0 ps.length] (aRu h hc) (.w (x:=.view (bB ps)) rfl (dx ps) jm .nil)]) (λw=>k_) k_
theorem aS7(h:wz ps m)(aQ:∀ x∈vs,x.Sm)(iz:vs.length<9223372036854775807)(pW:fs.length<9223372036854775807)(pT:∀ f∈fs,f.2.length<9223372036854775807):bw prog 35 [XL ps vs fs] (.bool (Jf ps vs fs)):=
 bw.QX (aGk h aQ iz pW pT) (pU.full fs).G
end
def aGl(ps:c_):aL:=XL ps ((bf ps).map cr) (eH ps)
def GM(ps:c_):Bool:=ug ps&&xQ ps (bf ps)
theorem aS8(ps:c_):(eH ps).length<=ps.length:=by unfold eH;rw[dr];exact I3 ps _ _
theorem aS9(nn:V3 K)(vs:e_)(l:l_):(order nn (aJ vs) l).length<=2*l.length:=by
 have bC:∀ l:List Nat,(kx nn vs l).length<=l.length:=λl=>by have:=(Ma (nn:=nn) (vs:=vs) (l:=l) l.length (bA _)).2;unfold bT at this;rw[ox]at this;unfold kx;rw[Gw,List.length_tail];omega
 rw[aE6,kP];have h1:=bC l;have h2:=bC l.reverse;rw[Gw]at h2;omega
theorem aTa(h:ps.length<=20):∀ f∈eH ps,f.2.length<=1600:=by
 intro f hf;unfold eH at hf;obtain⟨g,hg,rfl⟩:=dj.1 hf;unfold cT at hg;rw[zY]at hg;obtain⟨i,_,hg⟩:=hg;unfold kL at hg;split at hg
 ·rename_i p hp;unfold rP at hg;split at hg
  ·cases hg
  ·split at hg
   ·cases hg
   ·split at hg
    ·simp at hg;subst hg;show(List.map _ _).length<=_;rw[dr];show(order p.n (aJ (bf ps)) (ck p (bf ps) (bf ps).length)).length<=1600;have h1:=aS9 p.n (bf ps) (ck p (bf ps) (bf ps).length);have h2:=I2 p (bf ps) (bf ps).length;have h3:=Mf ps h;omega
    ·cases hg
 ·cases hg
section
variable{ps:c_}{m:Nat}{p:HS K}
theorem vsm(h:wz ps m):∀ x∈(bf ps).map cr,x.Sm:=λx hx=>by obtain⟨v,hv,rfl⟩:=dj.1 hx;exact(QT h.sz v hv).sm (W4 (Gx (n:=0) h.bound o_).2.1).2.2
theorem aTb(h:wz ps m)(hs:GM ps=true):bw prog 35 [aGl ps] b_:=by have h1:=Mf ps h.len;have h2:=aS8 ps;have h3:=h.len;have:=aS7 (vs:=(bf ps).map cr) (fs:=eH ps) h (vsm h) (by rw[dr];omega) o_ λf hf=>eV (aTa h3 f hf) d_;unfold GM at hs;unfold Jf at this;rw[cZ]at hs;rw[hs.1,hs.2,aE rfl,aE rfl]at this;exact this
end
structure Jg(p:HS K)(vs:e_):Prop where
 flat:Rc p.n vs (ck p vs vs.length)=false
 seq:aWx p.n vs (ck p vs vs.length) (order p.n (aJ vs) (ck p vs vs.length))
 len:(order p.n (aJ vs) (ck p vs vs.length)).length=(ck p vs vs.length).length
def Jh(ps:c_)(k:Nat)(p:HS K):Bool:=(ps.take k).any λq=>decide (canon p=canon q)
theorem aTc{q:HS K}(h:ps[k]?=some q)(p:HS K):Jh ps (k+1) p=(Jh ps k p||decide (canon p=canon q)):=by unfold Jh;rw[sY,h,List.any_append];simp
section
variable{Bs:aa}{ps:c_}{vs:e_}
def Rk(n i k:Nat)(b:Bool):aN:=[(8,vI k),(7,.bool b),(6,vI i),(0,sl 0 n)]
def Ji(ps:c_):aH:=[(0,.view (bB ps))]
theorem aTd{m:Nat}{p q:HS K}{b:Bool}(hk:k<i)(hi:i<ps.length)(hp:ps[i]?=some p)(hq:ps[k]?=some q)(cd:∀ p∈ps,bM m p/\p.n≠0)(hm:100*m+1000<=az)(h63:ps.length<=500)(ht:(b||decide (canon p=canon q))=t):
  af prog Bs 57 (aF (ag f131 2)) (Rk ps.length i k b) (Ji ps) 5 ⟨.normal,Rk ps.length i (k+1) t,Ji ps,5⟩:=by
 have sp:=cd p (cH hp);have sq:=cd q (cH hq);have hs:=aWU sp.1 sq.1 o_ o_ sp.2 sq.2;cases b with
 |true=>
  rw[Ha]at ht;subst ht;exact aC [.lt 23 k i true (aE hk),.sum 25 k 1 (k+1) rfl o_]
 |false=>
  rw[xf]at ht;rw[ht]at hs;exact aC [.lt 23 k i true (aE hk),.cM f131 30 0 ps.length i 40 hi k_,.ld f131 31 50 0 (i*40) (.view (bB ps)) (dH p) rfl (z8 hp) k_,.cM f131 34 0 ps.length k 40 o_ k_,.ld f131 35 50 0 (k*40) (.view (bB ps)) (dH q) rfl (z8 hq) k_,hs.at 36,.sum 25 k 1 (k+1) rfl o_]
theorem aGm{m:Nat}{p:HS K}(hi:i<ps.length)(hp:ps[i]?=some p)(cd:∀ p∈ps,bM m p/\p.n≠0)(hm:100*m+1000<=az)(h63:ps.length<=500):
  af prog Bs 57 (.block 2 (ag f131 2)) (Rk ps.length i 0 false) (Ji ps) 5 ⟨.normal,[(7,.bool (oG ps i p))],Ji ps,5⟩:=
 bO (id:=2) (ch (r:=⟨.exit 2,[(7,.bool (Jh ps i p))],Ji ps,5⟩) i (λk=>Rk ps.length i k (Jh ps k p)) (λ_=>Ji ps) (λi k _=>Iff.rfl) (λk hk=>by
  have hq:=aT (l:=ps) (i:=k) o_;exact aTd hk hi hp hq cd hm h63 (aTc hq p).symm) (by
  generalize Jh ps i p=b;exact aC [.lt 23 i i false s_]) n_)
def Ej(n i:Nat)(v2:i_):aN:=[(6,vI i),(0,sl 0 n),(1,v2),(4,ptr 1),(5,ptr 3)]
def yv(ps:c_)(v2:i_)(cells:ah)(c:Nat):aH:=
 [(0,.view (bB ps)),(1,.aI [.slice none 0 0,.slice none 0 0,.slice none 0 0] 26),(2,.row (bB ps) 50 40),(3,.aI [sl 2 ps.length,v2,sl 4 c] 26),(4,.row cells 47 2)]
section
variable{b o c:Nat}
theorem aTe{m:Nat}{p:HS K}{cells:ah}(hi:i<ps.length)(hp:ps[i]?=some p)(cd:∀ p∈ps,bM m p/\p.n≠0)(hm:300*m+1000<=az)(h63:ps.length<=500)(ht:oG ps i p=true):
  af prog Bs 57 (aF (ag f131 0)) (Ej ps.length i (.slice (some ⟨b,o,none⟩) vs.length c)) (yv ps (.slice (some ⟨b,o,none⟩) vs.length c) cells cc) 5
   ⟨.normal,Ej ps.length (i+1) (.slice (some ⟨b,o,none⟩) vs.length c),yv ps (.slice (some ⟨b,o,none⟩) vs.length c) cells cc,5⟩:=by
 have lo:=aGm (Bs:=Bs) hi hp cd o_ h63;rw[ht]at lo;exact aC [.lt 18 i ps.length true (aE hi),.code 2 _ _ _ _ _ lo,.sum 20 i 1 (i+1) rfl o_]
noncomputable def rcS{m:Nat}{p:HS K}(hi:i<ps.length)(hp:ps[i]?=some p)(cd:∀ p∈ps,bM m p/\p.n≠0)(hm:300*m+1000<=az)(h63:ps.length<=500)(ht:oG ps i p=false)(more:bL prog Bs 57):bL prog Bs 57:=
 .lt 18 i ps.length true (aE hi)::.code 2 _ _ _ _ _ (ht▸aGm (Bs:=Bs) hi hp cd o_ h63)::.cM f131 41 0 ps.length i 40 hi k_::.ld f131 42 50 0 (i*40) (.view (bB ps)) (dH p) rfl (z8 hp) k_::more
theorem aTf{m:Nat}{p:HS K}{cells:ah}(hi:i<ps.length)(hp:ps[i]?=some p)(cd:∀ p∈ps,bM m p/\p.n≠0)(aQ:∀ v∈vs,aw m v)(hm:300*m+1000<=az)(h63:ps.length<=500)(iz:vs.length<900000)(ht:oG ps i p=false)
  (iF:∀ w,Bs.G w->dp w (.slice (some ⟨b,o,none⟩) vs.length c) vs.length (aG vs)) (ho:(ck p vs vs.length).length<3) :
  af prog Bs 57 (aF (ag f131 0)) (Ej ps.length i (.slice (some ⟨b,o,none⟩) vs.length c)) (yv ps (.slice (some ⟨b,o,none⟩) vs.length c) cells cc) 5
   ⟨.normal,Ej ps.length (i+1) (.slice (some ⟨b,o,none⟩) vs.length c),yv ps (.slice (some ⟨b,o,none⟩) vs.length c) cells cc,5⟩:=by
 have sp:=cd p (cH hp);have hl:=aSD sp.1 sp.2 aQ o_ iz ho;exact aC (rcS hi hp cd hm h63 ht [.step 44 (aA f131 44) [.func (.func 177) #[] #[],dH p,.slice (some ⟨b,o,none⟩) vs.length c] [] (.slice none 0 0) []
   (pb hl (.p rfl (.e rfl iF .nil)) (x:=.func 177) k_ k_ rfl),.gt 47 0 0 false rfl,.sum 20 i 1 (i+1) rfl o_])
theorem aTg{m:Nat}{p:HS K}{cells:ah}(hi:i<ps.length)(hp:ps[i]?=some p)(cd:∀ p∈ps,bM m p/\p.n≠0)(aQ:∀ v∈vs,aw m v)(hm:300*m+1000<=az)(h63:ps.length<=500)(iz:vs.length<900000)(ht:oG ps i p=false)
  (iF:∀ w,Bs.G w->dp w (.slice (some ⟨b,o,none⟩) vs.length c) vs.length (aG vs)) (ho:¬(ck p vs vs.length).length<3) (hk:Jg p vs) (hc:cells.length=cc*2) (Md:cc<=500) (ED:∀ v∈cells,v.oneCell'=true) :
  af prog Bs 57 (aF (ag f131 0)) (Ej ps.length i (.slice (some ⟨b,o,none⟩) vs.length c)) (yv ps (.slice (some ⟨b,o,none⟩) vs.length c) cells cc) 5
   ⟨.normal,Ej ps.length (i+1) (.slice (some ⟨b,o,none⟩) vs.length c),[(0,.view (bB ps)),(1,.aI [.slice none 0 0,.slice none 0 0,.slice none 0 0] 26),(2,.row (bB ps) 50 40),(3,.aI [sl 2 ps.length,.slice (some ⟨b,o,none⟩) vs.length c,sl 7 (cc+1)] 26),(5,.row (al (order p.n (aJ vs) (ck p vs vs.length))) 3 1),(7,.row (cells++[vI i,sl 5 (al (order p.n (aJ vs) (ck p vs vs.length))).length]) 47 2)],8⟩:=by
 have sp:=cd p (cH hp);have hl:=aWA sp.1 sp.2 aQ hm iz ho hk.flat hk.seq;have hlen:=hk.len;rw[nP];generalize order p.n (aJ vs) (ck p vs vs.length)=l at *;generalize mL:cells++[vI i,sl 5 l.length]=cells' at *;exact aC (rcS hi hp cd hm h63 ht [.step 44 (aA f131 44) [.func (.func 177) #[] #[],dH p,.slice (some ⟨b,o,none⟩) vs.length c] [(5,none)] (sl 5 l.length) [(5,.row (al l) 3 1)]
   (qF hl (.p rfl (.e rfl iF .nil)) (x:=.func 177) k_ k_ (iv l) 5),.gt 47 l.length 0 true (aE o_),
  .step 52 (aA f131 52) [vI i,sl 5 l.length] [] (.agg #[vI i,sl 5 l.length]) [] (P1 (t:=47) (idx:=[0,1]) k_ (λit z h1 h2=>aFa h1 h2) k_),
  .bsM f131 53 6 1 47 2 [0] (.agg #[vI 0,.slice none 0 0]) [.agg #[vI i,sl 5 l.length]] #[vI i,sl 5 l.length] (.row [vI i,sl 5 l.length] 47 2) rfl (λv hv=>by
   have hv:v∈[vI 0,.slice none 0 0]:=hv;simp at hv;rcases hv with rfl|rfl<;>rfl) d_ k_ rfl d_ d_ k_,.oX f131 54 7 4 cc 1 (cc+1) 47 2 32 cells 6 (.row [vI i,sl 5 l.length] 47 2) cells' rfl rfl rfl hc mL (λv hv=>by
   simp[Obj.cells]at hv;rcases hv with rfl|rfl<;>rfl) d_ (by simp[maxLen];omega) o_ k_,.sum 20 i 1 (i+1) rfl o_])
end
end
end
theorem aM.aTh(h:aM (B.jO ks) ι c w):aM B ι c w:=
 ⟨h.base.1,h.dJ,h.born,λk x b o cap e hx hl=>⟨(h.own k x b o cap e hx hl).1,λhF=>(h.own k x b o cap e hx hl).2 (.inl hF)⟩,h.inj,h.apart,h.seen,h.fa,h.one,h.rV⟩
def Kept(ks:List (Value×ah))(cs:ah):Prop:=∀ v∈cs,∀ b,iL v=some b->∃ p∈ks,iL p.1=some b
theorem Kept.snoc{cs:ah}(h:Kept ks cs)(i:Nat)(u:i_)(xs:ah):Kept ((u,xs)::ks) (cs++[vI i,u]):=λv hv b hb=>by
 rcases fo.1 hv with hv|hv
 ·obtain⟨p,hp,e⟩:=h v hv b hb;exact⟨p,bH _ hp,e⟩
 ·simp at hv;rcases hv with rfl|rfl
  ·cases hb
  ·exact⟨_,aP ..,hb⟩
section
open V3 (dot av cE smul)
section
variable{ps:c_}{vs:e_}{b o c:Nat}
noncomputable def rC0:Code:=Ae (dz f131)
noncomputable def rC1:Code:=Ae (wk (dz f131))
noncomputable def rC2:Code:=Ae (Ae (wk (wk (dz f131))))
noncomputable def rC3:Code:=Ae (wk (wk (wk (dz f131))))
theorem aTi:(f131).body=some (.seq rC0 (.seq rC1 (.seq (.seq rC2 (.block 0 (.loop (aF (ag f131 0))))) (.seq rC3 .ret)))):=k_
theorem aGn{cells:ah}(cK:∀ v∈cells,flat v=true){r:List (Nat×Nat)}(h1:(([.slice none 0 0,.slice none 0 0,.slice none 0 0]:ah).all (Ad r))=true)(h3:([sl 2 ps.length,.slice (some ⟨b,o,none⟩) vs.length c,sl 4 cc].all (Ad r))=true):∀ p∈yv ps (.slice (some ⟨b,o,none⟩) vs.length c) cells cc,ID r p.2:=λp hp=>by
 simp only[yv,ct,iX,iY]at hp;rcases hp with rfl|rfl|rfl|rfl|rfl
 ·exact λv hv=>bd.1 (dx ps) v hv
 ·exact h1
 ·exact λv hv=>bd.1 (dx ps) v hv
 ·exact h3
 ·exact cK
def Rl(B:aa)(ps:c_)(vs:e_)(v2:i_)(i:Nat)(a:Act)(w:h_):Prop:=
 ∃ ks cells,Ar B ((cT ps vs i).map eR) ks cells/\Kept ks cells/\St (B.jO ks) 57 (Ej ps.length i v2) (yv ps v2 cells (cT ps vs i).length) 5 a w
theorem aTj{m:Nat}(rk:∀ k,B.mp k=none)(hi:i<ps.length)(cd:∀ p∈ps,bM m p/\p.n≠0)(aQ:∀ v∈vs,aw m v)(hm:300*m+1000<=az)(h63:ps.length<=500)(iz:vs.length<900000)
  (iF:∀ w,B.G w->dp w (.slice (some ⟨b,o,none⟩) vs.length c) vs.length (aG vs)) (eL:∀ p∈ps,¬(ck p vs vs.length).length<3->Jg p vs) {a:Act} {w:h_} (h:Rl B ps vs (.slice (some ⟨b,o,none⟩) vs.length c) i a w)
  (K:Act->World->Prop) (Q:Exit->Act->World->Prop) (hK:∀ a' w',Rl B ps vs (.slice (some ⟨b,o,none⟩) vs.length c) (i+1) a' w'->K a' w'):(aF (ag f131 0)).wpIn (FW none) 0 prog (Exit.then K Q) a w:=by
 obtain⟨ks,cells,hF,Rm,hS⟩:=h;have jn:ps[i]?=some ps[i]:=aT hi;have mO:kL ps vs i=rP ps vs i ps[i]:=by unfold kL;rw[jn]
 obtain⟨ig,ED⟩:=aFb hF hS;have Md:(cT ps vs i).length<=500:=by have:=I3 ps vs i;omega
 have aGo:∀ w,(B.jO ks).G w->dp w (.slice (some ⟨b,o,none⟩) vs.length c) vs.length (aG vs):=λw h=>iF w h.1;have stay:kL ps vs i=[]->∀ a' w',St (B.jO ks) 57 (Ej ps.length (i+1) (.slice (some ⟨b,o,none⟩) vs.length c)) (yv ps (.slice (some ⟨b,o,none⟩) vs.length c) cells (cT ps vs i).length) 5 a' w'->K a' w':=by
  intro he a' w' h';have e:cT ps vs (i+1)=cT ps vs i:=by rw[Mb,he,jh]
  exact hK a' w' ⟨ks,cells,by rw[e];exact hF,Rm,by rw[e];exact h'⟩
 by_cases uo:oG ps i ps[i]=true
 ·have he:kL ps vs i=[]:=by rw[mO];unfold rP;rw[ax (show(ps.take i).any (λq=>decide (canon ps[i]=canon q))=true from uo)]
  exact qL (aTe hi jn cd hm h63 uo) hS λa' w' h'=>stay he a' w' h'
 ·have I4:oG ps i ps[i]=false:=by simpa using uo
  by_cases ho:(ck ps[i] vs vs.length).length<3
  ·have he:kL ps vs i=[]:=by rw[mO];unfold rP;rw[ao (show ¬(ps.take i).any (λq=>decide (canon ps[i]=canon q))=true from uo),ax ho]
   exact qL (aTf hi jn cd aQ hm h63 iz I4 aGo ho) hS λa' w' h'=>stay he a' w' h'
  ·have hlk:=eL _ (cY hi) ho;have he:kL ps vs i=[(i,order ps[i].n (aJ vs) (ck ps[i] vs vs.length))]:=by rw[mO];unfold rP;rw[ao (show ¬(ps.take i).any (λq=>decide (canon ps[i]=canon q))=true from uo),ao ho,ax (by rw[hlk.len];omega)]
   refine qL (aTg hi jn cd aQ hm h63 iz I4 aGo ho hlk ig Md ED) hS λa' w' h'=>?_;show K a' w';obtain⟨u,hu,xD,h2⟩:=h'.Qb (m:=5) (k:=7) rfl (iv _) rfl d_;have e:cT ps vs (i+1)=cT ps vs i++[(i,order ps[i].n (aJ vs) (ck ps[i] vs vs.length))]:=by rw[Mb,he]
   have Ci:=hF.snoc (i:=i) (l:=order ps[i].n (aJ vs) (ck ps[i] vs vs.length)) hu xD;refine hK a' w' ⟨_,cells++[vI i,u],by rw[e,rW];exact Ci,Rm.snoc i u _,?_⟩;rw[e,kP];have cK:=Ci.flat;generalize cells++[vI i,u]=cells' at *;exact h2.Ly rk [(0,0),(1,1),(2,2),(3,3),(4,7)] k_ rfl (aGn cK k_ k_) k_ k_ k_ k_ k_
theorem aTk(ps:c_):((bB ps).drop 0).take (ps.length*40)=bB ps:=by rw[mg,j8 (by rw[D9];exact bA _)]
theorem aTl{m:Nat}(cd:∀ p∈ps,bM m p/\p.n≠0)(aQ:∀ v∈vs,aw m v)(hm:300*m+1000<=az)(h63:ps.length<=500)(iz:vs.length<900000)(eL:∀ p∈ps,¬(ck p vs vs.length).length<3->Jg p vs):
  aFo prog 131 50 40 ps.length (bB ps) vs.length (aG vs) (iu ((cT ps vs ps.length).map eR)):=by
 intro w v1 b o c uk nH;have cv:u9 w [fO ps,.p (.slice (some ⟨b,o,none⟩) vs.length c)] [v1,.slice (some ⟨b,o,none⟩) vs.length c]:=.cons uk (.cons rfl .nil);have au:([fO ps,.p (.slice (some ⟨b,o,none⟩) vs.length c)].all aL.ok)=true:=by simp only[dT,eC,W7,jy,gp];rfl
 obtain⟨ι,cc,h1,h2,h3,h4,h5,h6,h7⟩:=xJ cv (bd.1 au) 0 _ _ (tH w) n_ (λ_ _=>rfl);have rk:∀ k,(aa.at w).mp k=none:=λ_=>rfl;have iF:∀ w',(aa.at w).G w'->dp w' (.slice (some ⟨b,o,none⟩) vs.length c) vs.length (aG vs):=λw' hb=>nH.jO hb;refine aDs (N:=57) (B:=(aa.at w).jO []) func131 aTi k_ h6 (aDl h2) h4 h3 rfl λa bT=>?_;have Db:=aTk ps;have rO:=D9 ps
 have g0:∀ B:aa,af prog B 57 rC0 (jR 0 (eG 0 [fO ps,.p (.slice (some ⟨b,o,none⟩) vs.length c)])) (ji 0 [fO ps,.p (.slice (some ⟨b,o,none⟩) vs.length c)]) 1
   ⟨.normal,[(4,ptr 1),(0,sl 0 ps.length),(1,.slice (some ⟨b,o,none⟩) vs.length c)],[(0,.view (bB ps)),(1,.aI [.slice none 0 0,.slice none 0 0,.slice none 0 0] 26)],2⟩:=λB=>aC []
 have g1:∀ B:aa,af prog B 57 rC1 [(4,ptr 1),(0,sl 0 ps.length),(1,.slice (some ⟨b,o,none⟩) vs.length c)] [(0,.view (bB ps)),(1,.aI [.slice none 0 0,.slice none 0 0,.slice none 0 0] 26)] 2
   ⟨.normal,[(4,ptr 1),(5,ptr 4),(0,sl 0 ps.length),(1,.slice (some ⟨b,o,none⟩) vs.length c)],[(0,.view (bB ps)),(1,.aI [.slice none 0 0,.slice none 0 0,.slice none 0 0] 26),(3,.row (bB ps) 50 40),(4,.aI [sl 3 ps.length,.slice (some ⟨b,o,none⟩) vs.length c,.slice none 0 0] 26)],5⟩:=λB=>
  aC [.Lz f131 10 2 50 40 (RP.v ⟨lX,gL⟩) k_,.QU f131 12 3 2 0 ps.length ps.length 50 40 480 0 0 [] 0 (.view (bB ps)) (bB ps) (ko _) rfl (by show(((bB ps).drop 0).take (ps.length*40)).length=_;rw[Db,rO]) rfl (by show[]++((bB ps).drop 0).take (ps.length*40)=_;rw[Db,jG]) (aET ps) d_ (by simp[maxLen];omega) o_ k_,.step 14 (aA f131 14) [sl 3 ps.length,.slice (some ⟨b,o,none⟩) vs.length c] [] (.agg #[sl 3 ps.length,.slice (some ⟨b,o,none⟩) vs.length c,.slice none 0 0]) [] (P1 (t:=26) (idx:=[0,1]) k_ (λit z h1 h2=>aFl h1 h2) k_)]
 have g2:∀ B:aa,af prog B 57 rC2 [(4,ptr 1),(5,ptr 4),(0,sl 0 ps.length),(1,.slice (some ⟨b,o,none⟩) vs.length c)]
    [(0,.view (bB ps)),(1,.aI [.slice none 0 0,.slice none 0 0,.slice none 0 0] 26),(3,.row (bB ps) 50 40),(4,.aI [sl 3 ps.length,.slice (some ⟨b,o,none⟩) vs.length c,.slice none 0 0] 26)] 5
   ⟨.normal,[(6,vI 0),(0,sl 0 ps.length),(1,.slice (some ⟨b,o,none⟩) vs.length c),(4,ptr 1),(5,ptr 4)],[(0,.view (bB ps)),(1,.aI [.slice none 0 0,.slice none 0 0,.slice none 0 0] 26),(3,.row (bB ps) 50 40),(4,.aI [sl 3 ps.length,.slice (some ⟨b,o,none⟩) vs.length c,.slice none 0 0] 26)],5⟩:=λB=>aC []
 refine l9 (qL (g0 _) bT λa1 w1 s1=>?_);refine l9 (qL (g1 _) s1 λa2 w2 s2=>?_);refine l9 (l9 (qL (g2 _) s2 λa3 w3 s3=>?_));refine JL ?_;have s4:=St.aRD (k:=4) (pre:=[sl 3 ps.length,.slice (some ⟨b,o,none⟩) vs.length c]) (post:=[]) (tb:=26) s3 rfl 47 2;have i0:Rl (aa.at w) ps vs (.slice (some ⟨b,o,none⟩) vs.length c) 0 a3 w3:=⟨[],[],.nil,λv h=>(by cases h),s4.Ly rk [(0,0),(1,1),(2,3),(3,4),(4,5)] k_ rfl (aGn n_ k_ k_) k_ k_ k_ k_ k_⟩;refine aDq ps.length (Rl (aa.at w) ps vs (.slice (some ⟨b,o,none⟩) vs.length c)) i0 (λi hi a' w' h' K hK=>aTj rk hi cd aQ hm h63 iz iF eL h' K _ hK) λa' w' h'=>?_;obtain⟨ks,cells,hF,Rm,hS⟩:=h';have fM:aH:=yv ps (.slice (some ⟨b,o,none⟩) vs.length c) cells (cT ps vs ps.length).length;refine qL (r:=⟨.exit 0,[(4,ptr 1),(5,ptr 3)],yv ps (.slice (some ⟨b,o,none⟩) vs.length c) cells (cT ps vs ps.length).length,5⟩) (aC [.lt 18 ps.length ps.length false s_]) hS λa4 w4 s4=>?_;show Code.wpIn _ _ _ _ _ _ _;refine l9 (qL (r:=⟨.normal,[(4,ptr 1)],[(1,.aI [sl 2 ps.length,.slice (some ⟨b,o,none⟩) vs.length c,sl 4 (cT ps vs ps.length).length] 26),(2,.row (bB ps) 50 40),(4,.row cells 47 2)],5⟩) (aC []) s4 λa5 w5 s5=>?_);refine wpIn_ret ?_;refine(aDt s5 rfl (v:=.agg #[sl 2 ps.length,.slice (some ⟨b,o,none⟩) vs.length c,sl 4 (cT ps vs ps.length).length]) k_ λay b9 v' bF Cj hc=>?_).1;obtain⟨us,rfl,KZ⟩:=hc.GY;obtain⟨u1,u2,u3,e3,c1,c2,c3⟩:=Jy KZ;have e2:=c2.fk rfl;subst e2;rw[show(cT ps vs ps.length).length=((cT ps vs ps.length).map eR).length by rw[dr]]at c3;have ho:=hF.out bF (Cj 4 _ rfl) c3;have jE:=wZ bF.aTh (Cj 2 _ rfl) c1 (by rw[rO];exact bA _) (bd.1 (dx ps));rw[<-rO,ox]at jE;refine⟨u1,u3,?_,jE,ho.1,λb' kR=>O9 (ho.2 b' kR),λb' kR Ci=>?_,bF.base.1⟩
 ·congr 2
  rw[<-zK (xs:=us),e3]
 ·obtain⟨o1,lG,q1⟩:=IF bF c1 kR;have E1:=bF.own 2 _ b' o1 lG (Cj 2 _ rfl) rfl q1;rcases Ci with Ci|⟨b2,oo,qb,j,u,e,hj,lg,gW⟩
  ·obtain⟨o4,aTm,q4⟩:=IF bF c3 Ci;have:=bF.inj 2 4 _ _ b' o1 lG o4 aTm (Cj 2 _ rfl) rfl (Cj 4 _ rfl) rfl q1 q4;cases this
  ·have hf:=hF.cells _ bF.base.2;have hl:=hf.length;have hr:=oS (len:=((cT ps vs ps.length).map eR).length*2) bF (Cj 4 _ rfl) rfl hF.flat (λe=>by rw[e]) c3;have hr:dp w5 u3 ((cT ps vs ps.length).map eR).length cells:=by
    have e:((Obj.row cells 47 2).cells.drop 0).take (((cT ps vs ps.length).map eR).length*2)=cells:=by rw[mg];exact j8 (vC hl)
    rwa[e]at hr
   obtain⟨q,hq,e'⟩:=Rm u (P3 hr hf e hj lg) b' gW;exact E1.2 (.inr ⟨q,hq,e'⟩)
end
section
variable{ps:c_}{m M:Nat}
structure rT(ps:c_)(m M:Nat):Prop where
 len:ps.length<=9
 pl:∀ p∈ps,bM m p/\p.n≠0
 low:120*m+365<=M
 lim:1000*M+10000<=az
theorem rT.sz(h:rT ps m M):(∀ v∈fv ps,aw M v)/\(fv ps).length<=81*9:=by obtain⟨h1,h2⟩:=Xr h.pl h.low h.len ps.length (bA _);refine⟨h1,di h2 ?_⟩;have:=h.len;omega
theorem rT.tB(h:rT ps m M):m<=M/\1000*m+10000<=az/\200*m+1000<=az/\100*M+1000<=az/\300*M+1000<=az/\m<=az/\M<=az:=by have h1:=h.low;have h2:=h.lim;have hmM:m<=M:=di (di (VR m (by decide:0<120)) (J7 _ 365)) h1;have q1:1000*m+10000<=az:=di (Gy (jJ _ hmM) _) h2;have q2:200*m+1000<=az:=di (KL (eh m (by decide:200<=1000)) d_) q1;have q3:100*M+1000<=az:=di (KL (eh M (by decide:100<=1000)) d_) h2;have q4:300*M+1000<=az:=di (KL (eh M (by decide:300<=1000)) d_) h2;have q5:m<=az:=di (di (VR m (by decide:0<200)) (J7 _ 1000)) q2;have q6:M<=az:=di (di (VR M (by decide:0<1000)) (J7 _ 10000)) h2;exact⟨hmM,q1,q2,q3,q4,q5,q6⟩
theorem rT.all(h:rT ps m M):bw prog 127 [fO ps] b_:=by
 have:=aFA (ps:=ps.map db) (m:=m) (λx hx=>by obtain⟨p,hp,rfl⟩:=dj.1 hx;exact aEt (h.pl p hp).1) h.tB.2.2.2.2.2.1 (by rw[dr];have:=h.len;omega)
 rw[dr,show(ps.map db).all mF=true by rw[bd];intro x hx;obtain⟨p,hp,rfl⟩:=dj.1 hx;rw[aEs];exact aE (h.pl p hp).2]at this
 exact this
noncomputable def XM(h:rT ps m M)(ht:wC ps=t)(more:bL prog Bs 29):bL prog Bs 29:=
 .cR f73 7 [sl 0 ps.length] h.all (.w (x:=.view (bB ps)) rfl (dx ps) jm .nil)::
 .gt 13 ps.length 100 false (aO (by have:=h.len;omega))::
 .cR f73 17 [sl 0 ps.length] (ht▸aR4 (λp hp=>(h.pl p hp).1) h.tB.2.1 (by have:=h.len;omega)) (.w (x:=.view (bB ps)) rfl (dx ps) jm .nil)::more
noncomputable def aGp(h:rT ps m M)(ht:vu (fv ps)=!t)(more:bL prog Bs 29):bL prog Bs 29:=
 .step 21 (aA f73 21) [.func (.func 129) #[] #[],sl 0 ps.length] [(2,none),(0,some (.view (bB ps)))] (sl 2 (fv ps).length) [(2,.row (aG (fv ps)) 38 30)]
  (qF (aSn h.pl h.tB.2.2.1 h.low h.tB.2.2.2.1 h.len) (.w (x:=.view (bB ps)) rfl (dx ps) jm .nil) (x:=.func 129) k_ k_ (cW _) 2)::
 .cR f73 23 [sl 2 (fv ps).length] (by have:=aSs h.sz.1 h.tB.2.2.2.2.1 (by have:=h.sz.2;omega);rw[ht,Bool.not_not]at this;exact this) (.w (x:=.row (aG (fv ps)) 38 30) rfl (cW _) oB .nil)::more
theorem aTn{rs:List RP}(hs:∀ x∈rs,vt m x)(hm:m<=az)(h63:rs.length<9223372036854775807)(hb:rs.all mF=false):bw prog 73 [.r rs.length (dw rs)] (.tuple #[Ec,de 1]):=by
 have ha:=aFA hs hm h63;rw[hb]at ha;have au:([aL.r rs.length (dw rs)].all aL.ok)=true:=by simp only[dT,eC,aL.ok,gK ja,gp]
 exact cC func73 au 29 (λ_=>[.cR f73 7 [sl 0 rs.length] ha (.w (x:=.view (dw rs)) rfl (gK ja rs) (λh=>by rw[kO h];rfl) .nil)])
theorem aTo(h:rT ps m M)(hc:wC ps=false):bw prog 73 [fO ps] (.tuple #[Ec,de 13]):=
 cC func73 (Ed ps) 29 (λ_=>XM h hc [])
theorem aTp(h:rT ps m M)(hc:wC ps=true)(hi:vu (fv ps)=true):bw prog 73 [fO ps] (.tuple #[Ec,de 12]):=
 cC func73 (Ed ps) 29 (λ_=>XM h hc (aGp (t:=false) h hi []))
def yw(ps:c_):f_:=(cT ps (fv ps) ps.length).map eR
theorem aGq(h:rT ps m M)(hc:wC ps=true)(hi:vu (fv ps)=false)(eL:∀ p∈ps,¬(ck p (fv ps) (fv ps).length).length<3->Jg p (fv ps)):
  B8 prog 73 [fO ps] 50 40 ps.length (bB ps) 38 30 (fv ps).length (aG (fv ps)) (iu (yw ps)) [de 0]:=by
 have aTq:=aTl (ps:=ps) (vs:=fv ps) (m:=M) (λp hp=>⟨(h.pl p hp).1.mono h.tB.1,(h.pl p hp).2⟩) h.sz.1 h.tB.2.2.2.2.1 (by have:=h.len;omega) (by have:=h.sz.2;omega) eL;have zn:0<(fv ps).length:=by
  rcases nF (fv ps).length with h0|h0
  ·rw[kO h0]at hi;cases hi
  ·exact h0
 refine V4 (k1:=3) (k2:=2) (k3:=4) mixed func73 (Ed ps) 100 (N:=29) k_ (λw=>XM h hc (aGp (t:=true) h hi [
  .step 28 (aA f73 28) [.func (.func 131) #[] #[],sl 0 ps.length,sl 2 (fv ps).length] [(3,none),(4,none),(0,some (.view (bB ps))),(2,some (.row (aG (fv ps)) 38 30))]
   (.agg #[sl 3 ps.length,sl 2 (fv ps).length,cy 4]) [(4,.fact ((iu (yw ps)).mE w.heap.size)),(3,.row (bB ps) 50 40)]
   (aRE (B:=aa.at w) (S:=w.heap.size) aTq (.w (x:=.view (bB ps)) rfl (dx ps) jm (.w (x:=.row (aG (fv ps)) 38 30) rfl (cW _) oB .nil)) (x:=.func 131) k_ k_ rfl (dx ps) zn (λw' hb=>Below.size hb) 3)])) (λw=>?_) d_ (dx ps) (D9 ps) (cW _) (nN _) k_
 kernel_rfl
end
def kj(rs:List RP)(vs:List RV)(fs:f_):aL:=.s rs.length (dw rs) vs.length (cV vs) (iA fs)
theorem aGr(rs:List RP)(vs:List RV)(fs:f_):(kj rs vs fs).ok=true:=by show((dw rs).all flat&&((cV vs).all flat&&true))=true;rw[gK ja,gK fD];rfl
theorem XN{rs:List RP}(h:rs.length=0):dw rs=[]:=by rw[kO h];rfl
theorem aTr{a b:List Int}(h63:a.length<9223372036854775807):bw prog 150 [.o (eg a),.o (eg b)] (.bool (decide (a=b))):=by
 have au:([aL.o (eg a),.o (eg b)].all aL.ok)=true:=rfl;by_cases hl:a.length=b.length
 ·rcases nF a.length with h0|h0
  ·have ha:=kO h0;have hb:=kO (hl▸h0);subst ha;subst hb;exact cC func150 au 26 (λw=>[.step 7 (aA f150 7) [cy 0] [(0,some (.fact (eg [])))] (vI 0) [] (tt k_),.step 9 (aA f150 9) [cy 1] [(1,some (.fact (eg [])))] (vI 0) [] (tt k_),.step 13 (aA f150 13) [cy 0] [(0,some (.fact (eg [])))] (vI 0) [] (tt k_)])
  ·intro w vs cv;cases cv with
   |cons h1 cv=>
   cases cv with
   |cons h2 cv=>
   cases cv;have r1:dp w _ a.length (fE a):=nS.row h1.1 h0;have r2:dp w _ b.length (fE b):=nS.row h2.1 o_;exact aQr h63 w _ (.cons r1 (.cons r2 .nil))
 ·have bZ:a≠b:=λh=>hl (by rw[h]);rw[aO bZ];exact cC func150 au 26 (λw=>[.step 7 (aA f150 7) [cy 0] [(0,some (.fact (eg a)))] (vI a.length) [] (tt k_),.step 9 (aA f150 9) [cy 1] [(1,some (.fact (eg b)))] (vI b.length) [] (tt k_),.rw 10 _ b_ (uj (x:=a.length) (y:=b.length) (by simp[hl]))])
section
variable{Bs:aa}{ra rb:List RP}{va vb:List RV}{fa fb:f_}
def Mu(ra:List RP)(va:List RV)(fa:f_)(k:Nat):Obj:=.aI [sl k ra.length,sl (k+1) va.length,cy (k+2)] 26
def aWR(i:Nat):aN:=[(5,vI i),(2,ptr 6),(3,ptr 7)]
def wG(ra rb:List RP)(va vb:List RV)(fa fb:f_):aH:=[(0,.view (dw ra)),(3,.view (dw rb)),(6,Mu ra va fa 0),(7,Mu rb vb fb 3)]
noncomputable def smS{x y:RP}(hi:i<ra.length)(gy:i<rb.length)(hx:ra[i]?=some x)(hy:rb[i]?=some y)(sx:x.Sm)(sy:y.Sm)(ht:(!t)=true↔x=y)(more:bL prog Bs 85):bL prog Bs 85:=
 .lt 35 i ra.length true (aE hi)::.cM f91 41 0 ra.length i 40 hi k_::.ld f91 42 50 0 (i*40) (.view (dw ra)) x.v rfl (v8 hx) k_::.cM f91 46 3 rb.length i 40 gy k_::.ld f91 47 50 3 (i*40) (.view (dw rb)) y.v rfl (v8 hy) k_::
  .step 48 (aA f91 48) [x.v,y.v] [] (.bool t) [] (Uv (neg:=false) k_ x y sx sy ht)::more
theorem aXh{x:RP}(hi:i<ra.length)(gy:i<rb.length)(hx:ra[i]?=some x)(hy:rb[i]?=some x)(sx:x.Sm)(h63:ra.length<9223372036854775807):
  af prog Bs 85 (aF (ag f91 0)) (aWR i) (wG ra rb va vb fa fb) 8 ⟨.normal,aWR (i+1),wG ra rb va vb fa fb,8⟩:=
 aC (smS (t:=false) hi gy hx hy sx sx s_ [.sum 37 i 1 (i+1) rfl o_])
theorem aTs{x y:RP}(hi:i<ra.length)(gy:i<rb.length)(hx:ra[i]?=some x)(hy:rb[i]?=some y)(sx:x.Sm)(sy:y.Sm)(bj:x≠y):
  af prog Bs 85 (aF (ag f91 0)) (aWR i) (wG ra rb va vb fa fb) 8 ⟨.ret,[(4,.bool false)],wG ra rb va vb fa fb,8⟩:=
 aC (smS (t:=true) hi gy hx hy sx sy (by simp[bj]) [])
theorem aTt:af prog Bs 85 (aF (ag f91 0)) (aWR ra.length) (wG ra rb va vb fa fb) 8 ⟨.exit 0,[(2,ptr 6),(3,ptr 7)],wG ra rb va vb fa fb,8⟩:=
 aC [.lt 35 ra.length ra.length false s_]
def yx(i:Nat):aN:=[(6,vI i),(2,ptr 6),(3,ptr 7)]
def po(ra rb:List RP)(va vb:List RV)(fa fb:f_):aH:=[(2,.fact (iA fa)),(5,.fact (iA fb)),(6,Mu ra va fa 0),(7,Mu rb vb fb 3)]
theorem aTu:∀ x∈po ra rb va vb fa fb,fe 8 x.2:=λx hx=>by
 simp only[po,ct,iX,iY]at hx;rcases hx with rfl|rfl|rfl|rfl
 ·exact λv hv=>(by cases hv)
 ·exact λv hv=>(by cases hv)
 ·intro v hv;have hv:v∈[sl 0 ra.length,sl 1 va.length,cy 2]:=hv;simp at hv;rcases hv with rfl|rfl|rfl<;>rfl
 ·intro v hv;have hv:v∈[sl 3 rb.length,sl 4 vb.length,cy 5]:=hv;simp at hv;rcases hv with rfl|rfl|rfl<;>rfl
def vw(f:Int×List Int)(k:Nat):Obj:=.view [iV f.1,cy (k+1)]
noncomputable def Rn(key m k i:Nat){f:Int×List Int}(hi:fs[i]?=some f)(IA:m<k)(ho:w6 prog (aA f91 key)=some 2):aU prog Bs 85:=
 .step key (aA f91 key) [cy m,vI i] [(k,none),(k+1,none),(m,some (.fact (iA fs)))] (ptr k) [(k,vw f k),(k+1,.fact (eg f.2))] (GA ho (.self fs) hi IA)
noncomputable def XO{f:Int×List Int}(hi:i<fa.length)(h1:fa[i]?=some f)(h2:fb[i]?=some f')(ht:decide (f.1≠f'.1)=t)(more:bL prog Bs 85):bL prog Bs 85:=
 .step 52 (aA f91 52) [cy 2] [(2,some (.fact (iA fa)))] (vI fa.length) [] (tn k_ (.self fa))::.lt 53 i fa.length true (aE hi)::Rn 59 2 8 i h1 d_ k_::Rn 65 5 10 i h2 d_ k_::.rw 68 _ (.bool t) (neZ ht)::more
noncomputable def sfT{f:Int×List Int}(h1:fa[i]?=some f)(h2:fb[i]?=some f')(h63:f.2.length<9223372036854775807)(ht:decide (f.2=f'.2)=t)(more:bL prog Bs 85):bL prog Bs 85:=
 Rn 73 2 12 i h1 d_ k_::Rn 79 5 14 i h2 d_ k_::
  .cR f91 82 [cy 13,cy 15] (ht▸aTr h63) (.o (.o .nil))::more
theorem aGs{f:Int×List Int}(hi:i<fa.length)(q1:fa[i]?=some f)(q2:fb[i]?=some f')(h63:f.2.length<9223372036854775807)(aRN:fa.length<9223372036854775807)(ht:f=f'):
  af prog Bs 85 (aF (ag f91 2)) (yx i) (po ra rb va vb fa fb) 8 ⟨.normal,yx (i+1),po ra rb va vb fa fb,8⟩:=by
 have h1:decide (f.1≠f'.1)=false:=by rw[ht];simp
 have h2:decide (f.2=f'.2)=true:=by rw[ht];simp
 exact qZ mixed 100 (fC:=16) (XO hi q1 q2 h1 (sfT q1 q2 h63 h2 [.sum 55 i 1 (i+1) rfl o_])) k_ rfl k_ aTu k_
theorem aTv:af prog Bs 85 (aF (ag f91 2)) (yx fa.length) (po ra rb va vb fa fb) 8 ⟨.exit 2,[],po ra rb va vb fa fb,8⟩:=
 aC [.step 52 (aA f91 52) [cy 2] [(2,some (.fact (iA fa)))] (vI fa.length) [] (tn k_ (.self fa)),.lt 53 fa.length fa.length false s_]
def XP(ra rb:List RP)(va vb:List RV)(fa fb:f_):Bool:=decide (ra=rb)&&(decide (va=vb)&&decide (fa=fb))
noncomputable def GN{na:Bool}(h1:decide (ra.length≠rb.length)=na)(more:bL prog Bs 85):bL prog Bs 85:=.rw 13 _ (.bool na) (uj h1)::more
noncomputable def Jj{nb:Bool}(h2:decide (fa.length≠fb.length)=nb)(more:bL prog Bs 85):bL prog Bs 85:=
 .step 17 (aA f91 17) [cy 2] [(2,some (.fact (iA fa)))] (vI fa.length) [] (tn k_ (.self fa))::.step 20 (aA f91 20) [cy 5] [(5,some (.fact (iA fb)))] (vI fb.length) [] (tn k_ (.self fb))::.rw 21 _ (.bool nb) (uj h2)::more
noncomputable def Mv(hV:bw prog 149 [.r va.length (cV va),.r vb.length (cV vb)] (.bool t))(more:bL prog Bs 85):bL prog Bs 85:=
 .cR f91 28 [sl 1 va.length,sl 4 vb.length] hV (.w (x:=.view (cV va)) rfl (gK fD _) AD (.w (x:=.view (cV vb)) rfl (gK fD _) AD .nil))::more
theorem aTw(ha:∀ x∈ra,x.Sm)(hb:∀ x∈rb,x.Sm)(gm:∀ x∈va,x.Sm)(ll:∀ x∈vb,x.Sm)(hn:ra.length<9223372036854775807)(iz:va.length<9223372036854775807)(pW:fa.length<9223372036854775807)(pT:∀ f∈fa,f.2.length<9223372036854775807):
  bw prog 91 [kj ra va fa,kj rb vb fb] (.bool (XP ra rb va vb fa fb)):=by
 have au:([kj ra va fa,kj rb vb fb].all aL.ok)=true:=by simp only[dT,eC,aGr,z7]
 have hV:=aQo gm ll iz;unfold XP;unfold kj at *;by_cases hl:ra.length=rb.length
 ·have n13:decide (ra.length≠rb.length)=false:=by simp[hl]
  by_cases hf:fa.length=fb.length
  ·have n21:decide (fa.length≠fb.length)=false:=by simp[hf]
   by_cases Ro:va=vb
   ·rw[aE Ro]at hV;rw[aE Ro,jy];rcases DK ra rb hl with hp|⟨e,x,y,q1,q2,q3,q4⟩
    ·rw[aE hp,jy];have lo:∀ B:aa,af prog B 85 (.block 0 (ag f91 0)) (aWR 0) (wG ra rb va vb fa fb) 8 ⟨.normal,[(2,ptr 6),(3,ptr 7)],wG ra rb va vb fa fb,8⟩:=λB=>
      bO (id:=0) (ch ra.length (λi=>aWR i) (λ_=>wG ra rb va vb fa fb) (λi k _=>Iff.rfl) (λi hi=>by have hx:ra[i]?=some ra[i]:=aT hi;exact aXh hi o_ hx (by rw[<-hp];exact hx) (ha _ (cY hi)) hn) aTt n_)
     rcases DK fa fb hf with Pp|⟨e,x,y,q1,q2,q3,q4⟩
     ·rw[aE Pp];have vX:∀ B:aa,af prog B 85 (.block 2 (ag f91 2)) (yx 0) (po ra rb va vb fa fb) 8 ⟨.normal,[],po ra rb va vb fa fb,8⟩:=λB=>
       bO (id:=2) (ch fa.length (λi=>yx i) (λ_=>po ra rb va vb fa fb) (λi k _=>Iff.rfl) (λi hi=>by have hx:fa[i]?=some fa[i]:=aT hi;exact aGs hi hx (by rw[<-Pp];exact hx) (pT _ (cY hi)) pW rfl) aTv n_)
      exact iT mixed func91 au 200 (N:=85) k_ (λw=>GN n13 (Jj n21 (Mv hV [.code 0 _ _ _ _ _ (lo _),.code 2 _ _ _ _ _ (vX _)]))) (λ_=>k_) k_
     ·have bZ:fa≠fb:=λh=>by subst h;rw[q1]at q2;injection q2 with q2;exact q3 q2
      rw[aO bZ];have ak:=(eA.1 q1).1;have rounds:∀{B:aa},∀ i,i<e->af prog B 85 (aF (ag f91 2)) (yx i) (po ra rb va vb fa fb) 8 ⟨.normal,yx (i+1),po ra rb va vb fa fb,8⟩:=λi hi=>by have hx:fa[i]?=some fa[i]:=aT o_;have hy:fb[i]?=some fb[i]:=aT o_;exact aGs o_ hx hy (pT _ (cY _)) pW (q4 i _ _ hi hx hy)
      by_cases he:x.1=y.1
      ·have h1:decide (x.1≠y.1)=false:=by rw[he];simp
       have h2:decide (x.2=y.2)=false:=aO λe=>q3 (Prod.ext he e);have vX:∀ B:aa,af prog B 85 (.block 2 (ag f91 2)) (yx 0) (po ra rb va vb fa fb) 8 ⟨.ret,[(4,.bool false)],po ra rb va vb fa fb,16⟩:=λB=>
        bO (id:=2) (ch (r:=⟨.ret,[(4,.bool false)],po ra rb va vb fa fb,16⟩) e (λi=>yx i) (λ_=>po ra rb va vb fa fb) (λi k _=>Iff.rfl) rounds (aC (XO ak q1 q2 h1 (sfT q1 q2 (pT _ (cH q1)) h2 []))) n_)
       exact iT mixed func91 au 200 (N:=85) k_ (λw=>GN n13 (Jj n21 (Mv hV [.code 0 _ _ _ _ _ (lo _),.code 2 _ _ _ _ _ (vX _)]))) (λ_=>k_) k_
      ·have h1:decide (x.1≠y.1)=true:=aE he;have vX:∀ B:aa,af prog B 85 (.block 2 (ag f91 2)) (yx 0) (po ra rb va vb fa fb) 8 ⟨.ret,[(4,.bool false)],po ra rb va vb fa fb,12⟩:=λB=>
        bO (id:=2) (ch (r:=⟨.ret,[(4,.bool false)],po ra rb va vb fa fb,12⟩) e (λi=>yx i) (λ_=>po ra rb va vb fa fb) (λi k _=>Iff.rfl) rounds (aC (XO ak q1 q2 h1 [])) n_)
       exact iT mixed func91 au 200 (N:=85) k_ (λw=>GN n13 (Jj n21 (Mv hV [.code 0 _ _ _ _ _ (lo _),.code 2 _ _ _ _ _ (vX _)]))) (λ_=>k_) k_
    ·have bZ:ra≠rb:=λh=>by subst h;rw[q1]at q2;injection q2 with q2;exact q3 q2
     rw[aO bZ,zg];have ak:=(eA.1 q1).1;have lo:∀ B:aa,af prog B 85 (.block 0 (ag f91 0)) (aWR 0) (wG ra rb va vb fa fb) 8 ⟨.ret,[(4,.bool false)],wG ra rb va vb fa fb,8⟩:=λB=>
      bO (id:=0) (ch e (λi=>aWR i) (λ_=>wG ra rb va vb fa fb) (λi k _=>Iff.rfl) (λi hi=>by have hx:ra[i]?=some ra[i]:=aT o_;have hy:rb[i]?=some rb[i]:=aT o_;have:=q4 i _ _ hi hx hy;exact aXh o_ o_ hx (by rw[this];exact hy) (ha _ (cY _)) hn) (aTs ak o_ q1 q2 (ha _ (cH q1)) (hb _ (cH q2)) q3) n_)
     exact iT mixed func91 au 200 (N:=85) k_ (λw=>GN n13 (Jj n21 (Mv hV [.code 0 _ _ _ _ _ (lo _)]))) (λ_=>k_) k_
   ·rw[aO Ro]at hV;rw[aO Ro,zg,NG];exact iT mixed func91 au 200 (N:=85) k_ (λw=>GN n13 (Jj n21 (Mv hV []))) (λ_=>k_) k_
  ·have n21:decide (fa.length≠fb.length)=true:=by simp[hf]
   have bZ:fa≠fb:=λh=>hf (by rw[h]);rw[aO bZ,NG,NG];exact iT mixed func91 au 200 (N:=85) k_ (λw=>GN n13 (Jj n21 [])) (λ_=>k_) k_
 ·have n13:decide (ra.length≠rb.length)=true:=by simp[hl]
  have bZ:ra≠rb:=λh=>hl (by rw[h]);rw[aO bZ,zg];exact iT mixed func91 au 200 (N:=85) k_ (λw=>GN n13 []) (λ_=>k_) k_
end
section
variable{ps:c_}{m M:Nat}{rs:List RP}{vs:List RV}{fs:f_}
def Ek(ps:c_)(vs:List RV)(fs:f_):Bool:=
 !decide (fs.length<4)&&(!decide (vs.length<4)&&(wC ps&&(!vu (fv ps)&&(decide (vs=(fv ps).map cr)&&decide (fs=yw ps)))))
theorem Mw(rs:List RP)(vs:List RV)(fs:f_):([kj rs vs fs].all aL.ok)=true:=by simp only[dT,eC,aGr,z7]
noncomputable def Jk(k:Nat)(fs:f_):aU prog Bs 28:=.step 7 (aA f37 7) [cy k] [(k,some (.fact (iA fs)))] (vI fs.length) [] (tn k_ (.self fs))
theorem aGt(hf:fs.length<4):bw prog 37 [kj rs vs fs] a_:=by have au:=Mw rs vs fs;unfold kj at *;exact iT mixed func37 au 100 (N:=28) k_ (λw=>[Jk 2 fs,.lt 8 fs.length 4 true (aE hf)]) (λw=>k_) k_
theorem aGu(hf:¬fs.length<4)(hv:vs.length<4):bw prog 37 [kj rs vs fs] a_:=by have au:=Mw rs vs fs;unfold kj at *;exact iT mixed func37 au 100 (N:=28) k_ (λw=>[Jk 2 fs,.lt 8 fs.length 4 false (aO hf),.lt 13 vs.length 4 true (aE hv)]) (λw=>k_) k_
theorem aTx(hs:∀ x∈rs,vt m x)(hm:m<=az)(h63:rs.length<9223372036854775807)(hb:rs.all mF=false):bw prog 37 [kj rs vs fs] a_:=by
 by_cases hf:fs.length<4
 ·exact aGt hf
 by_cases hv:vs.length<4
 ·exact aGu hf hv
 have au:=Mw rs vs fs;have oJ:=aTn hs hm h63 hb;unfold kj at *;exact iT mixed func37 au 100 (N:=28) k_ (λw=>[Jk 2 fs,.lt 8 fs.length 4 false (aO hf),.lt 13 vs.length 4 false (aO hv),.cR f37 18 [sl 0 rs.length] oJ (.w (x:=.view (dw rs)) rfl (gK ja rs) XN .nil)]) (λw=>k_) k_
theorem aTy(h:rT ps m M)(eL:wC ps=true->vu (fv ps)=false->∀ p∈ps,¬(ck p (fv ps) (fv ps).length).length<3->Jg p (fv ps))(aQ:∀ x∈vs,x.Sm)(iz:vs.length<9223372036854775807)(pW:fs.length<9223372036854775807)(pT:∀ f∈fs,f.2.length<9223372036854775807):
  bw prog 37 [kj (ps.map db) vs fs] (.bool (Ek ps vs fs)):=by
 unfold Ek;by_cases hf:fs.length<4
 ·rw[aE hf];exact aGt hf
 by_cases hv:vs.length<4
 ·rw[aE hv,aO hf];exact aGu hf hv
 rw[aO hf,aO hv];have au:=Mw (ps.map db) vs fs;by_cases hc:wC ps=true
 ·rw[hc];by_cases hi:vu (fv ps)=true
  ·rw[hi];have oJ:=aTp h hc hi;unfold kj at *;rw[dr,show dw (ps.map db)=bB ps from rfl]at *;exact iT mixed func37 au 100 (N:=28) k_ (λw=>[Jk 2 fs,.lt 8 fs.length 4 false (aO hf),.lt 13 vs.length 4 false (aO hv),.cR f37 18 [sl 0 ps.length] oJ (.w (x:=.view (bB ps)) rfl (dx ps) jm .nil)]) (λw=>k_) k_
  ·have hi:vu (fv ps)=false:=by simpa using hi
   rw[hi];have oJ:=aGq h hc hi (eL hc hi);have smv:∀ x∈(fv ps).map cr,x.Sm:=λx hx=>by obtain⟨v,hv,rfl⟩:=dj.1 hx;exact(h.sz.1 v hv).sm h.tB.2.2.2.2.2.2
   have smp:∀ x∈ps.map db,x.Sm:=λx hx=>by obtain⟨p,hp,rfl⟩:=dj.1 hx;exact(h.pl p hp).1.sm (by have:=h.tB.2.2.2.2.2.1;exact this)
   have AK:=aTw (ra:=ps.map db) (rb:=ps.map db) (va:=vs) (vb:=(fv ps).map cr) (fa:=fs) (fb:=yw ps) smp smp aQ smv (by rw[dr];have:=h.len;omega) iz pW pT;unfold XP at AK;rw[aE rfl]at AK;unfold aG at oJ;unfold kj at *;rw[dr,show dw (ps.map db)=bB ps from rfl]at au AK ⊢;have hlen:(fv ps).length=((fv ps).map cr).length:=by rw[dr]
   rw[hlen]at oJ;generalize (fv ps).map cr=cQ at *;rw[jy]at AK;have e0:(!false&&(!false&&(true&&(!false&&(decide (vs=cQ)&&decide (fs=yw ps))))))=(decide (vs=cQ)&&decide (fs=yw ps)):=by simp
   rw[e0];generalize (decide (vs=cQ)&&decide (fs=yw ps))=t at *;refine iT mixed func37 au 100 (N:=28) k_ (λw=>[Jk 2 fs,.lt 8 fs.length 4 false (aO hf),.lt 13 vs.length 4 false (aO hv),.step 18 (aA f37 18) [.func (.func 73) #[] #[],sl 0 ps.length] [(4,none),(5,none),(6,none),(0,some (.view (bB ps)))] (.tuple #[.agg #[sl 4 ps.length,sl 5 cQ.length,cy 6],de 0]) [(6,.fact ((iu (yw ps)).mE w.heap.size)),(5,.row (cV cQ) 38 30),(4,.row (bB ps) 50 40)]
     (LD (B:=aa.at w) (S:=w.heap.size) oJ (.w (x:=.view (bB ps)) rfl (dx ps) jm .nil) (x:=.func 73) k_ k_ rfl (dx ps) (gK fD _) rfl (λw' hb=>Below.size hb) 4),
    .step 26 (aA f37 26) [.func (.func 91) #[] #[],.agg #[sl 0 ps.length,sl 1 vs.length,cy 2],.agg #[sl 4 ps.length,sl 5 cQ.length,cy 6]] [(0,some (.view (bB ps))),(1,some (.view (cV vs))),(2,some (.fact (iA fs))),(4,some (.row (bB ps) 50 40)),(5,some (.row (cV cQ) 38 30)),(6,some (.fact ((iu (yw ps)).mE w.heap.size)))] (.bool t) []
     (pb AK (.s (x1:=.view (bB ps)) (x2:=.view (cV vs)) rfl (dx ps) jm rfl (gK fD _) AD (.si (aFr _ _) (x1:=.row (bB ps) 50 40) (x2:=.row (cV cQ) 38 30) rfl (dx ps) jm rfl (gK fD _) AD .nil)) (x:=.func 91) k_ k_ rfl)]) (λw=>?_) k_
   kernel_rfl
 ·have hc:wC ps=false:=by simpa using hc
  rw[hc];have oJ:=aTo h hc;unfold kj at *;rw[dr,show dw (ps.map db)=bB ps from rfl]at *;exact iT mixed func37 au 100 (N:=28) k_ (λw=>[Jk 2 fs,.lt 8 fs.length 4 false (aO hf),.lt 13 vs.length 4 false (aO hv),.cR f37 18 [sl 0 ps.length] oJ (.w (x:=.view (bB ps)) rfl (dx ps) jm .nil)]) (λw=>k_) k_
end
section
variable{ps:c_}{v:V3 K}
end
section
variable{Bs:aa}{rs:List RP}{vs:List RV}{fs:f_}
def GO(i:Nat):aN:=[(3,vI i),(1,ptr 3)]
def uz(rs:List RP)(vs:List RV)(fs:f_):aH:=[(2,.fact (iA fs)),(3,Mu rs vs fs 0)]
theorem aTz:∀ x∈uz rs vs fs,fe 4 x.2:=λx hx=>by
 simp only[uz,ct,iX,iY]at hx;rcases hx with rfl|rfl
 ·exact λv hv=>(by cases hv)
 ·intro v hv;have hv:v∈[sl 0 rs.length,sl 1 vs.length,cy 2]:=hv;simp at hv;rcases hv with rfl|rfl|rfl<;>rfl
noncomputable def XQ(fs:f_)(key:Nat)(ho:LA prog (aA f7 key)=true):aU prog Bs 33:=.step key (aA f7 key) [cy 2] [(2,some (.fact (iA fs)))] (vI fs.length) [] (tn ho (.self fs))
noncomputable def fwS{f:Int×List Int}(hi:i<fs.length)(h1:fs[i]?=some f)(ht:decide (f.2.length>12)=t)(more:bL prog Bs 33):bL prog Bs 33:=
 XQ fs 7 k_::.lt 8 i fs.length true (aE hi)::.step 14 (aA f7 14) [cy 2,vI i] [(4,none),(4+1,none),(2,some (.fact (iA fs)))] (ptr 4) [(4,vw f 4),(4+1,.fact (eg f.2))] (GA k_ (.self fs) h1 d_)::
  .step 17 (aA f7 17) [cy 5] [(5,some (.fact (eg f.2)))] (vI f.2.length) [] (tt k_)::.gt 18 f.2.length 12 t ht::more
theorem aGv{f:Int×List Int}(hi:i<fs.length)(h1:fs[i]?=some f)(h63:fs.length<9223372036854775807)(ht:f.2.length<=12):
  af prog Bs 33 (aF (ag f7 0)) (GO i) (uz rs vs fs) 4 ⟨.normal,GO (i+1),uz rs vs fs,4⟩:=
 qZ mixed 100 (fC:=6) (fwS (f:=f) hi h1 (aO o_) [.sum 10 i 1 (i+1) rfl o_]) k_ rfl k_ aTz k_
theorem aTA{f:Int×List Int}(hi:i<fs.length)(h1:fs[i]?=some f)(ht:¬f.2.length<=12):
  af prog Bs 33 (aF (ag f7 0)) (GO i) (uz rs vs fs) 4 ⟨.ret,[(2,.bool false)],uz rs vs fs,6⟩:=
 aC (fwS (f:=f) hi h1 (aE o_) [])
def Jl(rs:List RP)(vs:List RV)(fs:f_):Bool:=
 fs.all (λf=>decide (f.2.length<=12))&&(Mj rs 9&&((vs.all (λx=>oF x 12)&&decide (vs.length<=20))&&decide (fs.length<=12)))
noncomputable def XR{t1:Bool}(hP:bw prog 33 [.r rs.length (dw rs),.p (vI 9)] (.bool t1))(more:bL prog Bs 33):bL prog Bs 33:=
 .cR f7 21 [sl 0 rs.length,vI 9] hP (.w (x:=.view (dw rs)) rfl (gK ja rs) XN (.p rfl .nil))::more
noncomputable def fwV{t2:Bool}(hV:bw prog 34 [.r vs.length (cV vs),.p (vI 20),.p (vI 12)] (.bool t2))(more:bL prog Bs 33):bL prog Bs 33:=
 .cR f7 25 [sl 1 vs.length,vI 20,vI 12] hV (.w (x:=.view (cV vs)) rfl (gK fD vs) AD (.p rfl (.p rfl .nil)))::more
theorem aTB(GP:rs.length<9223372036854775807)(iz:vs.length<9223372036854775807)(pW:fs.length<9223372036854775807):bw prog 7 [kj rs vs fs] (.bool (Jl rs vs fs)):=by
 have au:=Mw rs vs fs;unfold Jl;unfold kj at *;have hP:=aRX (ps:=rs) 9 GP;have hV:=aRS (vs:=vs) (k:=12) 20 iz;rcases Ck (λf:Int×List Int=>decide (f.2.length<=12)) fs with h|⟨e,x,h1,h2,h3,h4⟩
 ·rw[h,jy];have lo:∀ B:aa,af prog B 33 (.block 0 (ag f7 0)) (GO 0) (uz rs vs fs) 4 ⟨.normal,[(1,ptr 3)],uz rs vs fs,4⟩:=λB=>
   bO (id:=0) (ch (r:=⟨.exit 0,[(1,ptr 3)],uz rs vs fs,4⟩) fs.length (λi=>GO i) (λ_=>uz rs vs fs) (λi k _=>Iff.rfl) (λi hi=>by have hx:fs[i]?=some fs[i]:=aT hi;exact aGv hi hx pW (jz (Ee h hx))) (aC [XQ fs 7 k_,.lt 8 fs.length fs.length false s_]) n_)
  generalize Mj rs 9=t1 at *;generalize (vs.all (λx=>oF x 12)&&decide (vs.length<=20))=t2 at *;cases t1 with
  |false=>exact cC func7 au 33 (λw=>.code 0 _ _ _ _ _ (lo _)::XR hP [])
  |true=>
  cases t2 with
  |false=>exact cC func7 au 33 (λw=>.code 0 _ _ _ _ _ (lo _)::XR hP (fwV hV []))
  |true=>
   rw[jy,jy];exact cC func7 au 33 (λw=>.code 0 _ _ _ _ _ (lo _)::XR hP (fwV hV [XQ fs 30 k_,.rw 31 _ (.bool (decide (fs.length<=12))) (Mi (a:=fs.length) (b:=12) rfl)]))
 ·rw[h4,zg];have ak:=(eA.1 h1).1;have lo:∀ B:aa,af prog B 33 (.block 0 (ag f7 0)) (GO 0) (uz rs vs fs) 4 ⟨.ret,[(2,.bool false)],uz rs vs fs,6⟩:=λB=>
   bO (id:=0) (ch (r:=⟨.ret,[(2,.bool false)],uz rs vs fs,6⟩) e (λi=>GO i) (λ_=>uz rs vs fs) (λi k _=>Iff.rfl) (λi hi=>by have hx:fs[i]?=some fs[i]:=aT o_;exact aGv o_ hx pW (jz (h3 i _ hi hx))) (aTA ak h1 (Df h2)) n_)
  exact cC func7 au 33 (λw=>[.code 0 _ _ _ _ _ (lo _)])
end
theorem aGw(l:c_)(p:HS K):bB l++(db p).cs=bB (l++[p]):=by unfold bB;rw[rW];show dy RP.cs _++_=dy RP.cs _;rw[Lh];simp[dy]
theorem aTC(p:HS K):(db p).cs=bB [p]:=by have:=aGw [] p;rwa[show bB ([]:c_)=[]from rfl,jG,jG]at this
section
noncomputable def Jm(k:Nat)(p:HS K):aU prog Bs 43:=
 .bs f30 37 k 1 50 40 [0] (RP.v ⟨lX,gL⟩) [dH p] (db p).cs.toArray (.row (db p).cs 50 40) rfl (λv hv=>by simp at hv;subst hv;rfl) (λv hv=>ja.flat _ v hv) k_ rfl d_ d_ k_
noncomputable def Mx(k n:Nat)(l l':c_)(p:HS K)(hl:l.length=n)(hn:n<=6)(dh:l'=l++[p]):aU prog Bs 43:=
 .oX f30 38 (k+2) (k-1) n 1 (n+1) 50 40 480 (bB l) (k+1) (.row (db p).cs 50 40) (bB l') rfl rfl rfl (by rw[D9,hl]) (by subst dh;exact aGw l p) (ja.one _) d_ (by simp[maxLen];omega) o_ k_
variable{n1 n2 n3 n4 n5 n6:V3 K}{q:K}
structure aTD(n1 n2 n3 n4 n5 n6:V3 K)(q:K):Prop where
 c1:aB prog 17 [.int .i64 1,.int .i64 0,.int .i64 0] (aZ n1)
 c2:aB prog 17 [.int .i64 (-1),.int .i64 0,.int .i64 0] (aZ n2)
 c3:aB prog 17 [.int .i64 0,.int .i64 1,.int .i64 0] (aZ n3)
 c4:aB prog 17 [.int .i64 0,.int .i64 (-1),.int .i64 0] (aZ n4)
 c5:aB prog 17 [.int .i64 0,.int .i64 0,.int .i64 1] (aZ n5)
 c6:aB prog 17 [.int .i64 0,.int .i64 0,.int .i64 (-1)] (aZ n6)
 d:aB prog 31 [.int .i64 1] (bK q)
def Cp(n1 n2 n3 n4 n5 n6:V3 K)(q:K):c_:=[⟨n1,q⟩,⟨n2,q⟩,⟨n3,q⟩,⟨n4,q⟩,⟨n5,q⟩,⟨n6,q⟩]
theorem aTE{n:Nat}{F:Fact}(h:aTD n1 n2 n3 n4 n5 n6 q)(hx:xs.all flat=true)(hl:xs.length=n*30)(wJ:F.rc=false)(oJ:B8 prog 73 [fO (Cp n1 n2 n3 n4 n5 n6 q)] 50 40 6 (bB (Cp n1 n2 n3 n4 n5 n6 q)) 38 30 n xs F [de 0]):
  B8 prog 30 [.p (vI 1)] 50 40 6 (bB (Cp n1 n2 n3 n4 n5 n6 q)) 38 30 n xs F [de 0]:=by
 refine V4 (k1:=19) (k2:=20) (k3:=21) mixed func30 rfl 300 (N:=43) k_ (λw=>[
  h.c1.at 33,h.d.at 35,Jm 2 ⟨n1,q⟩,.ap0 f30 38 3 1 50 40 480 2 (.row (db ⟨n1,q⟩).cs 50 40) (bB [⟨n1,q⟩]) rfl rfl (aTC _) d_ d_ d_ k_,
  h.c2.at 33,h.d.at 35,Jm 5 ⟨n2,q⟩,Mx 4 1 [⟨n1,q⟩] [⟨n1,q⟩,⟨n2,q⟩] ⟨n2,q⟩ rfl d_ rfl,
  h.c3.at 33,h.d.at 35,Jm 8 ⟨n3,q⟩,Mx 7 2 [⟨n1,q⟩,⟨n2,q⟩] [⟨n1,q⟩,⟨n2,q⟩,⟨n3,q⟩] ⟨n3,q⟩ rfl d_ rfl,
  h.c4.at 33,h.d.at 35,Jm 11 ⟨n4,q⟩,Mx 10 3 [⟨n1,q⟩,⟨n2,q⟩,⟨n3,q⟩] [⟨n1,q⟩,⟨n2,q⟩,⟨n3,q⟩,⟨n4,q⟩] ⟨n4,q⟩ rfl d_ rfl,
  h.c5.at 33,h.d.at 35,Jm 14 ⟨n5,q⟩,Mx 13 4 [⟨n1,q⟩,⟨n2,q⟩,⟨n3,q⟩,⟨n4,q⟩] [⟨n1,q⟩,⟨n2,q⟩,⟨n3,q⟩,⟨n4,q⟩,⟨n5,q⟩] ⟨n5,q⟩ rfl d_ rfl,
  h.c6.at 33,h.d.at 35,Jm 17 ⟨n6,q⟩,Mx 16 5 [⟨n1,q⟩,⟨n2,q⟩,⟨n3,q⟩,⟨n4,q⟩,⟨n5,q⟩] (Cp n1 n2 n3 n4 n5 n6 q) ⟨n6,q⟩ rfl d_ rfl,
  .step 40 (aA f30 40) [.func (.func 73) #[] #[],sl 18 6] [(19,none),(20,none),(21,none),(18,some (.row (bB (Cp n1 n2 n3 n4 n5 n6 q)) 50 40))] (.tuple #[.agg #[sl 19 6,sl 20 n,cy 21],de 0]) [(21,.fact (F.mE w.heap.size)),(20,.row xs 38 30),(19,.row (bB (Cp n1 n2 n3 n4 n5 n6 q)) 50 40)]
   (LD (B:=aa.at w) (S:=w.heap.size) oJ (.w (x:=.row (bB (Cp n1 n2 n3 n4 n5 n6 q)) 50 40) rfl (dx _) jm .nil) (x:=.func 73) k_ k_ wJ (dx _) hx rfl (λw' hb=>Below.size hb) 19)]) (λw=>?_) d_ (dx _) (D9 _) hx hl k_
 kernel_rfl
end
end
section
open CR OF
open V3 (dot av cE smul)
section
variable{ps:c_}{vs:List RV}{fs:f_}{p:HS K}
theorem XS(hc:Cl ps)(hp:jl ps)(hf:pc ps):pk ps (bf ps):=⟨by unfold bf;exact Vz _,λ_=>aGb hc hp hf⟩
theorem aGx(hp:jl ps):GM ps=true↔Cl ps/\pc ps:=by
 unfold GM;rw[cZ,aFV,aSI];constructor
 ·rintro⟨h1,_,h3⟩
  exact⟨h1,_,h3⟩
 ·rintro⟨h1,h2⟩
  exact⟨h1,aCD h1 hp (λv=>aGb h1 hp h2) h2⟩
theorem aGy(hc:Cl ps)(hp:jl ps)(hf:pc ps):∀ p∈ps,¬(ck p (bf ps) (bf ps).length).length<3->Jg p (bf ps):=λp iU hl=>by obtain⟨h1,h2,h3⟩:=(XS hc hp hf).loop (hp p iU) hl;exact⟨h1,h2,h3⟩
theorem aGz(hp:jl ps)(h:vu (fv ps)=false):pc ps:=
 aMf hp (λv hv=>(Rg.1 hv).1) (Rh.1 h)
theorem XT(hc:Cl ps)(hp:jl ps)(hf:pc ps):vu (fv ps)=false:=
 Rh.2 (aMg hc hp (λv=>Rg) hf)
theorem aGA{l:e_}(h:Py l):4<=l.length:=by
 obtain⟨o,rest,rfl,a,ha,b,hb,c,hc,hd⟩:=h;have ab:a≠b:=λe=>by subst e;exact hd (XA _ _)
 have bc:b≠c:=λe=>by subst e;exact hd (XB _ _)
 have ac:a≠c:=λe=>by subst e;exact hd (XC _ _)
 match rest,ha,hb,hc with
 |[],ha,_,_=>cases ha
 |[x],ha,hb,_=>simp at ha hb;exact absurd (ha.trans hb.symm) ab
 |[x,y],ha,hb,hc=>
  simp at ha hb hc;rcases ha with rfl|rfl<;>rcases hb with rfl|rfl<;>rcases hc with rfl|rfl<;>first|exact absurd rfl ab|exact absurd rfl bc|exact absurd rfl ac
 |_::_::_::_,_,_,_=>simp only[oL];omega
theorem XU(hc:Cl ps)(hp:jl ps)(hf:pc ps):yw ps=eH ps:=by unfold yw eH;rw[yu hc hp hf]
theorem aTF(hp:jl ps)(h:Ek ps vs fs=true):Cl ps/\pc ps/\vs=(bf ps).map cr/\fs=eH ps:=by unfold Ek at h;simp only[cZ,yP,r6]at h;obtain⟨_,_,h3,h4,h5,h6⟩:=h;have hc:=Rf.1 h3;have hf:=aGz hp h4;exact⟨hc,hf,by rw[yu hc hp hf];exact h5,by rw[<-XU hc hp hf];exact h6⟩
theorem aTG(hc:Cl ps)(hp:jl ps)(hf:pc ps):Ek ps ((bf ps).map cr) (eH ps)=true:=by
 unfold Ek;have h1:4<=(eH ps).length:=by unfold eH;rw[dr];exact aS4 hc hp (XS hc hp hf) hf
 have hs:=XT hc hp hf;have h2:4<=((bf ps).map cr).length:=by rw[dr,yu hc hp hf];exact aGA (Rh.1 hs)
 rw[aO o_,aO o_,Rf.2 hc,hs,XU hc hp hf,<-yu hc hp hf,aE rfl,aE rfl];rfl
theorem aGB(hc:Cl ps)(hp:jl ps)(hf:pc ps):4<=(bf ps).length:=by rw[yu hc hp hf];exact aGA (Rh.1 (XT hc hp hf))
end
def pX:c_:=Cp ⟨kI 1,kI 0,kI 0⟩ ⟨kI (-1),kI 0,kI 0⟩ ⟨kI 0,kI 1,kI 0⟩ ⟨kI 0,kI (-1),kI 0⟩ ⟨kI 0,kI 0,kI 1⟩ ⟨kI 0,kI 0,kI (-1)⟩ (kI 1)
def Rp:HS K:=⟨⟨kI 1,kI 1,kI 1⟩,kI 2⟩
def El(a b c:Int):V3 K:=⟨kI a,kI b,kI c⟩
def aGC:e_:=[El (-1) (-1) (-1),El (-1) (-1) 1,El (-1) 1 (-1),El (-1) 1 1,El 1 (-1) (-1),El 1 (-1) 1,El 1 1 (-1),El 1 1 1]
theorem aTH:ug pX=true:=by kernel_rfl
theorem aTI:fv pX=aGC:=by kernel_rfl
theorem XV{p:HS K}(h:p∈pX++[Rp]):∃ a b c d:Int,p=⟨⟨kI a,kI b,kI c⟩,kI d⟩/\(a.natAbs<=1/\b.natAbs<=1/\c.natAbs<=1)/\(0<d/\d<=2)/\(a≠0\/b≠0\/c≠0):=by
 simp only[pX,Cp,fo,ct,iX,iY]at h;rcases h with (rfl|rfl|rfl|rfl|rfl|rfl)|rfl
 ·exact⟨1,0,0,1,rfl,by decide,by decide,by decide⟩
 ·exact⟨-1,0,0,1,rfl,by decide,by decide,by decide⟩
 ·exact⟨0,1,0,1,rfl,by decide,by decide,by decide⟩
 ·exact⟨0,-1,0,1,rfl,by decide,by decide,by decide⟩
 ·exact⟨0,0,1,1,rfl,by decide,by decide,by decide⟩
 ·exact⟨0,0,-1,1,rfl,by decide,by decide,by decide⟩
 ·exact⟨1,1,1,2,rfl,by decide,by decide,by decide⟩
theorem aGD{p:HS K}(h:p∈pX++[Rp]):bM 2 p:=by obtain⟨a,b,c,d,rfl,⟨h1,h2,h3⟩,⟨h4,h5⟩,_⟩:=XV h;exact⟨⟨o9 o_ d_,o9 o_ d_,o9 o_ d_⟩,o9 o_ d_⟩
theorem XW{a b:Int}(h:kI a=kI b):a=b:=by
 have h1:((a:Rat))=(b:Rat):=cL (λx:K=>x.re.re) h
 exact_mod_cast h1
theorem XX{p:HS K}(h:p∈pX++[Rp]):p.n≠0:=by
 obtain⟨a,b,c,d,rfl,_,_,h6⟩:=XV h;intro e;have e1:kI a=kI 0:=cL V3.x e;have e2:kI b=kI 0:=cL V3.y e;have e3:kI c=kI 0:=cL V3.z e;rcases h6 with h|h|h
 ·exact h (XW e1)
 ·exact h (XW e2)
 ·exact h (XW e3)
theorem aTJ{p:HS K}(h:p∈pX++[Rp]):dot p.n 0<p.d:=by
 obtain⟨a,b,c,d,rfl,_,⟨h4,h5⟩,_⟩:=XV h;rw[V3.Dx];have hd:d=1\/d=2:=by omega
 rcases hd with rfl|rfl
 ·show OF.aD (kI 1-0)=1;kernel_rfl
 ·show OF.aD (kI 2-0)=1;kernel_rfl
theorem aGE:jl pX:=λ_ h=>XX (tY _ h)
theorem XY:pc pX:=⟨0,λ_ h=>aTJ (tY _ h)⟩
theorem XZ:Cl pX:=aFV.1 aTH
theorem aTK:rT pX 2 1000:=⟨by decide,λp h=>⟨aGD (tY _ h),XX (tY _ h)⟩,by decide,by decide⟩
theorem aTL{m M:Nat}(h:rT ps m M)(hc:Cl ps)(hp:jl ps)(hf:pc ps):
  B8 prog 73 [fO ps] 50 40 ps.length (bB ps) 38 30 (bf ps).length (aG (bf ps)) (iu (eH ps)) [de 0]:=by
 have eL:=aGy hc hp hf;rw[yu hc hp hf]at eL;have:=aGq h (Rf.2 hc) (XT hc hp hf) eL;rw[XU hc hp hf]at this;rw[yu hc hp hf];exact this
theorem aTM:B8 prog 30 [.p (vI 1)] 50 40 6 (bB pX) 38 30 (bf pX).length (aG (bf pX)) (iu (eH pX)) [de 0]:=by
 have oJ:=aTL aTK XZ aGE XY
 exact aTE ⟨aWH d_ d_ d_,aWH d_ d_ d_,aWH d_ d_ d_,aWH d_ d_ d_,aWH d_ d_ d_,aWH d_ d_ d_,aXr d_⟩
  (cW _) (nN _) rfl oJ
theorem aTN:bf pX=aGC:=(yu XZ aGE XY).trans aTI
theorem My{q:RI}(h:decide (tf q<=k)=true)(hk:k<=maxLen):q.Sm:=by have h:=jz h;unfold RI.Sm;unfold tf at h;exact di h hk
theorem X0{r:RN}(h:tg r k=true)(hk:k<=maxLen):r.Sm:=by unfold tg at h;simp only[cZ]at h;exact⟨My h.1 hk,My h.2.1 hk,My h.2.2.1 hk,My h.2.2.2.1 hk,My h.2.2.2.2 hk⟩
theorem aTO{r:RV}(h:oF r k=true)(hk:k<=maxLen):r.Sm:=by unfold oF at h;simp only[cZ]at h;exact⟨X0 h.1 hk,X0 h.2.1 hk,X0 h.2.2 hk⟩
section
variable{ps:c_}{p:HS K}
end
theorem aTP{rs:List RP}(h:rs.all mF=true):rs=(rs.map pZ).map db/\∀ q∈rs.map pZ,q.n≠0:=by
 rw[bd]at h;constructor
 ·rw[List.map_map]
  conv=>lhs;rw[<-List.map_id rs]
  exact wU λr hr=>(aEu (h r hr)).1
 ·intro q hq;obtain⟨r,hr,rfl⟩:=dj.1 hq;exact(aEu (h r hr)).2
theorem aTQ(ps:c_):∀ f∈eH ps,0<f.2.length:=by
 intro f hf;unfold eH at hf;obtain⟨g,hg,rfl⟩:=dj.1 hf;unfold cT at hg;rw[zY]at hg;obtain⟨i,_,hg⟩:=hg;unfold kL at hg;split at hg
 ·unfold rP at hg;split at hg
  ·cases hg
  ·split at hg
   ·cases hg
   ·split at hg
    ·rename_i ak;simp at hg;subst hg;show 0<(List.map _ _).length;rw[dr];exact lO d_ ak
    ·cases hg
 ·cases hg
theorem bw.aTR{x1 x2:ah}(h:bw P f (.s n1 x1 n2 x2 (iu fs)::l) res)(hl:∀ f∈fs,0<f.2.length):bw P f (.s n1 x1 n2 x2 (iA fs)::l) res:=
 bw.QX h λ_ _ hG=>aRI hG hl
section
variable{rs:List RP}{vs:List RV}{fs:f_}
end
end
section
variable{H:Type}{enc:TypeId×Value->H}{P:j_}{w:h_}{base:Nat}{spare:Nat->Bool}{held:Bool}{fuel:Nat}{t:TypeId}{cs:ah}{x:DataW H×List MemPlace}
def Jn(P:j_)(t:TypeId)(i:Nat):Option (TypeId×Nat):=match P.underlying t with
 |some (.struct fs)=>(fs[i]?).map λf=>(f.type,f.offset)
 |_=>none
def aGF(P:j_)(t:TypeId):Option (Nat×TypeId):=match P.underlying t with
 |some (.array n e)=>some (n,e)
 |_=>none
theorem Mz{u o:Nat}(hf:Jn P t i=some (u,o))(h:DataW.trod enc P w base spare held fuel t cs=some x):cs.length=P.cellsOf t:=by
 unfold Jn at hf;split at hf
 ·rename_i fs ht;obtain⟨_,_,_,_,hl,_⟩:=aGG ht h;exact hl
 ·cases hf
theorem yy{u o:Nat}(hf:Jn P t i=some (u,o))(h:DataW.trod enc P w base spare held fuel t cs=some x):∃ n y,DataW.trod enc P w base spare held n u ((cs.drop o).take (P.cellsOf u))=some y:=by
 unfold Jn at hf;split at hf
 ·rename_i fs ht;obtain⟨xs,n,_,_,_,hlen,aY⟩:=aGG ht h;rw[Option.map_eq_some_iff]at hf;obtain⟨f,kv,he⟩:=hf;injection he with e1 e2;subst e1;subst e2;have:=aY i f kv;have hi:i<xs.length:=by rw[hlen];exact(wY.1 kv).1
  rw[aT hi]at this;exact⟨n,_,this⟩
 ·cases hf
theorem aGH{u k:Nat}{d:DataW H}:∀{ts:List TypeId} {ds:List (DataW H)} {i:Nat},ts[i]?=some u->ds[i]?=some d->k∈d.weights P u->k∈DataW.weightsEach P ts ds
 |[],_,i,h,_,_=>by simp at h
 |_::_,[],i,_,h,_=>by simp at h
 |t::ts,e::ds,0,h1,h2,h3=>by simp at h1 h2;subst h1;subst h2;unfold DataW.weightsEach;exact tY _ h3
 |t::ts,e::ds,i+1,h1,h2,h3=>by unfold DataW.weightsEach;exact vS _ (aGH (by simpa using h1) (by simpa using h2) h3)
theorem X1{u o:Nat}(hf:Jn P t i=some (u,o))(h:DataW.trod enc P w base spare held fuel t cs=some x):∃ n y,DataW.trod enc P w base spare held n u ((cs.drop o).take (P.cellsOf u))=some y/\∀ k∈y.1.weights P u,k∈x.1.weights P t:=by
 unfold Jn at hf;split at hf
 ·rename_i fs ht;obtain⟨xs,n,_,hx,_,hlen,aY⟩:=aGG ht h;rw[Option.map_eq_some_iff]at hf;obtain⟨f,kv,he⟩:=hf;injection he with e1 e2;subst e1;subst e2;have:=aY i f kv;have hi:i<xs.length:=by rw[hlen];exact(wY.1 kv).1
  have hxi:=aT hi;rw[hxi]at this;refine⟨n,_,this,λk hk=>?_⟩;rw[hx];show k∈(DataW.agg (xs.map (·.1))).weights P t;unfold DataW.weights;rw[ht];refine aGH (i:=i) (u:=f.type) (d:=xs[i].1) ?_ ?_ hk
  ·rw[qW,show fs.toList[i]?=some f by rw[Array.getElem?_toList];exact kv];rfl
  ·rw[qW,hxi];rfl
 ·cases hf
theorem aTS{e:TypeId}{a:Addr}(ht:P.underlying t=some (.slice e))(hb:0<P.bytesOf e)(h:DataW.trod enc P w base spare held fuel t [.slice (some a) len cap]=some x)(hw:∀ k∈x.1.weights P t,k<=reachBytes):len<=reachBytes:=by
 rcases DataW.trod_slice ht h with ⟨h1,_⟩|⟨a',lP,bE,elems,rest,n,_,h1,hx,_,_,_,hlen,_⟩
 ·cases h1
 ·injection h1 with h1;injection h1 with _ e2 _;subst e2;have:=hw ((elems.length+rest.length)*P.bytesOf e) (by rw[hx];show _∈(DataW.slice (elems.map (·.1)) (rest.map (·.1))).weights P t;unfold DataW.weights;rw[ht];simp)
  have h2:elems.length+rest.length<=(elems.length+rest.length)*P.bytesOf e:=Ff _ hb;omega
theorem aTT{n:Nat}(he:aGF P t=some (n,e))(h:DataW.trod enc P w base spare held fuel t cs=some x):cs.length=P.cellsOf t/\∀ i,i<n->∃ m y,DataW.trod enc P w base spare held m e ((cs.drop (i*P.cellsOf e)).take (P.cellsOf e))=some y:=by
 unfold aGF at he;split at he
 ·rename_i n' e' ht;injection he with he;injection he with e1 e2;subst e1;subst e2;obtain⟨xs,m,_,_,hl,hlen,aY⟩:=DataW.trod_array ht h;refine⟨hl,λi hi=>?_⟩;have:=aY i hi;rw[aT o_]at this;exact⟨m,_,this⟩
 ·cases he
theorem aGI{α:Type}{p:Nat->α->Prop}:∀ n,(∀ i,i<n->∃ r,p i r)->∃ rs:List α,rs.length=n/\∀ i r,rs[i]?=some r->p i r
 |0,_=>⟨[],rfl,λi r h=>by simp at h⟩
 |n+1,h=>by
  obtain⟨rs,h1,h2⟩:=aGI n λi hi=>h i o_;obtain⟨r,hr⟩:=h n o_;refine⟨rs++[r],by rw[kP,h1];rfl,λi r' hi=>?_⟩;rcases fm i rs.length with ak|fR
  ·rw[JH ak]at hi;exact h2 i r' hi
  ·rw[EL fR]at hi;have hi0:i-rs.length=0:=by have:=(eA.1 hi).1;simp at this;omega
   rw[hi0]at hi;simp at hi;subst hi;have:i=n:=by omega
   subst this;exact hr
theorem aGJ{f:α->ah}{s:Nat}(hE:∀ x,(f x).length=s)(qC:0<s){e:TypeId}(ht:P.underlying t=some (.slice e))(hs:P.cellsOf e=s)(X2:∀ n cs y,DataW.trod enc P w 0 (λ_=>true) true n e cs=some y->∃ r,cs=f r)
  {v:i_} (h:DataW.trod enc P w 0 (λ_=>true) true fuel t [v]=some x) :
  v=.slice none 0 0\/∃ a len cap,∃ rs:List α,v=.slice (some a) len cap/\len<=cap/\cap<=maxLen/\rs.length=len/\(∀ i r j u,rs[i]?=some r->(f r)[j]?=some u->w.cell? ((a.add (i*s)).add j)=some u)/\(0<cap->∃ u,w.cell? (a.add 0)=some u):=by
 rcases DataW.trod_slice ht h with ⟨h1,_⟩|⟨a,len,cap,elems,rest,n,_,h1,_,hb,hl,hc,hlen,sP,uZ,_⟩
 ·injection h1 with h1;exact .inl h1
 ·injection h1 with h1;subst h1;refine .inr ⟨a,len,cap,?_⟩;have key:∀ i,i<len->∃ r:α,∀ j u,(f r)[j]?=some u->w.cell? ((a.add (i*s)).add j)=some u:=by intro i hi;have:=sP i hi;rw[aT o_,aGK]at this;obtain⟨cg,h2,h3⟩:=this;obtain⟨r,rfl⟩:=X2 _ _ _ h3;refine⟨r,λj u hj=>?_⟩;rw[hs]at h2;obtain⟨_,lH,aY⟩:=World.cells?_some h2;have Ra:=(eA.1 hj).1;rw[aY j o_];exact hj
  obtain⟨rs,q1,q2⟩:=aGI len key;refine⟨rs,rfl,hl,hc,q1,λi r j u hi hj=>q2 i r hi j u hj,λzn=>?_⟩;have any:∃ cg,w.cells? 0 (a.add (0*s)) s=some cg:=by
   rcases nF len with h0|h0
   ·obtain⟨Eb,hr⟩:=uZ rfl;have:=hr 0 o_;rw[aT o_,aGK]at this;obtain⟨cg,h2,_⟩:=this;rw[h0,hs]at h2;exact⟨cg,h2⟩
   ·have:=sP 0 h0;rw[aT o_,aGK]at this;obtain⟨cg,h2,_⟩:=this;rw[hs]at h2;exact⟨cg,h2⟩
  obtain⟨cg,h2⟩:=any;obtain⟨_,lH,aY⟩:=World.cells?_some h2;have:=aY 0 qC;rw[aT (by rw[lH];exact qC),kS]at this;exact⟨_,this⟩
theorem aGL{α:Type}{f:α->ah}{s:Nat}(hE:∀ x,(f x).length=s):∀{l:List α} {k:Nat} {u:i_},(dy f l)[k]?=some u->∃ i r j,l[i]?=some r/\(f r)[j]?=some u/\k=i*s+j
 |[],k,u,h=>by simp[dy]at h
 |x::l,k,u,h=>by
  rw[show dy f (x::l)=f x++dy f l from rfl]at h;rcases fm k (f x).length with ak|fR
  ·rw[JH ak]at h;exact⟨0,x,k,rfl,h,by rw[kS,ko]⟩
  ·rw[EL fR]at h;obtain⟨i,r,j,h1,h2,h3⟩:=aGL hE h;refine⟨i+1,r,j,by simpa using h1,h2,?_⟩;rw[hE]at h3 fR;rw[sA];omega
theorem aTU(b o i j:Nat):((⟨b,o,none⟩:Addr).add i).add j=⟨b,o+(i+j),none⟩:=by unfold Addr.add;by_cases hi:i=0<;>by_cases hj:j=0<;>simp[hi,hj,uI]
def isAgg(P:j_)(T:TypeId):Bool:=match P.underlying T with|some (.struct _)=>true|some (.array _ _)=>true|_=>false
theorem aGM{T:TypeId}{v:i_}{r:Reach}(hs:isAgg P T=true)(hv:Value.okWide P w r base T v):∃ cs,v=.agg cs/\cs.size=P.cellsOf T/\Row.okWide P w r base T cs:=by
 unfold Value.okWide at hv;unfold isAgg at hs;split at hs
 ·rename_i e;rw[e]at hv;exact hv
 ·rename_i e;rw[e]at hv;exact hv
 ·cases hs
theorem aTV{T e:TypeId}{a:Addr}{r:Reach}(ht:P.underlying T=some (.slice e))(h:Cell.okWide P w r base T (.slice (some a) len cap)):a.spot=none/\a.block<w.heap.size:=by
 unfold Cell.okWide at h;rw[ht]at h;have h:Cell.ok P w r base T (.slice (some a) len cap):=h;unfold Cell.ok at h;rw[ht]at h;obtain⟨_,_,_,h1,row,cells,h2,_⟩:=h;refine⟨h1,?_⟩;unfold World.shape? at h2;split at h2
 ·rename_i c t f he;exact(wY.1 he).1
 ·cases h2
theorem aGN{f:α->ah}{s:Nat}(hE:∀ x,(f x).length=s){o:Nat}{rs:List α}(hl:len<=cap)(hb:b<w.heap.size)(hlen:rs.length=len)(h:∀ i r j u,rs[i]?=some r->(f r)[j]?=some u->w.cell? (((⟨b,o,none⟩:Addr).add (i*s)).add j)=some u):
  dp w (.slice (some ⟨b,o,none⟩) len cap) rs.length (dy f rs):=by
 refine .inr ⟨b,o,cap,by rw[hlen],by omega,hb,λk u hk=>?_⟩;obtain⟨i,r,j,h1,h2,rfl⟩:=aGL hE hk;have:=h i r j u h1 h2;rwa[aTU]at this
end
section
variable{H:Type}{enc:TypeId×Value->H}{w:h_}{base:Nat}{spare:Nat->Bool}{held:Bool}{fuel:Nat}{cs:ah}{x:DataW H×List MemPlace}
theorem aGO{cs:ah}(h:cs.length=2):∃ a b,cs=[a,b]:=by
 match cs,h with
 |[a,b],_=>exact⟨a,b,rfl⟩
theorem aTW(h:DataW.trod enc prog w base spare held fuel 4 cs=some x):∃ b,cs=[.bool b]:=by obtain⟨b,h1,_⟩:=DataW.trod_bool (P:=prog) k_ h;exact⟨b,h1⟩
theorem aTX(h:DataW.trod enc prog w base spare held fuel 9 cs=some x):∃ l:List UInt8,cs=[.string (BA l)]:=by obtain⟨s,h1,_⟩:=DataW.trod_string (P:=prog) k_ h;exact⟨s.data.toList,by rw[h1];rfl⟩
theorem aGP(h:DataW.trod enc prog w base spare held fuel 3 cs=some x):∃ z,cs=[iV z]:=by obtain⟨z,h1,_⟩:=DataW.trod_int (P:=prog) (k:=.i64) k_ h;exact⟨z,h1⟩
theorem MA(h:DataW.trod enc prog w base spare held fuel 30 cs=some x):∃ q:RI,cs=q.cs:=by have hl:=Mz (P:=prog) (i:=0) (u:=4) (o:=0) k_ h;rw[show prog.cellsOf 30=2 from k_]at hl;obtain⟨_,_,h0⟩:=yy (P:=prog) (i:=0) (u:=4) (o:=0) k_ h;obtain⟨_,_,h1⟩:=yy (P:=prog) (i:=1) (u:=9) (o:=1) k_ h;rw[show prog.cellsOf 4=1 from k_]at h0;rw[show prog.cellsOf 9=1 from k_]at h1;obtain⟨a,b,rfl⟩:=aGO hl;obtain⟨b0,e0⟩:=aTW h0;obtain⟨l,e1⟩:=aTX h1;simp at e0 e1;subst e0;subst e1;exact⟨⟨b0,l⟩,rfl⟩
theorem aTY(h:DataW.trod enc prog w base spare held fuel 31 cs=some x):∃ a b c e:RI,cs=a.cs++(b.cs++(c.cs++e.cs)):=by
 obtain⟨hl,aY⟩:=aTT (P:=prog) (n:=4) (e:=30) k_ h;rw[show prog.cellsOf 31=8 from k_]at hl;rw[show prog.cellsOf 30=2 from k_]at aY;obtain⟨_,_,h0⟩:=aY 0 d_;obtain⟨_,_,h1⟩:=aY 1 d_;obtain⟨_,_,h2⟩:=aY 2 d_;obtain⟨_,_,h3⟩:=aY 3 d_;obtain⟨a,e0⟩:=MA h0;obtain⟨b,e1⟩:=MA h1;obtain⟨c,e2⟩:=MA h2;obtain⟨e,e3⟩:=MA h3;refine⟨a,b,c,e,?_⟩;rw[<-e0,<-e1,<-e2,<-e3]
 match cs,hl with
 |[_,_,_,_,_,_,_,_],_=>rfl
theorem Rq(h:DataW.trod enc prog w base spare held fuel 33 cs=some x):∃ r:RN,cs=r.cs:=by
 have hl:=Mz (P:=prog) (i:=0) (u:=31) (o:=0) k_ h;rw[show prog.cellsOf 33=10 from k_]at hl;obtain⟨_,_,h0⟩:=yy (P:=prog) (i:=0) (u:=31) (o:=0) k_ h;obtain⟨_,_,h1⟩:=yy (P:=prog) (i:=1) (u:=30) (o:=8) k_ h;rw[show prog.cellsOf 31=8 from k_]at h0;rw[show prog.cellsOf 30=2 from k_]at h1;obtain⟨a,b,c,e,e0⟩:=aTY h0;obtain⟨d,e1⟩:=MA h1;have:cs=(cs.drop 0).take 8++(cs.drop 8).take 2:=by
  match cs,hl with
  |[_,_,_,_,_,_,_,_,_,_],_=>rfl
 refine⟨⟨a,b,c,e,d⟩,?_⟩;rw[this,e0,e1];rfl
theorem X3(h:DataW.trod enc prog w base spare held fuel 38 cs=some x):∃ r:RV,cs=r.cs:=by
 have hl:=Mz (P:=prog) (i:=0) (u:=33) (o:=0) k_ h;rw[show prog.cellsOf 38=30 from k_]at hl;obtain⟨_,_,h0⟩:=yy (P:=prog) (i:=0) (u:=33) (o:=0) k_ h;obtain⟨_,_,h1⟩:=yy (P:=prog) (i:=1) (u:=33) (o:=10) k_ h;obtain⟨_,_,h2⟩:=yy (P:=prog) (i:=2) (u:=33) (o:=20) k_ h;rw[show prog.cellsOf 33=10 from k_]at h0 h1 h2;obtain⟨a,e0⟩:=Rq h0;obtain⟨b,e1⟩:=Rq h1;obtain⟨c,e2⟩:=Rq h2;have:cs=(cs.drop 0).take 10++((cs.drop 10).take 10++(cs.drop 20).take 10):=by
  have t2:(cs.drop 20).take 10=cs.drop 20:=j8 (by rw[vE];omega);have t1:(cs.drop 10).take 10++cs.drop 20=cs.drop 10:=by have:=LB 10 (cs.drop 10);rwa[NK]at this
  rw[t2,t1,mg,LB]
 refine⟨⟨a,b,c⟩,?_⟩;rw[this,e0,e1,e2];rfl
theorem aTZ(h:DataW.trod enc prog w base spare held fuel 50 cs=some x):∃ r:RP,cs=r.cs:=by
 have hl:=Mz (P:=prog) (i:=0) (u:=38) (o:=0) k_ h;rw[show prog.cellsOf 50=40 from k_]at hl;obtain⟨_,_,h0⟩:=yy (P:=prog) (i:=0) (u:=38) (o:=0) k_ h;obtain⟨_,_,h1⟩:=yy (P:=prog) (i:=1) (u:=33) (o:=30) k_ h;rw[show prog.cellsOf 38=30 from k_]at h0;rw[show prog.cellsOf 33=10 from k_]at h1;obtain⟨a,e0⟩:=X3 h0;obtain⟨b,e1⟩:=Rq h1;have:cs=(cs.drop 0).take 30++(cs.drop 30).take 10:=by have t2:(cs.drop 30).take 10=cs.drop 30:=j8 (by rw[vE];omega);rw[t2,mg,LB]
 refine⟨⟨a,b⟩,?_⟩;rw[this,e0,e1];rfl
def Rr(z:Int):ah:=[iV z]
theorem aT0(l:List Int):dy Rr l=fE l:=by
 induction l with
 |nil=>rfl
 |cons z l ih=>show[iV z]++dy Rr l=_;rw[ih];rfl
theorem aT1{w:h_}{a:Addr}(h:w.cell? a=some u):a.spot=none/\a.block<w.heap.size:=by
 unfold World.cell? at h;split at h
 ·rename_i c t f he;refine⟨?_,(wY.1 he).1⟩;cases hs:a.spot with
  |none=>rfl
  |some s=>rw[hs]at h;simp at h
 ·cases h
theorem aT2{v:i_}(h:DataW.trod enc prog w 0 (λ_=>true) true fuel 45 [v]=some x):∃ l:List Int,nS w v l.length (fE l):=by
 rcases aGJ (P:=prog) (f:=Rr) (s:=1) (λ_=>rfl) d_ (e:=3) k_ k_ (λn cs y hy=>aGP hy) h with h1|⟨a,len,cap,rs,h1,hl,hc,hlen,lg,Bd⟩
 ·exact⟨[],.inl (.inl ⟨h1,rfl,rfl⟩)⟩
 ·refine⟨rs,?_⟩;subst h1;rcases nF cap with h0|h0
  ·refine .inr ⟨by omega,a,?_⟩;rw[show len=0 by omega,h0]
  ·obtain⟨u,hu⟩:=Bd h0;have e0:a.add 0=a:=rfl;rw[e0]at hu;obtain⟨hs,hb⟩:=aT1 hu;obtain⟨b,o,sp⟩:=a;dsimp only at hs hb;subst hs;have:=aGN (f:=Rr) (s:=1) (λ_=>rfl) hl hb hlen lg;rw[aT0]at this;exact .inl this
def X4(w:h_):Type:={ r:(Int×List Int)×Value // nS w r.2 r.1.2.length (fE r.1.2)}
def MB{w:h_}(r:X4 w):ah:=[iV r.1.1.1,r.1.2]
theorem aT3{n:Nat}{cs:ah}{y:DataW H×List MemPlace}(h:DataW.trod enc prog w 0 (λ_=>true) true n 47 cs=some y):∃ r:X4 w,cs=MB r:=by have hl:=Mz (P:=prog) (i:=0) (u:=3) (o:=0) k_ h;rw[show prog.cellsOf 47=2 from k_]at hl;obtain⟨_,_,h0⟩:=yy (P:=prog) (i:=0) (u:=3) (o:=0) k_ h;obtain⟨_,_,h1⟩:=yy (P:=prog) (i:=1) (u:=45) (o:=1) k_ h;rw[show prog.cellsOf 3=1 from k_]at h0;rw[show prog.cellsOf 45=1 from k_]at h1;obtain⟨a,b,rfl⟩:=aGO hl;obtain⟨z,e0⟩:=aGP h0;obtain⟨l,hw⟩:=aT2 h1;simp at e0;subst e0;exact⟨⟨((z,l),b),hw⟩,rfl⟩
theorem aGQ{w:h_}:∀ rs:List (X4 w),rQ w (rs.map λr=>r.1.1) (dy MB rs)
 |[]=>.nil
 |r::rs=>by show rQ w (r.1.1::rs.map λr=>r.1.1) (MB r++dy MB rs);obtain⟨⟨⟨z,l⟩,u⟩,hw⟩:=r;exact .cons hw (aGQ rs)
set_option maxRecDepth 100000 in
theorem X5{f:α->ah}{s:Nat}(hE:∀ x,(f x).length=s)(qC:0<s){T e:TypeId}(ht:prog.underlying T=some (.slice e))(hs:prog.cellsOf e=s)(hb:0<prog.bytesOf e)(X2:∀ n cs (y:DataW H×List MemPlace),DataW.trod enc prog w 0 (λ_=>true) true n e cs=some y->∃ r,cs=f r)
  {v:i_} {r:Reach} (au:Cell.okWide prog w r base T v) (h:DataW.trod enc prog w 0 (λ_=>true) true fuel T [v]=some x) (hw:∀ k∈x.1.weights prog T,k<=reachBytes):∃ rs:List α,dp w v rs.length (dy f rs)/\rs.length<=reachBytes:=by
 rcases aGJ hE qC ht hs X2 h with h1|⟨a,len,cap,rs,h1,hl,hc,hlen,lg,_⟩
 ·exact⟨[],.inl ⟨h1,rfl,rfl⟩,jH _⟩
 ·subst h1;obtain⟨q1,q2⟩:=aTV ht au;have Ps:=aTS ht hb h hw;obtain⟨b,o,sp⟩:=a;dsimp only at q1 q2;subst q1;exact⟨rs,aGN hE hl q2 hlen lg,by omega⟩
set_option maxRecDepth 100000 in
theorem aT4{v:i_}{d:DataW H}{p:List MemPlace}(hv:Value.okWide prog w .any base 26 v)(h:DataW.Trod enc prog w 0 (λ_=>true) true 26 v d p)(hw:∀ k∈d.weights prog 26,k<=reachBytes):
  ∃ rs vs fs,(kj rs vs fs).In w v/\rs.length<=reachBytes/\vs.length<=reachBytes/\fs.length<=reachBytes:=by
 obtain⟨fuel,h⟩:=h;obtain⟨cs,rfl,bC,jE⟩:=aGM k_ hv;rw[show prog.cellsOf 26=3 from k_]at bC;obtain⟨c0,c1,c2,rfl⟩:∃ a b c,cs=#[a,b,c]:=by
  obtain⟨l⟩:=cs
  match l,bC with
  |[a,b,c],_=>exact⟨a,b,c,rfl⟩
 obtain⟨ts,hts,_,jt⟩:=jE;have Rt:prog.cellTypes prog.depth 26=some [22,23,24]:=k_;rw[hts]at Rt;injection Rt with Rt;subst Rt;have k0:Cell.okWide prog w .any base 22 c0:=by obtain⟨u,hu,au⟩:=jt 0 c0 rfl;simp at hu;subst hu;exact au
 have k1:Cell.okWide prog w .any base 23 c1:=by obtain⟨u,hu,au⟩:=jt 1 c1 rfl;simp at hu;subst hu;exact au
 have k2:Cell.okWide prog w .any base 24 c2:=by obtain⟨u,hu,au⟩:=jt 2 c2 rfl;simp at hu;subst hu;exact au
 have h:DataW.trod enc prog w 0 (λ_=>true) true fuel 26 [c0,c1,c2]=some (d,p):=h;obtain⟨_,_,h0,w0⟩:=X1 (P:=prog) (i:=0) (u:=22) (o:=0) k_ h;obtain⟨_,_,h1,w1⟩:=X1 (P:=prog) (i:=1) (u:=23) (o:=1) k_ h;obtain⟨_,_,h2,w2⟩:=X1 (P:=prog) (i:=2) (u:=24) (o:=2) k_ h;rw[show prog.cellsOf 22=1 from k_]at h0;rw[show prog.cellsOf 23=1 from k_]at h1;rw[show prog.cellsOf 24=1 from k_]at h2;obtain⟨rs,q0,l0⟩:=X5 (f:=RP.cs) (s:=40) ja.len d_ (e:=50) k_ k_ (jz k_) (λn cs y hy=>aTZ hy) k0 h0 (λk hk=>hw k (w0 k hk));obtain⟨vs,q1,l1⟩:=X5 (f:=RV.cs) (s:=30) fD.len d_ (e:=38) k_ k_ (jz k_) (λn cs y hy=>X3 hy) k1 h1 (λk hk=>hw k (w1 k hk));obtain⟨fs,q2,l2⟩:=X5 (f:=MB (w:=w)) (s:=2) (λ_=>rfl) d_ (e:=47) k_ k_ (jz k_) (λn cs y hy=>aT3 hy) k2 h2 (λk hk=>hw k (w2 k hk));refine⟨rs,vs,fs.map λr=>r.1.1,⟨c0,c1,c2,rfl,q0,q1,⟨_,by rw[dr];exact q2,aGQ fs⟩,?_⟩,l0,l1,by rw[dr];exact l2⟩;rcases q2 with ⟨e,_⟩|⟨_,_,_,e,_⟩<;>rw[e]<;>exact⟨rfl,rfl⟩
end
section
open Go Go.ChangeShapes Go.WideShapes Go.ChangeAt Go.RowKit
section
set_option maxRecDepth 100000 in
theorem aT5{H:Type}{enc:TypeId×Value->H}{base:Nat}{v:i_}{d:DataW H}{p:List MemPlace}(hv:Value.okWide prog w .any base 3 v)(h:DataW.Trod enc prog w 0 (λ_=>true) true 3 v d p):∃ z:Int,v=iV z:=by obtain⟨z,rfl,_⟩:=open_int (P:=prog) (k:=.i64) k_ hv h;exact⟨z,rfl⟩
end
end
section
variable{H:Type}{enc:TypeId×Value->H}{w:h_}{base:Nat}
set_option maxRecDepth 100000 in
theorem aT6{v:i_}{d:DataW H}{p:List MemPlace}(hv:Value.okWide prog w .any base 38 v)(h:DataW.Trod enc prog w 0 (λ_=>true) true 38 v d p):∃ r:RV,v=r.v:=by obtain⟨cs,rfl,_,_⟩:=aGM k_ hv;obtain⟨fuel,h⟩:=h;obtain⟨r,hr⟩:=X3 (cs:=cs.toList) h;refine⟨r,?_⟩;show Value.agg cs=.agg r.cs.toArray;rw[<-hr]
end
section
variable{P:j_}{B:aa}{N:Nat}
theorem X6(ho:w6 P o=some 1){m:Nat}{l:List Int}(hi:l[i]?=some z):
  cA P B o [.pointer (some ⟨m,0,some 9⟩),vI i] [(k,none),(m,some (.fact (eg l)))] (.pointer (some ⟨k,0,some 7⟩)) [(k,.view [iV z])]:=by
 unfold w6 at ho;split at ho
 ·rename_i t x y bY;split at ho
  ·rename_i e ht;split at ho
   ·rename_i inf AN;injection ho with ho;refine iC.step λι c ρ w aQ hm oP=>?_;rw[bY]at aQ;obtain⟨v,v2,hu,hc,dq⟩:=js aQ;have dS:ρ x=v:=by simp[Op.operands]at hu;exact hu.1
    have eX:ρ y=v2:=by simp[Op.operands]at hu;exact hu.2
    have dq:=dq.fk rfl;have GB:c m=some (.fact (eg l)):=oP (m,some (.fact (eg l))) s_;have k0:c k=none:=oP (k,none) s_;have Gz:=zJ hm GB hc;have loc:ι m=some (.val v):=by
     obtain⟨lc,q1,u,q2,q3⟩:=hm.born m _ GB;subst q2;generalize hp:Value.pointer (some ⟨m,0,some 9⟩)=p at hc;cases hc with
     |same h=>subst hp;cases h
     |ptr h=>injection hp with hp;injection hp with hp;injection hp with _ _ hp;cases hp
     |slc h=>cases hp
     |slcN h=>cases hp
     |opq h4 h5 h6=>injection hp with hp;injection hp with hp;injection hp with iN;subst iN;exact h4
     |fn=>cases hp
     |agg=>cases hp
     |tup=>cases hp
    have ak:=(eA.1 hi).1;have hw:nS w v l.length (fE l):=Gz.1;have lg:(fE l)[i]?=some (iV z):=by unfold fE;rw[qW,hi];rfl
    rcases hw.row o_ with ⟨_,q2,_⟩|⟨b,o',c',q1,q2,q3,q4⟩
    ·omega
    have hF:(eg l).cS v w b:=⟨by omega,by rw[q1];rfl⟩;have m2:aM B (dR ι k (.at b (o'+i*1) 0)) (bh c k (.view [iV z])) w:=
     hm.add k0 (.inr ⟨b,o'+i*1,0,[iV z],rfl,.cons (.same rfl) .nil,λj x hj=>by
      cases j with
      |zero=>simp at hj;subst hj;have:=q4 _ _ lg;simpa using this
      |succ j=>simp at hj⟩) n_ n_ (λb1 o1 lG _ e=>by
      injection e with e1 e2 e3;subst e1;exact⟨q3,λj y o2 qb hj hy he=>hm.apart j m y _ b o2 qb v hj hy he GB loc hF⟩)
    refine⟨_,.pointer (some ⟨b,o'+i*1,none⟩),w,gN (hm.dJ k k0),?_,m2,.inl ?_⟩
    ·have:=aK.ptr (off:=0) (fP ι k (.at b (o'+i*1) 0));rwa[jd]at this
    ·subst q1;simp only[execOp,bY,dS,eX,dq];have h0:(0:Int)<=(i:Int):=by omega
     simp[Instr.indexAt,asIntOf,jF ht,sizeOf,typeInfo,AN,h0,yL,vI,ho];intro fR;omega
   ·cases ho
  ·cases ho
 ·cases ho
end
section
open V3 (dot av cE smul)
section
variable{Bs:aa}{vs:e_}{L:l_}
def c8(vs:e_)(L:l_):e_:=L.map (aJ vs)
def Ru(n j:Nat):aN:=[(11,vI j),(9,cy 3),(10,vI n),(2,aX 4),(5,sl 6 j)]
def Em(np:Nat)(vs:e_)(L:l_):aH:=[(1,.view (aG vs)),(3,.fact (eg (cU L))),(4,.aI [sl 0 np,sl 1 vs.length,cy 2] 26)]
theorem aT7:∀ x∈Em np vs L,fe 6 x.2:=λx hx=>by
 simp only[Em,ct,iX,iY]at hx;rcases hx with rfl|rfl|rfl
 ·exact λv hv=>gB (bd.1 (cW vs) v hv)
 ·exact n_
 ·intro v hv;have hv:v∈[sl 0 np,sl 1 vs.length,cy 2]:=hv;simp at hv;rcases hv with rfl|rfl|rfl<;>rfl
theorem aT8{z:Nat}{v:V3 K}(hj:j<(cU L).length)(hz:(cU L)[j]?=some (z:Int))(hv:vs[z]?=some v)(hl:acc.length=j)(h63:(cU L).length<1000000):
  af prog Bs 25 (aF (ag f93 0)) (Ru (cU L).length j) (Em np vs L++marks 6 (jb acc)) 7 ⟨.normal,fj 6 [some 9] (Ru (cU L).length (j+1)),Em np vs L++dB [some 9] (jb (acc++[v])),10⟩:=by
 have ak:=(eA.1 hv).1;have hc:(aG acc).length=j*30:=by rw[nN,hl]
 exact aC [.lt 12 j (cU L).length true (aE hj),.step 13 (aA f93 13) [cy 3,vI j] [(7,none),(3,some (.fact (eg (cU L))))] (aX 7) [(7,.view [iV z])] (X6 k_ hz),.cM f93 19 1 vs.length z 30 ak k_,.ld f93 20 38 1 (z*30) (.view (aG vs)) (aZ v) rfl (gD hv) k_,.bs f93 21 8 1 38 30 [0] (RV.v lX) [aZ v] (cr v).cs.toArray (.row (cr v).cs 38 30) rfl (λv hv=>by simp at hv;subst hv;rfl) (λv hv=>fD.flat _ v hv) k_ rfl d_ d_ k_,.oX f93 22 9 6 j 1 (j+1) 38 30 360 (aG acc) 8 (.row (cr v).cs 38 30) (aG (acc++[v])) rfl rfl rfl hc (by rw[<-Ix];congr 1) (fD.one _) d_ (by simp[maxLen];omega) o_ k_,.sum 23 j 1 (j+1) rfl o_]
theorem aT9(hL:∀ x∈L,x<vs.length)(h63:L.length<1000000):
  af prog Bs 25 (.block 0 (ag f93 0)) (fj 6 [none] (Ru (cU L).length 0)) (Em np vs L++dB [none] (jb [])) 6 ⟨.normal,[(5,sl 6 (cU L).length)],Em np vs L++marks 6 (jb (c8 vs L)),7⟩:=by
 have hlen:(cU L).length=L.length:=dr ..
 have:=pH (P:=prog) (B:=Bs) (N:=25) (b:=aF (ag f93 0)) (next:=6) (p:=1) (r:=⟨.exit 0,[(5,sl 6 (cU L).length)],Em np vs L++marks 6 (jb (c8 vs L)),7⟩) (cU L).length
  (λj=>Ru (cU L).length j) (λ_=>Em np vs L) (λj=>jb (c8 vs (L.take j))) [none] (λ_ _=>rfl) (λj _=>⟨aT7,Lq⟩) k_ k_
  (λj hj=>by
   have fK:j<L.length:=by omega
   have hq:L[j]?=some L[j]:=aT fK;have hz:(cU L)[j]?=some ((L[j]:Nat):Int):=by unfold cU;rw[qW,hq];rfl
   have e:c8 vs (L.take (j+1))=c8 vs (L.take j)++[aJ vs L[j]]:=by unfold c8;rw[sY,hq,rW];rfl
   rw[e];exact⟨[some 9],10,k_,aT8 (Bs:=Bs) hj hz (iy (hL _ (cY fK))) (by unfold c8;rw[dr,jr];omega) o_⟩)
  (by rw[show L.take (cU L).length=L from j8 o_];generalize c8 vs L=a;exact aC [.lt 12 (cU L).length (cU L).length false s_]) n_
 exact bO (id:=0) this
theorem aUa{F:Fact}{i:Int}(hu:u=iV i)(hL:∀ x∈L,x<vs.length)(h63:L.length<1000000)(lT:xp.all flat=true)(hF:F.rc=false):
  kY prog 93 [.s np xp vs.length (aG vs) F,.c u (eg (cU L))] 38 30 (cU L).length (aG (c8 vs L)):=by
 subst hu;have au:([aL.s np xp vs.length (aG vs) F,.c (iV i) (eg (cU L))].all aL.ok)=true:=by
  have e:(aL.s np xp vs.length (aG vs) F).ok=true:=by show(xp.all flat&&((aG vs).all flat&&!F.rc))=true;rw[lT,cW,hF];rfl
  simp only[dT,eC,e,jy,gp];rfl
 have lo:=λBs=>aT9 (Bs:=Bs) (np:=np) hL h63;have hlen:(aG (c8 vs L)).length=(cU L).length*30:=by rw[nN];unfold c8 cU;rw[dr,dr]
 generalize c8 vs L=a at *;exact vT (k:=6) mixed func93 au 100 (N:=25) k_ (λ_=>[.step 10 (aA f93 10) [cy 3] [(3,some (.fact (eg (cU L))))] (vI (cU L).length) [] (tt k_),.code 0 _ _ _ _ _ (lo _)]) (λ_=>k_) (cW a) hlen
end
theorem QA{u v t:V3 K}{m n q:Nat}(hu:aw m u)(hv:aw n v)(ht:aw q t)(cN:3*m+6*(n+q)+50<az):aB prog 43 [aZ u,aZ v,aZ t] (bK (cE u v t)):=
 bo func43 (λ_=>[(sU hv ht o_).at 10,(oz hu (hv.av ht) o_).at 11])
section
variable{P:j_}{N:Nat}
theorem aUb{c:Code}{v:i_}(hf:P.funcs[f]?=some fn)(hb:fn.body=some c)(hN:N=(eG 0 l).length+(fn.ntmps-(eG 0 l).length))(hl:(l.all aL.ok)=true)
  (h:∀ w ι cc a,fA (aa.at w) ι (bI (jR 0 (eG 0 l))) N a->aM (aa.at w) ι cc w->da cc (ji 0 l)->eU cc (jB 0 l)->c.wpIn (FW none) 0 P (bodyPostM (FW none) 0 P fn λe w'=>e=.returned v/\Below w.heap.size w w') a w):bw P f l v:=by
 exact λw args cv=>aMx hf hb hN hl (h w) cv
end
theorem aUc{s:K}{m n:Nat}(hs:Sz m s)(hx:Sz n x)(cN:m+n<az):xO prog 89 20 ([bK x]++[aX 5]) [(5,.aI (cO s).cs 33)] [] (.tuple #[]) [(5,.aI (cO (s+x)).cs 33)]:=
 oA mixed func89 100 (N:=6) k_ (λ_=>[(tX hs hx cN).at 5]) (λ_=>k_)
theorem aUd{F:Fact}:xO prog 40 7 ([.agg #[sl 0 np,sl 1 nv,cy 2]]++[]) [] [(0,.view xp),(1,.view eT),(2,.fact F)] (.func (.func 92) #[] #[aX 7]) [(7,.aI [sl 0 np,sl 1 nv,cy 2] 26)]:=
 oA mixed func40 100 (N:=4) k_ (λ_=>[]) (λ_=>k_)
section
variable{ps:c_}{vs:e_}{fs:f_}{xp:ah}{np:Nat}{s:K}{p q r:V3 K}
def aGR(p q r:V3 K):Value:=.agg ((cr p).cs++(cr q).cs++(cr r).cs).toArray
end
section
variable{σ:Type}{vs:e_}{xp:ah}{np:Nat}{Fs:List (Nat×List Nat)}
def kk(f:σ->V3 K->V3 K->V3 K->σ)(s:σ)(l:e_):Nat->σ
 |0=>s
 |t+1=>f (kk f s l t) ((l[0]?).getD 0) ((l[t+1]?).getD 0) ((l[t+2]?).getD 0)
def wH(f:σ->V3 K->V3 K->V3 K->σ)(s:σ)(vs:e_)(Ls:List (List Nat)):Nat->σ
 |0=>s
 |i+1=>kk f (wH f s vs Ls i) (c8 vs ((Ls[i]?).getD [])) (((Ls[i]?).getD []).length-2)
def yz(np nv:Nat)(x3 x4 x5 x6:Obj):aH:=[(3,x3),(4,x4),(5,x5),(6,x6),(7,.aI [sl 0 np,sl 1 nv,cy 2] 26)]
def oK(xp:ah)(vs:e_)(fs:f_):aH:=[(0,.view xp),(1,.view (aG vs)),(2,.fact (iu fs))]
theorem Rv{x3 x4 x5 x6:Obj}{m:Nat}(hm:m=8\/m=9)(h:([x3,x4,x5,x6].all λx=>x.cells.all (lM m))=true)(lT:xp.all flat=true):((yz np vs.length x3 x4 x5 x6++oK xp vs fs).all λp=>Nat.blt p.1 8&&ni m p)=true:=by have e2:=xP (m:=m) (k:=0) (x:=.view xp) λv hv=>bd.1 lT v hv;have e3:=xP (m:=m) (k:=1) (x:=.view (aG vs)) λv hv=>bd.1 (cW vs) v hv;simp only[dT,eC,cZ]at h;obtain⟨h3,h4,h5,h6,_⟩:=h;simp only[yz,oK,C3,jG,dT,eC,e2,e3];simp only[ni,h3,h4,h5,h6];rcases hm with rfl|rfl<;>rfl
theorem aUe{x3 x4 x5 x6:Obj}{m:Nat}(hm:m=8\/m=9)(h:([x3,x4,x5,x6].all λx=>x.cells.all (lM m))=true):((yz np vs.length x3 x4 x5 x6).all (ni m))=true:=by have:=Rv (xp:=[]) (np:=np) (vs:=vs) (fs:=[]) hm h rfl;rw[List.all_append,cZ]at this;refine bd.2 λx hx=>?_;have:=bd.1 this.1 x hx;rw[cZ]at this;exact this.2
theorem aUf(lT:xp.all flat=true):(([]++oK xp vs fs).all λp=>Nat.blt p.1 7&&ni 7 p)=true:=by have e2:=xP (m:=7) (k:=0) (x:=.view xp) λv hv=>bd.1 lT v hv;have e3:=xP (m:=7) (k:=1) (x:=.view (aG vs)) λv hv=>bd.1 (cW vs) v hv;simp only[oK,jG,dT,eC,e2,e3];rfl
structure Cq(σ:Type) where
 f:σ->V3 K->V3 K->V3 K->σ
 Inv:Nat->σ->Prop
 q:Nat
 X:Nat
 x5:σ->Obj
 x3:Obj
 x4:Obj
 x6:Obj
 N:Nat
 Rw:Array Tmp
 dW:Code
 dz:Code
 fr:aN
structure Cq.Holds(B:Cq σ)(np:Nat)(vs:e_)(xp:ah)(fs:f_):Prop where
 inv:∀{n s p q r},B.Inv n s->aw B.q p->aw B.q q->aw B.q r->B.Inv (n+B.X) (B.f s p q r)
 mono:∀{m n s},m<=n->B.Inv m s->B.Inv n s
 round:∀{n s p q r},B.Inv n s->n+B.X<az->aw B.q p->aw B.q q->aw B.q r->
  FP prog 8 9 B.N B.Rw B.dW B.dz B.fr (yz np vs.length B.x3 B.x4 (B.x5 s) B.x6) (oK xp vs fs) (yz np vs.length B.x3 B.x4 (B.x5 (B.f s p q r)) B.x6) [] [aGR p q r] none
 low:∀ s,∀ x∈yz np vs.length B.x3 B.x4 (B.x5 s) B.x6++oK xp vs fs,fe 9 x.2
variable{fs:f_}{m:Map}{S:Nat->Prop}{T:p_}{W1 W:h_}{l D:Nat}{cB:FuncId}{B:Cq σ}{s0:σ}
noncomputable def mH(B:Cq σ)(l:Nat)(cB:FuncId)(T:p_)(D:Nat):Obj:=.fact (fH l (gJ cB T B.Rw B.dW B.dz D))
def Rx(n t:Nat)(l:Nat):aN:=[(6,vI t),(5,sl 12 n),(0,.func (.yield l) #[] #[])]
noncomputable def En(B:Cq σ)(np:Nat)(vs:e_)(xp:ah)(fs:f_)(s:σ):aH:=yz np vs.length B.x3 B.x4 (B.x5 s) B.x6++oK xp vs fs
noncomputable def AE(B:Cq σ)(np:Nat)(vs:e_)(xp:ah)(fs:f_)(dM:e_)(s:σ)(r:Obj):aH:=(12,.row (aG dM) 38 30)::(8,r)::En B np vs xp fs s
theorem aUg{n t:Nat}{s:σ}{dM:e_}(hB:B.Holds np vs xp fs)(pa:BE 8 B.N B.fr m T)(hp:∀ p∈dM,aw B.q p)(hs:B.Inv n s)(ht:t+2<dM.length)(cN:n+B.X<az)(h63:dM.length<1000000):
  af prog (pN W1 l S m) 40 (aF (ag f92 2)) (Rx dM.length (t+2) l) (AE B np vs xp fs dM s (mH B l cB T D)) 13
   ⟨.normal,Rx dM.length (t+1+2) l,AE B np vs xp fs dM (B.f s ((dM[0]?).getD 0) ((dM[t+1]?).getD 0) ((dM[t+2]?).getD 0)) (mH B l cB T D),13⟩:=by
 have h0:=aT (l:=dM) (i:=0) o_;have h1:=aT (l:=dM) (i:=t+1) o_;have h2:=aT (l:=dM) (i:=t+2) ht;have s0':=hp _ (cY (l:=dM) (n:=0) o_);have s1:=hp _ (cY (l:=dM) (n:=t+1) o_);have s2:=hp _ (cY (l:=dM) (n:=t+2) ht);rw[h0,h1,h2];show af _ _ _ _ _ _ _ ⟨_,_,AE B np vs xp fs dM (B.f s dM[0] dM[t+1] dM[t+2]) _,_⟩;generalize dM[0]=a at *;generalize dM[t+1]=x at *;generalize dM[t+2]=y at *;have st:=UT (S:=S) (W1:=W1) (l:=l) (D:=D) (cB:=cB) (x:=.tmp 23) (o:=aA f92 37) (hB.round hs cN s0' s1 s2) k_ pa;have w1:IntKind.i64.wrap (((t+2:Nat):Int)-1)=((t+1:Nat):Int):=by rw[dX];omega
 unfold AE En mH;generalize B.x5 s=o5 at *;generalize B.x5 (B.f s a x y)=o5' at *;generalize B.x3=o3 at *;generalize B.x4=o4 at *;generalize B.x6=o6 at *;exact aC [.lt 20 (t+2) dM.length true (aE ht),.cM f92 25 12 dM.length 0 30 o_ k_,.ld f92 26 38 12 (0*30) (.row (aG dM) 38 30) (aZ a) rfl (gD h0) k_,.wr 29 .i64 (((t+2:Nat):Int)-1) ((t+1:Nat):Int) w1,.cM f92 30 12 dM.length (t+1) 30 o_ k_,.ld f92 31 38 12 ((t+1)*30) (.row (aG dM) 38 30) (aZ x) rfl (gD h1) k_,.cM f92 34 12 dM.length (t+2) 30 ht k_,.ld f92 35 38 12 ((t+2)*30) (.row (aG dM) 38 30) (aZ y) rfl (gD h2) k_,.step 37 _ _ _ _ _ st,.sum 22 (t+2) 1 (t+1+2) o_ o_]
theorem X7{n:Nat}{s:σ}{dM:e_}(hB:B.Holds np vs xp fs)(hp:∀ p∈dM,aw B.q p)(hs:B.Inv n s):∀ t,t+2<=dM.length->B.Inv (n+t*B.X) (kk B.f s dM t)
 |0,_=>by rw[kS,jd];exact hs
 |t+1,h=>by have ih:=X7 hB hp hs t o_;unfold kk;rw[aT (l:=dM) (i:=0) o_,aT (l:=dM) (i:=t+1) o_,aT (l:=dM) (i:=t+2) o_];exact hB.mono (by rw[sA t];omega) (hB.inv ih (hp _ (cY _)) (hp _ (cY _)) (hp _ (cY _)))
theorem aUh{n:Nat}{s:σ}{dM:e_}(hB:B.Holds np vs xp fs)(pa:BE 8 B.N B.fr m T)(hp:∀ p∈dM,aw B.q p)(hs:B.Inv n s)(h2:2<=dM.length)(cN:n+(dM.length+1)*B.X<az)(h63:dM.length<1000000):
  af prog (pN W1 l S m) 40 (.block 2 (ag f92 2)) (Rx dM.length 2 l) (AE B np vs xp fs dM s (mH B l cB T D)) 13
   ⟨.normal,[],AE B np vs xp fs dM (kk B.f s dM (dM.length-2)) (mH B l cB T D),13⟩:=by
 obtain⟨c,hc⟩:∃ c,dM.length=c+2:=⟨dM.length-2,by omega⟩;have e:dM.length-2=c:=by omega
 rw[e];refine bO (id:=2) (ch (r:=⟨.exit 2,[],AE B np vs xp fs dM (kk B.f s dM c) (mH B l cB T D),13⟩) c (λt=>Rx dM.length (t+2) l) (λt=>AE B np vs xp fs dM (kk B.f s dM t) (mH B l cB T D)) (λi k _=>Ds (by rfl) k) (λt ht=>?_) ?_ n_)
 ·have hle:n+t*B.X+B.X<az:=by have h1:(t+1)*B.X<=(dM.length+1)*B.X:=eh _ o_;rw[sA t]at h1;generalize t*B.X=z at *;omega
  exact aUg hB pa hp (X7 hB hp hs t o_) o_ hle h63
 ·rw[hc];unfold AE En mH;generalize B.x5 (kk B.f s dM c)=z at *;generalize B.x3=o3 at *;generalize B.x4=o4 at *;generalize B.x6=o6 at *;exact aC [.lt 20 (c+2) (c+2) false s_]
def GQ(n i:Nat)(l:Nat):aN:=[(10,vI i),(8,cy 2),(9,vI n),(0,.func (.yield l) #[] #[]),(1,aX 7)]
noncomputable def rU(B:Cq σ)(np:Nat)(vs:e_)(xp:ah)(fs:f_)(s:σ)(r:Obj):aH:=(8,r)::En B np vs xp fs s
theorem aUi{s:σ}(hB:B.Holds np vs xp fs):∀ x∈rU B np vs xp fs s (mH B l cB T D),fe 9 x.2:=λx hx=>by
 rcases ct.1 hx with rfl|hx
 ·exact n_
 ·exact hB.low s x hx
theorem aUj{n:Nat}{s:σ}{k:Int}{L:l_}(hB:B.Holds np vs xp fs)(pa:BE 8 B.N B.fr m T)(hi:i<fs.length)(hf:fs[i]?=some (k,cU L))(hL:∀ x∈L,x<vs.length)(hp:∀ p∈vs,aw B.q p)(hs:B.Inv n s)(h2:2<=L.length)(cN:n+(L.length+1)*B.X<az)
  (lT:xp.all flat=true) (D4:np=0->xp=[]) (h63:L.length<1000000) (pW:fs.length<1000000) :
  af prog (pN W1 l S m) 40 (aF (ag f92 0)) (GQ fs.length i l) (rU B np vs xp fs s (mH B l cB T D)) 9
   ⟨.normal,GQ fs.length (i+1) l,rU B np vs xp fs (kk B.f s (c8 vs L) (L.length-2)) (mH B l cB T D),9⟩:=by
 have hlen:(c8 vs L).length=L.length:=dr ..;have ig:(cU L).length=L.length:=dr ..;have LP:∀ p∈c8 vs L,aw B.q p:=λp iQ=>by obtain⟨x,hx,rfl⟩:=dj.1 iQ;exact hp _ (cH (iy (hL x hx)))
 have lo:=aUh (S:=S) (W1:=W1) (l:=l) (cB:=cB) (D:=D) (fs:=fs) (vs:=vs) (np:=np) (xp:=xp) hB pa LP hs o_ (by rw[hlen];exact cN) o_;have vV:=aUa (np:=np) (F:=iu fs) (i:=k) (u:=iV k) rfl hL h63 lT rfl;rw[hlen]at lo;rw[ig]at vV;have dE:=λz=>aUi (l:=l) (cB:=cB) (T:=T) (D:=D) (s:=z) hB;have cK:=cW (c8 vs L);generalize kk B.f s (c8 vs L) (L.length-2)=z at *;have dE:=dE z;generalize c8 vs L=a at *;unfold AE at lo;unfold rU En mH at *;generalize B.x5 s=o5 at *;generalize B.x5 z=o5' at *;generalize B.x3=o3 at *;generalize B.x4=o4 at *;generalize B.x6=o6 at *;exact qZ mixed 100 (fC:=13) [.lt 11 i fs.length true (aE hi),.step 12 (aA f92 12) [cy 2,vI i] [(9,none),(9+1,none),(2,some (.fact (iu fs)))] (aX 9) [(9,.view [iV k,cy 10]),(9+1,.fact (eg (cU L)))] (GA k_ (pU.full fs) hf d_),.step 16 (aA f92 16) [.func (.func 93) #[] #[],.agg #[sl 0 np,sl 1 vs.length,cy 2],.agg #[iV k,cy 10]] [(12,none),(0,some (.view xp)),(1,some (.view (aG vs))),(2,some (.fact (iu fs))),(10,some (.fact (eg (cU L))))] (sl 12 L.length) [(12,.row (aG a) 38 30)]
   (qF vV (.s (x1:=.view xp) (x2:=.view (aG vs)) rfl lT D4 rfl (cW vs) oB (.c rfl (λ_ _ h=>h) .nil)) (x:=.func 93) k_ k_ cK 12),
  .code 2 _ _ _ _ _ lo,.sum 39 i 1 (i+1) rfl o_] k_ rfl k_ dE k_
end
section
variable{σ:Type}{vs:e_}{xp:ah}{np:Nat}{m:Map}{S:Nat->Prop}{T:p_}{W1 W:h_}{l D:Nat}{cB:FuncId}{Fs:List (Nat×List Nat)}{q X M n0:Nat}{B:Cq σ}{s0:σ}
structure Eo(vs:e_)(Fs:List (Nat×List Nat))(q X M n0:Nat):Prop where
 len:∀ f∈Fs,2<=f.2.length/\f.2.length<=M
 idx:∀ f∈Fs,∀ x∈f.2,x<vs.length
 sz:∀ p∈vs,aw q p
 fC:n0+(Fs.length+2)*((M+1)*X)<az
 few:Fs.length<1000000
 many:M<1000000
theorem Eo.y(h:Eo vs Fs q X M n0){i:Nat}(hi:i<Fs.length){n:Nat}(hn:n<=M):n0+i*((M+1)*X)+(n+1)*X<az:=by have:=h.fC;have h1:(i+1)*((M+1)*X)<=(Fs.length+2)*((M+1)*X):=eh _ o_;rw[sA i]at h1;have h2:(n+1)*X<=(M+1)*X:=eh _ o_;generalize (M+1)*X=z at *;generalize (n+1)*X=y at *;generalize i*z=a at *;omega
theorem X8(f:σ->V3 K->V3 K->V3 K->σ)(s:σ)(vs:e_)(Fs:List (Nat×List Nat))(i:Nat)(g:Nat×List Nat)(hf:Fs[i]?=some g):wH f s vs (Fs.map (·.2)) (i+1)=kk f (wH f s vs (Fs.map (·.2)) i) (c8 vs g.2) (g.2.length-2):=by show kk f _ (c8 vs (((Fs.map (·.2))[i]?).getD [])) ((((Fs.map (·.2))[i]?).getD []).length-2)=_;rw[qW,hf];rfl
theorem X9(h:Eo vs Fs B.q B.X M n0)(hB:B.Holds np vs xp (Fs.map eR))(h0:B.Inv n0 s0):∀ i,i<=Fs.length->B.Inv (n0+i*((M+1)*B.X)) (wH B.f s0 vs (Fs.map (·.2)) i)
 |0,_=>hB.mono o_ h0
 |i+1,hi=>by
  have ih:=X9 h hB h0 i o_;have hf:Fs[i]?=some Fs[i]:=aT o_;have hm:=cY (l:=Fs) (n:=i) o_;generalize Fs[i]=g at *;rw[X8 _ _ _ _ _ _ hf];have hlen:(c8 vs g.2).length=g.2.length:=dr ..;have hl:=h.len _ hm;refine hB.mono ?_ (X7 hB (λp hp=>?_) ih (g.2.length-2) o_)
  ·rw[sA i];have h2:(g.2.length-2)*B.X<=(M+1)*B.X:=eh _ o_;generalize (M+1)*B.X=z at *;generalize (g.2.length-2)*B.X=y at *;generalize i*z=a at *;omega
  ·obtain⟨x,hx,rfl⟩:=dj.1 hp;exact h.sz _ (cH (iy (h.idx _ hm x hx)))
theorem aUk{z:Nat->σ}(h:Eo vs Fs B.q B.X M n0)(hB:B.Holds np vs xp (Fs.map eR))(hz:∀(i:Nat) (f:Nat×List Nat),Fs[i]?=some f->z (i+1)=kk B.f (z i) (c8 vs f.2) (f.2.length-2))(bC:∀ i,i<=Fs.length->B.Inv (n0+i*((M+1)*B.X)) (z i))
  (pa:BE 8 B.N B.fr m T) (lT:xp.all flat=true) (D4:np=0->xp=[]) :
  af prog (pN W1 l S m) 40 (.block 0 (ag f92 0)) (GQ (Fs.map eR).length 0 l) (rU B np vs xp (Fs.map eR) (z 0) (mH B l cB T D)) 9
   ⟨.normal,[],rU B np vs xp (Fs.map eR) (z (Fs.map eR).length) (mH B l cB T D),9⟩:=by
 have hlen:(Fs.map eR).length=Fs.length:=dr ..;have hk:∀(i k:Nat),ai (rU B np vs xp (Fs.map eR) (z i) (mH B l cB T D)) k=none↔ai (rU B np vs xp (Fs.map eR) (z 0) (mH B l cB T D)) k=none:=λi k=>Ds (by unfold rU En yz;rfl) k;have mU:∀ y:σ,af prog (pN W1 l S m) 40 (aF (ag f92 0)) (GQ (Fs.map eR).length (Fs.map eR).length l) (rU B np vs xp (Fs.map eR) y (mH B l cB T D)) 9 ⟨.exit 0,[],rU B np vs xp (Fs.map eR) y (mH B l cB T D),9⟩:=λy=>by unfold rU En mH;generalize B.x5 y=o5 at *;generalize B.x3=o3 at *;generalize B.x4=o4 at *;generalize B.x6=o6 at *;exact aC [.lt 11 (Fs.map eR).length (Fs.map eR).length false s_]
 have aUl:∀ i,i<(Fs.map eR).length->af prog (pN W1 l S m) 40 (aF (ag f92 0)) (GQ (Fs.map eR).length i l) (rU B np vs xp (Fs.map eR) (z i) (mH B l cB T D)) 9 ⟨.normal,GQ (Fs.map eR).length (i+1) l,rU B np vs xp (Fs.map eR) (z (i+1)) (mH B l cB T D),9⟩:=λi hi=>by
  have gy:i<Fs.length:=by omega
  have hf:Fs[i]?=some Fs[i]:=aT gy;have hm:=cY (l:=Fs) (n:=i) gy;generalize Fs[i]=f at *;have hl:=h.len _ hm;rw[hz i f hf];exact aUj (W1:=W1) (l:=l) (cB:=cB) (D:=D) (xp:=xp) (np:=np) (fs:=Fs.map eR) (i:=i) (s:=z i) (k:=(f.1:Int)) (L:=f.2) hB pa hi (by rw[qW,hf];rfl) (h.idx _ hm) h.sz (bC i o_) hl.1 (h.y gy hl.2) lT D4 (by have:=h.many;omega) (by rw[hlen];exact h.few)
 exact bO (id:=0) (ch (P:=prog) (B:=pN W1 l S m) (N:=40) (Fs.map eR).length (λi=>GQ (Fs.map eR).length i l) (λi=>rU B np vs xp (Fs.map eR) (z i) (mH B l cB T D)) (λi k _=>hk i k) aUl (mU _) n_)
theorem aUm{z:Nat->σ}(h:Eo vs Fs B.q B.X M n0)(hB:B.Holds np vs xp (Fs.map eR))(hz:∀(i:Nat) (f:Nat×List Nat),Fs[i]?=some f->z (i+1)=kk B.f (z i) (c8 vs f.2) (f.2.length-2))(bC:∀ i,i<=Fs.length->B.Inv (n0+i*((M+1)*B.X)) (z i))(wK:z 0=s0)
  (lT:xp.all flat=true) (D4:np=0->xp=[]) :
  KR prog 8 B.N B.Rw B.dW B.dz B.fr (yz np vs.length B.x3 B.x4 (B.x5 s0) B.x6) (oK xp vs (Fs.map eR)) (yz np vs.length B.x3 B.x4 (B.x5 (z (Fs.map eR).length)) B.x6) m T 92 [aX 7] none:=by
 refine KX (Nc:=40) (ca:=[aX 7]) mixed func92 k_ 100 (v:=.tuple #[]) λpa cB l D W1 S=>?_;have lo:=aUk (S:=S) (W1:=W1) (l:=l) (cB:=cB) (D:=D) h hB hz bC pa lT D4;rw[wK]at lo;generalize z (Fs.map eR).length=y at *;generalize Fs.map eR=fs at *;unfold rU En mH at *;generalize B.x5 s0=o5 at *;generalize B.x5 y=o5' at *;generalize B.x3=o3 at *;generalize B.x4=o4 at *;generalize B.x6=o6 at *;exact⟨[.step 9 (aA f92 9) [cy 2] [(2,some (.fact (iu fs)))] (vI fs.length) [] (tn k_ (pU.full fs)),.code 0 _ _ _ _ _ lo],k_⟩
end
theorem Ya{p q:Int}{n:Nat}(hq:q≠0)(h1:p.natAbs<2^n)(h2:q.natAbs<2^n)(hn:n<=63):aB prog 45 [.int .i64 p,.int .i64 q] (bK (gE p q)):=by have rt:=KJ hq h1 h2 hn;rw[<-PW hq]at rt;generalize gE p q=k at *;exact bo func45 (λ_=>[rt.at 10])
section
variable{vs:e_}{fs:f_}{xp:ah}{np:Nat}{s:K}{p q r:V3 K}
def Cr(s:K)(p q r:V3 K):K:=s+cE p q r
noncomputable def GR(Q np nv:Nat):Cq K where
 f:=Cr
 Inv n s:=Sz n s
 q:=Q
 X:=18*Q+50
 x5 s:=.aI (cO s).cs 33
 x3:=.aI [sl 0 np,sl 1 nv,cy 2] 26
 x4:=.aI gL.cs 33
 x6:=.aI [.func (.func 89) #[] #[aX 5]] 101
 N:=23
 Rw:=#[10]
 dW:=FT (sR f36)
 dz:=Dw (sR f36)
 fr:=[(2,aX 4),(3,aX 5),(4,aX 6),(9,.func (.func 92) #[] #[aX 7])]
def Ep(np nv:Nat)(s:K):aH:=yz np nv (.aI [sl 0 np,sl 1 nv,cy 2] 26) (.aI gL.cs 33) (.aI (cO s).cs 33) (.aI [.func (.func 89) #[] #[aX 5]] 101)
def Ry:aN:=[(2,aX 4),(3,aX 5),(4,aX 6),(9,.func (.func 92) #[] #[aX 7])]
theorem Rz{m:Nat}(hm:m=8\/m=9):([Obj.aI [sl 0 np,sl 1 nv,cy 2] 26,.aI gL.cs 33,.aI (cO s).cs 33,.aI [.func (.func 89) #[] #[aX 5]] 101].all λx=>x.cells.all (lM m))=true:=by rcases hm with rfl|rfl<;>kernel_rfl
theorem aUn{m n:Nat}(hp:aw m p)(hq:aw m q)(hr:aw m r)(hs:Sz n s)(cN:n+(18*m+50)<az)(lT:xp.all flat=true):
  FP prog 8 9 23 #[10] (FT (sR f36)) (Dw (sR f36)) Ry (Ep np vs.length s) (oK xp vs fs) (Ep np vs.length (s+cE p q r)) [] [aGR p q r] none:=by
 have hd:Sz (15*m+41) (cE p q r):=(hp.dot (hq.av hr)).mono o_;have Vt:=QA hp hq hr o_;have aUo:=aUc hs hd o_;generalize cE p q r=x at *
 exact O7 [] (rA:=⟨.normal,(5,aX 9)::Ry,(9,.aI ((cr p).cs++(cr q).cs++(cr r).cs) 69)::(Ep np vs.length s++oK xp vs fs),10⟩) (rB:=⟨.normal,[],Ep np vs.length (s+x),10⟩)
  k_ rfl k_ d_ (O8 (Rv (.inr rfl) (Rz (.inr rfl)) lT)) (FU (aUe (.inr rfl) (Rz (.inr rfl))) []) k_ (KW k_) k_ rfl k_ (λB=>fB mixed 10 [] k_) rfl k_ rfl
  (λB=>fB mixed 10 [Vt.at 18,.step 19 _ _ _ _ _ (Lg (K:=20) (args:=[bK x]) (ca:=[aX 5]) (x:=.tmp 11) (o:=aA f36 19) aUo k_ k_ k_ k_ k_ k_ k_ k_ k_ k_)] k_) (λk y h=>h) rfl
theorem aGS{Q:Nat}(lT:xp.all flat=true):(GR Q np vs.length).Holds np vs xp fs where
 inv {n s p q r} hs hp hq hr:=by have hs:Sz n s:=hs;have hp:aw Q p:=hp;have hq:aw Q q:=hq;have hr:aw Q r:=hr;have hd:Sz (15*Q+41) (cE p q r):=(hp.dot (hq.av hr)).mono o_;exact(hs.add hd).mono (by show _<=n+(18*Q+50);omega)
 mono {m n s} h hs:=by have hs:Sz m s:=hs;exact hs.mono h
 round hs h hp hq hr:=aUn hp hq hr hs h lT
 low s x hx:=by have:=bd.1 (Rv (fs:=fs) (np:=np) (vs:=vs) (.inr rfl) (Rz (s:=s) (.inr rfl)) lT) x hx;rw[cZ]at this;exact KN this.2
end
section
variable{vs:e_}{xp:ah}{np:Nat}{Fs:List (Nat×List Nat)}{Q M:Nat}
def Jo(np:Nat)(xp:ah)(vs:e_)(Fs:List (Nat×List Nat)):aL:=.s np xp vs.length (aG vs) (iu (Fs.map eR))
def Jp(vs:e_)(Fs:List (Nat×List Nat)):K:=wH Cr 0 vs (Fs.map (·.2)) (Fs.map eR).length
noncomputable def MC(vs:e_)(Fs:List (Nat×List Nat)):K:=Jp vs Fs*gE 1 6
theorem aUp{n:Nat}(h:Eo vs Fs Q (18*Q+50) M 2)(lT:xp.all flat=true)(D4:np=0->xp=[])(hs:Sz n (Jp vs Fs))(hn:n+40<az):bw prog 36 [Jo np xp vs Fs] (bK (MC vs Fs)):=by
 have au:([Jo np xp vs Fs].all aL.ok)=true:=by show((xp.all flat&&((aG vs).all flat&&true))&&true)=true;rw[lT,cW];rfl
 have hr:Sz 3 (gE 1 6):=B0 d_ d_ d_;have mr:=Ya (p:=1) (q:=6) (n:=3) d_ d_ d_ d_;have ml:=nh hs hr o_;have h0:aB prog 88 [.int .i64 0] (bK 0):=rq (z:=0) d_;have body:∀ w ι cc a,fA (aa.at w) ι (bI (jR 0 (eG 0 [Jo np xp vs Fs]))) 23 a->aM (aa.at w) ι cc w->da cc (ji 0 [Jo np xp vs Fs])->eU cc (jB 0 [Jo np xp vs Fs])->
   ((f36).body.getD .skip).wpIn (FW none) 0 prog (bodyPostM (FW none) 0 prog f36 λe w'=>e=.returned (bK (MC vs Fs))/\Below w.heap.size w w') a w:=by
  intro w ι cc a hf hm ha hu;have hB:=aGS (Q:=Q) (np:=np) (vs:=vs) (fs:=Fs.map eR) lT;have hz:∀(i:Nat) (f:Nat×List Nat),Fs[i]?=some f->wH Cr 0 vs (Fs.map (·.2)) (i+1)=kk (GR Q np vs.length).f (wH Cr 0 vs (Fs.map (·.2)) i) (c8 vs f.2) (f.2.length-2):=X8 Cr 0 vs Fs;have hinv:∀ i,i<=Fs.length->(GR Q np vs.length).Inv (2+i*((M+1)*(GR Q np vs.length).X)) (wH Cr 0 vs (Fs.map (·.2)) i):=X9 (B:=GR Q np vs.length) (s0:=(0:K)) h hB (o9 (z:=0) (n:=2) d_ d_);have vh:=λ(m:Map) (T:p_)=>aUm (B:=GR Q np vs.length) (s0:=(0:K)) (xp:=xp) (np:=np) (m:=m) (T:=T) (z:=wH Cr 0 vs (Fs.map (·.2))) h hB hz hinv rfl lT D4
  unfold MC;unfold Jp at *;unfold Jo at *;generalize wH Cr 0 vs (Fs.map (·.2)) (Fs.map eR).length=z at *;generalize Fs.map eR=fs at *;have g0:af prog (aa.at w) 23 (zG f36 0) (jR 0 (eG 0 [.s np xp vs.length (aG vs) (iu fs)])) (ji 0 [.s np xp vs.length (aG vs) (iu fs)]) 3 ⟨.normal,[(1,aX 3),(2,aX 4)],(3,.aI [sl 0 np,sl 1 vs.length,cy 2] 26)::(4,.aI gL.cs 33)::oK xp vs fs,5⟩:=aC [];have g1:af prog (aa.at w) 23 (zG f36 1) [(1,aX 3),(2,aX 4)] ((3,.aI [sl 0 np,sl 1 vs.length,cy 2] 26)::(4,.aI gL.cs 33)::oK xp vs fs) 5 ⟨.normal,[(1,aX 3),(2,aX 4),(3,aX 5)],(5,.aI (cO 0).cs 33)::(3,.aI [sl 0 np,sl 1 vs.length,cy 2] 26)::(4,.aI gL.cs 33)::oK xp vs fs,6⟩:=aC [h0.at 6];have g2:af prog (aa.at w) 23 (zG f36 2) [(1,aX 3),(2,aX 4),(3,aX 5)] ((5,.aI (cO 0).cs 33)::(3,.aI [sl 0 np,sl 1 vs.length,cy 2] 26)::(4,.aI gL.cs 33)::oK xp vs fs) 6 ⟨.normal,[(1,aX 3),(2,aX 4),(3,aX 5),(4,aX 6)],(5,.aI (cO 0).cs 33)::(6,.aI [.func (.func 89) #[] #[aX 5]] 101)::(3,.aI [sl 0 np,sl 1 vs.length,cy 2] 26)::(4,.aI gL.cs 33)::oK xp vs fs,7⟩:=aC [];have g3:af prog (aa.at w) 23 (zG f36 3) [(1,aX 3),(2,aX 4),(3,aX 5),(4,aX 6)] ((5,.aI (cO 0).cs 33)::(6,.aI [.func (.func 89) #[] #[aX 5]] 101)::(3,.aI [sl 0 np,sl 1 vs.length,cy 2] 26)::(4,.aI gL.cs 33)::oK xp vs fs) 7 ⟨.normal,Ry,Ep np vs.length 0++oK xp vs fs,8⟩:=aC [
   .step 9 _ _ _ _ _ (aCL (K:=7) (args:=[.agg #[sl 0 np,sl 1 vs.length,cy 2]]) (ca:=[]) (ns:=[7]) (Os:=[]) (Vs:=oK xp vs fs) (x:=.func 40) (o:=aA f36 9) aUd k_ k_ k_ k_ (aUf lT) (λp hp v hv=>by simp at hp;subst hp;have hv:v∈[sl 0 np,sl 1 vs.length,cy 2]:=hv;simp at hv;rcases hv with rfl|rfl|rfl<;>rfl) k_ (λp hp=>by simp at hp;subst hp;exact .inl rfl) k_ (UO rfl))]
  have ge:∀ B,af prog B 23 (.seq (zG f36 6) .ret) Ry (Ep np vs.length z++oK xp vs fs) 8 ⟨.ret,[(2,aX 4)],[(4,.aI (cO (z*gE 1 6)).cs 33)],8⟩:=λB=>aC [mr.at 21,ml.at 22];refine l9 (g0 none _ _ a w _ hf hm ha hu λtQ cc0 a0 w0 aBZ A0 kp nE zq BJ _=>?_);refine l9 (g1 none _ _ a0 w0 _ A0 kp nE zq λbP gA a1 w1 ju ik c7 eE dS gY _=>?_);refine l9 (g2 none _ _ a1 w1 _ ik c7 eE dS λdG r5 a2 w2 kQ jD dF gk eX gv _=>?_);refine l9 (l9 (g3 none _ _ a2 w2 _ jD dF gk eX λPc cc3 a3 w3 aWj VC vA BF U0 U1 _=>JL ?_));have l8:=Rv (fs:=fs) (np:=np) (vs:=vs) (.inl rfl) (Rz (np:=np) (nv:=vs.length) (s:=z) (.inl rfl)) lT;refine U2 (next:=8) (next':=8) (ns:=[]) (Os:=Ep np vs.length 0) (Vs:=oK xp vs fs) (cx:=Ep np vs.length z) (gf:=92) (ca:=[aX 7]) (j:=none) VC vA BF U0 k_ k_ k_ k_ k_ k_ k_ k_ (bA _) k_ (λp hp=>?_) (vh _ _) λD κ b9 w' Du hDw _ hf4 hm4 ha4 hu4=>?_
  ·have:=bd.1 l8 p hp;rw[cZ]at this;exact λv hv=>by unfold sQ;rw[KN this.2 v hv];rfl
  exact aBU (B:=aa.at w) (v:=bK (z*gE 1 6)) ge rfl k_ hf4 hm4 ha4 hu4 rfl (λF h=>h) Du λay cc v' w' hc hG _=>⟨by rw[hc.fk rfl],hG.base⟩
 exact aUb (N:=23) (c:=(f36).body.getD .skip) func36 k_ k_ au body
end
end
section
open CR OF V3
section
variable{F:Type}[OF F]
end
end
section
open CR OF
open V3 (dot av cE smul)
section
variable{ps:c_}{vs:e_}{p q r s:HS K}{v w:V3 K}
end
end
section
open CR OF V3
section
variable{F:Type}[OF F]
variable{ps:List (HS F)}{a b w u v:V3 F}{p r s:HS F}
end
end
section
open CR OF
open V3 (dot av cE smul)
section
variable{ps:c_}{vs:e_}{r s:HS K}{i j a b:Nat}
end
end

end Go.Proofs.YthjhinbiabcfiaaGreatDoor
