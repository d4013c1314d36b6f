/- Valid records and points: the proof of SolidValidCardSaid (the law's function answers true at every record and vector; theorem solidValid_card, last part), part 5 of 7; no condition. -/
import Derived.Test.YthccllenbnhogaaGreatDoorZA4
namespace Go.Proofs.YthccllenbnhogaaGreatDoor
open Go Go.RowKit Tryz
variable{i m k a q b j e off cc N cap n2 len n1 A U:Nat}{w w':h_}{ι:Map}{p:HS K}{o:Oper}{c:g_}{f:FuncId}{B Bs:ae}{x:m_}{t:Bool}{ps:c_}{fr:aM}{ty:TypeId}{M:aE}{y z:Int}{xs cells' ew pre post:ah}{α β:Type}{l:List aK}{fs:f_}{u va res:i_}{F:Fact}{P:j_}{r:RN}{acc:e_}{ks:List (Value×ah)}{ns:l_}{f':Int×List Int}
section
open V3 (dot aw cI smul)
def cv(p:HS K)(vs:e_)(j:Nat):List Nat:=(List.range j).filter λk=>decide (dot p.n (aP vs k)-p.d=0)
theorem aEh(p:HS K)(vs:e_)(j:Nat):cv p vs (j+1)=cv p vs j++(if dot p.n (aP vs j)-p.d=0 then[j]else[]):=by
 unfold cv;rw[JZ,Wa]
 congr 1
 by_cases h:dot p.n (aP vs j)-p.d=0<;>simp[h]
theorem Wb{vs:e_}{x:Nat}(h:x∈cv p vs j):x<j:=by unfold cv at h;rw[aEi,kk]at h;exact h.1
theorem Ie(p:HS K)(vs:e_)(j:Nat):(cv p vs j).length<=j:=by have:=aEj (λk=>decide (dot p.n (aP vs k)-p.d=0)) (List.range j);rw[Ar]at this;exact this
def rl(ps:c_)(vs:e_)(i:Nat)(p:HS K):List (Nat×List Nat):=
 if(ps.take i).any (λq=>decide (canon p=canon q))then[]
 else if(cv p vs vs.length).length<3 then[]
 else if(order p.n (aP vs) (cv p vs vs.length)).length>2 then[(i,order p.n (aP vs) (cv p vs vs.length))]else[]
def lM(ps:c_)(vs:e_)(i:Nat):List (Nat×List Nat):=match ps[i]? with|some p=>rl ps vs i p|none=>[]
def ev(ps:c_)(vs:e_)(n:Nat):List (Nat×List Nat):=(List.range n).flatMap (lM ps vs)
theorem Lk(ps:c_)(vs:e_)(n:Nat):ev ps vs (n+1)=ev ps vs n++lM ps vs n:=by unfold ev;rw[JZ,Kz];simp
theorem aQj(ps:c_)(vs:e_)(i:Nat)(p:HS K):(rl ps vs i p).length<=1:=by
 unfold rl;split
 ·exact kB _
 ·split
  ·exact kB _
  ·split
   ·exact bh _
   ·exact kB _
theorem Ll(ps:c_)(vs:e_):∀ n,(ev ps vs n).length<=n
 |0=>bh _
 |n+1=>by
  rw[Lk,jM];have h1:=Ll ps vs n;have h2:(lM ps vs n).length<=1:=by
   unfold lM;split
   ·exact aQj _ _ _ _
   ·exact kB _
  omega
def j9(f:Nat×List Nat):Int×List Int:=((f.1:Int),f.2.map λx:Nat=>(x:Int))
section
variable{Bs:ae}{ps:c_}{vs:e_}
def Lm(nv j L:Nat):aM:=[(26,vI j),(24,sl 1 nv),(25,vI nv),(7,bZ 3),(8,sl 4 L)]
def zK(vs:e_)(p:HS K):aE:=[(1,.view (aX vs)),(3,.aI (cV p).cs 66)]
def jU(l:l_):List Obj:=[.row (ak l) 3 1]
theorem aQk:∀ x∈zK vs p,fH m x.2:=λx hx=>by
 simp only[zK,b9,fv,fA]at hx;rcases hx with rfl|rfl
 ·exact λv hv=>iF (aY.1 (eD vs) v hv)
 ·exact λv hv=>iF (iL.flat _ v hv)
theorem Wc{l:l_}:∀ x∈jU l,fH m x:=λx hx=>by simp only[jU,b9,fv,fA]at hx;subst hx;exact λv hv=>iF (mh _ v hv)
theorem aQl{l:l_}(hj:j<vs.length)(hp:bB m p)(js:p.n≠0)(aN:∀ v∈vs,aG q v)(hm:100*(m+q)+1000<=aA)(h63:l.length<900000)(pq:vs.length<1000000):
  ∃ σ fY,(∀ l0:List Nat,vp (zK vs p++dj [none] (jU l0)) 4 σ (Lm vs.length (j+1) (l++if dot p.n (aP vs j)-p.d=0 then[j]else[]).length) (zK vs p) (jU (l++if dot p.n (aP vs j)-p.d=0 then[j]else[]))=true)/\
   af prog Bs 59 (aF (ag Tryz.f49 2)) (Lm vs.length j l.length) (zK vs p++marks 4 (jU l)) 5 ⟨.normal,fm 4 σ (Lm vs.length (j+1) (l++if dot p.n (aP vs j)-p.d=0 then[j]else[]).length),zK vs p++dj σ (jU (l++if dot p.n (aP vs j)-p.d=0 then[j]else[])),fY⟩:=by
 have hv:=lj hj;have hs:=Fj hp (aN _ (cN hv)) o_ js;by_cases h:dot p.n (aP vs j)-p.d=0
 ·rw[au h];have e:(Value.bool (OF.aB (dot p.n (aP vs j)-p.d)==0))=.bool true:=by rw[OF.NC.1 h];rfl
  have hr:ak l++[vI j]=ak (l++[j]):=by simp[ak]
  have DE:(ak l).length=l.length*1:=by rw[nD,gn]
  have h1:=Li l;rw[show(l++[j]).length=l.length+1 by simp];unfold jU;refine⟨[some 7],8,λl0=>k_,?_⟩;generalize OF.aB (dot p.n (aP vs j)-p.d)=z at *;generalize aP vs j=v at *;generalize ak l=c0 at *;generalize ak (l++[j])=c1 at *;exact az [.lt 27 j vs.length true (aC hj),.df Tryz.f49 29 1 vs.length j 30 hj k_,.ld Tryz.f49 30 42 1 (j*30) (.view (aX vs)) (bN v) rfl (nW hv) k_,hs.at 33,.rw 34 (.bool (z==0)) b_ e,.bs Tryz.f49 37 6 1 3 1 [0] (vI 0) [vI j] #[vI j] (.row [vI j] 3 1) rfl (λv hv=>by simp at hv;subst hv;rfl) (λv hv=>by simp at hv;subst hv;rfl) k_ rfl d_ d_ k_,.pP Tryz.f49 38 7 4 l.length 1 (l.length+1) 3 1 8 c0 6 (.row [vI j] 3 1) c1 rfl rfl rfl DE hr (λv hv=>by simp[Obj.cells]at hv;subst hv;rfl) d_ (by simp[maxLen];omega) o_ k_,.sum 39 j 1 (j+1) rfl o_]
 ·rw[al h,gY];have e:(Value.bool (OF.aB (dot p.n (aP vs j)-p.d)==0))=.bool false:=by
   congr 1
   have:OF.aB (dot p.n (aP vs j)-p.d)≠0:=λe=>h (OF.NC.2 e);simpa using this
  refine⟨[some 4],6,λl0=>k_,?_⟩;generalize OF.aB (dot p.n (aP vs j)-p.d)=z at *;generalize aP vs j=v at *;exact az [.lt 27 j vs.length true (aC hj),.df Tryz.f49 29 1 vs.length j 30 hj k_,.ld Tryz.f49 30 42 1 (j*30) (.view (aX vs)) (bN v) rfl (nW hv) k_,hs.at 33,.rw 34 (.bool (z==0)) a_ e,.sum 39 j 1 (j+1) rfl o_]
theorem Wd(hp:bB m p)(js:p.n≠0)(aN:∀ v∈vs,aG q v)(hm:100*(m+q)+1000<=aA)(h63:vs.length<900000):
  af prog Bs 59 (.block 2 (ag Tryz.f49 2)) (fm 4 [none] (Lm vs.length 0 0)) (zK vs p++dj [none] (jU [])) 4 ⟨.normal,[(8,sl 4 (cv p vs vs.length).length),(7,bZ 3)],zK vs p++marks 4 (jU (cv p vs vs.length)),5⟩:=by
 have:=rT (P:=prog) (B:=Bs) (N:=59) (b:=aF (ag Tryz.f49 2)) (next:=4) (p:=1) (r:=⟨.exit 2,[(8,sl 4 (cv p vs vs.length).length),(7,bZ 3)],zK vs p++marks 4 (jU (cv p vs vs.length)),5⟩) vs.length
  (λj=>Lm vs.length j (cv p vs j).length) (λ_=>zK vs p) (λj=>jU (cv p vs j)) [none] (λ_ _=>rfl) (λj _=>⟨aQk,Wc⟩) k_ k_
  (λj hj=>by have hl:=Ie p vs j;obtain⟨σ,fY,h1,h2⟩:=aQl (Bs:=Bs) (l:=cv p vs j) hj hp js aN hm o_ o_;rw[aEh];exact⟨σ,fY,h1 _,h2⟩)
  (by generalize cv p vs vs.length=a;exact az [.lt 27 vs.length vs.length false s_]) n_
 exact bO (id:=2) this
def fI(n nv i c:Nat):aM:=[(14,vI i),(12,sl 0 n),(13,vI n),(0,sl 0 n),(1,sl 1 nv),(5,sl 2 c)]
def fM(ps:c_)(vs:e_)(cells:ah):aE:=[(0,.view (bf ps)),(1,.view (aX vs)),(2,.row cells 50 2)]
def pr(ps:c_)(i:Nat)(p:HS K):Bool:=(ps.take i).any λq=>decide (canon p=canon q)
noncomputable def fS(hi:i<ps.length)(iU:ps[i]?=some p)(bP:∀ p∈ps,bB m p/\p.n≠0)(hm:100*m+1000<=aA)(h63:ps.length<=500)(ht:pr ps i p=t)(more:bH prog Bs 59):bH prog Bs 59:=
 .lt 15 i ps.length true (aC hi)::.df Tryz.f49 17 0 ps.length i 40 hi k_::.ld Tryz.f49 18 66 0 (i*40) (.view (bf ps)) (dp p) rfl (vK iU) k_::.upto Tryz.f49 21 0 ps.length i 40 o_ k_::
  .step 23 (ay Tryz.f49 23) [.func (.func 42) #[] #[],sl 0 i,.func (.func 96) #[] #[bZ 3]] [(0,some (.view (bf ps))),(3,some (.aI (cV p).cs 66))] (.bool t) [] (by
   have hp:=bP p (cN iU);have hc:=UK (g:=96) (caps:=(cV p).cs) (ps:=ps.take i) (b:=λq=>decide (canon p=canon q)) k_ (aY.2 (iL.flat _)) (by rw[jn];omega) λq hq=>
    aLO hp.1 (bP q (Fo hq)).1 o_ o_ hp.2 (bP q (Fo hq)).2
   rw[show(ps.take i).any (λq=>decide (canon p=canon q))=t from ht]at hc;have hl:(ps.take i).length=i:=by rw[jn];omega
   have e:bf (ps.take i)=((Obj.view (bf ps)).cells.drop 0).take (i*40):=by show _=((bf ps).drop 0).take (i*40);rw[lW];unfold bf;rw[UG iL,<-Cd]
   unfold fF at hc;rw[hl,e]at hc;exact pg hc (.r (x:=.view (bf ps)) rfl (dh ps) (λh=>by rw[h]) (.f (x:=.aI (cV p).cs 66) rfl (aY.2 (iL.flat _)) .nil)) (x:=.func 42) k_ k_ rfl)::more
theorem aQm{c:Nat}{cells:ah}(hi:i<ps.length)(iU:ps[i]?=some p)(bP:∀ p∈ps,bB m p/\p.n≠0)(hm:100*m+1000<=aA)(h63:ps.length<=500)(ht:pr ps i p=true):
  af prog Bs 59 (aF (ag Tryz.f49 0)) (fI ps.length vs.length i c) (fM ps vs cells) 3 ⟨.normal,fI ps.length vs.length (i+1) c,fM ps vs cells,4⟩:=
 az (fS hi iU bP hm h63 ht [.sum 57 i 1 (i+1) rfl o_])
theorem aQn{c:Nat}{cells:ah}(hi:i<ps.length)(iU:ps[i]?=some p)(bP:∀ p∈ps,bB m p/\p.n≠0)(aN:∀ v∈vs,aG q v)(hm:100*(m+q)+1000<=aA)(h63:ps.length<=500)(ig:vs.length<900000)(ht:pr ps i p=false)(ho:(cv p vs vs.length).length<3):
  af prog Bs 59 (aF (ag Tryz.f49 0)) (fI ps.length vs.length i c) (fM ps vs cells) 3 ⟨.normal,fI ps.length vs.length (i+1) c,fM ps vs cells,5⟩:=by
 have hp:=bP p (cN iU);have lo:=Wd (Bs:=Bs) hp.1 hp.2 aN hm ig;generalize cv p vs vs.length=on at *;exact az (fS hi iU bP o_ h63 ht [.code 2 _ _ _ _ _ lo,.lt 42 on.length 3 true (aC ho),.sum 57 i 1 (i+1) rfl o_])
noncomputable def fL{on l:l_}(hl:order p.n (aP vs) on=l)(hp:bB m p)(aN:∀ v∈vs,aG q v)(hm:100*(m+q)+1000<=aA)(gG:∀ x∈on,x<vs.length)(h3:0<on.length)(h63:on.length<900000):aQ prog Bs 59:=
 .step 47 (ay Tryz.f49 47) [.func (.func 98) #[] #[],sl 1 vs.length,sl 4 on.length,bN p.n] [(5,none),(1,some (.view (aX vs))),(4,some (.row (ak on) 3 1))] (sl 5 l.length) [(5,.row (ak l) 3 1)]
  (r8 (hl▸V9 h3 gG aN hp.1 hm h63) (.w (x:=.view (aX vs)) rfl (eD vs) xz (.w (x:=.row (ak on) 3 1) rfl (hY on) (λh=>PW h) (.p k_ .nil))) (x:=.func 98) k_ k_ (hY l) 5)
theorem aQo{c:Nat}{cells:ah}(hi:i<ps.length)(iU:ps[i]?=some p)(bP:∀ p∈ps,bB m p/\p.n≠0)(aN:∀ v∈vs,aG q v)(hm:100*(m+q)+1000<=aA)(h63:ps.length<=500)(ig:vs.length<900000)(ht:pr ps i p=false)(ho:¬(cv p vs vs.length).length<3)
  (hl:¬(order p.n (aP vs) (cv p vs vs.length)).length>2):af prog Bs 59 (aF (ag Tryz.f49 0)) (fI ps.length vs.length i c) (fM ps vs cells) 3 ⟨.normal,fI ps.length vs.length (i+1) c,fM ps vs cells,6⟩:=by
 have hp:=bP p (cN iU);have lo:=Wd (Bs:=Bs) hp.1 hp.2 aN hm ig;have gG:∀ x∈cv p vs vs.length,x<vs.length:=λx hx=>Wb hx;have hol:=Ie p vs vs.length;obtain⟨l,cZ⟩:∃ l,order p.n (aP vs) (cv p vs vs.length)=l:=⟨_,rfl⟩;rw[cZ]at hl;generalize cv p vs vs.length=on at *;exact az (fS hi iU bP o_ h63 ht [.code 2 _ _ _ _ _ lo,.lt 42 on.length 3 false (aO ho),fL cZ hp.1 aN hm gG o_ o_,.gt 50 l.length 2 false (aO o_),.sum 57 i 1 (i+1) rfl o_])
theorem aEk{it:TypeInfo}{z:i_}(h1:prog.info? 50=some it)(h2:it.zero=some z):∀ v∈z.cells.toList,flat v=true:=by have e:(prog.info? 50).bind (·.zero)=some (.agg #[vI 0,.slice none 0 0]):=k_;rw[h1]at e;have e:it.zero=some (.agg #[vI 0,.slice none 0 0]):=e;rw[h2]at e;injection e with e;subst e;intro v hv;have hv:v∈[vI 0,.slice none 0 0]:=hv;simp at hv;rcases hv with rfl|rfl<;>rfl
theorem aQp{c:Nat}{cells:ah}(hi:i<ps.length)(iU:ps[i]?=some p)(bP:∀ p∈ps,bB m p/\p.n≠0)(aN:∀ v∈vs,aG q v)(hm:100*(m+q)+1000<=aA)(h63:ps.length<=500)(ig:vs.length<900000)(ht:pr ps i p=false)(ho:¬(cv p vs vs.length).length<3)
  (hl:(order p.n (aP vs) (cv p vs vs.length)).length>2) (hc:cells.length=c*2) (Ln:c<=500) (D0:∀ v∈cells,v.oneCell'=true) :
  af prog Bs 59 (aF (ag Tryz.f49 0)) (fI ps.length vs.length i c) (fM ps vs cells) 3
   ⟨.normal,[(14,vI (i+1)),(12,sl 0 ps.length),(13,vI ps.length),(0,sl 0 ps.length),(1,sl 1 vs.length),(5,sl 7 (c+1))],[(0,.view (bf ps)),(1,.view (aX vs)),(5,.row (ak (order p.n (aP vs) (cv p vs vs.length))) 3 1),(7,.row (cells++[vI i,sl 5 (ak (order p.n (aP vs) (cv p vs vs.length))).length]) 50 2)],8⟩:=by
 have hp:=bP p (cN iU);have lo:=Wd (Bs:=Bs) hp.1 hp.2 aN hm ig;have gG:∀ x∈cv p vs vs.length,x<vs.length:=λx hx=>Wb hx;have hol:=Ie p vs vs.length;obtain⟨l,cZ⟩:∃ l,order p.n (aP vs) (cv p vs vs.length)=l:=⟨_,rfl⟩;rw[cZ]at hl ⊢;rw[nD];generalize cv p vs vs.length=on at *;generalize mA:cells++[vI i,sl 5 l.length]=cells' at *;exact az (fS hi iU bP o_ h63 ht [.code 2 _ _ _ _ _ lo,.lt 42 on.length 3 false (aO ho),fL cZ hp.1 aN hm gG o_ o_,.gt 50 l.length 2 true (aC hl),.step 54 (ay Tryz.f49 54) [vI i,sl 5 l.length] [] (.agg #[vI i,sl 5 l.length]) [] (Pc (t:=50) (idx:=[0,1]) k_ (λit z h1 h2=>aEk h1 h2) k_),.bsM Tryz.f49 55 6 1 50 2 [0] (.agg #[vI 0,.slice none 0 0]) [.agg #[vI i,sl 5 l.length]] #[vI i,sl 5 l.length] (.row [vI i,sl 5 l.length] 50 2) rfl (λv hv=>by
   have hv:v∈[vI 0,.slice none 0 0]:=hv;simp at hv;rcases hv with rfl|rfl<;>rfl) d_ k_ rfl d_ d_ k_,.pP Tryz.f49 56 7 2 c 1 (c+1) 50 2 32 cells 6 (.row [vI i,sl 5 l.length] 50 2) cells' rfl rfl rfl hc mA (λv hv=>by
   simp[Obj.cells]at hv;rcases hv with rfl|rfl<;>rfl) d_ (by simp[maxLen];omega) o_ k_,.sum 57 i 1 (i+1) rfl o_])
end
end
theorem nZ.one{cs:ah}(h:nZ w fs cs):∀ v∈cs,v.oneCell'=true:=by
 induction h with
 |nil=>intro v hv;cases hv
 |cons h1 _ _ ih=>
  intro v hv;rcases b9.1 hv with rfl|hv
  ·rfl
  rcases b9.1 hv with rfl|hv
  ·rcases h1 with ⟨e,_⟩|⟨_,_,_,e,_⟩<;>rw[e]<;>rfl
  ·exact ih v hv
structure zL(B:ae)(fs:f_)(ks:List (Value×ah))(cs:ah):Prop where
 flat:∀ v∈cs,Go.Proofs.YthccllenbnhogaaGreatDoor.flat v=true
 cells:∀ w,(∀ p∈ks,c8 w p.1 p.2.length p.2)->nZ w fs cs
 slice:∀ v∈cs,∀ b,iB v=some b->¬B.cM b
theorem zL.nil{B:ae}:zL B [] [] []:=⟨λv h=>(by cases h),λw _=>.nil,λv h=>(by cases h)⟩
theorem zL.snoc{cells:ah}(h:zL B fs ks cells){l:l_}(hu:Go.Proofs.YthccllenbnhogaaGreatDoor.flat u=true)(hb:∀ b,iB u=some b->¬B.cM b):
  zL B (fs++[j9 (i,l)]) ((u,ak l)::ks) (cells++[vI i,u]):=by
 refine⟨λv hv=>?_,λw hw=>?_,λv hv b sL=>?_⟩
 ·rcases eA.1 hv with hv|hv
  ·exact h.flat v hv
  ·simp at hv;rcases hv with rfl|rfl
   ·rfl
   ·exact hu
 ·have h1:=h.cells w λp hp=>hw p (bw _ hp);have h2:=hw (u,ak l) (aL ..);have h2:c8 w u (ak l).length (ak l):=h2;rw[aMV]at h2;have e:(eQ (l.map λx:Nat=>(x:Int))).length=(l.map λx:Nat=>(x:Int)).length:=by simp[eQ]
  rw[e]at h2;exact h1.snoc (i:=(i:Int)) h2 hu
 ·rcases eA.1 hv with hv|hv
  ·exact h.slice v hv b sL
  ·simp at hv;rcases hv with rfl|rfl
   ·cases sL
   ·exact hb b sL
theorem zL.out{cells:ah}(h:zL B fs ks cells){v:i_}(hm:aJ (B.jw ks) ι c w)(hk:c k=some (.row cells ty 2))(hc:aH ι (.slice (some ⟨k,0,some 7⟩) fs.length 0) v):
  Be w v (n9 fs)/\∀ b,(n9 fs).cM v w b->¬B.cM b:=by
 have hf:=h.cells w hm.base.2;have hl:=hf.length;have hr:=ox (len:=fs.length*2) hm hk rfl h.flat (λe=>by rw[e]) hc;have hr:c8 w v fs.length cells:=by
  have e:((Obj.row cells ty 2).cells.drop 0).take (fs.length*2)=cells:=by rw[lW];exact j0 (u4 hl)
  rwa[e]at hr
 have j5:KJ w v fs:=⟨cells,hr,hf⟩;have own:∀ b,iB v=some b->¬B.cM b:=by
  intro b hb hF;rcases hc.gR rfl with ⟨_,_,_,_,q5⟩|⟨b',oo,cap,c',q1,_,_,q5⟩
  ·rw[q5]at hb;cases hb
  ·rw[q5]at hb;injection hb with hb;subst hb;exact(hm.own k _ b' oo cap hk rfl q1).2 (.inl hF)
 refine⟨⟨j5,?_,?_⟩,λb hF=>?_⟩
 ·rcases hr with ⟨e,_⟩|⟨_,_,_,e,_⟩<;>rw[e]<;>rfl
 ·rcases hr with ⟨e,_⟩|⟨_,_,_,e,_⟩<;>rw[e]<;>rfl
 ·rcases hF with hF|⟨b',o,c',j,u,e,hj,kh,hb⟩
  ·exact own b hF
  ·have hu:=Pe hr hf e hj kh;exact h.slice u hu b hb
section
variable{ps:c_}{vs:e_}
noncomputable def fC0:Code:=xD (dB Tryz.f49)
noncomputable def fC1:Code:=xD (qi (dB Tryz.f49))
noncomputable def fC2:Code:=xD (xD (qi (qi (dB Tryz.f49))))
noncomputable def fC3:Code:=xD (qi (qi (qi (dB Tryz.f49))))
theorem aQq:(Tryz.f49).body=some (.seq fC0 (.seq fC1 (.seq (.seq fC2 (.block 0 (.loop (aF (ag Tryz.f49 0))))) (.seq fC3 .ret)))):=k_
theorem We{cells:ah}(cG:∀ v∈cells,flat v=true)(r:List (Nat×Nat)):∀ p∈fM ps vs cells,HR r p.2:=λp hp=>by
 simp only[fM,b9,fv,fA]at hp;rcases hp with rfl|rfl|rfl
 ·exact λv hv=>aY.1 (dh ps) v hv
 ·exact λv hv=>aY.1 (eD vs) v hv
 ·exact cG
def P0(B:ae)(ps:c_)(vs:e_)(i:Nat)(a:Act)(w:h_):Prop:=
 ∃ ks cells,zL B ((ev ps vs i).map j9) ks cells/\St (B.jw ks) 59 (fI ps.length vs.length i (ev ps vs i).length) (fM ps vs cells) 3 a w
theorem aEl{cells:ah}{fs:List (Nat×List Nat)}{next:Nat}{a:Act}(h:zL B (fs.map j9) ks cells)(hs:St (B.jw ks) N fr M next a w):cells.length=fs.length*2/\∀ v∈cells,v.oneCell'=true:=by obtain⟨ι,cc,_,h2,_,_⟩:=hs;have:=h.cells w h2.base.2;exact⟨by rw[this.length,fk],this.one⟩
theorem aQr(qL:∀ k,B.mp k=none)(hi:i<ps.length)(bP:∀ p∈ps,bB m p/\p.n≠0)(aN:∀ v∈vs,aG q v)(hm:100*(m+q)+1000<=aA)(h63:ps.length<=500)(ig:vs.length<900000){a:Act}(h:P0 B ps vs i a w)
  (K:Act->World->Prop) (Q:Exit->Act->World->Prop) (hK:∀ a' w',P0 B ps vs (i+1) a' w'->K a' w'):(aF (ag Tryz.f49 0)).wpIn (FW none) 0 prog (Exit.then K Q) a w:=by
 obtain⟨ks,cells,hF,hS⟩:=h;have iU:ps[i]?=some ps[i]:=aW hi;have mC:lM ps vs i=rl ps vs i ps[i]:=by unfold lM;rw[iU]
 obtain⟨gS,D0⟩:=aEl hF hS;have Ln:(ev ps vs i).length<=500:=by have:=Ll ps vs i;omega
 have stay:lM ps vs i=[]->∀ next a' w',St (B.jw ks) 59 (fI ps.length vs.length (i+1) (ev ps vs i).length) (fM ps vs cells) next a' w'->K a' w':=by
  intro he next a' w' h';have e:ev ps vs (i+1)=ev ps vs i:=by rw[Lk,he,gY]
  refine hK a' w' ⟨ks,cells,by rw[e];exact hF,?_⟩;rw[e];exact h'.KN qL [(0,0),(1,1),(2,2)] k_ rfl (We hF.flat _) k_ k_ k_ k_ k_
 by_cases tJ:pr ps i ps[i]=true
 ·have he:lM ps vs i=[]:=by rw[mC];unfold rl;rw[au (show(ps.take i).any (λq=>decide (canon ps[i]=canon q))=true from tJ)]
  exact qh (aQm hi iU bP o_ h63 tJ) hS λa' w' h'=>stay he _ a' w' h'
 ·have Ig:pr ps i ps[i]=false:=by simpa using tJ
  by_cases ho:(cv ps[i] vs vs.length).length<3
  ·have he:lM ps vs i=[]:=by rw[mC];unfold rl;rw[al (show ¬(ps.take i).any (λq=>decide (canon ps[i]=canon q))=true from tJ),au ho]
   exact qh (aQn hi iU bP aN hm h63 ig Ig ho) hS λa' w' h'=>stay he _ a' w' h'
  ·by_cases hl:(order ps[i].n (aP vs) (cv ps[i] vs vs.length)).length>2
   ·have he:lM ps vs i=[(i,order ps[i].n (aP vs) (cv ps[i] vs vs.length))]:=by rw[mC];unfold rl;rw[al (show ¬(ps.take i).any (λq=>decide (canon ps[i]=canon q))=true from tJ),al ho,au hl]
    refine qh (aQp hi iU bP aN hm h63 ig Ig ho hl gS Ln D0) hS λa' w' h'=>?_;show K a' w';obtain⟨u,hu,xg,h2⟩:=h'.Pn (m:=5) (k:=7) rfl (hY _) rfl d_;have e:ev ps vs (i+1)=ev ps vs i++[(i,order ps[i].n (aP vs) (cv ps[i] vs vs.length))]:=by rw[Lk,he]
    have BK:=hF.snoc (i:=i) (l:=order ps[i].n (aP vs) (cv ps[i] vs vs.length)) hu xg;refine hK a' w' ⟨_,cells++[vI i,u],by rw[e,wj];exact BK,?_⟩;rw[e,jM];have cG:=BK.flat;generalize cells++[vI i,u]=cells' at *;exact h2.KN qL [(0,0),(1,1),(2,7)] k_ rfl (We cG _) k_ k_ k_ k_ k_
   ·have he:lM ps vs i=[]:=by rw[mC];unfold rl;rw[al (show ¬(ps.take i).any (λq=>decide (canon ps[i]=canon q))=true from tJ),al ho,al hl]
    exact qh (aQo hi iU bP aN hm h63 ig Ig ho hl) hS λa' w' h'=>stay he _ a' w' h'
theorem aQs(bP:∀ p∈ps,bB m p/\p.n≠0)(aN:∀ v∈vs,aG q v)(hm:100*(m+q)+1000<=aA)(h63:ps.length<=500)(ig:vs.length<900000):
  aCB prog 49 [fF ps,uH vs] (n9 ((ev ps vs ps.length).map j9)):=by
 intro w args cx;have ax:([fF ps,uH vs].all aK.ok)=true:=by simp only[eY,fO,V6,aD3,zo]
 obtain⟨ι,c,h1,h2,h3,h4,h5,h6,h7⟩:=xm cx (aY.1 ax) 0 _ _ (sZ w) n_ (λ_ _=>rfl);have qL:∀ k,(ae.at w).mp k=none:=λ_=>rfl;refine aCw (N:=59) (B:=(ae.at w).jw []) func49 aQq k_ h6 (aCp h2) h4 h3 rfl λa bK=>?_;have g0:∀ B:ae,af prog B 59 fC0 (jZ 0 (eM 0 [fF ps,uH vs])) (jr 0 [fF ps,uH vs]) 2 ⟨.normal,[(0,sl 0 ps.length),(1,sl 1 vs.length)],[(0,.view (bf ps)),(1,.view (aX vs))],2⟩:=λB=>az [];have g1:∀ B:ae,af prog B 59 fC1 [(0,sl 0 ps.length),(1,sl 1 vs.length)] [(0,.view (bf ps)),(1,.view (aX vs))] 2 ⟨.normal,[(5,.slice none 0 0),(0,sl 0 ps.length),(1,sl 1 vs.length)],[(0,.view (bf ps)),(1,.view (aX vs))],2⟩:=λB=>az []
 have g2:∀ B:ae,af prog B 59 fC2 [(5,.slice none 0 0),(0,sl 0 ps.length),(1,sl 1 vs.length)] [(0,.view (bf ps)),(1,.view (aX vs))] 2
   ⟨.normal,[(14,vI 0),(12,sl 0 ps.length),(13,vI ps.length),(0,sl 0 ps.length),(1,sl 1 vs.length),(5,.slice none 0 0)],[(0,.view (bf ps)),(1,.view (aX vs))],2⟩:=λB=>az []
 refine lT (qh (g0 _) bK λa1 w1 s1=>?_);refine lT (qh (g1 _) s1 λa2 w2 s2=>?_);refine lT (lT (qh (g2 _) s2 λa3 w3 s3=>?_));refine I5 ?_;have i0:P0 (ae.at w) ps vs 0 a3 w3:=⟨[],[],.nil,(s3.nil 5 rfl 50 2).KN qL [(0,0),(1,1),(2,2)] k_ rfl (We n_ _) k_ k_ k_ k_ k_⟩;refine aCu ps.length (P0 (ae.at w) ps vs) i0 (λi hi a' w' h' K hK=>aQr qL hi bP aN hm h63 ig h' K _ hK) λa' w' h'=>?_;obtain⟨ks,cells,hF,hS⟩:=h';refine qh (r:=⟨.exit 0,[(5,sl 2 (ev ps vs ps.length).length)],[(2,.row cells 50 2)],3⟩) (az [.lt 15 ps.length ps.length false s_]) hS λa4 w4 s4=>?_;show Code.wpIn _ _ _ _ _ _ _;refine lT (qh (r:=⟨.normal,[(4,sl 2 (ev ps vs ps.length).length)],[(2,.row cells 50 2)],3⟩) (az []) s4 λa5 w5 s5=>?_);refine wpIn_ret ?_;refine(aCx s5 rfl (v:=sl 2 (ev ps vs ps.length).length) k_ λav bX v' bo BL hc=>⟨v',rfl,?_,?_,bo.base.1⟩).1
 ·rw[show(ev ps vs ps.length).length=((ev ps vs ps.length).map j9).length by rw[fk]]at hc;exact(hF.out bo (BL 2 _ rfl) hc).1
 ·rw[show(ev ps vs ps.length).length=((ev ps vs ps.length).map j9).length by rw[fk]]at hc;intro b hb;have:=(hF.out bo (BL 2 _ rfl) hc).2 b hb;exact Oh this
end
section
open V3 (dot aw cI smul)
section
variable{Bs:ae}{g:FuncId}{ps:List RP}{b:RP->Bool}
def xV(g:FuncId):Value:=.func (.func g) #[] #[]
def zM(g:FuncId)(n i:Nat):aM:=[(8,vI i),(6,sl 0 n),(7,vI n),(0,sl 0 n),(1,xV g)]
def tK(ps:List RP):aE:=[(0,.view (db ps))]
noncomputable def igS{p:RP}{b:Bool}(hc:fW prog g=true)(hi:i<ps.length)(hp:ps[i]?=some p)(h:aD prog g [p.v] (.bool b))(more:bH prog Bs 19):bH prog Bs 19:=
 .lt 9 i ps.length true (aC hi)::.df f82 14 0 ps.length i 40 hi k_::.ld f82 15 66 0 (i*40) (.view (db ps)) p.v rfl (vJ hp) k_::
  .step 16 (ay f82 16) [xV g,p.v] [] (.bool b) [] (pg (l:=[.p p.v]) (x:=.tmp 11) (λw vs cx=>by
   cases cx with
   |cons h1 h2=>
    cases h2;cases h1;exact h w) (.p rfl .nil) k_ hc rfl)::more
theorem aQt{p:RP}(hc:fW prog g=true)(hi:i<ps.length)(hp:ps[i]?=some p)(h:aD prog g [p.v] a_)(h63:ps.length<9223372036854775807):
  af prog Bs 19 (aF (ag f82 0)) (zM g ps.length i) (tK ps) 1 ⟨.normal,zM g ps.length (i+1),tK ps,1⟩:=
 az (igS hc hi hp h [.sum 18 i 1 (i+1) rfl o_])
theorem aQu{p:RP}(hc:fW prog g=true)(hi:i<ps.length)(hp:ps[i]?=some p)(h:aD prog g [p.v] b_):
  af prog Bs 19 (aF (ag f82 0)) (zM g ps.length i) (tK ps) 1 ⟨.ret,[(4,vI i)],tK ps,1⟩:=
 az (igS hc hi hp h [])
theorem aQv:af prog Bs 19 (aF (ag f82 0)) (zM g ps.length ps.length) (tK ps) 1 ⟨.exit 0,[],tK ps,1⟩:=
 az [.lt 9 ps.length ps.length false s_]
theorem Wf(ps:List RP):(aK.r ps.length (db ps)).ok=true:=gA iL ps
theorem aEm(g:FuncId):(aK.p (xV g)).ok=true:=rfl
theorem Wg{ps:List RP}(h:ps.length=0):db ps=[]:=by rw[kA h];rfl
theorem aQw(hc:fW prog g=true)(h63:ps.length<9223372036854775807)(h:∀ p∈ps,aD prog g [p.v] (.bool (b p))):cg prog 82 [.r ps.length (db ps),.p (xV g)] (.int .i64 (Bu b ps 0)):=by
 have ax:([aK.r ps.length (db ps),.p (xV g)].all aK.ok)=true:=by simp only[eY,fO,Wf,aEm,zo]
 have qe:∀(B:ae) e,e<=ps.length->(∀ j y,j<e->ps[j]?=some y->b y=false)->∀ i,i<e->af prog B 19 (aF (ag f82 0)) (zM g ps.length i) (tK ps) 1 ⟨.normal,zM g ps.length (i+1),tK ps,1⟩:=λB e he hb i hi=>by
  have ao:i<ps.length:=by omega
  have hp:ps[i]?=some ps[i]:=aW ao;have hh:=h ps[i] (dK ao);rw[hb i ps[i] hi hp]at hh;exact aQt hc ao hp hh h63
 rcases Fk b ps with hn|⟨e,x,h1,h2,h3⟩
 ·rw[OW 0 hn];have lo:∀ B:ae,af prog B 19 (.block 0 (ag f82 0)) (zM g ps.length 0) (tK ps) 1 ⟨.normal,[],tK ps,1⟩:=λB=>
   bO (id:=0) (ck ps.length (λi=>zM g ps.length i) (λ_=>tK ps) (λi k _=>Iff.rfl) (qe B ps.length (bh _) λj y _ hy=>hn y (cN hy)) aQv n_)
  exact dC func82 ax 19 (λw=>[.code 0 _ _ _ _ _ (lo _)])
 ·have ao:=(eB.1 h1).1;have hh:=h x (cN h1);rw[h2]at hh;rw[OX 0 h1 h2 h3,jL];have lo:∀ B:ae,af prog B 19 (.block 0 (ag f82 0)) (zM g ps.length 0) (tK ps) 1 ⟨.ret,[(4,vI e)],tK ps,1⟩:=λB=>
   bO (id:=0) (ck e (λi=>zM g ps.length i) (λ_=>tK ps) (λi k _=>Iff.rfl) (qe B e o_ h3) (aQu hc ao h1 hh) n_)
  exact dC func82 ax 19 (λw=>[.code 0 _ _ _ _ _ (lo _)])
theorem aEn(hc:fW prog g=true)(h63:ps.length<9223372036854775807)(h:∀ p∈ps,aD prog g [p.v] (.bool (b p))):cg prog 42 [.r ps.length (db ps),.p (xV g)] (.bool (ps.any b)):=by
 have ax:([aK.r ps.length (db ps),.p (xV g)].all aK.ok)=true:=by simp only[eY,fO,Wf,aEm,zo]
 rw[<-aBV];exact dC func42 ax 9 (λw=>[.cR f42 7 [sl 0 ps.length,xV g] (aQw hc h63 h) (.w (x:=.view (db ps)) rfl (gA iL ps) Wg (.p rfl .nil))])
end
theorem aEo{r:RP}{b:Bool}(h:aD prog 44 [r.v] (.bool b)):aD prog 43 [r.v] (.bool (!b)):=aZ func43 (λ_=>[h.at 4])
section
variable{F:Type}[OF F]
open OF
def Lo(s:eP F)(a b:F):eP F:=
 if OF.aB a=0 then s
 else if OF.aB a>0 then(match s.hi with|some h=>if OF.aB (b*a⁻¹-h)<0 then⟨s.lo,some (b*a⁻¹)⟩else s|none=>⟨s.lo,some (b*a⁻¹)⟩)
 else(match s.lo with|some l=>if OF.aB (b*a⁻¹-l)>0 then⟨some (b*a⁻¹),s.hi⟩else s|none=>⟨some (b*a⁻¹),s.hi⟩)
def P1(s:eP F):Bool:=match s.lo,s.hi with
 |some l,some h=>decide (OF.aB (l-h)<0)
 |_,_=>true
def P2(s:eP F)(a b:F):Bool:=if OF.aB a=0 then decide (OF.aB b>=0)else P1 (Lo s a b)
theorem aEp{x:F}:OF.aB x>0↔OF.aB x=1:=by rcases OF.iH x with h|h|h<;>rw[h]<;>decide
theorem aEq{x:F}:OF.aB x<0↔OF.aB x=-1:=by rcases OF.iH x with h|h|h<;>rw[h]<;>decide
theorem aQx{x:F}:OF.aB x>=0↔OF.aB x≠-1:=by rcases OF.iH x with h|h|h<;>rw[h]<;>decide
theorem P3{x y:F}:OF.aB (x-y)<0↔x<y:=by rw[aEq,OF.ES,OF.lt_def];omega
theorem aEr{x y:F}:OF.aB (x-y)>0↔y<x:=by rw[aEp,OF.lt_def]
theorem P4{x:F}:OF.aB x>0↔0<x:=by rw[aEp,OF.iz]
theorem P5{x:F}:OF.aB x>=0↔0<=x:=by rw[aQx,OF.JR]
theorem aQy(s:eP F)(a b:F):Bn s a b=if P2 s a b then some (Lo s a b)else none:=by
 unfold Bn P2 Lo;by_cases ha:OF.aB a=0
 ·rw[au ha,au ha,au ha];by_cases hb:0<=b
  ·rw[au hb,aC (P5.2 hb)];rfl
  ·rw[al hb,aO (λh=>hb (P5.1 h))];rfl
 ·rw[al ha,al ha,al ha];obtain⟨lo,hi⟩:=s;dsimp only;generalize b*a⁻¹=t;have fin:∀ s':eP F,(match s'.lo,s'.hi with|some l,some h=>if l<h then some s' else none|_,_=>some s')=if P1 s'=true then some s' else none:=by
   rintro⟨l,h⟩
   unfold P1;cases l with
   |none=>rfl
   |some l=>
    cases h with
    |none=>rfl
    |some h=>
     dsimp only;by_cases ao:l<h
     ·exact(au ao).trans (au (aC (P3.2 ao))).symm
     ·exact(al ao).trans (al (λh=>ao (P3.1 (jh h)))).symm
  by_cases hp:0<a
  ·rw[au hp,au (P4.2 hp)];cases hi with
   |none=>exact fin ⟨lo,some t⟩
   |some h=>
    dsimp only;by_cases ao:t<h
    ·simp only[au ao,au (P3.2 ao)];exact fin ⟨lo,some t⟩
    ·simp only[al ao,al (λe=>ao (P3.1 e))];exact fin ⟨lo,some h⟩
  ·rw[al hp,al (λe=>hp (P4.1 e))];cases lo with
   |none=>exact fin ⟨some t,hi⟩
   |some l=>
    dsimp only;by_cases ao:l<t
    ·simp only[au ao,au (aEr.2 ao)];exact fin ⟨some t,hi⟩
    ·simp only[al ao,al (λe=>ao (aEr.1 e))];exact fin ⟨some l,hi⟩
end
theorem aQz(s:eP K)(a b:K):Bn s a b=if sC s a b then some (qX s a b)else none:=by
 have h1:∀ s:eP K,aBZ s=P1 s:=λs=>by obtain⟨lo,hi⟩:=s;cases lo<;>cases hi<;>rfl
 have h2:qX s a b=Lo s a b:=by unfold qX Lo;obtain⟨lo,hi⟩:=s;cases lo<;>cases hi<;>rfl
 have h3:sC s a b=P2 s a b:=by unfold sC P2;rw[h2,h1]
 rw[h2,h3];exact aQy s a b
theorem aEs(b d:V3 K):∀(l:c_) (s:eP K),Fg s (l.map λp=>(dot p.n d,p.d-dot p.n b))=if vM s b d l then some (nY s b d l)else none
 |[],s=>rfl
 |p::l,s=>by
  show(Bn s (dot p.n d) (p.d-dot p.n b)).bind _=_;rw[aQz];unfold vM nY;by_cases h:sC s (dot p.n d) (p.d-dot p.n b)=true
  ·rw[au h,h,kX];exact aEs b d l _
  ·rw[al h];have:sC s (dot p.n d) (p.d-dot p.n b)=false:=by simpa using h
   rw[this,yG];rfl
theorem aEt(p q:HS K):vL p q=l8 p q:=by unfold vL l8 dX;rw[show kI 1*(dot (aw p.n q.n) (aw p.n q.n))⁻¹=(dot (aw p.n q.n) (aw p.n q.n))⁻¹ from CR.one_mul _]
theorem aEu(p q:HS K):dX p q≠0->dot (dX p q) (dX p q)≠0:=λh=>V3.Bi h
theorem aQA(ps:c_)(p q:HS K):Fm ps p q=zi ps p q:=by
 unfold Fm zi;have hd:dX p q=aw p.n q.n:=rfl;rw[aEt];dsimp only;by_cases h0:dX p q=0
 ·rw[au h0,au ((OE (aw p.n q.n)).2 h0)]
 ·rw[al h0,al (λh=>h0 ((OE (aw p.n q.n)).1 h))];rw[aEs];unfold KC;rw[aEt,hd];by_cases hs:vM ⟨none,none⟩ (l8 p q) (aw p.n q.n) ps=true
  ·rw[au hs,au hs];generalize nY ⟨none,none⟩ (l8 p q) (aw p.n q.n) ps=s;obtain⟨lo,hi⟩:=s;cases lo<;>cases hi<;>rfl
  ·rw[al hs,al hs]
theorem Wh{q:HS K}{v:V3 K}:v∈qY ps p q↔∃ u w,zi ps p q=some (u,w)/\(v=u\/v=w):=by
 unfold qY;rw[aQA];cases h:zi ps p q with
 |none=>simp
 |some uw=>
  obtain⟨u,w⟩:=uw;simp only[b9,fv,fA];exact⟨λhv=>⟨u,w,rfl,hv⟩,λ⟨u',w',e,hv⟩=>by injection e with e;injection e with e1 e2;subst e1;subst e2;exact hv⟩
theorem aQB{v:V3 K}:v∈mR ps ps.length↔∃(i j:Nat) (p q:HS K),j<i/\ps[i]?=some p/\ps[j]?=some q/\v∈qY ps p q:=by
 unfold mR;rw[Bt];constructor
 ·rintro⟨i,hi,hv⟩
  have ao:=kk.1 hi;have hp:ps[i]?=some ps[i]:=aW ao;rw[O8 hp]at hv;unfold lf at hv;obtain⟨q,hq,hv⟩:=Bt.1 hv;obtain⟨j,hj,rfl⟩:=kN hq;rw[jn]at hj;refine⟨i,j,_,_,by omega,hp,?_,hv⟩;rw[Wi];exact aW o_
 ·rintro⟨i,j,p,q,oU,hp,hq,hv⟩
  have ao:=(eB.1 hp).1;refine⟨i,kk.2 ao,?_⟩;rw[O8 hp];refine Bt.2 ⟨q,?_,hv⟩;exact cN (i:=j) (by rw[tV,au oU];exact hq)
theorem aQC(hc:Cl ps)(hp:j6 ps)(hf:∀ v:V3 K,∃ x,hJ ps x/\x≠v)(v:V3 K):v∈mR ps ps.length↔l5 ps v:=by
 rw[aQB];constructor
 ·rintro⟨i,j,p,q,_,h1,h2,hv⟩
  obtain⟨u,w,he,hv⟩:=Wh.1 hv;have:=aLg (cN h1) (cN h2) he;rcases hv with rfl|rfl
  ·exact this.1
  ·exact this.2
 ·intro hv;obtain⟨x,hx,bd⟩:=hf v;obtain⟨p,iD,q,AQ,hd,h1,h2⟩:=aLi hc hp hv hx bd;obtain⟨i,hi,rfl⟩:=kN iD;obtain⟨j,hj,rfl⟩:=kN AQ;rcases sO i j with h|h|h
  ·exact⟨j,i,_,_,h,aW hj,aW hi,Wh.2 h2⟩
  ·subst h;exfalso;apply hd;exact V3.Ki _
  ·exact⟨i,j,_,_,h,aW hi,aW hj,Wh.2 h1⟩
def DF:Value:=.agg #[.slice none 0 0,.slice none 0 0,.slice none 0 0]
def qp(n:Int):Value:=.int .i64 n
def jJ(ps:c_):f_:=(ev ps (cQ ps) ps.length).map j9
structure vV(ps:c_)(m:Nat):Prop where
 len:ps.length<=20
 sz:∀ p∈ps,bB m p
 ne:∀ p∈ps,p.n≠0
 bound:1000000000*(m+10)<=aA
theorem Lp(ps:c_)(h:ps.length<=20):(cQ ps).length<=800:=by
 have h1:(cQ ps).length<=(mR ps ps.length).length:=by
  unfold cQ;rw[<-aDW];have:∀ l:e_,(dd l).length<=l.length:=λl=>by have:=(PT l l.length).2;unfold iX at this;rwa[mN]at this
  exact dc (this _) (u4 (Lf _).length_eq)
 have h2:=O9 ps.length (bh _) (ps:=ps);have h3:ps.length*(2*ps.length)<=20*40:=Cr h o_;omega
theorem P6(bP:∀ p∈ps,bB m p):∀ v∈cQ ps,aG (10000*(m+10)) v:=λv hv=>by unfold cQ at hv;rw[Uz]at hv;exact aDX bP aEu ps.length v hv
theorem FP{n:Nat}(hm:1000000000*(m+10)<=aA)(hn:n<=800):100*(m+n*(10000*(m+10)+1))+10000<=aA/\10000000*(m+10)<=aA/\100*(m+10000*(m+10))+1000<=aA/\m<=aA/\100*m+1000<=aA:=by
 have h0:m<=1089:=by
  rcases eU m 1090 with h|h
  ·exact Nat.le_of_lt_succ h
  ·have h2:1000000000*(1090+10)<=1000000000*(m+10):=jq _ (Lq h 10);exact absurd (dc h2 hm) d_
 clear hm;have q:10000*(m+10)+1<=10990001:=by omega
 obtain⟨x,hx⟩:∃ x,x=n*(10000*(m+10)+1):=⟨_,rfl⟩;have h1:x<=8792000800:=by rw[hx];exact Cr hn q
 rw[<-hx];clear hx;have h2:100*(m+x)+10000<=100*(1089+8792000800)+10000:=Lq (jq _ (J2 h0 h1)) _;have h6:m+10<=1099:=Lq h0 10;have h3:10000000*(m+10)<=10000000*1099:=jq _ h6;have h4:100*(m+10000*(m+10))+1000<=100*(1089+10000*1099)+1000:=Lq (jq _ (J2 h0 (jq _ h6))) _;have h5:100*m+1000<=100*1089+1000:=Lq (jq _ h0) _;exact⟨dc h2 (pB rfl),dc h3 (pB rfl),dc h4 (pB rfl),dc h0 (pB rfl),dc h5 (pB rfl)⟩
theorem aEv{it:TypeInfo}{z:i_}(h1:prog.info? 28=some it)(h2:it.zero=some z):∀ v∈z.cells.toList,flat v=true:=by have e:(prog.info? 28).bind (·.zero)=some DF:=k_;rw[h1]at e;have e:it.zero=some DF:=e;rw[h2]at e;injection e with e;subst e;intro v hv;have hv:v∈[.slice none 0 0,.slice none 0 0,.slice none 0 0]:=hv;simp at hv;subst hv;rfl
section
variable{ps:c_}{m:Nat}
theorem aQD(h:vV ps m):cg prog 42 [fF ps,.p (xV 43)] a_:=by
 obtain⟨_,_,_,b4,_⟩:=FP (n:=0) h.bound o_;have hc:=aEn (g:=43) (ps:=ps.map cV) (b:=λ_=>false) k_ (by rw[fk];have:=h.len;omega) (λr hr=>by obtain⟨p,hp,rfl⟩:=de.1 hr;have hv:=Br (h.sz p hp) b4;rw[aC (h.ne p hp)]at hv;exact aEo hv)
 rw[fk,show(ps.map cV).any (λ_=>false)=false by simp]at hc;exact hc
theorem DH(ps:c_):([fF ps].all aK.ok)=true:=by simp only[eY,fO,V6,zo]
noncomputable def Wj(h:vV ps m)(ht:sB ps=t)(more:bH prog Bs 33):bH prog Bs 33:=
 .cR f12 7 [sl 0 ps.length,xV 43] (aQD h) (.w (x:=.view (bf ps)) rfl (dh ps) jk (.p rfl .nil))::
 .gt 12 ps.length 100 false (aO (by have:=h.len;omega))::
 .cR f12 16 [sl 0 ps.length] (ht▸aLY h.sz (FP (n:=0) h.bound o_).2.2.2.2 (by have:=h.len;omega)) (.w (x:=.view (bf ps)) rfl (dh ps) jk .nil)::more
noncomputable def aEw(h:vV ps m)(ht:vN ps (cQ ps)=t)(more:bH prog Bs 33):bH prog Bs 33:=
 .step 20 (ay f12 20) [.func (.func 46) #[] #[],sl 0 ps.length] [(2,none),(0,some (.view (bf ps)))] (sl 2 (cQ ps).length) [(2,.row (aX (cQ ps)) 42 30)]
  (r8 (aPY h.sz (FP (n:=0) h.bound o_).2.1 (by have:=h.len;omega) aEu) (.w (x:=.view (bf ps)) rfl (dh ps) jk .nil) (x:=.func 46) k_ k_ (eD _) 2)::
 .cR f12 23 [sl 0 ps.length,sl 2 (cQ ps).length] (ht▸aMj (λp hp=>⟨h.sz p hp,h.ne p hp⟩) (P6 h.sz) (FP h.bound (Lp ps h.len)).1 (by have:=Lp ps h.len;omega) (by have:=h.len;omega)) (.w (x:=.view (bf ps)) rfl (dh ps) jk (.w (x:=.row (aX (cQ ps)) 42 30) rfl (eD _) xz .nil))::more
theorem aQE(h:vV ps m)(hc:sB ps=false):cg prog 12 [fF ps] (.tuple #[DF,qp 13]):=
 dC func12 (DH ps) 33 (λ_=>Wj h hc [])
theorem aQF(h:vV ps m)(hc:sB ps=true)(hi:vN ps (cQ ps)=false):cg prog 12 [fF ps] (.tuple #[DF,qp 12]):=
 dC func12 (DH ps) 33 (λ_=>Wj h hc (aEw h hi []))
theorem aQG(hc:sB ps=true):0<ps.length:=by
 cases ps with
 |nil=>exact absurd hc d_
 |cons p l=>simp
theorem aEx(h:vV ps m)(hc:sB ps=true)(hi:vN ps (cQ ps)=true):
  Di prog 12 [fF ps] 66 40 ps.length (bf ps) 42 30 (cQ ps).length (aX (cQ ps)) (n9 (jJ ps)) [qp 0]:=by
 have hf:=aQs (ps:=ps) (vs:=cQ ps) (λp hp=>⟨h.sz p hp,h.ne p hp⟩) (P6 h.sz) (FP (n:=0) h.bound o_).2.2.1 (by have:=h.len;omega) (by have:=Lp ps h.len;omega);have gS:=aP1 (aQG hc) (by have:=h.len;omega);refine U6 (k1:=3) (k2:=2) (k3:=4) mixed func12 (DH ps) 100 (N:=33) k_ (λw=>Wj h hc (aEw h hi [
  .step 27 (ay f12 27) [.func (.func 48) #[] #[],sl 0 ps.length] [(3,none),(0,some (.view (bf ps)))] (sl 3 ps.length) [(3,.row (bf ps) 66 40)]
   (r8 gS (.w (x:=.view (bf ps)) rfl (dh ps) jk .nil) (x:=.func 48) k_ k_ (dh ps) 3),
  .step 31 (ay f12 31) [.func (.func 49) #[] #[],sl 0 ps.length,sl 2 (cQ ps).length] [(4,none),(0,some (.view (bf ps))),(2,some (.row (aX (cQ ps)) 42 30))] (.pointer (some ⟨4,0,some 9⟩)) [(4,.fact ((n9 (jJ ps)).j7 w.heap.size))]
   (aMY (B:=ae.at w) (S:=w.heap.size) hf (.w (x:=.view (bf ps)) rfl (dh ps) jk (.w (x:=.row (aX (cQ ps)) 42 30) rfl (eD _) xz .nil)) (x:=.func 49) k_ k_ rfl (λw' hb=>Below.size hb) 4),
  .step 32 (ay f12 32) [sl 3 ps.length,sl 2 (cQ ps).length,.pointer (some ⟨4,0,some 9⟩)] [] (.agg #[sl 3 ps.length,sl 2 (cQ ps).length,.pointer (some ⟨4,0,some 9⟩)]) [] (Pc (t:=28) (idx:=[0,1,2]) k_ (λit z h1 h2=>aEv h1 h2) k_)])) (λw=>?_) d_ (dh ps) (DC ps) (eD _) (tC _) k_
 kernel_rfl
end
end
section
variable{P:j_}{B:ae}{N:Nat}
def aQ.P7(fn:Func)(key k j n m nm e size bytes off cc:Nat)(cells:ah)(q:Nat)(x:Obj)(new:ah)(lA:n+m=nm)(hx:x.reads=true)(hlen:((x.cells.drop off).take (m*size)).length=m*size)(jb:cells.length=n*size)(iP:cells++(x.cells.drop off).take (m*size)=new)
  (h1:∀ v∈x.cells,v.oneCell'=true) (bE:0<size) (h63:nm<=maxLen) (hb:nm*bytes<=140737488355328) (ho:EA P (ay fn key)=some (e,size,bytes,size,true)):aQ P B N:=
 .step key (ay fn key) [.slice (some ⟨j,0,some 7⟩) n 0,.slice (some ⟨q,off,some 7⟩) m cc] [(k,none),(j,some (.row cells e size)),(q,some x)] (.slice (some ⟨k,0,some 7⟩) nm 0) [(k,.row new e size),(j,.dead)] (by subst lA;have hs:BW B (.slice (some ⟨q,off,some 7⟩) m cc) m ((x.cells.drop off).take (m*size)) [(q,some x)]:=L0 (B:=B) (k:=q) (off:=off) (m:=m) (cc:=cc) hx (len:=m*size) (λh=>by rw[h,lB]);have:=Y7 (B:=B) ho bE hs hlen (λv hv=>h1 v (V7 (Fo hv))) (j:=j) (n:=n) (cells:=cells) (u4 jb.symm) h63 hb k;rw[j0 (u4 jb),iP]at this;exact this)
def aQ.aQH(fn:Func)(key k n s:Nat)(ho:rN P (ay fn key)=some (true,false,s)):aQ P B N:=
 .step key (ay fn key) [.slice (some ⟨k,0,some 7⟩) n 0,vI 0] [] (.slice (some ⟨k,0,some 7⟩) n 0) [] (by have:=Gm (B:=B) ho (k:=k) (off:=0) (n:=n) (cc:=0) (l:=0) (h:=n) n_ (λ_=>rfl) (kB _) (bh _) (.inr rfl);simpa using this)
theorem aQI{s:Nat}(ho:rN P o=some (true,false,s)){n:Nat}{x:Obj}(hx:x.jv=true)(j:Nat):
  cz P B o [.slice (some ⟨k,off,some 7⟩) n cc,vI n] [(j,none),(k,some x)] (.slice (some ⟨j,0,some 7⟩) 0 0) [(j,.view [])]:=by
 unfold rN at ho;split at ho
 ·rename_i t y lo hi bM;split at ho
  ·rename_i e ht;split at ho
   ·rename_i i il;injection ho with ho;injection ho with h1 ho;injection ho with h2 h3;cases lo with
    |none=>cases h1
    |some yl=>
    cases hi with
    |some yh=>cases h2
    |none=>
    refine gT.step λι c ρ w aN hm hn=>?_;have hj:c j=none:=hn (j,none) s_;have hk:c k=some x:=hn (k,some x) s_;rw[bM]at aN;obtain⟨u,u2,hu,hc,c9⟩:=iY aN;have dy:ρ y=u:=by simp[Op.operands]at hu;exact hu.1
    have eF:ρ yl=u2:=by simp[Op.operands]at hu;exact hu.2
    have c9:=c9.fh rfl;have KW:∀ y code,n<=y->(Instr.sliceBound (.int .i64 n) y code).run P w=.ok n w:=by intro y code hq;have:(0:Int)<=n/\(n:Int)<=y:=⟨by omega,by omega⟩;simp[Instr.sliceBound,asIntOf,this]
    rcases hc.gR rfl with ⟨hb,ki,pE,yo,he⟩|⟨b,oo,cap,c',hb,lq,mA,he⟩
    ·refine⟨dD ι j .nil,.slice none 0 0,w,gu (hm.dw j hj),.slcN (fC _ _ _),hm.add hj (.inl ⟨rfl,rfl⟩) n_ n_ n_,.inl ?_⟩;subst ki;have kJ:∀ code,(Instr.sliceBound (.int .i64 0) 0 code).run P w=.ok 0 w:=λcode=>by simp[Instr.sliceBound,asIntOf]
     simp only[execOp,bM];simp[Instr.sliceAt,iZ ht,Instr.slice,dy,eF,c9,he,vI,Instr.sliceBounds,kJ,sizeOf,typeInfo,il]
    ·dsimp only at hb he;obtain⟨o1,wX⟩:∃ o1,o1=(if c'=n then oo+off else oo+off+n*i.size):=⟨_,rfl⟩;have hsn:=hm.seen k x b oo cap hk hx hb;refine⟨dD ι j (.at b o1 (c'-n)),.slice (some ⟨b,o1+0,none⟩) 0 (c'-n),w,gu (hm.dw j hj),.slc (fC _ _ _) (kB _) (jL _),hm.add hj (.inr ⟨b,o1,c'-n,[],rfl,.nil,λj u h=>by simp at h⟩) n_ n_ (λb1 o2 kS _ e=>?_),.inl ?_⟩
     ·injection e with e1 e2 e3;subst e1;exact hsn
     ·simp only[execOp,bM];by_cases gS:c'=n
      ·rw[au gS]at wX;subst wX;subst gS;simp[Instr.sliceAt,iZ ht,Instr.slice,dy,eF,c9,he,vI,Instr.sliceBounds,KW c' _ (bh _),sizeOf,typeInfo,il]
      ·rw[al gS]at wX;subst wX;simp[Instr.sliceAt,iZ ht,Instr.slice,dy,eF,c9,he,vI,Instr.sliceBounds,KW n _ (bh _),sizeOf,typeInfo,il,gS,yn]
   ·cases ho
  ·cases ho
 ·cases ho
def aQ.aQJ(fn:Func)(key k off n cc s j:Nat)(x:Obj)(hx:x.jv=true)(ho:rN P (ay fn key)=some (true,false,s)):aQ P B N:=
 .step key (ay fn key) [.slice (some ⟨k,off,some 7⟩) n cc,vI n] [(j,none),(k,some x)] (.slice (some ⟨j,0,some 7⟩) 0 0) [(j,.view [])] (aQI ho hx j)
end
theorem bL.swap{R:α->β->Prop}{a a':α}(h:∀ b,R a b->R a' b):∀(pre:List α) {post:List α} {m:List β},bL R (pre++a::post) m->bL R (pre++a'::post) m
 |[],_,_,h1=>by cases h1 with|cons h2 h3=>exact .cons (h _ h2) h3
 |_::pre,_,_,h1=>by cases h1 with|cons h2 h3=>exact .cons h2 (bL.swap h pre h3)
theorem aEy(h:cX c M)(k:Nat)(x:Obj):cX (aV c k x) ((k,x)::M):=λj y e=>by
 unfold ai at e;unfold aV;split at e
 ·rename_i hb;injection e with e;subst e;rw[au (jY hb).symm]
 ·rename_i hb;rw[al (λe'=>hb (by rw[e'];exact Eh k))];exact h j y e
theorem aQK{n:Nat}(h:eH c n)(hk:k<n)(x:Obj):eH (aV c k x) n:=λj hj=>by unfold aV;rw[al o_];exact h j hj
section
variable{P:j_}{B:ae}{N:Nat}
theorem aJ.aQL(hm:aJ B ι c w){cells:ah}(hk:c k=some (.aI cells ty))(h:∀ bY,bL (aH ι) cells bY->bL (aH ι) cells' bY):aJ B ι (aV c k (.aI cells' ty)) w:=by obtain⟨l,h1,b,bY,e1,e2,e3⟩:=hm.born k _ hk;subst e1;exact hm.write hk rfl h1 (.refl w) rfl rfl (bh _) (λ_ _ _=>rfl) ⟨b,bY,rfl,h _ e2,e3⟩ n_ rfl
theorem St.aEz{next:Nat}{a:Act}(h:St B N fr M next a w){tb:TypeId}(hk:ai M k=some (.aI (pre++.slice none 0 0::post) tb))(ty:TypeId)(s:Nat):
  St B N fr ((k,.aI (pre++.slice (some ⟨next,0,some 7⟩) 0 0::post) tb)::(next,.row [] ty s)::M) (next+1) a w:=by
 obtain⟨ι,cc,h1,h2,h3,h4⟩:=h;have hn:=h4 next (bh _);have hle:Map.le ι (dD ι next .nil):=gu (h2.dw next hn);have Fv:=h3 k _ hk;have qD:k≠next:=λe=>by subst e;rw[hn]at Fv;cases Fv
 have ao:k<next:=by
  rcases eU k next with h|h
  ·exact h
  ·rw[h4 k h]at Fv;cases Fv
 have m1:aJ B (dD ι next .nil) (aV cc next (.row [] ty s)) w:=h2.add hn (.inl ⟨rfl,rfl⟩) n_ n_ n_;have m2:=m1.aQL (k:=k) (cells:=pre++.slice none 0 0::post) (cells':=pre++.slice (some ⟨next,0,some 7⟩) 0 0::post) (ty:=tb) (by unfold aV;rw[al qD];exact Fv) λbY hc=>
  bL.swap (λb hb=>by rw[hb.fh rfl];exact .slcN (fC _ _ _)) pre hc
 refine⟨_,_,⟨h1.defers,h1.size,λt=>(h1.slot t).mono hle⟩,m2,aEy (aEy h3 _ _) _ _,aQK (λj hj=>?_) o_ _⟩;unfold aV;rw[al o_];exact h4 j o_
def aEA(P:j_)(f:FuncId)(kO s1 np:Nat)(xp:ah)(nv:Nat)(xv:ah)(F:Fact):Prop:=
 ∀ w v1 b o c,c8 w v1 np xp->c8 w (.slice (some ⟨b,o,none⟩) nv c) nv xv->Calls P f #[v1,.slice (some ⟨b,o,none⟩) nv c] w λe w'=>∃ u1 u3,e=.returned (.agg #[u1,.slice (some ⟨b,o,none⟩) nv c,u3])/\
  w'.ownsRow w.heap.size kO s1 u1 np xp/\Be w' u3 F/\(∀ b,F.cM u3 w' b->w.heap.size<=b)/\(∀ b,iB u1=some b->¬F.cM u3 w' b)/\Below w.heap.size w w'
theorem aQM{np nv:Nat}{xv:ah}{a1 a2:i_}{nd:q_}{S:Nat}(h:aEA P f A U np ew nv xv F)(hs:gh B [.r np ew,.r nv xv] [a1,a2] nd)(ho:di o.op=some x)(eK:fW P f=true)(wi:F.rc=false)
  (f1:(ew.all flat)=true) (hnv:0<nv) (hS:∀ w,B.G w->S<=w.heap.size) (k:Nat) :
  cz P B o (.func (.func f) #[] #[]::[a1,a2]) ((k,none)::(k+1,none)::nd) (.agg #[.slice (some ⟨k,0,some 7⟩) np 0,a2,.pointer (some ⟨k+1,0,some 9⟩)])
   [(k+1,.fact (F.j7 S)),(k,.row ew A U)]:=by
 have:=jP (P:=P) (B:=B) (o:=o) (x:=x) (f:=f) (fi:=[]) (args:=[a1,a2]) (ca:=[]) (need:=(k,none)::(k+1,none)::nd)
  (val:=.agg #[.slice (some ⟨k,0,some 7⟩) np 0,a2,.pointer (some ⟨k+1,0,some 9⟩)]) (cP:=[(k+1,.fact (F.j7 S)),(k,.row ew A U)]) ho eK ?_
 ·simpa using this
 ·intro ι c w hm hn args' ha;rw[jy,gY]at ha;have k0:c k=none:=hn (k,none) s_;have k1:c (k+1)=none:=hn (k+1,none) s_;have cx:=Bg hs hm (λp hp=>hn p (by simp[hp])) ha;obtain⟨v1,v2,rfl,ca1,Yu⟩:=iY ha;cases cx with
  |cons i1 cx=>
  cases cx with
  |cons i2 _=>
  have i1:c8 w v1 np ew:=i1;have i2:c8 w v2 nv xv:=i2;have i3:=i2;rcases i2 with ⟨_,e,_⟩|⟨b,o',c',rfl,_⟩
  ·omega
  refine(h w v1 b o' c' i1 i3).mono ?_
  rintro e w' ⟨u1,u3,rfl,r1,r3,f3,Po,hb⟩
  have KR:=hS w hm.base;have uJ:=hm.call hb;have cT:∀ j y b o cap,c j=some y->ι j=some (.at b o cap)->y.owns=true\/y.jv=true->b<w.heap.size:=λj y b o cap hj hl hy=>by
   rcases hy with hy|hy
   ·exact(hm.own j y b o cap hj hy hl).1
   ·exact(hm.seen j y b o cap hj hy hl).1
  have Pp:∀ j F u b,c j=some (.fact F)->ι j=some (.val u)->F.cM u w' b->b<w.heap.size:=λj F u b hj hu hF=>by have hF:=hm.DW hj hu hb.size (λk hk _=>hb.block k hk) hF;obtain⟨l,q1,q2⟩:=hm.born j _ hj;rw[hu]at q1;injection q1 with q1;exact q2.DU q1.symm hF
  have KT:∀ b,iB u1=some b->w.heap.size<=b:=λb hb=>by
   rcases r1.2 with ⟨h1,_⟩|⟨g,cap,cur,h1,h2,_⟩
   ·rw[h1]at hb;cases hb
   ·rw[h1]at hb;injection hb with hb;subst hb;exact h2
  have Pq:∀ b,B.cM b->b<w.heap.size:=λb hF=>B.lt w b hm.base hF;obtain⟨bJ,l1,m1,c1,p1⟩:=U7 uJ k0 r1 f1 Pq (λj y b o cap hj hl hy e=>by have a:=cT j y b o cap hj hl hy;have b:=KT b e;omega) (λj F u b hj hu e hF=>by have a:=Pp j F u b hj hu hF;have b:=KT b e;omega);have back:∀ j y l,c j=some y->bJ j=some l->ι j=some l:=λj y l hj hl=>by obtain⟨l',cZ,_⟩:=uJ.born j y hj;have:=l1 j l' cZ;rw[hl]at this;injection this with this;rw[this];exact cZ
  have Pr:aV c k (.row ew A U) (k+1)=none:=by unfold aV;rw[al o_];exact k1
  have KU:∀ j y,aV c k (.row ew A U) j=some y->(j=k/\y=.row ew A U)\/(j≠k/\c j=some y):=λj y hj=>by
   unfold aV at hj;by_cases bT:j=k
   ·rw[au bT]at hj;injection hj with hj;exact .inl ⟨bT,hj.symm⟩
   ·rw[al bT]at hj;exact .inr ⟨bT,hj⟩
  have m3:aJ B (dD bJ (k+1) (.val u3)) (aV (aV c k (.row ew A U)) (k+1) (.fact (F.j7 S))) w':=
   m1.add Pr ⟨u3,rfl,r3.1,λb hF=>dc KR (f3 b hF)⟩ n_ (λF' v b e1 e2 hF j y o' bj hj hy he=>by
    injection e1 with e1;subst e1;injection e2 with e2;subst e2;have hF:F.cM u3 w' b:=hF;rcases KU j y hj with ⟨rfl,rfl⟩|⟨_,hj⟩
    ·exact Po b (p1 b o' bj he) hF
    ·have h1:=cT j y b o' bj hj (back j y _ hj he) (.inl hy);have h2:=f3 b hF;omega) n_ λF' e hr=>by
    injection e with e;subst e;have:F.rc=true:=hr;rw[wi]at this;cases this
  have l3:Map.le bJ (dD bJ (k+1) (.val u3)):=gu (m1.dw _ Pr);exact⟨_,_,rfl,l1.trans l3,.agg (.cons (c1.mono l3) (.cons (Yu.mono (l1.trans l3)) (.cons (.opq (fC _ _ _) r3.2.1 r3.2.2) .nil))),m3⟩
end
section
variable{P:j_}{B:ae}{N:Nat}
theorem aQN(ho:H3 o=true){x r:Int}(hr:r=if x<y then y else x):cz P B o [.int .i64 x,.int .i64 y] [] (.int .i64 r) []:=by
 subst hr;unfold H3 at ho;split at ho
 ·rename_i c bM;split at ho
  ·rename_i p q h1 h2;refine(Ac (λu hu=>by simp at hu;rcases hu with rfl|rfl<;>rfl) rfl λρ e6 w _=>?_).step;obtain⟨ce,ar,at'⟩:=c;dsimp only at h1 h2;subst h1;have e1:ar=#[p,q]:=by rw[<-xn (xs:=ar),h2]
   subst e1;rw[bM]at e6;simp[Op.operands,Call.operands]at e6;simp[execOp,bM,resolve,invoke,builtin,Builtin.max_,Builtin.max2,e6.1,e6.2]
  ·cases ho
 ·cases ho
def aQ.aEB(fn:Func)(key:Nat)(x y r:Int)(hr:r=if x<y then y else x)(ho:H3 (ay fn key)=true):aQ P B N:=
 .step key (ay fn key) [.int .i64 x,.int .i64 y] [] (.int .i64 r) [] (aQN ho hr)
end
section
variable{P:j_}{B:ae}{N:Nat}
end
def cr(k:Nat):Value:=.pointer (some ⟨k,0,some 9⟩)
def rm(L:l_):List Int:=L.map λx:Nat=>(x:Int)
def nG(w:h_)(v:i_)(n:Nat)(xs:ah):Prop:=c8 w v n xs\/(n=0/\∃ a,v=.slice (some a) 0 0)
theorem Wk{l:List Int}(h:nG w u l.length (eQ l))(hs:w.heap.size<=w'.heap.size)(hk:0<l.length->∀ b,iB u=some b->xB w w' b):nG w' u l.length (eQ l):=by
 rcases h with h|h
 ·rcases nq l.length with h0|h0
  ·rcases h with h|⟨b,o,c,h1,h2,h3,h4⟩
   ·exact .inl (.inl h)
   ·refine .inl (.inr ⟨b,o,c,h1,h2,cC h3 hs,λj u hj=>?_⟩);rw[kA h0]at hj;simp[eQ]at hj
  ·exact .inl (h.kept hs (hk h0))
 ·exact .inr h
theorem nG.lt{n:Nat}(h:nG w u n xs)(h0:0<n)(hb:iB u=some b):b<w.heap.size:=by
 rcases h with h|⟨h,_⟩
 ·exact h.lt hb
 ·omega
theorem nG.row{n:Nat}(h:nG w u n xs)(h0:0<n):c8 w u n xs:=by
 rcases h with h|⟨h,_⟩
 ·exact h
 ·omega
theorem nG.one{n:Nat}(h:nG w u n xs):u.cells=#[u]/\u.oneCell'=true:=by rcases h with (⟨e,_⟩|⟨_,_,_,e,_⟩)|⟨_,_,e⟩<;>rw[e]<;>exact⟨rfl,rfl⟩
theorem nG.form{n:Nat}(h:nG w u n xs):(u=.slice none 0 0/\n=0)\/∃ a c,u=.slice (some a) n c:=by
 rcases h with (⟨e,e2,_⟩|⟨_,_,_,e,_⟩)|⟨e1,_,e⟩
 ·exact .inl ⟨e,e2⟩
 ·exact .inr ⟨_,_,e⟩
 ·subst e1;exact .inr ⟨_,_,e⟩
def dM(l:List Int):Fact where
 G u w:=nG w u l.length (eQ l)
 cM u w k:=0<l.length/\iB u=some k
 lt u w k h hF:=h.lt hF.1 hF.2
 dep u w w' h hs hk:=⟨Wk h hs λh0 b hb cs ty f hc=>(hk b ⟨h0,hb⟩).trans hc,λk hF=>hF⟩
 soft _ u w w' h hs hk:=⟨Wk h hs λh0 b hb=>hk b ⟨h0,hb⟩,λk hF=>hF⟩
inductive rp(w:h_):f_->ah->Prop
 |nil:rp w [] []
 |cons {i:Int} {l:List Int} {u:i_} {fs:f_} {cs:ah}:nG w u l.length (eQ l)->rp w fs cs->rp w ((i,l)::fs) (iV i::u::cs)
theorem rp.length{cs:ah}(h:rp w fs cs):cs.length=fs.length*2:=by
 induction h with
 |nil=>rfl
 |cons _ _ ih=>simp only[nL,ih];omega
theorem aEC{w:h_}:∀{fs:f_} {cs:ah},rp w fs cs->∀{i:Nat} {f:Int×List Int},fs[i]?=some f->∃ u,cs[i*2]?=some (iV f.1)/\cs[i*2+1]?=some u/\nG w u f.2.length (eQ f.2)
 |_,_,.nil,i,f,h=>by simp at h
 |_,_,.cons (u:=u) h1 h2,0,f,h=>by simp at h;subst h;exact⟨u,rfl,rfl,h1⟩
 |_,_,.cons h1 h2,i+1,f,h=>by
  obtain⟨u,q1,q2,q3⟩:=aEC h2 (i:=i) (by simpa using h);refine⟨u,?_,?_,q3⟩
  ·rw[show(i+1)*2=i*2+2 by omega];exact q1
  ·rw[show(i+1)*2+1=i*2+1+2 by omega];exact q2
def Lr(u:i_)(k:Nat):Prop:=∃ a n c,u=.slice (some a) n c/\0<n/\a.block=k
theorem aQO(h:Lr u k):iB u=some k:=by obtain⟨a,n,c,rfl,_,e⟩:=h;show some a.block=_;rw[e]
theorem rp.kept{cs:ah}(h:rp w fs cs)(hs:w.heap.size<=w'.heap.size)(hk:∀ u∈cs,∀ b,Lr u b->xB w w' b):rp w' fs cs:=by
 induction h with
 |nil=>exact .nil
 |cons h1 _ ih=>
  refine .cons (Wk h1 hs λh0 b hb=>hk _ (bw _ (aL ..)) b ?_) (ih λu hu=>hk u (bw _ (bw _ hu)));rcases h1.form with ⟨e,e2⟩|⟨a,c,e⟩
  ·omega
  ·subst e;injection hb with hb;exact⟨a,_,c,rfl,h0,hb⟩
theorem rp.lt{cs:ah}(h:rp w fs cs):∀ u∈cs,∀ b,Lr u b->b<w.heap.size:=by
 induction h with
 |nil=>intro u hu;cases hu
 |cons h1 _ ih=>
  intro u hu b hb;rcases b9.1 hu with rfl|hu
  ·obtain⟨a,n,c,e,_⟩:=hb;cases e
  ·rcases b9.1 hu with rfl|hu
   ·obtain⟨a,n,c,e,h0,e2⟩:=hb;rcases h1.form with ⟨e',e3⟩|⟨a',c',e'⟩
    ·rw[e']at e;cases e
    ·rw[e']at e;injection e with e1 Cm e3;subst Cm;exact h1.lt h0 (by rw[e'];injection e1 with e1;subst e1;show some a'.block=_;rw[e2])
   ·exact ih u hu b hb
def P8(w:h_)(v:i_)(fs:f_):Prop:=∃ cs,c8 w v fs.length cs/\rp w fs cs
def P9(n:Nat)(v:i_)(w:h_)(k:Nat):Prop:=
 iB v=some k\/∃ b o c j u,v=.slice (some ⟨b,o,none⟩) n c/\j<n*2/\w.cell? ⟨b,o+j,none⟩=some u/\Lr u k
theorem aQP{v:i_}{cs:ah}(h1:c8 w v fs.length cs)(h2:rp w fs cs){o c:Nat}(hv:v=.slice (some ⟨b,o,none⟩) fs.length c)(hj:j<fs.length*2)(hu:w.cell? ⟨b,o+j,none⟩=some u):u∈cs:=by
 rcases h1 with ⟨h,_⟩|⟨b',o',c',e,_,_,h4⟩
 ·rw[h]at hv;cases hv
 ·rw[e]at hv;injection hv with hv _ _;injection hv with hv;injection hv with e1 e2 _;subst e1;subst e2;have ao:j<cs.length:=by rw[h2.length];exact hj
  have pd:cs[j]?=some cs[j]:=aW ao;have:=h4 j _ pd;rw[hu]at this;injection this with this;rw[this];exact dK ao
theorem aED{v:i_}(h:P8 w v fs)(hs:w.heap.size<=w'.heap.size)(hk:∀ k,P9 fs.length v w k->xB w w' k):
  P8 w' v fs/\∀ k,P9 fs.length v w' k->P9 fs.length v w k:=by
 obtain⟨cs,h1,h2⟩:=h;have HN:∀ b,iB v=some b->xB w w' b:=λb hb=>hk b (.inl hb);have Pf:∀ u∈cs,∀ b,Lr u b->xB w w' b:=λu hu b hb=>by
  rcases h1 with ⟨_,_,h⟩|⟨b',o',c',e,_,_,h4⟩
  ·rw[h]at hu;cases hu
  ·obtain⟨j,hj,rfl⟩:=kN hu;refine hk b (.inr ⟨b',o',c',j,_,e,by rw[<-h2.length];exact hj,h4 j _ (aW hj),hb⟩)
 refine⟨⟨cs,h1.kept hs HN,h2.kept hs Pf⟩,λk hF=>?_⟩;rcases hF with hF|⟨b,o,c,j,u,e,hj,hc,hb⟩
 ·exact .inl hF
 ·rcases h1 with ⟨h,_⟩|⟨b',o',c',e',_,_,h4⟩
  ·rw[h]at e;cases e
  ·rw[e']at e;injection e with e1 _ e3;injection e1 with e1;injection e1 with e1 e2 _;subst e1;subst e2;subst e3;have ao:j<cs.length:=by rw[h2.length];exact hj
   have h5:=h4 j _ (aW ao);have h6:=UW (HN b' (by rw[e'];rfl)) h5;rw[hc]at h6;injection h6 with h6;exact .inr ⟨b',o',c',j,u,e',hj,by rw[h6];exact h5,hb⟩
def ij(fs:f_):Fact where
 G v w:=P8 w v fs
 cM v w k:=P9 fs.length v w k
 lt v w k h hF:=by
  obtain⟨cs,h1,h2⟩:=h;rcases hF with hF|⟨b,o,c,j,u,e,hj,hc,hb⟩
  ·exact h1.lt hF
  ·exact h2.lt u (aQP h1 h2 e hj hc) k hb
 dep v w w' h hs hk:=aED h hs λk hF cs ty f hc=>(hk k hF).trans hc
 soft _ v w w' h hs hk:=aED h hs hk
structure ob(fs:f_)(F:Fact):Prop where
 G:∀ v w,F.G v w->(ij fs).G v w
 cM:∀ v w k,(ij fs).cM v w k->F.cM v w k
theorem ob.self(fs:f_):ob fs (ij fs):=⟨λ_ _ h=>h,λ_ _ _ h=>h⟩
theorem nZ.aQQ{cs:ah}(h:nZ w fs cs):rp w fs cs:=by
 induction h with
 |nil=>exact .nil
 |cons h1 _ _ ih=>exact .cons (.inl h1) ih
theorem ob.full(fs:f_):ob fs (n9 fs):=by
 refine⟨λv w h=>?_,λv w k h=>?_⟩
 ·obtain⟨cs,h1,h2⟩:=h;exact⟨cs,h1,h2.aQQ⟩
 ·rcases h with h|⟨b,o,c,j,u,e,hj,hc,hb⟩
  ·exact .inl h
  ·exact .inr ⟨b,o,c,j,u,e,hj,hc,aQO hb⟩
theorem ob.j7(h:ob fs F)(S:Nat):ob fs (F.j7 S):=⟨λv w hv=>h.G v w hv.1,h.cM⟩
theorem aQR{v:i_}(h:P8 w v fs)(hl:∀ f∈fs,0<f.2.length):KJ w v fs:=by
 obtain⟨cs,h1,h2⟩:=h;refine⟨cs,h1,?_⟩;clear h1;induction h2 with
 |nil=>exact .nil
 |cons h3 _ ih=>
  have hr:=h3.row (hl _ (aL ..));refine .cons hr ?_ (ih λf hf=>hl f (bw _ hf));rcases hr with ⟨e,_⟩|⟨_,_,_,e,_⟩<;>rw[e]<;>rfl
section
variable{P:j_}{B:ae}{N:Nat}
theorem vW(ho:KP P o=true)(hF:ob fs F):cz P B o [.pointer (some ⟨k,0,some 9⟩)] [(k,some (.fact F))] (vI fs.length) []:=by
 obtain⟨x,t,e,bM,ht⟩:=aCA ho;refine gT.step λι c ρ w aN hm oq=>?_;rw[bM]at aN;obtain⟨u,hu,hc⟩:=mz aN;have hu:ρ x=u:=by simpa[Op.operands,Call.operands]using hu
 have FQ:=yZ hm (oq (k,_) (aL ..)) hc;obtain⟨cs,hr,_⟩:=hF.G _ _ FQ.1;refine⟨ι,vI fs.length,w,Map.le.refl _,.same rfl,hm,.inl ?_⟩;rcases hr with ⟨q1,q2,_⟩|⟨b,o',c',q1,_⟩
 ·subst q1;simp[execOp,bM,resolve,invoke,builtin,Builtin.len_,hu,iZ ht,goInt,q2,vI]
 ·subst q1;simp[execOp,bM,resolve,invoke,builtin,Builtin.len_,hu,iZ ht,goInt,vI]
theorem oN(ho:KP P o=true){l:List Int}:cz P B o [.pointer (some ⟨k,0,some 9⟩)] [(k,some (.fact (dM l)))] (vI l.length) []:=by
 obtain⟨x,t,e,bM,ht⟩:=aCA ho;refine gT.step λι c ρ w aN hm oq=>?_;rw[bM]at aN;obtain⟨u,hu,hc⟩:=mz aN;have hu:ρ x=u:=by simpa[Op.operands,Call.operands]using hu
 have FQ:=yZ hm (oq (k,_) (aL ..)) hc;have hw:nG w u l.length (eQ l):=FQ.1;refine⟨ι,vI l.length,w,Map.le.refl _,.same rfl,hm,.inl ?_⟩;rcases hw.form with ⟨q1,q2⟩|⟨a,c',q1⟩
 ·subst q1;simp[execOp,bM,resolve,invoke,builtin,Builtin.len_,hu,iZ ht,goInt,q2,vI]
 ·subst q1;simp[execOp,bM,resolve,invoke,builtin,Builtin.len_,hu,iZ ht,goInt,vI]
theorem Ih(ho:wH P o=some 2){f:Int×List Int}(hF:ob fs F)(hi:fs[i]?=some f)(HP:m<k):
  cz P B o [.pointer (some ⟨m,0,some 9⟩),vI i] [(k,none),(k+1,none),(m,some (.fact F))] (.pointer (some ⟨k,0,some 7⟩)) [(k,.view [iV f.1,.pointer (some ⟨k+1,0,some 9⟩)]),(k+1,.fact (dM f.2))]:=by
 unfold wH at ho;split at ho
 ·rename_i t x y bM;split at ho
  ·rename_i e ht;split at ho
   ·rename_i inf Ad;injection ho with ho;refine gT.step λι c ρ w aN hm oq=>?_;rw[bM]at aN;obtain⟨v,v2,hu,hc,c9⟩:=iY aN;have dy:ρ x=v:=by simp[Op.operands]at hu;exact hu.1
    have eF:ρ y=v2:=by simp[Op.operands]at hu;exact hu.2
    have c9:=c9.fh rfl;have FR:c m=some (.fact F):=oq (m,some (.fact F)) s_;have k0:c k=none:=oq (k,none) s_;have k1:c (k+1)=none:=oq (k+1,none) s_;have FQ:=yZ hm FR hc;have loc:ι m=some (.val v):=by
     obtain⟨lc,q1,u,q2,q3⟩:=hm.born m _ FR;subst q2;generalize hp:Value.pointer (some ⟨m,0,some 9⟩)=p at hc;cases hc with
     |same h=>subst hp;cases h
     |ptr h=>injection hp with hp;injection hp with hp;injection hp with _ _ hp;cases hp
     |slc h=>cases hp
     |slcN h=>cases hp
     |opq h4 h5 h6=>injection hp with hp;injection hp with hp;injection hp with iD;subst iD;exact h4
     |fn=>cases hp
     |agg=>cases hp
     |tup=>cases hp
    obtain⟨cs,hr,jb⟩:=hF.G _ _ FQ.1;obtain⟨u,a1,a2,a3⟩:=aEC jb hi;have ao:=(eB.1 hi).1;rcases hr with ⟨_,q2,_⟩|⟨b,o',c',q1,q2,q3,q4⟩
    ·omega
    have own:∀ bb,F.cM v w bb->∀ j y o' bj,c j=some y->y.owns=true->ι j≠some (.at bb o' bj):=λbb hb j y o1 kS hj hy he=>hm.apart j m y F bb o1 kS v hj hy he FR loc hb;have hFb:F.cM v w b:=hF.cM _ _ _ (.inl (by rw[q1];rfl));have hFu:∀ bb,(dM f.2).cM u w bb->F.cM v w bb:=λbb hb=>hF.cM _ _ _ (.inr ⟨b,o',c',i*2+1,u,q1,by omega,q4 _ _ a2,by
     obtain⟨h0,hb⟩:=hb;rcases a3.form with ⟨e',e2⟩|⟨a,c2,e'⟩
     ·omega
     ·subst e';injection hb with hb;exact⟨a,_,c2,rfl,h0,hb⟩⟩)
    have m1:aJ B (dD ι (k+1) (.val u)) (aV c (k+1) (.fact (dM f.2))) w:=hm.add k1 ⟨u,rfl,a3⟩ n_ (λF' v' b' e1 e2 hb j y o1 kS hj hy he=>by injection e1 with e1;subst e1;injection e2 with e2;subst e2;exact own b' (hFu b' hb) j y o1 kS hj hy he) n_ λF' e hr=>by injection e with e;subst e;cases hr
    have k0':aV c (k+1) (.fact (dM f.2)) k=none:=by unfold aV;rw[al o_];exact k0
    have l1:Map.le ι (dD ι (k+1) (.val u)):=gu (hm.dw _ k1);have cu:aH (dD ι (k+1) (.val u)) (.pointer (some ⟨k+1,0,some 9⟩)) u:=.opq (fC _ _ _) a3.one.1 a3.one.2;have l2:Map.le (dD ι (k+1) (.val u)) (dD (dD ι (k+1) (.val u)) k (.at b (o'+i*2) 0)):=gu (m1.dw _ k0');have back:∀ j y b' o1 kS,aV c (k+1) (.fact (dM f.2)) j=some y->y.owns=true->dD ι (k+1) (.val u) j=some (.at b' o1 kS)->c j=some y/\ι j=some (.at b' o1 kS):=λj y b' o1 kS hj hy he=>by
     unfold aV at hj;unfold dD at he;by_cases bT:j=k+1
     ·rw[au bT]at hj;injection hj with hj;subst hj;cases hy
     ·rw[al bT]at hj he;exact⟨hj,he⟩
    have m2:aJ B (dD (dD ι (k+1) (.val u)) k (.at b (o'+i*2) 0)) (aV (aV c (k+1) (.fact (dM f.2))) k (.view [iV f.1,.pointer (some ⟨k+1,0,some 9⟩)])) w:=
     m1.add k0' (.inr ⟨b,o'+i*2,0,[iV f.1,u],rfl,.cons (.same rfl) (.cons (cu.mono l2) .nil),λj x hj=>by
      cases j with
      |zero=>simp at hj;subst hj;have:=q4 _ _ a1;simpa using this
      |succ j=>cases j with
       |zero=>simp at hj;subst hj;have:=q4 _ _ a2;rw[tX];exact this
       |succ j=>simp at hj⟩) n_ n_ (λb1 o1 kS _ e=>by
      injection e with e1 e2 e3;subst e1;exact⟨q3,λj y o2 pA hj hy he=>by obtain⟨hj,he⟩:=back j y b o2 pA hj hy he;exact own b hFb j y o2 pA hj hy he⟩)
    refine⟨_,.pointer (some ⟨b,o'+i*2,none⟩),w,l1.trans l2,?_,m2,.inl ?_⟩
    ·have:=aH.ptr (off:=0) (fC (dD ι (k+1) (.val u)) k (.at b (o'+i*2) 0));rwa[ja]at this
    ·subst q1;simp only[execOp,bM,dy,eF,c9];have h0:(0:Int)<=(i:Int):=by omega
     simp[Instr.indexAt,asIntOf,iZ ht,sizeOf,typeInfo,Ad,h0,yn,vI,ho];intro fG;omega
   ·cases ho
  ·cases ho
 ·cases ho
end
section
open V3 (dot aw cI smul)
theorem cg.Qa{x1 x2:ah}{F':Fact}(h:cg P f (.s n1 x1 n2 x2 F::l) res)(hF:∀ v w,F'.G v w->F.G v w):cg P f (.s n1 x1 n2 x2 F'::l) res:=by
 intro w vs cx;cases cx with
 |cons h1 h2=>
  obtain⟨u1,u2,u3,e,r1,r2,r3⟩:=h1;exact h w _ (.cons ⟨u1,u2,u3,e,r1,r2,hF _ _ r3.1,r3.2⟩ h2)
theorem aEE(fs:f_)(S:Nat):∀ v w,((n9 fs).j7 S).G v w->(ij fs).G v w:=λv w h=>(ob.full fs).G v w h.1
theorem aEF{x y:Nat}(h:decide (x≠y)=t):Value.bool ((x:Int)!=(y:Int))=.bool t:=by
 rw[<-h];congr 1
 by_cases e:x=y
 ·subst e;simp
 ·rw[aC e,qH];omega
theorem aQS{a b:List Int}(h63:a.length<9223372036854775807):cg prog 56 [.o (dM a),.o (dM b)] (.bool (decide (a=b))):=by
 have ax:([aK.o (dM a),.o (dM b)].all aK.ok)=true:=rfl;by_cases hl:a.length=b.length
 ·rcases nq a.length with h0|h0
  ·have ha:=kA h0;have hb:=kA (hl▸h0);subst ha;subst hb;exact dC func56 ax 26 (λw=>[.step 7 (ay f56 7) [cr 0] [(0,some (.fact (dM [])))] (vI 0) [] (oN k_),.step 9 (ay f56 9) [cr 1] [(1,some (.fact (dM [])))] (vI 0) [] (oN k_),.step 12 (ay f56 12) [cr 0] [(0,some (.fact (dM [])))] (vI 0) [] (oN k_)])
  ·intro w vs cx;cases cx with
   |cons h1 cx=>
   cases cx with
   |cons h2 cx=>
   cases cx;have r1:c8 w _ a.length (eQ a):=nG.row h1.1 h0;have r2:c8 w _ b.length (eQ b):=nG.row h2.1 o_;exact aMy h63 w _ (.cons r1 (.cons r2 .nil))
 ·have bW:a≠b:=λh=>hl (by rw[h]);rw[aO bW];exact dC func56 ax 26 (λw=>[.step 7 (ay f56 7) [cr 0] [(0,some (.fact (dM a)))] (vI a.length) [] (oN k_),.step 9 (ay f56 9) [cr 1] [(1,some (.fact (dM b)))] (vI b.length) [] (oN k_),.rw 10 _ b_ (aEF (x:=a.length) (y:=b.length) (by simp[hl]))])
theorem aQT{i j:Int}{l l':List Int}(h63:l.length<9223372036854775807):cg prog 55 [.c (iV i) (dM l),.c (iV j) (dM l')] (.bool (decide ((i,l)=(j,l')))):=by
 have ax:([aK.c (iV i) (dM l),.c (iV j) (dM l')].all aK.ok)=true:=rfl;have he:=aQS (a:=l) (b:=l') h63;have e1:decide ((i,l)=(j,l'))=(decide (i=j)&&decide (l=l')):=by rw[<-Bool.decide_and];exact oW.2 s_
 have e0:(Value.bool (i==j))=.bool (decide (i=j)):=rfl;rw[e1];generalize decide (i=j)=s at *;generalize decide (l=l')=t at *;refine gg mixed func55 ax 100 (N:=17) k_ (λw=>[.rw 9 _ _ e0,.cR f55 15 [cr 0,cr 1] he (.o (.o .nil))]) (λ_=>?_) ?_<;>cases s<;>kernel_rfl
section
variable{Bs:ae}{fs fs':f_}
def Ls:Value:=.func (.func 55) #[] #[]
def zO(n i:Nat):aM:=[(17,vI i),(15,cr 0),(16,vI n),(1,cr 1),(2,Ls)]
def rq(fs fs':f_):aE:=[(0,.fact (ij fs)),(1,.fact (ij fs'))]
theorem aQU:∀ x∈rq fs fs',fH 2 x.2:=λx hx=>by simp only[rq,b9,fv,fA]at hx;rcases hx with rfl|rfl<;>exact λv hv=>(by cases hv)
noncomputable def efS{n:Nat}{f:Int×List Int}(hi:i<n)(h1:fs[i]?=some f)(h2:fs'[i]?=some f')(h63:f.2.length<9223372036854775807)(ht:decide (f=f')=t)(more:bH prog Bs 32):bH prog Bs 32:=
 .lt 18 i n true (aC hi)::.step 20 (ay f58 20) [cr 0,vI i] [(2,none),(2+1,none),(0,some (.fact (ij fs)))] (.pointer (some ⟨2,0,some 7⟩)) [(2,.view [iV f.1,cr 3]),(2+1,.fact (dM f.2))] (Ih k_ (.self fs) h1 d_)::
 .step 24 (ay f58 24) [cr 1,vI i] [(5,none),(5+1,none),(1,some (.fact (ij fs')))] (.pointer (some ⟨5,0,some 7⟩)) [(5,.view [iV f'.1,cr 6]),(5+1,.fact (dM f'.2))] (Ih k_ (.self fs') h2 d_)::
 .step 29 (ay f58 29) [Ls,.agg #[iV f.1,cr 3],.agg #[iV f'.1,cr 6]] [(3,some (.fact (dM f.2))),(6,some (.fact (dM f'.2)))] (.bool t) [] (pg (ht▸aQT (i:=f.1) (j:=f'.1) h63) (.c rfl (λ_ _ h=>h) (.c rfl (λ_ _ h=>h) .nil)) (x:=.tmp 26) k_ k_ rfl)::more
theorem aQV{n:Nat}{f:Int×List Int}(hi:i<n)(h1:fs[i]?=some f)(h2:fs'[i]?=some f)(h63:f.2.length<9223372036854775807)(Wl:n<9223372036854775807):af prog Bs 32 (aF (ag f58 0)) (zO n i) (rq fs fs') 2 ⟨.normal,zO n (i+1),rq fs fs',2⟩:=
 ue mixed 100 (fY:=8) (efS hi h1 h2 h63 (t:=true) s_ [.sum 31 i 1 (i+1) rfl o_]) k_ rfl k_ aQU k_
theorem aQW{n:Nat}{f:Int×List Int}(hi:i<n)(h1:fs[i]?=some f)(h2:fs'[i]?=some f')(h63:f.2.length<9223372036854775807)(ht:f≠f'):af prog Bs 32 (aF (ag f58 0)) (zO n i) (rq fs fs') 2 ⟨.ret,[(6,.bool false)],rq fs fs',8⟩:=
 az (efS hi h1 h2 h63 (aO ht) [])
theorem aQX{n:Nat}:af prog Bs 32 (aF (ag f58 0)) (zO n n) (rq fs fs') 2 ⟨.exit 0,[],rq fs fs',2⟩:=
 az [.lt 18 n n false s_]
noncomputable def Wm(ht:decide (fs.length≠fs'.length)=t)(more:bH prog Bs 32):bH prog Bs 32:=
 .step 11 (ay f58 11) [cr 0] [(0,some (.fact (ij fs)))] (vI fs.length) [] (vW k_ (.self fs))::.step 13 (ay f58 13) [cr 1] [(1,some (.fact (ij fs')))] (vI fs'.length) [] (vW k_ (.self fs'))::.rw 14 _ (.bool t) (aEF ht)::more
theorem aQY(h63:fs.length<9223372036854775807)(pq:∀ f∈fs,f.2.length<9223372036854775807):cg prog 58 [.o (ij fs),.o (ij fs'),.p Ls] (.bool (decide (fs=fs'))):=by
 have ax:([aK.o (ij fs),.o (ij fs'),.p Ls].all aK.ok)=true:=rfl;by_cases hl:fs.length=fs'.length
 ·have qe:∀(B:ae) e,e<=fs.length->(∀ i x y,i<e->fs[i]?=some x->fs'[i]?=some y->x=y)->∀ i,i<e->af prog B 32 (aF (ag f58 0)) (zO fs.length i) (rq fs fs') 2 ⟨.normal,zO fs.length (i+1),rq fs fs',2⟩:=λB e he h4 i hi=>by have hx:fs[i]?=some fs[i]:=aW o_;have hy:fs'[i]?=some fs'[i]:=aW o_;have:=h4 i _ _ hi hx hy;rw[<-this]at hy;exact aQV o_ hx hy (pq _ (dK _)) h63
  rcases Dd fs fs' hl with h|⟨e,x,y,q1,q2,q3,q4⟩
  ·have lo:∀ B:ae,af prog B 32 (.block 0 (ag f58 0)) (zO fs.length 0) (rq fs fs') 2 ⟨.normal,[],rq fs fs',2⟩:=λB=>
    bO (id:=0) (ck fs.length (λi=>zO fs.length i) (λ_=>rq fs fs') (λi k _=>Iff.rfl) (qe B fs.length (bh _) λi x y _ hx hy=>by rw[h,hy]at hx;injection hx with hx;exact hx.symm) aQX n_)
   rw[aC h];exact dC func58 ax 32 (λw=>Wm (fs:=fs) (fs':=fs') (t:=false) (by simp[hl]) [.step 16 (ay f58 16) [cr 0] [(0,some (.fact (ij fs)))] (vI fs.length) [] (vW k_ (.self fs)),.code 0 _ _ _ _ _ (lo _)])
  ·have bW:fs≠fs':=λh=>by subst h;rw[q1]at q2;injection q2 with q2;exact q3 q2
   rw[aO bW];have ao:=(eB.1 q1).1;have lo:∀ B:ae,af prog B 32 (.block 0 (ag f58 0)) (zO fs.length 0) (rq fs fs') 2 ⟨.ret,[(6,.bool false)],rq fs fs',8⟩:=λB=>
    bO (id:=0) (ck e (λi=>zO fs.length i) (λ_=>rq fs fs') (λi k _=>Iff.rfl) (qe B e o_ q4) (aQW ao q1 q2 (pq _ (cN q1)) q3) n_)
   exact dC func58 ax 32 (λw=>Wm (fs:=fs) (fs':=fs') (t:=false) (by simp[hl]) [.step 16 (ay f58 16) [cr 0] [(0,some (.fact (ij fs)))] (vI fs.length) [] (vW k_ (.self fs)),.code 0 _ _ _ _ _ (lo _)])
 ·have bW:fs≠fs':=λh=>hl (by rw[h]);rw[aO bW];exact dC func58 ax 32 (λw=>Wm (fs:=fs) (fs':=fs') (t:=true) (by simp[hl]) [])
end
end
theorem aEG{t:TypeId}{s:Nat}(ht:HJ P t=some s){cells:ah}(hl:off+s<=cells.length):dE P t cells off=some (.agg ((cells.drop off).take s).toArray):=by
 unfold HJ at ht;split at ht
 ·rename_i d inf h1 h2;split at ht
  ·rename_i hr;injection ht with ht;unfold dE;rw[h1,h2];dsimp only;rw[au hr,ht,au (by rw[Nat.ble_eq];exact hl)]
  ·cases ht
 ·cases ht
theorem aEH{l:List RP}{p:RP}(h:l[i]?=some p):i*40+40<=(db l).length:=by rw[sk iL];have ao:=(eB.1 h).1;have:=eZ 40 ao;omega
theorem Qb{l:List RP}{p:RP}(h:l[i]?=some p):dE prog 42 (db l) (i*40)=some p.n.v:=by
 rw[aEG (s:=30) k_ (by have:=aEH h;omega)];have e:=OU iL h;have e2:((db l).drop (i*40)).take 30=p.n.cs:=by
  have:((db l).drop (i*40)).take 30=(((db l).drop (i*40)).take 40).take 30:=by rw[L6];rfl
  rw[this,e];rfl
 rw[e2];rfl
theorem aEI{l:List RP}{p:RP}(h:l[i]?=some p):dE prog 40 (db l) (i*40+30)=some p.d.v:=by
 rw[aEG (s:=10) k_ (by have:=aEH h;omega)];have e:=OU iL h;have e2:((db l).drop (i*40+30)).take 10=p.d.cs:=by
  rw[<-MT];have:(((db l).drop (i*40)).drop 30).take 10=(((db l).drop (i*40)).take 40).drop 30:=by rw[List.drop_take]
  rw[this,e];rfl
 rw[e2];rfl
theorem BM(b:α->Bool)(l:List α):l.all b=true\/∃(n:Nat) (x:α),l[n]?=some x/\b x=false/\(∀(i:Nat) (y:α),i<n->l[i]?=some y->b y=true)/\l.all b=false:=by
 induction l with
 |nil=>exact .inl rfl
 |cons x l ih=>
  rcases hb:b x with _|_
  ·exact .inr ⟨0,x,rfl,hb,λi y hi=>by omega,by simp[hb]⟩
  ·rcases ih with h|⟨n,y,h1,h2,h3,h4⟩
   ·exact .inl (by rw[eY,hb,h];rfl)
   ·refine .inr ⟨n+1,y,by simpa using h1,h2,λi z hi hz=>?_,by rw[eY,h4,MP]⟩;cases i with
    |zero=>simp at hz;rw[<-hz];exact hb
    |succ i=>exact h3 i z o_ (by simpa using hz)
theorem DI{b:α->Bool}{l:List α}(h:l.all b=true){x:α}(hx:l[i]?=some x):b x=true:=aY.1 h x (cN hx)
theorem Lt(h:decide (a<=b)=t):Value.bool (decide ((a:Int)<=(b:Int)))=.bool t:=by rw[<-h];congr 1;rw[oW];omega
section
variable{Bs:ae}{vs:List RV}{k:Nat}
def FT(n k i:Nat):aM:=[(7,vI i),(0,sl 0 n),(2,vI k)]
def xW(vs:List RV):aE:=[(0,.view (cO vs))]
theorem aEJ{n:Nat}{x:RV}(hi:i<n)(hx:vs[i]?=some x)(hb:po x k=true)(h63:n<9223372036854775807):
  af prog Bs 25 (aF (ag f68 0)) (FT n k i) (xW vs) 1 ⟨.normal,FT n k (i+1),xW vs,1⟩:=by
 have hr:=PN x k;rw[hb]at hr;exact az [.lt 11 i n true (aC hi),.df f68 16 0 n i 30 hi k_,.ld f68 17 42 0 (i*30) (.view (cO vs)) x.v rfl (sn hx) k_,hr.at 19,.sum 13 i 1 (i+1) rfl o_]
theorem aQZ{n:Nat}{x:RV}(hi:i<n)(hx:vs[i]?=some x)(hb:po x k=false):
  af prog Bs 25 (aF (ag f68 0)) (FT n k i) (xW vs) 1 ⟨.ret,[(6,.bool false)],xW vs,1⟩:=by
 have hr:=PN x k;rw[hb]at hr;exact az [.lt 11 i n true (aC hi),.df f68 16 0 n i 30 hi k_,.ld f68 17 42 0 (i*30) (.view (cO vs)) x.v rfl (sn hx) k_,hr.at 19]
theorem aQ0(m:Nat)(h63:vs.length<9223372036854775807):cg prog 68 [.r vs.length (cO vs),.p (vI m),.p (vI k)] (.bool (vs.all (λx=>po x k)&&decide (vs.length<=m))):=by
 have ax:([aK.r vs.length (cO vs),.p (vI m),.p (vI k)].all aK.ok)=true:=by simp only[eY,fO,aK.ok,gA gp,iM];rfl
 rcases BM (λx=>po x k) vs with h|⟨n,x,h1,h2,h3,h4⟩
 ·rw[h,kX];have lo:∀ B:ae,af prog B 25 (.block 0 (ag f68 0)) (FT vs.length k 0) (xW vs) 1 ⟨.normal,[(0,sl 0 vs.length)],xW vs,1⟩:=λB=>
   bO (id:=0) (ck vs.length (λi=>FT vs.length k i) (λ_=>xW vs) (λi k _=>Iff.rfl) (r:=⟨.exit 0,[(0,sl 0 vs.length)],xW vs,1⟩) (λi hi=>by have hx:vs[i]?=some vs[i]:=aW hi;exact aEJ hi hx (DI h hx) h63) (az [.lt 11 vs.length vs.length false s_]) n_)
  exact dC func68 ax 25 (λw=>[.code 0 _ _ _ _ _ (lo _),.rw 24 _ (.bool (decide (vs.length<=m))) (Lt rfl)])
 ·rw[h4,yG];have ao:=(eB.1 h1).1;have lo:∀ B:ae,af prog B 25 (.block 0 (ag f68 0)) (FT vs.length k 0) (xW vs) 1 ⟨.ret,[(6,.bool false)],xW vs,1⟩:=λB=>
   bO (id:=0) (ck n (λi=>FT vs.length k i) (λ_=>xW vs) (λi k _=>Iff.rfl) (λi hi=>by have hx:vs[i]?=some vs[i]:=aW o_;exact aEJ o_ hx (h3 i _ hi hx) h63) (aQZ ao h1 h2) n_)
  exact dC func68 ax 25 (λw=>[.code 0 _ _ _ _ _ (lo _)])
end
def Qc(p:RP):Bool:=decide (24<wV p.n)||decide (15<wN p.d)
def sP(ps:List RP)(i:Nat):Nat:=((ps.take i).filter Qc).length
theorem aQ1{ps:List RP}{p:RP}(h:ps[i]?=some p):sP ps (i+1)=sP ps i+if Qc p then 1 else 0:=by unfold sP;rw[sA,h];simp only[Option.toList,Wa,jM];rcases hb:Qc p with _|_<;>simp[hb]
theorem aQ2(ps:List RP)(i:Nat):sP ps i<=i:=by unfold sP;refine dc (aEj _ _) ?_;rw[jn];omega
theorem Qd(h:sI r k=true):wN r<=5*k:=by unfold sI at h;simp only[cY,rI]at h;unfold wN;omega
theorem aQ3{r:RV}(h:po r k=true):wV r<=15*k:=by unfold po at h;simp only[cY]at h;have h1:=Qd h.1;have h2:=Qd h.2.1;have h3:=Qd h.2.2;unfold wV;omega
section
variable{Bs:ae}{ps:List RP}
def zQ(ps:List RP)(n i:Nat):aM:=[(6,vI i),(0,sl 0 n),(5,vI (sP ps i))]
def xX(ps:List RP):aE:=[(0,.view (db ps))]
theorem aEK{n:Nat}{x:RP}(hi:i<n)(hx:ps[i]?=some x)(hb:BJ x 3=true)(h63:n<9223372036854775807):
  af prog Bs 45 (aF (ag f11 0)) (zQ ps n i) (xX ps) 1 ⟨.normal,zQ ps n (i+1),xX ps,1⟩:=by
 have hr:=aDC x 3;rw[hb]at hr;have gM:po x.n 3=true/\sI x.d 3=true:=by unfold BJ at hb;simpa using hb
 have w1:=aQ3 gM.1;have w2:=Qd gM.2;have q1:=aPn (r:=x.n) o_;have q2:=PF (r:=x.d) o_;have hs:=aQ1 hx;have hle:=aQ2 ps i;unfold zQ;rw[hs];generalize sP ps i=c at *;unfold Qc;by_cases g1:24<wV x.n
 ·rw[aC g1];exact az [.lt 10 i n true (aC hi),.df f11 15 0 n i 40 hi k_,.ld f11 16 66 0 (i*40) (.view (db ps)) x.v rfl (vJ hx) k_,hr.at 17,.df f11 21 0 n i 40 hi k_,.ld f11 23 42 0 (i*40) (.view (db ps)) x.n.v rfl (Qb hx) k_,q1.at 24,.gt 25 (wV x.n) 24 true (aC g1),.sum 36 c 1 (c+1) rfl o_,.sum 12 i 1 (i+1) rfl o_]
 ·rw[aO g1];by_cases g2:15<wN x.d
  ·rw[aC g2];exact az [.lt 10 i n true (aC hi),.df f11 15 0 n i 40 hi k_,.ld f11 16 66 0 (i*40) (.view (db ps)) x.v rfl (vJ hx) k_,hr.at 17,.df f11 21 0 n i 40 hi k_,.ld f11 23 42 0 (i*40) (.view (db ps)) x.n.v rfl (Qb hx) k_,q1.at 24,.gt 25 (wV x.n) 24 false (aO g1),.df f11 29 0 n i 40 hi k_,.ld f11 31 40 0 (i*40+30) (.view (db ps)) x.d.v rfl (aEI hx) k_,q2.at 32,.gt 33 (wN x.d) 15 true (aC g2),.sum 36 c 1 (c+1) rfl o_,.sum 12 i 1 (i+1) rfl o_]
  ·rw[aO g2];exact az [.lt 10 i n true (aC hi),.df f11 15 0 n i 40 hi k_,.ld f11 16 66 0 (i*40) (.view (db ps)) x.v rfl (vJ hx) k_,hr.at 17,.df f11 21 0 n i 40 hi k_,.ld f11 23 42 0 (i*40) (.view (db ps)) x.n.v rfl (Qb hx) k_,q1.at 24,.gt 25 (wV x.n) 24 false (aO g1),.df f11 29 0 n i 40 hi k_,.ld f11 31 40 0 (i*40+30) (.view (db ps)) x.d.v rfl (aEI hx) k_,q2.at 32,.gt 33 (wN x.d) 15 false (aO g2),.sum 12 i 1 (i+1) rfl o_]
theorem aQ4{n:Nat}{x:RP}(hi:i<n)(hx:ps[i]?=some x)(hb:BJ x 3=false):
  af prog Bs 45 (aF (ag f11 0)) (zQ ps n i) (xX ps) 1 ⟨.ret,[(4,.bool false)],xX ps,1⟩:=by
 have hr:=aDC x 3;rw[hb]at hr;exact az [.lt 10 i n true (aC hi),.df f11 15 0 n i 40 hi k_,.ld f11 16 66 0 (i*40) (.view (db ps)) x.v rfl (vJ hx) k_,hr.at 17]
def Lu(ps:List RP)(k:Nat):Bool:=ps.all (λx=>BJ x 3)&&(decide (sP ps ps.length<=1)&&decide (ps.length<=k))
theorem aQ5(k:Nat)(h63:ps.length<9223372036854775807):cg prog 11 [.r ps.length (db ps),.p (vI k)] (.bool (Lu ps k)):=by
 have ax:([aK.r ps.length (db ps),.p (vI k)].all aK.ok)=true:=by simp only[eY,fO,aK.ok,gA iL,iM];rfl
 unfold Lu;rcases BM (λx=>BJ x 3) ps with h|⟨n,x,h1,h2,h3,h4⟩
 ·rw[h,kX];have lo:∀ B:ae,af prog B 45 (.block 0 (ag f11 0)) (zQ ps ps.length 0) (xX ps) 1 ⟨.normal,[(0,sl 0 ps.length),(5,vI (sP ps ps.length))],xX ps,1⟩:=λB=>
   bO (id:=0) (ck ps.length (λi=>zQ ps ps.length i) (λ_=>xX ps) (λi k _=>Iff.rfl) (r:=⟨.exit 0,[(0,sl 0 ps.length),(5,vI (sP ps ps.length))],xX ps,1⟩) (λi hi=>by have hx:ps[i]?=some ps[i]:=aW hi;exact aEK hi hx (DI h hx) h63) (az [.lt 10 ps.length ps.length false s_]) n_)
  unfold zQ at lo;have e0:sP ps 0=0:=by unfold sP;simp
  rw[e0]at lo;generalize sP ps ps.length=c at *;by_cases hc:c<=1
  ·rw[aC hc,kX];exact dC func11 ax 45 (λw=>[.code 0 _ _ _ _ _ (lo _),.rw 38 _ b_ (Lt (a:=c) (b:=1) (aC hc)),.rw 43 _ (.bool (decide (ps.length<=k))) (Lt rfl)])
  ·rw[aO hc,yG];exact dC func11 ax 45 (λw=>[.code 0 _ _ _ _ _ (lo _),.rw 38 _ a_ (Lt (a:=c) (b:=1) (aO hc))])
 ·rw[h4,yG];have ao:=(eB.1 h1).1;have lo:∀ B:ae,af prog B 45 (.block 0 (ag f11 0)) (zQ ps ps.length 0) (xX ps) 1 ⟨.ret,[(4,.bool false)],xX ps,1⟩:=λB=>
   bO (id:=0) (ck n (λi=>zQ ps ps.length i) (λ_=>xX ps) (λi k _=>Iff.rfl) (λi hi=>by have hx:ps[i]?=some ps[i]:=aW o_;exact aEK o_ hx (h3 i _ hi hx) h63) (aQ4 ao h1 h2) n_)
  have e0:sP ps 0=0:=by unfold sP;simp
  unfold zQ at lo;rw[e0]at lo;exact dC func11 ax 45 (λw=>[.code 0 _ _ _ _ _ (lo _)])
end
section
open V3 (dot aw cI smul)
theorem aEL(h:ps[i]?=some p):(ps.map cV)[i]?=some (cV p):=by rw[u9,h];rfl
theorem Lv(h:ps[i]?=some p):dE prog 42 (bf ps) (i*40)=some (bN p.n):=Qb (aEL h)
theorem Qe(h:ps[i]?=some p):dE prog 66 (bf ps) (i*40)=some (dp p):=vJ (aEL h)
section
variable{Bs:ae}{ps:List RP}{m:Nat}
def FU(n i:Nat):aM:=[(3,vI i),(0,sl 0 n)]
def vX(ps:List RP):aE:=[(0,.view (db ps))]
theorem aEM{n:Nat}{x:RP}(hi:i<n)(hx:ps[i]?=some x)(hs:uN m x)(hm:m<=aA)(hb:ml x=true)(h63:n<9223372036854775807):
  af prog Bs 16 (aF (ag Tryz.f50 0)) (FU n i) (vX ps) 1 ⟨.normal,FU n (i+1),vX ps,1⟩:=by
 have hv:=VW hs hm;rw[hb]at hv;exact az [.lt 7 i n true (aC hi),.df Tryz.f50 12 0 n i 40 hi k_,.ld Tryz.f50 13 66 0 (i*40) (.view (db ps)) x.v rfl (vJ hx) k_,hv.at 14,.sum 9 i 1 (i+1) rfl o_]
theorem aQ6{n:Nat}{x:RP}(hi:i<n)(hx:ps[i]?=some x)(hs:uN m x)(hm:m<=aA)(hb:ml x=false):
  af prog Bs 16 (aF (ag Tryz.f50 0)) (FU n i) (vX ps) 1 ⟨.ret,[(2,.bool false)],vX ps,1⟩:=by
 have hv:=VW hs hm;rw[hb]at hv;exact az [.lt 7 i n true (aC hi),.df Tryz.f50 12 0 n i 40 hi k_,.ld Tryz.f50 13 66 0 (i*40) (.view (db ps)) x.v rfl (vJ hx) k_,hv.at 14]
theorem aEN(hs:∀ x∈ps,uN m x)(hm:m<=aA)(h63:ps.length<9223372036854775807):cg prog 50 [.r ps.length (db ps)] (.bool (ps.all ml)):=by
 have ax:([aK.r ps.length (db ps)].all aK.ok)=true:=by simp only[eY,fO,aK.ok,gA iL,iM]
 rcases BM ml ps with h|⟨n,x,h1,h2,h3,h4⟩
 ·rw[h];have lo:∀ B:ae,af prog B 16 (.block 0 (ag Tryz.f50 0)) (FU ps.length 0) (vX ps) 1 ⟨.normal,[],vX ps,1⟩:=λB=>
   bO (id:=0) (ck ps.length (λi=>FU ps.length i) (λ_=>vX ps) (λi k _=>Iff.rfl) (r:=⟨.exit 0,[],vX ps,1⟩) (λi hi=>by have hx:ps[i]?=some ps[i]:=aW hi;exact aEM hi hx (hs _ (dK hi)) hm (DI h hx) h63) (az [.lt 7 ps.length ps.length false s_]) n_)
  exact dC func50 ax 16 (λw=>[.code 0 _ _ _ _ _ (lo _)])
 ·rw[h4];have ao:=(eB.1 h1).1;have lo:∀ B:ae,af prog B 16 (.block 0 (ag Tryz.f50 0)) (FU ps.length 0) (vX ps) 1 ⟨.ret,[(2,.bool false)],vX ps,1⟩:=λB=>
   bO (id:=0) (ck n (λi=>FU ps.length i) (λ_=>vX ps) (λi k _=>Iff.rfl) (r:=⟨.ret,[(2,.bool false)],vX ps,1⟩) (λi hi=>by
    have mQ:i<ps.length:=by omega
    have hx:ps[i]?=some ps[i]:=aW mQ;exact aEM mQ hx (hs _ (dK mQ)) hm (h3 i _ hi hx) h63) (aQ6 ao h1 (hs x (cN h1)) hm h2) n_)
  exact dC func50 ax 16 (λw=>[.code 0 _ _ _ _ _ (lo _)])
end
section
variable{Bs:ae}{ps:c_}{m:Nat}{d:V3 K}
def xY(ps:c_)(d:V3 K):Bool:=ps.all λp=>decide (OF.aB (dot p.n d)<=0)
def FV(n i:Nat):aM:=[(5,vI i),(0,sl 0 n),(3,ptr 1)]
def xZ(ps:c_)(d:V3 K):aE:=[(0,.view (bf ps)),(1,.aI (cJ d).cs 42)]
theorem Qf(h:decide (z<=0)=!t):Value.bool (decide (z>0))=.bool t:=by
 congr 1
 cases t
 ·have:=jh h;exact aO o_
 ·have:=AV h;exact aC o_
theorem aEO{n:Nat}(hi:i<n)(hx:ps[i]?=some p)(hp:bB m p)(hd:aG m d)(hm:100*m+1000<=aA)(hb:decide (OF.aB (dot p.n d)<=0)=true)(h63:n<9223372036854775807):
  af prog Bs 21 (aF (ag f100 0)) (FV n i) (xZ ps d) 2 ⟨.normal,FV n (i+1),xZ ps d,2⟩:=
 az [.lt 9 i n true (aC hi),.df f100 14 0 n i 40 hi k_,.ld f100 16 42 0 (i*40) (.view (bf ps)) (bN p.n) rfl (Lv hx) k_,(aU8 hp.1 hd o_).at 18,(aUW (hp.1.dot hd) o_).at 19,.rw 20 _ a_ (Qf (t:=false) hb),.sum 11 i 1 (i+1) rfl o_]
theorem aQ7{n:Nat}(hi:i<n)(hx:ps[i]?=some p)(hp:bB m p)(hd:aG m d)(hm:100*m+1000<=aA)(hb:decide (OF.aB (dot p.n d)<=0)=false):
  af prog Bs 21 (aF (ag f100 0)) (FV n i) (xZ ps d) 2 ⟨.ret,[(4,.bool false)],xZ ps d,2⟩:=
 az [.lt 9 i n true (aC hi),.df f100 14 0 n i 40 hi k_,.ld f100 16 42 0 (i*40) (.view (bf ps)) (bN p.n) rfl (Lv hx) k_,(aU8 hp.1 hd o_).at 18,(aUW (hp.1.dot hd) o_).at 19,.rw 20 _ b_ (Qf (t:=true) hb)]
theorem Qg(hs:∀ p∈ps,bB m p)(hd:aG m d)(hm:100*m+1000<=aA)(h63:ps.length<9223372036854775807):cg prog 100 [.r ps.length (bf ps),.p (bN d)] (.bool (xY ps d)):=by
 have ax:([aK.r ps.length (bf ps),.p (bN d)].all aK.ok)=true:=by simp only[eY,fO,aK.ok,iM];rw[show(bf ps).all flat=true from dh ps];rfl
 unfold xY;rcases BM (λp=>decide (OF.aB (dot p.n d)<=0)) ps with h|⟨n,x,h1,h2,h3,h4⟩
 ·rw[h];have lo:∀ B:ae,af prog B 21 (.block 0 (ag f100 0)) (FV ps.length 0) (xZ ps d) 2 ⟨.normal,[],xZ ps d,2⟩:=λB=>
   bO (id:=0) (ck ps.length (λi=>FV ps.length i) (λ_=>xZ ps d) (λi k _=>Iff.rfl) (r:=⟨.exit 0,[],xZ ps d,2⟩) (λi hi=>by have hx:ps[i]?=some ps[i]:=aW hi;exact aEO hi hx (hs _ (dK hi)) hd hm (DI h hx) h63) (az [.lt 9 ps.length ps.length false s_]) n_)
  exact dC func100 ax 21 (λw=>[.code 0 _ _ _ _ _ (lo _)])
 ·rw[h4];have ao:=(eB.1 h1).1;have lo:∀ B:ae,af prog B 21 (.block 0 (ag f100 0)) (FV ps.length 0) (xZ ps d) 2 ⟨.ret,[(4,.bool false)],xZ ps d,2⟩:=λB=>
   bO (id:=0) (ck n (λi=>FV ps.length i) (λ_=>xZ ps d) (λi k _=>Iff.rfl) (λi hi=>by
    have mQ:i<ps.length:=by omega
    have hx:ps[i]?=some ps[i]:=aW mQ;exact aEO mQ hx (hs _ (dK mQ)) hd hm (h3 i _ hi hx) h63) (aQ7 ao h1 (hs x (cN h1)) hd hm h2) n_)
  exact dC func100 ax 21 (λw=>[.code 0 _ _ _ _ _ (lo _)])
end
def BN(ps:c_)(d:V3 K):Bool:=ps.all λp=>decide (dot p.n d=0)
def Qh(ps:c_)(i:Nat):V3 K:=match ps[i]? with|some p=>p.n|none=>0
def mV(ps:c_)(i j:Nat):V3 K:=aw (Qh ps i) (Qh ps j)
def zR(ps:c_)(i j:Nat):Bool:=decide (mV ps i j≠0)&&(xY ps (mV ps i j)||xY ps (-mV ps i j))
def oO(ps:c_)(f:Bool)(i:Nat):Nat->Bool
 |0=>f
 |j+1=>if mV ps i j=0 then oO ps f i j else oO ps f i j&&BN ps (mV ps i j)
def mn(ps:c_):Nat->Bool
 |0=>true
 |i+1=>oO ps (mn ps i) i i
def DJ(ps:c_)(i:Nat):Bool:=(List.range i).all λj=>!zR ps i j
def vY(ps:c_):Bool:=(List.range ps.length).all (DJ ps)&&!mn ps ps.length
theorem Ii(b:Nat->Bool)(n:Nat):(List.range n).all b=true\/∃ e,e<n/\b e=false/\(∀ i,i<e->b i=true)/\(List.range n).all b=false:=by
 rcases BM b (List.range n)with h|⟨e,x,h1,h2,h3,h4⟩
 ·exact .inl h
 ·have ao:=(eB.1 h1).1;rw[Ar]at ao;rw[KB ao]at h1;injection h1 with h1;subst h1;exact .inr ⟨e,ao,h2,λi hi=>h3 i i hi (KB o_),h4⟩
theorem Ij{b:Nat->Bool}{n:Nat}(h:(List.range n).all b=true)(hi:i<n):b i=true:=aY.1 h i (kk.2 hi)
section
variable{Bs:ae}{ps:c_}{m:Nat}{d:V3 K}
def FX(n k:Nat)(f:Bool):aM:=[(7,vI k),(0,sl 0 n),(3,.bool f),(6,ptr 1)]
def v7(ps:c_)(d:V3 K):aE:=[(0,.view (bf ps)),(1,.aI (cJ d).cs 42)]
theorem aEP{n:Nat}(hk:k<n)(hx:ps[k]?=some p)(hp:bB m p)(hd:aG m d)(hm:100*m+1000<=aA)(ht:decide (dot p.n d=0)=t)(h63:n<9223372036854775807):
  af prog Bs 61 (aF (ag f51 4)) (FX n k true) (v7 ps d) 2 ⟨.normal,FX n (k+1) t,v7 ps d,2⟩:=by
 have h49:Value.bool (OF.aB (dot p.n d)==0)=.bool t:=by
  by_cases h:dot p.n d=0
  ·rw[aC h]at ht;subst ht;exact xR ((OF.e7 _).2 h)
  ·rw[aO h]at ht;subst ht;exact pk (λe=>h ((OF.e7 _).1 e))
 exact az [.lt 35 k n true (aC hk),.df f51 43 0 n k 40 hk k_,.ld f51 45 42 0 (k*40) (.view (bf ps)) (bN p.n) rfl (Lv hx) k_,(aU8 hp.1 hd o_).at 47,(aUW (hp.1.dot hd) o_).at 48,.rw 49 _ (.bool t) h49,.sum 40 k 1 (k+1) rfl o_]
theorem aEQ{n:Nat}:af prog Bs 61 (aF (ag f51 4)) (FX n k false) (v7 ps d) 2 ⟨.exit 4,[(0,sl 0 n),(3,.bool false),(6,ptr 1)],v7 ps d,2⟩:=by
 by_cases h:k<n
 ·exact az [.lt 35 k n true (aC h)]
 ·exact az [.lt 35 k n false (aO h)]
theorem aER(hs:∀ p∈ps,bB m p)(hd:aG m d)(hm:100*m+1000<=aA)(h63:ps.length<9223372036854775807)(f:Bool):
  af prog Bs 61 (.block 4 (ag f51 4)) (FX ps.length 0 f) (v7 ps d) 2 ⟨.normal,[(0,sl 0 ps.length),(3,.bool (f&&BN ps d)),(6,ptr 1)],v7 ps d,2⟩:=by
 cases f with
 |false=>exact bO (id:=4) (ck 0 (λ_=>FX ps.length 0 false) (λ_=>v7 ps d) (λ_ _ _=>Iff.rfl) (r:=⟨.exit 4,[(0,sl 0 ps.length),(3,.bool false),(6,ptr 1)],v7 ps d,2⟩) (λi hi=>by omega) aEQ n_)
 |true=>
  unfold BN;rcases BM (λp=>decide (dot p.n d=0)) ps with h|⟨n,x,h1,h2,h3,h4⟩
  ·rw[h];exact bO (id:=4) (ck ps.length (λi=>FX ps.length i true) (λ_=>v7 ps d) (λ_ _ _=>Iff.rfl) (r:=⟨.exit 4,[(0,sl 0 ps.length),(3,.bool true),(6,ptr 1)],v7 ps d,2⟩) (λi hi=>by have hx:ps[i]?=some ps[i]:=aW hi;exact aEP hi hx (hs _ (dK hi)) hd hm (DI h hx) h63) (az [.lt 35 ps.length ps.length false s_]) n_)
  ·rw[h4];have ao:=(eB.1 h1).1;exact bO (id:=4) (ck (n+1) (λi=>FX ps.length i (decide (i<=n))) (λ_=>v7 ps d) (λ_ _ _=>Iff.rfl) (r:=⟨.exit 4,[(0,sl 0 ps.length),(3,.bool false),(6,ptr 1)],v7 ps d,2⟩) (λi hi=>by
    have mQ:i<ps.length:=by omega
    have hx:ps[i]?=some ps[i]:=aW mQ;simp only[aC (show i<=n by omega)];refine aEP mQ hx (hs _ (dK mQ)) hd hm ?_ h63;by_cases he:i=n
    ·subst he;rw[hx]at h1;injection h1 with h1;rw[h1,h2];exact(aO o_).symm
    ·have:=h3 i _ o_ hx;rw[this];exact(aC o_).symm) (by
    simp only[aO (show ¬n+1<=n by omega)];exact aEQ) n_)
def x6(ps:c_)(f:Bool)(n i j:Nat):aM:=[(5,vI j),(4,vI i),(0,sl 0 n),(3,.bool (oO ps f i j))]
def nH(ps:c_):aE:=[(0,.view (bf ps))]
theorem Ik(h:ps[i]?=some p):Qh ps i=p.n:=by unfold Qh;rw[h]
noncomputable def Qi{n:Nat}{q:HS K}(hi:i<n)(nK:j<i)(hp:ps[i]?=some p)(hq:ps[j]?=some q)(sp:bB m p)(sq:bB m q)(hm:1000*m+10000<=aA)(ht:decide (aw p.n q.n=0)=t)(more:bH prog Bs 61):bH prog Bs 61:=
 .lt 16 j i true (aC nK)::.df f51 21 0 n i 40 hi k_::.ld f51 23 42 0 (i*40) (.view (bf ps)) (bN p.n) rfl (Lv hp) k_::.df f51 26 0 n j 40 o_ k_::.ld f51 28 42 0 (j*40) (.view (bf ps)) (bN q.n) rfl (Lv hq) k_::
 (aUP sp.1 sq.1 o_).at 29::(ht▸aVI (sp.1.aw sq.1) o_:aD prog 79 [bN (aw p.n q.n)] (.bool t)).at 31::more
theorem aES(hs:∀ p∈ps,bB m p)(hm:1000*m+10000<=aA){f:Bool}(hi:i<ps.length)(nK:j<i)(hb:zR ps i j=false)(h63:ps.length<9223372036854775807):
  af prog Bs 61 (aF (ag f51 2)) (x6 ps f ps.length i j) (nH ps++marks 1 []) 1 ⟨.normal,fm 1 [] (x6 ps f ps.length i (j+1)),nH ps++dj [] [],2⟩:=by
 have hj:j<ps.length:=by omega
 have hp:ps[i]?=some ps[i]:=aW hi;have hq:ps[j]?=some ps[j]:=aW hj;have sp:=hs _ (dK hi);have sq:=hs _ (dK hj);generalize ps[i]=p at *;generalize ps[j]=q at *;have hd:mV ps i j=aw p.n q.n:=by unfold mV;rw[Ik hp,Ik hq]
 have oV:∀ r∈ps,bB (4*m+9) r:=λr hr=>(hs r hr).mono o_;have BO:aG (4*m+9) (aw p.n q.n):=(sp.1.aw sq.1).mono o_;unfold zR at hb;have er:oO ps f i (j+1)=if mV ps i j=0 then oO ps f i j else oO ps f i j&&BN ps (mV ps i j):=rfl
 unfold x6;rw[er];rw[hd]at hb ⊢;by_cases hz:aw p.n q.n=0
 ·rw[au hz];exact az (Qi hi nK hp hq sp sq hm (aC hz) [.sum 18 j 1 (j+1) rfl o_])
 ·rw[al hz];rw[aC hz,kX]at hb;have pG:xY ps (aw p.n q.n)=false:=by revert hb;cases xY ps (aw p.n q.n)<;>simp
  have gM:xY ps (-aw p.n q.n)=false:=by revert hb;cases xY ps (-aw p.n q.n)<;>simp
  have l1:=Qg oV BO o_ h63;have l2:=Qg oV BO.neg o_ h63;rw[pG]at l1;rw[gM]at l2;have c4:=aER (Bs:=Bs) oV BO o_ h63 (oO ps f i j);generalize oO ps f i j=ff at *;generalize (ff&&BN ps (aw p.n q.n))=fg at *;exact az (Qi hi nK hp hq sp sq hm (aO hz) [.code 4 _ _ _ _ _ c4,.cR f51 52 [sl 0 ps.length,bN (aw p.n q.n)] l1 (.w (x:=.view (bf ps)) rfl (dh ps) jk (.p rfl .nil)),(aUL BO o_).at 56,.cR f51 57 [sl 0 ps.length,bN (-aw p.n q.n)] l2 (.w (x:=.view (bf ps)) rfl (dh ps) jk (.p rfl .nil)),.sum 18 j 1 (j+1) rfl o_])
theorem aQ8(hs:∀ p∈ps,bB m p)(hm:1000*m+10000<=aA){f:Bool}(hi:i<ps.length)(nK:j<i)(hb:zR ps i j=true)(h63:ps.length<9223372036854775807):
  af prog Bs 61 (aF (ag f51 2)) (x6 ps f ps.length i j) (nH ps++marks 1 []) 1 ⟨.ret,[(2,.bool false)],[],2⟩:=by
 have hj:j<ps.length:=by omega
 have hp:ps[i]?=some ps[i]:=aW hi;have hq:ps[j]?=some ps[j]:=aW hj;have sp:=hs _ (dK hi);have sq:=hs _ (dK hj);generalize ps[i]=p at *;generalize ps[j]=q at *;have hd:mV ps i j=aw p.n q.n:=by unfold mV;rw[Ik hp,Ik hq]
 have oV:∀ r∈ps,bB (4*m+9) r:=λr hr=>(hs r hr).mono o_;have BO:aG (4*m+9) (aw p.n q.n):=(sp.1.aw sq.1).mono o_;unfold zR at hb;unfold x6;rw[hd]at hb;have hz:aw p.n q.n≠0:=by intro e;rw[aO (λh=>h e)]at hb;cases hb
 rw[aC hz,kX]at hb;have l1:=Qg oV BO o_ h63;have l2:=Qg oV BO.neg o_ h63;have c4:=aER (Bs:=Bs) oV BO o_ h63 (oO ps f i j);generalize oO ps f i j=ff at *;generalize (ff&&BN ps (aw p.n q.n))=fg at *;rcases pG:xY ps (aw p.n q.n)with _|_
 ·rw[pG]at l1 hb;rw[wQ]at hb;rw[hb]at l2;exact az (Qi hi nK hp hq sp sq hm (aO hz) [.code 4 _ _ _ _ _ c4,.cR f51 52 [sl 0 ps.length,bN (aw p.n q.n)] l1 (.w (x:=.view (bf ps)) rfl (dh ps) jk (.p rfl .nil)),(aUL BO o_).at 56,.cR f51 57 [sl 0 ps.length,bN (-aw p.n q.n)] l2 (.w (x:=.view (bf ps)) rfl (dh ps) jk (.p rfl .nil))])
 ·rw[pG]at l1;exact az (Qi hi nK hp hq sp sq hm (aO hz) [.code 4 _ _ _ _ _ c4,.cR f51 52 [sl 0 ps.length,bN (aw p.n q.n)] l1 (.w (x:=.view (bf ps)) rfl (dh ps) jk (.p rfl .nil))])
theorem aET(q:Nat×Obj)(hq:q∈nH ps):fH 1 q.2:=by unfold nH at hq;simp at hq;subst hq;exact GF (aY.1 (dh ps))
theorem aQ9(hs:∀ p∈ps,bB m p)(hm:1000*m+10000<=aA){f:Bool}(hi:i<ps.length)(hb:DJ ps i=true)(h63:ps.length<9223372036854775807):
  af prog Bs 61 (.block 2 (ag f51 2)) (x6 ps f ps.length i 0) (nH ps) 1 ⟨.normal,[(4,vI i),(0,sl 0 ps.length),(3,.bool (oO ps f i i))],nH ps,1⟩:=by
 have:=rT (P:=prog) (B:=Bs) (N:=61) (b:=aF (ag f51 2)) (next:=1) (p:=0) (r:=⟨.exit 2,[(4,vI i),(0,sl 0 ps.length),(3,.bool (oO ps f i i))],nH ps,1⟩) i (x6 ps f ps.length i) (λ_=>nH ps) (λ_=>[]) [] (λ_ _=>rfl)
  (λj _=>⟨aET,λz hz=>by cases hz⟩) k_ k_
  (λj hj=>⟨[],2,k_,aES hs hm hi hj (by have:=Ij hb hj;simpa using this) h63⟩)
  (az [.lt 16 i i false s_]) n_
 exact bO (id:=2) this
theorem aRa(hs:∀ p∈ps,bB m p)(hm:1000*m+10000<=aA){f:Bool}(hi:i<ps.length)(hb:DJ ps i=false)(h63:ps.length<9223372036854775807):
  af prog Bs 61 (.block 2 (ag f51 2)) (x6 ps f ps.length i 0) (nH ps) 1 ⟨.ret,[(2,.bool false)],[],2⟩:=by
 rcases Ii (λj=>!zR ps i j) i with h|⟨e,h1,h2,h3,_⟩
 ·unfold DJ at hb;rw[h]at hb;cases hb
 ·have:=rT (P:=prog) (B:=Bs) (N:=61) (b:=aF (ag f51 2)) (next:=1) (p:=0) (r:=⟨.ret,[(2,.bool false)],[],2⟩) e (x6 ps f ps.length i) (λ_=>nH ps) (λ_=>[]) [] (λ_ _=>rfl)
   (λj _=>⟨aET,λz hz=>by cases hz⟩) k_ k_
   (λj hj=>⟨[],2,k_,aES hs hm hi o_ (by have:=h3 j hj;simpa using this) h63⟩)
   (aQ8 hs hm hi h1 (by simpa using h2) h63) n_
  exact bO (id:=2) this
def x7(ps:c_)(n i:Nat):aM:=[(4,vI i),(0,sl 0 n),(3,.bool (mn ps i))]
theorem aEU(hs:∀ p∈ps,bB m p)(hm:1000*m+10000<=aA)(hi:i<ps.length)(hb:DJ ps i=true)(h63:ps.length<9223372036854775807):
  af prog Bs 61 (aF (ag f51 0)) (x7 ps ps.length i) (nH ps) 1 ⟨.normal,x7 ps ps.length (i+1),nH ps,1⟩:=by
 have lo:=aQ9 (Bs:=Bs) (f:=mn ps i) hs hm hi hb h63;unfold x6 at lo;unfold x7;show af _ _ _ _ _ _ _ ⟨.normal,[(4,vI (i+1)),(0,sl 0 ps.length),(3,.bool (oO ps (mn ps i) i i))],nH ps,1⟩;have e0:oO ps (mn ps i) i 0=mn ps i:=rfl;rw[e0]at lo;generalize oO ps (mn ps i) i i=g at *;generalize mn ps i=f at *;exact az [.lt 11 i ps.length true (aC hi),.code 2 _ _ _ _ _ lo,.sum 13 i 1 (i+1) rfl o_]
theorem aRb(hs:∀ p∈ps,bB m p)(hm:1000*m+10000<=aA)(hi:i<ps.length)(hb:DJ ps i=false)(h63:ps.length<9223372036854775807):
  af prog Bs 61 (aF (ag f51 0)) (x7 ps ps.length i) (nH ps) 1 ⟨.ret,[(2,.bool false)],[],2⟩:=by
 have lo:=aRa (Bs:=Bs) (f:=mn ps i) hs hm hi hb h63;unfold x6 at lo;unfold x7;have e0:oO ps (mn ps i) i 0=mn ps i:=rfl;rw[e0]at lo;generalize mn ps i=f at *;exact az [.lt 11 i ps.length true (aC hi),.code 2 _ _ _ _ _ lo]
theorem aRc(hs:∀ p∈ps,bB m p)(hm:1000*m+10000<=aA)(h63:ps.length<9223372036854775807):cg prog 51 [fF ps] (.bool (vY ps)):=by
 unfold vY;rcases Ii (DJ ps) ps.length with h|⟨e,h1,h2,h3,h4⟩
 ·rw[h,kX];have lo:∀ B:ae,af prog B 61 (.block 0 (ag f51 0)) (x7 ps ps.length 0) (nH ps) 1 ⟨.normal,[(3,.bool (mn ps ps.length))],nH ps,1⟩:=λB=>
   bO (id:=0) (ck ps.length (x7 ps ps.length) (λ_=>nH ps) (λ_ _ _=>Iff.rfl) (r:=⟨.exit 0,[(3,.bool (mn ps ps.length))],nH ps,1⟩) (λi hi=>aEU hs hm hi (Ij h hi) h63) (az [.lt 11 ps.length ps.length false s_]) n_)
  unfold x7 at lo;have e0:mn ps 0=true:=rfl;rw[e0]at lo;generalize mn ps ps.length=g at *;cases g<;>exact dC func51 (DH ps) 61 (λw=>[.code 0 _ _ _ _ _ (lo _)])
 ·rw[h4,yG];have lo:∀ B:ae,af prog B 61 (.block 0 (ag f51 0)) (x7 ps ps.length 0) (nH ps) 1 ⟨.ret,[(2,.bool false)],[],2⟩:=λB=>
   bO (id:=0) (ck e (x7 ps ps.length) (λ_=>nH ps) (λ_ _ _=>Iff.rfl) (r:=⟨.ret,[(2,.bool false)],[],2⟩) (λi hi=>aEU hs hm o_ (h3 i hi) h63) (aRb hs hm h1 h2 h63) n_)
  unfold x7 at lo;have e0:mn ps 0=true:=rfl;rw[e0]at lo;exact dC func51 (DH ps) 61 (λw=>[.code 0 _ _ _ _ _ (lo _)])
end
def aVb:e_->V3 K->List (V3 K)
 |[],v=>[v]
 |p::l,v=>if dW p v=0 then p::l else if 0<dW p v then v::p::l else p::aVb l v
theorem Qj(v:V3 K):∀ vs:e_,(∃(i:Nat) (p:V3 K),vs[i]?=some p/\dW p v=0/\(∀(j:Nat) (q:V3 K),j<i->vs[j]?=some q->dW q v<0)/\aVb vs v=vs)\/
  ∃ i:Nat,i<=vs.length/\(∀(j:Nat) (q:V3 K),j<i->vs[j]?=some q->dW q v<0)/\(i=vs.length\/∃ p,vs[i]?=some p/\0<dW p v)/\aVb vs v=vs.take i++[v]++vs.drop i
 |[]=>.inr ⟨0,bh _,λj q hj=>by omega,.inl rfl,rfl⟩
 |p::l=>by
  unfold aVb;by_cases h0:dW p v=0
  ·rw[au h0];exact .inl ⟨0,p,rfl,h0,λj q hj=>by omega,rfl⟩
  ·rw[al h0];by_cases h1:0<dW p v
   ·rw[au h1];exact .inr ⟨0,kB _,λj q hj=>by omega,.inr ⟨p,rfl,h1⟩,rfl⟩
   ·rw[al h1];have du:∀{i:Nat} (H:∀(j:Nat) (q:V3 K),j<i->l[j]?=some q->dW q v<0) (j:Nat) (q:V3 K),j<i+1->(p::l)[j]?=some q->dW q v<0:=λ{i} H j q hj hq=>by
     cases j with
     |zero=>simp at hq;subst hq;omega
     |succ j=>exact H j q o_ (by simpa using hq)
    rcases Qj v l with ⟨i,q,q1,q2,q3,q4⟩|⟨i,q1,q2,q3,q4⟩
    ·exact .inl ⟨i+1,q,by simpa using q1,q2,du q3,by rw[q4]⟩
    ·refine .inr ⟨i+1,by simpa using q1,du q2,?_,by rw[q4];rfl⟩;rcases q3 with h|⟨q,h,h2⟩
     ·exact .inl (by rw[h];rfl)
     ·exact .inr ⟨q,by simpa using h,h2⟩
theorem aRd{a b:Int}(h:decide (a=b)=t):Value.bool (a==b)=.bool t:=by
 by_cases e:a=b
 ·rw[aC e]at h;subst h;exact xR e
 ·rw[aO e]at h;subst h;exact pk e
theorem aRe{vs:e_}{p:V3 K}(h:vs[i]?=some p):dE prog 42 (aX vs) (i*30)=some (bN p):=sn (by rw[u9,h];rfl)
theorem aEV(vs:e_)(i:Nat):(aX vs).drop (i*30)=aX (vs.drop i):=by unfold aX;rw[UF gp,List.map_drop]
theorem Qk(vs:e_)(i:Nat):(aX vs).take (i*30)=aX (vs.take i):=by unfold aX;rw[UG gp,Cd]
section
variable{Bs:ae}{vs:e_}{v:V3 K}{m:Nat}
def x8(n i:Nat):aM:=[(5,vI i),(0,sl 0 n),(3,ptr 1)]
def tL(vs:e_)(v:V3 K):aE:=[(0,.view (aX vs)),(1,.aI (cJ v).cs 42)]
noncomputable def Wn{n:Nat}{p:V3 K}(hi:i<n)(hp:vs[i]?=some p)(sp:aG m p)(sv:aG m v)(hm:8*m+100<=aA)(ht:decide (dW p v=0)=t)(more:bH prog Bs 36):bH prog Bs 36:=
 .lt 10 i n true (aC hi)::.df f102 13 0 n i 30 hi k_::.ld f102 14 42 0 (i*30) (.view (aX vs)) (bN p) rfl (aRe hp) k_::(aVG sp sv o_).at 16::.rw 18 _ (.bool t) (aRd ht)::more
theorem aEW{n:Nat}{p:V3 K}(hi:i<n)(hp:vs[i]?=some p)(sp:aG m p)(sv:aG m v)(hm:8*m+100<=aA)(hb:dW p v<0)(h63:n<1000):
  af prog Bs 36 (aF (ag f102 0)) (x8 n i) (tL vs v) 2 ⟨.normal,x8 n (i+1),tL vs v,2⟩:=
 az (Wn hi hp sp sv hm (aO o_) [.rw 21 _ a_ (Qf (z:=dW p v) (t:=false) (aC o_)),.sum 23 i 1 (i+1) rfl o_])
theorem aRf{n:Nat}{p:V3 K}(hi:i<n)(hp:vs[i]?=some p)(sp:aG m p)(sv:aG m v)(hm:8*m+100<=aA)(hb:dW p v=0):
  af prog Bs 36 (aF (ag f102 0)) (x8 n i) (tL vs v) 2 ⟨.ret,[(4,sl 0 n)],tL vs v,2⟩:=
 az (Wn hi hp sp sv hm (aC hb) [])
theorem aRg{n:Nat}{p:V3 K}(hi:i<n)(hp:vs[i]?=some p)(sp:aG m p)(sv:aG m v)(hm:8*m+100<=aA)(hb:0<dW p v):
  af prog Bs 36 (aF (ag f102 0)) (x8 n i) (tL vs v) 2 ⟨.exit 0,x8 n i,tL vs v,2⟩:=
 az (Wn hi hp sp sv hm (aO o_) [.rw 21 _ b_ (Qf (z:=dW p v) (t:=true) (aO o_))])
theorem aRh(hs:∀ p∈vs,aG m p)(sv:aG m v)(hm:8*m+100<=aA)(h63:vs.length<1000)(hi:i<=vs.length)(h1:∀(j:Nat) (q:V3 K),j<i->vs[j]?=some q->dW q v<0)(h2:i=vs.length\/∃ p,vs[i]?=some p/\0<dW p v):
  af prog Bs 36 (.block 0 (ag f102 0)) (x8 vs.length 0) (tL vs v) 2 ⟨.normal,x8 vs.length i,tL vs v,2⟩:=
 bO (id:=0) (ck i (x8 vs.length) (λ_=>tL vs v) (λ_ _ _=>Iff.rfl) (r:=⟨.exit 0,x8 vs.length i,tL vs v,2⟩) (λj hj=>by
  have hx:vs[j]?=some vs[j]:=aW o_;exact aEW o_ hx (hs _ (dK _)) sv hm (h1 j _ hj hx) h63) (by
  rcases h2 with rfl|⟨p,h2,h3⟩
  ·exact az [.lt 10 vs.length vs.length false s_]
  ·exact aRg (eB.1 h2).1 h2 (hs p (cN h2)) sv hm h3) n_)
theorem aRi(hs:∀ p∈vs,aG m p)(sv:aG m v)(hm:8*m+100<=aA)(h63:vs.length<1000){p:V3 K}(hp:vs[i]?=some p)(h0:dW p v=0)(h1:∀(j:Nat) (q:V3 K),j<i->vs[j]?=some q->dW q v<0)(fZ:c8 w va vs.length (aX vs)):
  Calls prog 102 #[va,bN v] w λe w'=>e=.returned va/\Below w.heap.size w w':=by
 have hl:∀ s∈[cA.row va vs.length (aX vs),cA.plain (bN v)],s.OK w:=by
  intro s hs;simp at hs;rcases hs with rfl|rfl
  ·exact⟨fZ,aY.1 (eD _)⟩
  ·rfl
 have ao:=(eB.1 hp).1;have lo:af prog (ae.at w) 36 (.block 0 (ag f102 0)) (x8 vs.length 0) (tL vs v) 2 ⟨.ret,[(4,sl 0 vs.length)],tL vs v,2⟩:=
  bO (id:=0) (ck i (x8 vs.length) (λ_=>tL vs v) (λ_ _ _=>Iff.rfl) (r:=⟨.ret,[(4,sl 0 vs.length)],tL vs v,2⟩) (λj hj=>by have hx:vs[j]?=some vs[j]:=aW o_;exact aEW o_ hx (hs _ (dK _)) sv hm (h1 j _ hj hx) h63) (aRf ao hp (hs p (cN hp)) sv hm h0) n_)
 refine lC (Q:=λe w'=>e=.returned va/\Below w.heap.size w w') mixed func102 [cA.row va vs.length (aX vs),cA.plain (bN v)] hl 100 (N:=36) k_
  (rs:=[(.code 0 _ _ _ _ _ lo:aQ prog (ae.at w) 36)]) (v:=sl 0 vs.length) (ms:=[]) k_ λav bX v' w' jW bo _ dz=>⟨?_,bo.base⟩
 cases dz with
 |cons h5 _=>rw[I6 jW h5];rfl
end
section
variable{vs:e_}{v:V3 K}{m:Nat}
noncomputable def Wo(Bs:ae)(vs:e_)(v:V3 K)(i:Nat)(hi:i<=vs.length)(h63:vs.length<1000)(more:bH prog Bs 36):bH prog Bs 36:=
 .KO f102 24 2 42 30 zV.v k_::.upto f102 27 0 vs.length i 30 hi k_::
 .P7 f102 28 3 2 0 i i 42 30 360 0 0 [] 0 (.view (aX vs)) (aX (vs.take i)) (jL i) rfl (by
   show((aX vs).drop 0 |>.take (i*30)).length=i*30;rw[lW,Qk,tC,jn,nh hi]) rfl (by
   show[]++(((aX vs).drop 0).take (i*30))=_;rw[lW,Qk];rfl) (KF vs) d_ (by simp[maxLen];omega) o_ k_::
 .bs f102 30 4 1 42 30 [0] zV.v [bN v] (aX [v]).toArray (.row (aX [v]) 42 30) rfl (aY.1 k_) (aY.1 (eD _)) k_ k_ d_ d_ k_::
 .pP f102 31 5 3 i 1 (i+1) 42 30 360 (aX (vs.take i)) 4 (.row (aX [v]) 42 30) (aX (vs.take i++[v])) rfl rfl (tC _) (by rw[tC,jn,nh hi]) (UT _ _) (KF _) d_ (by simp[maxLen];omega) o_ k_::more
theorem aRj(hs:∀ p∈vs,aG m p)(sv:aG m v)(hm:8*m+100<=aA)(h63:vs.length<1000)(hi:i<=vs.length)(h1:∀(j:Nat) (q:V3 K),j<i->vs[j]?=some q->dW q v<0)(h2:i=vs.length\/∃ p,vs[i]?=some p/\0<dW p v):
  kL prog 102 [uH vs,.p (bN v)] 42 30 (vs.length+1) (aX (vs.take i++[v]++vs.drop i)):=by
 have ax:([uH vs,aK.p (bN v)].all aK.ok)=true:=by simp only[eY,fO,iM];rw[show(uH vs).ok=true from eD vs];rfl
 have lo:=λBs=>aRh (Bs:=Bs) hs sv hm h63 hi h1 h2;have hlen:(aX (vs.take i++[v]++vs.drop i)).length=(vs.length+1)*30:=by
  rw[tC];congr 1
  simp[jn];omega
 have gH:(aX (vs.take i++[v])).length=(i+1)*30:=by
  rw[tC];congr 1
  simp[jn];omega
 rcases eU i vs.length with ao|fG
 ·refine yY (k:=6) mixed func102 ax 200 (N:=36) k_ (λw=>.code 0 _ _ _ _ _ (lo _)::Wo _ vs v i hi h63 [.behind f102 34 0 vs.length i (vs.length-i) 30 o_ o_ k_,.P7 f102 35 6 5 (i+1) (vs.length-i) (vs.length+1) 42 30 360 (i*30) i (aX (vs.take i++[v])) 0 (.view (aX vs)) (aX (vs.take i++[v]++vs.drop i)) o_ rfl (by
    show(((aX vs).drop (i*30)).take ((vs.length-i)*30)).length=(vs.length-i)*30;rw[aEV,Qk,tC,jn,u7,Nat.min_self]) gH (by
    show _++(((aX vs).drop (i*30)).take ((vs.length-i)*30))=_;rw[aEV,Qk,show(vs.drop i).take (vs.length-i)=vs.drop i from j0 (by rw[u7];exact bh _),UT]) (KF vs) d_ (by simp[maxLen];omega) o_ k_]) (λw=>k_) (eD _) hlen
 ·have cx:i=vs.length:=by omega
  subst cx;have e:vs.take vs.length++[v]++vs.drop vs.length=vs.take vs.length++[v]:=by rw[List.drop_length,gY]
  rw[e]at hlen ⊢;by_cases h0:vs.length=0
  ·refine yY (k:=6) mixed func102 ax 200 (N:=36) k_ (λw=>.code 0 _ _ _ _ _ (lo _)::Wo _ vs v vs.length hi h63 [.rw 33 (vI vs.length) (vI 0) (by rw[h0]),.aQH f102 34 0 vs.length 30 k_,.P7 f102 35 6 5 (vs.length+1) vs.length (vs.length+1) 42 30 360 0 0 (aX (vs.take vs.length++[v])) 0 (.view (aX vs)) (aX (vs.take vs.length++[v])) o_ rfl (by
     show(((aX vs).drop 0).take (vs.length*30)).length=vs.length*30;rw[h0];rfl) gH (by
     show _++(((aX vs).drop 0).take (vs.length*30))=_;rw[show((aX vs).drop 0).take (vs.length*30)=[]by rw[h0,lB,Sb]];exact gY _) (KF vs) d_ (by simp[maxLen];omega) o_ k_]) (λw=>k_) (eD _) hlen
  ·refine yY (k:=7) mixed func102 ax 200 (N:=36) k_ (λw=>.code 0 _ _ _ _ _ (lo _)::Wo _ vs v vs.length hi h63 [.aQJ f102 34 0 0 vs.length 0 30 6 (.view (aX vs)) rfl k_,.pP f102 35 7 5 (vs.length+1) 0 (vs.length+1) 42 30 360 (aX (vs.take vs.length++[v])) 6 (.view []) (aX (vs.take vs.length++[v])) rfl rfl rfl gH (gY _) n_ d_ (by simp[maxLen];omega) o_ k_]) (λw=>k_) (eD _) hlen
end
def dZ(ps:c_)(i:Nat):HS K:=match ps[i]? with|some p=>p|none=>⟨0,0⟩
theorem pv(h:ps[i]?=some p):dZ ps i=p:=by unfold dZ;rw[h]
def Il(i j k:Nat)(x:V3 K)(l:Nat)(p:HS K):Bool:=decide (l=i)||(decide (l=j)||(decide (l=k)||decide (OF.aB (dot p.n x-p.d)<=0)))
def zT(ps:c_)(i j k:Nat)(x:V3 K):Bool:=(List.range ps.length).all λl=>Il i j k x l (dZ ps l)
def tO(ps:c_)(acc:e_)(i j k:Nat):e_:=
 if cI (dZ ps i).n (dZ ps j).n (dZ ps k).n=0 then acc else if zT ps i j k (kQ (dZ ps i) (dZ ps j) (dZ ps k))then aVb acc (kQ (dZ ps i) (dZ ps j) (dZ ps k))else acc
theorem aRk{vs:e_}{v:V3 K}(hs:∀ p∈vs,aG m p)(sv:aG m v)(hm:8*m+100<=aA)(h63:vs.length<1000){p:V3 K}(hp:vs[i]?=some p)(h0:dW p v=0)(h1:∀(j:Nat) (q:V3 K),j<i->vs[j]?=some q->dW q v<0)
  {o:Oper} {y:m_} (ho:di o.op=some y) (k:Nat):cz prog Bs o [.func (.func 102) #[] #[],sl k vs.length,bN v] [(k,some (.row (aX vs) 42 30))] (sl k vs.length) []:=by
 refine jP (fi:=[]) (ca:=[]) ho k_ λι c w bo hn args' aU=>?_;rw[jy,gY]at aU;obtain⟨va,vb,rfl,hv,iu⟩:=iY aU;rw[iu.fh rfl];have hk:c k=some _:=hn _ (aL ..);have hr:=ox (len:=vs.length*30) bo hk rfl (aY.1 (eD vs)) (λh=>by rw[h]) hv;have e:(((Obj.row (aX vs) 42 30).cells.drop 0).take (vs.length*30))=aX vs:=by show((aX vs).drop 0).take (vs.length*30)=_;rw[lW,j0 (by rw[tC];exact bh _)]
 rw[e]at hr;refine(aRi hs sv hm h63 hp h0 h1 hr).mono ?_
 rintro e w' ⟨rfl,hb⟩
 exact⟨ι,_,rfl,Map.le.refl _,hv,bo.call hb⟩
section
variable{Bs:ae}{ps:c_}{m:Nat}
def Im(n i j k l:Nat)(f:Bool):aM:=[(10,vI l),(9,.bool f),(0,sl 0 n),(4,vI i),(5,vI j),(6,vI k),(7,ptr 4)]
def zU(ps:c_)(x:V3 K):aE:=[(0,.view (bf ps)),(4,.aI (cJ x).cs 42)]
theorem aEX{l:Nat}{x:V3 K}(hl:l<ps.length)(hp:ps[l]?=some p)(sp:bB m p)(sx:aG m x)(pn:p.n≠0)(hm:100*m+1000<=aA)(ht:Il i j k x l p=t)(h63:ps.length<1000):
  af prog Bs 81 (aF (ag f52 6)) (Im ps.length i j k l true) (zU ps x) 5 ⟨.normal,Im ps.length i j k (l+1) t,zU ps x,5⟩:=by
 unfold Il at ht;have sd:=aUT sp sx o_ pn;by_cases h1:l=i
 ·rw[aC h1,Gj]at ht;subst ht;exact az [.lt 48 l ps.length true (aC hl),.gm 56 l i true (aC h1),.sum 53 l 1 (l+1) rfl o_]
 rw[aO h1,wQ]at ht;by_cases h2:l=j
 ·rw[aC h2,Gj]at ht;subst ht;exact az [.lt 48 l ps.length true (aC hl),.gm 56 l i false (aO h1),.gm 60 l j true (aC h2),.sum 53 l 1 (l+1) rfl o_]
 rw[aO h2,wQ]at ht;by_cases h3:l=k
 ·rw[aC h3,Gj]at ht;subst ht;exact az [.lt 48 l ps.length true (aC hl),.gm 56 l i false (aO h1),.gm 60 l j false (aO h2),.gm 65 l k true (aC h3),.sum 53 l 1 (l+1) rfl o_]
 rw[aO h3,wQ]at ht;exact az [.lt 48 l ps.length true (aC hl),.gm 56 l i false (aO h1),.gm 60 l j false (aO h2),.gm 65 l k false (aO h3),.df f52 70 0 ps.length l 40 hl k_,.ld f52 71 66 0 (l*40) (.view (bf ps)) (dp p) rfl (Qe hp) k_,sd.at 73,.rw 74 (.bool (decide (OF.aB (dot p.n x-p.d)<=0))) (.bool t) (by rw[ht]),.sum 53 l 1 (l+1) rfl o_]
theorem aRl{l:Nat}{x:V3 K}:af prog Bs 81 (aF (ag f52 6)) (Im ps.length i j k l false) (zU ps x) 5 ⟨.exit 6,[(9,.bool false)],zU ps x,5⟩:=by
 by_cases h:l<ps.length
 ·exact az [.lt 48 l ps.length true (aC h)]
 ·exact az [.lt 48 l ps.length false (aO h)]
theorem aRm{x:V3 K}(hs:∀ p∈ps,bB m p/\p.n≠0)(sx:aG m x)(hm:100*m+1000<=aA)(h63:ps.length<1000):
  af prog Bs 81 (.block 6 (ag f52 6)) (Im ps.length i j k 0 true) (zU ps x) 5 ⟨.normal,[(9,.bool (zT ps i j k x))],zU ps x,5⟩:=by
 unfold zT;rcases Ii (λl=>Il i j k x l (dZ ps l)) ps.length with h|⟨n,hn,h2,h3,h4⟩
 ·rw[h];exact bO (id:=6) (ck ps.length (λl=>Im ps.length i j k l true) (λ_=>zU ps x) (λ_ _ _=>Iff.rfl) (r:=⟨.exit 6,[(9,.bool true)],zU ps x,5⟩) (λl hl=>by have hx:ps[l]?=some ps[l]:=aW hl;have:=Ij h hl;rw[pv hx]at this;exact aEX hl hx (hs _ (dK hl)).1 sx (hs _ (dK hl)).2 hm this h63) (az [.lt 48 ps.length ps.length false s_]) n_)
 ·rw[h4];exact bO (id:=6) (ck (n+1) (λl=>Im ps.length i j k l (decide (l<=n))) (λ_=>zU ps x) (λ_ _ _=>Iff.rfl) (r:=⟨.exit 6,[(9,.bool false)],zU ps x,5⟩) (λl hl=>by
   have mQ:l<ps.length:=by omega
   have hx:ps[l]?=some ps[l]:=aW mQ;simp only[aC (show l<=n by omega)];refine aEX mQ hx (hs _ (dK mQ)).1 sx (hs _ (dK mQ)).2 hm ?_ h63;by_cases he:l=n
   ·subst he;rw[pv hx]at h2;rw[h2];exact(aO o_).symm
   ·have:=h3 l o_;rw[pv hx]at this;rw[this];exact(aC o_).symm) (by
   simp only[aO (show ¬n+1<=n by omega)];exact aRl) n_)
def Lw(n i j k L:Nat):aM:=[(6,vI k),(5,vI j),(4,vI i),(0,sl 0 n),(3,sl 3 L)]
def oc(ps:c_):aE:=[(0,.view (bf ps))]
def od(acc:e_):List Obj:=[.row (aX acc) 42 30]
noncomputable def Ql{q r:HS K}(hi:i<ps.length)(hj:j<i)(hk:k<j)(hp:ps[i]?=some p)(hq:ps[j]?=some q)(hr:ps[k]?=some r)(sp:bB m p)(sq:bB m q)(sr:bB m r)(pn:p.n≠0)(qn:q.n≠0)(rn:r.n≠0)(hm:200*m+1000<=aA)
  (hu:(if cI p.n q.n r.n=0 then Value.tuple #[zV.v,.int .i64 11]else .tuple #[bN (kQ p q r),.int .i64 0])=u) (more:bH prog Bs 81):bH prog Bs 81:=
 .lt 24 k j true (aC hk)::.df f52 30 0 ps.length i 40 hi k_::.ld f52 31 66 0 (i*40) (.view (bf ps)) (dp p) rfl (Qe hp) k_::.df f52 34 0 ps.length j 40 o_ k_::.ld f52 35 66 0 (j*40) (.view (bf ps)) (dp q) rfl (Qe hq) k_::
 .df f52 38 0 ps.length k 40 o_ k_::.ld f52 39 66 0 (k*40) (.view (bf ps)) (dp r) rfl (Qe hr) k_::(hu▸aPv sp sq sr hm pn qn rn:aD prog 101 [dp p,dp q,dp r] u).at 40::more
theorem aRn{M:Nat}(hs:∀ p∈ps,bB m p/\p.n≠0)(hm:200*m+1000<=aA)(hM:120*m+365<=M)(zW:100*M+1000<=aA)(ha:∀ v∈acc,aG M v)(hL:acc.length<1000)(hi:i<ps.length)(hj:j<i)(hk:k<j)(h63:ps.length<1000):
  ∃ σ fY,(∀ Bz:e_,vp (oc ps++dj [some 2] (od Bz)) 3 σ (Lw ps.length i j (k+1) (tO ps acc i j k).length) (oc ps) (od (tO ps acc i j k))=true)/\
   af prog Bs 81 (aF (ag f52 4)) (Lw ps.length i j k acc.length) (oc ps++marks 3 (od acc)) 4 ⟨.normal,fm 3 σ (Lw ps.length i j (k+1) (tO ps acc i j k).length),oc ps++dj σ (od (tO ps acc i j k)),fY⟩:=by
 have hp:ps[i]?=some ps[i]:=aW hi;have hq:ps[j]?=some ps[j]:=aW o_;have hr:ps[k]?=some ps[k]:=aW o_;obtain⟨sp,pn⟩:=hs _ (dK hi);obtain⟨sq,qn⟩:=hs _ (dK (show j<ps.length by omega));obtain⟨sr,rn⟩:=hs _ (dK (show k<ps.length by omega));unfold tO;rw[pv hp,pv hq,pv hr];generalize ps[i]=p at *;generalize ps[j]=q at *;generalize ps[k]=r at *;by_cases hd:cI p.n q.n r.n=0
 ·rw[au hd];refine⟨[some 3],5,λBz=>k_,?_⟩;exact fE mixed 200 (Ql hi hj hk hp hq hr sp sq sr pn qn rn hm (au hd) [.sum 26 k 1 (k+1) rfl o_]) k_
 ·rw[al hd];have sx:aG M (kQ p q r):=(aG.kQ sp sq sr hd).mono hM;have mM:m<=M:=by clear hm zW;omega
  have oV:∀ p∈ps,bB M p/\p.n≠0:=λt ht=>⟨(hs t ht).1.mono mM,(hs t ht).2⟩;have lo:=aRm (Bs:=Bs) (i:=i) (j:=j) (k:=k) oV sx zW h63;generalize kQ p q r=x at *;by_cases hb:zT ps i j k x=true
  ·rw[au hb];rw[hb]at lo;rcases Qj x acc with ⟨t,y,h1,h2,h3,h4⟩|⟨t,h1,h2,h3,h4⟩
   ·rw[h4];refine⟨[some 3],5,λBz=>k_,?_⟩;exact fE mixed 200 (Ql hi hj hk hp hq hr sp sq sr pn qn rn hm (al hd) [.code 6 _ _ _ _ _ lo,.step 79 (ay f52 79) [.func (.func 102) #[] #[],sl 3 acc.length,bN x] [(3,some (.row (aX acc) 42 30))] (sl 3 acc.length) [] (aRk ha sx (by clear hm;omega) hL h1 h2 h3 (y:=.func 102) k_ 3),.sum 26 k 1 (k+1) rfl o_]) k_
   ·have hlen:(aVb acc x).length=acc.length+1:=by rw[h4];simp only[jM,jn,u7,KA];omega
    have hc:=aRj ha sx (by clear hm;omega) hL h1 h2 h3;rw[<-h4]at hc;rw[hlen];generalize aVb acc x=aEY at *;refine⟨[some 5],6,λBz=>k_,?_⟩;exact fE mixed 200 (Ql hi hj hk hp hq hr sp sq sr pn qn rn hm (al hd) [.code 6 _ _ _ _ _ lo,.step 79 (ay f52 79) [.func (.func 102) #[] #[],sl 3 acc.length,bN x] [(5,none),(3,some (.row (aX acc) 42 30))] (sl 5 (acc.length+1)) [(5,.row (aX aEY) 42 30)]
      (r8 hc (.w (x:=.row (aX acc) 42 30) rfl (eD acc) xz (.p k_ .nil)) (x:=.func 102) k_ k_ (eD aEY) 5),
     .sum 26 k 1 (k+1) rfl o_]) k_
  ·have kD:zT ps i j k x=false:=by cases h:zT ps i j k x<;>first|rfl|exact absurd h hb
   rw[al hb];rw[kD]at lo;refine⟨[some 3],5,λBz=>k_,?_⟩;exact fE mixed 200 (Ql hi hj hk hp hq hr sp sq sr pn qn rn hm (al hd) [.code 6 _ _ _ _ _ lo,.sum 26 k 1 (k+1) rfl o_]) k_
end
def oP(ps:c_)(acc:e_)(i j:Nat):Nat->List (V3 K)
 |0=>acc
 |k+1=>tO ps (oP ps acc i j k) i j k
def nI(ps:c_)(acc:e_)(i:Nat):Nat->List (V3 K)
 |0=>acc
 |j+1=>oP ps (nI ps acc i j) i j j
def ry(ps:c_):Nat->List (V3 K)
 |0=>[]
 |i+1=>nI ps (ry ps i) i i
def fe(ps:c_):e_:=ry ps ps.length
theorem aRo{v x:V3 K}:∀{vs:e_},x∈aVb vs v->x∈vs\/x=v:=λ{vs} h=>by
 rcases Qj v vs with ⟨_,_,_,_,_,h4⟩|⟨t,_,_,_,h4⟩
 ·rw[h4]at h;exact .inl h
 ·rw[h4]at h;simp only[eA,xu]at h;rcases h with (h|h)|h
  ·exact .inl (Fo h)
  ·exact .inr h
  ·exact .inl (V7 h)
theorem aRp(v:V3 K)(vs:e_):(aVb vs v).length<=vs.length+1:=by
 rcases Qj v vs with ⟨_,_,_,_,_,h4⟩|⟨t,_,_,_,h4⟩
 ·rw[h4];omega
 ·rw[h4];simp only[jM,jn,u7,KA];omega
theorem aRq(ps:c_)(acc:e_)(i j k:Nat):(tO ps acc i j k).length<=acc.length+1:=by
 unfold tO;by_cases h:cI (dZ ps i).n (dZ ps j).n (dZ ps k).n=0
 ·rw[au h];omega
 ·rw[al h];split
  ·exact aRp _ _
  ·omega
theorem Wp(hs:∀ p∈ps,bB m p/\p.n≠0)(hi:i<ps.length):bB m (dZ ps i):=by rw[pv (aW hi)];exact(hs _ (dK hi)).1
theorem aRr{M:Nat}(hs:∀ p∈ps,bB m p/\p.n≠0)(hM:120*m+365<=M)(ha:∀ v∈acc,aG M v)(hi:i<ps.length)(hj:j<ps.length)(hk:k<ps.length):∀ v∈tO ps acc i j k,aG M v:=by
 unfold tO;by_cases h:cI (dZ ps i).n (dZ ps j).n (dZ ps k).n=0
 ·rw[au h];exact ha
 ·rw[al h];split
  ·intro v hv;rcases aRo hv with hv|hv
   ·exact ha v hv
   ·rw[hv];exact(aG.kQ (Wp hs hi) (Wp hs hj) (Wp hs hk) h).mono hM
  ·exact ha
section
variable{ps:c_}{m M:Nat}
theorem Wq(hs:∀ p∈ps,bB m p/\p.n≠0)(hM:120*m+365<=M){acc:e_}(ha:∀ v∈acc,aG M v){i j:Nat}(hi:i<ps.length)(hj:j<i):∀ k,k<=j->(∀ v∈oP ps acc i j k,aG M v)/\(oP ps acc i j k).length<=acc.length+k
 |0,_=>⟨ha,bh _⟩
 |k+1,h=>by obtain⟨h1,h2⟩:=Wq hs hM ha hi hj k o_;have:=aRq ps (oP ps acc i j k) i j k;exact⟨aRr hs hM h1 hi o_ o_,by unfold oP;omega⟩
theorem Wr(hs:∀ p∈ps,bB m p/\p.n≠0)(hM:120*m+365<=M)(h9:ps.length<=9){acc:e_}(ha:∀ v∈acc,aG M v){i:Nat}(hi:i<ps.length):∀ j,j<=i->(∀ v∈nI ps acc i j,aG M v)/\(nI ps acc i j).length<=acc.length+9*j
 |0,_=>⟨ha,bh _⟩
 |j+1,h=>by obtain⟨h1,h2⟩:=Wr hs hM h9 ha hi j o_;obtain⟨h3,h4⟩:=Wq hs hM h1 hi (show j<i by omega) j (bh _);exact⟨h3,by unfold nI;omega⟩
theorem Ws(hs:∀ p∈ps,bB m p/\p.n≠0)(hM:120*m+365<=M)(h9:ps.length<=9):∀ i,i<=ps.length->(∀ v∈ry ps i,aG M v)/\(ry ps i).length<=81*i
 |0,_=>⟨λv hv=>(by cases hv),bh _⟩
 |i+1,h=>by obtain⟨h1,h2⟩:=Ws hs hM h9 i o_;obtain⟨h3,h4⟩:=Wr hs hM h9 h1 (show i<ps.length by omega) i (bh _);exact⟨h3,by unfold ry;omega⟩
theorem Wt{m:Nat}:∀ x∈oc ps,fH m x.2:=λx hx=>by simp only[oc,b9,fv,fA]at hx;subst hx;exact λv hv=>iF (aY.1 (dh ps) v hv)
theorem Wu{m:Nat}:∀ x∈od acc,fH m x:=λx hx=>by simp only[od,b9,fv,fA]at hx;subst hx;exact λv hv=>iF (aY.1 (eD acc) v hv)
variable{Bs:ae}
theorem aRs(hs:∀ p∈ps,bB m p/\p.n≠0)(hm:200*m+1000<=aA)(hM:120*m+365<=M)(zW:100*M+1000<=aA)(ha:∀ v∈acc,aG M v)(hi:i<ps.length)(hj:j<i)(h9:ps.length<=9)(hL:acc.length+j<1000):
  af prog Bs 81 (.block 4 (ag f52 4)) (fm 3 [some 2] (Lw ps.length i j 0 acc.length)) (oc ps++dj [some 2] (od acc)) 3 ⟨.normal,[(3,sl 3 (oP ps acc i j j).length)],oc ps++marks 3 (od (oP ps acc i j j)),4⟩:=by
 have:=rT (P:=prog) (B:=Bs) (N:=81) (b:=aF (ag f52 4)) (next:=3) (p:=1) (r:=⟨.exit 4,[(3,sl 3 (oP ps acc i j j).length)],oc ps++marks 3 (od (oP ps acc i j j)),4⟩) j
  (λk=>Lw ps.length i j k (oP ps acc i j k).length) (λ_=>oc ps) (λk=>od (oP ps acc i j k)) [some 2] (λ_ _=>rfl) (λ_ _=>⟨Wt,Wu⟩) k_ k_
  (λk hk=>by obtain⟨h1,h2⟩:=Wq hs hM ha hi hj k o_;obtain⟨σ,fY,e1,e2⟩:=aRn (Bs:=Bs) hs hm hM zW h1 o_ hi hj hk o_;exact⟨σ,fY,e1 _,e2⟩)
  (by generalize oP ps acc i j j=a;exact az [.lt 24 j j false s_]) n_
 exact bO (id:=4) this
def Wv(n i j L:Nat):aM:=[(5,vI j),(4,vI i),(0,sl 0 n),(3,sl 2 L)]
theorem aRt(hs:∀ p∈ps,bB m p/\p.n≠0)(hm:200*m+1000<=aA)(hM:120*m+365<=M)(zW:100*M+1000<=aA)(ha:∀ v∈acc,aG M v)(hi:i<ps.length)(h9:ps.length<=9)(hL:acc.length+9*i<1000):
  af prog Bs 81 (.block 2 (ag f52 2)) (fm 2 [some 1] (Wv ps.length i 0 acc.length)) (oc ps++dj [some 1] (od acc)) 2 ⟨.normal,[(3,sl 2 (nI ps acc i i).length)],oc ps++marks 2 (od (nI ps acc i i)),3⟩:=by
 have:=rT (P:=prog) (B:=Bs) (N:=81) (b:=aF (ag f52 2)) (next:=2) (p:=1) (r:=⟨.exit 2,[(3,sl 2 (nI ps acc i i).length)],oc ps++marks 2 (od (nI ps acc i i)),3⟩) i
  (λj=>Wv ps.length i j (nI ps acc i j).length) (λ_=>oc ps) (λj=>od (nI ps acc i j)) [some 1] (λ_ _=>rfl) (λ_ _=>⟨Wt,Wu⟩) k_ k_
  (λj hj=>by obtain⟨h1,h2⟩:=Wr hs hM h9 ha hi j o_;have lo:=aRs (Bs:=Bs) hs hm hM zW h1 hi hj h9 o_;refine⟨[some 3],4,k_,?_⟩;show af _ _ _ _ _ _ _ ⟨.normal,fm 2 [some 3] (Wv ps.length i (j+1) (oP ps (nI ps acc i j) i j j).length),oc ps++dj [some 3] (od (oP ps (nI ps acc i j) i j j)),4⟩;generalize nI ps acc i j=a at *;generalize oP ps a i j j=b at *;exact az [.lt 19 j i true (aC hj),.code 4 _ _ _ _ _ lo,.sum 21 j 1 (j+1) rfl o_])
  (by generalize nI ps acc i i=a;exact az [.lt 19 i i false s_]) n_
 exact bO (id:=2) this
def Ww(n i L:Nat):aM:=[(4,vI i),(0,sl 0 n),(3,sl 1 L)]
theorem aRu(hs:∀ p∈ps,bB m p/\p.n≠0)(hm:200*m+1000<=aA)(hM:120*m+365<=M)(zW:100*M+1000<=aA)(h9:ps.length<=9):
  af prog Bs 81 (.block 0 (ag f52 0)) (fm 1 [none] (Ww ps.length 0 0)) (oc ps++dj [none] (od [])) 1 ⟨.normal,[(3,sl 1 (fe ps).length)],oc ps++marks 1 (od (fe ps)),2⟩:=by
 have:=rT (P:=prog) (B:=Bs) (N:=81) (b:=aF (ag f52 0)) (next:=1) (p:=1) (r:=⟨.exit 0,[(3,sl 1 (ry ps ps.length).length)],oc ps++marks 1 (od (ry ps ps.length)),2⟩) ps.length
  (λi=>Ww ps.length i (ry ps i).length) (λ_=>oc ps) (λi=>od (ry ps i)) [none] (λ_ _=>rfl) (λ_ _=>⟨Wt,Wu⟩) k_ k_
  (λi hi=>by obtain⟨h1,h2⟩:=Ws hs hM h9 i o_;have lo:=aRt (Bs:=Bs) hs hm hM zW h1 hi h9 o_;refine⟨[some 2],3,k_,?_⟩;show af _ _ _ _ _ _ _ ⟨.normal,fm 1 [some 2] (Ww ps.length (i+1) (nI ps (ry ps i) i i).length),oc ps++dj [some 2] (od (nI ps (ry ps i) i i)),3⟩;generalize ry ps i=a at *;generalize nI ps a i i=b at *;exact az [.lt 14 i ps.length true (aC hi),.code 2 _ _ _ _ _ lo,.sum 16 i 1 (i+1) rfl o_])
  (by generalize ry ps ps.length=a;exact az [.lt 14 ps.length ps.length false s_]) n_
 exact bO (id:=0) this
theorem aRv(hs:∀ p∈ps,bB m p/\p.n≠0)(hm:200*m+1000<=aA)(hM:120*m+365<=M)(zW:100*M+1000<=aA)(h9:ps.length<=9):kL prog 52 [fF ps] 42 30 (fe ps).length (aX (fe ps)):=by
 have ax:([fF ps].all aK.ok)=true:=by simp only[eY,fO,fF,aK.ok,dh,iM]
 have lo:=λBs=>aRu (Bs:=Bs) hs hm hM zW h9;generalize fe ps=c at *;exact yY (k:=1) mixed func52 ax 100 (N:=81) k_ (λ_=>[.code 0 _ _ _ _ _ (lo _)]) (λ_=>k_) (eD c) (tC c)
end
def Qm(g:V3 K)(vs:e_)(o a b:Nat):Int:=OF.aB (cI g (aP vs a-aP vs o) (aP vs b-aP vs o))
def BP(g:V3 K)(vs:e_)(o a:Nat)(b:Nat):Bool:=decide (Qm g vs o a b=0)
section
variable{Bs:ae}{vs:e_}{p:HS K}{o a:Nat}{l:l_}{m:Nat}
def FY(n r i:Nat):aM:=[(7,vI (i+2)),(1,sl 0 n),(2,sl 1 r),(3,ptr 2)]
def v8(vs:e_)(p:HS K)(on:l_):aE:=[(0,.view (aX vs)),(1,.view (ak on)),(2,.aI (cV p).cs 66)]
theorem neB(h:decide (z=0)=!t):Value.bool (z !=0)=.bool t:=by
 congr 1
 cases t
 ·have:=jh h;subst this;rfl
 ·have:=AV h;exact qH.2 this
theorem ke(hs:∀ v∈vs,aG m v)(hi:i<vs.length):aG m (aP vs i):=hs _ (cN (lj hi))
noncomputable def flS(hb:l[i]?=some b)(hn:aG m p.n)(hs:∀ v∈vs,aG m v)(ho:o<vs.length)(ha:a<vs.length)(sL:b<vs.length)(hm:200*m+400<=aA)(ht:BP p.n vs o a b=!t)(more:bH prog Bs 37):bH prog Bs 37:=
 .lt 11 (i+2) (l.length+2) true (aC (by have:=(eB.1 hb).1;omega))::.ix f153 18 1 (l.length+2) 0 o_ k_::.ld f153 19 3 1 0 (.view (ak (o::a::l))) (vI o) rfl (dP (l:=o::a::l) (i:=0) rfl) k_::
 .df f153 20 0 vs.length o 30 ho k_::.ld f153 21 42 0 (o*30) (.view (aX vs)) (bN (aP vs o)) rfl (nW (lj ho)) k_::.ix f153 24 1 (l.length+2) 1 o_ k_::.ld f153 25 3 1 1 (.view (ak (o::a::l))) (vI a) rfl (dP (l:=o::a::l) (i:=1) rfl) k_::
 .df f153 26 0 vs.length a 30 ha k_::.ld f153 27 42 0 (a*30) (.view (aX vs)) (bN (aP vs a)) rfl (nW (lj ha)) k_::.ix f153 31 1 (l.length+2) (i+2) (by have:=(eB.1 hb).1;omega) k_::
 .ld f153 32 3 1 (i+2) (.view (ak (o::a::l))) (vI b) rfl (dP (l:=o::a::l) (i:=i+2) hb) k_::.df f153 33 0 vs.length b 30 sL k_::.ld f153 34 42 0 (b*30) (.view (aX vs)) (bN (aP vs b)) rfl (nW (lj sL)) k_::
 (aDD hn (ke hs ho) (ke hs ha) (ke hs sL) hm).at 35::.rw 36 _ (.bool t) (neB ht)::more
theorem aEZ(hb:l[i]?=some b)(hn:aG m p.n)(hs:∀ v∈vs,aG m v)(ho:o<vs.length)(ha:a<vs.length)(sL:b<vs.length)(hm:200*m+400<=aA)(ht:BP p.n vs o a b=true)(h63:l.length<900000):
  af prog Bs 37 (aF (ag f153 0)) (FY vs.length (l.length+2) i) (v8 vs p (o::a::l)) 3 ⟨.normal,FY vs.length (l.length+2) (i+1),v8 vs p (o::a::l),3⟩:=by
 have hi:=(eB.1 hb).1;exact fE mixed 200 (flS (t:=false) hb hn hs ho ha sL hm ht [.sum 13 (i+2) 1 (i+1+2) o_ o_]) k_
theorem aRw(hb:l[i]?=some b)(hn:aG m p.n)(hs:∀ v∈vs,aG m v)(ho:o<vs.length)(ha:a<vs.length)(sL:b<vs.length)(hm:200*m+400<=aA)(ht:BP p.n vs o a b=false):
  af prog Bs 37 (aF (ag f153 0)) (FY vs.length (l.length+2) i) (v8 vs p (o::a::l)) 3 ⟨.ret,[(6,.bool false)],v8 vs p (o::a::l),3⟩:=
 fE mixed 200 (flS (t:=true) hb hn hs ho ha sL hm ht []) k_
theorem aRx(hn:aG m p.n)(hs:∀ v∈vs,aG m v)(gG:∀ x∈o::a::l,x<vs.length)(hm:200*m+400<=aA)(h63:l.length<900000):cg prog 153 [.p (dp p),.r vs.length (aX vs),.r (l.length+2) (ak (o::a::l))] (.bool (l.all (BP p.n vs o a))):=by
 have ax:([aK.p (dp p),.r vs.length (aX vs),.r (l.length+2) (ak (o::a::l))].all aK.ok)=true:=by simp only[eY,fO,aK.ok,iM];rw[show(aX vs).all flat=true from eD vs,show(ak (o::a::l)).all flat=true from hY _];rfl
 have ho:=gG o (aL ..);have ha:=gG a (bw _ (aL ..));have hl:∀{i b:Nat},l[i]?=some b->b<vs.length:=λh=>gG _ (bw _ (bw _ (cN h)));rcases BM (BP p.n vs o a) l with h|⟨n,x,h1,h2,h3,h4⟩
 ·rw[h];have lo:∀ B:ae,af prog B 37 (.block 0 (ag f153 0)) (FY vs.length (l.length+2) 0) (v8 vs p (o::a::l)) 3 ⟨.normal,[],v8 vs p (o::a::l),3⟩:=λB=>
   bO (id:=0) (ck l.length (λi=>FY vs.length (l.length+2) i) (λ_=>v8 vs p (o::a::l)) (λi k _=>Iff.rfl) (r:=⟨.exit 0,[],v8 vs p (o::a::l),3⟩) (λi hi=>by have hx:l[i]?=some l[i]:=aW hi;exact aEZ hx hn hs ho ha (hl hx) hm (DI h hx) h63) (az [.lt 11 (l.length+2) (l.length+2) false s_]) n_)
  exact dC func153 ax 37 (λw=>[.code 0 _ _ _ _ _ (lo _)])
 ·rw[h4];have lo:∀ B:ae,af prog B 37 (.block 0 (ag f153 0)) (FY vs.length (l.length+2) 0) (v8 vs p (o::a::l)) 3 ⟨.ret,[(6,.bool false)],v8 vs p (o::a::l),3⟩:=λB=>
   bO (id:=0) (ck n (λi=>FY vs.length (l.length+2) i) (λ_=>v8 vs p (o::a::l)) (λi k _=>Iff.rfl) (r:=⟨.ret,[(6,.bool false)],v8 vs p (o::a::l),3⟩) (λi hi=>by have ao:=(eB.1 h1).1;have hx:l[i]?=some l[i]:=aW o_;exact aEZ hx hn hs ho ha (hl hx) hm (h3 i _ hi hx) h63) (aRw h1 hn hs ho ha (hl h1) hm h2) n_)
  exact dC func153 ax 37 (λw=>[.code 0 _ _ _ _ _ (lo _)])
end
def Lx(vs:e_)(i k j:Nat):Bool:=decide (OF.aB (dot (aw (aP vs (i+1)-aP vs 0) (aP vs (k+1)-aP vs 0)) (aP vs (j+1)-aP vs 0))=0)
def FZ(vs:e_)(i k:Nat):Bool:=(List.range k).all (Lx vs i k)
def DK(vs:e_)(i:Nat):Bool:=(List.range i).all (FZ vs i)
def uO(vs:e_):Bool:=(List.range (vs.length-1)).all (DK vs)
section
variable{Bs:ae}{vs:e_}{m:Nat}
def Wx(n i k j:Nat):aM:=[(7,vI (j+1)),(5,vI (k+1)),(0,sl 0 n),(6,ptr 2)]
def sjM(vs:e_)(a c:V3 K):aE:=[(0,.view (aX vs)),(1,.aI (cJ a).cs 42),(2,.aI (cJ c).cs 42)]
noncomputable def Wy(hs:∀ v∈vs,aG m v)(hi:i+1<vs.length)(hk:k<i)(hj:j<k)(hm:300*m+1000<=aA)(ht:Lx vs i k j=!t)(more:bH prog Bs 54):bH prog Bs 54:=
 .lt 39 (j+1) (k+1) true (aC o_)::.df f53 45 0 vs.length (j+1) 30 o_ k_::.ld f53 46 42 0 ((j+1)*30) (.view (aX vs)) (bN (aP vs (j+1))) rfl (nW (lj o_)) k_::
 .df f53 48 0 vs.length 0 30 o_ k_::.ld f53 49 42 0 (0*30) (.view (aX vs)) (bN (aP vs 0)) rfl (nW (lj o_)) k_::
 (aVi (ke hs (show j+1<vs.length by omega)) (ke hs (show 0<vs.length by omega)) o_).at 50::
 (aU8 (((ke hs hi).sub (ke hs (show 0<vs.length by omega))).aw ((ke hs (show k+1<vs.length by omega)).sub (ke hs (show 0<vs.length by omega)))) ((ke hs (show j+1<vs.length by omega)).sub (ke hs (show 0<vs.length by omega))) o_).at 51::
 (aUW ((((ke hs hi).sub (ke hs (show 0<vs.length by omega))).aw ((ke hs (show k+1<vs.length by omega)).sub (ke hs (show 0<vs.length by omega)))).dot ((ke hs (show j+1<vs.length by omega)).sub (ke hs (show 0<vs.length by omega)))) o_).at 52::
 .rw 53 _ (.bool t) (neB ht)::more
def F0(vs:e_)(i k:Nat):aE:=sjM vs (aP vs (i+1)-aP vs 0) (aw (aP vs (i+1)-aP vs 0) (aP vs (k+1)-aP vs 0))
theorem aE0(hs:∀ v∈vs,aG m v)(hi:i+1<vs.length)(hk:k<i)(hm:300*m+1000<=aA)(h63:vs.length<900000):
  af prog Bs 54 (.block 4 (ag f53 4)) (Wx vs.length i k 0) (F0 vs i k) 3 (if FZ vs i k then⟨.normal,[],F0 vs i k,3⟩else⟨.ret,[(2,.bool true)],F0 vs i k,3⟩):=by
 unfold FZ;rcases Ii (Lx vs i k) k with h|⟨n,hn,h2,h3,h4⟩
 ·rw[h];exact bO (id:=4) (ck k (λj=>Wx vs.length i k j) (λ_=>F0 vs i k) (λ_ _ _=>Iff.rfl) (r:=⟨.exit 4,[],F0 vs i k,3⟩) (λj hj=>
   fE mixed 200 (Wy (t:=false) hs hi hk hj hm (Ij h hj) [.sum 41 (j+1) 1 (j+1+1) rfl o_]) k_) (az [.lt 39 (k+1) (k+1) false s_]) n_)
 ·rw[h4];exact bO (id:=4) (ck n (λj=>Wx vs.length i k j) (λ_=>F0 vs i k) (λ_ _ _=>Iff.rfl) (r:=⟨.ret,[(2,.bool true)],F0 vs i k,3⟩) (λj hj=>
   fE mixed 200 (Wy (t:=false) hs hi hk o_ hm (h3 j hj) [.sum 41 (j+1) 1 (j+1+1) rfl o_]) k_) (fE mixed 200 (Wy (t:=true) hs hi hk hn hm h2 []) k_) n_)
def Ly(n i k:Nat):aM:=[(5,vI (k+1)),(3,vI (i+1)),(0,sl 0 n),(4,ptr 1)]
def x9(vs:e_)(i:Nat):aE:=[(0,.view (aX vs)),(1,.aI (cJ (aP vs (i+1)-aP vs 0)).cs 42)]
theorem aRy{n:Nat}:∀ x∈x9 vs i,fH n x.2:=λx hx=>by
 simp only[x9,b9,fv,fA]at hx;rcases hx with rfl|rfl
 ·exact λv hv=>iF (aY.1 (eD vs) v hv)
 ·exact λv hv=>iF (RV.nw _ v hv)
noncomputable def skS(hs:∀ v∈vs,aG m v)(hi:i+1<vs.length)(hk:k<i)(hm:300*m+1000<=aA)(more:bH prog Bs 54):bH prog Bs 54:=
 .lt 24 (k+1) (i+1) true (aC o_)::.df f53 30 0 vs.length (k+1) 30 o_ k_::.ld f53 31 42 0 ((k+1)*30) (.view (aX vs)) (bN (aP vs (k+1))) rfl (nW (lj o_)) k_::
 .df f53 33 0 vs.length 0 30 o_ k_::.ld f53 34 42 0 (0*30) (.view (aX vs)) (bN (aP vs 0)) rfl (nW (lj o_)) k_::
 (aVi (ke hs (show k+1<vs.length by omega)) (ke hs (show 0<vs.length by omega)) o_).at 35::
 (aUP ((ke hs hi).sub (ke hs (show 0<vs.length by omega))) ((ke hs (show k+1<vs.length by omega)).sub (ke hs (show 0<vs.length by omega))) o_).at 36::more
theorem aE1(hs:∀ v∈vs,aG m v)(hi:i+1<vs.length)(hm:300*m+1000<=aA)(h63:vs.length<900000):
  af prog Bs 54 (.block 2 (ag f53 2)) (Ly vs.length i 0) (x9 vs i) 2 (if DK vs i then⟨.normal,[],x9 vs i,2⟩else⟨.ret,[(2,.bool true)],x9 vs i,3⟩):=by
 have Lz:∀ k,k<i->FZ vs i k=true->af prog Bs 54 (aF (ag f53 2)) (Ly vs.length i k) (x9 vs i) 2 ⟨.normal,Ly vs.length i (k+1),x9 vs i,2⟩:=λk hk h=>by have lo:=aE0 (Bs:=Bs) hs hi hk hm h63;rw[au h]at lo;exact ue mixed 200 (fY:=3) (skS hs hi hk hm [.code 4 _ _ _ _ _ lo,.sum 26 (k+1) 1 (k+1+1) rfl o_]) k_ rfl k_ aRy k_
 unfold DK;rcases Ii (FZ vs i) i with h|⟨n,hn,h2,h3,h4⟩
 ·rw[h];exact bO (id:=2) (ck i (λk=>Ly vs.length i k) (λ_=>x9 vs i) (λ_ _ _=>Iff.rfl) (r:=⟨.exit 2,[],x9 vs i,2⟩) (λk hk=>Lz k hk (Ij h hk)) (az [.lt 24 (i+1) (i+1) false s_]) n_)
 ·rw[h4];exact bO (id:=2) (ck n (λk=>Ly vs.length i k) (λ_=>x9 vs i) (λ_ _ _=>Iff.rfl) (r:=⟨.ret,[(2,.bool true)],x9 vs i,3⟩) (λk hk=>Lz k o_ (h3 k hk)) (by have lo:=aE0 (Bs:=Bs) hs hi hn hm h63;rw[al (by rw[h2];decide)]at lo;exact fE mixed 200 (skS hs hi hn hm [.code 4 _ _ _ _ _ lo]) k_) n_)
def Io(n i:Nat):aM:=[(3,vI (i+1)),(0,sl 0 n)]
def wb(vs:e_):aE:=[(0,.view (aX vs))]
theorem aRz{n:Nat}:∀ x∈wb vs,fH n x.2:=λx hx=>by simp only[wb,b9,fv,fA]at hx;subst hx;exact λv hv=>iF (aY.1 (eD vs) v hv)
noncomputable def stS(hs:∀ v∈vs,aG m v)(hi:i+1<vs.length)(hm:300*m+1000<=aA)(more:bH prog Bs 54):bH prog Bs 54:=
 .lt 11 (i+1) vs.length true (aC hi)::.df f53 16 0 vs.length (i+1) 30 hi k_::.ld f53 17 42 0 ((i+1)*30) (.view (aX vs)) (bN (aP vs (i+1))) rfl (nW (lj hi)) k_::
 .df f53 19 0 vs.length 0 30 o_ k_::.ld f53 20 42 0 (0*30) (.view (aX vs)) (bN (aP vs 0)) rfl (nW (lj o_)) k_::
 (aVi (ke hs hi) (ke hs (show 0<vs.length by omega)) o_).at 21::more
theorem aRA(hs:∀ v∈vs,aG m v)(hm:300*m+1000<=aA)(h63:vs.length<900000):cg prog 53 [.r vs.length (aX vs)] (.bool (!uO vs)):=by
 have ax:([aK.r vs.length (aX vs)].all aK.ok)=true:=by simp only[eY,fO,aK.ok,iM];exact eD vs
 have Lz:∀(B:ae) i,i<vs.length-1->DK vs i=true->af prog B 54 (aF (ag f53 0)) (Io vs.length i) (wb vs) 1 ⟨.normal,Io vs.length (i+1),wb vs,1⟩:=λB i hi h=>by have lo:=aE1 (Bs:=B) hs (show i+1<vs.length by omega) hm h63;rw[au h]at lo;exact ue mixed 200 (fY:=2) (stS (i:=i) hs o_ hm [.code 2 _ _ _ _ _ lo,.sum 13 (i+1) 1 (i+1+1) rfl o_]) k_ rfl k_ aRz k_
 unfold uO;rcases Ii (DK vs) (vs.length-1)with h|⟨n,hn,h2,h3,h4⟩
 ·rw[h];have lo:∀ B:ae,af prog B 54 (.block 0 (ag f53 0)) (Io vs.length 0) (wb vs) 1 ⟨.normal,[],wb vs,1⟩:=λB=>
   bO (id:=0) (ck (vs.length-1) (λi=>Io vs.length i) (λ_=>wb vs) (λ_ _ _=>Iff.rfl) (r:=⟨.exit 0,[],wb vs,1⟩) (λi hi=>Lz B i hi (Ij h hi)) (az [.lt 11 (vs.length-1+1) vs.length false (aO o_)]) n_)
  exact dC func53 ax 54 (λw=>[.code 0 _ _ _ _ _ (lo _)])
 ·rw[h4];have lo:∀ B:ae,af prog B 54 (.block 0 (ag f53 0)) (Io vs.length 0) (wb vs) 1 ⟨.ret,[(2,.bool true)],wb vs,3⟩:=λB=>
   bO (id:=0) (ck n (λi=>Io vs.length i) (λ_=>wb vs) (λ_ _ _=>Iff.rfl) (r:=⟨.ret,[(2,.bool true)],wb vs,3⟩) (λi hi=>Lz B i o_ (h3 i hi)) (by have lo:=aE1 (Bs:=B) hs (show n+1<vs.length by omega) hm h63;rw[al (by rw[h2];decide)]at lo;exact fE mixed 200 (stS (i:=n) hs o_ hm [.code 2 _ _ _ _ _ lo]) k_) n_)
  exact dC func53 ax 54 (λw=>[.code 0 _ _ _ _ _ (lo _)])
end
section
variable{Bs:ae}{vs:e_}
def LA(n j L:Nat):aM:=[(6,vI j),(1,sl 0 n),(5,sl 2 L),(2,ptr 1)]
def zX(vs:e_)(p:HS K):aE:=[(0,.view (aX vs)),(1,.aI (cV p).cs 66)]
theorem aRB:∀ x∈zX vs p,fH m x.2:=λx hx=>by
 simp only[zX,b9,fv,fA]at hx;rcases hx with rfl|rfl
 ·exact λv hv=>iF (aY.1 (eD vs) v hv)
 ·exact λv hv=>iF (iL.flat _ v hv)
theorem aRC{l:l_}(hj:j<vs.length)(hp:bB m p)(js:p.n≠0)(aN:∀ v∈vs,aG q v)(hm:100*(m+q)+1000<=aA)(h63:l.length<900000)(pq:vs.length<1000000):
  ∃ σ fY,(∀ l0:List Nat,vp (zX vs p++dj [none] (jU l0)) 2 σ (LA vs.length (j+1) (l++if dot p.n (aP vs j)-p.d=0 then[j]else[]).length) (zX vs p) (jU (l++if dot p.n (aP vs j)-p.d=0 then[j]else[]))=true)/\
   af prog Bs 124 (aF (ag f104 0)) (LA vs.length j l.length) (zX vs p++marks 2 (jU l)) 3 ⟨.normal,fm 2 σ (LA vs.length (j+1) (l++if dot p.n (aP vs j)-p.d=0 then[j]else[]).length),zX vs p++dj σ (jU (l++if dot p.n (aP vs j)-p.d=0 then[j]else[])),fY⟩:=by
 have hv:=lj hj;have hs:=aUT hp (aN _ (cN hv)) o_ js;by_cases h:dot p.n (aP vs j)-p.d=0
 ·rw[au h];have e:(Value.bool (OF.aB (dot p.n (aP vs j)-p.d)==0))=.bool true:=by rw[OF.NC.1 h];rfl
  have hr:ak l++[vI j]=ak (l++[j]):=by simp[ak]
  have DE:(ak l).length=l.length*1:=by rw[nD,gn]
  have h1:=Li l;rw[show(l++[j]).length=l.length+1 by simp];unfold jU;refine⟨[some 4],5,λl0=>k_,?_⟩;generalize OF.aB (dot p.n (aP vs j)-p.d)=z at *;generalize aP vs j=v at *;generalize ak l=c0 at *;generalize ak (l++[j])=c1 at *;exact az [.lt 15 j vs.length true (aC hj),.df f104 21 0 vs.length j 30 hj k_,.ld f104 22 42 0 (j*30) (.view (aX vs)) (bN v) rfl (nW hv) k_,hs.at 23,.rw 24 (.bool (z==0)) b_ e,.bs f104 27 3 1 3 1 [0] (vI 0) [vI j] #[vI j] (.row [vI j] 3 1) rfl (λv hv=>by simp at hv;subst hv;rfl) (λv hv=>by simp at hv;subst hv;rfl) k_ rfl d_ d_ k_,.pP f104 28 4 2 l.length 1 (l.length+1) 3 1 8 c0 3 (.row [vI j] 3 1) c1 rfl rfl rfl DE hr (λv hv=>by simp[Obj.cells]at hv;subst hv;rfl) d_ (by simp[maxLen];omega) o_ k_,.sum 17 j 1 (j+1) rfl o_]
 ·rw[al h,gY];have e:(Value.bool (OF.aB (dot p.n (aP vs j)-p.d)==0))=.bool false:=by
   congr 1
   have:OF.aB (dot p.n (aP vs j)-p.d)≠0:=λe=>h (OF.NC.2 e);simpa using this
  refine⟨[some 2],3,λl0=>k_,?_⟩;generalize OF.aB (dot p.n (aP vs j)-p.d)=z at *;generalize aP vs j=v at *;exact az [.lt 15 j vs.length true (aC hj),.df f104 21 0 vs.length j 30 hj k_,.ld f104 22 42 0 (j*30) (.view (aX vs)) (bN v) rfl (nW hv) k_,hs.at 23,.rw 24 (.bool (z==0)) a_ e,.sum 17 j 1 (j+1) rfl o_]
theorem aE2(hp:bB m p)(js:p.n≠0)(aN:∀ v∈vs,aG q v)(hm:100*(m+q)+1000<=aA)(h63:vs.length<900000):
  af prog Bs 124 (.block 0 (ag f104 0)) (fm 2 [none] (LA vs.length 0 0)) (zX vs p++dj [none] (jU [])) 2 ⟨.normal,[(5,sl 2 (cv p vs vs.length).length)],zX vs p++marks 2 (jU (cv p vs vs.length)),3⟩:=by
 have:=rT (P:=prog) (B:=Bs) (N:=124) (b:=aF (ag f104 0)) (next:=2) (p:=1) (r:=⟨.exit 0,[(5,sl 2 (cv p vs vs.length).length)],zX vs p++marks 2 (jU (cv p vs vs.length)),3⟩) vs.length
  (λj=>LA vs.length j (cv p vs j).length) (λ_=>zX vs p) (λj=>jU (cv p vs j)) [none] (λ_ _=>rfl) (λj _=>⟨aRB,Wc⟩) k_ k_
  (λj hj=>by have hl:=Ie p vs j;obtain⟨σ,fY,h1,h2⟩:=aRC (Bs:=Bs) (l:=cv p vs j) hj hp js aN hm o_ o_;rw[aEh];exact⟨σ,fY,h1 _,h2⟩)
  (by generalize cv p vs vs.length=a;exact az [.lt 15 vs.length vs.length false s_]) n_
 exact bO (id:=0) this
end
def Ip(g:V3 K)(vs:e_)(a c b:Nat):Bool:=decide (b=a)||(decide (b=c)||decide (0<Qm g vs a c b))
section
variable{Bs:ae}{vs:e_}{on:l_}{p:HS K}{m:Nat}
def Iq(n L a k j:Nat)(f:Bool):aM:=[(11,vI j),(10,.bool f),(5,sl 2 L),(8,vI a),(9,vI k),(1,sl 0 n),(2,ptr 1)]
def mW(vs:e_)(p:HS K)(on:l_):aE:=[(0,.view (aX vs)),(1,.aI (cV p).cs 66),(2,.row (ak on) 3 1)]
theorem gtB(h:decide (0<z)=t):Value.bool (decide (z>0))=.bool t:=by rw[<-h]
theorem aE3{c:Nat}(hb:on[j]?=some b)(hc:on[k]?=some c)(gG:∀ x∈on,x<vs.length)(ha:a<vs.length)(hn:aG m p.n)(hs:∀ v∈vs,aG m v)(hm:200*m+400<=aA)(ht:Ip p.n vs a c b=t)(h63:on.length<900000):
  af prog Bs 124 (aF (ag f104 6)) (Iq vs.length on.length a k j true) (mW vs p on) 5 ⟨.normal,Iq vs.length on.length a k (j+1) t,mW vs p on,5⟩:=by
 have hj:=(eB.1 hb).1;have hk:=(eB.1 hc).1;have sL:=gG b (cN hb);have jW:=gG c (cN hc);unfold Ip at ht;by_cases h1:b=a
 ·rw[aC h1,Gj]at ht;subst ht;exact fE mixed 200 [.lt 68 j on.length true (aC hj),.ix f104 76 2 on.length j hj k_,.ld f104 77 3 2 j (.row (ak on) 3 1) (vI b) rfl (dP hb) k_,.gm 79 b a true (aC h1),.sum 73 j 1 (j+1) rfl o_] k_
 rw[aO h1,wQ]at ht;by_cases h2:b=c
 ·rw[aC h2,Gj]at ht;subst ht;exact fE mixed 200 [.lt 68 j on.length true (aC hj),.ix f104 76 2 on.length j hj k_,.ld f104 77 3 2 j (.row (ak on) 3 1) (vI b) rfl (dP hb) k_,.gm 79 b a false (aO h1),.ix f104 83 2 on.length j hj k_,.ld f104 84 3 2 j (.row (ak on) 3 1) (vI b) rfl (dP hb) k_,.ix f104 87 2 on.length k hk k_,.ld f104 88 3 2 k (.row (ak on) 3 1) (vI c) rfl (dP hc) k_,.gm 89 b c true (aC h2),.sum 73 j 1 (j+1) rfl o_] k_
 rw[aO h2,wQ]at ht;exact fE mixed 200 [.lt 68 j on.length true (aC hj),.ix f104 76 2 on.length j hj k_,.ld f104 77 3 2 j (.row (ak on) 3 1) (vI b) rfl (dP hb) k_,.gm 79 b a false (aO h1),.ix f104 83 2 on.length j hj k_,.ld f104 84 3 2 j (.row (ak on) 3 1) (vI b) rfl (dP hb) k_,.ix f104 87 2 on.length k hk k_,.ld f104 88 3 2 k (.row (ak on) 3 1) (vI c) rfl (dP hc) k_,.gm 89 b c false (aO h2),.df f104 96 0 vs.length a 30 ha k_,.ld f104 97 42 0 (a*30) (.view (aX vs)) (bN (aP vs a)) rfl (nW (lj ha)) k_,.ix f104 101 2 on.length k hk k_,.ld f104 102 3 2 k (.row (ak on) 3 1) (vI c) rfl (dP hc) k_,.df f104 103 0 vs.length c 30 jW k_,.ld f104 104 42 0 (c*30) (.view (aX vs)) (bN (aP vs c)) rfl (nW (lj jW)) k_,.ix f104 108 2 on.length j hj k_,.ld f104 109 3 2 j (.row (ak on) 3 1) (vI b) rfl (dP hb) k_,.df f104 110 0 vs.length b 30 sL k_,.ld f104 111 42 0 (b*30) (.view (aX vs)) (bN (aP vs b)) rfl (nW (lj sL)) k_,(aDD hn (ke hs ha) (ke hs jW) (ke hs sL) hm).at 112,.rw 113 _ (.bool t) (gtB ht),.sum 73 j 1 (j+1) rfl o_] k_
theorem aRD:af prog Bs 124 (aF (ag f104 6)) (Iq vs.length on.length a k j false) (mW vs p on) 5 ⟨.exit 6,[(10,.bool false)],mW vs p on,5⟩:=by
 by_cases h:j<on.length
 ·exact az [.lt 68 j on.length true (aC h)]
 ·exact az [.lt 68 j on.length false (aO h)]
def LB(g:V3 K)(vs:e_)(on:l_)(a c:Nat):Bool:=on.all (Ip g vs a c)
theorem aE4{c:Nat}(hc:on[k]?=some c)(gG:∀ x∈on,x<vs.length)(ha:a<vs.length)(hn:aG m p.n)(hs:∀ v∈vs,aG m v)(hm:200*m+400<=aA)(h63:on.length<900000):
  af prog Bs 124 (.block 6 (ag f104 6)) (Iq vs.length on.length a k 0 true) (mW vs p on) 5 ⟨.normal,[(10,.bool (LB p.n vs on a c))],mW vs p on,5⟩:=by
 unfold LB;rcases BM (Ip p.n vs a c) on with h|⟨n,x,h1,h2,h3,h4⟩
 ·rw[h];exact bO (id:=6) (ck on.length (λj=>Iq vs.length on.length a k j true) (λ_=>mW vs p on) (λ_ _ _=>Iff.rfl) (r:=⟨.exit 6,[(10,.bool true)],mW vs p on,5⟩) (λj hj=>by have hx:on[j]?=some on[j]:=aW hj;exact aE3 hx hc gG ha hn hs hm (DI h hx) h63) (az [.lt 68 on.length on.length false s_]) n_)
 ·rw[h4];have ao:=(eB.1 h1).1;exact bO (id:=6) (ck (n+1) (λj=>Iq vs.length on.length a k j (decide (j<=n))) (λ_=>mW vs p on) (λ_ _ _=>Iff.rfl) (r:=⟨.exit 6,[(10,.bool false)],mW vs p on,5⟩) (λj hj=>by
   have Qn:j<on.length:=by omega
   have hx:on[j]?=some on[j]:=aW Qn;simp only[aC (show j<=n by omega)];refine aE3 hx hc gG ha hn hs hm ?_ h63;by_cases he:j=n
   ·subst he;rw[h1]at hx;injection hx with hx;rw[<-hx,h2];exact(aO o_).symm
   ·rw[h3 j _ o_ hx];exact(aC o_).symm) (by
   simp only[aO (show ¬n+1<=n by omega)];exact aRD) n_)
end
def uP(g:V3 K)(vs:e_)(on:l_)(a c:Nat):Bool:=!decide (c=a)&&LB g vs on a c
section
variable{Bs:ae}{vs:e_}{on:l_}{p:HS K}{m:Nat}
def LC(n L R a k:Nat):aM:=[(9,vI k),(5,sl 2 L),(7,sl 4 R),(8,vI a),(1,sl 0 n),(2,ptr 1)]
def F1(vs:e_)(p:HS K)(on out:l_):aE:=mW vs p on++marks 4 (jU out)
theorem aRE{c:Nat}{out:l_}(hc:on[k]?=some c)(gG:∀ x∈on,x<vs.length)(ha:a<vs.length)(hn:aG m p.n)(hs:∀ v∈vs,aG m v)(hm:200*m+400<=aA)(h63:on.length<900000)(hf:uP p.n vs on a c=false):
  af prog Bs 124 (aF (ag f104 4)) (LC vs.length on.length out.length a k) (F1 vs p on out) 5 ⟨.normal,LC vs.length on.length out.length a (k+1),F1 vs p on out,5⟩:=by
 have hk:=(eB.1 hc).1;by_cases h:c=a
 ·exact fE mixed 200 [.lt 56 k on.length true (aC hk),.ix f104 61 2 on.length k hk k_,.ld f104 62 3 2 k (.row (ak on) 3 1) (vI c) rfl (dP hc) k_,.gm 64 c a true (aC h),.sum 58 k 1 (k+1) rfl o_] k_
 ·have lo:=aE4 (Bs:=Bs) hc gG ha hn hs hm h63;unfold uP at hf;rw[aO h]at hf;have hf:LB p.n vs on a c=false:=hf;rw[hf]at lo;exact fE mixed 200 [.lt 56 k on.length true (aC hk),.ix f104 61 2 on.length k hk k_,.ld f104 62 3 2 k (.row (ak on) 3 1) (vI c) rfl (dP hc) k_,.gm 64 c a false (aO h),.code 6 _ _ _ _ _ lo,.sum 58 k 1 (k+1) rfl o_] k_
theorem aRF{c:Nat}{out:l_}(hc:on[k]?=some c)(gG:∀ x∈on,x<vs.length)(ha:a<vs.length)(hn:aG m p.n)(hs:∀ v∈vs,aG m v)(hm:200*m+400<=aA)(h63:on.length<900000)(ho:out.length<900000)(hf:uP p.n vs on a c=true):
  af prog Bs 124 (aF (ag f104 4)) (LC vs.length on.length out.length a k) (F1 vs p on out) 5 ⟨.exit 4,[(7,sl 6 (out++[c]).length)],mW vs p on++[(6,.row (ak (out++[c])) 3 1)],7⟩:=by
 have hk:=(eB.1 hc).1;have lo:=aE4 (Bs:=Bs) hc gG ha hn hs hm h63;unfold uP at hf;rw[cY]at hf;obtain⟨h1,h2⟩:=hf;have h:¬c=a:=by intro e;rw[aC e]at h1;cases h1
 rw[h2]at lo;have hr:ak out++[vI c]=ak (out++[c]):=by simp[ak]
 have DE:(ak out).length=out.length*1:=by rw[nD,gn]
 rw[show(out++[c]).length=out.length+1 by simp];have iS:=dP hc;unfold F1 jU;generalize ak out=c0 at *;generalize ak (out++[c])=c1 at *;exact fE mixed 200 [.lt 56 k on.length true (aC hk),.ix f104 61 2 on.length k hk k_,.ld f104 62 3 2 k (.row (ak on) 3 1) (vI c) rfl iS k_,.gm 64 c a false (aO h),.code 6 _ _ _ _ _ lo,.ix f104 119 2 on.length k hk k_,.ld f104 120 3 2 k (.row (ak on) 3 1) (vI c) rfl iS k_,.bs f104 121 5 1 3 1 [0] (vI 0) [vI c] #[vI c] (.row [vI c] 3 1) rfl (λv hv=>by simp at hv;subst hv;rfl) (λv hv=>by simp at hv;subst hv;rfl) k_ rfl d_ d_ k_,.pP f104 122 6 4 out.length 1 (out.length+1) 3 1 8 c0 5 (.row [vI c] 3 1) c1 rfl rfl rfl DE hr (λv hv=>by simp[Obj.cells]at hv;subst hv;rfl) d_ (by simp[maxLen];omega) o_ k_] k_
theorem aRG{c:Nat}{out:l_}(hc:on[k]?=some c)(gG:∀ x∈on,x<vs.length)(ha:a<vs.length)(hn:aG m p.n)(hs:∀ v∈vs,aG m v)(hm:200*m+400<=aA)(h63:on.length<900000)(ho:out.length<900000)(hf:uP p.n vs on a c=true)
  (hb:∀(i:Nat) (x:Nat),i<k->on[i]?=some x->uP p.n vs on a x=false) :
  af prog Bs 124 (.block 4 (ag f104 4)) (LC vs.length on.length out.length a 0) (F1 vs p on out) 5 ⟨.normal,[(7,sl 6 (out++[c]).length)],mW vs p on++[(6,.row (ak (out++[c])) 3 1)],7⟩:=
 bO (id:=4) (ck k (λi=>LC vs.length on.length out.length a i) (λ_=>F1 vs p on out) (λ_ _ _=>Iff.rfl) (r:=⟨.exit 4,[(7,sl 6 (out++[c]).length)],mW vs p on++[(6,.row (ak (out++[c])) 3 1)],7⟩) (λi hi=>by have hk:=(eB.1 hc).1;have hx:on[i]?=some on[i]:=aW o_;exact aRE hx gG ha hn hs hm h63 (hb i _ hi hx)) (aRF hc gG ha hn hs hm h63 ho hf) n_)
end
section
variable{Bs:ae}{vs:e_}{on:l_}{p:HS K}{m:Nat}
def Qo(n L R:Nat):aM:=[(7,sl 4 R),(5,sl 2 L),(1,sl 0 n),(2,ptr 1)]
theorem aRH{c R:Nat}{out:l_}(hR:out.length=R+1)(ao:out.length<on.length)(hl:out[R]?=some a)(hc:on[k]?=some c)(gG:∀ x∈on,x<vs.length)(ha:a<vs.length)(hn:aG m p.n)(hs:∀ v∈vs,aG m v)(hm:200*m+400<=aA)(h63:on.length<900000)(hf:uP p.n vs on a c=true)
  (hb:∀(i:Nat) (x:Nat),i<k->on[i]?=some x->uP p.n vs on a x=false) :
  af prog Bs 124 (aF (ag f104 2)) (Qo vs.length on.length out.length) (mW vs p on++marks 4 (jU out)) 5 ⟨.normal,fm 4 [some 6] (Qo vs.length on.length (out++[c]).length),mW vs p on++dj [some 6] (jU (out++[c])),7⟩:=by
 have lo:=aRG (Bs:=Bs) hc gG ha hn hs hm h63 o_ hf hb (out:=out);have iS:=dP hl;have e:(out++[c]).length=R+2:=by simp[hR]
 rw[e]at lo ⊢;unfold F1 at lo;rw[hR]at lo ⊢;unfold jU at *;generalize ak out=c0 at *;generalize ak (out++[c])=c1 at *;exact fE mixed 200 [.lt 46 (R+1) on.length true (aC o_),.eW 50 (R+1) 1 R rfl o_,.ix f104 51 4 (R+1) R o_ k_,.ld f104 52 3 4 R (.row c0 3 1) (vI a) rfl iS k_,.code 4 _ _ _ _ _ lo] k_
end
structure aUR(g:V3 K)(vs:e_)(on sq:l_):Prop where
 len:sq.length=on.length
 head:sq[0]?=on[0]?
 step:∀(i a c:Nat),sq[i]?=some a->sq[i+1]?=some c->∃ k:Nat,on[k]?=some c/\uP g vs on a c=true/\∀(j x:Nat),j<k->on[j]?=some x->uP g vs on a x=false
section
variable{Bs:ae}{vs:e_}{on sq:l_}{p:HS K}{m:Nat}
theorem aRI{n:Nat}:∀ x∈mW vs p on,fH n x.2:=λx hx=>by
 simp only[mW,b9,fv,fA]at hx;rcases hx with rfl|rfl|rfl
 ·exact λv hv=>iF (aY.1 (eD vs) v hv)
 ·exact λv hv=>iF (iL.flat _ v hv)
 ·exact λv hv=>iF (mh _ v hv)
theorem aRJ{o:Nat}(h:aUR p.n vs on sq)(h0:on[0]?=some o)(gG:∀ x∈on,x<vs.length)(hn:aG m p.n)(hs:∀ v∈vs,aG m v)(hm:200*m+400<=aA)(h63:on.length<900000):
  af prog Bs 124 (.block 2 (ag f104 2)) (fm 4 [some 3] (Qo vs.length on.length 1)) (mW vs p on++dj [some 3] (jU [o])) 4 ⟨.normal,[(7,sl 4 sq.length)],mW vs p on++marks 4 (jU sq),5⟩:=by
 have sV:=(eB.1 h0).1;have hlen:=h.len;have qR:∀ x∈sq,x<vs.length:=λx hx=>by
  obtain⟨i,hi,rfl⟩:=kN hx;cases i with
  |zero=>
   have e:=h.head;rw[aW hi,h0]at e;injection e with e;rw[e];exact gG _ (cN h0)
  |succ i=>
   obtain⟨k,e,_⟩:=h.step i _ _ (aW o_) (aW hi);exact gG _ (cN e)
 have e1:sq.take 1=[o]:=by have e:=h.head;rw[h0]at e;rw[List.take_one,List.head?_eq_getElem?,e];rfl
 have tl:∀ i,i<on.length->(sq.take (i+1)).length=i+1:=λi hi=>by rw[jn];omega
 have:=rT (P:=prog) (B:=Bs) (N:=124) (b:=aF (ag f104 2)) (next:=4) (p:=1) (r:=⟨.exit 2,[(7,sl 4 sq.length)],mW vs p on++marks 4 (jU sq),5⟩) (on.length-1)
  (λi=>Qo vs.length on.length (sq.take (i+1)).length) (λ_=>mW vs p on) (λi=>jU (sq.take (i+1))) [some 3] (λ_ _=>rfl) (λi _=>⟨aRI,Wc⟩) k_ k_
  (λi hi=>by
   have ha:sq[i]?=some sq[i]:=aW o_;have hc:sq[i+1]?=some sq[i+1]:=aW o_;obtain⟨k,q1,q2,q3⟩:=h.step i _ _ ha hc;have e:sq.take (i+1+1)=sq.take (i+1)++[sq[i+1]]:=by rw[sA,hc];rfl
   have hl:=tl i o_;have hr:=aRH (Bs:=Bs) (R:=i) hl o_ (by rw[tV,au o_];exact ha) q1 gG (qR _ (cN ha)) hn hs hm h63 q2 q3;refine⟨[some 6],7,k_,?_⟩;rw[e];exact hr)
  (by rw[show on.length-1+1=sq.length by omega,mN];rw[hlen];exact az [.lt 46 on.length on.length false s_]) n_
 simp only[jL,e1]at this;exact bO (id:=2) this
end
def Qp(g:V3 K)(vs:e_):List Nat->Bool
 |o::a::l=>l.all (BP g vs o a)
 |_=>true
section
variable{vs:e_}{p:HS K}{m q:Nat}
noncomputable def aRK{on:l_}(h3:3<=on.length)(ht:Qp p.n vs on=t)(hn:aG m p.n)(hs:∀ v∈vs,aG m v)(gG:∀ x∈on,x<vs.length)(hm:200*m+400<=aA)(h63:on.length<900000):aQ prog Bs 124:=
 .cR f104 36 [dp p,sl 0 vs.length,sl 2 on.length] (by
   match on,h3,gG,ht,h63 with
   |o::a::l,_,gG,ht,h63=>
    have:=aRx hn hs gG hm (by simp only[nL]at h63;omega);rw[show l.all (BP p.n vs o a)=t from ht]at this;exact this) (.p rfl (.w (x:=.view (aX vs)) rfl (eD vs) xz (.w (x:=.row (ak on) 3 1) rfl (hY on) (λh=>PW h) .nil)))
theorem aE5:([aK.p (dp p),.r vs.length (aX vs)].all aK.ok)=true:=by simp only[eY,fO,aK.ok,iM];rw[show(aX vs).all flat=true from eD vs];rfl
theorem aRL(hp:bB m p)(js:p.n≠0)(aN:∀ v∈vs,aG q v)(hm:100*(m+q)+1000<=aA)(h63:vs.length<900000)(h:(cv p vs vs.length).length<3):
  cg prog 104 [.p (dp p),.r vs.length (aX vs)] (.slice none 0 0):=by
 have lo:=λBs=>aE2 (Bs:=Bs) hp js aN hm h63;generalize cv p vs vs.length=on at *;exact gg mixed func104 aE5 200 (N:=124) k_ (λw=>[.code 0 _ _ _ _ _ (lo _),.lt 31 on.length 3 true (aC h)]) (λ_=>k_) k_
theorem aUU{sq:l_}(hp:bB m p)(js:p.n≠0)(aN:∀ v∈vs,aG m v)(hm:300*m+1000<=aA)(h63:vs.length<900000)(h:¬(cv p vs vs.length).length<3)(hf:Qp p.n vs (cv p vs vs.length)=false)(qR:aUR p.n vs (cv p vs vs.length) sq):
  kL prog 104 [.p (dp p),.r vs.length (aX vs)] 3 1 sq.length (ak sq):=by
 have lo:=λBs=>aE2 (Bs:=Bs) hp js aN o_ h63;have gG:∀ x∈cv p vs vs.length,x<vs.length:=λx hx=>Wb hx;have hol:=Ie p vs vs.length;generalize cv p vs vs.length=on at *;obtain⟨o,h0⟩:∃ o,on[0]?=some o:=⟨_,aW o_⟩;have l2:=λBs=>aRJ (Bs:=Bs) qR h0 gG hp.1 aN o_ o_;exact yY (k:=4) mixed func104 aE5 200 (N:=124) k_ (λw=>[.code 0 _ _ _ _ _ (lo _),.lt 31 on.length 3 false (aO h),aRK o_ hf hp.1 aN gG o_ o_,.ix f104 39 2 on.length 0 o_ k_,.ld f104 40 3 2 0 (.row (ak on) 3 1) (vI o) rfl (dP h0) k_,.bs f104 41 3 1 3 1 [0] (vI 0) [vI o] #[vI o] (.row [vI o] 3 1) rfl (λv hv=>by simp at hv;subst hv;rfl) (λv hv=>by simp at hv;subst hv;rfl) k_ rfl d_ d_ k_,.code 2 _ _ _ _ _ (l2 _)]) (λ_=>k_) (hY sq) (by rw[nD,gn])
end
theorem aE6{v:V3 K}:Da ps v=false↔(v=0\/∃ r∈ps,0<dot r.n v):=by
 unfold Da;rw[Bool.and_eq_false_iff,Bool.not_eq_false',Bool.not_eq_false',qU,rF];constructor
 ·rintro(h|⟨r,hr,h⟩)
  ·exact .inl h
  ·exact .inr ⟨r,hr,P4.1 (jh h)⟩
 ·rintro(h|⟨r,hr,h⟩)
  ·exact .inl h
  ·exact .inr ⟨r,hr,aC (P4.2 h)⟩
theorem Wz{u:V3 K}:qf ps u=false↔(u≠0->(∃ r∈ps,0<dot r.n u)/\∃ r∈ps,0<dot r.n (-u)):=by
 unfold qf;rw[Mf,aE6,aE6];constructor
 ·rintro⟨h1,h2⟩ hu
  exact⟨h1.resolve_left hu,h2.resolve_left λe=>hu (V3.neg_eq_zero.1 e)⟩
 ·intro h;by_cases hu:u=0
  ·exact⟨.inl hu,.inl (V3.neg_eq_zero.2 hu)⟩
  ·exact⟨.inr (h hu).1,.inr (h hu).2⟩
theorem aE7{ps:c_}:∀ n,n<=ps.length->(tA ps n=true↔∃(i j:Nat) (p q:HS K),i<n/\j<i/\ps[i]?=some p/\ps[j]?=some q/\aw p.n q.n≠0)
 |0,_=>by
  constructor
  ·intro h;cases h
  ·rintro⟨i,_,_,_,h,_⟩;omega
 |n+1,hn=>by
  have hp:ps[n]?=some ps[n]:=aW o_;rw[aBY hp,rH,aE7 n o_];unfold qg;rw[rF];constructor
  ·rintro(⟨i,j,p,q,h1,h2,h3⟩|⟨q,hq,h⟩)
   ·exact⟨i,j,p,q,by omega,h2,h3⟩
   ·obtain⟨j,hj,rfl⟩:=kN hq;rw[jn]at hj;rw[Wi]at h;exact⟨n,j,ps[n],ps[j],by omega,by omega,hp,aW o_,by simpa using h⟩
  ·rintro⟨i,j,p,q,h1,h2,h3,h4,h5⟩
   rcases eU i n with h|h
   ·exact .inl ⟨i,j,p,q,h,h2,h3,h4,h5⟩
   ·have:i=n:=by omega
    subst this;rw[hp]at h3;injection h3 with h3;subst h3;exact .inr ⟨q,cN (i:=j) (by rw[tV,au h2];exact h4),by simpa using h5⟩
theorem aRM:O0 ps ps.length=false↔∀(i j:Nat) (p q:HS K),j<i->ps[i]?=some p->ps[j]?=some q->qf ps (aw p.n q.n)=false:=by
 unfold O0;rw[I2];constructor
 ·intro h i j p q oU hp hq;have ao:=(eB.1 hp).1;have:=h i (kk.2 ao);rw[O1 hp,rF]at this;cases hb:qf ps (aw p.n q.n)with
  |false=>rfl
  |true=>exact absurd ⟨q,cN (i:=j) (by rw[tV,au oU];exact hq),hb⟩ this
 ·intro h i hi;have ao:=kk.1 hi;have hp:ps[i]?=some ps[i]:=aW ao;rw[O1 hp,rF]
  rintro⟨q,hq,hb⟩
  obtain⟨j,hj,rfl⟩:=kN hq;rw[jn]at hj;have wm:ps[j]?=some ps[j]:=aW o_;rw[Wi]at hb;rw[h i j _ _ o_ hp wm]at hb;cases hb
theorem aE8:sB ps=true↔Cl ps:=by
 unfold sB;rw[cY,yr,aE7 _ (bh _),aRM];have sw:∀ p q:HS K,aw q.n p.n=-aw p.n q.n:=λp q=>V3.HC _ _;constructor
 ·rintro⟨h1,i,j,p,q,hi,oU,hp,hq,hc⟩
  refine⟨⟨p,cN hp,q,cN hq,hc⟩,λp hp q hq bd=>?_⟩;obtain⟨i,hi,rfl⟩:=kN hp;obtain⟨j,hj,rfl⟩:=kN hq;rcases sO i j with h|h|h
  ·have:=Wz.1 (h1 j i _ _ h (aW hj) (aW hi)) (λe=>bd (by rw[sw,e];exact V3.neg_eq_zero.2 rfl));rw[sw ps[j] ps[i]];exact this.2
  ·subst h;exact absurd (V3.Ki _) bd
  ·exact(Wz.1 (h1 i j _ _ h (aW hi) (aW hj)) bd).1
 ·rintro⟨⟨p,hp,q,hq,bd⟩,aU⟩
  refine⟨λi j p q _ hp hq=>Wz.2 λhu=>?_,?_⟩
  ·have jg:=cN hp;have Bk:=cN hq;refine⟨aU p jg q Bk hu,?_⟩;rw[<-sw];exact aU q Bk p jg (λe=>hu (by rw[sw q p,e];exact V3.neg_eq_zero.2 rfl))
  ·obtain⟨i,hi,rfl⟩:=kN hp;obtain⟨j,hj,rfl⟩:=kN hq;rcases sO i j with h|h|h
   ·exact⟨j,i,_,_,hj,h,aW hj,aW hi,λe=>bd (by rw[sw,e];exact V3.neg_eq_zero.2 rfl)⟩
   ·subst h;exact absurd (V3.Ki _) bd
   ·exact⟨i,j,_,_,hi,h,aW hi,aW hj,bd⟩
theorem aE9:∀ n:Nat,(CR.ofNat n:K)=kI (n:Int)
 |0=>rfl
 |n+1=>by
  show(CR.ofNat n:K)+1=_;rw[aE9 n];refine bA.ext (bA.ext ?_ ?_) (bA.ext ?_ ?_)
  ·show((n:Int):Rat)+1=(((n+1:Nat):Int):Rat)
   push_cast;rfl
  ·show(0:Rat)+0=0;exact Rat.add_zero 0
  ·show(0:Rat)+0=0;exact Rat.add_zero 0
  ·show(0:Rat)+0=0;exact Rat.add_zero 0
theorem aRN(z:Int):kI z=(Fr.mk z 0 0 0 1).val:=by have h:=TB z;have:=oE (kI z);rw[show bF (kI z)=⟨z,0,0,0,1⟩from h]at this;exact this.symm
theorem aRO{n:Nat}(hn:n≠0):zr 1 (n:Int)*kI (n:Int)=1:=by
 rw[aRN];unfold zr;rw[<-JY (by simpa using hn) s_];have e:dO ⟨1,0,0,0,(n:Int)⟩ ⟨(n:Int),0,0,0,1⟩=⟨(n:Int),0,0,0,(n:Int)⟩:=by unfold dO;simp
 rw[e];unfold Fr.val;dsimp only;have h1:Rat.divInt (n:Int) (n:Int)=1:=by rw[AZ,EX];exact Hm _ (by simpa using hn)
 rw[h1,Rat.zero_divInt];rfl
theorem aRP{n:Nat}(hn:n≠0):zr 1 (n:Int)=(CR.ofNat n:K)⁻¹:=by
 have h:=aRO hn;rw[<-aE9]at h;have bd:(CR.ofNat n:K)≠0:=OF.ne_of_gt (Uw o_);have h2:=OF.lI _ bd
 calc zr 1 (n:Int)=zr 1 (n:Int)*(CR.ofNat n*(CR.ofNat n:K)⁻¹):=by rw[h2,CR.mul_one]
  _=(CR.ofNat n:K)⁻¹:=by rw[<-CR.mul_assoc,h,CR.one_mul]
theorem aFa{l:e_}(h:l≠[]):Bx l=C6 l:=by have hl:l.length≠0:=λe=>h (kA e);unfold Bx C6;rw[aRP hl];rfl
theorem aRQ{vs:e_}:vN ps vs=true↔vs≠[]/\Bo ps (C6 vs):=by
 unfold vN;rw[cY,yr,yr,Y5,I2];have hl:¬vs.length=0↔vs≠[]:=⟨λh e=>h (by rw[e];rfl),λh e=>h (kA e)⟩;rw[hl];constructor
 ·rintro⟨h1,h2⟩
  refine⟨h1,λp hp=>?_⟩;have:=h2 p hp;rw[qU,P5,aFa h1,OF.sub_nonneg]at this;exact OF.not_le.1 this
 ·rintro⟨h1,h2⟩
  refine⟨h1,λp hp=>?_⟩;rw[qU,P5,aFa h1,OF.sub_nonneg];exact OF.not_le.2 (h2 p hp)
theorem aRR{x:K}(h:x≠0):0<iI x:=by
 unfold iI;by_cases hs:OF.aB x<0
 ·rw[au hs,OF.iz,OF.o7,aEq.1 hs];rfl
 ·rw[al hs,OF.iz];rcases OF.iH x with e|e|e
  ·rw[e]at hs;exact absurd d_ hs
  ·exact absurd ((OF.e7 x).1 e) h
  ·exact e
theorem aFb{x:K}(h:x≠0):0<mg x:=by unfold mg;rw[show kI 1*(iI x)⁻¹=(iI x)⁻¹ from CR.one_mul _];exact OF.inv_pos (aRR h)
def DL(p:HS K)(k:K):HS K:=⟨smul p.n k,p.d*k⟩
theorem Qq(p:HS K):canon p=DL p (mg (qc p.n)):=rfl
theorem aRS(v:V3 K)(a b:K):smul (smul v a) b=smul v (a*b):=V3.ext (CR.mul_assoc _ _ _) (CR.mul_assoc _ _ _) (CR.mul_assoc _ _ _)
theorem aRT(v:V3 K):smul v 1=v:=V3.ext (CR.mul_one _) (CR.mul_one _) (CR.mul_one _)
theorem WA(p:HS K)(a b:K):DL (DL p a) b=DL p (a*b):=HS.ext (aRS _ _ _) (CR.mul_assoc _ _ _)
theorem aRU(p:HS K):DL p 1=p:=HS.ext (aRT _) (CR.mul_one _)
theorem aRV{v:V3 K}{k:K}(hk:k≠0):qc (smul v k)=qc v*k:=by
 have z:∀ x:K,x*k≠0↔x≠0:=λx=>⟨λh e=>h (by rw[e,CR.zero_mul]),λh=>OF.mul_ne_zero h hk⟩;unfold qc;show(if v.x*k≠0 then v.x*k else if v.y*k≠0 then v.y*k else v.z*k)=_;by_cases hx:v.x≠0
 ·rw[au ((z _).2 hx),au hx]
 ·rw[al (λh=>hx ((z _).1 h)),al hx];by_cases hy:v.y≠0
  ·rw[au ((z _).2 hy),au hy]
  ·rw[al (λh=>hy ((z _).1 h)),al hy]
theorem aRW{x k:K}(hk:0<k):iI (x*k)=iI x*k:=by
 unfold iI;have e:OF.aB (x*k)=OF.aB x:=by rw[CR.mul_comm,OF.Z8 hk]
 rw[e];by_cases h:OF.aB x<0
 ·rw[au h,au h,CR.neg_mul]
 ·rw[al h,al h]
theorem aRX{x k:K}(hx:x≠0)(hk:0<k):k*mg (x*k)=mg x:=by
 have e:∀ y:K,mg y=(iI y)⁻¹:=λy=>CR.one_mul _;have Bd:k≠0:=OF.ne_of_gt hk;have h0:iI x≠0:=OR hx;rw[e,e,aRW hk];have h1:=OF.lI _ h0;have h2:=OF.lI (iI x*k) (OF.mul_ne_zero h0 Bd)
 calc k*(iI x*k)⁻¹=(iI x*(iI x)⁻¹)*(k*(iI x*k)⁻¹):=by rw[h1,CR.one_mul]
  _=(iI x)⁻¹*(iI x*k*(iI x*k)⁻¹):=by rw[CR.mul_comm (iI x),CR.mul_assoc,CR.mul_assoc]
  _=(iI x)⁻¹:=by rw[h2,CR.mul_one]
theorem aRY{q:HS K}(hp:p.n≠0)(hq:q.n≠0):canon p=canon q↔∃ k:K,0<k/\q=DL p k:=by
 have ap:=aFb (OS hp);have aq:=aFb (OS hq);constructor
 ·intro h;rw[Qq,Qq]at h;have h1:=OF.lI _ (OF.ne_of_gt aq);refine⟨mg (qc p.n)*(mg (qc q.n))⁻¹,OF.mul_pos ap (OF.inv_pos aq),?_⟩;rw[<-WA,h,WA,h1,aRU]
 ·rintro⟨k,hk,rfl⟩
  rw[Qq,Qq];have e:qc (DL p k).n=qc p.n*k:=aRV (OF.ne_of_gt hk);rw[e,WA,aRX (OS hp) hk]
end
section
open CR OF V3
section
variable{F:Type}[OF F]
theorem aRZ(a b c:V3 F)(x y z:F):dot a (smul (aw b c) x+smul (aw c a) y+smul (aw a b) z)=x*cI a b c:=
 ring [a,b,c] [x,y,z] (λV S=>dot (V 0) (smul (aw (V 1) (V 2)) (S 0)+smul (aw (V 2) (V 0)) (S 1)+smul (aw (V 0) (V 1)) (S 2))) (λV S=>S 0*cI (V 0) (V 1) (V 2)) d_
theorem aR0(a b c:V3 F)(x y z:F):dot b (smul (aw b c) x+smul (aw c a) y+smul (aw a b) z)=y*cI a b c:=
 ring [a,b,c] [x,y,z] (λV S=>dot (V 1) (smul (aw (V 1) (V 2)) (S 0)+smul (aw (V 2) (V 0)) (S 1)+smul (aw (V 0) (V 1)) (S 2))) (λV S=>S 1*cI (V 0) (V 1) (V 2)) d_
theorem aR1(a b c:V3 F)(x y z:F):dot c (smul (aw b c) x+smul (aw c a) y+smul (aw a b) z)=z*cI a b c:=
 ring [a,b,c] [x,y,z] (λV S=>dot (V 2) (smul (aw (V 1) (V 2)) (S 0)+smul (aw (V 2) (V 0)) (S 1)+smul (aw (V 0) (V 1)) (S 2))) (λV S=>S 2*cI (V 0) (V 1) (V 2)) d_
theorem WB(u w:V3 F):cI u u w=0:=ring [u,w] [] (λV _=>cI (V 0) (V 0) (V 1)) (λ_ _=>0) d_
theorem WC(u w:V3 F):cI u w w=0:=ring [u,w] [] (λV _=>cI (V 0) (V 1) (V 1)) (λ_ _=>0) d_
theorem WD(u w:V3 F):cI u w u=0:=ring [u,w] [] (λV _=>cI (V 0) (V 1) (V 0)) (λ_ _=>0) d_
theorem aFc:∀(l:List (F×F)),(∀ x∈l,0<x.2)->∃ e:F,0<e/\∀ x∈l,x.1*e<=x.2
 |[],_=>⟨1,OF.zero_lt_one,λx h=>(by cases h)⟩
 |(a,b)::l,h=>by
  obtain⟨e,he,hl⟩:=aFc l λx hx=>h x (bw _ hx);have hb:0<b:=h (a,b) (aL ..);by_cases bW:a*e<=b
  ·refine⟨e,he,λx hx=>?_⟩;rcases b9.1 hx with rfl|hx
   ·exact bW
   ·exact hl x hx
  ·have bW:=OF.not_le.1 bW;have ha:0<a:=by
    apply jo;intro EJ;have EJ:=OF.not_lt.1 EJ;have:a*e<=0:=by rw[<-CR.neg_neg (a*e),OF.JT,<-CR.neg_mul];exact OF.mul_nonneg (OF.neg_nonneg.2 EJ) (OF.le_of_lt he)
    exact OF.lt_irrefl _ (OF.lt_of_lt_of_le (OF.lt_trans hb bW) this)
   have hi:0<b*a⁻¹:=OF.mul_pos hb (OF.inv_pos ha);have hae:a*(b*a⁻¹)=b:=by rw[CR.mul_left_comm,OF.lI _ (OF.ne_of_gt ha),CR.mul_one]
   have ao:b*a⁻¹<e:=by rw[<-OF.mul_lt_mul_left ha,hae];exact bW
   refine⟨b*a⁻¹,hi,λx hx=>?_⟩;rcases b9.1 hx with rfl|hx
   ·exact OF.le_of_eq hae
   ·by_cases kM:0<x.1
    ·exact OF.le_trans ((OF.mul_le_mul_left kM).2 (OF.le_of_lt ao)) (hl x hx)
    ·have kM:=OF.not_lt.1 kM;have:x.1*(b*a⁻¹)<=0:=by rw[<-CR.neg_neg (x.1*(b*a⁻¹)),OF.JT,<-CR.neg_mul];exact OF.mul_nonneg (OF.neg_nonneg.2 kM) (OF.le_of_lt hi)
     exact OF.le_trans this (OF.le_of_lt (h x (bw _ hx)))
structure sQ(ps S:List (HS F)):Prop where
 sub:∀ p∈S,p∈ps
 same:∀ v,hJ S v↔hJ ps v
 least:∀ T:List (HS F),(∀ p∈T,p∈ps)->(∀ v,hJ T v↔hJ ps v)->S.length<=T.length
theorem aR2(ps:List (HS F)):∃ S,sQ ps S:=by
 have key:∀ n,∀ S:List (HS F),S.length=n->(∀ p∈S,p∈ps)->(∀ v,hJ S v↔hJ ps v)->∃ S,sQ ps S:=by
  intro n;induction n using Nat.strongRecOn with
  |ind n ih=>
   intro S hl h1 h2;by_cases h:∃ T:List (HS F),(∀ p∈T,p∈ps)/\(∀ v,hJ T v↔hJ ps v)/\T.length<n
   ·obtain⟨T,t1,t2,t3⟩:=h;exact ih _ t3 T rfl t1 t2
   ·refine⟨S,h1,h2,λT t1 t2=>?_⟩;rcases eU T.length S.length with ao|fG
    ·exact(h ⟨T,t1,t2,by omega⟩).elim
    ·exact fG
 exact key _ ps rfl (λ_ h=>h) (λ_=>Iff.rfl)
theorem sQ.alone{ps A B:List (HS F)}{p:HS F}(h:sQ ps (A++p::B)):∃ y,hJ (A++B) y/\p.d<dot p.n y:=by
 apply jo;intro fJ;have hT:∀ v,hJ (A++B) v↔hJ ps v:=by
  intro v;rw[<-h.same v];constructor
  ·intro hv q hq;rcases eA.1 hq with hq|hq
   ·exact hv q (uA _ hq)
   ·rcases b9.1 hq with rfl|hq
    ·exact OF.not_lt.1 λao=>fJ ⟨v,hv,ao⟩
    ·exact hv q (vA _ hq)
  ·intro hv q hq;refine hv q ?_;rcases eA.1 hq with hq|hq
   ·exact uA _ hq
   ·exact vA _ (bw _ hq)
 have:=h.least (A++B) (λq hq=>h.sub q (by
  rcases eA.1 hq with hq|hq
  ·exact uA _ hq
  ·exact vA _ (bw _ hq))) hT
 simp at this;omega
theorem sQ.Kp{ps A B:List (HS F)}{p:HS F}(h:sQ ps (A++p::B)){x:V3 F}(hx:Bo ps x):∃ z,dS p z/\∀ q∈A++B,dot q.n z<q.d:=by
 obtain⟨y,hy,hpy⟩:=h.alone;have hpx:dot p.n x<p.d:=hx p (h.sub p (vA _ (aL ..)));have xw:0<dot p.n y-dot p.n x:=OF.sub_pos.2 (OF.lt_trans hpx hpy);have hda:0<p.d-dot p.n x:=OF.sub_pos.2 hpx;obtain⟨t,ht⟩:∃ t,t=(p.d-dot p.n x)*(dot p.n y-dot p.n x)⁻¹:=⟨_,rfl⟩;have vE:0<t:=ht▸OF.mul_pos hda (OF.inv_pos xw);have MQ:(dot p.n y-dot p.n x)*t=p.d-dot p.n x:=by rw[ht,CR.mul_left_comm,OF.lI _ (OF.ne_of_gt xw),CR.mul_one]
 have iE:t<1:=by rw[<-OF.mul_lt_mul_left xw,MQ,CR.mul_one];rw[<-OF.sub_pos,show dot p.n y-dot p.n x-(p.d-dot p.n x)=dot p.n y-p.d from k6 (dot p.n x) (dot p.n y) p.d (λa b d=>b-a-(d-a)) (λa b d=>b-d) d_];exact OF.sub_pos.2 hpy
 refine⟨x+smul (y-x) t,?_,λq hq=>?_⟩
 ·unfold dS;rw[k7,iT,k8,MQ];exact kt (dot p.n x) p.d (λa d=>a+(d-a)) (λa d=>d) d_
 ·rw[k7,iT,k8];have q1:dot q.n x<q.d:=hx q (h.sub q (by
   rcases eA.1 hq with hq|hq
   ·exact uA _ hq
   ·exact vA _ (bw _ hq)))
  have q2:=hy q hq;have e:q.d-(dot q.n x+(dot q.n y-dot q.n x)*t)=(1-t)*(q.d-dot q.n x)+t*(q.d-dot q.n y):=ER (dot q.n x) (dot q.n y) q.d t (λa b d t=>d-(a+(b-a)*t)) (λa b d t=>(1-t)*(d-a)+t*(d-b)) d_;rw[<-OF.sub_pos,e];exact OF.He (OF.mul_pos (OF.sub_pos.2 iE) (OF.sub_pos.2 q1)) (OF.mul_nonneg (OF.le_of_lt vE) (OF.sub_nonneg.2 q2))
theorem l5.back{ps:List (HS F)}{p:HS F}(hp:p∈ps){v:V3 F}(h:l5 (⟨-p.n,-p.d⟩::ps) v):l5 ps v/\dS p v:=by
 obtain⟨cx,a,ha,b,hb,c,hc,hd,ta,tb,tc⟩:=h;have tp:dS p v:=by
  have h1:=cx _ (aL ..);dsimp only at h1;rw[Bh]at h1;have h1:p.d<=dot p.n v:=by rw[<-OF.sub_nonneg]at h1 ⊢;rwa[show -p.d - -dot p.n v=dot p.n v-p.d from kt (dot p.n v) p.d (λa d=>-d - -a) (λa d=>a-d) d_]at h1
  exact OF.le_antisymm (cx p (bw _ hp)) h1
 have aR3:hJ ps v:=λq hq=>cx q (bw _ hq)
 -- a pY of the list with the same normal,vl for Um sign
 have bF:∀ q∈(⟨-p.n,-p.d⟩::ps:List (HS F)),dS q v->∃ q'∈ps,dS q' v/\(q'.n=q.n\/q.n=-q'.n):=by
  intro q hq tq;rcases b9.1 hq with rfl|hq
  ·exact⟨p,hp,tp,.inr rfl⟩
  ·exact⟨q,hq,tq,.inl rfl⟩
 obtain⟨a',gV,ta',ea⟩:=bF a ha ta;obtain⟨b',kD,tb',eb⟩:=bF b hb tb;obtain⟨c',kj,tc',ec⟩:=bF c hc tc;refine⟨⟨aR3,a',gV,b',kD,c',kj,λe=>hd ?_,ta',tb',tc'⟩,tp⟩;have n1:∀ u v w:V3 F,cI (-u) v w=-cI u v w:=λu v w=>ring [u,v,w] [] (λV _=>cI (-V 0) (V 1) (V 2)) (λV _=>-cI (V 0) (V 1) (V 2)) d_;have n2:∀ u v w:V3 F,cI u (-v) w=-cI u v w:=λu v w=>ring [u,v,w] [] (λV _=>cI (V 0) (-V 1) (V 2)) (λV _=>-cI (V 0) (V 1) (V 2)) d_;have n3:∀ u v w:V3 F,cI u v (-w)=-cI u v w:=λu v w=>ring [u,v,w] [] (λV _=>cI (V 0) (V 1) (-V 2)) (λV _=>-cI (V 0) (V 1) (V 2)) d_;rcases ea with ea|ea<;>rcases eb with eb|eb<;>rcases ec with ec|ec<;>
  (first|rw[<-ea]|rw[ea,n1])<;>(first|rw[<-eb]|rw[eb,n2])<;>(first|rw[<-ec]|rw[ec,n3])<;>rw[e]<;>(try simp only[CR.neg_zero])
theorem sQ.Ir{ps A B:List (HS F)}{p:HS F}(hc:Cl ps)(hp:j6 ps)(h:sQ ps (A++p::B)){x m:V3 F}(hx:Bo ps x)(hm:aw p.n m≠0):
  ∃ v w,l5 ps v/\dS p v/\l5 ps w/\dS p w/\dot m w<dot m v:=by
 obtain⟨z,hz,hq⟩:=h.Kp hx;have iJ:p∈ps:=h.sub p (vA _ (aL ..));obtain⟨e,he⟩:∃ e,e=aw (aw p.n m) p.n:=⟨_,rfl⟩;have pe:dot p.n e=0:=by rw[he];exact C3 _ _
 have me:0<dot m e:=by
  have:dot m e=dot (aw p.n m) (aw p.n m):=by rw[he];exact ring [p.n,m] [] (λV _=>dot (V 1) (aw (aw (V 0) (V 1)) (V 0))) (λV _=>dot (aw (V 0) (V 1)) (aw (V 0) (V 1))) d_
  rw[this];exact T8 hm
 obtain⟨t,ht,qk⟩:=aFc ((A++B).map (λq=>(dot q.n e,q.d-dot q.n z))++(A++B).map (λq=>(-dot q.n e,q.d-dot q.n z))) λy hy=>by
  rcases eA.1 hy with hy|hy
  ·obtain⟨q,k9,rfl⟩:=de.1 hy;exact OF.sub_pos.2 (hq q k9)
  ·obtain⟨q,k9,rfl⟩:=de.1 hy;exact OF.sub_pos.2 (hq q k9)
 have aFd:∀ s:F,(∀ q∈A++B,dot q.n e*s<=q.d-dot q.n z)->hJ (⟨-p.n,-p.d⟩::ps) (z+smul e s):=by
  intro s hs;have hS:hJ (A++p::B) (z+smul e s):=by
   intro q k9;rw[k7,iT];have other:q∈A++B->dot q.n z+dot q.n e*s<=q.d:=λk9=>by have:=hs q k9;rw[<-OF.sub_nonneg]at this ⊢;rwa[show q.d-dot q.n z-dot q.n e*s=q.d-(dot q.n z+dot q.n e*s)from k6 q.d (dot q.n z) (dot q.n e*s) (λa b c=>a-b-c) (λa b c=>a-(b+c)) d_]at this
   rcases eA.1 k9 with k9|k9
   ·exact other (uA _ k9)
   ·rcases b9.1 k9 with rfl|k9
    ·rw[pe,CR.zero_mul,CR.add_zero];exact OF.le_of_eq hz
    ·exact other (vA _ k9)
  have cx:=(h.same _).1 hS;intro q k9;rcases b9.1 k9 with rfl|k9
  ·dsimp only;rw[Bh,k7,iT,pe,CR.zero_mul,CR.add_zero,show dot p.n z=p.d from hz];exact OF.le_refl _
  ·exact cx q k9
 have kj:Cl (⟨-p.n,-p.d⟩::ps):=Cl.more hc hp λq hq=>bw _ hq;have jg:j6 (⟨-p.n,-p.d⟩::ps):=λq hq=>by
  rcases b9.1 hq with rfl|hq
  ·exact λe=>hp p iJ (V3.neg_eq_zero.1 e)
  ·exact hp q hq
 have i1:=aFd t λq k9=>qk _ (uA _ (de.2 ⟨q,k9,rfl⟩));have i2:=aFd (-t) λq k9=>by have:=qk _ (vA _ (de.2 ⟨q,k9,rfl⟩));dsimp only at this;rwa[CR.neg_mul,<-CR.mul_neg]at this
 obtain⟨v,hv,hmv⟩:=top kj jg (m:=m) i1;obtain⟨w,hw,uJ⟩:=top kj jg (m:=-m) i2;obtain⟨v1,v2⟩:=hv.back iJ;obtain⟨w1,w2⟩:=hw.back iJ;refine⟨v,w,v1,v2,w1,w2,?_⟩;rw[Bh,Bh]at uJ;have uJ:dot m w<=dot m (z+smul e (-t)):=by rw[<-OF.sub_nonneg]at uJ ⊢;rwa[show -dot m w - -dot m (z+smul e (-t))=dot m (z+smul e (-t))-dot m w from kt (dot m w) (dot m (z+smul e (-t))) (λa b=>-a - -b) (λa b=>b-a) d_]at uJ
 refine OF.lt_of_le_of_lt uJ (OF.lt_of_lt_of_le ?_ hmv);rw[k7,iT,k7,iT,<-OF.sub_pos,show dot m z+dot m e*t-(dot m z+dot m e*-t)=dot m e*t+dot m e*t from k6 (dot m z) (dot m e) t (λa b t=>a+b*t-(a+b*-t)) (λa b t=>b*t+b*t) d_];have:=OF.mul_pos me ht;exact OF.add_pos this this
theorem aR4{a b:V3 F}(ha:a≠0):∃ u:V3 F,u≠0/\dot a u=0/\dot b u=0:=by
 by_cases h:aw a b=0
 ·obtain⟨u,hu,OL⟩:=Kj ha;exact⟨u,hu,OL,Ot ha h OL⟩
 ·exact⟨_,h,E8 _ _,C3 _ _⟩
theorem WE{a b c:V3 F}(ha:a≠0):∃ u:V3 F,u≠0/\dot a u<=0/\dot b u<=0/\dot c u<=0:=by
 obtain⟨u,hu,h1,h2⟩:=aR4 (b:=b) ha;rcases OF.le_total (dot c u) 0 with h|h
 ·exact⟨u,hu,OF.le_of_eq h1,OF.le_of_eq h2,h⟩
 ·refine⟨-u,λe=>hu (V3.neg_eq_zero.1 e),?_,?_,?_⟩
  ·rw[tx,h1,CR.neg_zero];exact OF.le_refl _
  ·rw[tx,h2,CR.neg_zero];exact OF.le_refl _
  ·rw[tx];exact OF.JT.2 h
theorem sQ.four{ps S:List (HS F)}(hc:Cl ps)(hp:j6 ps)(h:sQ ps S){x:V3 F}(hx:Bo ps x):4<=S.length:=by
 apply jo;intro ao;have hu:∃ u:V3 F,u≠0/\∀ p∈S,dot p.n u<=0:=by
  match S,ao,h with
  |[],_,_=>
   obtain⟨⟨p,iJ,_⟩,_⟩:=hc;exact⟨p.n,hp p iJ,λq hq=>(by cases hq)⟩
  |[a],_,h=>
   obtain⟨u,hu,h1,_,_⟩:=WE (a:=a.n) (b:=a.n) (c:=a.n) (hp a (h.sub a s_));exact⟨u,hu,λq hq=>by simp at hq;subst hq;exact h1⟩
  |[a,b],_,h=>
   obtain⟨u,hu,h1,h2,_⟩:=WE (a:=a.n) (b:=b.n) (c:=a.n) (hp a (h.sub a s_));exact⟨u,hu,λq hq=>by simp at hq;rcases hq with rfl|rfl<;>assumption⟩
  |[a,b,c],_,h=>
   obtain⟨u,hu,h1,h2,h3⟩:=WE (a:=a.n) (b:=b.n) (c:=c.n) (hp a (h.sub a s_));exact⟨u,hu,λq hq=>by simp at hq;rcases hq with rfl|rfl|rfl<;>assumption⟩
  |_::_::_::_::_,ao,_=>simp at ao
 obtain⟨u,hu,aU⟩:=hu;obtain⟨r,hr,WG⟩:=hc.bounds hp hu;have hrx:=hx r hr;obtain⟨t,ht⟩:∃ t,t=(r.d-dot r.n x)*(dot r.n u)⁻¹+1:=⟨_,rfl⟩;have vE:0<t:=ht▸OF.add_pos (OF.mul_pos (OF.sub_pos.2 hrx) (OF.inv_pos WG)) OF.zero_lt_one;have cx:hJ ps (x+smul u t):=by
  rw[<-h.same];intro q hq;rw[k7,iT];have h1:=aU q hq;have h2:dot q.n u*t<=0:=by rw[<-CR.neg_neg (dot q.n u*t),OF.JT,<-CR.neg_mul];exact OF.mul_nonneg (OF.neg_nonneg.2 h1) (OF.le_of_lt vE)
  have h3:=OF.add_le_add (OF.le_of_lt (hx q (h.sub q hq))) h2;rwa[CR.add_zero]at h3
 have h1:=cx r hr;rw[k7,iT,ht,CR.mul_add,CR.mul_left_comm,OF.lI _ (OF.ne_of_gt WG),CR.mul_one,CR.mul_one]at h1;rw[<-OF.sub_nonneg,show r.d-(dot r.n x+(r.d-dot r.n x+dot r.n u))=-dot r.n u from k6 r.d (dot r.n x) (dot r.n u) (λd a b=>d-(a+(d-a+b))) (λd a b=>-b) d_,OF.neg_nonneg]at h1;exact OF.lt_irrefl _ (OF.lt_of_lt_of_le WG h1)
end
end
section
open CR OF
open V3 (dot aw cI smul)
theorem aFe{x:K}:¬OF.aB x<=0↔0<x:=by rw[OF.iz];rcases OF.iH x with h|h|h<;>rw[h]<;>decide
theorem aFf{x:K}:OF.aB x<=0↔x<=0:=by rw[OF.S4];rcases OF.iH x with h|h|h<;>rw[h]<;>decide
theorem aFg{d:V3 K}:xY ps d=false↔∃ r∈ps,0<dot r.n d:=by
 unfold xY;rw[Is];constructor
 ·rintro⟨r,hr,h⟩
  exact⟨r,hr,aFe.1 (by simpa using h)⟩
 ·rintro⟨r,hr,h⟩
  exact⟨r,hr,by simpa using aFe.2 h⟩
theorem WH{ps:c_}{f:Bool}{i:Nat}:∀ n,oO ps f i n=true↔f=true/\∀ j,j<n->mV ps i j=0\/BN ps (mV ps i j)=true
 |0=>⟨λh=>⟨h,λj hj=>by omega⟩,λh=>h.1⟩
 |n+1=>by
  unfold oO;by_cases h:mV ps i n=0
  ·rw[au h,WH n];refine⟨λ⟨h1,h2⟩=>⟨h1,λj hj=>?_⟩,λ⟨h1,h2⟩=>⟨h1,λj hj=>h2 j o_⟩⟩;rcases eU j n with hl|hl
   ·exact h2 j hl
   ·have:j=n:=by omega
    subst this;exact .inl h
  ·rw[al h,cY,WH n];refine⟨λ⟨⟨h1,h2⟩,h3⟩=>⟨h1,λj hj=>?_⟩,λ⟨h1,h2⟩=>⟨⟨h1,λj hj=>h2 j o_⟩,(h2 n o_).resolve_left h⟩⟩;rcases eU j n with hl|hl
   ·exact h2 j hl
   ·have:j=n:=by omega
    subst this;exact .inr h3
theorem WI{ps:c_}:∀ n,mn ps n=true↔∀ i j,i<n->j<i->mV ps i j=0\/BN ps (mV ps i j)=true
 |0=>⟨λ_ i j hi=>by omega,λ_=>rfl⟩
 |n+1=>by
  unfold mn;rw[WH,WI n];refine⟨λ⟨h1,h2⟩ i j hi hj=>?_,λh=>⟨λi j hi hj=>h i j o_ hj,λj hj=>h n j o_ hj⟩⟩;rcases eU i n with hl|hl
  ·exact h1 i j hl hj
  ·have:i=n:=by omega
   subst this;exact h2 j hj
theorem WJ:vY ps=true↔Cl ps:=by
 unfold vY DJ;rw[cY,aY];have sw:∀ p q:HS K,aw q.n p.n=-aw p.n q.n:=λp q=>V3.HC _ _;have bad:∀{i j:Nat},zR ps i j=false↔(mV ps i j≠0->(∃ r∈ps,0<dot r.n (mV ps i j))/\∃ r∈ps,0<dot r.n (-mV ps i j)):=by
  intro i j;unfold zR;rw[Bool.and_eq_false_iff,Mf,aFg,aFg,Y5];constructor
  ·rintro(h|h) h0
   ·exact absurd h0 h
   ·exact h
  ·intro h;by_cases h0:mV ps i j≠0
   ·exact .inr (h h0)
   ·exact .inl h0
 have zY:∀{p q:HS K} {i j:Nat},ps[i]?=some p->ps[j]?=some q->mV ps i j=aw p.n q.n:=λhp hq=>by unfold mV;rw[Ik hp,Ik hq]
 constructor
 ·rintro⟨h1,h2⟩
  have hb:∀ i j,i<ps.length->j<i->zR ps i j=false:=λi j hi hj=>by have:=h1 i (kk.2 hi);rw[aY]at this;simpa using this j (kk.2 hj)
  have pz:¬mn ps ps.length=true:=by simpa using h2
  rw[WI]at pz;refine⟨?_,λp hp q hq bd=>?_⟩
  ·apply jo;intro fJ;refine pz λi j hi hj=>.inl ?_;rw[zY (aW hi) (aW (lD hj hi))];exact jo λh=>fJ ⟨_,dK _,_,dK _,h⟩
  ·obtain⟨i,hi,rfl⟩:=kN hp;obtain⟨j,hj,rfl⟩:=kN hq;rcases sO i j with h|h|h
   ·have:=bad.1 (hb j i hj h);rw[zY (aW hj) (aW hi)]at this;rw[sw ps[j] ps[i]];exact(this λe=>bd (by rw[sw,e];exact V3.neg_eq_zero.2 rfl)).2
   ·subst h;exact absurd (V3.Ki _) bd
   ·have:=bad.1 (hb i j hi h);rw[zY (aW hi) (aW hj)]at this;exact(this bd).1
 ·rintro⟨⟨p,hp,q,hq,bd⟩,aU⟩
  refine⟨λi hi=>?_,?_⟩
  ·have hi:=kk.1 hi;rw[aY];intro j hj;have hj:=kk.1 hj;have hp:=aW hi;have hq:=aW (lD hj hi);have:zR ps i j=false:=bad.2 λh0=>by rw[zY hp hq]at h0 ⊢;refine⟨aU _ (cN hp) _ (cN hq) h0,?_⟩;rw[<-sw];exact aU _ (cN hq) _ (cN hp) λe=>h0 (by rw[sw,e];exact V3.neg_eq_zero.2 rfl)
   rw[this];rfl
  ·obtain⟨i,hi,rfl⟩:=kN hp;obtain⟨j,hj,rfl⟩:=kN hq;have key:∀ i j (hi:i<ps.length) (hj:j<ps.length),j<i->aw ps[i].n ps[j].n≠0->(!mn ps ps.length)=true:=by
    intro i j hi hj oU bd;have:mn ps ps.length≠true:=λhf=>by
     rcases(WI _).1 hf i j hi oU with h|h
     ·rw[zY (aW hi) (aW hj)]at h;exact bd h
     ·rw[zY (aW hi) (aW hj)]at h;obtain⟨r,hr,nS⟩:=aU _ (dK hi) _ (dK hj) bd;unfold BN at h;rw[aY]at h;have:=jh (h r hr);rw[this]at nS;exact OF.lt_irrefl _ nS
    simpa using this
   rcases sO i j with h|h|h
   ·exact key j i hj hi h λe=>bd (by rw[sw,e];exact V3.neg_eq_zero.2 rfl)
   ·subst h;exact absurd (V3.Ki _) bd
   ·exact key i j hi hj h bd
theorem WK(v:V3 K):∀ l:e_,aVb l v=mf v l
 |[]=>rfl
 |a::l=>by
  unfold aVb mf;rw[WK v l];have:(0<dW a v)↔dW a v=1:=by rcases HF a v with h|h|h<;>rw[h]<;>decide
  by_cases h0:dW a v=0
  ·rw[au h0,au h0]
  ·rw[al h0,al h0];by_cases h1:dW a v=1
   ·rw[au h1,au (this.2 h1)]
   ·rw[al h1,al (λh=>h1 (this.1 h))]
theorem aFh{q r:HS K}(h:cI p.n q.n r.n≠0):dS p (kQ p q r)/\dS q (kQ p q r)/\dS r (kQ p q r):=by unfold dS kQ H8;rw[V3.iT,V3.iT,V3.iT,aPg,CR.one_mul];have e1:=aRZ p.n q.n r.n p.d q.d r.d;have e2:=aR0 p.n q.n r.n p.d q.d r.d;have e3:=aR1 p.n q.n r.n p.d q.d r.d;rw[e1,e2,e3,CR.mul_assoc,CR.mul_assoc,CR.mul_assoc,OF.lI _ h,CR.mul_one,CR.mul_one,CR.mul_one];exact⟨rfl,rfl,rfl⟩
theorem aR5{q r:HS K}(h:cI p.n q.n r.n≠0){x:V3 K}(hp:dS p x)(hq:dS q x)(hr:dS r x):x=kQ p q r:=by
 obtain⟨h1,h2,h3⟩:=aFh h;refine V3.sub_eq_zero.1 (V3.HD h ?_ ?_ ?_)
 ·rw[V3.k8,show dot p.n x=p.d from hp,show dot p.n (kQ p q r)=p.d from h1,OF.sub_self]
 ·rw[V3.k8,show dot q.n x=q.d from hq,show dot q.n (kQ p q r)=q.d from h2,OF.sub_self]
 ·rw[V3.k8,show dot r.n x=r.d from hr,show dot r.n (kQ p q r)=r.d from h3,OF.sub_self]
def DM(ps:c_)(i j k:Nat):Prop:=cI (dZ ps i).n (dZ ps j).n (dZ ps k).n≠0/\zT ps i j k (kQ (dZ ps i) (dZ ps j) (dZ ps k))=true
theorem aR6{x:V3 K}:x∈tO ps acc i j k↔x∈acc\/(DM ps i j k/\x=kQ (dZ ps i) (dZ ps j) (dZ ps k)):=by
 unfold tO DM;by_cases h:cI (dZ ps i).n (dZ ps j).n (dZ ps k).n=0
 ·rw[au h];exact⟨.inl,λe=>e.elim id λe=>absurd h e.1.1⟩
 ·rw[al h];by_cases h2:zT ps i j k (kQ (dZ ps i) (dZ ps j) (dZ ps k))=true
  ·rw[au h2,WK,ON];exact⟨λe=>e.elim (λe=>.inr ⟨⟨h,h2⟩,e⟩) .inl,λe=>e.elim .inr λe=>.inl e.2⟩
  ·rw[al h2];exact⟨.inl,λe=>e.elim id λe=>absurd e.1.2 h2⟩
theorem aR7(h:acc.Pairwise jH):(tO ps acc i j k).Pairwise jH:=by
 unfold tO;split
 ·exact h
 ·split
  ·rw[WK];exact Ux h
  ·exact h
theorem aFi{ps:c_}{acc:e_}{i j:Nat}{x:V3 K}:∀ n,x∈oP ps acc i j n↔x∈acc\/∃ k,k<n/\DM ps i j k/\x=kQ (dZ ps i) (dZ ps j) (dZ ps k)
 |0=>⟨.inl,λe=>e.elim id λ⟨k,h,_⟩=>by omega⟩
 |n+1=>by
  unfold oP;rw[aR6,aFi n];constructor
  ·rintro((h|⟨k,h1,h2⟩)|h)
   ·exact .inl h
   ·exact .inr ⟨k,by omega,h2⟩
   ·exact .inr ⟨n,by omega,h⟩
  ·rintro(h|⟨k,h1,h2⟩)
   ·exact .inl (.inl h)
   ·rcases eU k n with hl|hl
    ·exact .inl (.inr ⟨k,hl,h2⟩)
    ·have:k=n:=by omega
     subst this;exact .inr h2
theorem aFj{ps:c_}{acc:e_}{i:Nat}{x:V3 K}:∀ n,x∈nI ps acc i n↔x∈acc\/∃ j k,j<n/\k<j/\DM ps i j k/\x=kQ (dZ ps i) (dZ ps j) (dZ ps k)
 |0=>⟨.inl,λe=>e.elim id λ⟨k,_,h,_⟩=>by omega⟩
 |n+1=>by
  unfold nI;rw[aFi,aFj n];constructor
  ·rintro((h|⟨j,k,h1,h2⟩)|⟨k,h⟩)
   ·exact .inl h
   ·exact .inr ⟨j,k,by omega,h2⟩
   ·exact .inr ⟨n,k,by omega,h⟩
  ·rintro(h|⟨j,k,h1,h2⟩)
   ·exact .inl (.inl h)
   ·rcases eU j n with hl|hl
    ·exact .inl (.inr ⟨j,k,hl,h2⟩)
    ·have:j=n:=by omega
     subst this;exact .inr ⟨k,h2⟩
theorem aFk{ps:c_}{x:V3 K}:∀ n,x∈ry ps n↔∃ i j k,i<n/\j<i/\k<j/\DM ps i j k/\x=kQ (dZ ps i) (dZ ps j) (dZ ps k)
 |0=>⟨λh=>(by cases h),λ⟨i,_,_,h,_⟩=>by omega⟩
 |n+1=>by
  unfold ry;rw[aFj,aFk n];constructor
  ·rintro(⟨i,j,k,h1,h2⟩|⟨j,k,h⟩)
   ·exact⟨i,j,k,by omega,h2⟩
   ·exact⟨n,j,k,by omega,h⟩
  ·rintro⟨i,j,k,h1,h2⟩
   rcases eU i n with hl|hl
   ·exact .inl ⟨i,j,k,hl,h2⟩
   ·have:i=n:=by omega
    subst this;exact .inr ⟨j,k,h2⟩
theorem aFl{ps:c_}{acc:e_}{i j:Nat}(h:acc.Pairwise jH):∀ n,(oP ps acc i j n).Pairwise jH
 |0=>h
 |n+1=>aR7 (aFl h n)
theorem aFm{ps:c_}{acc:e_}{i:Nat}(h:acc.Pairwise jH):∀ n,(nI ps acc i n).Pairwise jH
 |0=>h
 |n+1=>aFl (aFm h n) _
theorem aFn{ps:c_}:∀ n,(ry ps n).Pairwise jH
 |0=>aBM
 |n+1=>aFm (aFn n) _
theorem aR8(hi:i<ps.length)(hj:j<ps.length)(hk:k<ps.length)(h:DM ps i j k):l5 ps (kQ (dZ ps i) (dZ ps j) (dZ ps k)):=by
 obtain⟨hd,hb⟩:=h;obtain⟨t1,t2,t3⟩:=aFh hd;have il:=aW hi;have gJ:=aW hj;have gU:=aW hk;have mi:dZ ps i∈ps:=by rw[pv il];exact dK hi
 have mj:dZ ps j∈ps:=by rw[pv gJ];exact dK hj
 have mk:dZ ps k∈ps:=by rw[pv gU];exact dK hk
 refine⟨λp hp=>?_,_,mi,_,mj,_,mk,hd,t1,t2,t3⟩;obtain⟨l,hl,rfl⟩:=kN hp;unfold zT at hb;rw[aY]at hb;have:=hb l (kk.2 hl);unfold Il at this;rw[pv (aW hl)]at this;simp only[rH,rI]at this;rcases this with rfl|rfl|rfl|h
 ·rw[pv il]at t1 ⊢;exact OF.le_of_eq t1
 ·rw[pv gJ]at t2 ⊢;exact OF.le_of_eq t2
 ·rw[pv gU]at t3 ⊢;exact OF.le_of_eq t3
 ·have:=aFf.1 h;rw[<-OF.sub_nonneg];rw[<-OF.neg_nonneg,OF.neg_sub]at this;exact this
theorem It{q r:HS K}{x:V3 K}(hp:ps[i]?=some p)(hq:ps[j]?=some q)(hr:ps[k]?=some r)(hd:cI p.n q.n r.n≠0)(hx:hJ ps x)(t1:dS p x)(t2:dS q x)(t3:dS r x):
  DM ps i j k/\x=kQ (dZ ps i) (dZ ps j) (dZ ps k):=by
 unfold DM;rw[pv hp,pv hq,pv hr];have e:=aR5 hd t1 t2 t3;refine⟨⟨hd,?_⟩,e⟩;rw[<-e];unfold zT;rw[aY];intro l hl;have hl:=kk.1 hl;rw[pv (aW hl)];unfold Il;simp only[rH,rI];refine .inr (.inr (.inr (aFf.2 ?_)));have:=hx _ (dK hl);rw[<-OF.neg_nonneg,OF.neg_sub];exact OF.sub_nonneg.2 this
theorem Qr{x:V3 K}:x∈fe ps↔l5 ps x:=by
 unfold fe;rw[aFk];constructor
 ·rintro⟨i,j,k,h1,h2,h3,h4,rfl⟩
  exact aR8 h1 o_ o_ h4
 ·rintro⟨cx,p,hp,q,hq,r,hr,hd,t1,t2,t3⟩
  obtain⟨a,ha,rfl⟩:=kN hp;obtain⟨b,hb,rfl⟩:=kN hq;obtain⟨c,hc,rfl⟩:=kN hr;have gV:=aW ha;have kD:=aW hb;have kj:=aW hc;have same:∀ u w:V3 K,cI u u w=0:=WB;have WL:∀ u w:V3 K,cI u w w=0:=WC;have WM:∀ u w:V3 K,cI u w u=0:=WD;have ab:a≠b:=λe=>by subst e;exact hd (same _ _)
  have bc:b≠c:=λe=>by subst e;exact hd (WL _ _)
  have ac:a≠c:=λe=>by subst e;exact hd (WM _ _)
  have s1:∀{u v w:V3 K},cI u v w≠0->cI u w v≠0:=λ{u v w} h e=>h (by rw[V3.aA9,e,CR.neg_zero]);have r1:∀{u v w:V3 K},cI u v w≠0->cI v w u≠0:=λ{u v w} h e=>h (by rw[V3.Oo];exact e);rcases sO a b with h1|h1|h1
  ·rcases sO b c with h2|h2|h2
   ·exact⟨c,b,a,hc,h2,h1,It kj kD gV (r1 (s1 (r1 (r1 (r1 hd))))) cx t3 t2 t1⟩
   ·exact absurd h2 bc
   ·rcases sO a c with h3|h3|h3
    ·exact⟨b,c,a,hb,h2,h3,It kD kj gV (r1 hd) cx t2 t3 t1⟩
    ·exact absurd h3 ac
    ·exact⟨b,a,c,hb,h1,h3,It kD gV kj (s1 (r1 hd)) cx t2 t1 t3⟩
  ·exact absurd h1 ab
  ·rcases sO a c with h2|h2|h2
   ·exact⟨c,a,b,hc,h2,h1,It kj gV kD (r1 (r1 hd)) cx t3 t1 t2⟩
   ·exact absurd h2 ac
   ·rcases sO b c with h3|h3|h3
    ·exact⟨a,c,b,ha,h2,h3,It gV kj kD (s1 hd) cx t1 t3 t2⟩
    ·exact absurd h3 bc
    ·exact⟨a,b,c,ha,h1,h3,It gV kD kj hd cx t1 t2 t3⟩
theorem aR9(ps:c_):(fe ps).Pairwise jH:=aFn _
theorem F2(hc:Cl ps)(hp:j6 ps)(hf:qb ps):cQ ps=fe ps:=by unfold cQ;refine Uy (UA _) (aR9 ps) λx=>?_;rw[Uz,Qr,aQC hc hp (aLl hc hp hf)]
theorem aFo(hc:Cl ps)(hp:j6 ps)(hf:qb ps){x:V3 K}:x∈cQ ps↔l5 ps x:=by rw[F2 hc hp hf,Qr]
theorem WN{vs:e_}:uO vs=false↔OJ vs:=by
 unfold uO;rw[Is];constructor
 ·rintro⟨i,hi,h⟩
  have hi:=kk.1 hi;unfold DK at h;rw[OZ,Is]at h;obtain⟨k,hk,h⟩:=h;have hk:=kk.1 hk;unfold FZ at h;rw[OZ,Is]at h;obtain⟨j,hj,h⟩:=h;have hj:=kk.1 hj;unfold Lx at h;cases vs with
  |nil=>simp at hi
  |cons o rest=>
   simp only[nL,Na]at hi;have get:∀{n:Nat} (hn:n<rest.length),aP (o::rest) (n+1)=rest[n]:=λhn=>by unfold aP;simp[aW hn]
   rw[get hi,get o_,get o_,show aP (o::rest) 0=o from rfl]at h;refine⟨o,rest,rfl,rest[j],dK _,rest[i],dK _,rest[k],dK _,λe=>?_⟩;refine h (aC ((OF.e7 _).2 ?_));rw[V3.y0];exact e
 ·rintro⟨o,rest,rfl,a,ha,b,hb,c,hc,hd⟩
  obtain⟨a,la,rfl⟩:=kN ha;obtain⟨b,lb,rfl⟩:=kN hb;obtain⟨c,lc,rfl⟩:=kN hc;have get:∀{n:Nat} (hn:n<rest.length),aP (o::rest) (n+1)=rest[n]:=λhn=>by unfold aP;simp[aW hn]
  have fin:∀(i k j:Nat) (hi:i<rest.length) (hk:k<rest.length) (hj:j<rest.length),k<i->j<k->cI (rest[j]-o) (rest[i]-o) (rest[k]-o)≠0->∃ x∈List.range ((o::rest).length-1),¬DK (o::rest) x=true:=by intro i k j hi hk hj hki bT hd;refine⟨i,kk.2 (by simpa using hi),?_⟩;unfold DK;rw[OZ,Is];refine⟨k,kk.2 hki,?_⟩;unfold FZ;rw[OZ,Is];refine⟨j,kk.2 bT,?_⟩;unfold Lx;rw[get hi,get hk,get hj,show aP (o::rest) 0=o from rfl,rI,OF.e7,V3.y0];exact hd
  have same:∀ u w:V3 K,cI u u w=0:=WB;have WL:∀ u w:V3 K,cI u w w=0:=WC;have WM:∀ u w:V3 K,cI u w u=0:=WD;have ab:a≠b:=λe=>by subst e;exact hd (same _ _)
  have bc:b≠c:=λe=>by subst e;exact hd (WL _ _)
  have ac:a≠c:=λe=>by subst e;exact hd (WM _ _)
  have s1:∀{u v w:V3 K},cI u v w≠0->cI u w v≠0:=λ{u v w} h e=>h (by rw[V3.aA9,e,CR.neg_zero]);have r1:∀{u v w:V3 K},cI u v w≠0->cI v w u≠0:=λ{u v w} h e=>h (by rw[V3.Oo];exact e);rcases sO a b with h1|h1|h1
  ·rcases sO b c with h2|h2|h2
   ·exact fin c b a lc lb la h2 h1 (s1 hd)
   ·exact absurd h2 bc
   ·rcases sO a c with h3|h3|h3
    ·exact fin b c a lb lc la h2 h3 hd
    ·exact absurd h3 ac
    ·exact fin b a c lb la lc h1 h3 (r1 (s1 hd))
  ·exact absurd h1 ab
  ·rcases sO a c with h2|h2|h2
   ·exact fin c a b lc la lb h2 h1 (r1 hd)
   ·exact absurd h2 ac
   ·rcases sO b c with h3|h3|h3
    ·exact fin a c b la lc lb h2 h3 (r1 (r1 (s1 hd)))
    ·exact absurd h3 bc
    ·exact fin a b c la lb lc h1 h3 (r1 (r1 hd))
theorem aFp{ι:Type}{R:ι->ι->Prop}:∀{l:List ι},qa R l->∀(i:Nat) (x y:ι),l[i]?=some x->l[i+1]?=some y->R x y
 |[],_,i,x,y,h,_=>by simp at h
 |[a],_,i,x,y,_,h=>by simp at h
 |a::b::l,hs,0,x,y,h,k=>by simp at h k;subst h;subst k;exact hs.1
 |a::b::l,hs,i+1,x,y,h,k=>aFp hs.2 i x y (by simpa using h) (by simpa using k)
theorem aFq{g:V3 K}{vs:e_}{on:l_}{c:Nat}:uP g vs on a c=true↔c≠a/\oJ g (aP vs) on a c:=by
 unfold uP LB;rw[cY,aY];have e:∀ b,Ip g vs a c b=true↔(b=a\/b=c\/0<turn g (aP vs a) (aP vs c) (aP vs b)):=by
  intro b;unfold Ip Qm;simp only[rH,rI];have:(0<OF.aB (cI g (aP vs c-aP vs a) (aP vs b-aP vs a)))↔0<turn g (aP vs a) (aP vs c) (aP vs b):=by rw[OF.iz];show 0<OF.aB (turn g (aP vs a) (aP vs c) (aP vs b))↔_;rcases OF.iH (turn g (aP vs a) (aP vs c) (aP vs b))with h|h|h<;>rw[h]<;>decide
  rw[this]
 constructor
 ·rintro⟨h1,h2⟩
  refine⟨by simpa using h1,λb hb xw y8=>?_⟩;rcases(e b).1 (h2 b hb)with h|h|h
  ·exact absurd h xw
  ·exact absurd h y8
  ·exact h
 ·rintro⟨h1,h2⟩
  refine⟨by simpa using h1,λb hb=>(e b).2 ?_⟩;by_cases xw:b=a
  ·exact .inl xw
  ·by_cases y8:b=c
   ·exact .inr (.inl y8)
   ·exact .inr (.inr (h2 b hb xw y8))
theorem DN{vs:e_}:i∈cv p vs vs.length↔i<vs.length/\dS p (aP vs i):=by unfold cv dS;rw[aEi,kk,rI,OF.sub_eq_zero]
theorem aFr(p:HS K)(vs:e_):(cv p vs vs.length).Pairwise (·<·):=by unfold cv;exact List.Pairwise.filter _ List.pairwise_lt_range
theorem aSa{vs:e_}(h:i<vs.length):aP vs i∈vs:=cN (lj h)
theorem aSb{vs:e_}{v:V3 K}(h:v∈vs):∃ i,i<vs.length/\aP vs i=v:=by obtain⟨i,hi,rfl⟩:=kN h;refine⟨i,hi,?_⟩;have:=lj hi;rw[aW hi]at this;injection this with this;exact this.symm
structure sR(ps:c_)(vs:e_):Prop where
 sorted:vs.Pairwise jH
 mem:∀ v,v∈vs↔l5 ps v
theorem sR.lt{vs:e_}(h:sR ps vs)(nK:i<j)(hj:j<vs.length):jH (aP vs i) (aP vs j):=by have h1:=lj (vs:=vs) (i:=i) o_;have h2:=lj hj;rw[aW o_]at h1 h2;injection h1 with h1;injection h2 with h2;rw[<-h1,<-h2];exact Lh.1 h.sorted i j o_ hj nK
theorem sR.inj{vs:e_}(h:sR ps vs)(hi:i<vs.length)(hj:j<vs.length)(e:aP vs i=aP vs j):i=j:=by
 rcases sO i j with hl|hl|hl
 ·have:=h.lt hl hj;rw[e]at this;exact absurd this (C7 _)
 ·exact hl
 ·have:=h.lt hl hi;rw[e]at this;exact absurd this (C7 _)
section
variable{ps:c_}{vs:e_}{p:HS K}
theorem sR.conv(h:sR ps vs):Conv p.n (aP vs) (cv p vs vs.length):=
 aLd (ps:=ps) (p:=p) (λi hi=>by obtain⟨h1,h2⟩:=DN.1 hi;exact⟨(h.mem _).1 (aSa h1),h2⟩) λi hi j hj e=>h.inj (DN.1 hi).1 (DN.1 hj).1 e
theorem sR.sort(h:sR ps vs):xq (aP vs) aBt (cv p vs vs.length):=by unfold xq;refine List.Pairwise.imp_of_mem (λ{a b} ha hb ao=>?_) (aFr p vs);have:=h.lt ao (DN.1 hb).1;exact Kq.1 this
theorem aSc(p:HS K)(vs:e_):(cv p vs vs.length).Nodup:=(aFr p vs).imp λ{a b} h=>Nat.ne_of_lt h
theorem sR.loop(h:sR ps vs)(hp:p.n≠0)(hl:¬(cv p vs vs.length).length<3):
  Qp p.n vs (cv p vs vs.length)=false/\aUR p.n vs (cv p vs vs.length) (order p.n (aP vs) (cv p vs vs.length))/\(order p.n (aP vs) (cv p vs vs.length)).length=(cv p vs vs.length).length:=by
 have hc:=h.conv (p:=p);have hs:=h.sort (p:=p);have jR:=aSc p vs;have cx:∀ a∈cv p vs vs.length,∀ b∈cv p vs vs.length,aP vs a=aP vs b->a=b:=λa ha b hb e=>h.inj (DN.1 ha).1 (DN.1 hb).1 e;generalize gG:cv p vs vs.length=on at *
 match on,hl,hc,hs,jR,cx with
 |a::b::c::l,_,hc,hs,jR,cx=>
  obtain⟨m,e1,e2,e3,e4⟩:=aKP hp hc hs;have hlen:(a::m).length=(a::b::c::l).length:=((List.perm_ext_iff_of_nodup e2 jR).2 e3).length_eq;refine⟨?_,⟨?_,?_,λi x y hx hy=>?_⟩,?_⟩
  ·show(c::l).all (BP p.n vs a b)=false;rw[Is];refine⟨c,aL ..,?_⟩;unfold BP Qm;rw[rI,OF.e7];simp only[List.nodup_cons,b9,not_or]at jR;exact hc.aBi hp (aL ..) (bw _ (aL ..)) (bw _ (bw _ (aL ..))) jR.1.1 jR.1.2.1 jR.2.1.1
  ·rw[e1,hlen]
  ·rw[e1];rfl
  ·rw[e1]at hx hy;have Gd:=(eB.1 hy).1;have kP:=aFp e4 i x y (by rw[I1 o_];exact hx) (by rw[I1 Gd];exact hy);have hym:=(e3 y).1 (cN hy);have km:y≠x:=by intro e;subst e;have V8:=(eB.1 hx).1;have h1:=(eB.1 hx).2;have h2:=(eB.1 hy).2;have:=(Lh.1 e2) i (i+1) V8 Gd o_;exact this (h1.trans h2.symm)
   obtain⟨k,hk,hke⟩:=kN hym;refine⟨k,by rw[aW hk,hke],aFq.2 ⟨km,kP⟩,λj z hj hz=>?_⟩;cases hf:uP p.n vs (a::b::c::l) x z with
   |false=>rfl
   |true=>
    obtain⟨q1,q2⟩:=aFq.1 hf;have:=aBp (pt:=aP vs) (n:=p.n) cx hym (cN hz) km q1 kP q2;subst this;have Qn:=(eB.1 hz).1;have hje:=(eB.1 hz).2;exact absurd (hje.trans hke.symm) (Lh.1 jR j k Qn hk hj)
  ·rw[e1,hlen]
 |[],hl,_,_,_,_=>simp at hl
 |[_],hl,_,_,_,_=>simp at hl
 |[_,_],hl,_,_,_,_=>simp at hl
theorem sR.Ir(h:sR ps vs)(hp:p.n≠0)(i:Nat):rl ps vs i p=if pr ps i p then[]else if(cv p vs vs.length).length<3 then[]else[(i,order p.n (aP vs) (cv p vs vs.length))]:=by
 unfold rl;by_cases h1:pr ps i p=true
 ·rw[au h1];exact au h1
 ·rw[al h1];refine(al h1).trans ?_;by_cases h2:(cv p vs vs.length).length<3
  ·rw[au h2,au h2]
  ·rw[al h2,al h2,au (by rw[(h.loop hp h2).2.2];omega)]
theorem aFs:∀{I J:l_},I.Nodup->(∀ x∈I,x∈J)->I.length<=J.length
 |[],_,_,_=>kB _
 |x::I,J,hn,hs=>by
  obtain⟨A,B,rfl⟩:=List.append_of_mem (hs x (aL ..));rw[List.nodup_cons]at hn;have:=aFs (J:=A++B) hn.2 λy hy=>by
   have h1:=hs y (bw _ hy);rcases eA.1 h1 with h|h
   ·exact uA _ h
   ·rcases b9.1 h with rfl|h
    ·exact absurd hy hn.1
    ·exact vA _ h
  simp only[jM,nL]at this ⊢;omega
theorem aFt(f:Nat->List (Nat×List Nat))(P:Nat->Bool)(h:∀ i,P i=true->f i≠[]):∀ l:List Nat,(l.filter P).length<=(l.flatMap f).length
 |[]=>bh _
 |i::l=>by
  rw[List.flatMap_cons,jM,Mk];have:=aFt f P h l;split
  ·rename_i hp;have:=List.length_pos_iff.2 (h i hp);rw[nL];omega
  ·omega
theorem aFu{p q:HS K}(hp:p.n≠0)(hq:q.n≠0)(h:canon p=canon q)(v:V3 K):(dot p.n v<=p.d↔dot q.n v<=q.d)/\(dS p v↔dS q v):=by
 obtain⟨k,hk,rfl⟩:=(aRY hp hq).1 h;unfold dS DL
 try dsimp only
 rw[V3.aKw,CR.mul_comm (dot p.n v),CR.mul_comm p.d];refine⟨(OF.mul_le_mul_left hk).symm,λh=>by rw[h],λh=>?_⟩;have Bd:k≠0:=OF.ne_of_gt hk;have:k⁻¹*(k*dot p.n v)=k⁻¹*(k*p.d):=by rw[h]
 rwa[<-CR.mul_assoc,<-CR.mul_assoc,OF.inv_mul Bd,CR.one_mul,CR.one_mul]at this
theorem sQ.on(hc:Cl ps)(hp:j6 ps)(hv:sR ps vs){x:V3 K}(hx:Bo ps x){A B:c_}(h:sQ ps (A++p::B)):¬(cv p vs vs.length).length<3:=by
 intro ao;have js:=hp p (h.sub p (vA _ (aL ..)));have idx:∀ v,l5 ps v->dS p v->∃ i∈cv p vs vs.length,aP vs i=v:=by intro v h1 h2;obtain⟨i,hi,e⟩:=aSb ((hv.mem v).2 h1);exact⟨i,DN.2 ⟨hi,by rw[e];exact h2⟩,e⟩
 have pl:∀ i∈cv p vs vs.length,dot p.n (aP vs i)=p.d:=λi hi=>(DN.1 hi).2;obtain⟨u,hu,Bj⟩:=Kj js;generalize cv p vs vs.length=on at *
 match on,ao,idx,pl with
 |[],_,idx,_=>
  obtain⟨v,w,v1,v2,_⟩:=h.Ir hc hp hx (E9 js hu Bj);obtain⟨i,hi,_⟩:=idx v v1 v2;cases hi
 |[o],_,idx,_=>
  obtain⟨v,w,v1,v2,w1,w2,ao⟩:=h.Ir hc hp hx (E9 js hu Bj);obtain⟨i,hi,e⟩:=idx v v1 v2;obtain⟨j,hj,e'⟩:=idx w w1 w2;simp at hi hj;subst hi;subst hj;rw[<-e,<-e']at ao;exact OF.lt_irrefl _ ao
 |[o,a],_,idx,pl=>
  by_cases hd:aP vs a-aP vs o=0
  ·have hd:=V3.sub_eq_zero.1 hd;obtain⟨v,w,v1,v2,w1,w2,ao⟩:=h.Ir hc hp hx (E9 js hu Bj);obtain⟨i,hi,e⟩:=idx v v1 v2;obtain⟨j,hj,e'⟩:=idx w w1 w2;simp at hi hj;rw[<-e,<-e']at ao;rcases hi with rfl|rfl<;>rcases hj with rfl|rfl<;>first|exact OF.lt_irrefl _ ao|(rw[hd]at ao;exact OF.lt_irrefl _ ao)
  ·have hdp:dot p.n (aP vs a-aP vs o)=0:=by rw[V3.k8,pl a s_,pl o s_,OF.sub_self]
   have cS:=E9 js hd hdp;have dx:=E9 js cS (V3.E8 _ _);obtain⟨v,w,v1,v2,w1,w2,ao⟩:=h.Ir hc hp hx dx;obtain⟨i,hi,e⟩:=idx v v1 v2;obtain⟨j,hj,e'⟩:=idx w w1 w2;have heq:dot (aw p.n (aP vs a-aP vs o)) (aP vs a)=dot (aw p.n (aP vs a-aP vs o)) (aP vs o):=by rw[<-OF.sub_eq_zero,<-V3.k8,V3.y0];exact V3.C3 _ _
   simp at hi hj;rw[<-e,<-e']at ao;rcases hi with rfl|rfl<;>rcases hj with rfl|rfl<;>first|exact OF.lt_irrefl _ ao|(rw[heq]at ao;exact OF.lt_irrefl _ ao)
 |_::_::_::_,ao,_,_=>simp only[nL]at ao;omega
theorem aSd(hc:Cl ps)(hp:j6 ps)(hv:sR ps vs)(hf:qb ps):4<=(ev ps vs ps.length).length:=by
 obtain⟨x,hx⟩:=hf;obtain⟨S,hS⟩:=aR2 ps;have h4:=hS.four hc hp hx;obtain⟨fi,j5⟩:∃ fi:HS K->Nat,fi=λp=>ps.findIdx λq=>decide (canon q=canon p):=⟨_,rfl⟩;have WO:∀ p∈S,fi p<ps.length:=λp hp=>by rw[j5];exact List.findIdx_lt_length_of_exists ⟨p,hS.sub p hp,by simp⟩
 have zY:∀ p (hp:p∈S),canon (ps[fi p]'(WO p hp))=canon p:=λp hp=>by have h1:=WO p hp;have:=List.findIdx_getElem (xs:=ps) (p:=λq=>decide (canon q=canon p)) (w:=by rw[j5]at h1;exact h1);subst j5;simpa using this
 have split:∀ i (hi:i<S.length),S=S.take i++S[i]::S.drop (i+1):=λi hi=>by rw[<-aBS hi,KQ]
 have bd:S.Pairwise λp q=>canon p≠canon q:=by
  rw[Lh];intro i j hi hj nK e;have hl:sQ ps (S.take i++S[i]::S.drop (i+1)):=by rw[<-split i hi];exact hS
  obtain⟨y,hy,ao⟩:=hl.alone;have hm:S[j]∈S.drop (i+1):=cN (i:=j-(i+1)) (by rw[DZ,show i+1+(j-(i+1))=j by omega,aW hj])
  have:=hy _ (vA _ hm);have hs:=(aFu (hp _ (hS.sub _ (dK hi))) (hp _ (hS.sub _ (dK hj))) e y).1;exact OF.lt_irrefl _ (OF.lt_of_lt_of_le ao (hs.2 this))
 have hI:(S.map fi).Nodup:=by
  unfold List.Nodup;rw[List.pairwise_map];refine List.Pairwise.imp_of_mem (λ{a b} ha hb bW e=>bW ?_) bd;have h1:=zY a ha;have h2:=zY b hb;rw[<-h1,<-h2]
  congr 1
  have:∀(i j:Nat) (hi:i<ps.length) (hj:j<ps.length),i=j->ps[i]=ps[j]:=λi j hi hj e=>by subst e;rfl
  exact this _ _ _ _ e
 have aSe:∀ i∈S.map fi,i<ps.length/\lM ps vs i≠[]:=by
  intro i hi;obtain⟨p,Qs,rfl⟩:=de.1 hi;have ao:=WO p Qs;have aFv:=zY p Qs;refine⟨ao,?_⟩;unfold lM;rw[aW ao];dsimp only;have js:=hp _ (hS.sub p Qs);have zj:=hp _ (dK ao);rw[hv.Ir zj];have tJ:¬pr ps (fi p) ps[fi p]=true:=by
   unfold pr;rw[rF]
   rintro⟨q,hq,hd⟩
   obtain⟨j,hj,rfl⟩:=kN hq;rw[jn]at hj;rw[Wi,aFv]at hd;have hd:=jh hd;have hjf:j<fi p:=by omega
   rw[j5]at hjf;have:=List.not_of_lt_findIdx hjf;simp[hd]at this
  rw[al tJ];obtain⟨k,hk,rfl⟩:=kN Qs;have hl:sQ ps (S.take k++S[k]::S.drop (k+1)):=by rw[<-split k hk];exact hS
  have gG:=sQ.on hc hp hv hx hl;have heq:cv ps[fi S[k]] vs vs.length=cv S[k] vs vs.length:=by unfold cv;refine List.filter_congr λi _=>?_;have hs:=(aFu zj js aFv (aP vs i)).2;unfold dS at hs;rw[oW,OF.sub_eq_zero,OF.sub_eq_zero];exact hs
  rw[heq,al gG];exact n_
 have h1:=aFs (J:=(List.range ps.length).filter λi=>decide (lM ps vs i≠[])) hI λi hi=>by rw[aEi,kk,rI];exact aSe i hi
 have h2:=aFt (lM ps vs) (λi=>decide (lM ps vs i≠[])) (λi hi=>jh hi) (List.range ps.length);rw[fk]at h1;unfold ev;omega
end
end
section
open V3 (dot aw cI smul)
theorem aFw(F:Fact)(S:Nat):∀ v w,(F.j7 S).G v w->F.G v w:=λ_ _ h=>h.1
def WQ(ps:c_)(vs:List RV)(fs:f_):aK:=.s ps.length (bf ps) vs.length (cO vs) (n9 fs)
def Iu(ps:c_)(vs:List RV)(fs:f_):Bool:=sB ps&&(vN ps (cQ ps)&&(decide (vs=(cQ ps).map cJ)&&decide (fs=jJ ps)))
section
variable{ps:c_}{m:Nat}{vs:List RV}{fs:f_}
def LD(ps:c_)(vs:List RV)(fs:f_):aK:=.s ps.length (bf ps) vs.length (cO vs) (ij fs)
theorem aSf(ps:c_)(vs:List RV)(fs:f_):([LD ps vs fs].all aK.ok)=true:=by
 have e:(LD ps vs fs).ok=true:=by show((bf ps).all flat&&((cO vs).all flat&&true))=true;rw[dh,gA gp];rfl
 simp only[eY,fO,e,zo]
theorem zZ{vs:List RV}(h:vs.length=0):cO vs=[]:=by rw[kA h];rfl
theorem aFx(h:vV ps m)(aN:∀ x∈vs,x.Sm)(ig:vs.length<9223372036854775807)(mo:fs.length<9223372036854775807)(pq:∀ f∈fs,f.2.length<9223372036854775807):cg prog 15 [LD ps vs fs] (.bool (Iu ps vs fs)):=by
 unfold Iu;have ax:=aSf ps vs fs;unfold LD at *;by_cases hc:sB ps=true
 ·by_cases hi:vN ps (cQ ps)=true
  ·have mX:=aEx h hc hi;rw[hc,hi];have qk:∀ x∈(cQ ps).map cJ,x.Sm:=λx hx=>by obtain⟨v,hv,rfl⟩:=de.1 hx;exact(P6 h.sz v hv).sm (V2 (FP (n:=0) h.bound o_).2.1).2.2
   have heq:=aMv (a:=vs) (b:=(cQ ps).map cJ) aN qk ig;have hef:=aQY (fs:=fs) (fs':=jJ ps) mo pq;unfold aX at mX;have hlen:(cQ ps).length=((cQ ps).map cJ).length:=by rw[fk]
   rw[hlen]at mX;generalize (cQ ps).map cJ=cL at *;have e0:decide (vs=cL)=true\/decide (vs=cL)=false:=by cases decide (vs=cL)<;>simp
   rcases e0 with e0|e0
   ·rw[e0]at heq ⊢;rw[kX,kX,kX];generalize decide (fs=jJ ps)=t at *;refine gg mixed func15 ax 100 (N:=29) k_ (λw=>[
     .step 9 (ay Tryz.f15 9) [.func (.func 12) #[] #[],sl 0 ps.length] [(4,none),(5,none),(6,none),(0,some (.view (bf ps)))] (.tuple #[.agg #[sl 4 ps.length,sl 5 cL.length,cr 6],qp 0]) [(6,.fact ((n9 (jJ ps)).j7 w.heap.size)),(5,.row (cO cL) 42 30),(4,.row (bf ps) 66 40)]
      (KS (B:=ae.at w) (S:=w.heap.size) mX (.w (x:=.view (bf ps)) rfl (dh ps) jk .nil) (x:=.func 12) k_ k_ rfl (dh ps) (gA gp _) rfl (λw' hb=>Below.size hb) 4),
     .cR Tryz.f15 19 [sl 1 vs.length,sl 5 cL.length] heq (.w (x:=.view (cO vs)) rfl (gA gp _) zZ (.w (x:=.row (cO cL) 42 30) rfl (gA gp _) zZ .nil)),
     .step 27 (ay Tryz.f15 27) [.func (.func 58) #[] #[],cr 2,cr 6,Ls] [(2,some (.fact (ij fs))),(6,some (.fact ((n9 (jJ ps)).j7 w.heap.size)))] (.bool t) []
      (pg hef (.o (.oi (aEE _ _) (.p rfl .nil))) (x:=.func 58) k_ k_ rfl)]) (λw=>?_) k_
    kernel_rfl
   ·rw[e0]at heq ⊢;refine gg mixed func15 ax 100 (N:=29) k_ (λw=>[
     .step 9 (ay Tryz.f15 9) [.func (.func 12) #[] #[],sl 0 ps.length] [(4,none),(5,none),(6,none),(0,some (.view (bf ps)))] (.tuple #[.agg #[sl 4 ps.length,sl 5 cL.length,cr 6],qp 0]) [(6,.fact ((n9 (jJ ps)).j7 w.heap.size)),(5,.row (cO cL) 42 30),(4,.row (bf ps) 66 40)]
      (KS (B:=ae.at w) (S:=w.heap.size) mX (.w (x:=.view (bf ps)) rfl (dh ps) jk .nil) (x:=.func 12) k_ k_ rfl (dh ps) (gA gp _) rfl (λw' hb=>Below.size hb) 4),
     .cR Tryz.f15 19 [sl 1 vs.length,sl 5 cL.length] heq (.w (x:=.view (cO vs)) rfl (gA gp _) zZ (.w (x:=.row (cO cL) 42 30) rfl (gA gp _) zZ .nil))]) (λw=>?_) k_
    kernel_rfl
  ·have hi:vN ps (cQ ps)=false:=by simpa using hi
   rw[hc,hi];exact gg mixed func15 ax 100 (N:=29) k_ (λw=>[.cR Tryz.f15 9 [sl 0 ps.length] (aQF h hc hi) (.w (x:=.view (bf ps)) rfl (dh ps) jk .nil)]) (λw=>k_) k_
 ·have hc:sB ps=false:=by simpa using hc
  rw[hc];exact gg mixed func15 ax 100 (N:=29) k_ (λw=>[.cR Tryz.f15 9 [sl 0 ps.length] (aQE h hc) (.w (x:=.view (bf ps)) rfl (dh ps) jk .nil)]) (λw=>k_) k_
theorem aSg(h:vV ps m)(aN:∀ x∈vs,x.Sm)(ig:vs.length<9223372036854775807)(mo:fs.length<9223372036854775807)(pq:∀ f∈fs,f.2.length<9223372036854775807):cg prog 15 [WQ ps vs fs] (.bool (Iu ps vs fs)):=
 cg.Qa (aFx h aN ig mo pq) (ob.full fs).G
end
def aFy(ps:c_):aK:=WQ ps ((cQ ps).map cJ) (jJ ps)
def DO(ps:c_):Bool:=sB ps&&vN ps (cQ ps)
theorem aSh(ps:c_):(jJ ps).length<=ps.length:=by unfold jJ;rw[fk];exact Ll ps _ _
theorem aSi(nn:V3 K)(vs:e_)(l:l_):(order nn (aP vs) l).length<=2*l.length:=by
 have bE:∀ l:List Nat,(j8 nn vs l).length<=l.length:=λl=>by have:=(Lj (nn:=nn) (vs:=vs) (l:=l) l.length (bh _)).2;unfold bK at this;rw[mN]at this;unfold j8;rw[FO,List.length_tail];omega
 rw[aEf,jM];have h1:=bE l;have h2:=bE l.reverse;rw[FO]at h2;omega
theorem aFz(h:ps.length<=20):∀ f∈jJ ps,f.2.length<=1600:=by
 intro f hf;unfold jJ at hf;obtain⟨g,hg,rfl⟩:=de.1 hf;unfold ev at hg;rw[Bt]at hg;obtain⟨i,_,hg⟩:=hg;unfold lM at hg;split at hg
 ·rename_i p hp;unfold rl at hg;split at hg
  ·cases hg
  ·split at hg
   ·cases hg
   ·split at hg
    ·simp at hg;subst hg;show(List.map _ _).length<=_;rw[fk];show(order p.n (aP (cQ ps)) (cv p (cQ ps) (cQ ps).length)).length<=1600;have h1:=aSi p.n (cQ ps) (cv p (cQ ps) (cQ ps).length);have h2:=Ie p (cQ ps) (cQ ps).length;have h3:=Lp ps h;omega
    ·cases hg
 ·cases hg
section
variable{ps:c_}{m:Nat}{p:HS K}
theorem vsm(h:vV ps m):∀ x∈(cQ ps).map cJ,x.Sm:=λx hx=>by obtain⟨v,hv,rfl⟩:=de.1 hx;exact(P6 h.sz v hv).sm (V2 (FP (n:=0) h.bound o_).2.1).2.2
theorem aSj(h:vV ps m)(hs:DO ps=true):cg prog 15 [aFy ps] b_:=by have h1:=Lp ps h.len;have h2:=aSh ps;have h3:=h.len;have:=aSg (vs:=(cQ ps).map cJ) (fs:=jJ ps) h (vsm h) (by rw[fk];omega) o_ λf hf=>eX (aFz h3 f hf) d_;unfold DO at hs;unfold Iu at this;rw[cY]at hs;rw[hs.1,hs.2,aC rfl,aC rfl]at this;exact this
end
structure Iv(p:HS K)(vs:e_):Prop where
 flat:Qp p.n vs (cv p vs vs.length)=false
 seq:aUR p.n vs (cv p vs vs.length) (order p.n (aP vs) (cv p vs vs.length))
 len:(order p.n (aP vs) (cv p vs vs.length)).length=(cv p vs vs.length).length
def Iw(ps:c_)(k:Nat)(p:HS K):Bool:=(ps.take k).any λq=>decide (canon p=canon q)
theorem aSk{q:HS K}(h:ps[k]?=some q)(p:HS K):Iw ps (k+1) p=(Iw ps k p||decide (canon p=canon q)):=by unfold Iw;rw[sA,h,List.any_append];simp
section
variable{Bs:ae}{ps:c_}{vs:e_}
def Qt(n i k:Nat)(b:Bool):aM:=[(8,vI k),(7,.bool b),(6,vI i),(0,sl 0 n)]
def Ix(ps:c_):aE:=[(0,.view (bf ps))]
theorem aSl{q:HS K}{b:Bool}(hk:k<i)(hi:i<ps.length)(hp:ps[i]?=some p)(hq:ps[k]?=some q)(bP:∀ p∈ps,bB m p/\p.n≠0)(hm:100*m+1000<=aA)(h63:ps.length<=500)(ht:(b||decide (canon p=canon q))=t):
  af prog Bs 57 (aF (ag f54 2)) (Qt ps.length i k b) (Ix ps) 5 ⟨.normal,Qt ps.length i (k+1) t,Ix ps,5⟩:=by
 have sp:=bP p (cN hp);have sq:=bP q (cN hq);have hs:=aVc sp.1 sq.1 o_ o_ sp.2 sq.2;cases b with
 |true=>
  rw[Gj]at ht;subst ht;exact az [.lt 23 k i true (aC hk),.sum 25 k 1 (k+1) rfl o_]
 |false=>
  rw[wQ]at ht;rw[ht]at hs;exact az [.lt 23 k i true (aC hk),.df f54 30 0 ps.length i 40 hi k_,.ld f54 31 66 0 (i*40) (.view (bf ps)) (dp p) rfl (vK hp) k_,.df f54 34 0 ps.length k 40 o_ k_,.ld f54 35 66 0 (k*40) (.view (bf ps)) (dp q) rfl (vK hq) k_,hs.at 36,.sum 25 k 1 (k+1) rfl o_]
theorem aFA(hi:i<ps.length)(hp:ps[i]?=some p)(bP:∀ p∈ps,bB m p/\p.n≠0)(hm:100*m+1000<=aA)(h63:ps.length<=500):
  af prog Bs 57 (.block 2 (ag f54 2)) (Qt ps.length i 0 false) (Ix ps) 5 ⟨.normal,[(7,.bool (pr ps i p))],Ix ps,5⟩:=
 bO (id:=2) (ck (r:=⟨.exit 2,[(7,.bool (Iw ps i p))],Ix ps,5⟩) i (λk=>Qt ps.length i k (Iw ps k p)) (λ_=>Ix ps) (λi k _=>Iff.rfl) (λk hk=>by
  have hq:=aW (l:=ps) (i:=k) o_;exact aSl hk hi hp hq bP hm h63 (aSk hq p).symm) (by
  generalize Iw ps i p=b;exact az [.lt 23 i i false s_]) n_)
def DP(n i:Nat)(v2:i_):aM:=[(6,vI i),(0,sl 0 n),(1,v2),(4,ptr 1),(5,ptr 3)]
def ya(ps:c_)(v2:i_)(cells:ah)(c:Nat):aE:=
 [(0,.view (bf ps)),(1,.aI [.slice none 0 0,.slice none 0 0,.slice none 0 0] 28),(2,.row (bf ps) 66 40),(3,.aI [sl 2 ps.length,v2,sl 4 c] 28),(4,.row cells 50 2)]
section
variable{b o c:Nat}
theorem aSm{cells:ah}(hi:i<ps.length)(hp:ps[i]?=some p)(bP:∀ p∈ps,bB m p/\p.n≠0)(hm:300*m+1000<=aA)(h63:ps.length<=500)(ht:pr ps i p=true):
  af prog Bs 57 (aF (ag f54 0)) (DP ps.length i (.slice (some ⟨b,o,none⟩) vs.length c)) (ya ps (.slice (some ⟨b,o,none⟩) vs.length c) cells cc) 5
   ⟨.normal,DP ps.length (i+1) (.slice (some ⟨b,o,none⟩) vs.length c),ya ps (.slice (some ⟨b,o,none⟩) vs.length c) cells cc,5⟩:=by
 have lo:=aFA (Bs:=Bs) hi hp bP o_ h63;rw[ht]at lo;exact az [.lt 18 i ps.length true (aC hi),.code 2 _ _ _ _ _ lo,.sum 20 i 1 (i+1) rfl o_]
noncomputable def rcS(hi:i<ps.length)(hp:ps[i]?=some p)(bP:∀ p∈ps,bB m p/\p.n≠0)(hm:300*m+1000<=aA)(h63:ps.length<=500)(ht:pr ps i p=false)(more:bH prog Bs 57):bH prog Bs 57:=
 .lt 18 i ps.length true (aC hi)::.code 2 _ _ _ _ _ (ht▸aFA (Bs:=Bs) hi hp bP o_ h63)::.df f54 41 0 ps.length i 40 hi k_::.ld f54 42 66 0 (i*40) (.view (bf ps)) (dp p) rfl (vK hp) k_::more
theorem aSn{cells:ah}(hi:i<ps.length)(hp:ps[i]?=some p)(bP:∀ p∈ps,bB m p/\p.n≠0)(aN:∀ v∈vs,aG m v)(hm:300*m+1000<=aA)(h63:ps.length<=500)(ig:vs.length<900000)(ht:pr ps i p=false)
  (iu:∀ w,Bs.G w->c8 w (.slice (some ⟨b,o,none⟩) vs.length c) vs.length (aX vs)) (ho:(cv p vs vs.length).length<3) :
  af prog Bs 57 (aF (ag f54 0)) (DP ps.length i (.slice (some ⟨b,o,none⟩) vs.length c)) (ya ps (.slice (some ⟨b,o,none⟩) vs.length c) cells cc) 5
   ⟨.normal,DP ps.length (i+1) (.slice (some ⟨b,o,none⟩) vs.length c),ya ps (.slice (some ⟨b,o,none⟩) vs.length c) cells cc,5⟩:=by
 have sp:=bP p (cN hp);have hl:=aRL sp.1 sp.2 aN o_ ig ho;exact az (rcS hi hp bP hm h63 ht [.step 44 (ay f54 44) [.func (.func 104) #[] #[],dp p,.slice (some ⟨b,o,none⟩) vs.length c] [] (.slice none 0 0) []
   (pg hl (.p rfl (.e rfl iu .nil)) (x:=.func 104) k_ k_ rfl),.gt 47 0 0 false rfl,.sum 20 i 1 (i+1) rfl o_])
theorem aSo{cells:ah}(hi:i<ps.length)(hp:ps[i]?=some p)(bP:∀ p∈ps,bB m p/\p.n≠0)(aN:∀ v∈vs,aG m v)(hm:300*m+1000<=aA)(h63:ps.length<=500)(ig:vs.length<900000)(ht:pr ps i p=false)
  (iu:∀ w,Bs.G w->c8 w (.slice (some ⟨b,o,none⟩) vs.length c) vs.length (aX vs)) (ho:¬(cv p vs vs.length).length<3) (hk:Iv p vs) (hc:cells.length=cc*2) (Ln:cc<=500) (D0:∀ v∈cells,v.oneCell'=true) :
  af prog Bs 57 (aF (ag f54 0)) (DP ps.length i (.slice (some ⟨b,o,none⟩) vs.length c)) (ya ps (.slice (some ⟨b,o,none⟩) vs.length c) cells cc) 5
   ⟨.normal,DP ps.length (i+1) (.slice (some ⟨b,o,none⟩) vs.length c),[(0,.view (bf ps)),(1,.aI [.slice none 0 0,.slice none 0 0,.slice none 0 0] 28),(2,.row (bf ps) 66 40),(3,.aI [sl 2 ps.length,.slice (some ⟨b,o,none⟩) vs.length c,sl 7 (cc+1)] 28),(5,.row (ak (order p.n (aP vs) (cv p vs vs.length))) 3 1),(7,.row (cells++[vI i,sl 5 (ak (order p.n (aP vs) (cv p vs vs.length))).length]) 50 2)],8⟩:=by
 have sp:=bP p (cN hp);have hl:=aUU sp.1 sp.2 aN hm ig ho hk.flat hk.seq;have hlen:=hk.len;rw[nD];generalize order p.n (aP vs) (cv p vs vs.length)=l at *;generalize mA:cells++[vI i,sl 5 l.length]=cells' at *;exact az (rcS hi hp bP hm h63 ht [.step 44 (ay f54 44) [.func (.func 104) #[] #[],dp p,.slice (some ⟨b,o,none⟩) vs.length c] [(5,none)] (sl 5 l.length) [(5,.row (ak l) 3 1)]
   (r8 hl (.p rfl (.e rfl iu .nil)) (x:=.func 104) k_ k_ (hY l) 5),.gt 47 l.length 0 true (aC o_),
  .step 52 (ay f54 52) [vI i,sl 5 l.length] [] (.agg #[vI i,sl 5 l.length]) [] (Pc (t:=50) (idx:=[0,1]) k_ (λit z h1 h2=>aEk h1 h2) k_),
  .bsM f54 53 6 1 50 2 [0] (.agg #[vI 0,.slice none 0 0]) [.agg #[vI i,sl 5 l.length]] #[vI i,sl 5 l.length] (.row [vI i,sl 5 l.length] 50 2) rfl (λv hv=>by
   have hv:v∈[vI 0,.slice none 0 0]:=hv;simp at hv;rcases hv with rfl|rfl<;>rfl) d_ k_ rfl d_ d_ k_,.pP f54 54 7 4 cc 1 (cc+1) 50 2 32 cells 6 (.row [vI i,sl 5 l.length] 50 2) cells' rfl rfl rfl hc mA (λv hv=>by
   simp[Obj.cells]at hv;rcases hv with rfl|rfl<;>rfl) d_ (by simp[maxLen];omega) o_ k_,.sum 20 i 1 (i+1) rfl o_])
end
end
end
theorem aJ.aSp(h:aJ (B.jw ks) ι c w):aJ B ι c w:=
 ⟨h.base.1,h.dw,h.born,λk x b o cap e hx hl=>⟨(h.own k x b o cap e hx hl).1,λhF=>(h.own k x b o cap e hx hl).2 (.inl hF)⟩,h.inj,h.apart,h.seen,h.fa,h.one,h.rC⟩
def Kept(ks:List (Value×ah))(cs:ah):Prop:=∀ v∈cs,∀ b,iB v=some b->∃ p∈ks,iB p.1=some b
theorem Kept.snoc{cs:ah}(h:Kept ks cs)(i:Nat)(u:i_)(xs:ah):Kept ((u,xs)::ks) (cs++[vI i,u]):=λv hv b hb=>by
 rcases eA.1 hv with hv|hv
 ·obtain⟨p,hp,e⟩:=h v hv b hb;exact⟨p,bw _ hp,e⟩
 ·simp at hv;rcases hv with rfl|rfl
  ·cases hb
  ·exact⟨_,aL ..,hb⟩
section
open V3 (dot aw cI smul)
section
variable{ps:c_}{vs:e_}{b o c:Nat}
noncomputable def rC0:Code:=xD (dB f54)
noncomputable def rC1:Code:=xD (qi (dB f54))
noncomputable def rC2:Code:=xD (xD (qi (qi (dB f54))))
noncomputable def rC3:Code:=xD (qi (qi (qi (dB f54))))
theorem aSq:(f54).body=some (.seq rC0 (.seq rC1 (.seq (.seq rC2 (.block 0 (.loop (aF (ag f54 0))))) (.seq rC3 .ret)))):=k_
theorem aFB{cells:ah}(cG:∀ v∈cells,flat v=true){r:List (Nat×Nat)}(h1:(([.slice none 0 0,.slice none 0 0,.slice none 0 0]:ah).all (zv r))=true)(h3:([sl 2 ps.length,.slice (some ⟨b,o,none⟩) vs.length c,sl 4 cc].all (zv r))=true):∀ p∈ya ps (.slice (some ⟨b,o,none⟩) vs.length c) cells cc,HR r p.2:=λp hp=>by
 simp only[ya,b9,fv,fA]at hp;rcases hp with rfl|rfl|rfl|rfl|rfl
 ·exact λv hv=>aY.1 (dh ps) v hv
 ·exact h1
 ·exact λv hv=>aY.1 (dh ps) v hv
 ·exact h3
 ·exact cG
def Qu(B:ae)(ps:c_)(vs:e_)(v2:i_)(i:Nat)(a:Act)(w:h_):Prop:=
 ∃ ks cells,zL B ((ev ps vs i).map j9) ks cells/\Kept ks cells/\St (B.jw ks) 57 (DP ps.length i v2) (ya ps v2 cells (ev ps vs i).length) 5 a w
theorem aSr(qL:∀ k,B.mp k=none)(hi:i<ps.length)(bP:∀ p∈ps,bB m p/\p.n≠0)(aN:∀ v∈vs,aG m v)(hm:300*m+1000<=aA)(h63:ps.length<=500)(ig:vs.length<900000)
  (iu:∀ w,B.G w->c8 w (.slice (some ⟨b,o,none⟩) vs.length c) vs.length (aX vs)) (eG:∀ p∈ps,¬(cv p vs vs.length).length<3->Iv p vs) {a:Act} {w:h_} (h:Qu B ps vs (.slice (some ⟨b,o,none⟩) vs.length c) i a w)
  (K:Act->World->Prop) (Q:Exit->Act->World->Prop) (hK:∀ a' w',Qu B ps vs (.slice (some ⟨b,o,none⟩) vs.length c) (i+1) a' w'->K a' w'):(aF (ag f54 0)).wpIn (FW none) 0 prog (Exit.then K Q) a w:=by
 obtain⟨ks,cells,hF,Qv,hS⟩:=h;have iU:ps[i]?=some ps[i]:=aW hi;have mC:lM ps vs i=rl ps vs i ps[i]:=by unfold lM;rw[iU]
 obtain⟨gS,D0⟩:=aEl hF hS;have Ln:(ev ps vs i).length<=500:=by have:=Ll ps vs i;omega
 have aFC:∀ w,(B.jw ks).G w->c8 w (.slice (some ⟨b,o,none⟩) vs.length c) vs.length (aX vs):=λw h=>iu w h.1;have stay:lM ps vs i=[]->∀ a' w',St (B.jw ks) 57 (DP ps.length (i+1) (.slice (some ⟨b,o,none⟩) vs.length c)) (ya ps (.slice (some ⟨b,o,none⟩) vs.length c) cells (ev ps vs i).length) 5 a' w'->K a' w':=by
  intro he a' w' h';have e:ev ps vs (i+1)=ev ps vs i:=by rw[Lk,he,gY]
  exact hK a' w' ⟨ks,cells,by rw[e];exact hF,Qv,by rw[e];exact h'⟩
 by_cases tJ:pr ps i ps[i]=true
 ·have he:lM ps vs i=[]:=by rw[mC];unfold rl;rw[au (show(ps.take i).any (λq=>decide (canon ps[i]=canon q))=true from tJ)]
  exact qh (aSm hi iU bP hm h63 tJ) hS λa' w' h'=>stay he a' w' h'
 ·have Ig:pr ps i ps[i]=false:=by simpa using tJ
  by_cases ho:(cv ps[i] vs vs.length).length<3
  ·have he:lM ps vs i=[]:=by rw[mC];unfold rl;rw[al (show ¬(ps.take i).any (λq=>decide (canon ps[i]=canon q))=true from tJ),au ho]
   exact qh (aSn hi iU bP aN hm h63 ig Ig aFC ho) hS λa' w' h'=>stay he a' w' h'
  ·have hlk:=eG _ (dK hi) ho;have he:lM ps vs i=[(i,order ps[i].n (aP vs) (cv ps[i] vs vs.length))]:=by rw[mC];unfold rl;rw[al (show ¬(ps.take i).any (λq=>decide (canon ps[i]=canon q))=true from tJ),al ho,au (by rw[hlk.len];omega)]
   refine qh (aSo hi iU bP aN hm h63 ig Ig aFC ho hlk gS Ln D0) hS λa' w' h'=>?_;show K a' w';obtain⟨u,hu,xg,h2⟩:=h'.Pn (m:=5) (k:=7) rfl (hY _) rfl d_;have e:ev ps vs (i+1)=ev ps vs i++[(i,order ps[i].n (aP vs) (cv ps[i] vs vs.length))]:=by rw[Lk,he]
   have BK:=hF.snoc (i:=i) (l:=order ps[i].n (aP vs) (cv ps[i] vs vs.length)) hu xg;refine hK a' w' ⟨_,cells++[vI i,u],by rw[e,wj];exact BK,Qv.snoc i u _,?_⟩;rw[e,jM];have cG:=BK.flat;generalize cells++[vI i,u]=cells' at *;exact h2.KN qL [(0,0),(1,1),(2,2),(3,3),(4,7)] k_ rfl (aFB cG k_ k_) k_ k_ k_ k_ k_
theorem aSs(ps:c_):((bf ps).drop 0).take (ps.length*40)=bf ps:=by rw[lW,j0 (by rw[DC];exact bh _)]
theorem aSt(bP:∀ p∈ps,bB m p/\p.n≠0)(aN:∀ v∈vs,aG m v)(hm:300*m+1000<=aA)(h63:ps.length<=500)(ig:vs.length<900000)(eG:∀ p∈ps,¬(cv p vs vs.length).length<3->Iv p vs):
  aEA prog 54 66 40 ps.length (bf ps) vs.length (aX vs) (n9 ((ev ps vs ps.length).map j9)):=by
 intro w v1 b o c tF nt;have cx:uC w [fF ps,.p (.slice (some ⟨b,o,none⟩) vs.length c)] [v1,.slice (some ⟨b,o,none⟩) vs.length c]:=.cons tF (.cons rfl .nil);have ax:([fF ps,.p (.slice (some ⟨b,o,none⟩) vs.length c)].all aK.ok)=true:=by simp only[eY,fO,V6,kX,iM];rfl
 obtain⟨ι,cc,h1,h2,h3,h4,h5,h6,h7⟩:=xm cx (aY.1 ax) 0 _ _ (sZ w) n_ (λ_ _=>rfl);have qL:∀ k,(ae.at w).mp k=none:=λ_=>rfl;have iu:∀ w',(ae.at w).G w'->c8 w' (.slice (some ⟨b,o,none⟩) vs.length c) vs.length (aX vs):=λw' hb=>nt.jw hb;refine aCw (N:=57) (B:=(ae.at w).jw []) func54 aSq k_ h6 (aCp h2) h4 h3 rfl λa bK=>?_;have CH:=aSs ps;have rk:=DC ps
 have g0:∀ B:ae,af prog B 57 rC0 (jZ 0 (eM 0 [fF ps,.p (.slice (some ⟨b,o,none⟩) vs.length c)])) (jr 0 [fF ps,.p (.slice (some ⟨b,o,none⟩) vs.length c)]) 1
   ⟨.normal,[(4,ptr 1),(0,sl 0 ps.length),(1,.slice (some ⟨b,o,none⟩) vs.length c)],[(0,.view (bf ps)),(1,.aI [.slice none 0 0,.slice none 0 0,.slice none 0 0] 28)],2⟩:=λB=>az []
 have g1:∀ B:ae,af prog B 57 rC1 [(4,ptr 1),(0,sl 0 ps.length),(1,.slice (some ⟨b,o,none⟩) vs.length c)] [(0,.view (bf ps)),(1,.aI [.slice none 0 0,.slice none 0 0,.slice none 0 0] 28)] 2
   ⟨.normal,[(4,ptr 1),(5,ptr 4),(0,sl 0 ps.length),(1,.slice (some ⟨b,o,none⟩) vs.length c)],[(0,.view (bf ps)),(1,.aI [.slice none 0 0,.slice none 0 0,.slice none 0 0] 28),(3,.row (bf ps) 66 40),(4,.aI [sl 3 ps.length,.slice (some ⟨b,o,none⟩) vs.length c,.slice none 0 0] 28)],5⟩:=λB=>
  az [.KO f54 10 2 66 40 (RP.v ⟨sJ,H9⟩) k_,.P7 f54 12 3 2 0 ps.length ps.length 66 40 480 0 0 [] 0 (.view (bf ps)) (bf ps) (jL _) rfl (by show(((bf ps).drop 0).take (ps.length*40)).length=_;rw[CH,rk]) rfl (by show[]++((bf ps).drop 0).take (ps.length*40)=_;rw[CH,jy]) (aD1 ps) d_ (by simp[maxLen];omega) o_ k_,.step 14 (ay f54 14) [sl 3 ps.length,.slice (some ⟨b,o,none⟩) vs.length c] [] (.agg #[sl 3 ps.length,.slice (some ⟨b,o,none⟩) vs.length c,.slice none 0 0]) [] (Pc (t:=28) (idx:=[0,1]) k_ (λit z h1 h2=>aEv h1 h2) k_)]
 have g2:∀ B:ae,af prog B 57 rC2 [(4,ptr 1),(5,ptr 4),(0,sl 0 ps.length),(1,.slice (some ⟨b,o,none⟩) vs.length c)]
    [(0,.view (bf ps)),(1,.aI [.slice none 0 0,.slice none 0 0,.slice none 0 0] 28),(3,.row (bf ps) 66 40),(4,.aI [sl 3 ps.length,.slice (some ⟨b,o,none⟩) vs.length c,.slice none 0 0] 28)] 5
   ⟨.normal,[(6,vI 0),(0,sl 0 ps.length),(1,.slice (some ⟨b,o,none⟩) vs.length c),(4,ptr 1),(5,ptr 4)],[(0,.view (bf ps)),(1,.aI [.slice none 0 0,.slice none 0 0,.slice none 0 0] 28),(3,.row (bf ps) 66 40),(4,.aI [sl 3 ps.length,.slice (some ⟨b,o,none⟩) vs.length c,.slice none 0 0] 28)],5⟩:=λB=>az []
 refine lT (qh (g0 _) bK λa1 w1 s1=>?_);refine lT (qh (g1 _) s1 λa2 w2 s2=>?_);refine lT (lT (qh (g2 _) s2 λa3 w3 s3=>?_));refine I5 ?_;have s4:=St.aEz (k:=4) (pre:=[sl 3 ps.length,.slice (some ⟨b,o,none⟩) vs.length c]) (post:=[]) (tb:=28) s3 rfl 50 2;have i0:Qu (ae.at w) ps vs (.slice (some ⟨b,o,none⟩) vs.length c) 0 a3 w3:=⟨[],[],.nil,λv h=>(by cases h),s4.KN qL [(0,0),(1,1),(2,3),(3,4),(4,5)] k_ rfl (aFB n_ k_ k_) k_ k_ k_ k_ k_⟩;refine aCu ps.length (Qu (ae.at w) ps vs (.slice (some ⟨b,o,none⟩) vs.length c)) i0 (λi hi a' w' h' K hK=>aSr qL hi bP aN hm h63 ig iu eG h' K _ hK) λa' w' h'=>?_;obtain⟨ks,cells,hF,Qv,hS⟩:=h';have fM:aE:=ya ps (.slice (some ⟨b,o,none⟩) vs.length c) cells (ev ps vs ps.length).length;refine qh (r:=⟨.exit 0,[(4,ptr 1),(5,ptr 3)],ya ps (.slice (some ⟨b,o,none⟩) vs.length c) cells (ev ps vs ps.length).length,5⟩) (az [.lt 18 ps.length ps.length false s_]) hS λa4 w4 s4=>?_;show Code.wpIn _ _ _ _ _ _ _;refine lT (qh (r:=⟨.normal,[(4,ptr 1)],[(1,.aI [sl 2 ps.length,.slice (some ⟨b,o,none⟩) vs.length c,sl 4 (ev ps vs ps.length).length] 28),(2,.row (bf ps) 66 40),(4,.row cells 50 2)],5⟩) (az []) s4 λa5 w5 s5=>?_);refine wpIn_ret ?_;refine(aCx s5 rfl (v:=.agg #[sl 2 ps.length,.slice (some ⟨b,o,none⟩) vs.length c,sl 4 (ev ps vs ps.length).length]) k_ λav bX v' bo BL hc=>?_).1;obtain⟨us,rfl,Kh⟩:=hc.Gb;obtain⟨u1,u2,u3,e3,c1,c2,c3⟩:=IP Kh;have e2:=c2.fh rfl;subst e2;rw[show(ev ps vs ps.length).length=((ev ps vs ps.length).map j9).length by rw[fk]]at c3;have ho:=hF.out bo (BL 4 _ rfl) c3;have iO:=vk bo.aSp (BL 2 _ rfl) c1 (by rw[rk];exact bh _) (aY.1 (dh ps));rw[<-rk,mN]at iO;refine⟨u1,u3,?_,iO,ho.1,λb' kD=>Oh (ho.2 b' kD),λb' kD BK=>?_,bo.base.1⟩
 ·congr 2
  rw[<-xn (xs:=us),e3]
 ·obtain⟨o1,kS,q1⟩:=HU bo c1 kD;have Em:=bo.own 2 _ b' o1 kS (BL 2 _ rfl) rfl q1;rcases BK with BK|⟨b2,oo,pA,j,u,e,hj,kh,gM⟩
  ·obtain⟨o4,aSu,q4⟩:=HU bo c3 BK;have:=bo.inj 2 4 _ _ b' o1 kS o4 aSu (BL 2 _ rfl) rfl (BL 4 _ rfl) rfl q1 q4;cases this
  ·have hf:=hF.cells _ bo.base.2;have hl:=hf.length;have hr:=ox (len:=((ev ps vs ps.length).map j9).length*2) bo (BL 4 _ rfl) rfl hF.flat (λe=>by rw[e]) c3;have hr:c8 w5 u3 ((ev ps vs ps.length).map j9).length cells:=by
    have e:((Obj.row cells 50 2).cells.drop 0).take (((ev ps vs ps.length).map j9).length*2)=cells:=by rw[lW];exact j0 (u4 hl)
    rwa[e]at hr
   obtain⟨q,hq,e'⟩:=Qv u (Pe hr hf e hj kh) b' gM;exact Em.2 (.inr ⟨q,hq,e'⟩)
end
section
variable{ps:c_}{m M:Nat}
structure uQ(ps:c_)(m M:Nat):Prop where
 len:ps.length<=9
 pl:∀ p∈ps,bB m p/\p.n≠0
 low:120*m+365<=M
 lim:1000*M+10000<=aA
theorem uQ.sz(h:uQ ps m M):(∀ v∈fe ps,aG M v)/\(fe ps).length<=81*9:=by obtain⟨h1,h2⟩:=Ws h.pl h.low h.len ps.length (bh _);refine⟨h1,dc h2 ?_⟩;have:=h.len;omega
theorem uQ.sU(h:uQ ps m M):m<=M/\1000*m+10000<=aA/\200*m+1000<=aA/\100*M+1000<=aA/\300*M+1000<=aA/\m<=aA/\M<=aA:=by have h1:=h.low;have h2:=h.lim;have hmM:m<=M:=dc (dc (UR m (by decide:0<120)) (Jr _ 365)) h1;have q1:1000*m+10000<=aA:=dc (Lq (jq _ hmM) _) h2;have q2:200*m+1000<=aA:=dc (J2 (eZ m (by decide:200<=1000)) d_) q1;have q3:100*M+1000<=aA:=dc (J2 (eZ M (by decide:100<=1000)) d_) h2;have q4:300*M+1000<=aA:=dc (J2 (eZ M (by decide:300<=1000)) d_) h2;have q5:m<=aA:=dc (dc (UR m (by decide:0<200)) (Jr _ 1000)) q2;have q6:M<=aA:=dc (dc (UR M (by decide:0<1000)) (Jr _ 10000)) h2;exact⟨hmM,q1,q2,q3,q4,q5,q6⟩
theorem uQ.all(h:uQ ps m M):cg prog 50 [fF ps] b_:=by
 have:=aEN (ps:=ps.map cV) (m:=m) (λx hx=>by obtain⟨p,hp,rfl⟩:=de.1 hx;exact aDA (h.pl p hp).1) h.sU.2.2.2.2.2.1 (by rw[fk];have:=h.len;omega)
 rw[fk,show(ps.map cV).all ml=true by rw[aY];intro x hx;obtain⟨p,hp,rfl⟩:=de.1 hx;rw[aDz];exact aC (h.pl p hp).2]at this
 exact this
noncomputable def WR(h:uQ ps m M)(ht:vY ps=t)(more:bH prog Bs 29):bH prog Bs 29:=
 .cR f13 7 [sl 0 ps.length] h.all (.w (x:=.view (bf ps)) rfl (dh ps) jk .nil)::
 .gt 13 ps.length 100 false (aO (by have:=h.len;omega))::
 .cR f13 17 [sl 0 ps.length] (ht▸aRc (λp hp=>(h.pl p hp).1) h.sU.2.1 (by have:=h.len;omega)) (.w (x:=.view (bf ps)) rfl (dh ps) jk .nil)::more
noncomputable def aFD(h:uQ ps m M)(ht:uO (fe ps)=!t)(more:bH prog Bs 29):bH prog Bs 29:=
 .step 21 (ay f13 21) [.func (.func 52) #[] #[],sl 0 ps.length] [(2,none),(0,some (.view (bf ps)))] (sl 2 (fe ps).length) [(2,.row (aX (fe ps)) 42 30)]
  (r8 (aRv h.pl h.sU.2.2.1 h.low h.sU.2.2.2.1 h.len) (.w (x:=.view (bf ps)) rfl (dh ps) jk .nil) (x:=.func 52) k_ k_ (eD _) 2)::
 .cR f13 23 [sl 2 (fe ps).length] (by have:=aRA h.sz.1 h.sU.2.2.2.2.1 (by have:=h.sz.2;omega);rw[ht,Bool.not_not]at this;exact this) (.w (x:=.row (aX (fe ps)) 42 30) rfl (eD _) xz .nil)::more
theorem aSv{rs:List RP}(hs:∀ x∈rs,uN m x)(hm:m<=aA)(h63:rs.length<9223372036854775807)(hb:rs.all ml=false):cg prog 13 [.r rs.length (db rs)] (.tuple #[DF,qp 1]):=by
 have ha:=aEN hs hm h63;rw[hb]at ha;have ax:([aK.r rs.length (db rs)].all aK.ok)=true:=by simp only[eY,fO,aK.ok,gA iL,iM]
 exact dC func13 ax 29 (λ_=>[.cR f13 7 [sl 0 rs.length] ha (.w (x:=.view (db rs)) rfl (gA iL rs) (λh=>by rw[kA h];rfl) .nil)])
theorem aSw(h:uQ ps m M)(hc:vY ps=false):cg prog 13 [fF ps] (.tuple #[DF,qp 13]):=
 dC func13 (DH ps) 29 (λ_=>WR h hc [])
theorem aSx(h:uQ ps m M)(hc:vY ps=true)(hi:uO (fe ps)=true):cg prog 13 [fF ps] (.tuple #[DF,qp 12]):=
 dC func13 (DH ps) 29 (λ_=>WR h hc (aFD (t:=false) h hi []))
def yb(ps:c_):f_:=(ev ps (fe ps) ps.length).map j9
theorem aSy(h:uQ ps m M)(hc:vY ps=true)(hi:uO (fe ps)=false)(eG:∀ p∈ps,¬(cv p (fe ps) (fe ps).length).length<3->Iv p (fe ps)):
  Di prog 13 [fF ps] 66 40 ps.length (bf ps) 42 30 (fe ps).length (aX (fe ps)) (n9 (yb ps)) [qp 0]:=by
 have aSz:=aSt (ps:=ps) (vs:=fe ps) (m:=M) (λp hp=>⟨(h.pl p hp).1.mono h.sU.1,(h.pl p hp).2⟩) h.sz.1 h.sU.2.2.2.2.1 (by have:=h.len;omega) (by have:=h.sz.2;omega) eG;have yK:0<(fe ps).length:=by
  rcases nq (fe ps).length with h0|h0
  ·rw[kA h0]at hi;cases hi
  ·exact h0
 refine U6 (k1:=3) (k2:=2) (k3:=4) mixed func13 (DH ps) 100 (N:=29) k_ (λw=>WR h hc (aFD (t:=true) h hi [
  .step 28 (ay f13 28) [.func (.func 54) #[] #[],sl 0 ps.length,sl 2 (fe ps).length] [(3,none),(4,none),(0,some (.view (bf ps))),(2,some (.row (aX (fe ps)) 42 30))]
   (.agg #[sl 3 ps.length,sl 2 (fe ps).length,cr 4]) [(4,.fact ((n9 (yb ps)).j7 w.heap.size)),(3,.row (bf ps) 66 40)]
   (aQM (B:=ae.at w) (S:=w.heap.size) aSz (.w (x:=.view (bf ps)) rfl (dh ps) jk (.w (x:=.row (aX (fe ps)) 42 30) rfl (eD _) xz .nil)) (x:=.func 54) k_ k_ rfl (dh ps) yK (λw' hb=>Below.size hb) 3)])) (λw=>?_) d_ (dh ps) (DC ps) (eD _) (tC _) k_
 kernel_rfl
end
def kf(rs:List RP)(vs:List RV)(fs:f_):aK:=.s rs.length (db rs) vs.length (cO vs) (ij fs)
theorem aFE(rs:List RP)(vs:List RV)(fs:f_):(kf rs vs fs).ok=true:=by show((db rs).all flat&&((cO vs).all flat&&true))=true;rw[gA iL,gA gp];rfl
theorem WS{rs:List RP}(h:rs.length=0):db rs=[]:=by rw[kA h];rfl
theorem aSA{a b:List Int}(h63:a.length<9223372036854775807):cg prog 39 [.o (dM a),.o (dM b)] (.bool (decide (a=b))):=by
 have ax:([aK.o (dM a),.o (dM b)].all aK.ok)=true:=rfl;by_cases hl:a.length=b.length
 ·rcases nq a.length with h0|h0
  ·have ha:=kA h0;have hb:=kA (hl▸h0);subst ha;subst hb;exact dC func39 ax 26 (λw=>[.step 7 (ay f39 7) [cr 0] [(0,some (.fact (dM [])))] (vI 0) [] (oN k_),.step 9 (ay f39 9) [cr 1] [(1,some (.fact (dM [])))] (vI 0) [] (oN k_),.step 13 (ay f39 13) [cr 0] [(0,some (.fact (dM [])))] (vI 0) [] (oN k_)])
  ·intro w vs cx;cases cx with
   |cons h1 cx=>
   cases cx with
   |cons h2 cx=>
   cases cx;have r1:c8 w _ a.length (eQ a):=nG.row h1.1 h0;have r2:c8 w _ b.length (eQ b):=nG.row h2.1 o_;exact aPB h63 w _ (.cons r1 (.cons r2 .nil))
 ·have bW:a≠b:=λh=>hl (by rw[h]);rw[aO bW];exact dC func39 ax 26 (λw=>[.step 7 (ay f39 7) [cr 0] [(0,some (.fact (dM a)))] (vI a.length) [] (oN k_),.step 9 (ay f39 9) [cr 1] [(1,some (.fact (dM b)))] (vI b.length) [] (oN k_),.rw 10 _ b_ (tE (x:=a.length) (y:=b.length) (by simp[hl]))])
section
variable{Bs:ae}{ra rb:List RP}{va vb:List RV}{fa fb:f_}
def LF(ra:List RP)(va:List RV)(fa:f_)(k:Nat):Obj:=.aI [sl k ra.length,sl (k+1) va.length,cr (k+2)] 28
def aU9(i:Nat):aM:=[(5,vI i),(2,ptr 6),(3,ptr 7)]
def we(ra rb:List RP)(va vb:List RV)(fa fb:f_):aE:=[(0,.view (db ra)),(3,.view (db rb)),(6,LF ra va fa 0),(7,LF rb vb fb 3)]
noncomputable def smS{x y:RP}(hi:i<ra.length)(il:i<rb.length)(hx:ra[i]?=some x)(hy:rb[i]?=some y)(sx:x.Sm)(sy:y.Sm)(ht:(!t)=true↔x=y)(more:bH prog Bs 85):bH prog Bs 85:=
 .lt 35 i ra.length true (aC hi)::.df Tryz.f14 41 0 ra.length i 40 hi k_::.ld Tryz.f14 42 66 0 (i*40) (.view (db ra)) x.v rfl (vJ hx) k_::.df Tryz.f14 46 3 rb.length i 40 il k_::.ld Tryz.f14 47 66 3 (i*40) (.view (db rb)) y.v rfl (vJ hy) k_::
  .step 48 (ay Tryz.f14 48) [x.v,y.v] [] (.bool t) [] (Tv (neg:=false) k_ x y sx sy ht)::more
theorem aVx{x:RP}(hi:i<ra.length)(il:i<rb.length)(hx:ra[i]?=some x)(hy:rb[i]?=some x)(sx:x.Sm)(h63:ra.length<9223372036854775807):
  af prog Bs 85 (aF (ag Tryz.f14 0)) (aU9 i) (we ra rb va vb fa fb) 8 ⟨.normal,aU9 (i+1),we ra rb va vb fa fb,8⟩:=
 az (smS (t:=false) hi il hx hy sx sx s_ [.sum 37 i 1 (i+1) rfl o_])
theorem aSB{x y:RP}(hi:i<ra.length)(il:i<rb.length)(hx:ra[i]?=some x)(hy:rb[i]?=some y)(sx:x.Sm)(sy:y.Sm)(bd:x≠y):
  af prog Bs 85 (aF (ag Tryz.f14 0)) (aU9 i) (we ra rb va vb fa fb) 8 ⟨.ret,[(4,.bool false)],we ra rb va vb fa fb,8⟩:=
 az (smS (t:=true) hi il hx hy sx sy (by simp[bd]) [])
theorem aSC:af prog Bs 85 (aF (ag Tryz.f14 0)) (aU9 ra.length) (we ra rb va vb fa fb) 8 ⟨.exit 0,[(2,ptr 6),(3,ptr 7)],we ra rb va vb fa fb,8⟩:=
 az [.lt 35 ra.length ra.length false s_]
def yc(i:Nat):aM:=[(6,vI i),(2,ptr 6),(3,ptr 7)]
def oQ(ra rb:List RP)(va vb:List RV)(fa fb:f_):aE:=[(2,.fact (ij fa)),(5,.fact (ij fb)),(6,LF ra va fa 0),(7,LF rb vb fb 3)]
theorem aSD:∀ x∈oQ ra rb va vb fa fb,fH 8 x.2:=λx hx=>by
 simp only[oQ,b9,fv,fA]at hx;rcases hx with rfl|rfl|rfl|rfl
 ·exact λv hv=>(by cases hv)
 ·exact λv hv=>(by cases hv)
 ·intro v hv;have hv:v∈[sl 0 ra.length,sl 1 va.length,cr 2]:=hv;simp at hv;rcases hv with rfl|rfl|rfl<;>rfl
 ·intro v hv;have hv:v∈[sl 3 rb.length,sl 4 vb.length,cr 5]:=hv;simp at hv;rcases hv with rfl|rfl|rfl<;>rfl
def vw(f:Int×List Int)(k:Nat):Obj:=.view [iV f.1,cr (k+1)]
noncomputable def Qw(key m k i:Nat){f:Int×List Int}(hi:fs[i]?=some f)(HP:m<k)(ho:wH prog (ay Tryz.f14 key)=some 2):aQ prog Bs 85:=
 .step key (ay Tryz.f14 key) [cr m,vI i] [(k,none),(k+1,none),(m,some (.fact (ij fs)))] (ptr k) [(k,vw f k),(k+1,.fact (dM f.2))] (Ih ho (.self fs) hi HP)
noncomputable def WT{f:Int×List Int}(hi:i<fa.length)(h1:fa[i]?=some f)(h2:fb[i]?=some f')(ht:decide (f.1≠f'.1)=t)(more:bH prog Bs 85):bH prog Bs 85:=
 .step 52 (ay Tryz.f14 52) [cr 2] [(2,some (.fact (ij fa)))] (vI fa.length) [] (vW k_ (.self fa))::.lt 53 i fa.length true (aC hi)::Qw 59 2 8 i h1 d_ k_::Qw 65 5 10 i h2 d_ k_::.rw 68 _ (.bool t) (neZ ht)::more
noncomputable def sfT{f:Int×List Int}(h1:fa[i]?=some f)(h2:fb[i]?=some f')(h63:f.2.length<9223372036854775807)(ht:decide (f.2=f'.2)=t)(more:bH prog Bs 85):bH prog Bs 85:=
 Qw 73 2 12 i h1 d_ k_::Qw 79 5 14 i h2 d_ k_::
  .cR Tryz.f14 82 [cr 13,cr 15] (ht▸aSA h63) (.o (.o .nil))::more
theorem aFF{f:Int×List Int}(hi:i<fa.length)(q1:fa[i]?=some f)(q2:fb[i]?=some f')(h63:f.2.length<9223372036854775807)(Wl:fa.length<9223372036854775807)(ht:f=f'):
  af prog Bs 85 (aF (ag Tryz.f14 2)) (yc i) (oQ ra rb va vb fa fb) 8 ⟨.normal,yc (i+1),oQ ra rb va vb fa fb,8⟩:=by
 have h1:decide (f.1≠f'.1)=false:=by rw[ht];simp
 have h2:decide (f.2=f'.2)=true:=by rw[ht];simp
 exact ue mixed 100 (fY:=16) (WT hi q1 q2 h1 (sfT q1 q2 h63 h2 [.sum 55 i 1 (i+1) rfl o_])) k_ rfl k_ aSD k_
theorem aSE:af prog Bs 85 (aF (ag Tryz.f14 2)) (yc fa.length) (oQ ra rb va vb fa fb) 8 ⟨.exit 2,[],oQ ra rb va vb fa fb,8⟩:=
 az [.step 52 (ay Tryz.f14 52) [cr 2] [(2,some (.fact (ij fa)))] (vI fa.length) [] (vW k_ (.self fa)),.lt 53 fa.length fa.length false s_]
def WU(ra rb:List RP)(va vb:List RV)(fa fb:f_):Bool:=decide (ra=rb)&&(decide (va=vb)&&decide (fa=fb))
noncomputable def F3{na:Bool}(h1:decide (ra.length≠rb.length)=na)(more:bH prog Bs 85):bH prog Bs 85:=.rw 13 _ (.bool na) (tE h1)::more
noncomputable def Iy{nb:Bool}(h2:decide (fa.length≠fb.length)=nb)(more:bH prog Bs 85):bH prog Bs 85:=
 .step 17 (ay Tryz.f14 17) [cr 2] [(2,some (.fact (ij fa)))] (vI fa.length) [] (vW k_ (.self fa))::.step 20 (ay Tryz.f14 20) [cr 5] [(5,some (.fact (ij fb)))] (vI fb.length) [] (vW k_ (.self fb))::.rw 21 _ (.bool nb) (tE h2)::more
noncomputable def LG(hV:cg prog 35 [.r va.length (cO va),.r vb.length (cO vb)] (.bool t))(more:bH prog Bs 85):bH prog Bs 85:=
 .cR Tryz.f14 28 [sl 1 va.length,sl 4 vb.length] hV (.w (x:=.view (cO va)) rfl (gA gp _) zZ (.w (x:=.view (cO vb)) rfl (gA gp _) zZ .nil))::more
theorem aSF(ha:∀ x∈ra,x.Sm)(hb:∀ x∈rb,x.Sm)(fZ:∀ x∈va,x.Sm)(kW:∀ x∈vb,x.Sm)(hn:ra.length<9223372036854775807)(ig:va.length<9223372036854775807)(mo:fa.length<9223372036854775807)(pq:∀ f∈fa,f.2.length<9223372036854775807):
  cg prog 14 [kf ra va fa,kf rb vb fb] (.bool (WU ra rb va vb fa fb)):=by
 have ax:([kf ra va fa,kf rb vb fb].all aK.ok)=true:=by simp only[eY,fO,aFE,zo]
 have hV:=aPy fZ kW ig;unfold WU;unfold kf at *;by_cases hl:ra.length=rb.length
 ·have n13:decide (ra.length≠rb.length)=false:=by simp[hl]
  by_cases hf:fa.length=fb.length
  ·have n21:decide (fa.length≠fb.length)=false:=by simp[hf]
   by_cases Qx:va=vb
   ·rw[aC Qx]at hV;rw[aC Qx,kX];rcases Dd ra rb hl with hp|⟨e,x,y,q1,q2,q3,q4⟩
    ·rw[aC hp,kX];have lo:∀ B:ae,af prog B 85 (.block 0 (ag Tryz.f14 0)) (aU9 0) (we ra rb va vb fa fb) 8 ⟨.normal,[(2,ptr 6),(3,ptr 7)],we ra rb va vb fa fb,8⟩:=λB=>
      bO (id:=0) (ck ra.length (λi=>aU9 i) (λ_=>we ra rb va vb fa fb) (λi k _=>Iff.rfl) (λi hi=>by have hx:ra[i]?=some ra[i]:=aW hi;exact aVx hi o_ hx (by rw[<-hp];exact hx) (ha _ (dK hi)) hn) aSC n_)
     rcases Dd fa fb hf with OA|⟨e,x,y,q1,q2,q3,q4⟩
     ·rw[aC OA];have vD:∀ B:ae,af prog B 85 (.block 2 (ag Tryz.f14 2)) (yc 0) (oQ ra rb va vb fa fb) 8 ⟨.normal,[],oQ ra rb va vb fa fb,8⟩:=λB=>
       bO (id:=2) (ck fa.length (λi=>yc i) (λ_=>oQ ra rb va vb fa fb) (λi k _=>Iff.rfl) (λi hi=>by have hx:fa[i]?=some fa[i]:=aW hi;exact aFF hi hx (by rw[<-OA];exact hx) (pq _ (dK hi)) mo rfl) aSE n_)
      exact gg mixed func14 ax 200 (N:=85) k_ (λw=>F3 n13 (Iy n21 (LG hV [.code 0 _ _ _ _ _ (lo _),.code 2 _ _ _ _ _ (vD _)]))) (λ_=>k_) k_
     ·have bW:fa≠fb:=λh=>by subst h;rw[q1]at q2;injection q2 with q2;exact q3 q2
      rw[aO bW];have ao:=(eB.1 q1).1;have rounds:∀{B:ae},∀ i,i<e->af prog B 85 (aF (ag Tryz.f14 2)) (yc i) (oQ ra rb va vb fa fb) 8 ⟨.normal,yc (i+1),oQ ra rb va vb fa fb,8⟩:=λi hi=>by have hx:fa[i]?=some fa[i]:=aW o_;have hy:fb[i]?=some fb[i]:=aW o_;exact aFF o_ hx hy (pq _ (dK _)) mo (q4 i _ _ hi hx hy)
      by_cases he:x.1=y.1
      ·have h1:decide (x.1≠y.1)=false:=by rw[he];simp
       have h2:decide (x.2=y.2)=false:=aO λe=>q3 (Prod.ext he e);have vD:∀ B:ae,af prog B 85 (.block 2 (ag Tryz.f14 2)) (yc 0) (oQ ra rb va vb fa fb) 8 ⟨.ret,[(4,.bool false)],oQ ra rb va vb fa fb,16⟩:=λB=>
        bO (id:=2) (ck (r:=⟨.ret,[(4,.bool false)],oQ ra rb va vb fa fb,16⟩) e (λi=>yc i) (λ_=>oQ ra rb va vb fa fb) (λi k _=>Iff.rfl) rounds (az (WT ao q1 q2 h1 (sfT q1 q2 (pq _ (cN q1)) h2 []))) n_)
       exact gg mixed func14 ax 200 (N:=85) k_ (λw=>F3 n13 (Iy n21 (LG hV [.code 0 _ _ _ _ _ (lo _),.code 2 _ _ _ _ _ (vD _)]))) (λ_=>k_) k_
      ·have h1:decide (x.1≠y.1)=true:=aC he;have vD:∀ B:ae,af prog B 85 (.block 2 (ag Tryz.f14 2)) (yc 0) (oQ ra rb va vb fa fb) 8 ⟨.ret,[(4,.bool false)],oQ ra rb va vb fa fb,12⟩:=λB=>
        bO (id:=2) (ck (r:=⟨.ret,[(4,.bool false)],oQ ra rb va vb fa fb,12⟩) e (λi=>yc i) (λ_=>oQ ra rb va vb fa fb) (λi k _=>Iff.rfl) rounds (az (WT ao q1 q2 h1 [])) n_)
       exact gg mixed func14 ax 200 (N:=85) k_ (λw=>F3 n13 (Iy n21 (LG hV [.code 0 _ _ _ _ _ (lo _),.code 2 _ _ _ _ _ (vD _)]))) (λ_=>k_) k_
    ·have bW:ra≠rb:=λh=>by subst h;rw[q1]at q2;injection q2 with q2;exact q3 q2
     rw[aO bW,yG];have ao:=(eB.1 q1).1;have lo:∀ B:ae,af prog B 85 (.block 0 (ag Tryz.f14 0)) (aU9 0) (we ra rb va vb fa fb) 8 ⟨.ret,[(4,.bool false)],we ra rb va vb fa fb,8⟩:=λB=>
      bO (id:=0) (ck e (λi=>aU9 i) (λ_=>we ra rb va vb fa fb) (λi k _=>Iff.rfl) (λi hi=>by have hx:ra[i]?=some ra[i]:=aW o_;have hy:rb[i]?=some rb[i]:=aW o_;have:=q4 i _ _ hi hx hy;exact aVx o_ o_ hx (by rw[this];exact hy) (ha _ (dK _)) hn) (aSB ao o_ q1 q2 (ha _ (cN q1)) (hb _ (cN q2)) q3) n_)
     exact gg mixed func14 ax 200 (N:=85) k_ (λw=>F3 n13 (Iy n21 (LG hV [.code 0 _ _ _ _ _ (lo _)]))) (λ_=>k_) k_
   ·rw[aO Qx]at hV;rw[aO Qx,yG,MP];exact gg mixed func14 ax 200 (N:=85) k_ (λw=>F3 n13 (Iy n21 (LG hV []))) (λ_=>k_) k_
  ·have n21:decide (fa.length≠fb.length)=true:=by simp[hf]
   have bW:fa≠fb:=λh=>hf (by rw[h]);rw[aO bW,MP,MP];exact gg mixed func14 ax 200 (N:=85) k_ (λw=>F3 n13 (Iy n21 [])) (λ_=>k_) k_
 ·have n13:decide (ra.length≠rb.length)=true:=by simp[hl]
  have bW:ra≠rb:=λh=>hl (by rw[h]);rw[aO bW,yG];exact gg mixed func14 ax 200 (N:=85) k_ (λw=>F3 n13 []) (λ_=>k_) k_
end
section
variable{ps:c_}{m M:Nat}{rs:List RP}{vs:List RV}{fs:f_}
def DQ(ps:c_)(vs:List RV)(fs:f_):Bool:=
 !decide (fs.length<4)&&(!decide (vs.length<4)&&(vY ps&&(!uO (fe ps)&&(decide (vs=(fe ps).map cJ)&&decide (fs=yb ps)))))
theorem LH(rs:List RP)(vs:List RV)(fs:f_):([kf rs vs fs].all aK.ok)=true:=by simp only[eY,fO,aFE,zo]
noncomputable def Iz(k:Nat)(fs:f_):aQ prog Bs 28:=.step 7 (ay Tryz.f23 7) [cr k] [(k,some (.fact (ij fs)))] (vI fs.length) [] (vW k_ (.self fs))
theorem aFG(hf:fs.length<4):cg prog 23 [kf rs vs fs] a_:=by have ax:=LH rs vs fs;unfold kf at *;exact gg mixed func23 ax 100 (N:=28) k_ (λw=>[Iz 2 fs,.lt 8 fs.length 4 true (aC hf)]) (λw=>k_) k_
theorem aFH(hf:¬fs.length<4)(hv:vs.length<4):cg prog 23 [kf rs vs fs] a_:=by have ax:=LH rs vs fs;unfold kf at *;exact gg mixed func23 ax 100 (N:=28) k_ (λw=>[Iz 2 fs,.lt 8 fs.length 4 false (aO hf),.lt 13 vs.length 4 true (aC hv)]) (λw=>k_) k_
theorem aSG(hs:∀ x∈rs,uN m x)(hm:m<=aA)(h63:rs.length<9223372036854775807)(hb:rs.all ml=false):cg prog 23 [kf rs vs fs] a_:=by
 by_cases hf:fs.length<4
 ·exact aFG hf
 by_cases hv:vs.length<4
 ·exact aFH hf hv
 have ax:=LH rs vs fs;have mX:=aSv hs hm h63 hb;unfold kf at *;exact gg mixed func23 ax 100 (N:=28) k_ (λw=>[Iz 2 fs,.lt 8 fs.length 4 false (aO hf),.lt 13 vs.length 4 false (aO hv),.cR Tryz.f23 18 [sl 0 rs.length] mX (.w (x:=.view (db rs)) rfl (gA iL rs) WS .nil)]) (λw=>k_) k_
theorem aSH(h:uQ ps m M)(eG:vY ps=true->uO (fe ps)=false->∀ p∈ps,¬(cv p (fe ps) (fe ps).length).length<3->Iv p (fe ps))(aN:∀ x∈vs,x.Sm)(ig:vs.length<9223372036854775807)(mo:fs.length<9223372036854775807)(pq:∀ f∈fs,f.2.length<9223372036854775807):
  cg prog 23 [kf (ps.map cV) vs fs] (.bool (DQ ps vs fs)):=by
 unfold DQ;by_cases hf:fs.length<4
 ·rw[aC hf];exact aFG hf
 by_cases hv:vs.length<4
 ·rw[aC hv,aO hf];exact aFH hf hv
 rw[aO hf,aO hv];have ax:=LH (ps.map cV) vs fs;by_cases hc:vY ps=true
 ·rw[hc];by_cases hi:uO (fe ps)=true
  ·rw[hi];have mX:=aSx h hc hi;unfold kf at *;rw[fk,show db (ps.map cV)=bf ps from rfl]at *;exact gg mixed func23 ax 100 (N:=28) k_ (λw=>[Iz 2 fs,.lt 8 fs.length 4 false (aO hf),.lt 13 vs.length 4 false (aO hv),.cR Tryz.f23 18 [sl 0 ps.length] mX (.w (x:=.view (bf ps)) rfl (dh ps) jk .nil)]) (λw=>k_) k_
  ·have hi:uO (fe ps)=false:=by simpa using hi
   rw[hi];have mX:=aSy h hc hi (eG hc hi);have smv:∀ x∈(fe ps).map cJ,x.Sm:=λx hx=>by obtain⟨v,hv,rfl⟩:=de.1 hx;exact(h.sz.1 v hv).sm h.sU.2.2.2.2.2.2
   have smp:∀ x∈ps.map cV,x.Sm:=λx hx=>by obtain⟨p,hp,rfl⟩:=de.1 hx;exact(h.pl p hp).1.sm (by have:=h.sU.2.2.2.2.2.1;exact this)
   have Aa:=aSF (ra:=ps.map cV) (rb:=ps.map cV) (va:=vs) (vb:=(fe ps).map cJ) (fa:=fs) (fb:=yb ps) smp smp aN smv (by rw[fk];have:=h.len;omega) ig mo pq;unfold WU at Aa;rw[aC rfl]at Aa;unfold aX at mX;unfold kf at *;rw[fk,show db (ps.map cV)=bf ps from rfl]at ax Aa ⊢;have hlen:(fe ps).length=((fe ps).map cJ).length:=by rw[fk]
   rw[hlen]at mX;generalize (fe ps).map cJ=cL at *;rw[kX]at Aa;have e0:(!false&&(!false&&(true&&(!false&&(decide (vs=cL)&&decide (fs=yb ps))))))=(decide (vs=cL)&&decide (fs=yb ps)):=by simp
   rw[e0];generalize (decide (vs=cL)&&decide (fs=yb ps))=t at *;refine gg mixed func23 ax 100 (N:=28) k_ (λw=>[Iz 2 fs,.lt 8 fs.length 4 false (aO hf),.lt 13 vs.length 4 false (aO hv),.step 18 (ay Tryz.f23 18) [.func (.func 13) #[] #[],sl 0 ps.length] [(4,none),(5,none),(6,none),(0,some (.view (bf ps)))] (.tuple #[.agg #[sl 4 ps.length,sl 5 cL.length,cr 6],qp 0]) [(6,.fact ((n9 (yb ps)).j7 w.heap.size)),(5,.row (cO cL) 42 30),(4,.row (bf ps) 66 40)]
     (KS (B:=ae.at w) (S:=w.heap.size) mX (.w (x:=.view (bf ps)) rfl (dh ps) jk .nil) (x:=.func 13) k_ k_ rfl (dh ps) (gA gp _) rfl (λw' hb=>Below.size hb) 4),
    .step 26 (ay Tryz.f23 26) [.func (.func 14) #[] #[],.agg #[sl 0 ps.length,sl 1 vs.length,cr 2],.agg #[sl 4 ps.length,sl 5 cL.length,cr 6]] [(0,some (.view (bf ps))),(1,some (.view (cO vs))),(2,some (.fact (ij fs))),(4,some (.row (bf ps) 66 40)),(5,some (.row (cO cL) 42 30)),(6,some (.fact ((n9 (yb ps)).j7 w.heap.size)))] (.bool t) []
     (pg Aa (.s (x1:=.view (bf ps)) (x2:=.view (cO vs)) rfl (dh ps) jk rfl (gA gp _) zZ (.si (aEE _ _) (x1:=.row (bf ps) 66 40) (x2:=.row (cO cL) 42 30) rfl (dh ps) jk rfl (gA gp _) zZ .nil)) (x:=.func 14) k_ k_ rfl)]) (λw=>?_) k_
   kernel_rfl
 ·have hc:vY ps=false:=by simpa using hc
  rw[hc];have mX:=aSw h hc;unfold kf at *;rw[fk,show db (ps.map cV)=bf ps from rfl]at *;exact gg mixed func23 ax 100 (N:=28) k_ (λw=>[Iz 2 fs,.lt 8 fs.length 4 false (aO hf),.lt 13 vs.length 4 false (aO hv),.cR Tryz.f23 18 [sl 0 ps.length] mX (.w (x:=.view (bf ps)) rfl (dh ps) jk .nil)]) (λw=>k_) k_
end
def Qy(ps:c_)(n2:Nat)(x2:ah)(F:Fact):aK:=.s ps.length (bf ps) n2 x2 F
theorem aSI{x2:ah}(h2:x2.all flat=true)(hF:F.rc=false):(Qy ps n2 x2 F).ok=true:=by show((bf ps).all flat&&(x2.all flat&&!F.rc))=true;rw[dh,h2,hF];rfl
section
variable{ps:c_}{v:V3 K}
def F4(v:V3 K)(z:Int)(p:HS K):Int:=if z<OF.aB (dot p.n v-p.d)then OF.aB (dot p.n v-p.d)else z
def oe(ps:c_)(v:V3 K):Int:=ps.foldl (F4 v) (-1)
end
section
variable{Bs:ae}{rs:List RP}{vs:List RV}{fs:f_}
def F5(i:Nat):aM:=[(3,vI i),(1,ptr 3)]
def tP(rs:List RP)(vs:List RV)(fs:f_):aE:=[(2,.fact (ij fs)),(3,LF rs vs fs 0)]
theorem aSJ:∀ x∈tP rs vs fs,fH 4 x.2:=λx hx=>by
 simp only[tP,b9,fv,fA]at hx;rcases hx with rfl|rfl
 ·exact λv hv=>(by cases hv)
 ·intro v hv;have hv:v∈[sl 0 rs.length,sl 1 vs.length,cr 2]:=hv;simp at hv;rcases hv with rfl|rfl|rfl<;>rfl
noncomputable def WV(fs:f_)(key:Nat)(ho:KP prog (ay Tryz.f21 key)=true):aQ prog Bs 33:=.step key (ay Tryz.f21 key) [cr 2] [(2,some (.fact (ij fs)))] (vI fs.length) [] (vW ho (.self fs))
noncomputable def fwS{f:Int×List Int}(hi:i<fs.length)(h1:fs[i]?=some f)(ht:decide (f.2.length>12)=t)(more:bH prog Bs 33):bH prog Bs 33:=
 WV fs 7 k_::.lt 8 i fs.length true (aC hi)::.step 14 (ay Tryz.f21 14) [cr 2,vI i] [(4,none),(4+1,none),(2,some (.fact (ij fs)))] (ptr 4) [(4,vw f 4),(4+1,.fact (dM f.2))] (Ih k_ (.self fs) h1 d_)::
  .step 17 (ay Tryz.f21 17) [cr 5] [(5,some (.fact (dM f.2)))] (vI f.2.length) [] (oN k_)::.gt 18 f.2.length 12 t ht::more
theorem aFI{f:Int×List Int}(hi:i<fs.length)(h1:fs[i]?=some f)(h63:fs.length<9223372036854775807)(ht:f.2.length<=12):
  af prog Bs 33 (aF (ag Tryz.f21 0)) (F5 i) (tP rs vs fs) 4 ⟨.normal,F5 (i+1),tP rs vs fs,4⟩:=
 ue mixed 100 (fY:=6) (fwS (f:=f) hi h1 (aO o_) [.sum 10 i 1 (i+1) rfl o_]) k_ rfl k_ aSJ k_
theorem aSK{f:Int×List Int}(hi:i<fs.length)(h1:fs[i]?=some f)(ht:¬f.2.length<=12):
  af prog Bs 33 (aF (ag Tryz.f21 0)) (F5 i) (tP rs vs fs) 4 ⟨.ret,[(2,.bool false)],tP rs vs fs,6⟩:=
 az (fwS (f:=f) hi h1 (aC o_) [])
def LI(rs:List RP)(vs:List RV)(fs:f_):Bool:=
 fs.all (λf=>decide (f.2.length<=12))&&(Lu rs 9&&((vs.all (λx=>po x 12)&&decide (vs.length<=20))&&decide (fs.length<=12)))
noncomputable def WW{t1:Bool}(hP:cg prog 11 [.r rs.length (db rs),.p (vI 9)] (.bool t1))(more:bH prog Bs 33):bH prog Bs 33:=
 .cR Tryz.f21 21 [sl 0 rs.length,vI 9] hP (.w (x:=.view (db rs)) rfl (gA iL rs) WS (.p rfl .nil))::more
noncomputable def fwV{t2:Bool}(hV:cg prog 68 [.r vs.length (cO vs),.p (vI 20),.p (vI 12)] (.bool t2))(more:bH prog Bs 33):bH prog Bs 33:=
 .cR Tryz.f21 25 [sl 1 vs.length,vI 20,vI 12] hV (.w (x:=.view (cO vs)) rfl (gA gp vs) zZ (.p rfl (.p rfl .nil)))::more
theorem aSL(F6:rs.length<9223372036854775807)(ig:vs.length<9223372036854775807)(mo:fs.length<9223372036854775807):cg prog 21 [kf rs vs fs] (.bool (LI rs vs fs)):=by
 have ax:=LH rs vs fs;unfold LI;unfold kf at *;have hP:=aQ5 (ps:=rs) 9 F6;have hV:=aQ0 (vs:=vs) (k:=12) 20 ig;rcases BM (λf:Int×List Int=>decide (f.2.length<=12)) fs with h|⟨e,x,h1,h2,h3,h4⟩
 ·rw[h,kX];have lo:∀ B:ae,af prog B 33 (.block 0 (ag Tryz.f21 0)) (F5 0) (tP rs vs fs) 4 ⟨.normal,[(1,ptr 3)],tP rs vs fs,4⟩:=λB=>
   bO (id:=0) (ck (r:=⟨.exit 0,[(1,ptr 3)],tP rs vs fs,4⟩) fs.length (λi=>F5 i) (λ_=>tP rs vs fs) (λi k _=>Iff.rfl) (λi hi=>by have hx:fs[i]?=some fs[i]:=aW hi;exact aFI hi hx mo (jh (DI h hx))) (az [WV fs 7 k_,.lt 8 fs.length fs.length false s_]) n_)
  generalize Lu rs 9=t1 at *;generalize (vs.all (λx=>po x 12)&&decide (vs.length<=20))=t2 at *;cases t1 with
  |false=>exact dC func21 ax 33 (λw=>.code 0 _ _ _ _ _ (lo _)::WW hP [])
  |true=>
  cases t2 with
  |false=>exact dC func21 ax 33 (λw=>.code 0 _ _ _ _ _ (lo _)::WW hP (fwV hV []))
  |true=>
   rw[kX,kX];exact dC func21 ax 33 (λw=>.code 0 _ _ _ _ _ (lo _)::WW hP (fwV hV [WV fs 30 k_,.rw 31 _ (.bool (decide (fs.length<=12))) (Lt (a:=fs.length) (b:=12) rfl)]))
 ·rw[h4,yG];have ao:=(eB.1 h1).1;have lo:∀ B:ae,af prog B 33 (.block 0 (ag Tryz.f21 0)) (F5 0) (tP rs vs fs) 4 ⟨.ret,[(2,.bool false)],tP rs vs fs,6⟩:=λB=>
   bO (id:=0) (ck (r:=⟨.ret,[(2,.bool false)],tP rs vs fs,6⟩) e (λi=>F5 i) (λ_=>tP rs vs fs) (λi k _=>Iff.rfl) (λi hi=>by have hx:fs[i]?=some fs[i]:=aW o_;exact aFI o_ hx mo (jh (h3 i _ hi hx))) (aSK ao h1 (AV h2)) n_)
  exact dC func21 ax 33 (λw=>[.code 0 _ _ _ _ _ (lo _)])
end
theorem aFJ(l:c_)(p:HS K):bf l++(cV p).cs=bf (l++[p]):=by unfold bf;rw[wj];show ct RP.cs _++_=ct RP.cs _;rw[Ky];simp[ct]
theorem aSM(p:HS K):(cV p).cs=bf [p]:=by have:=aFJ [] p;rwa[show bf ([]:c_)=[]from rfl,jy,jy]at this
section
variable{n1 n2 n3 n4 n5 n6:V3 K}{q:K}{z:Int}
def BQ(n1 n2 n3 n4 n5 n6:V3 K)(q:K):c_:=[⟨n1,q⟩,⟨n2,q⟩,⟨n3,q⟩,⟨n4,q⟩,⟨n5,q⟩,⟨n6,q⟩]
end
end
section
open CR OF
open V3 (dot aw cI smul)
section
variable{ps:c_}{vs:List RV}{fs:f_}{p:HS K}
theorem aFK(hc:Cl ps)(hp:j6 ps)(hf:qb ps):sR ps (cQ ps):=⟨by unfold cQ;exact UA _,λ_=>aFo hc hp hf⟩
theorem aFL(hp:j6 ps):DO ps=true↔Cl ps/\qb ps:=by
 unfold DO;rw[cY,aE8,aRQ];constructor
 ·rintro⟨h1,_,h3⟩
  exact⟨h1,_,h3⟩
 ·rintro⟨h1,h2⟩
  exact⟨h1,aBH h1 hp (λv=>aFo h1 hp h2) h2⟩
theorem aSN(hc:Cl ps)(hp:j6 ps)(hf:qb ps):∀ p∈ps,¬(cv p (cQ ps) (cQ ps).length).length<3->Iv p (cQ ps):=λp iJ hl=>by obtain⟨h1,h2,h3⟩:=(aFK hc hp hf).loop (hp p iJ) hl;exact⟨h1,h2,h3⟩
theorem aFM(hp:j6 ps)(h:uO (fe ps)=false):qb ps:=
 aLm hp (λv hv=>(Qr.1 hv).1) (WN.1 h)
theorem aSO(hc:Cl ps)(hp:j6 ps)(hf:qb ps):uO (fe ps)=false:=
 WN.2 (aLn hc hp (λv=>Qr) hf)
theorem aSP{l:e_}(h:OJ l):4<=l.length:=by
 obtain⟨o,rest,rfl,a,ha,b,hb,c,hc,hd⟩:=h;have ab:a≠b:=λe=>by subst e;exact hd (WB _ _)
 have bc:b≠c:=λe=>by subst e;exact hd (WC _ _)
 have ac:a≠c:=λe=>by subst e;exact hd (WD _ _)
 match rest,ha,hb,hc with
 |[],ha,_,_=>cases ha
 |[x],ha,hb,_=>simp at ha hb;exact absurd (ha.trans hb.symm) ab
 |[x,y],ha,hb,hc=>
  simp at ha hb hc;rcases ha with rfl|rfl<;>rcases hb with rfl|rfl<;>rcases hc with rfl|rfl<;>first|exact absurd rfl ab|exact absurd rfl bc|exact absurd rfl ac
 |_::_::_::_,_,_,_=>simp only[nL];omega
theorem aFN(hc:Cl ps)(hp:j6 ps)(hf:qb ps):yb ps=jJ ps:=by unfold yb jJ;rw[F2 hc hp hf]
theorem aSQ(hp:j6 ps)(h:DQ ps vs fs=true):Cl ps/\qb ps/\vs=(cQ ps).map cJ/\fs=jJ ps:=by unfold DQ at h;simp only[cY,yr,rI]at h;obtain⟨_,_,h3,h4,h5,h6⟩:=h;have hc:=WJ.1 h3;have hf:=aFM hp h4;exact⟨hc,hf,by rw[F2 hc hp hf];exact h5,by rw[<-aFN hc hp hf];exact h6⟩
theorem aSR(hc:Cl ps)(hp:j6 ps)(hf:qb ps):DQ ps ((cQ ps).map cJ) (jJ ps)=true:=by
 unfold DQ;have h1:4<=(jJ ps).length:=by unfold jJ;rw[fk];exact aSd hc hp (aFK hc hp hf) hf
 have hs:=aSO hc hp hf;have h2:4<=((cQ ps).map cJ).length:=by rw[fk,F2 hc hp hf];exact aSP (WN.1 hs)
 rw[aO o_,aO o_,WJ.2 hc,hs,aFN hc hp hf,<-F2 hc hp hf,aC rfl,aC rfl];rfl
end
def lN:c_:=BQ ⟨kI 1,kI 0,kI 0⟩ ⟨kI (-1),kI 0,kI 0⟩ ⟨kI 0,kI 1,kI 0⟩ ⟨kI 0,kI (-1),kI 0⟩ ⟨kI 0,kI 0,kI 1⟩ ⟨kI 0,kI 0,kI (-1)⟩ (kI 1)
def Qz:HS K:=⟨⟨kI 1,kI 1,kI 1⟩,kI 2⟩
def DR(a b c:Int):V3 K:=⟨kI a,kI b,kI c⟩
def WX:e_:=[DR (-1) (-1) (-1),DR (-1) (-1) 1,DR (-1) 1 (-1),DR (-1) 1 1,DR 1 (-1) (-1),DR 1 (-1) 1,DR 1 1 (-1),DR 1 1 1]
theorem aSS:sB lN=true:=by kernel_rfl
theorem aST:fe lN=WX:=by kernel_rfl
theorem WY(h:p∈lN++[Qz]):∃ a b c d:Int,p=⟨⟨kI a,kI b,kI c⟩,kI d⟩/\(a.natAbs<=1/\b.natAbs<=1/\c.natAbs<=1)/\(0<d/\d<=2)/\(a≠0\/b≠0\/c≠0):=by
 simp only[lN,BQ,eA,b9,fv,fA]at h;rcases h with (rfl|rfl|rfl|rfl|rfl|rfl)|rfl
 ·exact⟨1,0,0,1,rfl,by decide,by decide,by decide⟩
 ·exact⟨-1,0,0,1,rfl,by decide,by decide,by decide⟩
 ·exact⟨0,1,0,1,rfl,by decide,by decide,by decide⟩
 ·exact⟨0,-1,0,1,rfl,by decide,by decide,by decide⟩
 ·exact⟨0,0,1,1,rfl,by decide,by decide,by decide⟩
 ·exact⟨0,0,-1,1,rfl,by decide,by decide,by decide⟩
 ·exact⟨1,1,1,2,rfl,by decide,by decide,by decide⟩
theorem aSU(h:p∈lN++[Qz]):bB 2 p:=by obtain⟨a,b,c,d,rfl,⟨h1,h2,h3⟩,⟨h4,h5⟩,_⟩:=WY h;exact⟨⟨qP o_ d_,qP o_ d_,qP o_ d_⟩,qP o_ d_⟩
theorem WZ{a b:Int}(h:kI a=kI b):a=b:=by
 have h1:((a:Rat))=(b:Rat):=ch (λx:K=>x.re.re) h
 exact_mod_cast h1
theorem aFO(h:p∈lN++[Qz]):p.n≠0:=by
 obtain⟨a,b,c,d,rfl,_,_,h6⟩:=WY h;intro e;have e1:kI a=kI 0:=ch V3.x e;have e2:kI b=kI 0:=ch V3.y e;have e3:kI c=kI 0:=ch V3.z e;rcases h6 with h|h|h
 ·exact h (WZ e1)
 ·exact h (WZ e2)
 ·exact h (WZ e3)
theorem aSV(h:p∈lN++[Qz]):dot p.n 0<p.d:=by
 obtain⟨a,b,c,d,rfl,_,⟨h4,h5⟩,_⟩:=WY h;rw[V3.C2];have hd:d=1\/d=2:=by omega
 rcases hd with rfl|rfl
 ·show OF.aB (kI 1-0)=1;kernel_rfl
 ·show OF.aB (kI 2-0)=1;kernel_rfl
theorem aSW:j6 lN:=λ_ h=>aFO (uA _ h)
theorem aFP:qb lN:=⟨0,λ_ h=>aSV (uA _ h)⟩
theorem aFQ:Cl lN:=aE8.1 aSS
theorem aFR:cQ lN=WX:=(F2 aFQ aSW aFP).trans aST
theorem LJ{q:RI}(h:decide (sH q<=k)=true)(hk:k<=maxLen):q.Sm:=by have h:=jh h;unfold RI.Sm;unfold sH at h;exact dc h hk
theorem W0(h:sI r k=true)(hk:k<=maxLen):r.Sm:=by unfold sI at h;simp only[cY]at h;exact⟨LJ h.1 hk,LJ h.2.1 hk,LJ h.2.2.1 hk,LJ h.2.2.2.1 hk,LJ h.2.2.2.2 hk⟩
theorem aSX{r:RV}(h:po r k=true)(hk:k<=maxLen):r.Sm:=by unfold po at h;simp only[cY]at h;exact⟨W0 h.1 hk,W0 h.2.1 hk,W0 h.2.2 hk⟩
section
variable{ps:c_}{p:HS K}
end
theorem aSY{rs:List RP}(h:rs.all ml=true):rs=(rs.map pZ).map cV/\∀ q∈rs.map pZ,q.n≠0:=by
 rw[aY]at h;constructor
 ·rw[List.map_map]
  conv=>lhs;rw[<-List.map_id rs]
  exact wD λr hr=>(aDB (h r hr)).1
 ·intro q hq;obtain⟨r,hr,rfl⟩:=de.1 hq;exact(aDB (h r hr)).2
theorem aSZ(ps:c_):∀ f∈jJ ps,0<f.2.length:=by
 intro f hf;unfold jJ at hf;obtain⟨g,hg,rfl⟩:=de.1 hf;unfold ev at hg;rw[Bt]at hg;obtain⟨i,_,hg⟩:=hg;unfold lM at hg;split at hg
 ·unfold rl at hg;split at hg
  ·cases hg
  ·split at hg
   ·cases hg
   ·split at hg
    ·rename_i ao;simp at hg;subst hg;show 0<(List.map _ _).length;rw[fk];exact lD d_ ao
    ·cases hg
 ·cases hg
theorem cg.aS0{x1 x2:ah}(h:cg P f (.s n1 x1 n2 x2 (n9 fs)::l) res)(hl:∀ f∈fs,0<f.2.length):cg P f (.s n1 x1 n2 x2 (ij fs)::l) res:=
 cg.Qa h λ_ _ hG=>aQR hG hl
section
variable{rs:List RP}{vs:List RV}{fs:f_}
end
end
section
variable{H:Type}{enc:TypeId×Value->H}{P:j_}{w:h_}{base:Nat}{spare:Nat->Bool}{held:Bool}{fuel:Nat}{t:TypeId}{cs:ah}{x:DataW H×List MemPlace}
def IA(P:j_)(t:TypeId)(i:Nat):Option (TypeId×Nat):=match P.underlying t with
 |some (.struct fs)=>(fs[i]?).map λf=>(f.type,f.offset)
 |_=>none
def aFS(P:j_)(t:TypeId):Option (Nat×TypeId):=match P.underlying t with
 |some (.array n e)=>some (n,e)
 |_=>none
theorem LK{u o:Nat}(hf:IA P t i=some (u,o))(h:DataW.trod enc P w base spare held fuel t cs=some x):cs.length=P.cellsOf t:=by
 unfold IA at hf;split at hf
 ·rename_i fs ht;obtain⟨_,_,_,_,hl,_⟩:=aFT ht h;exact hl
 ·cases hf
theorem yd{u o:Nat}(hf:IA P t i=some (u,o))(h:DataW.trod enc P w base spare held fuel t cs=some x):∃ n y,DataW.trod enc P w base spare held n u ((cs.drop o).take (P.cellsOf u))=some y:=by
 unfold IA at hf;split at hf
 ·rename_i fs ht;obtain⟨xs,n,_,_,_,hlen,aU⟩:=aFT ht h;rw[Option.map_eq_some_iff]at hf;obtain⟨f,j5,he⟩:=hf;injection he with e1 e2;subst e1;subst e2;have:=aU i f j5;have hi:i<xs.length:=by rw[hlen];exact(wG.1 j5).1
  rw[aW hi]at this;exact⟨n,_,this⟩
 ·cases hf
theorem aFU{u k:Nat}{d:DataW H}:∀{ts:List TypeId} {ds:List (DataW H)} {i:Nat},ts[i]?=some u->ds[i]?=some d->k∈d.weights P u->k∈DataW.weightsEach P ts ds
 |[],_,i,h,_,_=>by simp at h
 |_::_,[],i,_,h,_=>by simp at h
 |t::ts,e::ds,0,h1,h2,h3=>by simp at h1 h2;subst h1;subst h2;unfold DataW.weightsEach;exact uA _ h3
 |t::ts,e::ds,i+1,h1,h2,h3=>by unfold DataW.weightsEach;exact vA _ (aFU (by simpa using h1) (by simpa using h2) h3)
theorem W4{u o:Nat}(hf:IA P t i=some (u,o))(h:DataW.trod enc P w base spare held fuel t cs=some x):∃ n y,DataW.trod enc P w base spare held n u ((cs.drop o).take (P.cellsOf u))=some y/\∀ k∈y.1.weights P u,k∈x.1.weights P t:=by
 unfold IA at hf;split at hf
 ·rename_i fs ht;obtain⟨xs,n,_,hx,_,hlen,aU⟩:=aFT ht h;rw[Option.map_eq_some_iff]at hf;obtain⟨f,j5,he⟩:=hf;injection he with e1 e2;subst e1;subst e2;have:=aU i f j5;have hi:i<xs.length:=by rw[hlen];exact(wG.1 j5).1
  have hxi:=aW hi;rw[hxi]at this;refine⟨n,_,this,λk hk=>?_⟩;rw[hx];show k∈(DataW.agg (xs.map (·.1))).weights P t;unfold DataW.weights;rw[ht];refine aFU (i:=i) (u:=f.type) (d:=xs[i].1) ?_ ?_ hk
  ·rw[u9,show fs.toList[i]?=some f by rw[Array.getElem?_toList];exact j5];rfl
  ·rw[u9,hxi];rfl
 ·cases hf
theorem aS1{e:TypeId}{a:Addr}(ht:P.underlying t=some (.slice e))(hb:0<P.bytesOf e)(h:DataW.trod enc P w base spare held fuel t [.slice (some a) len cap]=some x)(hw:∀ k∈x.1.weights P t,k<=reachBytes):len<=reachBytes:=by
 rcases DataW.trod_slice ht h with ⟨h1,_⟩|⟨a',lE,bj,elems,rest,n,_,h1,hx,_,_,_,hlen,_⟩
 ·cases h1
 ·injection h1 with h1;injection h1 with _ e2 _;subst e2;have:=hw ((elems.length+rest.length)*P.bytesOf e) (by rw[hx];show _∈(DataW.slice (elems.map (·.1)) (rest.map (·.1))).weights P t;unfold DataW.weights;rw[ht];simp)
  have h2:elems.length+rest.length<=(elems.length+rest.length)*P.bytesOf e:=Ez _ hb;omega
theorem aS2{n:Nat}(he:aFS P t=some (n,e))(h:DataW.trod enc P w base spare held fuel t cs=some x):cs.length=P.cellsOf t/\∀ i,i<n->∃ m y,DataW.trod enc P w base spare held m e ((cs.drop (i*P.cellsOf e)).take (P.cellsOf e))=some y:=by
 unfold aFS at he;split at he
 ·rename_i n' e' ht;injection he with he;injection he with e1 e2;subst e1;subst e2;obtain⟨xs,m,_,_,hl,hlen,aU⟩:=DataW.trod_array ht h;refine⟨hl,λi hi=>?_⟩;have:=aU i hi;rw[aW o_]at this;exact⟨m,_,this⟩
 ·cases he
theorem aFV{α:Type}{p:Nat->α->Prop}:∀ n,(∀ i,i<n->∃ r,p i r)->∃ rs:List α,rs.length=n/\∀ i r,rs[i]?=some r->p i r
 |0,_=>⟨[],rfl,λi r h=>by simp at h⟩
 |n+1,h=>by
  obtain⟨rs,h1,h2⟩:=aFV n λi hi=>h i o_;obtain⟨r,hr⟩:=h n o_;refine⟨rs++[r],by rw[jM,h1];rfl,λi r' hi=>?_⟩;rcases eU i rs.length with ao|fG
  ·rw[I1 ao]at hi;exact h2 i r' hi
  ·rw[D8 fG]at hi;have hi0:i-rs.length=0:=by have:=(eB.1 hi).1;simp at this;omega
   rw[hi0]at hi;simp at hi;subst hi;have:i=n:=by omega
   subst this;exact hr
theorem aFW{f:α->ah}{s:Nat}(hE:∀ x,(f x).length=s)(pU:0<s){e:TypeId}(ht:P.underlying t=some (.slice e))(hs:P.cellsOf e=s)(W5:∀ n cs y,DataW.trod enc P w 0 (λ_=>true) true n e cs=some y->∃ r,cs=f r)
  {v:i_} (h:DataW.trod enc P w 0 (λ_=>true) true fuel t [v]=some x) :
  v=.slice none 0 0\/∃ a len cap,∃ rs:List α,v=.slice (some a) len cap/\len<=cap/\cap<=maxLen/\rs.length=len/\(∀ i r j u,rs[i]?=some r->(f r)[j]?=some u->w.cell? ((a.add (i*s)).add j)=some u)/\(0<cap->∃ u,w.cell? (a.add 0)=some u):=by
 rcases DataW.trod_slice ht h with ⟨h1,_⟩|⟨a,len,cap,elems,rest,n,_,h1,_,hb,hl,hc,hlen,r6,ux,_⟩
 ·injection h1 with h1;exact .inl h1
 ·injection h1 with h1;subst h1;refine .inr ⟨a,len,cap,?_⟩;have key:∀ i,i<len->∃ r:α,∀ j u,(f r)[j]?=some u->w.cell? ((a.add (i*s)).add j)=some u:=by intro i hi;have:=r6 i hi;rw[aW o_,aFX]at this;obtain⟨bY,h2,h3⟩:=this;obtain⟨r,rfl⟩:=W5 _ _ _ h3;refine⟨r,λj u hj=>?_⟩;rw[hs]at h2;obtain⟨_,ll,aU⟩:=World.cells?_some h2;have Qn:=(eB.1 hj).1;rw[aU j o_];exact hj
  obtain⟨rs,q1,q2⟩:=aFV len key;refine⟨rs,rfl,hl,hc,q1,λi r j u hi hj=>q2 i r hi j u hj,λyK=>?_⟩;have any:∃ bY,w.cells? 0 (a.add (0*s)) s=some bY:=by
   rcases nq len with h0|h0
   ·obtain⟨DE,hr⟩:=ux rfl;have:=hr 0 o_;rw[aW o_,aFX]at this;obtain⟨bY,h2,_⟩:=this;rw[h0,hs]at h2;exact⟨bY,h2⟩
   ·have:=r6 0 h0;rw[aW o_,aFX]at this;obtain⟨bY,h2,_⟩:=this;rw[hs]at h2;exact⟨bY,h2⟩
  obtain⟨bY,h2⟩:=any;obtain⟨_,ll,aU⟩:=World.cells?_some h2;have:=aU 0 pU;rw[aW (by rw[ll];exact pU),lB]at this;exact⟨_,this⟩
theorem aFY{α:Type}{f:α->ah}{s:Nat}(hE:∀ x,(f x).length=s):∀{l:List α} {k:Nat} {u:i_},(ct f l)[k]?=some u->∃ i r j,l[i]?=some r/\(f r)[j]?=some u/\k=i*s+j
 |[],k,u,h=>by simp[ct]at h
 |x::l,k,u,h=>by
  rw[show ct f (x::l)=f x++ct f l from rfl]at h;rcases eU k (f x).length with ao|fG
  ·rw[I1 ao]at h;exact⟨0,x,k,rfl,h,by rw[lB,jL]⟩
  ·rw[D8 fG]at h;obtain⟨i,r,j,h1,h2,h3⟩:=aFY hE h;refine⟨i+1,r,j,by simpa using h1,h2,?_⟩;rw[hE]at h3 fG;rw[ug];omega
theorem aS3(b o i j:Nat):((⟨b,o,none⟩:Addr).add i).add j=⟨b,o+(i+j),none⟩:=by unfold Addr.add;by_cases hi:i=0<;>by_cases hj:j=0<;>simp[hi,hj,tX]
def isAgg(P:j_)(T:TypeId):Bool:=match P.underlying T with|some (.struct _)=>true|some (.array _ _)=>true|_=>false
theorem aFZ{T:TypeId}{v:i_}{r:Reach}(hs:isAgg P T=true)(hv:Value.okWide P w r base T v):∃ cs,v=.agg cs/\cs.size=P.cellsOf T/\Row.okWide P w r base T cs:=by
 unfold Value.okWide at hv;unfold isAgg at hs;split at hs
 ·rename_i e;rw[e]at hv;exact hv
 ·rename_i e;rw[e]at hv;exact hv
 ·cases hs
theorem aS4{T e:TypeId}{a:Addr}{r:Reach}(ht:P.underlying T=some (.slice e))(h:Cell.okWide P w r base T (.slice (some a) len cap)):a.spot=none/\a.block<w.heap.size:=by
 unfold Cell.okWide at h;rw[ht]at h;have h:Cell.ok P w r base T (.slice (some a) len cap):=h;unfold Cell.ok at h;rw[ht]at h;obtain⟨_,_,_,h1,row,cells,h2,_⟩:=h;refine⟨h1,?_⟩;unfold World.shape? at h2;split at h2
 ·rename_i c t f he;exact(wG.1 he).1
 ·cases h2
theorem aF0{f:α->ah}{s:Nat}(hE:∀ x,(f x).length=s){o:Nat}{rs:List α}(hl:len<=cap)(hb:b<w.heap.size)(hlen:rs.length=len)(h:∀ i r j u,rs[i]?=some r->(f r)[j]?=some u->w.cell? (((⟨b,o,none⟩:Addr).add (i*s)).add j)=some u):
  c8 w (.slice (some ⟨b,o,none⟩) len cap) rs.length (ct f rs):=by
 refine .inr ⟨b,o,cap,by rw[hlen],by omega,hb,λk u hk=>?_⟩;obtain⟨i,r,j,h1,h2,rfl⟩:=aFY hE hk;have:=h i r j u h1 h2;rwa[aS3]at this
end
section
variable{H:Type}{enc:TypeId×Value->H}{w:h_}{base:Nat}{spare:Nat->Bool}{held:Bool}{fuel:Nat}{cs:ah}{x:DataW H×List MemPlace}
theorem aF1{cs:ah}(h:cs.length=2):∃ a b,cs=[a,b]:=by
 match cs,h with
 |[a,b],_=>exact⟨a,b,rfl⟩
theorem aS5(h:DataW.trod enc prog w base spare held fuel 4 cs=some x):∃ b,cs=[.bool b]:=by obtain⟨b,h1,_⟩:=DataW.trod_bool (P:=prog) k_ h;exact⟨b,h1⟩
theorem aS6(h:DataW.trod enc prog w base spare held fuel 9 cs=some x):∃ l:List UInt8,cs=[.string (BA l)]:=by obtain⟨s,h1,_⟩:=DataW.trod_string (P:=prog) k_ h;exact⟨s.data.toList,by rw[h1];rfl⟩
theorem aF2(h:DataW.trod enc prog w base spare held fuel 3 cs=some x):∃ z,cs=[iV z]:=by obtain⟨z,h1,_⟩:=DataW.trod_int (P:=prog) (k:=.i64) k_ h;exact⟨z,h1⟩
theorem LL(h:DataW.trod enc prog w base spare held fuel 37 cs=some x):∃ q:RI,cs=q.cs:=by have hl:=LK (P:=prog) (i:=0) (u:=4) (o:=0) k_ h;rw[show prog.cellsOf 37=2 from k_]at hl;obtain⟨_,_,h0⟩:=yd (P:=prog) (i:=0) (u:=4) (o:=0) k_ h;obtain⟨_,_,h1⟩:=yd (P:=prog) (i:=1) (u:=9) (o:=1) k_ h;rw[show prog.cellsOf 4=1 from k_]at h0;rw[show prog.cellsOf 9=1 from k_]at h1;obtain⟨a,b,rfl⟩:=aF1 hl;obtain⟨b0,e0⟩:=aS5 h0;obtain⟨l,e1⟩:=aS6 h1;simp at e0 e1;subst e0;subst e1;exact⟨⟨b0,l⟩,rfl⟩
theorem aS7(h:DataW.trod enc prog w base spare held fuel 38 cs=some x):∃ a b c e:RI,cs=a.cs++(b.cs++(c.cs++e.cs)):=by
 obtain⟨hl,aU⟩:=aS2 (P:=prog) (n:=4) (e:=37) k_ h;rw[show prog.cellsOf 38=8 from k_]at hl;rw[show prog.cellsOf 37=2 from k_]at aU;obtain⟨_,_,h0⟩:=aU 0 d_;obtain⟨_,_,h1⟩:=aU 1 d_;obtain⟨_,_,h2⟩:=aU 2 d_;obtain⟨_,_,h3⟩:=aU 3 d_;obtain⟨a,e0⟩:=LL h0;obtain⟨b,e1⟩:=LL h1;obtain⟨c,e2⟩:=LL h2;obtain⟨e,e3⟩:=LL h3;refine⟨a,b,c,e,?_⟩;rw[<-e0,<-e1,<-e2,<-e3]
 match cs,hl with
 |[_,_,_,_,_,_,_,_],_=>rfl
theorem QA(h:DataW.trod enc prog w base spare held fuel 40 cs=some x):∃ r:RN,cs=r.cs:=by
 have hl:=LK (P:=prog) (i:=0) (u:=38) (o:=0) k_ h;rw[show prog.cellsOf 40=10 from k_]at hl;obtain⟨_,_,h0⟩:=yd (P:=prog) (i:=0) (u:=38) (o:=0) k_ h;obtain⟨_,_,h1⟩:=yd (P:=prog) (i:=1) (u:=37) (o:=8) k_ h;rw[show prog.cellsOf 38=8 from k_]at h0;rw[show prog.cellsOf 37=2 from k_]at h1;obtain⟨a,b,c,e,e0⟩:=aS7 h0;obtain⟨d,e1⟩:=LL h1;have:cs=(cs.drop 0).take 8++(cs.drop 8).take 2:=by
  match cs,hl with
  |[_,_,_,_,_,_,_,_,_,_],_=>rfl
 refine⟨⟨a,b,c,e,d⟩,?_⟩;rw[this,e0,e1];rfl
theorem W6(h:DataW.trod enc prog w base spare held fuel 42 cs=some x):∃ r:RV,cs=r.cs:=by
 have hl:=LK (P:=prog) (i:=0) (u:=40) (o:=0) k_ h;rw[show prog.cellsOf 42=30 from k_]at hl;obtain⟨_,_,h0⟩:=yd (P:=prog) (i:=0) (u:=40) (o:=0) k_ h;obtain⟨_,_,h1⟩:=yd (P:=prog) (i:=1) (u:=40) (o:=10) k_ h;obtain⟨_,_,h2⟩:=yd (P:=prog) (i:=2) (u:=40) (o:=20) k_ h;rw[show prog.cellsOf 40=10 from k_]at h0 h1 h2;obtain⟨a,e0⟩:=QA h0;obtain⟨b,e1⟩:=QA h1;obtain⟨c,e2⟩:=QA h2;have:cs=(cs.drop 0).take 10++((cs.drop 10).take 10++(cs.drop 20).take 10):=by
  have t2:(cs.drop 20).take 10=cs.drop 20:=j0 (by rw[u7];omega);have t1:(cs.drop 10).take 10++cs.drop 20=cs.drop 10:=by have:=KQ 10 (cs.drop 10);rwa[MT]at this
  rw[t2,t1,lW,KQ]
 refine⟨⟨a,b,c⟩,?_⟩;rw[this,e0,e1,e2];rfl
theorem aS8(h:DataW.trod enc prog w base spare held fuel 66 cs=some x):∃ r:RP,cs=r.cs:=by
 have hl:=LK (P:=prog) (i:=0) (u:=42) (o:=0) k_ h;rw[show prog.cellsOf 66=40 from k_]at hl;obtain⟨_,_,h0⟩:=yd (P:=prog) (i:=0) (u:=42) (o:=0) k_ h;obtain⟨_,_,h1⟩:=yd (P:=prog) (i:=1) (u:=40) (o:=30) k_ h;rw[show prog.cellsOf 42=30 from k_]at h0;rw[show prog.cellsOf 40=10 from k_]at h1;obtain⟨a,e0⟩:=W6 h0;obtain⟨b,e1⟩:=QA h1;have:cs=(cs.drop 0).take 30++(cs.drop 30).take 10:=by have t2:(cs.drop 30).take 10=cs.drop 30:=j0 (by rw[u7];omega);rw[t2,lW,KQ]
 refine⟨⟨a,b⟩,?_⟩;rw[this,e0,e1];rfl
def QB(z:Int):ah:=[iV z]
theorem aS9(l:List Int):ct QB l=eQ l:=by
 induction l with
 |nil=>rfl
 |cons z l ih=>show[iV z]++ct QB l=_;rw[ih];rfl
theorem aTa{w:h_}{a:Addr}(h:w.cell? a=some u):a.spot=none/\a.block<w.heap.size:=by
 unfold World.cell? at h;split at h
 ·rename_i c t f he;refine⟨?_,(wG.1 he).1⟩;cases hs:a.spot with
  |none=>rfl
  |some s=>rw[hs]at h;simp at h
 ·cases h
theorem aTb{v:i_}(h:DataW.trod enc prog w 0 (λ_=>true) true fuel 48 [v]=some x):∃ l:List Int,nG w v l.length (eQ l):=by
 rcases aFW (P:=prog) (f:=QB) (s:=1) (λ_=>rfl) d_ (e:=3) k_ k_ (λn cs y hy=>aF2 hy) h with h1|⟨a,len,cap,rs,h1,hl,hc,hlen,kh,AE⟩
 ·exact⟨[],.inl (.inl ⟨h1,rfl,rfl⟩)⟩
 ·refine⟨rs,?_⟩;subst h1;rcases nq cap with h0|h0
  ·refine .inr ⟨by omega,a,?_⟩;rw[show len=0 by omega,h0]
  ·obtain⟨u,hu⟩:=AE h0;have e0:a.add 0=a:=rfl;rw[e0]at hu;obtain⟨hs,hb⟩:=aTa hu;obtain⟨b,o,sp⟩:=a;dsimp only at hs hb;subst hs;have:=aF0 (f:=QB) (s:=1) (λ_=>rfl) hl hb hlen kh;rw[aS9]at this;exact .inl this
def W7(w:h_):Type:={ r:(Int×List Int)×Value // nG w r.2 r.1.2.length (eQ r.1.2)}
def LM{w:h_}(r:W7 w):ah:=[iV r.1.1.1,r.1.2]
theorem aTc{n:Nat}{cs:ah}{y:DataW H×List MemPlace}(h:DataW.trod enc prog w 0 (λ_=>true) true n 50 cs=some y):∃ r:W7 w,cs=LM r:=by have hl:=LK (P:=prog) (i:=0) (u:=3) (o:=0) k_ h;rw[show prog.cellsOf 50=2 from k_]at hl;obtain⟨_,_,h0⟩:=yd (P:=prog) (i:=0) (u:=3) (o:=0) k_ h;obtain⟨_,_,h1⟩:=yd (P:=prog) (i:=1) (u:=48) (o:=1) k_ h;rw[show prog.cellsOf 3=1 from k_]at h0;rw[show prog.cellsOf 48=1 from k_]at h1;obtain⟨a,b,rfl⟩:=aF1 hl;obtain⟨z,e0⟩:=aF2 h0;obtain⟨l,hw⟩:=aTb h1;simp at e0;subst e0;exact⟨⟨((z,l),b),hw⟩,rfl⟩
theorem aF3{w:h_}:∀ rs:List (W7 w),rp w (rs.map λr=>r.1.1) (ct LM rs)
 |[]=>.nil
 |r::rs=>by show rp w (r.1.1::rs.map λr=>r.1.1) (LM r++ct LM rs);obtain⟨⟨⟨z,l⟩,u⟩,hw⟩:=r;exact .cons hw (aF3 rs)
set_option maxRecDepth 100000 in
theorem W8{f:α->ah}{s:Nat}(hE:∀ x,(f x).length=s)(pU:0<s){T e:TypeId}(ht:prog.underlying T=some (.slice e))(hs:prog.cellsOf e=s)(hb:0<prog.bytesOf e)(W5:∀ n cs (y:DataW H×List MemPlace),DataW.trod enc prog w 0 (λ_=>true) true n e cs=some y->∃ r,cs=f r)
  {v:i_} {r:Reach} (ax:Cell.okWide prog w r base T v) (h:DataW.trod enc prog w 0 (λ_=>true) true fuel T [v]=some x) (hw:∀ k∈x.1.weights prog T,k<=reachBytes):∃ rs:List α,c8 w v rs.length (ct f rs)/\rs.length<=reachBytes:=by
 rcases aFW hE pU ht hs W5 h with h1|⟨a,len,cap,rs,h1,hl,hc,hlen,kh,_⟩
 ·exact⟨[],.inl ⟨h1,rfl,rfl⟩,kB _⟩
 ·subst h1;obtain⟨q1,q2⟩:=aS4 ht ax;have OC:=aS1 ht hb h hw;obtain⟨b,o,sp⟩:=a;dsimp only at q1 q2;subst q1;exact⟨rs,aF0 hE hl q2 hlen kh,by omega⟩
set_option maxRecDepth 100000 in
theorem aTd{v:i_}{d:DataW H}{p:List MemPlace}(hv:Value.okWide prog w .any base 28 v)(h:DataW.Trod enc prog w 0 (λ_=>true) true 28 v d p)(hw:∀ k∈d.weights prog 28,k<=reachBytes):
  ∃ rs vs fs,(kf rs vs fs).In w v/\rs.length<=reachBytes/\vs.length<=reachBytes/\fs.length<=reachBytes:=by
 obtain⟨fuel,h⟩:=h;obtain⟨cs,rfl,bE,iO⟩:=aFZ k_ hv;rw[show prog.cellsOf 28=3 from k_]at bE;obtain⟨c0,c1,c2,rfl⟩:∃ a b c,cs=#[a,b,c]:=by
  obtain⟨l⟩:=cs
  match l,bE with
  |[a,b,c],_=>exact⟨a,b,c,rfl⟩
 obtain⟨ts,hts,_,jb⟩:=iO;have QC:prog.cellTypes prog.depth 28=some [22,25,26]:=k_;rw[hts]at QC;injection QC with QC;subst QC;have k0:Cell.okWide prog w .any base 22 c0:=by obtain⟨u,hu,ax⟩:=jb 0 c0 rfl;simp at hu;subst hu;exact ax
 have k1:Cell.okWide prog w .any base 25 c1:=by obtain⟨u,hu,ax⟩:=jb 1 c1 rfl;simp at hu;subst hu;exact ax
 have k2:Cell.okWide prog w .any base 26 c2:=by obtain⟨u,hu,ax⟩:=jb 2 c2 rfl;simp at hu;subst hu;exact ax
 have h:DataW.trod enc prog w 0 (λ_=>true) true fuel 28 [c0,c1,c2]=some (d,p):=h;obtain⟨_,_,h0,w0⟩:=W4 (P:=prog) (i:=0) (u:=22) (o:=0) k_ h;obtain⟨_,_,h1,w1⟩:=W4 (P:=prog) (i:=1) (u:=25) (o:=1) k_ h;obtain⟨_,_,h2,w2⟩:=W4 (P:=prog) (i:=2) (u:=26) (o:=2) k_ h;rw[show prog.cellsOf 22=1 from k_]at h0;rw[show prog.cellsOf 25=1 from k_]at h1;rw[show prog.cellsOf 26=1 from k_]at h2;obtain⟨rs,q0,l0⟩:=W8 (f:=RP.cs) (s:=40) iL.len d_ (e:=66) k_ k_ (jh k_) (λn cs y hy=>aS8 hy) k0 h0 (λk hk=>hw k (w0 k hk));obtain⟨vs,q1,l1⟩:=W8 (f:=RV.cs) (s:=30) gp.len d_ (e:=42) k_ k_ (jh k_) (λn cs y hy=>W6 hy) k1 h1 (λk hk=>hw k (w1 k hk));obtain⟨fs,q2,l2⟩:=W8 (f:=LM (w:=w)) (s:=2) (λ_=>rfl) d_ (e:=50) k_ k_ (jh k_) (λn cs y hy=>aTc hy) k2 h2 (λk hk=>hw k (w2 k hk));refine⟨rs,vs,fs.map λr=>r.1.1,⟨c0,c1,c2,rfl,q0,q1,⟨_,by rw[fk];exact q2,aF3 fs⟩,?_⟩,l0,l1,by rw[fk];exact l2⟩;rcases q2 with ⟨e,_⟩|⟨_,_,_,e,_⟩<;>rw[e]<;>exact⟨rfl,rfl⟩
end
section
variable{H:Type}{enc:TypeId×Value->H}{w:h_}{base:Nat}
set_option maxRecDepth 100000 in
theorem aTe{v:i_}{d:DataW H}{p:List MemPlace}(hv:Value.okWide prog w .any base 42 v)(h:DataW.Trod enc prog w 0 (λ_=>true) true 42 v d p):∃ r:RV,v=r.v:=by obtain⟨cs,rfl,_,_⟩:=aFZ k_ hv;obtain⟨fuel,h⟩:=h;obtain⟨r,hr⟩:=W6 (cs:=cs.toList) h;refine⟨r,?_⟩;show Value.agg cs=.agg r.cs.toArray;rw[<-hr]
end
section
open V3 (dot aw cI smul)
def LN(ps:c_):aK:=.s ps.length (bf ps) (cQ ps).length (aX (cQ ps)) (n9 (jJ ps))
structure qt(ps:c_):Prop where
 len:ps.length<=9
 sz:∀ p∈ps,bB 24 p/\p.n≠0
 cl:Cl ps
 full:qb ps
section
variable{ps:c_}
theorem qt.proper(h:qt ps):j6 ps:=λq hq=>(h.sz q hq).2
theorem qt.aF4(h:qt ps):vV ps 24:=⟨by have:=h.len;omega,λq hq=>(h.sz q hq).1,h.proper,by decide⟩
theorem qt.Ut(h:qt ps):DO ps=true:=(aFL h.proper).2 ⟨h.cl,h.full⟩
theorem qt.valid(h:qt ps):cg prog 15 [LN ps] b_:=by have:=aSj h.aF4 h.Ut;unfold aFy WQ at this;rw[fk]at this;exact this
def wA(np nv:Nat):Value:=.agg #[sl 0 np,sl 1 nv,cr 2]
end
theorem W9:qt lN:=⟨by decide,λp h=>⟨(aSU (uA _ h)).mono d_,aFO (uA _ h)⟩,aFQ,aFP⟩

end
section
open CR OF
section
variable{ps:c_}{rs:List RP}{vs:List RV}{fs:f_}{r:RV}{n nv:Nat}{xp xv:ah}{F:Fact}
theorem aTf{c:ah}{t:TypeId}(h:c.all flat=true):fH m (.aI c t):=λv hv=>iF (aY.1 h v hv)
structure uR(n nv:Nat)(xp xv:ah)(F:Fact):Prop where
 f1:xp.all flat=true
 n1:n=0->xp=[]
 f2:xv.all flat=true
 n2:nv=0->xv=[]
 rc:F.rc=false
theorem aTg(rs:List RP)(vs:List RV)(fs:f_):uR rs.length vs.length (db rs) (cO vs) (ij fs):=⟨gA iL rs,WS,gA gp vs,zZ,rfl⟩
theorem aF5(ps:c_):uR ps.length (cQ ps).length (bf ps) (aX (cQ ps)) (n9 (jJ ps)):=⟨dh ps,jk,eD _,xz,rfl⟩
def anN(xp xv:ah)(F:Fact):q_:=[(0,some (.view xp)),(1,some (.view xv)),(2,some (.fact F))]
theorem uR.src(h:uR n nv xp xv F)(k:gh Bs l xs []):gh Bs (.s n xp nv xv F::l) (wA n nv::xs) (anN xp xv F):=.s (x1:=.view xp) (x2:=.view xv) rfl h.f1 h.n1 rfl h.f2 h.n2 k
theorem uR.ok(h:uR n nv xp xv F):(aK.s n xp nv xv F).ok=true:=by show(xp.all flat&&(xv.all flat&&!F.rc))=true;rw[h.f1,h.f2,h.rc];rfl
theorem uR.nQ(h:uR n nv xp xv F)(r:RV):([.s n xp nv xv F,.p r.v].all aK.ok)=true:=by simp only[eY,fO,h.ok,kX,iM];rfl
end
end
theorem aTh(ps:c_):kf (ps.map cV) ((cQ ps).map cJ) (jJ ps)=.s ps.length (bf ps) (cQ ps).length (aX (cQ ps)) (ij (jJ ps)):=by unfold kf;rw[fk,fk];rfl
section
open V3 (dot aw cI smul)
section
variable{Bs:ae}{ps:c_}{v:V3 K}{m n:Nat}
def LO(i:Nat)(z:Int):aM:=[(6,vI i),(5,.int .i64 z),(2,ptr 3),(3,ptr 4)]
def IB(ps:c_)(v:V3 K)(n2:Nat):aE:=[(0,.view (bf ps)),(3,.aI [sl 0 ps.length,sl 1 n2,cr 2] 28),(4,.aI (cJ v).cs 42)]
theorem aTi(hi:i<ps.length)(hp:ps[i]?=some p)(sp:bB m p)(pn:p.n≠0)(sv:aG n v)(hm:4*(3*(m+n)+14+m)+50<=aA)(h63:ps.length<9223372036854775807):
  af prog Bs 24 (aF (ag f73 0)) (LO i z) (IB ps v n2) 5 ⟨.normal,LO (i+1) (F4 v z p),IB ps v n2,5⟩:=by
 have hs:=aUT sp sv hm pn;unfold F4;generalize OF.aB (dot p.n v-p.d)=s at *;exact az [.lt 11 i ps.length true (aC hi),.df f73 18 0 ps.length i 40 hi k_,.ld f73 19 66 0 (i*40) (.view (bf ps)) (dp p) rfl (vK hp) k_,hs.at 21,.aEB f73 22 z s _ rfl k_,.sum 13 i 1 (i+1) rfl o_]
theorem aTj(bP:∀ p∈ps,bB m p/\p.n≠0)(sv:aG n v)(hm:4*(3*(m+n)+14+m)+50<=aA)(h63:ps.length<9223372036854775807):
  af prog Bs 24 (.block 0 (ag f73 0)) (LO 0 (-1)) (IB ps v n2) 5 ⟨.normal,[(5,.int .i64 (oe ps v))],IB ps v n2,5⟩:=
 bO (id:=0) (ck (r:=⟨.exit 0,[(5,.int .i64 (oe ps v))],IB ps v n2,5⟩) ps.length (λi=>LO i (oe (ps.take i) v)) (λ_=>IB ps v n2) (λi k _=>Iff.rfl) (λi hi=>by
  have hp:=aW hi;have e:oe (ps.take (i+1)) v=F4 v (oe (ps.take i) v) ps[i]:=by unfold oe;rw[sA,hp,O7];rfl
  show af _ _ _ _ _ _ _ ⟨_,LO (i+1) (oe (ps.take (i+1)) v),_,_⟩;rw[e];exact aTi hi hp (bP _ (dK hi)).1 (bP _ (dK hi)).2 sv hm h63) (by
  rw[mN];generalize oe ps v=z;exact az [.lt 11 ps.length ps.length false s_]) n_)
theorem aTk{x2:ah}(h2:x2.all flat=true)(hF:F.rc=false)(bP:∀ p∈ps,bB m p/\p.n≠0)(sv:aG n v)(hm:4*(3*(m+n)+14+m)+50<=aA)(h63:ps.length<9223372036854775807):
  cg prog 73 [Qy ps n2 x2 F,.p (bN v)] (.int .i64 (oe ps v)):=by
 have ax:([Qy ps n2 x2 F,.p (bN v)].all aK.ok)=true:=by simp only[eY,fO,aSI h2 hF,kX,iM];rfl
 have lo:=λBs=>aTj (Bs:=Bs) (n2:=n2) bP sv hm h63;unfold Qy at *;generalize oe ps v=z at *;exact gg mixed func73 ax 100 (N:=24) k_ (λw=>[.code 0 _ _ _ _ _ (lo _)]) (λw=>k_) k_
end
end
section
open CR OF
open V3 (dot aw cI smul)
section
variable{Bs:ae}{ps:c_}{r:RV}{n nv:Nat}{xp xv:ah}{F:Fact}{v:V3 K}{m q:Nat}{t:Bool}
def IC(n i:Nat)(z:Int):aM:=[(19,vI i),(18,vI n),(17,sl 0 n),(5,.int .i64 z),(2,bZ 3),(3,bZ 4)]
def BR(ps:c_)(v:V3 K)(nv:Nat):aE:=[(0,.view (bf ps)),(3,.aI [sl 0 ps.length,sl 1 nv,cr 2] 28),(4,.aI (cJ v).cs 42)]
theorem aTl:∀ x∈BR ps v nv,fH 5 x.2:=λx hx=>by
 simp only[BR,b9,fv,fA]at hx;rcases hx with rfl|rfl|rfl
 ·exact λv hv=>iF (aY.1 (dh ps) v hv)
 ·exact λv hv=>by change v∈[sl 0 ps.length,sl 1 nv,cr 2]at hv;simp only[b9,fv,fA]at hv;rcases hv with rfl|rfl|rfl<;>rfl
 ·exact aTf k_
theorem aTm(hi:i<ps.length)(hp:ps[i]?=some p)(sp:bB m p)(pn:p.n≠0)(sv:aG q v)(hm:4*(3*(m+q)+14+m)+50<=aA)(h63:ps.length<9223372036854775807):
  af prog Bs 30 (aF (ag Tryz.f24 0)) (IC ps.length i z) (BR ps v nv) 5 ⟨.normal,IC ps.length (i+1) (F4 v z p),BR ps v nv,5⟩:=by
 have hs:=Fj sp sv o_ pn;unfold F4;generalize OF.aB (dot p.n v-p.d)=s at *;exact ue (fY:=6) mixed 100 [.lt 20 i ps.length true (aC hi),.df Tryz.f24 21 0 ps.length i 40 hi k_,.ld Tryz.f24 22 66 0 (i*40) (.view (bf ps)) (dp p) rfl (vK hp) k_,hs.at 26,.aEB Tryz.f24 27 z s _ rfl k_,.sum 28 i 1 (i+1) rfl o_] k_ rfl k_ aTl k_
theorem aTn(bP:∀ p∈ps,bB m p/\p.n≠0)(sv:aG q v)(hm:4*(3*(m+q)+14+m)+50<=aA)(h63:ps.length<9223372036854775807):
  af prog Bs 30 (.block 0 (ag Tryz.f24 0)) (IC ps.length 0 (-1)) (BR ps v nv) 5 ⟨.normal,[(5,.int .i64 (oe ps v))],BR ps v nv,5⟩:=
 bO (id:=0) (ck (r:=⟨.exit 0,[(5,.int .i64 (oe ps v))],BR ps v nv,5⟩) ps.length (λi=>IC ps.length i (oe (ps.take i) v)) (λ_=>BR ps v nv) (λi k _=>Iff.rfl) (λi hi=>by
  have hp:=aW hi;have e:oe (ps.take (i+1)) v=F4 v (oe (ps.take i) v) ps[i]:=by unfold oe;rw[sA,hp,O7];rfl
  show af _ _ _ _ _ _ _ ⟨_,IC _ (i+1) (oe (ps.take (i+1)) v),_,_⟩;rw[e];exact aTm hi hp (bP _ (dK hi)).1 (bP _ (dK hi)).2 sv hm h63) (by
  rw[mN];generalize oe ps v=z;exact az [.lt 20 ps.length ps.length false s_]) n_)
theorem aTo(h:qt ps)(sv:aG q v)(hm:4*(3*(24+q)+14+24)+50<=aA):cg prog 24 [LN ps,.p (bN v)] (.int .i64 (oe ps v)):=by have a:=aF5 ps;have hv:=h.valid;have l9:=h.len;have lo:=λBs=>aTn (Bs:=Bs) (nv:=(cQ ps).length) h.sz sv hm o_;have vv:=jt sv o_;have e:=a.nQ (cJ v);unfold LN IC BR at *;generalize oe ps v=z at *;exact gg mixed func24 e 100 (N:=30) k_ (λw=>[.cR Tryz.f24 9 _ hv (a.src .nil),vv.at 13,.code 0 _ _ _ _ _ (lo _)]) (λw=>k_) k_
theorem aF6(a:uR n nv xp xv F)(h:cg prog 15 [.s n xp nv xv F] (.bool t))(hv:t=true->aD prog 70 [r.v] a_):cg prog 24 [.s n xp nv xv F,.p r.v] (.int .i64 1):=by
 cases t
 ·exact gg mixed func24 (a.nQ r) 100 (N:=30) k_ (λw=>[.cR Tryz.f24 9 _ h (a.src .nil)]) (λw=>k_) k_
 ·exact gg mixed func24 (a.nQ r) 100 (N:=30) k_ (λw=>[.cR Tryz.f24 9 _ h (a.src .nil),(hv rfl).at 13]) (λw=>k_) k_
theorem aF7(a:uR n nv xp xv F)(hv:aD prog 72 [r.v] (.bool t))(h:t=true->cg prog 23 [.s n xp nv xv F] a_):cg prog 25 [.s n xp nv xv F,.p r.v] (.int .i64 1):=by
 cases t
 ·exact gg mixed func25 (a.nQ r) 100 (N:=16) k_ (λw=>[hv.at 6]) (λw=>k_) k_
 ·exact gg mixed func25 (a.nQ r) 100 (N:=16) k_ (λw=>[hv.at 6,.cR Tryz.f25 10 _ (h rfl) (a.src .nil)]) (λw=>k_) k_
theorem aTp(a:uR n nv xp xv F)(hv:aD prog 72 [r.v] b_)(h:cg prog 23 [.s n xp nv xv F] b_)(hi:cg prog 73 [.s n xp nv xv F,.p r.v] (.int .i64 z)):cg prog 25 [.s n xp nv xv F,.p r.v] (.int .i64 z):=
 gg mixed func25 (a.nQ r) 100 (N:=16) k_ (λw=>[hv.at 6,.cR Tryz.f25 10 _ h (a.src .nil),.cR Tryz.f25 15 _ hi (a.src (.p rfl .nil))]) (λw=>k_) k_
end
end
section
open V3 (dot aw cI smul)
theorem QD{n:Nat}(bE:dH n (fB r))(hn:n<=aA):aD prog 84 [r.v] (.bool (kx r)):=by
 have va:=rX r.a.neg r.a.aT;have vb:=rX r.b.neg r.b.aT;have vc:=rX r.c.neg r.c.aT;have ve:=rX r.e.neg r.e.aT;have vd:=rX r.d.neg r.d.aT;change aD _ _ _ (.bool (e9 r.a))at va;change aD _ _ _ (.bool (e9 r.b))at vb;change aD _ _ _ (.bool (e9 r.c))at vc;change aD _ _ _ (.bool (e9 r.e))at ve;change aD _ _ _ (.bool (e9 r.d))at vd;by_cases aU:(e9 r.a&&(e9 r.b&&(e9 r.c&&(e9 r.e&&e9 r.d))))=true
 ·simp only[cY]at aU;obtain⟨ha,hb,hc,he,hd⟩:=aU;have er:r=qO (fB r):=by obtain⟨a,b,c,e,d⟩:=r;show RN.mk a b c e d=RN.mk (bt (dL a)) (bt (dL b)) (bt (dL c)) (bt (dL e)) (bt (dL d));rw[vS ha,vS hb,vS hc,vS he,vS hd]
  have e2:kx r=(decide (0<(fB r).d)&&decide ((fB r).g=1)):=by unfold kx;rw[ha,hb,hc,he,hd];rfl
  rw[e2];clear e2 va vb vc ve vd ha hb hc he hd;generalize fB r=f at *;subst er;have hc:=Tx (c:=co f) (d:=f.d) bE hn;have e:nU (co f) f.d=f:=rfl;rw[e]at hc;have hs:decide (f.d.sign>0)=decide (0<f.d):=oW.2 ⟨λh=>aAd.1 (by have:=CW f.d;omega),λh=>by rw[yO h];decide⟩;have one:(bt 1).Sm:=tt (n:=1) d_ d_;have hgs:f.g<2^n:=tu (tu (tu (tu bE.2.2.2.2 bE.1) bE.2.1) bE.2.2.1) bE.2.2.2.1;have sg':(bt (f.g:Int)).Sm:=tt (n:=n) (by rw[AY];exact hgs) hn;generalize hP:decide (0<f.d)=t at *;generalize hG:decide (f.g=1)=u at *;have heq:(if(true:Bool)then u else !u)=true↔bt (f.g:Int)=bt 1:=by rw[au rfl,<-hG,qU];exact⟨λh=>by rw[h];rfl,λh=>by have:=xf h;omega⟩
  refine fj mixed func84 100 (λ_=>[(lH f.a).at 11,(lH f.b).at 11,(lH f.c).at 11,(lH f.e).at 11,(lH f.d).at 16,(qN f.d).at 20,.rw 21 (.bool (decide (f.d.sign>0))) (.bool t) (by rw[hs]),hc.at 28,(kZ (z:=1) d_).at 29,.step 30 (ay f84 30) _ _ _ _ (A0 (neg:=true) k_ (bt f.g) (bt 1) sg' one (b:=u) heq)]) (λ_=>?_) k_ ?_<;>cases t<;>kernel_rfl
 ·have e2:kx r=false:=FE.2 λh=>aU (by unfold kx at h;simp only[cY]at h ⊢;exact⟨h.1,h.2.1,h.2.2.1,h.2.2.2.1,h.2.2.2.2.1⟩);rw[e2];generalize e9 r.a=a at *;generalize e9 r.b=b at *;generalize e9 r.c=c at *;generalize e9 r.e=e at *;generalize e9 r.d=d at *;refine fj mixed func84 100 (λ_=>[va.at 11,vb.at 11,vc.at 11,ve.at 11,vd.at 16]) (λ_=>?_) k_ k_;cases a<;>cases b<;>cases c<;>cases e<;>cases d<;>first|exact absurd rfl aU|kernel_rfl
theorem aF8{r:RV}{n:Nat}(h:FK n r)(hn:n<=aA):aD prog 70 [r.v] (.bool (tH r)):=by have:=HB (QD h.1 hn) (QD h.2.1 hn) (QD h.2.2 hn);rw[Bool.and_assoc]at this;exact this
theorem aTq{r:RP}{n:Nat}(h:uN n r)(hn:n<=aA):aD prog 44 [r.v] (.bool (ml r)):=by
 have hv:=aF8 h.1 hn;have hd:=QD h.2 hn;unfold ml;rcases hb:tH r.n with _|_
 ·rw[hb]at hv;exact aZ func44 (λ_=>[hv.at 5])
 ·rw[hb]at hv;have hz:=Bq (PR hb h.1) hn;unfold bN at hz;rw[<-PM hb]at hz;by_cases h0:vZ r.n=0
  ·rw[aC h0]at hz;rw[aO (λe=>e h0)];exact aZ func44 (λ_=>[hv.at 5,hz.at 9])
  ·rw[aO h0]at hz;rw[aC h0];exact aZ func44 (λ_=>[hv.at 5,hz.at 9,hd.at 15])
section
variable{rs:List RP}{vs:List RV}{fs:f_}{m:Nat}
theorem aTr(hs:∀ x∈rs,uN m x)(hm:m<=aA)(h63:rs.length<9223372036854775807)(hb:rs.all ml=false):cg prog 12 [.r rs.length (db rs)] (.tuple #[DF,qp 1]):=by
 have hc:=aEn (g:=43) (ps:=rs) (b:=λx=>!ml x) k_ h63 (λr hr=>aEo (aTq (hs r hr) hm));have e:rs.any (λx=>!ml x)=true:=by rw[<-List.not_all_eq_any_not,hb];rfl
 rw[e]at hc;have ax:([aK.r rs.length (db rs)].all aK.ok)=true:=by simp only[eY,fO,Wf,iM]
 exact dC func12 ax 33 (λ_=>[.cR f12 7 [sl 0 rs.length,xV 43] hc (.w (x:=.view (db rs)) rfl (gA iL rs) Wg (.p rfl .nil))])
theorem aTs(hs:∀ x∈rs,uN m x)(hm:m<=aA)(h63:rs.length<9223372036854775807)(hb:rs.all ml=false):cg prog 15 [.s rs.length (db rs) vs.length (cO vs) (ij fs)] a_:=by
 have mX:=aTr hs hm h63 hb;have ax:([aK.s rs.length (db rs) vs.length (cO vs) (ij fs)].all aK.ok)=true:=by show(((db rs).all flat&&((cO vs).all flat&&true))&&true)=true;rw[gA iL,gA gp];rfl
 exact dC func15 ax 29 (λw=>[.cR Tryz.f15 9 [sl 0 rs.length] mX (.w (x:=.view (db rs)) rfl (gA iL rs) Wg .nil)])
end
end
section
open CR OF
open V3 (dot aw cI smul)
section
variable{rs:List RP}{vs:List RV}{fs:f_}
theorem aTt(kD:LI rs vs fs=true)(F6:rs.length<9223372036854775807)(ig:vs.length<9223372036854775807)(mo:fs.length<9223372036854775807):
  (cg prog 23 [kf rs vs fs] a_/\cg prog 15 [kf rs vs fs] a_)\/
  ∃ ps:c_,qt ps/\rs=ps.map cV/\vs=(cQ ps).map cJ/\fs=jJ ps/\cg prog 23 [kf rs vs fs] b_:=by
 unfold LI Lu at kD;simp only[cY]at kD;obtain⟨cG,⟨hrp,_,h9⟩,⟨hvw,aUD⟩,aUE⟩:=kD;rw[aY]at cG hrp hvw;have bE:∀ x∈rs,uN 24 x:=λx hx=>aPr (hrp x hx) d_;have aN:∀ x∈vs,x.Sm:=λx hx=>aSX (hvw x hx) d_;have pq:∀ f∈fs,f.2.length<9223372036854775807:=λf hf=>eX (jh (cG f hf)) d_;by_cases aU:rs.all ml=true;rotate_left
 ·have aU:rs.all ml=false:=by simpa using aU
  exact .inl ⟨aSG bE d_ F6 aU,aTs bE d_ F6 aU⟩
 obtain⟨ers,js⟩:=aSY aU;have bP:∀ q∈rs.map pZ,bB 24 q/\q.n≠0:=λq hq=>by refine⟨?_,js q hq⟩;obtain⟨x,hx,rfl⟩:=de.1 hq;exact aPq (aY.1 aU x hx) (bE x hx)
 have hlen:(rs.map pZ).length=rs.length:=fk ..;generalize hP:rs.map pZ=ps at *;subst ers;have F7:j6 ps:=λq hq=>(bP q hq).2;have h9:ps.length<=9:=by rw[hlen];simpa using h9
 have aTu:uQ ps 24 4000:=⟨h9,bP,by decide,by decide⟩;have mI:=aSH (vs:=vs) (fs:=fs) aTu (λhc hs=>by have hc:=WJ.1 hc;have hf:=aFM F7 hs;have:=aSN hc F7 hf;rw[F2 hc F7 hf]at this;exact this) aN ig mo pq
 by_cases hvalid:DQ ps vs fs=true
 ·rw[hvalid]at mI;obtain⟨hc,hf,e1,e2⟩:=aSQ F7 hvalid;exact .inr ⟨ps,⟨h9,bP,hc,hf⟩,rfl,e1,e2,mI⟩
 have hvalid:DQ ps vs fs=false:=by simpa using hvalid
 rw[hvalid]at mI;have FF:vV ps 24:=⟨by omega,λq hq=>(bP q hq).1,F7,by decide⟩;have hs:=aFx FF aN ig mo pq;have hB:Iu ps vs fs=false:=FE.2 λh=>by unfold Iu at h;simp only[cY,rI]at h;obtain⟨h1,h2,h3,h4⟩:=h;obtain⟨hc,hf⟩:=(aFL F7).1 (show DO ps=true by unfold DO;rw[h1,h2];rfl);have:=aSR hc F7 hf;rw[<-h3,<-h4,hvalid]at this;cases this
 rw[hB]at hs;refine .inl ⟨mI,?_⟩;unfold LD at hs;unfold kf;rw[fk];exact hs
end
end
section
variable{P:j_}{B:ae}{N:Nat}
def Xa(P:j_)(o:Oper):Option Nat:=match o.op with
 |.slice t _ none none none=>match P.underlying t with
  |some (.array n e)=>(match P.info? e with|some _=>some n|none=>none)
  |_=>none
 |_=>none
theorem aTv{n:Nat}(ho:Xa P o=some n){cells:ah}(h0:0<n)(j:Nat):
  cz P B o [.pointer (some ⟨k,0,some 7⟩)] [(j,none),(k,some (.aI cells ty))] (.slice (some ⟨j,0,some 7⟩) n 0) [(j,.view cells),(k,.dead)]:=by
 unfold Xa at ho;split at ho
 ·rename_i t y bM;split at ho
  ·rename_i n' e ht;split at ho
   ·rename_i i il;injection ho with ho;subst ho;refine gT.step λι c ρ w aN hm hn=>?_;have hj:c j=none:=hn (j,none) s_;have hk:c k=some (.aI cells ty):=hn (k,some (.aI cells ty)) s_;rw[bM]at aN;obtain⟨u,hu,hc⟩:=mz aN;have dy:ρ y=u:=by simp[Op.operands]at hu;exact hu
    have BX:=hm.kill k (by rw[hk];exact n_);have gJ:aV c k .dead j=none:=by unfold aV;rw[al (λe=>by subst e;rw[hj]at hk;cases hk)];exact hj
    obtain⟨b,oo,cap,hb,he⟩:=hc.uX rfl;dsimp only at hb he;obtain⟨l,h1,b',bY,rfl,fo,kh⟩:=hm.born k _ hk;rw[hb]at h1;injection h1 with h1;injection h1 with e1 e2 e3;subst e1;subst e2;subst e3;have gH:=hm.own k _ b 0 0 hk rfl hb;have hle:=gu (l:=.at b 0 n') (hm.dw j hj);refine⟨dD ι j (.at b 0 n'),.slice (some ⟨b,0+0,none⟩) n' n',w,hle,.slc (fC _ _ _) (bh _) (jL _),BX.add gJ (.inr ⟨b,0,n',bY,rfl,mY hle fo,λq u h=>?_⟩) n_ n_ (λb1 o2 kS _ e=>?_),.inl ?_⟩
    ·unfold World.cell?;dsimp only;rw[kh];simp[h]
    ·injection e with e1 e2 e3;subst e1;refine⟨gH.1,λq y o' bj hq hy wk=>?_⟩;unfold aV at hq;by_cases rG:q=k
     ·rw[au rG]at hq;injection hq with hq;subst hq;cases hy
     ·rw[al rG]at hq;exact rG (hm.inj q k y _ b o' bj 0 0 hq hy hk rfl wk hb)
    ·simp only[execOp,bM];simp[Instr.sliceAt,iZ ht,Instr.sureAddr,dy,he,Instr.sliceBounds,sizeOf,typeInfo,il,Addr.add]
   ·cases ho
  ·cases ho
 ·cases ho
def aQ.slA(fn:Func)(key k n j:Nat)(cells:ah)(ty:TypeId)(h0:0<n)(ho:Xa P (ay fn key)=some n):aQ P B N:=
 .step key (ay fn key) [.pointer (some ⟨k,0,some 7⟩)] [(j,none),(k,some (.aI cells ty))] (.slice (some ⟨j,0,some 7⟩) n 0) [(j,.view cells),(k,.dead)] (aTv ho h0 j)
end
section
open Go.Shelf
def aF9:Go.Shelf.Ren:=⟨λ| 6=>65|15=>114|14=>113|28=>170|29=>171|20=>162|21=>163|22=>164|23=>165|24=>166|25=>167|26=>168|27=>169|46=>207|47=>208|48=>209|49=>210|50=>211|57=>229|n=>n,λ| 22=>51|24=>88|25=>91|3=>3|39=>124|0=>0|53=>172|55=>118|4=>4|46=>166|45=>165|50=>159|5=>5|9=>9|66=>194|70=>198|76=>211|77=>212|n=>n,λ| n=>n⟩
theorem aTw:Go.Proofs.SlLaysF0.n6 prog aF9:={
 mixed:=by kernel_rfl
 f6:=⟨f65.name,by decide,func65.trans (ch some k_)⟩
 f14:=⟨f113.name,by decide,func113.trans (ch some k_)⟩
 f15:=func114.trans (ch some k_)
 f20:=⟨f162.name,by decide,func162.trans (ch some k_)⟩
 f21:=⟨f163.name,by decide,func163.trans (ch some k_)⟩
 f22:=⟨f164.name,by decide,func164.trans (ch some k_)⟩
 f23:=⟨f165.name,by decide,func165.trans (ch some k_)⟩
 f24:=⟨f166.name,by decide,func166.trans (ch some k_)⟩
 f25:=⟨f167.name,by decide,func167.trans (ch some k_)⟩
 f26:=⟨f168.name,by decide,func168.trans (ch some k_)⟩
 f27:=⟨f169.name,by decide,func169.trans (ch some k_)⟩
 f28:=func170.trans (ch some k_)
 f29:=func171.trans (ch some k_)
 f46:=⟨f207.name,by decide,func207.trans (ch some k_)⟩
 f47:=func208.trans (ch some k_)
 f48:=func209.trans (ch some k_)
 f49:=⟨f210.name,by decide,func210.trans (ch some k_)⟩
 f50:=⟨f211.name,by decide,func211.trans (ch some k_)⟩
 f57:=⟨f229.name,by decide,func229.trans (ch some k_)⟩
 t0:=Tryz.underlying0
 a0:=isAgg0
 z0:=sizeOf0
 v0:=Tryz.zeroValue0
 t3:=Tryz.underlying3
 a3:=isAgg3
 z3:=sizeOf3
 v3:=Tryz.zeroValue3
 t4:=Tryz.underlying4
 a4:=isAgg4
 z4:=sizeOf4
 v4:=Tryz.zeroValue4
 t5:=Tryz.underlying5
 a5:=isAgg5
 z5:=sizeOf5
 v5:=Tryz.zeroValue5
 t9:=Tryz.underlying9
 a9:=isAgg9
 z9:=sizeOf9
 v9:=Tryz.zeroValue9
 t22:=Tryz.underlying51
 a22:=isAgg51
 z22:=sizeOf51
 v22:=Tryz.zeroValue51
 t25:=Tryz.underlying91
 a25:=isAgg91
 z25:=sizeOf91
 v25:=Tryz.zeroValue91
 t39:=Tryz.underlying124
 a39:=isAgg124
 z39:=sizeOf124
 v39:=Tryz.zeroValue124
 t45:=Tryz.underlying165
 a45:=isAgg165
 z45:=sizeOf165
 v45:=Tryz.zeroValue165
 t46:=Tryz.underlying166
 a46:=isAgg166
 z46:=sizeOf166
 v46:=Tryz.zeroValue166
 t50:=Tryz.underlying159
 a50:=isAgg159
 z50:=sizeOf159
 v50:=Tryz.zeroValue159
 t53:=Tryz.underlying172
 a53:=isAgg172
 z53:=sizeOf172
 v53:=Tryz.zeroValue172
 t55:=Tryz.underlying118
 a55:=isAgg118
 z55:=sizeOf118
 v55:=Tryz.zeroValue118
 t66:=Tryz.underlying194
 a66:=isAgg194
 z66:=sizeOf194
 v66:=Tryz.zeroValue194
 t70:=Tryz.underlying198
 a70:=isAgg198
 z70:=sizeOf198
 v70:=Tryz.zeroValue198
 t76:=Tryz.underlying211
 a76:=isAgg211
 z76:=sizeOf211
 v76:=Tryz.zeroValue211
 t77:=Tryz.underlying212
 a77:=isAgg212
 z77:=sizeOf212
 v77:=Tryz.zeroValue212 }
end
section
open Go.Sort (SWO)
def DS(a b:Nat):Int:=if a<b then -1 else if b<a then 1 else 0
def BS(u v:Nat×Nat):Int:=if DS u.1 v.1=0 then DS u.2 v.2 else DS u.1 v.1
theorem aTx{u v:Nat×Nat}:BS u v<0↔u.1<v.1\/(u.1=v.1/\u.2<v.2):=by
 unfold BS DS
 repeat' split
 all_goals omega
def uT(u v:Nat×Nat):Bool:=decide (u.1<v.1\/(u.1=v.1/\u.2<=v.2))
def LP(u v:Nat×Nat):Bool:=Go.Proofs.ltOf BS u v
theorem QE{u v:Nat×Nat}:LP u v=true↔u.1<v.1\/(u.1=v.1/\u.2<v.2):=by show decide (BS u v<0)=true↔_;rw[qU,aTx]
theorem aTy{u v:Nat×Nat}:LP u v=false↔uT v u=true:=by rw[FE,ne_eq,QE];unfold uT;rw[qU];omega
theorem aTz:SWO LP where
 irrefl x:=by rw[FE,ne_eq,QE];omega
 trans x y z h k:=by rw[QE]at *;omega
 ntrans x y z h k:=by rw[FE,ne_eq,QE]at *;omega
theorem aTA(u v w:Nat×Nat)(h:uT u v=true)(k:uT v w=true):uT u w=true:=by unfold uT at *;rw[qU]at *;omega
theorem aTB(u v:Nat×Nat):(uT u v||uT v u)=true:=by unfold uT;rw[rH,qU,qU];omega
def ye(l:List (Nat×Nat)):List (Nat×Nat):=l.mergeSort uT
theorem aGa(l:List (Nat×Nat)):(ye l).Perm l:=List.mergeSort_perm l uT
theorem aTC{l d:List (Nat×Nat)}(hp:d.Perm l)(hs:d.Pairwise λu v=>uT u v=true):d=ye l:=
 List.Perm.eq_of_pairwise (λu v _ _ h k=>by unfold uT at h k;rw[qU]at h k;exact Prod.ext o_ o_) hs (List.pairwise_mergeSort aTA aTB l) (hp.trans (aGa l).symm)
def eV(e:Nat×Nat):Value:=.agg #[vI e.1,vI e.2]
def eE(e:Nat×Nat):ah:=[vI e.1,vI e.2]
theorem F8:qd eE 2:=⟨λ_=>rfl,λ_ v hv=>by
 simp only[eE,b9,fv,fA]at hv;rcases hv with rfl|rfl<;>rfl,λ_ v hv=>by
 simp only[eE,b9,fv,fA]at hv;rcases hv with rfl|rfl<;>rfl⟩
theorem ID(a:Nat):aD prog 172 [vI a] a_:=aZ func172 (λ_=>[.rw 5 (.bool ((a:Int)!=(a:Int))) a_ s_])
theorem aGb(a b:Nat):aD prog 115 [vI a,vI b] (.int .i64 (DS a b)):=by
 unfold DS;by_cases h:a<b
 ·rw[au h];exact aZ func115 (λ_=>[(ID a).at 8,(ID b).at 10,.lt 16 a b true (aC h)])
 ·rw[al h];by_cases h2:b<a
  ·rw[au h2];exact aZ func115 (λ_=>[(ID a).at 8,(ID b).at 10,.lt 16 a b false (aO h),.gt 19 a b true (aC h2)])
  ·rw[al h2];exact aZ func115 (λ_=>[(ID a).at 8,(ID b).at 10,.lt 16 a b false (aO h),.gt 19 a b false (aO h2)])
theorem aTD(u v:Nat×Nat):cg prog 67 [.r 2 (eE u),.r 2 (eE v)] (.int .i64 (BS u v)):=by
 have c1:=aGb u.1 v.1;have c2:=aGb u.2 v.2;have ne:∀ z:Int,∀ t:Bool,decide (z=0)=!t->Value.bool (z !=0)=.bool t:=λz t h=>by
  congr 1
  cases t
  ·have:=jh h;subst this;rfl
  ·have:=AV h;simpa using this
 unfold BS;generalize DS u.1 v.1=x at *;generalize DS u.2 v.2=y at *;by_cases h:x=0
 ·rw[au h];by_cases h2:y=0
  ·subst h2;exact xy func67 36 (λw=>[c1.at 26,.rw 28 _ a_ (ne x false (aC h)),c2.at 26,.rw 28 _ a_ (ne 0 false rfl)])
  ·exact xy func67 36 (λw=>[c1.at 26,.rw 28 _ a_ (ne x false (aC h)),c2.at 26,.rw 28 _ b_ (ne y true (aO h2))])
 ·rw[al h];exact xy func67 36 (λw=>[c1.at 26,.rw 28 _ b_ (ne x true (aO h))])
theorem aTE(u v:Nat×Nat):aD prog 66 [eV u,eV v] (.int .i64 (BS u v)):=by have hc:=aTD u v;generalize BS u v=z at *;exact aZ func66 (λ_=>[.slA f66 5 0 2 2 (eE u) 88 d_ k_,.slA f66 6 1 2 3 (eE v) 88 d_ k_,.cR f66 7 [sl 2 2,sl 3 2] hc (.w (k:=2) (x:=.view (eE u)) rfl rfl n_ (.w (k:=3) (x:=.view (eE v)) rfl rfl n_ .nil))])
def Xb:Value:=.func (.func 66) #[] #[]
theorem aTF(l:List (Nat×Nat))(h63:l.length<4611686018427387904):UZ prog 65 Xb eE 2 LP l:=by
 intro aI cap w hH hblk
 have:=aPQ (P:=prog) (ρ:=aF9) aTw 2 isAgg88 sizeOf88 eE F8.len F8.one BS aTz 66 #[] aI 0 cap l.toArray w
  (aDZ k_) (aCl (λx y=>aTE x y) aI _ _ w) hH hblk (by simpa using h63)
 have e:l.toArray.size=l.length:=by simp
 rw[e]at this;exact this
theorem aTG{l:List (Nat×Nat)}(h63:l.length<4611686018427387904)(h0:l≠[])(ho:di o.op=some x)(k:Nat):
  cz prog Bs o [.func (.func 65) #[] #[],sl k l.length,Xb] [(k,some (.row (ct eE l) 88 2))] (.tuple #[]) [(k,.row (ct eE (ye l)) 88 2)]:=
 aCn (P:=prog) (B:=Bs) (l:=l) (l':=ye l) (o:=o) (x:=x) (ty:=88) (lt:=LP) (g:=Xb) F8 d_ (aTF l h63) k_ ho k_ k (λh=>absurd h h0) λd hd hs=>by refine aTC hd ?_;rw[Lh];intro i j hi hj nK;have:=hs i j nK hj _ _ (aW hi) (aW hj);exact aTy.1 this
end
section
variable{P:j_}{B:ae}{N:Nat}
theorem DT(ho:wH P o=some 1){l:List Int}(hi:l[i]?=some z):
  cz P B o [.pointer (some ⟨m,0,some 9⟩),vI i] [(k,none),(m,some (.fact (dM l)))] (.pointer (some ⟨k,0,some 7⟩)) [(k,.view [iV z])]:=by
 unfold wH at ho;split at ho
 ·rename_i t x y bM;split at ho
  ·rename_i e ht;split at ho
   ·rename_i inf Ad;injection ho with ho;refine gT.step λι c ρ w aN hm oq=>?_;rw[bM]at aN;obtain⟨v,v2,hu,hc,c9⟩:=iY aN;have dy:ρ x=v:=by simp[Op.operands]at hu;exact hu.1
    have eF:ρ y=v2:=by simp[Op.operands]at hu;exact hu.2
    have c9:=c9.fh rfl;have FR:c m=some (.fact (dM l)):=oq (m,some (.fact (dM l))) s_;have k0:c k=none:=oq (k,none) s_;have FQ:=yZ hm FR hc;have loc:ι m=some (.val v):=by
     obtain⟨lc,q1,u,q2,q3⟩:=hm.born m _ FR;subst q2;generalize hp:Value.pointer (some ⟨m,0,some 9⟩)=p at hc;cases hc with
     |same h=>subst hp;cases h
     |ptr h=>injection hp with hp;injection hp with hp;injection hp with _ _ hp;cases hp
     |slc h=>cases hp
     |slcN h=>cases hp
     |opq h4 h5 h6=>injection hp with hp;injection hp with hp;injection hp with iD;subst iD;exact h4
     |fn=>cases hp
     |agg=>cases hp
     |tup=>cases hp
    have ao:=(eB.1 hi).1;have hw:nG w v l.length (eQ l):=FQ.1;have kh:(eQ l)[i]?=some (iV z):=by unfold eQ;rw[u9,hi];rfl
    rcases hw.row o_ with ⟨_,q2,_⟩|⟨b,o',c',q1,q2,q3,q4⟩
    ·omega
    have hF:(dM l).cM v w b:=⟨by omega,by rw[q1];rfl⟩;have m2:aJ B (dD ι k (.at b (o'+i*1) 0)) (aV c k (.view [iV z])) w:=
     hm.add k0 (.inr ⟨b,o'+i*1,0,[iV z],rfl,.cons (.same rfl) .nil,λj x hj=>by
      cases j with
      |zero=>simp at hj;subst hj;have:=q4 _ _ kh;simpa using this
      |succ j=>simp at hj⟩) n_ n_ (λb1 o1 kS _ e=>by
      injection e with e1 e2 e3;subst e1;exact⟨q3,λj y o2 pA hj hy he=>hm.apart j m y _ b o2 pA v hj hy he FR loc hF⟩)
    refine⟨_,.pointer (some ⟨b,o'+i*1,none⟩),w,gu (hm.dw k k0),?_,m2,.inl ?_⟩
    ·have:=aH.ptr (off:=0) (fC ι k (.at b (o'+i*1) 0));rwa[ja]at this
    ·subst q1;simp only[execOp,bM,dy,eF,c9];have h0:(0:Int)<=(i:Int):=by omega
     simp[Instr.indexAt,asIntOf,iZ ht,sizeOf,typeInfo,Ad,h0,yn,vI,ho];intro fG;omega
   ·cases ho
  ·cases ho
 ·cases ho
end
def IE(h:Nat):List Nat->List (Nat×Nat)
 |[]=>[]
 |[x]=>[(x,h)]
 |x::y::t=>(x,y)::IE h (y::t)
def lO:List Nat->List (Nat×Nat)
 |[]=>[]
 |a::m=>IE a (a::m)
theorem aGc(h:Nat):∀ l:List Nat,(IE h l).map (·.1)=l
 |[]=>rfl
 |[x]=>rfl
 |x::y::t=>by rw[IE,qE,aGc h (y::t)]
section
theorem aGd(h:Nat):∀(l:l_) (t x:Nat),l[t]?=some x->(IE h l)[t]?=some (x,(l[t+1]?).getD h)
 |[],_,_,e=>by simp at e
 |[y],t,x,e=>by
  cases t with
  |zero=>simp at e;subst e;rfl
  |succ t=>simp at e
 |y::z::l,t,x,e=>by
  cases t with
  |zero=>simp at e;subst e;rfl
  |succ t=>simpa[IE]using aGd h (z::l) t x (by simpa using e)
theorem aTH{L:l_}{t x y:Nat}(hx:L[t]?=some x)(hy:L[(t+1)%L.length]?=some y):(lO L)[t]?=some (x,y):=by
 have ht:=(eB.1 hx).1;cases L with
 |nil=>simp at hx
 |cons a m=>
  have:=aGd a (a::m) t x hx;refine this.trans ?_
  congr 2
  rcases eU (t+1) (a::m).length with h|h
  ·rw[dJ h]at hy;rw[hy];rfl
  ·have e:t+1=(a::m).length:=by omega
   rw[e,Nat.mod_self]at hy;rw[yj o_];simpa using hy
theorem Xc:∀ L:List Nat,(lO L).length=L.length
 |[]=>rfl
 |a::m=>by have:=ch List.length (aGc a (a::m));rw[fk]at this;exact this
def kR(l:List (Nat×Nat)):List (Nat×Nat):=l.filter λe=>decide (e.1<e.2)
theorem aTI(l:List (Nat×Nat))(e:Nat×Nat):kR (l++[e])=if e.1<e.2 then kR l++[e]else kR l:=by
 unfold kR;rw[Wa];by_cases h:e.1<e.2
 ·rw[au h,List.filter_cons_of_pos (by simpa using h)];rfl
 ·rw[al h,List.filter_cons_of_neg (by simpa using h),List.filter_nil,gY]
theorem aGe(l:List (Nat×Nat)):(kR l).length<=l.length:=aEj _ _
theorem aGf(l:List (Nat×Nat)):(ct eE l).length=l.length*2:=sk F8 l
theorem aTJ(l:List (Nat×Nat))(e:Nat×Nat):ct eE l++eE e=ct eE (l++[e]):=by unfold ct;rw[Kz];simp
end
section
variable{np nv:Nat}{xp xv:ah}{F:Fact}{e:Nat×Nat}{l:List (Nat×Nat)}{i:Int}
def rz(np nv R:Nat)(l:List (Nat×Nat)):aE:=[(3,.aI [sl 0 np,sl 1 nv,cr 2] 28),(4,.aI [sl R l.length] 51),(6,.aI [sl 0 np,sl 1 nv,cr 2] 28),(R,.row (ct eE l) 88 2)]
def kg(xp xv:ah)(F:Fact):aE:=[(0,.view xp),(1,.view xv),(2,.fact F)]
def wh:aM:=[(1,bZ 3),(2,.slice none 0 0),(3,bZ 4),(10,.func (.func 112) #[] #[bZ 6])]
theorem QF(l:List (Nat×Nat)):∀ v∈ct eE l,flat v=true:=HI F8 l
theorem Xd(l:List (Nat×Nat)):l4 m (k,.row (ct eE l) 88 2)=true:=zq λv hv=>QF l v hv
theorem QG(jE:xp.all flat=true)(iG:xv.all flat=true):∀ p∈kg xp xv F,l4 m p=true:=λp hp=>by
 simp only[kg,b9,fv,fA]at hp;rcases hp with rfl|rfl|rfl
 ·exact zq λv hv=>aY.1 jE v hv
 ·exact zq λv hv=>aY.1 iG v hv
 ·rfl
theorem BT{x:Obj}(h:l4 m (0,x)=true):∀ v∈x.cells,pW m ns v=true:=λv hv=>by unfold pW;rw[aY.1 h v hv];rfl
def Xe(np nv:Nat)(l:List (Nat×Nat))(e:Nat×Nat):aE:=
 if e.1<e.2 then[(3,.aI [sl 0 np,sl 1 nv,cr 2] 28),(4,.aI [sl 17 (l.length+1)] 51),(6,.aI [sl 0 np,sl 1 nv,cr 2] 28),(12,.dead),(17,.row (ct eE (l++[e])) 88 2)]else rz np nv 12 l
def Xf(e:Nat×Nat):List Nat:=if e.1<e.2 then[17]else[]
theorem aTK(jE:xp.all flat=true)(iG:xv.all flat=true)(hF:F.rc=false)(h63:l.length<1000000):
  Hy prog 7 15 25 #[11,12] (A9 (pf Tryz.f20)) (Ba (pf Tryz.f20)) wh (rz np nv 12 l) (kg xp xv F) (Xe np nv l e) (Xf e) [.int .i64 i,eV e] none:=by
 have du:∀ p∈rz np nv 12 l++kg xp xv F,p.1<15/\p.1≠7/\l4 15 p=true:=λp hp=>by
  rcases eA.1 hp with hp|hp
  ·simp only[rz,b9,fv,fA]at hp;rcases hp with rfl|rfl|rfl|rfl
   ·exact⟨by dsimp only;decide,by dsimp only;decide,rfl⟩
   ·exact⟨by dsimp only;decide,by dsimp only;decide,rfl⟩
   ·exact⟨by dsimp only;decide,by dsimp only;decide,rfl⟩
   ·exact⟨by dsimp only;decide,by dsimp only;decide,Xd l⟩
  ·refine⟨?_,?_,QG jE iG p hp⟩<;>
   ·simp only[kg,b9,fv,fA]at hp;rcases hp with rfl|rfl|rfl<;>(dsimp only;decide)
 have jV:((kg xp xv F).all λp=>p.2.soft)=true:=by show(true&&(true&&(!F.rc&&true)))=true;rw[hF];rfl
 have hA:∀ B:ae,af prog B 25 (A9 (pf Tryz.f20)) (J4 [(11,.int .i64 i),(12,eV e)] wh) (rz np nv 12 l++kg xp xv F) 15 ⟨.normal,(5,bZ 15)::wh,(15,.aI (eE e) 88)::(rz np nv 12 l++kg xp xv F),16⟩:=λB=>az [];unfold Xe Xf;by_cases h:e.1<e.2
 ·rw[au h,au h];have iO:=aTJ l e;have hlen:=aGf l
  refine Kc [17] (rA:=⟨.normal,(5,bZ 15)::wh,(15,.aI (eE e) 88)::(rz np nv 12 l++kg xp xv F),16⟩) (rB:=⟨.normal,[],[(3,.aI [sl 0 np,sl 1 nv,cr 2] 28),(4,.aI [sl 17 (l.length+1)] 51),(6,.aI [sl 0 np,sl 1 nv,cr 2] 28),(12,.dead),(17,.row (ct eE (l++[e])) 88 2)],18⟩)
   k_ rfl k_ d_ du (λp hp=>?_) k_ (λp hp=>?_) jV k_ k_ hA rfl k_ rfl (λB=>?_) (λk x h=>h) rfl
  ·simp only[b9,fv,fA]at hp;rcases hp with rfl|rfl|rfl|rfl|rfl
   ·exact BT rfl
   ·exact λv hv=>by have hv:v∈[sl 17 (l.length+1)]:=hv;rw[xu]at hv;subst hv;rfl
   ·exact BT rfl
   ·exact n_
   ·exact BT (Xd _)
  ·simp only[b9,fv,fA]at hp;rcases hp with rfl|rfl|rfl|rfl|rfl
   ·exact .inl rfl
   ·exact .inl rfl
   ·exact .inl rfl
   ·exact .inr rfl
   ·exact .inl rfl
  ·unfold rz;generalize ct eE (l++[e])=r' at *;generalize ct eE l=r at *;exact az [.lt 17 e.1 e.2 true (aC h),.bs Tryz.f20 20 16 1 88 2 [0] (eV (0,0)) [eV e] (eE e).toArray (.row (eE e) 88 2) rfl (λv hv=>by simp at hv;subst hv;rfl) (λv hv=>F8.flat e v hv) k_ rfl d_ d_ k_,.pP Tryz.f20 21 17 12 l.length 1 (l.length+1) 88 2 16 r 16 (.row (eE e) 88 2) r' rfl rfl rfl hlen iO (λv hv=>F8.one e v hv) d_ (by simp[maxLen];omega) o_ k_]
 ·rw[al h,al h]
  refine Kc [] (rA:=⟨.normal,(5,bZ 15)::wh,(15,.aI (eE e) 88)::(rz np nv 12 l++kg xp xv F),16⟩) (rB:=⟨.normal,[],rz np nv 12 l,16⟩)
   k_ rfl k_ d_ du (λp hp=>BT (du p (uA _ hp)).2.2) k_ (Ke k_) jV (by rw[gY]) k_ hA rfl k_ rfl (λB=>?_) (λk x h=>h) rfl
  unfold rz;generalize ct eE l=r at *;exact az [.lt 17 e.1 e.2 false (aO h)]
end
end Go.Proofs.YthccllenbnhogaaGreatDoor
