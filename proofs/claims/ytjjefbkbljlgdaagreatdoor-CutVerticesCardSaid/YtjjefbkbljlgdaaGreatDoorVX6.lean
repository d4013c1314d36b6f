/- Vertices after a cut: the proof of CutVerticesCardSaid (the law's function answers true at every record and plane it can be given; theorem cutVertices_card, last part), part 6 of 7; no condition. -/
import Derived.Test.YtjjefbkbljlgdaaGreatDoorVX5
namespace Go.Proofs.YtjjefbkbljlgdaaGreatDoor
open Go Go.RowKit Tryz
section
open CR OF
open V3 (dot ao bC smul)
theorem Mj{q:RI}{k:Nat}(h:decide (sZ q<=k)=true)(hk:k<=maxLen):q.Sm:=by have h:=kW h;unfold RI.Sm;unfold sZ at h;exact dh h hk
theorem XY{r:RN}{k:Nat}(h:s7 r k=true)(hk:k<=maxLen):r.Sm:=by unfold s7 at h;simp only[de]at h;exact⟨Mj h.1 hk,Mj h.2.1 hk,Mj h.2.2.1 hk,Mj h.2.2.2.1 hk,Mj h.2.2.2.2 hk⟩
theorem aUs{r:RV}{k:Nat}(h:qD r k=true)(hk:k<=maxLen):r.Sm:=by unfold qD at h;simp only[de]at h;exact⟨XY h.1 hk,XY h.2.1 hk,XY h.2.2 hk⟩
structure Good(ps:List (HS K))(p:HS K):Prop where
 len:ps.length<=8
 pl:∀ q∈ps,bo 24 q/\q.n≠0
 new:bo 24 p/\p.n≠0
 cl:Cl ps
 full:jS ps
section
variable{ps:List (HS K)}{p:HS K}
theorem Good.proper(h:Good ps p):gu ps:=λq hq=>(h.pl q hq).2
theorem Good.all(h:Good ps p):∀ q∈ps++[p],bo 24 q/\q.n≠0:=λq hq=>by
 rcases dX.1 hq with hq|hq
 ·exact h.pl q hq
 ·simp at hq;subst hq;exact h.new
theorem Good.XZ(h:Good ps p):gu (ps++[p]):=λq hq=>(h.all q hq).2
theorem Good.Ro(h:Good ps p):Cl (ps++[p]):=Rj h.cl h.proper
theorem Good.ref(h:Good ps p):pT ps 24 4000:=⟨by have:=h.len;omega,h.pl,by decide,by decide⟩
theorem Good.aUt(h:Good ps p):pT (ps++[p]) 24 4000:=⟨by rw[jx,BV];have:=h.len;omega,h.all,by decide,by decide⟩
theorem Good.X0(h:Good ps p):pf (ps++[p]) 24:=⟨by rw[jx,BV];have:=h.len;omega,λq hq=>(h.all q hq).1,λq hq=>(h.all q hq).2,by decide⟩
theorem Good.vsz(h:Good ps p):(∀ v∈bf ps,aD 4000 v)/\(bf ps).length<=81*9:=by rw[th h.cl h.proper h.full];exact h.ref.sz
theorem Good.aUu(h:Good ps p)(hf:jS (ps++[p])):(∀ v∈bf (ps++[p]),aD 4000 v)/\(bf (ps++[p])).length<=81*9:=by rw[th h.Ro h.XZ hf];exact h.aUt.sz
theorem aUv{m M:Nat}(h:pT ps m M)(hc:Cl ps)(hp:gu ps)(hf:jS ps):cI prog 11 [.s ps.length (aN ps) (bf ps).length (aL (bf ps)) (eK (ev ps))] (.bool true):=by
 have dS:=XP hc hp hf;have h9:=h.len;rw[th hc hp hf]at dS;have:=aGn (ps:=ps) (vs:=(bf ps).map cx) (fs:=ev ps) h (λ_ _=>dS) (λx hx=>by
   obtain⟨v,hv,rfl⟩:=di.1 hx;rw[th hc hp hf]at hv;exact(h.sz.1 v hv).sm h.rQ.2.2.2.2.2.2) (by
   rw[eO,th hc hp hf];have:=h.sz.2;omega) (by have:=XB ps;omega) λf hf=>e8 (aF9 o_ f hf) d_
 rw[aUb hc hp hf]at this;unfold js at this;rw[eO,eO]at this;exact cI.XH this (yy.full _).G
end
section
variable{ps:List (HS K)}{p:HS K}{a b c:Nat}
def sA(n nv:Nat):Value:=.agg #[sl 0 n,sl 1 nv,dP 2]
end
section
variable{ps:List (HS K)}{p:HS K}{a b c i j r:Nat}{z z1 z2:Int}{va vb d e v:V3 K}{k:K}
end
theorem aUw{rs:List RP}(h:rs.all pO=true):rs=(rs.map pZ).map cG/\∀ q∈rs.map pZ,q.n≠0:=by
 rw[bh]at h;constructor
 ·rw[S6]
  conv=>lhs;rw[<-List.map_id rs]
  exact yM λr hr=>(WH (h r hr)).1
 ·intro q hq;obtain⟨r,hr,rfl⟩:=di.1 hq;exact(WH (h r hr)).2
section
variable{ps:List (HS K)}{p:HS K}{a b c:Nat}
end
theorem aUx(ps:List (HS K)):∀ f∈ev ps,0<f.2.length:=by
 intro f hf;unfold ev at hf;obtain⟨g,hg,rfl⟩:=di.1 hf;unfold e9 at hg;rw[zR]at hg;obtain⟨i,_,hg⟩:=hg;unfold gE at hg;split at hg
 ·unfold pQ at hg;split at hg
  ·cases hg
  ·split at hg
   ·cases hg
   ·split at hg
    ·rename_i ak;simp at hg;subst hg;show 0<(List.map _ _).length;rw[eO];exact mC d_ ak
    ·cases hg
 ·cases hg
theorem cI.aUy{P:Program}{f:FuncId}{n1 n2:Nat}{x1 x2:aj}{fs:List (Int×List Int)}{l:List aT}{res:Value}(h:cI P f (.s n1 x1 n2 x2 (eK fs)::l) res)(hl:∀ f∈fs,0<f.2.length):cI P f (.s n1 x1 n2 x2 (nG fs)::l) res:=
 cI.XH h λ_ _ hG=>aTR hG hl
section
variable{rs:List RP}{vs:List RV}{fs:List (Int×List Int)}{r:RP}{a b c:Nat}
def X1(rs:List RP)(vs:List RV)(fs:List (Int×List Int)):List (Nat×Option Obj):=[(0,some (.view (dc rs))),(1,some (.view (cF vs))),(2,some (.fact (nG fs)))]
theorem aGz{Bs:aa}{l:List aT}{xs:aj}(h:fR Bs l xs []):fR Bs (.s rs.length (dc rs) vs.length (cF vs) (nG fs)::l) (sA rs.length vs.length::xs) (X1 rs vs fs):=
 .s (x1:=.view (dc rs)) (x2:=.view (cF vs)) rfl (gV iO rs) XJ rfl (gV gh _) vl h
end
end
section
variable{H:Type}{enc:TypeId×Value->H}{P:Program}{w:World}{base:Nat}{spare:Nat->Bool}{held:Bool}{fuel:Nat}{t:TypeId}{cs:aj}{x:DataW H×List MemPlace}
def Jp(P:Program)(t:TypeId)(i:Nat):Option (TypeId×Nat):=match P.underlying t with
 |some (.struct fs)=>(fs[i]?).map λf=>(f.type,f.offset)
 |_=>none
def aGA(P:Program)(t:TypeId):Option (Nat×TypeId):=match P.underlying t with
 |some (.array n e)=>some (n,e)
 |_=>none
theorem Mk{i u o:Nat}(hf:Jp P t i=some (u,o))(h:DataW.trod enc P w base spare held fuel t cs=some x):cs.length=P.cellsOf t:=by
 unfold Jp at hf;split at hf
 ·rename_i fs ht;obtain⟨_,_,_,_,hl,_⟩:=aGB ht h;exact hl
 ·cases hf
theorem yA{i u o:Nat}(hf:Jp P t i=some (u,o))(h:DataW.trod enc P w base spare held fuel t cs=some x):∃ n y,DataW.trod enc P w base spare held n u ((cs.drop o).take (P.cellsOf u))=some y:=by
 unfold Jp at hf;split at hf
 ·rename_i fs ht;obtain⟨xs,n,_,_,_,hlen,aY⟩:=aGB ht h;rw[Option.map_eq_some_iff]at hf;obtain⟨f,ko,he⟩:=hf;injection he with e1 e2;subst e1;subst e2;have:=aY i f ko;have hi:i<xs.length:=by rw[hlen];exact(yO.1 ko).1
  rw[bd hi]at this;exact⟨n,_,this⟩
 ·cases hf
theorem aGC{u k:Nat}{d:DataW H}:∀{ts:List TypeId} {ds:List (DataW H)} {i:Nat},ts[i]?=some u->ds[i]?=some d->k∈d.weights P u->k∈DataW.weightsEach P ts ds
 |[],_,i,h,_,_=>by simp at h
 |_::_,[],i,_,h,_=>by simp at h
 |t::ts,e::ds,0,h1,h2,h3=>by simp at h1 h2;subst h1;subst h2;unfold DataW.weightsEach;exact pS _ h3
 |t::ts,e::ds,i+1,h1,h2,h3=>by unfold DataW.weightsEach;exact yv _ (aGC (by simpa using h1) (by simpa using h2) h3)
theorem X2{i u o:Nat}(hf:Jp P t i=some (u,o))(h:DataW.trod enc P w base spare held fuel t cs=some x):∃ n y,DataW.trod enc P w base spare held n u ((cs.drop o).take (P.cellsOf u))=some y/\∀ k∈y.1.weights P u,k∈x.1.weights P t:=by
 unfold Jp at hf;split at hf
 ·rename_i fs ht;obtain⟨xs,n,_,hx,_,hlen,aY⟩:=aGB ht h;rw[Option.map_eq_some_iff]at hf;obtain⟨f,ko,he⟩:=hf;injection he with e1 e2;subst e1;subst e2;have:=aY i f ko;have hi:i<xs.length:=by rw[hlen];exact(yO.1 ko).1
  have hxi:=bd hi;rw[hxi]at this;refine⟨n,_,this,λk hk=>?_⟩;rw[hx];show k∈(DataW.agg (xs.map (·.1))).weights P t;unfold DataW.weights;rw[ht];refine aGC (i:=i) (u:=f.type) (d:=xs[i].1) ?_ ?_ hk
  ·rw[AW,show fs.toList[i]?=some f by rw[Array.getElem?_toList];exact ko];rfl
  ·rw[AW,hxi];rfl
 ·cases hf
theorem aUz{e:TypeId}{a:Addr}{len cap:Nat}(ht:P.underlying t=some (.slice e))(hb:0<P.bytesOf e)(h:DataW.trod enc P w base spare held fuel t [.slice (some a) len cap]=some x)(hw:∀ k∈x.1.weights P t,k<=reachBytes):len<=reachBytes:=by
 rcases DataW.trod_slice ht h with ⟨h1,_⟩|⟨a',lQ,aQ,elems,rest,n,_,h1,hx,_,_,_,hlen,_⟩
 ·cases h1
 ·injection h1 with h1;injection h1 with _ e2 _;subst e2;have:=hw ((elems.length+rest.length)*P.bytesOf e) (by rw[hx];show _∈(DataW.slice (elems.map (·.1)) (rest.map (·.1))).weights P t;unfold DataW.weights;rw[ht];simp)
  have h2:elems.length+rest.length<=(elems.length+rest.length)*P.bytesOf e:=E5 _ hb;omega
theorem aUA{n e:Nat}(he:aGA P t=some (n,e))(h:DataW.trod enc P w base spare held fuel t cs=some x):cs.length=P.cellsOf t/\∀ i,i<n->∃ m y,DataW.trod enc P w base spare held m e ((cs.drop (i*P.cellsOf e)).take (P.cellsOf e))=some y:=by
 unfold aGA at he;split at he
 ·rename_i n' e' ht;injection he with he;injection he with e1 e2;subst e1;subst e2;obtain⟨xs,m,_,_,hl,hlen,aY⟩:=DataW.trod_array ht h;refine⟨hl,λi hi=>?_⟩;have:=aY i hi;rw[bd o_]at this;exact⟨m,_,this⟩
 ·cases he
theorem aGD{α:Type}{p:Nat->α->Prop}:∀ n,(∀ i,i<n->∃ r,p i r)->∃ rs:List α,rs.length=n/\∀ i r,rs[i]?=some r->p i r
 |0,_=>⟨[],rfl,λi r h=>by simp at h⟩
 |n+1,h=>by
  obtain⟨rs,h1,h2⟩:=aGD n λi hi=>h i o_;obtain⟨r,hr⟩:=h n o_;refine⟨rs++[r],by rw[jx,h1];rfl,λi r' hi=>?_⟩;rcases eL i rs.length with ak|dT
  ·rw[JI ak]at hi;exact h2 i r' hi
  ·rw[ED dT]at hi;have hi0:i-rs.length=0:=by have:=(eh.1 hi).1;simp at this;omega
   rw[hi0]at hi;simp at hi;subst hi;have:i=n:=by omega
   subst this;exact hr
theorem aGE{α:Type}{f:α->aj}{s:Nat}(hE:∀ x,(f x).length=s)(qm:0<s){e:TypeId}(ht:P.underlying t=some (.slice e))(hs:P.cellsOf e=s)(X3:∀ n cs y,DataW.trod enc P w 0 (λ_=>true) true n e cs=some y->∃ r,cs=f r)
  {v:Value} (h:DataW.trod enc P w 0 (λ_=>true) true fuel t [v]=some x) :
  v=.slice none 0 0\/∃ a len cap,∃ rs:List α,v=.slice (some a) len cap/\len<=cap/\cap<=maxLen/\rs.length=len/\(∀ i r j u,rs[i]?=some r->(f r)[j]?=some u->w.cell? ((a.add (i*s)).add j)=some u)/\(0<cap->∃ u,w.cell? (a.add 0)=some u):=by
 rcases DataW.trod_slice ht h with ⟨h1,_⟩|⟨a,len,cap,elems,rest,n,_,h1,_,hb,hl,hc,hlen,tK,z8,_⟩
 ·injection h1 with h1;exact .inl h1
 ·injection h1 with h1;subst h1;refine .inr ⟨a,len,cap,?_⟩;have key:∀ i,i<len->∃ r:α,∀ j u,(f r)[j]?=some u->w.cell? ((a.add (i*s)).add j)=some u:=by intro i hi;have:=tK i hi;rw[bd o_,aGF]at this;obtain⟨bA,h2,h3⟩:=this;obtain⟨r,rfl⟩:=X3 _ _ _ h3;refine⟨r,λj u hj=>?_⟩;rw[hs]at h2;obtain⟨_,jH,aY⟩:=World.cells?_some h2;have QX:=(eh.1 hj).1;rw[aY j o_];exact hj
  obtain⟨rs,q1,q2⟩:=aGD len key;refine⟨rs,rfl,hl,hc,q1,λi r j u hi hj=>q2 i r hi j u hj,λzg=>?_⟩;have any:∃ bA,w.cells? 0 (a.add (0*s)) s=some bA:=by
   rcases oy len with h0|h0
   ·obtain⟨Av,hr⟩:=z8 rfl;have:=hr 0 o_;rw[bd o_,aGF]at this;obtain⟨bA,h2,_⟩:=this;rw[h0,hs]at h2;exact⟨bA,h2⟩
   ·have:=tK 0 h0;rw[bd o_,aGF]at this;obtain⟨bA,h2,_⟩:=this;rw[hs]at h2;exact⟨bA,h2⟩
  obtain⟨bA,h2⟩:=any;obtain⟨_,jH,aY⟩:=World.cells?_some h2;have:=aY 0 qm;rw[bd (by rw[jH];exact qm),lN]at this;exact⟨_,this⟩
theorem aGG{α:Type}{f:α->aj}{s:Nat}(hE:∀ x,(f x).length=s):∀{l:List α} {k:Nat} {u:Value},(df f l)[k]?=some u->∃ i r j,l[i]?=some r/\(f r)[j]?=some u/\k=i*s+j
 |[],k,u,h=>by simp[df]at h
 |x::l,k,u,h=>by
  rw[show df f (x::l)=f x++df f l from rfl]at h;rcases eL k (f x).length with ak|dT
  ·rw[JI ak]at h;exact⟨0,x,k,rfl,h,by rw[lN,kh]⟩
  ·rw[ED dT]at h;obtain⟨i,r,j,h1,h2,h3⟩:=aGG hE h;refine⟨i+1,r,j,by simpa using h1,h2,?_⟩;rw[hE]at h3 dT;rw[yS];omega
theorem aUB(b o i j:Nat):((⟨b,o,none⟩:Addr).add i).add j=⟨b,o+(i+j),none⟩:=by unfold Addr.add;by_cases hi:i=0<;>by_cases hj:j=0<;>simp[hi,hj,ux]
def isAgg(P:Program)(T:TypeId):Bool:=match P.underlying T with|some (.struct _)=>true|some (.array _ _)=>true|_=>false
theorem aGH{T:TypeId}{v:Value}{r:Reach}(hs:isAgg P T=true)(hv:Value.okWide P w r base T v):∃ cs,v=.agg cs/\cs.size=P.cellsOf T/\Row.okWide P w r base T cs:=by
 unfold Value.okWide at hv;unfold isAgg at hs;split at hs
 ·rename_i e;rw[e]at hv;exact hv
 ·rename_i e;rw[e]at hv;exact hv
 ·cases hs
theorem aUC{T e:TypeId}{a:Addr}{len cap:Nat}{r:Reach}(ht:P.underlying T=some (.slice e))(h:Cell.okWide P w r base T (.slice (some a) len cap)):a.spot=none/\a.block<w.heap.size:=by
 unfold Cell.okWide at h;rw[ht]at h;have h:Cell.ok P w r base T (.slice (some a) len cap):=h;unfold Cell.ok at h;rw[ht]at h;obtain⟨_,_,_,h1,row,cells,h2,_⟩:=h;refine⟨h1,?_⟩;unfold World.shape? at h2;split at h2
 ·rename_i c t f he;exact(yO.1 he).1
 ·cases h2
theorem aGI{α:Type}{f:α->aj}{s:Nat}(hE:∀ x,(f x).length=s){b o len cap:Nat}{rs:List α}(hl:len<=cap)(hb:b<w.heap.size)(hlen:rs.length=len)(h:∀ i r j u,rs[i]?=some r->(f r)[j]?=some u->w.cell? (((⟨b,o,none⟩:Addr).add (i*s)).add j)=some u):
  cO w (.slice (some ⟨b,o,none⟩) len cap) rs.length (df f rs):=by
 refine .inr ⟨b,o,cap,by rw[hlen],by omega,hb,λk u hk=>?_⟩;obtain⟨i,r,j,h1,h2,rfl⟩:=aGG hE hk;have:=h i r j u h1 h2;rwa[aUB]at this
end
section
variable{H:Type}{enc:TypeId×Value->H}{w:World}{base:Nat}{spare:Nat->Bool}{held:Bool}{fuel:Nat}{cs:aj}{x:DataW H×List MemPlace}
theorem aGJ{cs:aj}(h:cs.length=2):∃ a b,cs=[a,b]:=by
 match cs,h with
 |[a,b],_=>exact⟨a,b,rfl⟩
theorem aUD(h:DataW.trod enc prog w base spare held fuel 4 cs=some x):∃ b,cs=[.bool b]:=by obtain⟨b,h1,_⟩:=DataW.trod_bool (P:=prog) k_ h;exact⟨b,h1⟩
theorem aUE(h:DataW.trod enc prog w base spare held fuel 9 cs=some x):∃ l:List UInt8,cs=[.string (BA l)]:=by obtain⟨s,h1,_⟩:=DataW.trod_string (P:=prog) k_ h;exact⟨s.data.toList,by rw[h1];rfl⟩
theorem aGK(h:DataW.trod enc prog w base spare held fuel 3 cs=some x):∃ z,cs=[iV z]:=by obtain⟨z,h1,_⟩:=DataW.trod_int (P:=prog) (k:=.i64) k_ h;exact⟨z,h1⟩
theorem Ml(h:DataW.trod enc prog w base spare held fuel 28 cs=some x):∃ q:RI,cs=q.cs:=by have hl:=Mk (P:=prog) (i:=0) (u:=4) (o:=0) k_ h;rw[show prog.cellsOf 28=2 from k_]at hl;obtain⟨_,_,h0⟩:=yA (P:=prog) (i:=0) (u:=4) (o:=0) k_ h;obtain⟨_,_,h1⟩:=yA (P:=prog) (i:=1) (u:=9) (o:=1) k_ h;rw[show prog.cellsOf 4=1 from k_]at h0;rw[show prog.cellsOf 9=1 from k_]at h1;obtain⟨a,b,rfl⟩:=aGJ hl;obtain⟨b0,e0⟩:=aUD h0;obtain⟨l,e1⟩:=aUE h1;simp at e0 e1;subst e0;subst e1;exact⟨⟨b0,l⟩,rfl⟩
theorem aUF(h:DataW.trod enc prog w base spare held fuel 29 cs=some x):∃ a b c e:RI,cs=a.cs++(b.cs++(c.cs++e.cs)):=by
 obtain⟨hl,aY⟩:=aUA (P:=prog) (n:=4) (e:=28) k_ h;rw[show prog.cellsOf 29=8 from k_]at hl;rw[show prog.cellsOf 28=2 from k_]at aY;obtain⟨_,_,h0⟩:=aY 0 d_;obtain⟨_,_,h1⟩:=aY 1 d_;obtain⟨_,_,h2⟩:=aY 2 d_;obtain⟨_,_,h3⟩:=aY 3 d_;obtain⟨a,e0⟩:=Ml h0;obtain⟨b,e1⟩:=Ml h1;obtain⟨c,e2⟩:=Ml h2;obtain⟨e,e3⟩:=Ml h3;refine⟨a,b,c,e,?_⟩;rw[<-e0,<-e1,<-e2,<-e3]
 match cs,hl with
 |[_,_,_,_,_,_,_,_],_=>rfl
theorem Rp(h:DataW.trod enc prog w base spare held fuel 31 cs=some x):∃ r:RN,cs=r.cs:=by
 have hl:=Mk (P:=prog) (i:=0) (u:=29) (o:=0) k_ h;rw[show prog.cellsOf 31=10 from k_]at hl;obtain⟨_,_,h0⟩:=yA (P:=prog) (i:=0) (u:=29) (o:=0) k_ h;obtain⟨_,_,h1⟩:=yA (P:=prog) (i:=1) (u:=28) (o:=8) k_ h;rw[show prog.cellsOf 29=8 from k_]at h0;rw[show prog.cellsOf 28=2 from k_]at h1;obtain⟨a,b,c,e,e0⟩:=aUF h0;obtain⟨d,e1⟩:=Ml h1;have:cs=(cs.drop 0).take 8++(cs.drop 8).take 2:=by
  match cs,hl with
  |[_,_,_,_,_,_,_,_,_,_],_=>rfl
 refine⟨⟨a,b,c,e,d⟩,?_⟩;rw[this,e0,e1];rfl
theorem aGL(h:DataW.trod enc prog w base spare held fuel 33 cs=some x):∃ r:RV,cs=r.cs:=by
 have hl:=Mk (P:=prog) (i:=0) (u:=31) (o:=0) k_ h;rw[show prog.cellsOf 33=30 from k_]at hl;obtain⟨_,_,h0⟩:=yA (P:=prog) (i:=0) (u:=31) (o:=0) k_ h;obtain⟨_,_,h1⟩:=yA (P:=prog) (i:=1) (u:=31) (o:=10) k_ h;obtain⟨_,_,h2⟩:=yA (P:=prog) (i:=2) (u:=31) (o:=20) k_ h;rw[show prog.cellsOf 31=10 from k_]at h0 h1 h2;obtain⟨a,e0⟩:=Rp h0;obtain⟨b,e1⟩:=Rp h1;obtain⟨c,e2⟩:=Rp h2;have:cs=(cs.drop 0).take 10++((cs.drop 10).take 10++(cs.drop 20).take 10):=by
  have t2:(cs.drop 20).take 10=cs.drop 20:=kB (by rw[vt];omega);have t1:(cs.drop 10).take 10++cs.drop 20=cs.drop 10:=by have:=Iz 10 (cs.drop 10);rwa[Nx]at this
  rw[t2,t1,mB,Iz]
 refine⟨⟨a,b,c⟩,?_⟩;rw[this,e0,e1,e2];rfl
theorem aGM(h:DataW.trod enc prog w base spare held fuel 35 cs=some x):∃ r:RP,cs=r.cs:=by
 have hl:=Mk (P:=prog) (i:=0) (u:=33) (o:=0) k_ h;rw[show prog.cellsOf 35=40 from k_]at hl;obtain⟨_,_,h0⟩:=yA (P:=prog) (i:=0) (u:=33) (o:=0) k_ h;obtain⟨_,_,h1⟩:=yA (P:=prog) (i:=1) (u:=31) (o:=30) k_ h;rw[show prog.cellsOf 33=30 from k_]at h0;rw[show prog.cellsOf 31=10 from k_]at h1;obtain⟨a,e0⟩:=aGL h0;obtain⟨b,e1⟩:=Rp h1;have:cs=(cs.drop 0).take 30++(cs.drop 30).take 10:=by have t2:(cs.drop 30).take 10=cs.drop 30:=kB (by rw[vt];omega);rw[t2,mB,Iz]
 refine⟨⟨a,b⟩,?_⟩;rw[this,e0,e1];rfl
def Rq(z:Int):aj:=[iV z]
theorem aUG(l:List Int):df Rq l=eH l:=by
 induction l with
 |nil=>rfl
 |cons z l ih=>show[iV z]++df Rq l=_;rw[ih];rfl
theorem aUH{w:World}{a:Addr}{u:Value}(h:w.cell? a=some u):a.spot=none/\a.block<w.heap.size:=by
 unfold World.cell? at h;split at h
 ·rename_i c t f he;refine⟨?_,(yO.1 he).1⟩;cases hs:a.spot with
  |none=>rfl
  |some s=>rw[hs]at h;simp at h
 ·cases h
theorem aUI{v:Value}(h:DataW.trod enc prog w 0 (λ_=>true) true fuel 56 [v]=some x):∃ l:List Int,pU w v l.length (eH l):=by
 rcases aGE (P:=prog) (f:=Rq) (s:=1) (λ_=>rfl) d_ (e:=3) k_ k_ (λn cs y hy=>aGK hy) h with h1|⟨a,len,cap,rs,h1,hl,hc,hlen,mn,Bj⟩
 ·exact⟨[],.inl (.inl ⟨h1,rfl,rfl⟩)⟩
 ·refine⟨rs,?_⟩;subst h1;rcases oy cap with h0|h0
  ·refine .inr ⟨by omega,a,?_⟩;rw[show len=0 by omega,h0]
  ·obtain⟨u,hu⟩:=Bj h0;have e0:a.add 0=a:=rfl;rw[e0]at hu;obtain⟨hs,hb⟩:=aUH hu;obtain⟨b,o,sp⟩:=a;dsimp only at hs hb;subst hs;have:=aGI (f:=Rq) (s:=1) (λ_=>rfl) hl hb hlen mn;rw[aUG]at this;exact .inl this
def X4(w:World):Type:={ r:(Int×List Int)×Value // pU w r.2 r.1.2.length (eH r.1.2)}
def Mm{w:World}(r:X4 w):aj:=[iV r.1.1.1,r.1.2]
theorem aUJ{n:Nat}{cs:aj}{y:DataW H×List MemPlace}(h:DataW.trod enc prog w 0 (λ_=>true) true n 63 cs=some y):∃ r:X4 w,cs=Mm r:=by have hl:=Mk (P:=prog) (i:=0) (u:=3) (o:=0) k_ h;rw[show prog.cellsOf 63=2 from k_]at hl;obtain⟨_,_,h0⟩:=yA (P:=prog) (i:=0) (u:=3) (o:=0) k_ h;obtain⟨_,_,h1⟩:=yA (P:=prog) (i:=1) (u:=56) (o:=1) k_ h;rw[show prog.cellsOf 3=1 from k_]at h0;rw[show prog.cellsOf 56=1 from k_]at h1;obtain⟨a,b,rfl⟩:=aGJ hl;obtain⟨z,e0⟩:=aGK h0;obtain⟨l,hw⟩:=aUI h1;simp at e0;subst e0;exact⟨⟨((z,l),b),hw⟩,rfl⟩
theorem aGN{w:World}:∀ rs:List (X4 w),rL w (rs.map λr=>r.1.1) (df Mm rs)
 |[]=>.nil
 |r::rs=>by show rL w (r.1.1::rs.map λr=>r.1.1) (Mm r++df Mm rs);obtain⟨⟨⟨z,l⟩,u⟩,hw⟩:=r;exact .cons hw (aGN rs)
set_option maxRecDepth 100000 in
theorem X5{α:Type}{f:α->aj}{s:Nat}(hE:∀ x,(f x).length=s)(qm:0<s){T e:TypeId}(ht:prog.underlying T=some (.slice e))(hs:prog.cellsOf e=s)(hb:0<prog.bytesOf e)(X3:∀ n cs (y:DataW H×List MemPlace),DataW.trod enc prog w 0 (λ_=>true) true n e cs=some y->∃ r,cs=f r)
  {v:Value} {r:Reach} (az:Cell.okWide prog w r base T v) (h:DataW.trod enc prog w 0 (λ_=>true) true fuel T [v]=some x) (hw:∀ k∈x.1.weights prog T,k<=reachBytes):∃ rs:List α,cO w v rs.length (df f rs)/\rs.length<=reachBytes:=by
 rcases aGE hE qm ht hs X3 h with h1|⟨a,len,cap,rs,h1,hl,hc,hlen,mn,_⟩
 ·exact⟨[],.inl ⟨h1,rfl,rfl⟩,lh _⟩
 ·subst h1;obtain⟨q1,q2⟩:=aUC ht az;have Pa:=aUz ht hb h hw;obtain⟨b,o,sp⟩:=a;dsimp only at q1 q2;subst q1;exact⟨rs,aGI hE hl q2 hlen mn,by omega⟩
set_option maxRecDepth 100000 in
theorem aUK{v:Value}{d:DataW H}{p:List MemPlace}(hv:Value.okWide prog w .any base 26 v)(h:DataW.Trod enc prog w 0 (λ_=>true) true 26 v d p)(hw:∀ k∈d.weights prog 26,k<=reachBytes):
  ∃ rs vs fs,(js rs vs fs).In w v/\rs.length<=reachBytes/\vs.length<=reachBytes/\fs.length<=reachBytes:=by
 obtain⟨fuel,h⟩:=h;obtain⟨cs,rfl,bw,ju⟩:=aGH k_ hv;rw[show prog.cellsOf 26=3 from k_]at bw;obtain⟨c0,c1,c2,rfl⟩:∃ a b c,cs=#[a,b,c]:=by
  obtain⟨l⟩:=cs
  match l,bw with
  |[a,b,c],_=>exact⟨a,b,c,rfl⟩
 obtain⟨ts,hts,_,jk⟩:=ju;have Rr:prog.cellTypes prog.depth 26=some [22,23,24]:=k_;rw[hts]at Rr;injection Rr with Rr;subst Rr;have k0:Cell.okWide prog w .any base 22 c0:=by obtain⟨u,hu,az⟩:=jk 0 c0 rfl;simp at hu;subst hu;exact az
 have k1:Cell.okWide prog w .any base 23 c1:=by obtain⟨u,hu,az⟩:=jk 1 c1 rfl;simp at hu;subst hu;exact az
 have k2:Cell.okWide prog w .any base 24 c2:=by obtain⟨u,hu,az⟩:=jk 2 c2 rfl;simp at hu;subst hu;exact az
 have h:DataW.trod enc prog w 0 (λ_=>true) true fuel 26 [c0,c1,c2]=some (d,p):=h;obtain⟨_,_,h0,w0⟩:=X2 (P:=prog) (i:=0) (u:=22) (o:=0) k_ h;obtain⟨_,_,h1,w1⟩:=X2 (P:=prog) (i:=1) (u:=23) (o:=1) k_ h;obtain⟨_,_,h2,w2⟩:=X2 (P:=prog) (i:=2) (u:=24) (o:=2) k_ h;rw[show prog.cellsOf 22=1 from k_]at h0;rw[show prog.cellsOf 23=1 from k_]at h1;rw[show prog.cellsOf 24=1 from k_]at h2;obtain⟨rs,q0,l0⟩:=X5 (f:=RP.cs) (s:=40) iO.len d_ (e:=35) k_ k_ (kW k_) (λn cs y hy=>aGM hy) k0 h0 (λk hk=>hw k (w0 k hk));obtain⟨vs,q1,l1⟩:=X5 (f:=RV.cs) (s:=30) gh.len d_ (e:=33) k_ k_ (kW k_) (λn cs y hy=>aGL hy) k1 h1 (λk hk=>hw k (w1 k hk));obtain⟨fs,q2,l2⟩:=X5 (f:=Mm (w:=w)) (s:=2) (λ_=>rfl) d_ (e:=63) k_ k_ (kW k_) (λn cs y hy=>aUJ hy) k2 h2 (λk hk=>hw k (w2 k hk));refine⟨rs,vs,fs.map λr=>r.1.1,⟨c0,c1,c2,rfl,q0,q1,⟨_,by rw[eO];exact q2,aGN fs⟩,?_⟩,l0,l1,by rw[eO];exact l2⟩;rcases q2 with ⟨e,_⟩|⟨_,_,_,e,_⟩<;>rw[e]<;>exact⟨rfl,rfl⟩
set_option maxRecDepth 100000 in
theorem aUL{v:Value}{d:DataW H}{p:List MemPlace}(hv:Value.okWide prog w .any base 35 v)(h:DataW.Trod enc prog w 0 (λ_=>true) true 35 v d p):∃ r:RP,v=r.v:=by obtain⟨cs,rfl,_,_⟩:=aGH k_ hv;obtain⟨fuel,h⟩:=h;obtain⟨r,hr⟩:=aGM (cs:=cs.toList) h;refine⟨r,?_⟩;show Value.agg cs=.agg r.cs.toArray;rw[<-hr]
end
section
open CR OF
open V3 (dot ao bC smul)
section
variable{ps qs:List (HS K)}{p q:HS K}
end
structure ti where
 np:Nat
 xp:aj
 nv:Nat
 xv:aj
 gs:List (Int×List Int)
structure ti.Ok(s:ti):Prop where
 f1:s.xp.all flat=true
 n1:s.np=0->s.xp=[]
 f2:s.xv.all flat=true
 n2:s.nv=0->s.xv=[]
def ti.arg(s:ti):aT:=.s s.np s.xp s.nv s.xv (eK s.gs)
def ti.val(s:ti)(k:Nat):Value:=.agg #[sl k s.np,sl (k+1) s.nv,dP (k+2)]
def ti.Jq(s:ti):List (Nat×Option Obj):=[(0,some (.view s.xp)),(1,some (.view s.xv)),(2,some (.fact (eK s.gs)))]
def Rt(s:ti)(p:HS K)(t:Bool)(s':ti):Prop:=tW prog 12 [s.arg,.p (cB p)] 35 40 s'.np s'.xp 33 30 s'.nv s'.xv (eK s'.gs) [.bool t,gL 0]
def aUM(s:ti)(p:HS K):Prop:=cI prog 12 [s.arg,.p (cB p)] (.tuple #[rJ,.bool false,gL 12])
section
variable{Bs:aa}{s a b c d e:ti}{p q:HS K}{t t1 t2 t3 t4:Bool}{l:List aT}{xs:aj}{nd:List (Nat×Option Obj)}
theorem ti.Ok.src(h:s.Ok)(hs:fR Bs l xs nd):fR Bs (s.arg::l) (s.val 0::xs) (s.Jq++nd):=.s (x1:=.view s.xp) (x2:=.view s.xv) rfl h.f1 h.n1 rfl h.f2 h.n2 hs
end
noncomputable def jF(ps:List (HS K)):ti:=⟨ps.length,aN ps,(bf ps).length,aL (bf ps),ev ps⟩
theorem GK(ps:List (HS K)):(jF ps).Ok:=⟨cX ps,iF,dF _,xP⟩
section
variable{ps:List (HS K)}{p q:HS K}
theorem Good.G6(h:Good ps p)(hf:jS (ps++[p])):Rt (jF ps) p (decide (0<(iQ p (bf ps) (bf ps).length).length)) (jF (ps++[p])):=by
 have nA:=aGx h.X0 h.cl h.full hf;unfold wI Ck at nA;rw[eO]at nA;have hl:(ps++[p]).length=ps.length+1:=by rw[jx,BV]
 unfold Rt jF ti.arg;rw[hl];exact nA
theorem Good.aUN(h:Good ps p)(hf:¬jS (ps++[p])):aUM (jF ps) p:=by
 have hi:rq (ps++[p]) (bf (ps++[p]))=false:=by
  cases e:rq (ps++[p]) (bf (ps++[p]))with
  |false=>rfl
  |true=>exact absurd ⟨_,(Xk.1 e).2⟩ hf
 have nA:=aTw h.X0 ((Ri h.proper).2 ⟨h.cl,h.full⟩) (Q0.2 h.Ro) hi;unfold wI Ck at nA;rw[eO]at nA;exact nA
end
end
section
open CR OF V3
section
variable{F:Type}[OF F]
def dB(y u n:V3 F):F:=-(dot n u*(dot n y)⁻¹)
theorem X6{y u n:V3 F}(h:dot n y≠0):dot n u=-(dB y u n*dot n y):=by unfold dB;rw[CR.neg_mul,CR.neg_neg,CR.mul_assoc,OF.inv_mul h,CR.mul_one]
theorem aGO(y u n:V3 F):dB y (-u) n=-dB y u n:=by unfold dB;rw[qZ,CR.neg_mul]
theorem aGP{α:Type}(P:α->Prop)(f:α->F):∀ l:List α,(∃ m∈l,P m)->∃ m∈l,P m/\∀ r∈l,P r->f r<=f m
 |[],⟨_,h,_⟩=>by cases h
 |a::l,h=>by
  by_cases hl:∃ m∈l,P m
  ·obtain⟨m,h1,h2,h3⟩:=aGP P f l hl;by_cases ha:P a/\f m<f a
   ·refine⟨a,aU ..,ha.1,λr hr hp=>?_⟩;rcases ch.1 hr with rfl|hr
    ·exact OF.le_refl _
    ·exact OF.le_trans (h3 r hr hp) (OF.le_of_lt ha.2)
   ·refine⟨m,bE _ h1,h2,λr hr hp=>?_⟩;rcases ch.1 hr with rfl|hr
    ·exact OF.not_lt.1 λk=>ha ⟨hp,k⟩
    ·exact h3 r hr hp
  ·obtain⟨m,h1,h2⟩:=h;rcases ch.1 h1 with rfl|h1
   ·refine⟨m,aU ..,h2,λr hr hp=>?_⟩;rcases ch.1 hr with rfl|hr
    ·exact OF.le_refl _
    ·exact absurd ⟨r,hr,hp⟩ hl
   ·exact absurd ⟨m,h1,h2⟩ hl
theorem aGQ{a b:F}(h:a<0)(k:b<0):0<a*b:=by have:=OF.mul_pos (OF.neg_pos.2 h) (OF.neg_pos.2 k);rwa[CR.neg_mul,CR.mul_neg,CR.neg_neg]at this
theorem nF.go{ps S:List (HS F)}(h:nF ps S){w r:V3 F}(hw:fG ps w)(hr:∀ m∈S,cH m w->dot m.n r<=0):∀ q∈ps,cH q w->dot q.n r<=0:=by
 obtain⟨e,he,aY⟩:=Xn (S.map λm=>if OF.ay (m.d-dot m.n w)=1 then(dot m.n r,m.d-dot m.n w)else(0,1)) λx hx=>by
  obtain⟨m,_,rfl⟩:=di.1 hx;split
  ·rename_i hs;exact OF.il.2 hs
  ·exact OF.zero_lt_one
 have ct:fG ps (w+smul r e):=(h.same _).1 λm hm=>by
  rw[j9,gU];have h1:dot m.n w<=m.d:=hw m (h.sub m hm);by_cases hs:OF.ay (m.d-dot m.n w)=1
  ·have:=aY _ (di.2 ⟨m,hm,rfl⟩);rw[ax hs]at this;have:=(OF.add_le_add_left (dot m.n w)).2 this;rwa[show dot m.n w+(m.d-dot m.n w)=m.d from j7 (dot m.n w) m.d (λa d=>a+(d-a)) (λ_ d=>d) d_]at this
  ·have ht:cH m w:=OF.le_antisymm h1 (OF.not_lt.1 λk=>hs (OF.il.1 (OF.sub_pos.2 k)));have h2:=OF.mul_nonneg (OF.neg_nonneg.2 (hr m hm ht)) (OF.le_of_lt he);rw[CR.neg_mul,OF.neg_nonneg]at h2;have:=OF.add_le_add h1 h2;rwa[CR.add_zero]at this
 intro q hq tq;have:=ct q hq;rw[j9,gU,show dot q.n w=q.d from tq]at this;apply OF.not_lt.1;intro k;have h2:=(OF.add_lt_add_left q.d).2 (OF.mul_pos k he);rw[CR.add_zero]at h2;exact OF.lt_irrefl _ (OF.lt_of_lt_of_le h2 this)
theorem aGR{ps:List (HS F)}{x w:V3 F}(hx:vY ps x):∀ q∈ps,cH q w->dot q.n (x-w)<0:=λq hq tq=>by have:=hx q hq;rw[<-show dot q.n w=q.d from tq,<-OF.sub_pos]at this;rw[kp];rwa[<-OF.neg_sub,OF.neg_pos]at this
theorem nF.side{ps S:List (HS F)}(h:nF ps S){x w:V3 F}(hx:vY ps x)(hw:fG ps w){a:HS F}(ha:a∈ps)(ta:cH a w)(u:V3 F):
  ∃ q∈S,cH q w/\∀ r∈ps,cH r w->dB (x-w) u r.n<=dB (x-w) u q.n:=by
 have neg:=aGR (w:=w) hx;have ne:∃ m∈S,cH m w:=by apply gP;intro gC;have h1:=h.go (r:=-(x-w)) hw (λm hm tm=>absurd ⟨m,hm,tm⟩ gC) a ha ta;rw[qZ,OF.HO]at h1;exact OF.lt_irrefl _ (OF.lt_of_lt_of_le (neg a ha ta) h1)
 obtain⟨q,hq,tq,xI⟩:=aGP (λm=>cH m w) (λm=>dB (x-w) u m.n) S ne;refine⟨q,hq,tq,λr hr tr=>?_⟩;have dir:∀ m∈ps,cH m w->dot m.n (u+smul (x-w) (dB (x-w) u q.n))=dot m.n (x-w)*(dB (x-w) u q.n-dB (x-w) u m.n):=λm hm tm=>by rw[j9,gU,X6 (OF.ne_of_lt (neg m hm tm))];generalize dot m.n (x-w)=b;generalize dB (x-w) u q.n=s;generalize dB (x-w) u m.n=t;exact km b s t (λb s t=>-(t*b)+b*s) (λb s t=>b*(s-t)) d_
 have:=h.go (r:=u+smul (x-w) (dB (x-w) u q.n)) hw (λm hm tm=>by have bj:=h.sub m hm;rw[dir m bj tm];have:=OF.mul_nonneg (OF.le_of_lt (OF.neg_pos.2 (neg m bj tm))) (OF.sub_nonneg.2 (xI m hm tm));rwa[CR.neg_mul,OF.neg_nonneg]at this) r hr tr
 rw[dir r hr tr]at this;apply OF.not_lt.1;intro k;have h2:dB (x-w) u q.n-dB (x-w) u r.n<0:=by rw[<-OF.neg_pos,OF.neg_sub];exact OF.sub_pos.2 k
 exact OF.lt_irrefl _ (OF.lt_of_lt_of_le (aGQ (neg r hr tr) h2) this)
theorem aUO(n d y u v:V3 F):dot n v*bC d y u=dot n d*bC v y u+dot n y*bC d v u+dot n u*bC d y v:=
 ring [n,d,y,u,v] [] (λV _=>dot (V 0) (V 4)*bC (V 1) (V 2) (V 3)) (λV _=>dot (V 0) (V 1)*bC (V 4) (V 2) (V 3)+dot (V 0) (V 2)*bC (V 1) (V 4) (V 3)+dot (V 0) (V 3)*bC (V 1) (V 2) (V 4)) d_
theorem aUP(d y u v:V3 F):smul v (bC d y u)=smul d (bC v y u)+smul y (bC d v u)+smul u (bC d y v):=
 iY [d,y,u,v] [] (λV _=>smul (V 3) (bC (V 0) (V 1) (V 2))) (λV _=>smul (V 0) (bC (V 3) (V 1) (V 2))+smul (V 1) (bC (V 0) (V 3) (V 2))+smul (V 2) (bC (V 0) (V 1) (V 3))) d_
theorem aUQ(d y u n:V3 F):smul n (bC d y u)=smul (ao y u) (dot n d)+smul (ao u d) (dot n y)+smul (ao d y) (dot n u):=
 iY [d,y,u,n] [] (λV _=>smul (V 3) (bC (V 0) (V 1) (V 2))) (λV _=>smul (ao (V 1) (V 2)) (dot (V 3) (V 0))+smul (ao (V 2) (V 0)) (dot (V 3) (V 1))+smul (ao (V 0) (V 1)) (dot (V 3) (V 2))) d_
theorem aGS{n d y u:V3 F}(hd:dot n d=0)(hb:dot n y<0)(v:V3 F):dot n v*bC d y u=dot n y*(bC d v u-dB y u n*bC d y v):=by rw[aUO,hd,X6 (u:=u) (OF.ne_of_lt hb)];generalize dot n y=b;generalize dB y u n=s;generalize bC d v u=e;generalize bC d y v=x;generalize bC v y u=z;exact HK b s e x z (λb s e x z=>0*z+b*e+-(s*b)*x) (λb s e x z=>b*(e-s*x)) d_
theorem aGT{n d y u v:V3 F}(D:0<bC d y u)(hd:dot n d=0)(hb:dot n y<0)(h:dot n v<=0):dB y u n*bC d y v<=bC d v u:=by
 apply OF.not_lt.1;intro k;have h1:bC d v u-dB y u n*bC d y v<0:=by rw[<-OF.neg_pos,OF.neg_sub];exact OF.sub_pos.2 k
 have h2:=aGQ hb h1;rw[<-aGS hd hb v]at h2;have h3:=OF.mul_nonneg (OF.neg_nonneg.2 h) (OF.le_of_lt D);rw[CR.neg_mul,OF.neg_nonneg]at h3;exact OF.lt_irrefl _ (OF.lt_of_lt_of_le h2 h3)
theorem aUR{n n1 n2 d y u v:V3 F}(D:0<bC d y u)(hd:dot n d=0)(FN:dot n1 d=0)(KI:dot n2 d=0)(hb:dot n y<0)(mR:dot n1 y<0)(gm:dot n2 y<0)(h:dot n v=0)(h1:dot n1 v<=0)(h2:dot n2 v<=0)
  (l1:dB y u n<dB y u n1) (l2:dB y u n2<dB y u n):smul v (bC d y u)=smul d (bC v y u):=by
 have k:=aGS hd hb (u:=u) v;rw[h,CR.zero_mul]at k;have e:bC d v u=dB y u n*bC d y v:=by
  rcases OF.mul_eq_zero.1 k.symm with k|k
  ·exact absurd k (OF.ne_of_lt hb)
  ·exact OF.sub_eq_zero.1 k
 have k1:=aGT D FN mR h1;have k2:=aGT D KI gm h2;rw[e]at k1 k2;have g1:=OF.sub_pos.2 l1;have g2:=OF.sub_pos.2 l2;have x0:bC d y v=0:=by
  rcases OF.lt_trichotomy (bC d y v) 0 with hx|hx|hx
  ·exfalso;have:=OF.mul_pos g2 (OF.neg_pos.2 hx);rw[CR.mul_neg,OF.neg_pos]at this;rw[<-OF.sub_nonneg,show dB y u n*bC d y v-dB y u n2*bC d y v=(dB y u n-dB y u n2)*bC d y v from km (dB y u n) (dB y u n2) (bC d y v) (λa b x=>a*x-b*x) (λa b x=>(a-b)*x) d_]at k2;exact OF.lt_irrefl _ (OF.lt_of_lt_of_le this k2)
  ·exact hx
  ·exfalso;have:=OF.mul_pos g1 hx;rw[<-OF.sub_nonneg,show dB y u n*bC d y v-dB y u n1*bC d y v=-((dB y u n1-dB y u n)*bC d y v)from km (dB y u n) (dB y u n1) (bC d y v) (λa b x=>a*x-b*x) (λa b x=>-((b-a)*x)) d_,OF.neg_nonneg]at k1;exact OF.lt_irrefl _ (OF.lt_of_lt_of_le this k1)
 rw[aUP,e,x0,CR.mul_zero];exact iY [d,y,u] [bC v y u] (λV S=>smul (V 0) (S 0)+smul (V 1) 0+smul (V 2) 0) (λV S=>smul (V 0) (S 0)) d_
theorem aGU{p q:V3 F}{k:F}(hk:k≠0)(h:smul p k=smul q k):p=q:=by
 have e:∀ p:V3 F,smul (smul p k) k⁻¹=p:=λp=>by rw[show smul (smul p k) k⁻¹=smul p (k*k⁻¹)from iY [p] [k,k⁻¹] (λV S=>smul (smul (V 0) (S 0)) (S 1)) (λV S=>smul (V 0) (S 0*S 1)) d_,OF.jB k hk,V3.aBP]
 rw[<-e p,h,e]
theorem aUS{n n1 d y u:V3 F}(D:bC d y u≠0)(hd:dot n d=0)(FN:dot n1 d=0)(hb:dot n y<0)(mR:dot n1 y<0)(e:dB y u n1=dB y u n):∃ k:F,0<k/\n1=smul n k:=by
 have hn:=OF.ne_of_lt hb;refine⟨dot n1 y*(dot n y)⁻¹,?_,aGU D ?_⟩
 ·have:=OF.mul_pos (OF.neg_pos.2 mR) (OF.inv_pos (OF.neg_pos.2 hb));have h2:(-dot n y)⁻¹=-(dot n y)⁻¹:=by
   have aV:-dot n y≠0:=OF.ne_of_gt (OF.neg_pos.2 hb);have h3:-dot n y*-(dot n y)⁻¹=1:=by rw[CR.neg_mul,CR.mul_neg,CR.neg_neg,OF.jB _ hn]
   rw[<-CR.mul_one (-dot n y)⁻¹,<-h3,<-CR.mul_assoc,OF.inv_mul aV,CR.one_mul]
  rwa[h2,CR.neg_mul,CR.mul_neg,CR.neg_neg]at this
 ·have g:∀ m:V3 F,dot m d=0->dot m y<0->dB y u m=dB y u n->smul m (bC d y u)=smul (ao u d-smul (ao d y) (dB y u n)) (dot m y):=λm h1 h2 h3=>by rw[aUQ,h1,X6 (u:=u) (OF.ne_of_lt h2),h3];exact iY [ao y u,ao u d,ao d y] [dot m y,dB y u n] (λV S=>smul (V 0) 0+smul (V 1) (S 0)+smul (V 2) (-(S 1*S 0))) (λV S=>smul (V 1-smul (V 2) (S 1)) (S 0)) d_
  have g1:=g n1 FN mR e;have g2:=g n hd hb rfl;rw[g1,show smul (smul n (dot n1 y*(dot n y)⁻¹)) (bC d y u)=smul (smul n (bC d y u)) (dot n1 y*(dot n y)⁻¹)from iY [n] [dot n1 y*(dot n y)⁻¹,bC d y u] (λV S=>smul (smul (V 0) (S 0)) (S 1)) (λV S=>smul (smul (V 0) (S 1)) (S 0)) d_,g2,show ∀(p:V3 F) (a b c:F),smul (smul p a) (b*c)=smul p (b*(a*c))from λp a b c=>iY [p] [a,b,c] (λV S=>smul (smul (V 0) (S 0)) (S 1*S 2)) (λV S=>smul (V 0) (S 1*(S 0*S 2))) d_,OF.jB _ hn,CR.mul_one]
theorem nF.two{ps S:List (HS F)}(h:nF ps S){x w:V3 F}(hx:vY ps x)(hw:fG ps w)(hn:¬jD ps w){a b:HS F}(ha:a∈ps)(hb:b∈ps)(ta:cH a w)(tb:cH b w)(b9:ao a.n b.n≠0):
  ∃ p∈S,∃ q∈S,cH p w/\cH q w/\(¬∃ k:F,0<k/\q.n=smul p.n k)/\
   ∀ r∈ps,cH r w->(∃ k:F,0<k/\p.n=smul r.n k)\/(∃ k:F,0<k/\q.n=smul r.n k)\/∃ d:V3 F,∀ v,fG ps v->cH r v->∃ c:F,v=w+smul d c:=by
 have neg:=aGR (w:=w) hx;have flat:∀ r∈ps,cH r w->dot r.n (ao a.n b.n)=0:=λr hr tr=>by apply gP;intro k;refine hn ⟨hw,r,hr,a,ha,b,hb,?_,tr,ta,tb⟩;exact k
 generalize hd:ao a.n b.n=d at *;have hdy:ao d (x-w)≠0:=λe=>by
  -- then the way inside aV4 lie along the aV5
  have h1:=neg a ha ta;have h2:=flat a ha ta;have h3:dot a.n (smul d (dot d (x-w)))=dot a.n (smul (x-w) (dot d d)):=by have:smul (x-w) (dot d d)=smul d (dot d (x-w))+ao (ao d (x-w)) d:=iY [d,x-w] [] (λV _=>smul (V 1) (dot (V 0) (V 0))) (λV _=>smul (V 0) (dot (V 0) (V 1))+ao (ao (V 0) (V 1)) (V 0)) d_;rw[this,e,show ao (0:V3 F) d=0 from iY [d] [] (λV _=>ao 0 (V 0)) (λ_ _=>0) d_,j9,zE,CR.add_zero]
  rw[gU,gU,h2,CR.zero_mul]at h3;rcases OF.mul_eq_zero.1 h3.symm with k|k
  ·exact OF.ne_of_lt h1 k
  ·exact zF b9 k
 obtain⟨u,hu⟩:∃ u,u=ao d (x-w):=⟨_,rfl⟩;have D:0<bC d (x-w) u:=by rw[hu,show bC d (x-w) (ao d (x-w))=dot (ao d (x-w)) (ao d (x-w))from ring [d,x-w] [] (λV _=>bC (V 0) (V 1) (ao (V 0) (V 1))) (λV _=>dot (ao (V 0) (V 1)) (ao (V 0) (V 1))) d_];exact OZ hdy
 obtain⟨p,hp,tp,mp⟩:=h.side hx hw ha ta u;obtain⟨q,hq,tq,mq⟩:=h.side hx hw ha ta (-u);have mq:∀ r∈ps,cH r w->dB (x-w) u q.n<=dB (x-w) u r.n:=λr hr tr=>by have:=mq r hr tr;rw[aGO,aGO,<-OF.sub_nonneg]at this;rw[<-OF.sub_nonneg];rwa[show -dB (x-w) u q.n - -dB (x-w) u r.n=dB (x-w) u r.n-dB (x-w) u q.n from j7 (dB (x-w) u q.n) (dB (x-w) u r.n) (λa b=>-a - -b) (λa b=>b-a) d_]at this
 have fQ:=h.sub p hp;have o9:=h.sub q hq;have dir:∀ m∈ps,∀ r∈ps,cH m w->cH r w->dB (x-w) u m.n=dB (x-w) u r.n->∃ k:F,0<k/\m.n=smul r.n k:=λm hm r hr tm tr e=>
  aUS (OF.ne_of_gt D) (flat r hr tr) (flat m hm tm) (neg r hr tr) (neg m hm tm) e
 refine⟨p,hp,q,hq,tp,tq,?_,λr hr tr=>?_⟩
 ·rintro⟨k,hk,e⟩
  -- then both aV6 alike,and so aV7 all else
  have hs:dB (x-w) u q.n=dB (x-w) u p.n:=by
   unfold dB;rw[e,OY,OY];have h1:=OF.ne_of_lt (neg p fQ tp);have h2:=OF.ne_of_gt hk
   congr 1
   have h3:dot p.n (x-w)*k≠0:=OF.mul_ne_zero h1 h2;have h4:(dot p.n (x-w)*k)⁻¹=k⁻¹*(dot p.n (x-w))⁻¹:=by
    have:dot p.n (x-w)*k*(k⁻¹*(dot p.n (x-w))⁻¹)=1:=by rw[show ∀ a b c d:F,a*b*(c*d)=(a*d)*(b*c)from λa b c d=>BD a b c d (λa b c d=>a*b*(c*d)) (λa b c d=>(a*d)*(b*c)) d_,OF.jB _ h1,OF.jB _ h2,CR.mul_one]
    rw[<-CR.mul_one (dot p.n (x-w)*k)⁻¹,<-this,<-CR.mul_assoc,OF.inv_mul h3,CR.one_mul]
   rw[h4,show ∀ a b c d:F,a*b*(c*d)=a*d*(b*c)from λa b c d=>BD a b c d (λa b c d=>a*b*(c*d)) (λa b c d=>a*d*(b*c)) d_,OF.jB _ h2,CR.mul_one]
  have aY:∀ r∈ps,cH r w->dB (x-w) u r.n=dB (x-w) u p.n:=λr hr tr=>OF.le_antisymm (mp r hr tr) (hs▸mq r hr tr);obtain⟨c,_,hc⟩:=dir b hb a ha tb ta ((aY b hb tb).trans (aY a ha ta).symm);apply b9;rw[<-hd,hc];exact iY [a.n] [c] (λV S=>ao (V 0) (smul (V 0) (S 0))) (λ_ _=>0) d_
 ·by_cases e1:dB (x-w) u p.n=dB (x-w) u r.n
  ·exact .inl (dir p fQ r hr tp tr e1)
  by_cases e2:dB (x-w) u q.n=dB (x-w) u r.n
  ·exact .inr (.inl (dir q o9 r hr tq tr e2))
  have l1:=(OF.oC (mp r hr tr)).resolve_right λe=>e1 e.symm;have l2:=(OF.oC (mq r hr tr)).resolve_right e2;refine .inr (.inr ⟨d,λv hv tv=>⟨bC (v-w) (x-w) u*(bC d (x-w) u)⁻¹,?_⟩⟩);have on:∀ m∈ps,cH m w->dot m.n (v-w)<=0:=λm hm tm=>by have:=hv m hm;rw[<-show dot m.n w=m.d from tm,<-OF.sub_nonneg]at this;rw[kp,<-OF.neg_nonneg,OF.neg_sub];exact this
  have nh:dot r.n (v-w)=0:=by rw[kp,show dot r.n v=r.d from tv,show dot r.n w=r.d from tr,OF.sub_self]
  have:=aUR D (flat r hr tr) (flat p fQ tp) (flat q o9 tq) (neg r hr tr) (neg p fQ tp) (neg q o9 tq) nh (on p fQ tp) (on q o9 tq) l1 l2;have hD:=OF.ne_of_gt D;have e:v-w=smul d (bC (v-w) (x-w) u*(bC d (x-w) u)⁻¹):=aGU hD (by rw[this];rw[show ∀(p:V3 F) (a b c:F),smul (smul p (a*b)) c=smul p (a*(c*b))from λp a b c=>iY [p] [a,b,c] (λV S=>smul (smul (V 0) (S 0*S 1)) (S 2)) (λV S=>smul (V 0) (S 0*(S 2*S 1))) d_,OF.jB _ hD,CR.mul_one])
  rw[<-e];exact iY [v,w] [] (λV _=>V 0) (λV _=>V 1+(V 0-V 1)) d_
end
end
section
open CR OF
open V3 (dot ao bC smul)
theorem aUT{F:Type}[OF F](n w d:V3 F)(a b c:F):dot n (ao (w+smul d b-(w+smul d a)) (w+smul d c-(w+smul d a)))=0:=
 V3.ring [n,w,d] [a,b,c] (λV S=>dot (V 0) (ao (V 1+smul (V 2) (S 1)-(V 1+smul (V 2) (S 0))) (V 1+smul (V 2) (S 2)-(V 1+smul (V 2) (S 0))))) (λ_ _=>0) d_
section
variable{ps:List (HS K)}{vs:List (V3 K)}{p q r s:HS K}{v w:V3 K}
theorem aUU(h:jD ps v):jD (ps++[p]) v↔dot p.n v<=p.d:=by
 refine⟨λh=>h.1 p s_,λk=>?_⟩;obtain⟨h0,a,ha,b,hb,c,hc,r⟩:=h;refine⟨λq hq=>?_,a,pS _ ha,b,pS _ hb,c,pS _ hc,r⟩;rcases dX.1 hq with hq|hq
 ·exact h0 q hq
 ·simp at hq;subst hq;exact k
theorem aUV(h:jD (ps++[p]) w)(hn:¬jD ps w):fG ps w/\cH p w/\∃ a∈ps,∃ b∈ps,cH a w/\cH b w/\ao a.n b.n≠0:=by
 obtain⟨h0,a,ha,b,hb,c,hc,hd,ta,tb,tc⟩:=h;have ct:fG ps w:=λq hq=>h0 q (pS _ hq);have cr:∀{u x y:V3 K},bC u x y≠0->ao x y≠0:=λ{u x y} k e=>k (by show dot u (ao x y)=0;rw[e,V3.zE]);rw[dX,O9]at ha hb hc;rcases ha with ha|rfl
 ·rcases hb with hb|rfl
  ·rcases hc with hc|rfl
   ·exact absurd ⟨ct,a,ha,b,hb,c,hc,hd,ta,tb,tc⟩ hn
   ·exact⟨ct,tc,a,ha,b,hb,ta,tb,cr (u:=c.n) (by rw[V3.Ig];exact hd)⟩
  ·rcases hc with hc|rfl
   ·rw[V3.Ig]at hd;exact⟨ct,tb,c,hc,a,ha,tc,ta,cr hd⟩
   ·exact absurd (Q3 _ _) hd
 ·rcases hb with hb|rfl
  ·rcases hc with hc|rfl
   ·exact⟨ct,ta,b,hb,c,hc,tb,tc,cr hd⟩
   ·exact absurd (Q4 _ _) hd
  ·exact absurd (Q2 _ _) hd
theorem aGV(hr:r.n≠0)(tr:cH r w)(tp:cH p w)(h:∃ k:K,0<k/\p.n=smul r.n k)(hp:p.n≠0):canon r=canon p:=by
 obtain⟨k,hk,e⟩:=h;refine(Xm hr hp).2 ⟨k,hk,?_⟩;have hd:p.d=r.d*k:=by rw[<-show dot p.n w=p.d from tp,e,V3.OY,show dot r.n w=r.d from tr]
 cases p;unfold Ch;rw[HS.mk.injEq];exact⟨e,hd⟩
theorem aUW(hp:p.n≠0)(hq:q.n≠0)(h:canon p=canon q)(vs:List (V3 K)):ck p vs vs.length=ck q vs vs.length:=by
 unfold ck
 congr 1
 funext k
 rw[oQ,OF.sub_eq_zero,OF.sub_eq_zero];exact(L9 hp hq h _).2
theorem aUX{i:Nat}(hi:ps[i]?=some r)(h:gE ps vs i≠[]):lH ps i r=false:=by
 unfold gE at h;rw[hi]at h;unfold pQ at h;dsimp only at h;cases hm:lH ps i r with
 |false=>rfl
 |true=>
  unfold lH at hm;rw[ax hm]at h;exact absurd rfl h
theorem aGW{i j:Nat}(hi:ps[i]?=some r)(hj:ps[j]?=some s)(h1:gE ps vs i≠[])(h2:gE ps vs j≠[])(h:canon r=canon s):i=j:=by
 have key:∀{i j:Nat} {r s:HS K},ps[i]?=some r->ps[j]?=some s->gE ps vs j≠[]->canon r=canon s->¬i<j:=by
  intro i j r s hi hj h2 h ak;have hm:=aUX hj h2;have:lH ps j s=true:=by unfold lH;rw[qM];exact⟨r,cJ (i:=i) (by rw[List.getElem?_take_of_lt ak];exact hi),aB h.symm⟩
  rw[this]at hm;cases hm
 have k1:=key hi hj h2 h;have k2:=key hj hi h1 h.symm;omega
theorem aGX(hp:gu ps)(hv:oc ps vs)(hq:q∈ps)(h3:¬(ck q vs vs.length).length<3):∃ i r,ps[i]?=some r/\canon r=canon q/\gE ps vs i≠[]:=by
 obtain⟨i,hi⟩:∃ i,i=ps.findIdx λx=>decide (canon x=canon q):=⟨_,rfl⟩;have ak:i<ps.length:=by rw[hi];exact aTd ⟨q,hq,by simp⟩
 have Je:canon ps[i]=canon q:=by have:=List.findIdx_getElem (xs:=ps) (p:=λx=>decide (canon x=canon q)) (w:=by rw[hi]at ak;exact ak);subst hi;simpa using this
 refine⟨i,ps[i],bd ak,Je,?_⟩;have hr:=hp _ (dz ak);unfold gE;rw[bd ak];dsimp only;rw[hv.Ek hr];have rI:¬lH ps i ps[i]=true:=by
  unfold lH;rw[qM]
  rintro⟨x,hx,hd⟩
  obtain⟨j,hj,rfl⟩:=kH hx;rw[ji]at hj;rw[QI,Je]at hd;have hd:=kW hd;have Ma:j<i:=by omega
  rw[hi]at Ma;have:=List.not_of_lt_findIdx Ma;simp[hd]at this
 rw[au rI,aUW hr (hp q hq) Je,au h3];exact List.cons_ne_nil _ _
theorem aUY(hp:gu ps)(hv:oc ps vs){i:Nat}(hi:ps[i]?=some r)(h:gE ps vs i≠[]):¬(ck r vs vs.length).length<3:=by intro h3;unfold gE at h;rw[hi]at h;dsimp only at h;rw[hv.Ek (hp r (cJ hi)),ax h3]at h;split at h<;>exact h rfl
theorem aUZ(hv:oc ps vs)(hr:r.n≠0)(h3:¬(ck r vs vs.length).length<3){d:V3 K}(h:∀ v,fG ps v->cH r v->∃ c:K,v=w+smul d c):False:=by
 have hc:=hv.conv (p:=r);have iD:=aFZ r vs;have hm:∀ i∈ck r vs vs.length,∃ c:K,aK vs i=w+smul d c:=λi hi=>by obtain⟨h1,h2⟩:=Ci.1 hi;exact h _ ((hv.mem _).1 (aFY h1)).1 h2
 generalize ck r vs vs.length=on at *
 match on,h3,hc,iD,hm with
 |[],h3,_,_,_=>exact h3 d_
 |[_],h3,_,_,_=>exact h3 s_
 |[_,_],h3,_,_,_=>exact h3 s_
 |i::j::k::t,_,hc,iD,hm=>
  simp only[aF0,ch,not_or]at iD;refine hc.UL hr (a:=i) (b:=j) (c:=k) s_ s_ s_ iD.1.1 iD.1.2.1 iD.2.1.1 ?_;obtain⟨a,ha⟩:=hm i s_;obtain⟨b,hb⟩:=hm j s_;obtain⟨c,hc⟩:=hm k s_;rw[ha,hb,hc];exact aUT _ _ _ _ _ _
theorem oc.two(hc:Cl ps)(hp:gu ps)(hv:oc ps vs)(hf:jS ps)(hw:fG ps w)(hn:¬jD ps w)(h2:∃ a∈ps,∃ b∈ps,cH a w/\cH b w/\ao a.n b.n≠0):
  ∃ i j,i≠j/\i<ps.length/\j<ps.length/\∀ k r,ps[k]?=some r->((gE ps vs k≠[]/\cH r w)↔k=i\/k=j):=by
 obtain⟨a,ha,b,hb,ta,tb,b9⟩:=h2;obtain⟨x,hx⟩:=hf;obtain⟨S,hS⟩:=aFK ps;obtain⟨p,Cj,q,hqS,tp,tq,aV,aY⟩:=hS.two hx hw hn ha hb ta tb b9;have on3:∀ p∈S,¬(ck p vs vs.length).length<3:=λp Cj=>by obtain⟨A,B,rfl⟩:=List.append_of_mem Cj;exact nF.on hc hp hv hx hS
 have fQ:=hS.sub p Cj;have o9:=hS.sub q hqS;obtain⟨i,ri,hi,ci,fi⟩:=aGX hp hv fQ (on3 p Cj);obtain⟨j,rj,hj,cj,fj⟩:=aGX hp hv o9 (on3 q hqS);have hri:=hp ri (cJ hi);have hrj:=hp rj (cJ hj);refine⟨i,j,λe=>?_,(eh.1 hi).1,(eh.1 hj).1,λk r hk=>⟨λ⟨h1,h2⟩=>?_,?_⟩⟩
 ·subst e;rw[hi]at hj;injection hj with hj;subst hj;obtain⟨k,hk,e⟩:=(Xm (hp p fQ) (hp q o9)).1 (ci.symm.trans cj);exact aV ⟨k,hk,by rw[e];rfl⟩
 ·have hr:=cJ hk;have B4:=hp r hr;rcases aY r hr h2 with h|h|⟨d,h⟩
  ·exact .inl (aGW hk hi h1 fi ((aGV B4 h2 tp h (hp p fQ)).trans ci.symm))
  ·exact .inr (aGW hk hj h1 fj ((aGV B4 h2 tq h (hp q o9)).trans cj.symm))
  ·exact(aUZ hv B4 (aUY hp hv hk h1) h).elim
 ·rintro(rfl|rfl)
  ·rw[hi]at hk;injection hk with hk;subst hk;exact⟨fi,(L9 hri (hp p fQ) ci w).2.2 tp⟩
  ·rw[hj]at hk;injection hk with hk;subst hk;exact⟨fj,(L9 hrj (hp q o9) cj w).2.2 tq⟩
noncomputable def Cn(ps:List (HS K))(w:V3 K)(f:Int×List Int):Bool:=match ps[f.1.toNat]? with
 |some r=>decide (OF.ay (dot r.n w-r.d)=0)
 |none=>false
theorem aGY(i:Nat):gE ps vs i=[]\/∃ r l,ps[i]?=some r/\gE ps vs i=[(i,l)]:=by
 unfold gE;cases h:ps[i]? with
 |none=>exact .inl rfl
 |some r=>
  dsimp only;unfold pQ;split
  ·exact .inl rfl
  ·split
   ·exact .inl rfl
   ·split
    ·exact .inr ⟨r,_,rfl,rfl⟩
    ·exact .inl rfl
theorem aU0{i j:Nat}(h:∀ k r,ps[k]?=some r->((gE ps vs k≠[]/\cH r w)↔k=i\/k=j))(hi:i<ps.length)(hj:j<ps.length)(k:Nat):((gE ps vs k).map oI).countP (Cn ps w)=if k=i\/k=j then 1 else 0:=by
 rcases aGY (ps:=ps) (vs:=vs) k with e|⟨r,l,hr,e⟩
 ·rw[au,e];· rfl
  intro hk;have ak:k<ps.length:=by omega
  exact((h k _ (bd ak)).2 hk).1 e
 ·have hk:=h k r hr;have ht:Cn ps w (oI (k,l))=decide (OF.ay (dot r.n w-r.d)=0):=by unfold Cn oI;dsimp only;rw[RS,hr]
  have tz:cH r w↔OF.ay (dot r.n w-r.d)=0:=by rw[<-OF.HM,OF.sub_eq_zero];rfl
  rw[e,qO,NI,R7,ht];rw[e]at hk;by_cases Ho:k=i\/k=j
  ·rw[ax Ho,aB (tz.1 (hk.2 Ho).2)];rfl
  ·rw[au Ho,aJ λt=>Ho (hk.1 ⟨List.cons_ne_nil _ _,tz.2 t⟩)];rfl
theorem aGZ{i j:Nat}(kN:i≠j)(h:∀ k r,ps[k]?=some r->((gE ps vs k≠[]/\cH r w)↔k=i\/k=j))(hi:i<ps.length)(hj:j<ps.length):∀ n,((e9 ps vs n).map oI).countP (Cn ps w)=(if i<n then 1 else 0)+(if j<n then 1 else 0)
 |0=>rfl
 |n+1=>by
  rw[I0,rO,aG0,aGZ kN h hi hj n,aU0 h hi hj n]
  repeat' split
  all_goals omega
theorem aU1(hc:Cl ps)(hp:gu ps)(hf:jS ps)(h:jD (ps++[p]) w)(hn:¬jD ps w):OF.ay (dot p.n w-p.d)=0/\(ev ps).countP (Cn ps w)=2:=by obtain⟨hw,tp,h2⟩:=aUV h hn;obtain⟨i,j,kN,hi,hj,hk⟩:=oc.two hc hp (XO hc hp hf) hf hw hn h2;refine⟨OF.HM.1 (OF.sub_eq_zero.2 tp),?_⟩;unfold ev;rw[aGZ kN hk hi hj,ax hi,ax hj]
end
section
variable{ps:List (HS K)}{m:Nat}{p:HS K}
theorem aU2(h:pf (ps++[p]) m)(hs:AK ps=true):zW prog 22 [wI ps,.p (cB p)] 3 1 (iQ p (bf ps) (bf ps).length).length (ai (iQ p (bf ps) (bf ps).length)) (gL 0):=by
 have az:=XC ps p;have hl:=aF8 (vs:=bf ps) (xs:=aN ps) (F:=eK (ev ps)) (np:=ps.length) h.left.2.1 h.left.2.2.1 (I2 h.left.1.sz) (yj (n:=0) h.bound o_).2.2.1 (by have:=Gv ps h.left.1.len;omega) (cX ps) rfl;have hlen:(bf ps).length=((bf ps).map cx).length:=by rw[eO]
 unfold aL at hl;rw[hlen]at hl ⊢;have fx:=gJ (iQ p (bf ps) ((bf ps).map cx).length);generalize hL:iQ p (bf ps) ((bf ps).map cx).length=l at *;exact aCF (k:=5) mixed func22 az 100 (N:=17) k_ (λw=>[
  .step 7 (av Tryz.f22 7) [.func (.func 38) #[] #[],Mb ps] [(0,some (.view (aN ps))),(1,some (.view (cF ((bf ps).map cx)))),(2,some (.fact (eK (ev ps))))] (.bool true) []
   (dL (aGa h.left.1 hs) (aGb .nil) (x:=.func 38) k_ k_ rfl),
  .call 11 39 [cB p] (.bool true) (λw' _=>by
   have:=xM h.left.2.1 (yj (n:=0) h.bound o_).2.2.2.1;rw[aB h.left.2.2.1]at this;exact this w'),.step 16 (av Tryz.f22 16) [.func (.func 42) #[] #[],Mb ps,cB p] [(5,none),(0,some (.view (aN ps))),(1,some (.view (cF ((bf ps).map cx)))),(2,some (.fact (eK (ev ps))))] (sl 5 l.length) [(5,.row (ai l) 3 1)]
   (qo hl (.s (x1:=.view (aN ps)) (x2:=.view (cF ((bf ps).map cx))) rfl (cX ps) iF rfl (gV gh _) vl (.p k_ .nil)) (x:=.func 42) k_ k_ fx 5)]) (λw=>k_) fx (by rw[lC,fX]) rfl
end
section
variable{Bs:aa}{ps:List (HS K)}{vs ws:List (V3 K)}{p q:HS K}{v w:V3 K}{n n' np pW m i j c q1 q2:Nat}{fs:List (Int×List Int)}
theorem X7{k:Nat}(v:V3 K):eA k (.aI (cx v).cs 33):=λx hx=>gQ (bh.1 (show((cx v).cs.all flat)=true from k_) x hx)
theorem aG1{k:Nat}(p:HS K):eA k (.aI (cG p).cs 35):=λx hx=>gQ (bh.1 (show((cG p).cs.all flat)=true from k_) x hx)
theorem Mn{k:Nat}{xs:aj}(h:xs.all flat=true):eA k (.view xs):=λx hx=>gQ (bh.1 h x hx)
theorem X8{k s:Nat}{t:TypeId}{xs:aj}(h:xs.all flat=true):eA k (.row xs t s):=λx hx=>gQ (bh.1 h x hx)
theorem aG2{k:Nat}{F:Fact}:eA k (.fact F):=λx hx=>(by cases hx)
def Ru(n j:Nat)(f:Bool):aR:=[(81,vI j),(79,sl 6 n),(80,vI n),(12,ptr 10),(13,.bool f)]
def Eo(ws:List (V3 K))(v:V3 K):aH:=[(6,.row (aL ws) 33 30),(10,.aI (cx v).cs 33)]
theorem aG3:∀ x∈Eo ws v,eA 11 x.2:=λx hx=>by
 simp only[Eo,ch,iu,iv]at hx;rcases hx with rfl|rfl
 ·exact X8 (dF ws)
 ·exact X7 v
theorem eqS{v w:V3 K}(hv:aD q1 v)(hw:aD q2 w)(h1:q1<=aA)(h2:q2<=aA){t:Bool}(ht:decide (v=w)=t){o:Oper}(ho:Fp o=some (true,33)):cD prog Bs o [bF v,bF w] [] (.bool t) []:=
 Dj (neg:=true) ho (cx v) (cx w) (hv.sm h1) (hw.sm h2) (by subst ht;show decide (v=w)=true↔_;rw[rU];exact⟨λh=>by rw[h],λh=>K8 h⟩)
theorem aU3{f:Bool}(hj:j<ws.length)(hw:ws[j]?=some w)(sv:aD q1 v)(sw:aD q2 w)(h1:q1<=aA)(h2:q2<=aA)(h63:ws.length<9223372036854775807):
  ag prog Bs 178 (aF (af Tryz.f6 2)) (Ru ws.length j f) (Eo ws v) 11 ⟨.normal,Ru ws.length (j+1) (f||decide (v=w)),Eo ws v,11⟩:=by
 cases f with
 |true=>exact mV mixed 100 (ft:=12) [.lt 82 j ws.length true (aB hj),.cT Tryz.f6 83 6 ws.length j 30 hj k_,.ld Tryz.f6 84 33 6 (j*30) (.row (aL ws) 33 30) (bF w) rfl (jV hw) k_,.sum 91 j 1 (j+1) rfl o_] k_ rfl k_ aG3 k_
 |false=>
  rw[vD];generalize ht:decide (v=w)=t;exact mV mixed 100 (ft:=12) [.lt 82 j ws.length true (aB hj),.cT Tryz.f6 83 6 ws.length j 30 hj k_,.ld Tryz.f6 84 33 6 (j*30) (.row (aL ws) 33 30) (bF w) rfl (jV hw) k_,.step 89 (av Tryz.f6 89) [bF v,bF w] [] (.bool t) [] (eqS sv sw h1 h2 ht k_),.sum 91 j 1 (j+1) rfl o_] k_ rfl k_ aG3 k_
theorem aG4{α:Type}[DecidableEq α]{l:List α}{j:Nat}{x y:α}(h:l[j]?=some y):decide (x∈l.take (j+1))=(decide (x∈l.take j)||decide (x=y)):=by rw[sQ,h,<-Bool.decide_or,oQ,dX];simp
theorem aU4(sv:aD q1 v)(sw:∀ w∈ws,aD q2 w)(h1:q1<=aA)(h2:q2<=aA)(h63:ws.length<9223372036854775807):
  ag prog Bs 178 (.block 2 (af Tryz.f6 2)) (Ru ws.length 0 false) (Eo ws v) 11 ⟨.normal,[(13,.bool (decide (v∈ws)))],Eo ws v,11⟩:=
 bT (id:=2) (cd (r:=⟨.exit 2,[(13,.bool (decide (v∈ws)))],Eo ws v,11⟩) ws.length (λj=>Ru ws.length j (decide (v∈ws.take j))) (λ_=>Eo ws v) (λ_ _ _=>Iff.rfl) (λj hj=>by
  have hw:ws[j]?=some ws[j]:=bd hj;rw[aG4 hw];exact aU3 hj hw sv (sw _ (dz hj)) h1 h2 h63) (by
  rw[lY];generalize decide (v∈ws)=t;exact aC [.lt 82 ws.length ws.length false s_]) n_)
def Mo(n i c:Nat):aR:=[(74,vI i),(72,sl 1 n),(73,vI n),(10,vI c),(3,ptr 4),(5,ptr 8)]
def AL(vs ws:List (V3 K))(p:HS K)(pW:Nat):aH:=[(1,.view (aL vs)),(4,.aI (cG p).cs 35),(6,.row (aL ws) 33 30),(8,.aI [sl 5 pW,sl 6 ws.length,dP 7] 26)]
theorem aG5:∀ x∈AL vs ws p pW,eA 10 x.2:=λx hx=>by
 simp only[AL,ch,iu,iv]at hx;rcases hx with rfl|rfl|rfl|rfl
 ·exact Mn (dF vs)
 ·exact aG1 p
 ·exact X8 (dF ws)
 ·intro v hv;have hv:v∈[sl 5 pW,sl 6 ws.length,dP 7]:=hv;simp at hv;rcases hv with rfl|rfl|rfl<;>rfl
theorem aU5{z:Int}{t:Bool}(hi:i<vs.length)(hv:vs[i]?=some v)(sv:aD q1 v)(sw:∀ w∈ws,aD q2 w)(h1:q1<=aA)(h2:q2<=aA)(h63:vs.length<900000)(Mp:ws.length<900000)(hc:c<=i)
  (hz:aE prog 18 [cB p,bF v] (.int .i64 z)) (ht:decide (v∈ws)=t) (hzt:decide (z<=0)=t) :
  ag prog Bs 178 (aF (af Tryz.f6 0)) (Mo vs.length i c) (AL vs ws p pW) 10 ⟨.normal,Mo vs.length (i+1) (c+if t then 1 else 0),AL vs ws p pW,10⟩:=by
 have lo:=aU4 (Bs:=Bs) sv sw h1 h2 o_;rw[ht]at lo;cases t with
 |true=>exact mV mixed 100 (ft:=11) [.lt 75 i vs.length true (aB hi),.cT Tryz.f6 76 1 vs.length i 30 hi k_,.ld Tryz.f6 77 33 1 (i*30) (.view (aL vs)) (bF v) rfl (jV hv) k_,.code 2 _ _ _ _ _ lo,hz.at 95,.rw 96 (.bool (decide (z<=0))) (.bool true) (by rw[hzt]),.sum 100 c 1 (c+1) rfl o_,.sum 101 i 1 (i+1) rfl o_] k_ rfl k_ aG5 k_
 |false=>exact mV mixed 100 (ft:=11) [.lt 75 i vs.length true (aB hi),.cT Tryz.f6 76 1 vs.length i 30 hi k_,.ld Tryz.f6 77 33 1 (i*30) (.view (aL vs)) (bF v) rfl (jV hv) k_,.code 2 _ _ _ _ _ lo,hz.at 95,.rw 96 (.bool (decide (z<=0))) (.bool false) (by rw[hzt]),.sum 101 i 1 (i+1) rfl o_] k_ rfl k_ aG5 k_
noncomputable def AM(vs ws:List (V3 K))(i:Nat):Nat:=(vs.take i).countP λv=>decide (v∈ws)
theorem aU6(h:vs[i]?=some v):AM vs ws (i+1)=AM vs ws i+if decide (v∈ws)then 1 else 0:=by unfold AM;rw[sQ,h,aG0];simp[R7]
theorem aU7:∀ i,AM vs ws i<=i:=λi=>dh List.countP_le_length (by rw[ji];omega)
theorem aU8(sv:∀ v∈vs,aD q1 v)(sw:∀ w∈ws,aD q2 w)(h1:q1<=aA)(h2:q2<=aA)(h63:vs.length<900000)(Mp:ws.length<900000)
  (hz:∀ v∈vs,∃ z:Int,aE prog 18 [cB p,bF v] (.int .i64 z)/\decide (z<=0)=decide (v∈ws)) :
  ag prog Bs 178 (.block 0 (af Tryz.f6 0)) (Mo vs.length 0 0) (AL vs ws p pW) 10 ⟨.normal,[(10,vI (AM vs ws vs.length))],AL vs ws p pW,10⟩:=
 bT (id:=0) (cd (r:=⟨.exit 0,[(10,vI (AM vs ws vs.length))],AL vs ws p pW,10⟩) vs.length (λi=>Mo vs.length i (AM vs ws i)) (λ_=>AL vs ws p pW) (λ_ _ _=>Iff.rfl) (λi hi=>by
  have hv:vs[i]?=some vs[i]:=bd hi;obtain⟨z,Ll,PJ⟩:=hz _ (dz hi);rw[aU6 hv];exact aU5 hi hv (sv _ (dz hi)) sw h1 h2 h63 Mp (aU7 i) Ll rfl PJ) (by
  generalize AM vs ws vs.length=k;exact aC [.lt 75 vs.length vs.length false s_]) n_)
def Rv(n j:Nat)(f:Bool):aR:=[(112,vI j),(110,sl 1 n),(111,vI n),(17,ptr 10),(18,.bool f)]
def Ep(vs:List (V3 K))(w:V3 K):aH:=[(1,.view (aL vs)),(10,.aI (cx w).cs 33)]
theorem aG6:∀ x∈Ep vs w,eA 11 x.2:=λx hx=>by
 simp only[Ep,ch,iu,iv]at hx;rcases hx with rfl|rfl
 ·exact Mn (dF vs)
 ·exact X7 w
theorem aU9{f:Bool}(hj:j<vs.length)(hv:vs[j]?=some v)(sv:aD q1 v)(sw:aD q2 w)(h1:q1<=aA)(h2:q2<=aA)(h63:vs.length<9223372036854775807):
  ag prog Bs 178 (aF (af Tryz.f6 6)) (Rv vs.length j f) (Ep vs w) 11 ⟨.normal,Rv vs.length (j+1) (f||decide (w=v)),Ep vs w,11⟩:=by
 cases f with
 |true=>exact mV mixed 100 (ft:=12) [.lt 113 j vs.length true (aB hj),.cT Tryz.f6 114 1 vs.length j 30 hj k_,.ld Tryz.f6 115 33 1 (j*30) (.view (aL vs)) (bF v) rfl (jV hv) k_,.sum 122 j 1 (j+1) rfl o_] k_ rfl k_ aG6 k_
 |false=>
  rw[vD];generalize ht:decide (w=v)=t;have ht:decide (v=w)=t:=by rw[<-ht,oQ];exact⟨Eq.symm,Eq.symm⟩
  exact mV mixed 100 (ft:=12) [.lt 113 j vs.length true (aB hj),.cT Tryz.f6 114 1 vs.length j 30 hj k_,.ld Tryz.f6 115 33 1 (j*30) (.view (aL vs)) (bF v) rfl (jV hv) k_,.step 120 (av Tryz.f6 120) [bF v,bF w] [] (.bool t) [] (eqS sv sw h1 h2 ht k_),.sum 122 j 1 (j+1) rfl o_] k_ rfl k_ aG6 k_
theorem aVa(sv:∀ v∈vs,aD q1 v)(sw:aD q2 w)(h1:q1<=aA)(h2:q2<=aA)(h63:vs.length<9223372036854775807):
  ag prog Bs 178 (.block 6 (af Tryz.f6 6)) (Rv vs.length 0 false) (Ep vs w) 11 ⟨.normal,[(18,.bool (decide (w∈vs)))],Ep vs w,11⟩:=
 bT (id:=6) (cd (r:=⟨.exit 6,[(18,.bool (decide (w∈vs)))],Ep vs w,11⟩) vs.length (λj=>Rv vs.length j (decide (w∈vs.take j))) (λ_=>Ep vs w) (λ_ _ _=>Iff.rfl) (λj hj=>by
  have hv:vs[j]?=some vs[j]:=bd hj;rw[aG4 hv];exact aU9 hj hv (sv _ (dz hj)) sw h1 h2 h63) (by
  rw[lY];generalize decide (w∈vs)=t;exact aC [.lt 113 vs.length vs.length false s_]) n_)
def Rw(n j c:Nat):aR:=[(126,vI j),(124,dP 2),(125,vI n),(19,vI c),(2,ptr 3),(17,ptr 10)]
def Er(ps:List (HS K))(n:Nat)(fs:List (Int×List Int))(w:V3 K):aH:=[(0,.view (aN ps)),(2,.fact (eK fs)),(3,.aI [sl 0 ps.length,sl 1 n,dP 2] 26),(10,.aI (cx w).cs 33)]
theorem aG7:∀ x∈Er ps n fs w,eA 11 x.2:=λx hx=>by
 simp only[Er,ch,iu,iv]at hx;rcases hx with rfl|rfl|rfl|rfl
 ·exact Mn (cX ps)
 ·exact aG2
 ·intro v hv;have hv:v∈[sl 0 ps.length,sl 1 n,dP 2]:=hv;simp at hv;rcases hv with rfl|rfl|rfl<;>rfl
 ·exact X7 w
theorem aVb{k:Nat}{l:List Int}{z:Int}{t:Bool}(hj:j<fs.length)(hf:fs[j]?=some ((k:Int),l))(hk:ps[k]?=some q)(h63:fs.length<900000)(hc:c<=j)
  (hz:aE prog 18 [cB q,bF w] (.int .i64 z)) (ht:decide (z=0)=t) :
  ag prog Bs 178 (aF (af Tryz.f6 8)) (Rw fs.length j c) (Er ps n fs w) 11 ⟨.normal,Rw fs.length (j+1) (c+if t then 1 else 0),Er ps n fs w,11⟩:=by
 have ak:=(eh.1 hk).1;have e:(z==0)=t:=by rw[<-ht];rfl
 have ix:=XF (P:=prog) (B:=Bs) (o:=av Tryz.f6 128) (m:=2) k_ (yy.full fs) hf (k:=11) d_;cases t with
 |true=>exact mV mixed 100 (ft:=14) [.lt 127 j fs.length true (aB hj),.step 128 (av Tryz.f6 128) [dP 2,vI j] [(11,none),(11+1,none),(2,some (.fact (eK fs)))] (ptr 11) [(11,vw ((k:Int),l) 11),(11+1,.fact (mL l))] ix,.lt 132 k 0 false (aJ o_),.ge 139 k ps.length false (aJ o_),.cT Tryz.f6 145 0 ps.length k 40 ak k_,.ld Tryz.f6 146 35 0 (k*40) (.view (aN ps)) (cB q) rfl (wi hk) k_,hz.at 148,.rw 149 (.bool (z==0)) (.bool true) (by rw[e]),.sum 151 c 1 (c+1) rfl o_,.sum 152 j 1 (j+1) rfl o_] k_ rfl k_ aG7 k_
 |false=>exact mV mixed 100 (ft:=14) [.lt 127 j fs.length true (aB hj),.step 128 (av Tryz.f6 128) [dP 2,vI j] [(11,none),(11+1,none),(2,some (.fact (eK fs)))] (ptr 11) [(11,vw ((k:Int),l) 11),(11+1,.fact (mL l))] ix,.lt 132 k 0 false (aJ o_),.ge 139 k ps.length false (aJ o_),.cT Tryz.f6 145 0 ps.length k 40 ak k_,.ld Tryz.f6 146 35 0 (k*40) (.view (aN ps)) (cB q) rfl (wi hk) k_,hz.at 148,.rw 149 (.bool (z==0)) (.bool false) (by rw[e]),.sum 152 j 1 (j+1) rfl o_] k_ rfl k_ aG7 k_
end
section
variable{Bs:aa}{ps:List (HS K)}{vs ws:List (V3 K)}{p q:HS K}{v w:V3 K}{n n' np pW m i j c q1 q2:Nat}{fs:List (Int×List Int)}
def Rx(ps:List (HS K))(f:Int×List Int):Prop:=∃(k:Nat) (r:HS K),f.1=(k:Int)/\ps[k]?=some r
theorem aVc(ps:List (HS K)):∀ f∈ev ps,Rx ps f:=by
 intro f hf;unfold ev at hf;obtain⟨g,hg,rfl⟩:=di.1 hf;unfold e9 at hg;rw[zR]at hg;obtain⟨i,_,hg⟩:=hg;rcases aGY (ps:=ps) (vs:=bf ps) i with e|⟨r,l,hr,e⟩
 ·rw[e]at hg;cases hg
 ·rw[e]at hg;simp at hg;subst hg;exact⟨i,r,rfl,hr⟩
noncomputable def wK(ps:List (HS K))(fs:List (Int×List Int))(w:V3 K)(j:Nat):Nat:=(fs.take j).countP (Cn ps w)
theorem aVd{f:Int×List Int}(h:fs[j]?=some f):wK ps fs w (j+1)=wK ps fs w j+if Cn ps w f then 1 else 0:=by unfold wK;rw[sQ,h,aG0];simp[R7]
theorem aVe:∀ j,wK ps fs w j<=j:=λj=>dh List.countP_le_length (by rw[ji];omega)
theorem aVf(bX:∀ p∈ps,bo m p/\p.n≠0)(sw:aD q2 w)(hm:4*(3*(m+q2)+14+m)+50<=aA)(hf:∀ f∈fs,Rx ps f)(h63:fs.length<900000):
  ag prog Bs 178 (.block 8 (af Tryz.f6 8)) (Rw fs.length 0 0) (Er ps n fs w) 11 ⟨.normal,[(19,vI (wK ps fs w fs.length))],Er ps n fs w,11⟩:=
 bT (id:=8) (cd (r:=⟨.exit 8,[(19,vI (wK ps fs w fs.length))],Er ps n fs w,11⟩) fs.length (λj=>Rw fs.length j (wK ps fs w j)) (λ_=>Er ps n fs w) (λ_ _ _=>Iff.rfl) (λj hj=>by
  have h1:fs[j]?=some fs[j]:=bd hj;obtain⟨k,r,e1,e2⟩:=hf _ (dz hj);have hr:=bX r (cJ e2);have hz:=aWl hr.1 sw hm hr.2;have ht:decide (OF.ay (dot r.n w-r.d)=0)=Cn ps w fs[j]:=by unfold Cn;rw[e1,RS,e2]
  rw[aVd h1];refine aVb (l:=fs[j].2) hj ?_ e2 h63 (aVe j) hz ht;rw[h1,<-e1]) (by
  generalize wK ps fs w fs.length=k;exact aC [.lt 127 fs.length fs.length false s_]) n_)
def Mq(n i:Nat):aR:=[(105,vI i),(103,sl 6 n),(104,vI n),(2,ptr 3),(3,ptr 4)]
def AN(ps:List (HS K))(vs ws:List (V3 K))(fs:List (Int×List Int))(p:HS K):aH:=
 [(0,.view (aN ps)),(1,.view (aL vs)),(2,.fact (eK fs)),(3,.aI [sl 0 ps.length,sl 1 vs.length,dP 2] 26),(4,.aI (cG p).cs 35),(6,.row (aL ws) 33 30)]
theorem aG8:∀ x∈AN ps vs ws fs p,eA 10 x.2:=λx hx=>by
 simp only[AN,ch,iu,iv]at hx;rcases hx with rfl|rfl|rfl|rfl|rfl|rfl
 ·exact Mn (cX ps)
 ·exact Mn (dF vs)
 ·exact aG2
 ·intro v hv;have hv:v∈[sl 0 ps.length,sl 1 vs.length,dP 2]:=hv;simp at hv;rcases hv with rfl|rfl|rfl<;>rfl
 ·exact aG1 p
 ·exact X8 (dF ws)
theorem aVg(hi:i<ws.length)(hw:ws[i]?=some w)(sv:∀ v∈vs,aD q1 v)(sw:aD q2 w)(h1:q1<=aA)(h2:q2<=aA)(gK:vs.length<900000)(Mp:ws.length<900000)(bX:∀ p∈ps,bo m p/\p.n≠0)(hm:4*(3*(m+q2)+14+m)+50<=aA)(hf:∀ f∈fs,Rx ps f)(h63:fs.length<900000)
  (hz:w∈vs\/(aE prog 18 [cB p,bF w] (.int .i64 0)/\wK ps fs w fs.length=2)) :
  ag prog Bs 178 (aF (af Tryz.f6 4)) (Mq ws.length i) (AN ps vs ws fs p) 10 ⟨.normal,Mq ws.length (i+1),AN ps vs ws fs p,10⟩:=by
 have l6:=aVa (Bs:=Bs) sv sw h1 h2 o_;have l8:=aVf (Bs:=Bs) (n:=vs.length) bX sw hm hf h63;have ln:cD prog Bs (av Tryz.f6 125) [dP 2] [(2,some (.fact (eK fs)))] (vI fs.length) []:=GG k_ (yy.full fs);generalize hc:wK ps fs w fs.length=c at *;by_cases ho:w∈vs
 ·rw[aB ho]at l6;exact mV mixed 100 (ft:=11) [.lt 106 i ws.length true (aB hi),.cT Tryz.f6 107 6 ws.length i 30 hi k_,.ld Tryz.f6 108 33 6 (i*30) (.row (aL ws) 33 30) (bF w) rfl (jV hw) k_,.code 6 _ _ _ _ _ l6,.step 125 _ _ _ _ _ ln,.code 8 _ _ _ _ _ l8,.sum 165 i 1 (i+1) rfl o_] k_ rfl k_ aG8 k_
 ·rw[aJ ho]at l6;obtain⟨hs,dp⟩:=hz.resolve_left ho;subst dp;exact mV mixed 100 (ft:=11) [.lt 106 i ws.length true (aB hi),.cT Tryz.f6 107 6 ws.length i 30 hi k_,.ld Tryz.f6 108 33 6 (i*30) (.row (aL ws) 33 30) (bF w) rfl (jV hw) k_,.code 6 _ _ _ _ _ l6,.step 125 _ _ _ _ _ ln,.code 8 _ _ _ _ _ l8,hs.at 158,.sum 165 i 1 (i+1) rfl o_] k_ rfl k_ aG8 k_
theorem aVh(sv:∀ v∈vs,aD q1 v)(sw:∀ w∈ws,aD q2 w)(h1:q1<=aA)(h2:q2<=aA)(gK:vs.length<900000)(Mp:ws.length<900000)(bX:∀ p∈ps,bo m p/\p.n≠0)(hm:4*(3*(m+q2)+14+m)+50<=aA)(hf:∀ f∈fs,Rx ps f)(h63:fs.length<900000)
  (hz:∀ w∈ws,w∈vs\/(aE prog 18 [cB p,bF w] (.int .i64 0)/\wK ps fs w fs.length=2)) :
  ag prog Bs 178 (.block 4 (af Tryz.f6 4)) (Mq ws.length 0) (AN ps vs ws fs p) 10 ⟨.normal,[],AN ps vs ws fs p,10⟩:=
 bT (id:=4) (cd (r:=⟨.exit 4,[],AN ps vs ws fs p,10⟩) ws.length (λi=>Mq ws.length i) (λ_=>AN ps vs ws fs p) (λ_ _ _=>Iff.rfl) (λi hi=>by
  have hw:ws[i]?=some ws[i]:=bd hi;exact aVg hi hw sv (sw _ (dz hi)) h1 h2 gK Mp bX hm hf h63 (hz _ (dz hi))) (by
  exact aC [.lt 106 ws.length ws.length false s_]) n_)
structure Ry(ps:List (HS K))(p:HS K):Prop where
 few:cI prog 8 [(jF ps).arg] (.bool true)
 sev:ps.length<=7
 rp:aE prog 9 [cB p,vI 3] (.bool true)
 vp:aE prog 10 [cB p] (.bool true)
 val:cI prog 11 [(jF ps).arg] (.bool true)
noncomputable def cvS{w:World}(h:Ry ps p)(more:bI prog (aa.at w) 178):bI prog (aa.at w) 178:=
 .step 24 (av Tryz.f6 24) [.func (.func 7) #[] #[]] [] (.bool true) [] (dL aGy .nil (x:=.func 7) k_ k_ rfl)::
 .step 27 (av Tryz.f6 27) [.func (.func 8) #[] #[],(jF ps).val 0] (jF ps).Jq (.bool true) [] (dL h.few ((GK ps).src .nil) (x:=.func 8) k_ k_ rfl)::
 .gt 33 ps.length 7 false (aJ (by have:=h.sev;omega))::h.rp.at 37::h.vp.at 42::
 .step 47 (av Tryz.f6 47) [.func (.func 11) #[] #[],(jF ps).val 0] (jF ps).Jq (.bool true) [] (dL h.val ((GK ps).src .nil) (x:=.func 11) k_ k_ rfl)::more
theorem aG9(ps:List (HS K))(p:HS K):([(jF ps).arg,.p (cB p)].all aT.ok)=true:=by
 have h:=GK ps;have e:(jF ps).arg.ok=true:=by show((jF ps).xp.all flat&&((jF ps).xv.all flat&&true))=true;rw[h.f1,h.f2];rfl
 simp only[dM,fH,e,WU,jq]
theorem aHa(h:Good ps p):zW prog 22 [(jF ps).arg,.p (cB p)] 3 1 (iQ p (bf ps) (bf ps).length).length (ai (iQ p (bf ps) (bf ps).length)) (gL 0):=by have hl:=aU2 h.X0 ((Ri h.proper).2 ⟨h.cl,h.full⟩);unfold wI Ck at hl;rw[eO]at hl;exact hl
noncomputable def loE{w:World}{ps:List (HS K)}{l:List Nat}(k:Nat)(hl:zW prog 22 [(jF ps).arg,.p (cB p)] 3 1 l.length (ai l) (gL 0)):aX prog (aa.at w) 178:=
 .step 60 (av Tryz.f6 60) [.func (.func 22) #[] #[],(jF ps).val 0,cB p] ((k,none)::(jF ps).Jq) (.tuple #[sl k l.length,gL 0]) [(k,.row (ai l) 3 1)] (Py hl ((GK ps).src (.p k_ .nil)) (x:=.func 22) k_ k_ (gJ l) rfl k)
theorem aVi(h:Ry ps p)(g:Good ps p)(hn:¬jS (ps++[p])):cI prog 6 [(jF ps).arg,.p (cB p)] (.bool true):=by
 have az:=aG9 ps p;have nA:=g.aUN hn;have hl:=aHa g;generalize iQ p (bf ps) (bf ps).length=l at *;exact gT mixed func6 az 400 (N:=178) k_ (λw=>cvS h [
  .step 53 (av Tryz.f6 53) [.func (.func 12) #[] #[],(jF ps).val 0,cB p] (jF ps).Jq (.tuple #[rJ,.bool false,gL 12]) [] (dL nA ((GK ps).src (.p k_ .nil)) (x:=.func 12) k_ k_ k_),loE 6 hl]) (λw=>k_) k_
theorem aVj{t:Bool}{k:Nat}(h:Ry ps p)(nA:Rt (jF ps) p t (jF (ps++[p]))){l:List Nat}(hl:zW prog 22 [(jF ps).arg,.p (cB p)] 3 1 l.length (ai l) (gL 0))
  (l0:∀ Bs,ag prog Bs 178 (.block 0 (af Tryz.f6 0)) (Mo (bf ps).length 0 0) (AL (bf ps) (bf (ps++[p])) p (ps++[p]).length) 10 ⟨.normal,[(10,vI k)],AL (bf ps) (bf (ps++[p])) p (ps++[p]).length,10⟩)
  (l4:∀ Bs,ag prog Bs 178 (.block 4 (af Tryz.f6 4)) (Mq (bf (ps++[p])).length 0) (AN ps (bf ps) (bf (ps++[p])) (ev ps) p) 10 ⟨.normal,[],AN ps (bf ps) (bf (ps++[p])) (ev ps) p,10⟩)
  (hk:(bf ps).length=k+l.length) (h63:(bf ps).length<900000):cI prog 6 [(jF ps).arg,.p (cB p)] (.bool true):=by
 have az:=aG9 ps p;have o1:=GK ps;have o2:=GK (ps++[p]);have eS:Rt (jF ps) p t ⟨(ps++[p]).length,aN (ps++[p]),(bf (ps++[p])).length,aL (bf (ps++[p])),ev (ps++[p])⟩:=nA;have f1:=o2.f1;have f2:=o2.f2;exact gT mixed func6 az 400 (N:=178) k_ (λw=>cvS h [
  .step 53 (av Tryz.f6 53) [.func (.func 12) #[] #[],(jF ps).val 0,cB p] ((5,none)::(5+1,none)::(5+2,none)::(jF ps).Jq) (.tuple #[(jF (ps++[p])).val 5,.bool t,gL 0])
   [(5+2,.fact ((eK (ev (ps++[p]))).kL w.heap.size)),(5+1,.row (aL (bf (ps++[p]))) 33 30),(5,.row (aN (ps++[p])) 35 40)]
   (DO (B:=aa.at w) (S:=w.heap.size) nA (o1.src (.p k_ .nil)) (x:=.func 12) k_ k_ rfl f1 f2 rfl (λw' hb=>Below.size hb) 5),
  loE 9 hl,.code 0 _ _ _ _ _ (l0 _),.code 4 _ _ _ _ _ (l4 _),.sum 172 k l.length (bf ps).length hk o_,.rw 176 (.bool (((bf ps).length:Int)==((bf ps).length:Int))) (.bool true) s_]) (λw=>k_) k_
theorem aVk(vs:List (V3 K))(p:HS K)(f:V3 K->Bool)(hf:∀ v∈vs,f v=decide (OF.ay (dot p.n v-p.d)<=0)):vs.length=vs.countP f+(iQ p vs vs.length).length:=by
 have e1:vs.countP f=vs.countP λv=>decide (OF.ay (dot p.n v-p.d)<=0):=List.countP_congr λv hv=>by rw[hf v hv]
 have e2:∀ g:V3 K->Bool,(List.range vs.length).countP (λk=>g (aK vs k))=vs.countP g:=λg=>by
  have:vs=(List.range vs.length).map (aK vs):=by
   apply NO;intro i;rw[AW];by_cases hi:i<vs.length
   ·rw[Iq hi];show _=some (aK vs i);unfold aK;rw[bd hi];rfl
   ·rw[wP o_,wP (by rw[xb];omega)];rfl
  conv=>rhs;rw[this,List.countP_map]
  rfl
 rw[e1];unfold iQ;rw[<-List.countP_eq_length_filter,e2 λv=>decide (OF.ay (dot p.n v-p.d)>0),List.length_eq_countP_add_countP λv=>decide (OF.ay (dot p.n v-p.d)<=0)]
 congr 1
 refine List.countP_congr λv _=>?_;simp
theorem aVl(h:Ry ps p)(g:Good ps p):cI prog 6 [(jF ps).arg,.p (cB p)] (.bool true):=by
 by_cases hf:jS (ps++[p])
 ·have nA:=g.G6 hf;have hl:=aHa g;have hv:=g.vsz;have hw:=g.aUu hf;have mem:∀ v∈bf ps,(v∈bf (ps++[p])↔OF.ay (dot p.n v-p.d)<=0):=λv hv=>by rw[Jd g.Ro g.XZ hf,aUU ((Jd g.cl g.proper g.full).1 hv),Xq];exact⟨λh=>OF.not_lt.1 λk=>OF.not_lt.2 h (OF.sub_pos.1 k),λh=>OF.not_lt.1 λk=>OF.not_lt.2 h (OF.sub_pos.2 k)⟩
  have pP:(ev ps).length<900000:=by have:=XB ps;have:=g.len;omega
  have bw:4*(3*(24+4000)+14+24)+50<=aA:=by decide
  have l0:=λBs=>aU8 (Bs:=Bs) (pW:=(ps++[p]).length) (p:=p) hv.1 hw.1 d_ d_ (by have:=hv.2;omega) (by have:=hw.2;omega) λv lE=>
   ⟨_,aWl g.new.1 (hv.1 v lE) bw g.new.2,by rw[oQ];exact(mem v lE).symm⟩
  have l4:=λBs=>aVh (Bs:=Bs) (p:=p) hv.1 hw.1 d_ d_ (by have:=hv.2;omega) (by have:=hw.2;omega) g.pl bw (aVc ps) pP λw hww=>by
   by_cases ho:w∈bf ps
   ·exact .inl ho
   ·have:=aU1 g.cl g.proper g.full ((Jd g.Ro g.XZ hf).1 hww) λk=>ho ((Jd g.cl g.proper g.full).2 k);refine .inr ⟨?_,?_⟩
    ·have hs:=aWl g.new.1 (hw.1 w hww) bw g.new.2;rw[this.1]at hs;exact hs
    ·unfold wK;rw[lY];exact this.2
  have hk:=aVk (bf ps) p (λv=>decide (v∈bf (ps++[p]))) λv hv=>by rw[oQ];exact mem v hv
  have ek:AM (bf ps) (bf (ps++[p])) (bf ps).length=(bf ps).countP λv=>decide (v∈bf (ps++[p])):=by unfold AM;rw[lY]
  rw[<-ek]at hk;exact aVj h nA hl l0 l4 hk (by have:=hv.2;omega)
 ·exact aVi h g hf
end
section
variable{rs:List RP}{vs:List RV}{fs:List (Int×List Int)}{r:RP}
theorem aVm(rs:List RP)(vs:List RV)(fs:List (Int×List Int))(r:RP):([.s rs.length (dc rs) vs.length (cF vs) (nG fs),.p r.v].all aT.ok)=true:=by have e:(aT.s rs.length (dc rs) vs.length (cF vs) (nG fs)).ok=true:=XI rs vs fs;have e2:flat r.v=true:=k_;simp only[dM,fH,e,lP,jq];exact e2
noncomputable def Mr{Bs:aa}{t:Bool}(wL:cI prog 8 [js rs vs fs] (.bool t))(more:bI prog Bs 178):bI prog Bs 178:=
 .step 24 (av Tryz.f6 24) [.func (.func 7) #[] #[]] [] (.bool true) [] (dL aGy .nil (x:=.func 7) k_ k_ rfl)::
 .step 27 (av Tryz.f6 27) [.func (.func 8) #[] #[],sA rs.length vs.length] (X1 rs vs fs) (.bool t) [] (dL wL (aGz .nil) (x:=.func 8) k_ k_ rfl)::more
theorem aVn(Rh:rs.length<9223372036854775807)(gK:vs.length<9223372036854775807)(wH:fs.length<9223372036854775807):cI prog 6 [js rs vs fs,.p r.v] (.bool true):=by
 have az:=aVm rs vs fs r;have wL:=aT2 (rs:=rs) (vs:=vs) (fs:=fs) Rh gK wH;have Jr:=WI r 3;by_cases hb:Mg rs vs fs=true;rotate_left
 ·have hb:Mg rs vs fs=false:=by simpa using hb
  rw[hb]at wL;unfold js at *;exact gT mixed func6 az 300 (N:=178) k_ (λw=>Mr wL []) (λw=>k_) k_
 rw[hb]at wL;by_cases h7:rs.length>7
 ·unfold js at *;exact gT mixed func6 az 300 (N:=178) k_ (λw=>Mr wL [.gt 33 rs.length 7 true (aB h7)]) (λw=>k_) k_
 have g7:decide (7<rs.length)=false:=aJ h7;by_cases hw:ye r 3=true;rotate_left
 ·have hw:ye r 3=false:=by simpa using hw
  rw[hw]at Jr;unfold js at *;exact gT mixed func6 az 300 (N:=178) k_ (λw=>Mr wL [.gt 33 rs.length 7 false g7,Jr.at 37]) (λw=>k_) k_
 have Mt:=Qr (WJ (n:=24) hw d_) d_;rw[hw]at Jr;by_cases hv:pO r=true;rotate_left
 ·have hv:pO r=false:=by simpa using hv
  rw[hv]at Mt;unfold js at *;exact gT mixed func6 az 300 (N:=178) k_ (λw=>Mr wL [.gt 33 rs.length 7 false g7,Jr.at 37,Mt.at 42]) (λw=>k_) k_
 rw[hv]at Mt;have jK:=hb;unfold Mg LY at jK;simp only[de]at jK;obtain⟨cQ,⟨hrp,_,_⟩,⟨hvw,aV8⟩,aV9⟩:=jK;rw[bh]at cQ hrp hvw;have bw:∀ x∈rs,As 24 x:=λx hx=>WJ (hrp x hx) d_;have aP:∀ x∈vs,x.Sm:=λx hx=>aUs (hvw x hx) d_;have pP:∀ f∈fs,f.2.length<9223372036854775807:=λf hf=>e8 (kW (cQ f hf)) d_;have bad:cI prog 11 [js rs vs fs] (.bool false)->cI prog 6 [js rs vs fs,.p r.v] (.bool true):=λoz=>by unfold js at *;exact gT mixed func6 az 300 (N:=178) k_ (λw=>Mr wL [.gt 33 rs.length 7 false g7,Jr.at 37,Mt.at 42,.step 47 (av Tryz.f6 47) [.func (.func 11) #[] #[],sA rs.length vs.length] (X1 rs vs fs) (.bool false) [] (dL oz (aGz .nil) (x:=.func 11) k_ k_ rfl)]) (λw=>k_) k_
 by_cases aY:rs.all pO=true;rotate_left
 ·exact bad (aTZ bw d_ Rh (by simpa using aY))
 obtain⟨ers,gg⟩:=aUw aY;have bX:∀ q∈rs.map pZ,bo 24 q/\q.n≠0:=λq hq=>by refine⟨?_,gg q hq⟩;obtain⟨x,hx,rfl⟩:=di.1 hq;exact aEe (bh.1 aY x hx) (bw x hx)
 have hlen:(rs.map pZ).length=rs.length:=eO ..;obtain⟨er,B4⟩:=WH hv;have EX:=aEe hv (WJ (n:=24) hw d_);generalize hP:rs.map pZ=ps at *;generalize hQ:pZ r=p at *;subst ers;subst er;have Rz:gu ps:=λq hq=>(bX q hq).2;have aVo:pT ps 24 4000:=⟨by omega,bX,by decide,by decide⟩;have oz:=aGn (vs:=vs) (fs:=fs) aVo (λhc hs=>by have hc:=Q5.1 hc;have hf:=aGq Rz hs;have:=XP hc Rz hf;rw[th hc Rz hf]at this;exact this) aP gK wH pP
 by_cases hvalid:En ps vs fs=true;rotate_left
 ·have hvalid:En ps vs fs=false:=by simpa using hvalid
  rw[hvalid]at oz;exact bad oz
 obtain⟨hc,hf,e1,e2⟩:=aUa Rz hvalid;subst e1;subst e2;have g1:Good ps p:=⟨by omega,bX,⟨EX,B4⟩,hc,hf⟩;unfold js at wL ⊢;rw[eO,eO]at wL ⊢;exact cI.aUy (aVl ⟨cI.XH wL (yy.full _).G,by omega,Jr,Mt,aUv g1.ref g1.cl g1.proper g1.full⟩ g1) (aUx ps)
end
end
end Go.Proofs.YtjjefbkbljlgdaaGreatDoor
