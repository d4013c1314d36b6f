/- Two cuts in either order: the proof of CutOrderCardSaid (the law's function answers true at every set it can be given; theorem cutOrder_card, last part), part 6 of 7; no condition. -/
import Derived.Test.YtjjefbkbljlgdaaGreatDoorD5
namespace Go.Proofs.YtjjefbkbljlgdaaGreatDoor
open Go Go.RowKit Tryz
section
open CR OF
open V3 (dot ax cL smul)
theorem L7{q:RI}{k:Nat}(h:decide (sH q<=k)=true)(hk:k<=maxLen):q.Sm:=by have h:=kH h;unfold RI.Sm;unfold sH at h;exact dh h hk
theorem XA{r:RN}{k:Nat}(h:sI r k=true)(hk:k<=maxLen):r.Sm:=by unfold sI at h;simp only[db]at h;exact⟨L7 h.1 hk,L7 h.2.1 hk,L7 h.2.2.1 hk,L7 h.2.2.2.1 hk,L7 h.2.2.2.2 hk⟩
theorem aTS{r:RV}{k:Nat}(h:qm r k=true)(hk:k<=maxLen):r.Sm:=by unfold qm at h;simp only[db]at h;exact⟨XA h.1 hk,XA h.2.1 hk,XA h.2.2 hk⟩
structure Good(ps:List (HS K))(p:HS K):Prop where
 len:ps.length<=8
 pl:∀ q∈ps,bo 24 q/\q.n≠0
 new:bo 24 p/\p.n≠0
 cl:Cl ps
 full:gJ ps
section
variable{ps:List (HS K)}{p:HS K}
theorem Good.proper(h:Good ps p):gp ps:=λq hq=>(h.pl q hq).2
theorem Good.all(h:Good ps p):∀ q∈ps++[p],bo 24 q/\q.n≠0:=λq hq=>by
 rcases dY.1 hq with hq|hq
 ·exact h.pl q hq
 ·simp at hq;subst hq;exact h.new
theorem Good.QY(h:Good ps p):gp (ps++[p]):=λq hq=>(h.all q hq).2
theorem Good.Ja(h:Good ps p):Cl (ps++[p]):=QT h.cl h.proper
theorem Good.ref(h:Good ps p):pJ ps 24 4000:=⟨by have:=h.len;omega,h.pl,by decide,by decide⟩
theorem Good.aF8(h:Good ps p):pJ (ps++[p]) 24 4000:=⟨by rw[iJ,vS];have:=h.len;omega,h.all,by decide,by decide⟩
theorem Good.aF9(h:Good ps p):pH (ps++[p]) 24:=⟨by rw[iJ,vS];have:=h.len;omega,λq hq=>(h.all q hq).1,λq hq=>(h.all q hq).2,by decide⟩
theorem Good.aTT(h:Good ps p)(hf:gJ (ps++[p])):(∀ v∈bT (ps++[p]),aF 4000 v)/\(bT (ps++[p])).length<=81*9:=by rw[tW h.Ja h.QY hf];exact h.aF8.sz
theorem aTU{m M:Nat}(h:pJ ps m M)(hc:Cl ps)(hp:gp ps)(hf:gJ ps):cD prog 11 [.s ps.length (aQ ps) (bT ps).length (aR (bT ps)) (fo (fD ps))] (.bool true):=by
 have dL:=Xr hc hp hf;have h9:=h.len;rw[tW hc hp hf]at dL;have:=aFV (ps:=ps) (vs:=(bT ps).map cC) (fs:=fD ps) h (λ_ _=>dL) (λx hx=>by
   obtain⟨v,hv,rfl⟩:=di.1 hx;rw[tW hc hp hf]at hv;exact(h.sz.1 v hv).sm h.qw.2.2.2.2.2.2) (by
   rw[ek,tW hc hp hf];have:=h.sz.2;omega) (by have:=aFG ps;omega) λf hf=>eW (aFH o_ f hf) d_
 rw[aTB hc hp hf]at this;unfold iS at this;rw[ek,ek]at this;exact cD.Xj this (B0.full _).G
end
section
variable{ps:List (HS K)}{p:HS K}{a b c:Nat}
def sA(n nv:Nat):Value:=.agg #[sl 0 n,sl 1 nv,eQ 2]
end
section
variable{ps:List (HS K)}{p:HS K}{a b c i j r:Nat}{z z1 z2:Int}{va vb d e v:V3 K}{k:K}
end
theorem aTV{rs:List RP}(h:rs.all oz=true):rs=(rs.map pZ).map cF/\∀ q∈rs.map pZ,q.n≠0:=by
 rw[bf]at h;constructor
 ·rw[SC]
  conv=>lhs;rw[<-List.map_id rs]
  exact yv λr hr=>(P6 (h r hr)).1
 ·intro q hq;obtain⟨r,hr,rfl⟩:=di.1 hq;exact(P6 (h r hr)).2
section
variable{ps:List (HS K)}{p:HS K}{a b c:Nat}
end
theorem aTW(ps:List (HS K)):∀ f∈fD ps,0<f.2.length:=by
 intro f hf;unfold fD at hf;obtain⟨g,hg,rfl⟩:=di.1 hf;unfold eX at hg;rw[BF]at hg;obtain⟨i,_,hg⟩:=hg;unfold jW at hg;split at hg
 ·unfold oZ at hg;split at hg
  ·cases hg
  ·split at hg
   ·cases hg
   ·split at hg
    ·rename_i al;simp at hg;subst hg;show 0<(List.map _ _).length;rw[ek];exact l8 d_ al
    ·cases hg
 ·cases hg
theorem cD.aTX{P:Program}{f:FuncId}{n1 n2:Nat}{x1 x2:aj}{fs:List (Int×List Int)}{l:List aP}{res:Value}(h:cD P f (.s n1 x1 n2 x2 (fo fs)::l) res)(hl:∀ f∈fs,0<f.2.length):cD P f (.s n1 x1 n2 x2 (mZ fs)::l) res:=
 cD.Xj h λ_ _ hG=>aTh hG hl
section
variable{rs:List RP}{vs:List RV}{fs:List (Int×List Int)}{r:RP}{a b c:Nat}
def XB(rs:List RP)(vs:List RV)(fs:List (Int×List Int)):List (Nat×Option Obj):=[(0,some (.view (da rs))),(1,some (.view (cE vs))),(2,some (.fact (mZ fs)))]
theorem aGa{Bs:aa}{l:List aP}{xs:aj}(h:fm Bs l xs []):fm Bs (.s rs.length (da rs) vs.length (cE vs) (mZ fs)::l) (sA rs.length vs.length::xs) (XB rs vs fs):=
 .s (x1:=.view (da rs)) (x2:=.view (cE vs)) rfl (gU iD rs) Xl rfl (gU gh _) wy h
end
end
section
variable{H:Type}{enc:TypeId×Value->H}{P:Program}{w:World}{base:Nat}{spare:Nat->Bool}{held:Bool}{fuel:Nat}{t:TypeId}{cs:aj}{x:DataW H×List MemPlace}
def Jb(P:Program)(t:TypeId)(i:Nat):Option (TypeId×Nat):=match P.underlying t with
 |some (.struct fs)=>(fs[i]?).map λf=>(f.type,f.offset)
 |_=>none
def aGb(P:Program)(t:TypeId):Option (Nat×TypeId):=match P.underlying t with
 |some (.array n e)=>some (n,e)
 |_=>none
theorem L8{i u o:Nat}(hf:Jb P t i=some (u,o))(h:DataW.trod enc P w base spare held fuel t cs=some x):cs.length=P.cellsOf t:=by
 unfold Jb at hf;split at hf
 ·rename_i fs ht;obtain⟨_,_,_,_,hl,_⟩:=aGc ht h;exact hl
 ·cases hf
theorem yf{i u o:Nat}(hf:Jb P t i=some (u,o))(h:DataW.trod enc P w base spare held fuel t cs=some x):∃ n y,DataW.trod enc P w base spare held n u ((cs.drop o).take (P.cellsOf u))=some y:=by
 unfold Jb at hf;split at hf
 ·rename_i fs ht;obtain⟨xs,n,_,_,_,hlen,ba⟩:=aGc ht h;rw[Option.map_eq_some_iff]at hf;obtain⟨f,j7,he⟩:=hf;injection he with e1 e2;subst e1;subst e2;have:=ba i f j7;have hi:i<xs.length:=by rw[hlen];exact(yx.1 j7).1
  rw[bd hi]at this;exact⟨n,_,this⟩
 ·cases hf
theorem aGd{u k:Nat}{d:DataW H}:∀{ts:List TypeId} {ds:List (DataW H)} {i:Nat},ts[i]?=some u->ds[i]?=some d->k∈d.weights P u->k∈DataW.weightsEach P ts ds
 |[],_,i,h,_,_=>by simp at h
 |_::_,[],i,_,h,_=>by simp at h
 |t::ts,e::ds,0,h1,h2,h3=>by simp at h1 h2;subst h1;subst h2;unfold DataW.weightsEach;exact sR _ h3
 |t::ts,e::ds,i+1,h1,h2,h3=>by unfold DataW.weightsEach;exact yb _ (aGd (by simpa using h1) (by simpa using h2) h3)
theorem XC{i u o:Nat}(hf:Jb P t i=some (u,o))(h:DataW.trod enc P w base spare held fuel t cs=some x):∃ n y,DataW.trod enc P w base spare held n u ((cs.drop o).take (P.cellsOf u))=some y/\∀ k∈y.1.weights P u,k∈x.1.weights P t:=by
 unfold Jb at hf;split at hf
 ·rename_i fs ht;obtain⟨xs,n,_,hx,_,hlen,ba⟩:=aGc ht h;rw[Option.map_eq_some_iff]at hf;obtain⟨f,j7,he⟩:=hf;injection he with e1 e2;subst e1;subst e2;have:=ba i f j7;have hi:i<xs.length:=by rw[hlen];exact(yx.1 j7).1
  have hxi:=bd hi;rw[hxi]at this;refine⟨n,_,this,λk hk=>?_⟩;rw[hx];show k∈(DataW.agg (xs.map (·.1))).weights P t;unfold DataW.weights;rw[ht];refine aGd (i:=i) (u:=f.type) (d:=xs[i].1) ?_ ?_ hk
  ·rw[Cd,show fs.toList[i]?=some f by rw[Array.getElem?_toList];exact j7];rfl
  ·rw[Cd,hxi];rfl
 ·cases hf
theorem aTY{e:TypeId}{a:Addr}{len cap:Nat}(ht:P.underlying t=some (.slice e))(hb:0<P.bytesOf e)(h:DataW.trod enc P w base spare held fuel t [.slice (some a) len cap]=some x)(hw:∀ k∈x.1.weights P t,k<=reachBytes):len<=reachBytes:=by
 rcases DataW.trod_slice ht h with ⟨h1,_⟩|⟨a',lE,aO,elems,rest,n,_,h1,hx,_,_,_,hlen,_⟩
 ·cases h1
 ·injection h1 with h1;injection h1 with _ e2 _;subst e2;have:=hw ((elems.length+rest.length)*P.bytesOf e) (by rw[hx];show _∈(DataW.slice (elems.map (·.1)) (rest.map (·.1))).weights P t;unfold DataW.weights;rw[ht];simp)
  have h2:elems.length+rest.length<=(elems.length+rest.length)*P.bytesOf e:=ES _ hb;omega
theorem aTZ{n e:Nat}(he:aGb P t=some (n,e))(h:DataW.trod enc P w base spare held fuel t cs=some x):cs.length=P.cellsOf t/\∀ i,i<n->∃ m y,DataW.trod enc P w base spare held m e ((cs.drop (i*P.cellsOf e)).take (P.cellsOf e))=some y:=by
 unfold aGb at he;split at he
 ·rename_i n' e' ht;injection he with he;injection he with e1 e2;subst e1;subst e2;obtain⟨xs,m,_,_,hl,hlen,ba⟩:=DataW.trod_array ht h;refine⟨hl,λi hi=>?_⟩;have:=ba i hi;rw[bd o_]at this;exact⟨m,_,this⟩
 ·cases he
theorem aGe{α:Type}{p:Nat->α->Prop}:∀ n,(∀ i,i<n->∃ r,p i r)->∃ rs:List α,rs.length=n/\∀ i r,rs[i]?=some r->p i r
 |0,_=>⟨[],rfl,λi r h=>by simp at h⟩
 |n+1,h=>by
  obtain⟨rs,h1,h2⟩:=aGe n λi hi=>h i o_;obtain⟨r,hr⟩:=h n o_;refine⟨rs++[r],by rw[iJ,h1];rfl,λi r' hi=>?_⟩;rcases eC i rs.length with al|dM
  ·rw[GI al]at hi;exact h2 i r' hi
  ·rw[Ci dM]at hi;have hi0:i-rs.length=0:=by have:=(eE.1 hi).1;simp at this;omega
   rw[hi0]at hi;simp at hi;subst hi;have:i=n:=by omega
   subst this;exact hr
theorem aGf{α:Type}{f:α->aj}{s:Nat}(hE:∀ x,(f x).length=s)(qc:0<s){e:TypeId}(ht:P.underlying t=some (.slice e))(hs:P.cellsOf e=s)(XD:∀ n cs y,DataW.trod enc P w 0 (λ_=>true) true n e cs=some y->∃ r,cs=f r)
  {v:Value} (h:DataW.trod enc P w 0 (λ_=>true) true fuel t [v]=some x) :
  v=.slice none 0 0\/∃ a len cap,∃ rs:List α,v=.slice (some a) len cap/\len<=cap/\cap<=maxLen/\rs.length=len/\(∀ i r j u,rs[i]?=some r->(f r)[j]?=some u->w.cell? ((a.add (i*s)).add j)=some u)/\(0<cap->∃ u,w.cell? (a.add 0)=some u):=by
 rcases DataW.trod_slice ht h with ⟨h1,_⟩|⟨a,len,cap,elems,rest,n,_,h1,_,hb,hl,hc,hlen,tv,zF,_⟩
 ·injection h1 with h1;exact .inl h1
 ·injection h1 with h1;subst h1;refine .inr ⟨a,len,cap,?_⟩;have key:∀ i,i<len->∃ r:α,∀ j u,(f r)[j]?=some u->w.cell? ((a.add (i*s)).add j)=some u:=by intro i hi;have:=tv i hi;rw[bd o_,aGg]at this;obtain⟨bt,h2,h3⟩:=this;obtain⟨r,rfl⟩:=XD _ _ _ h3;refine⟨r,λj u hj=>?_⟩;rw[hs]at h2;obtain⟨_,jw,ba⟩:=World.cells?_some h2;have QC:=(eE.1 hj).1;rw[ba j o_];exact hj
  obtain⟨rs,q1,q2⟩:=aGe len key;refine⟨rs,rfl,hl,hc,q1,λi r j u hi hj=>q2 i r hi j u hj,λyQ=>?_⟩;have any:∃ bt,w.cells? 0 (a.add (0*s)) s=some bt:=by
   rcases nZ len with h0|h0
   ·obtain⟨Ad,hr⟩:=zF rfl;have:=hr 0 o_;rw[bd o_,aGg]at this;obtain⟨bt,h2,_⟩:=this;rw[h0,hs]at h2;exact⟨bt,h2⟩
   ·have:=tv 0 h0;rw[bd o_,aGg]at this;obtain⟨bt,h2,_⟩:=this;rw[hs]at h2;exact⟨bt,h2⟩
  obtain⟨bt,h2⟩:=any;obtain⟨_,jw,ba⟩:=World.cells?_some h2;have:=ba 0 qc;rw[bd (by rw[jw];exact qc),lB]at this;exact⟨_,this⟩
theorem aGh{α:Type}{f:α->aj}{s:Nat}(hE:∀ x,(f x).length=s):∀{l:List α} {k:Nat} {u:Value},(dc f l)[k]?=some u->∃ i r j,l[i]?=some r/\(f r)[j]?=some u/\k=i*s+j
 |[],k,u,h=>by simp[dc]at h
 |x::l,k,u,h=>by
  rw[show dc f (x::l)=f x++dc f l from rfl]at h;rcases eC k (f x).length with al|dM
  ·rw[GI al]at h;exact⟨0,x,k,rfl,h,by rw[lB,jZ]⟩
  ·rw[Ci dM]at h;obtain⟨i,r,j,h1,h2,h3⟩:=aGh hE h;refine⟨i+1,r,j,by simpa using h1,h2,?_⟩;rw[hE]at h3 dM;rw[yC];omega
theorem aT0(b o i j:Nat):((⟨b,o,none⟩:Addr).add i).add j=⟨b,o+(i+j),none⟩:=by unfold Addr.add;by_cases hi:i=0<;>by_cases hj:j=0<;>simp[hi,hj,ug]
def isAgg(P:Program)(T:TypeId):Bool:=match P.underlying T with|some (.struct _)=>true|some (.array _ _)=>true|_=>false
theorem aGi{T:TypeId}{v:Value}{r:Reach}(hs:isAgg P T=true)(hv:Value.okWide P w r base T v):∃ cs,v=.agg cs/\cs.size=P.cellsOf T/\Row.okWide P w r base T cs:=by
 unfold Value.okWide at hv;unfold isAgg at hs;split at hs
 ·rename_i e;rw[e]at hv;exact hv
 ·rename_i e;rw[e]at hv;exact hv
 ·cases hs
theorem aT1{T e:TypeId}{a:Addr}{len cap:Nat}{r:Reach}(ht:P.underlying T=some (.slice e))(h:Cell.okWide P w r base T (.slice (some a) len cap)):a.spot=none/\a.block<w.heap.size:=by
 unfold Cell.okWide at h;rw[ht]at h;have h:Cell.ok P w r base T (.slice (some a) len cap):=h;unfold Cell.ok at h;rw[ht]at h;obtain⟨_,_,_,h1,row,cells,h2,_⟩:=h;refine⟨h1,?_⟩;unfold World.shape? at h2;split at h2
 ·rename_i c t f he;exact(yx.1 he).1
 ·cases h2
theorem aGj{α:Type}{f:α->aj}{s:Nat}(hE:∀ x,(f x).length=s){b o len cap:Nat}{rs:List α}(hl:len<=cap)(hb:b<w.heap.size)(hlen:rs.length=len)(h:∀ i r j u,rs[i]?=some r->(f r)[j]?=some u->w.cell? (((⟨b,o,none⟩:Addr).add (i*s)).add j)=some u):
  cK w (.slice (some ⟨b,o,none⟩) len cap) rs.length (dc f rs):=by
 refine .inr ⟨b,o,cap,by rw[hlen],by omega,hb,λk u hk=>?_⟩;obtain⟨i,r,j,h1,h2,rfl⟩:=aGh hE hk;have:=h i r j u h1 h2;rwa[aT0]at this
end
section
variable{H:Type}{enc:TypeId×Value->H}{w:World}{base:Nat}{spare:Nat->Bool}{held:Bool}{fuel:Nat}{cs:aj}{x:DataW H×List MemPlace}
theorem aGk{cs:aj}(h:cs.length=2):∃ a b,cs=[a,b]:=by
 match cs,h with
 |[a,b],_=>exact⟨a,b,rfl⟩
theorem aT2(h:DataW.trod enc prog w base spare held fuel 4 cs=some x):∃ b,cs=[.bool b]:=by obtain⟨b,h1,_⟩:=DataW.trod_bool (P:=prog) k_ h;exact⟨b,h1⟩
theorem aT3(h:DataW.trod enc prog w base spare held fuel 9 cs=some x):∃ l:List UInt8,cs=[.string (BA l)]:=by obtain⟨s,h1,_⟩:=DataW.trod_string (P:=prog) k_ h;exact⟨s.data.toList,by rw[h1];rfl⟩
theorem aGl(h:DataW.trod enc prog w base spare held fuel 3 cs=some x):∃ z,cs=[iV z]:=by obtain⟨z,h1,_⟩:=DataW.trod_int (P:=prog) (k:=.i64) k_ h;exact⟨z,h1⟩
theorem L9(h:DataW.trod enc prog w base spare held fuel 28 cs=some x):∃ q:RI,cs=q.cs:=by have hl:=L8 (P:=prog) (i:=0) (u:=4) (o:=0) k_ h;rw[show prog.cellsOf 28=2 from k_]at hl;obtain⟨_,_,h0⟩:=yf (P:=prog) (i:=0) (u:=4) (o:=0) k_ h;obtain⟨_,_,h1⟩:=yf (P:=prog) (i:=1) (u:=9) (o:=1) k_ h;rw[show prog.cellsOf 4=1 from k_]at h0;rw[show prog.cellsOf 9=1 from k_]at h1;obtain⟨a,b,rfl⟩:=aGk hl;obtain⟨b0,e0⟩:=aT2 h0;obtain⟨l,e1⟩:=aT3 h1;simp at e0 e1;subst e0;subst e1;exact⟨⟨b0,l⟩,rfl⟩
theorem aT4(h:DataW.trod enc prog w base spare held fuel 29 cs=some x):∃ a b c e:RI,cs=a.cs++(b.cs++(c.cs++e.cs)):=by
 obtain⟨hl,ba⟩:=aTZ (P:=prog) (n:=4) (e:=28) k_ h;rw[show prog.cellsOf 29=8 from k_]at hl;rw[show prog.cellsOf 28=2 from k_]at ba;obtain⟨_,_,h0⟩:=ba 0 d_;obtain⟨_,_,h1⟩:=ba 1 d_;obtain⟨_,_,h2⟩:=ba 2 d_;obtain⟨_,_,h3⟩:=ba 3 d_;obtain⟨a,e0⟩:=L9 h0;obtain⟨b,e1⟩:=L9 h1;obtain⟨c,e2⟩:=L9 h2;obtain⟨e,e3⟩:=L9 h3;refine⟨a,b,c,e,?_⟩;rw[<-e0,<-e1,<-e2,<-e3]
 match cs,hl with
 |[_,_,_,_,_,_,_,_],_=>rfl
theorem QZ(h:DataW.trod enc prog w base spare held fuel 31 cs=some x):∃ r:RN,cs=r.cs:=by
 have hl:=L8 (P:=prog) (i:=0) (u:=29) (o:=0) k_ h;rw[show prog.cellsOf 31=10 from k_]at hl;obtain⟨_,_,h0⟩:=yf (P:=prog) (i:=0) (u:=29) (o:=0) k_ h;obtain⟨_,_,h1⟩:=yf (P:=prog) (i:=1) (u:=28) (o:=8) k_ h;rw[show prog.cellsOf 29=8 from k_]at h0;rw[show prog.cellsOf 28=2 from k_]at h1;obtain⟨a,b,c,e,e0⟩:=aT4 h0;obtain⟨d,e1⟩:=L9 h1;have:cs=(cs.drop 0).take 8++(cs.drop 8).take 2:=by
  match cs,hl with
  |[_,_,_,_,_,_,_,_,_,_],_=>rfl
 refine⟨⟨a,b,c,e,d⟩,?_⟩;rw[this,e0,e1];rfl
theorem aGm(h:DataW.trod enc prog w base spare held fuel 33 cs=some x):∃ r:RV,cs=r.cs:=by
 have hl:=L8 (P:=prog) (i:=0) (u:=31) (o:=0) k_ h;rw[show prog.cellsOf 33=30 from k_]at hl;obtain⟨_,_,h0⟩:=yf (P:=prog) (i:=0) (u:=31) (o:=0) k_ h;obtain⟨_,_,h1⟩:=yf (P:=prog) (i:=1) (u:=31) (o:=10) k_ h;obtain⟨_,_,h2⟩:=yf (P:=prog) (i:=2) (u:=31) (o:=20) k_ h;rw[show prog.cellsOf 31=10 from k_]at h0 h1 h2;obtain⟨a,e0⟩:=QZ h0;obtain⟨b,e1⟩:=QZ h1;obtain⟨c,e2⟩:=QZ h2;have:cs=(cs.drop 0).take 10++((cs.drop 10).take 10++(cs.drop 20).take 10):=by
  have t2:(cs.drop 20).take 10=cs.drop 20:=kj (by rw[vg];omega);have t1:(cs.drop 10).take 10++cs.drop 20=cs.drop 10:=by have:=Ik 10 (cs.drop 10);rwa[Nc]at this
  rw[t2,t1,l5,Ik]
 refine⟨⟨a,b,c⟩,?_⟩;rw[this,e0,e1,e2];rfl
theorem aGn(h:DataW.trod enc prog w base spare held fuel 35 cs=some x):∃ r:RP,cs=r.cs:=by
 have hl:=L8 (P:=prog) (i:=0) (u:=33) (o:=0) k_ h;rw[show prog.cellsOf 35=40 from k_]at hl;obtain⟨_,_,h0⟩:=yf (P:=prog) (i:=0) (u:=33) (o:=0) k_ h;obtain⟨_,_,h1⟩:=yf (P:=prog) (i:=1) (u:=31) (o:=30) k_ h;rw[show prog.cellsOf 33=30 from k_]at h0;rw[show prog.cellsOf 31=10 from k_]at h1;obtain⟨a,e0⟩:=aGm h0;obtain⟨b,e1⟩:=QZ h1;have:cs=(cs.drop 0).take 30++(cs.drop 30).take 10:=by have t2:(cs.drop 30).take 10=cs.drop 30:=kj (by rw[vg];omega);rw[t2,l5,Ik]
 refine⟨⟨a,b⟩,?_⟩;rw[this,e0,e1];rfl
def Q0(z:Int):aj:=[iV z]
theorem aT5(l:List Int):dc Q0 l=eB l:=by
 induction l with
 |nil=>rfl
 |cons z l ih=>show[iV z]++dc Q0 l=_;rw[ih];rfl
theorem aT6{w:World}{a:Addr}{u:Value}(h:w.cell? a=some u):a.spot=none/\a.block<w.heap.size:=by
 unfold World.cell? at h;split at h
 ·rename_i c t f he;refine⟨?_,(yx.1 he).1⟩;cases hs:a.spot with
  |none=>rfl
  |some s=>rw[hs]at h;simp at h
 ·cases h
theorem aT7{v:Value}(h:DataW.trod enc prog w 0 (λ_=>true) true fuel 56 [v]=some x):∃ l:List Int,pK w v l.length (eB l):=by
 rcases aGf (P:=prog) (f:=Q0) (s:=1) (λ_=>rfl) d_ (e:=3) k_ k_ (λn cs y hy=>aGl hy) h with h1|⟨a,len,cap,rs,h1,hl,hc,hlen,lV,A0⟩
 ·exact⟨[],.inl (.inl ⟨h1,rfl,rfl⟩)⟩
 ·refine⟨rs,?_⟩;subst h1;rcases nZ cap with h0|h0
  ·refine .inr ⟨by omega,a,?_⟩;rw[show len=0 by omega,h0]
  ·obtain⟨u,hu⟩:=A0 h0;have e0:a.add 0=a:=rfl;rw[e0]at hu;obtain⟨hs,hb⟩:=aT6 hu;obtain⟨b,o,sp⟩:=a;dsimp only at hs hb;subst hs;have:=aGj (f:=Q0) (s:=1) (λ_=>rfl) hl hb hlen lV;rw[aT5]at this;exact .inl this
def XE(w:World):Type:={ r:(Int×List Int)×Value // pK w r.2 r.1.2.length (eB r.1.2)}
def Ma{w:World}(r:XE w):aj:=[iV r.1.1.1,r.1.2]
theorem aT8{n:Nat}{cs:aj}{y:DataW H×List MemPlace}(h:DataW.trod enc prog w 0 (λ_=>true) true n 63 cs=some y):∃ r:XE w,cs=Ma r:=by have hl:=L8 (P:=prog) (i:=0) (u:=3) (o:=0) k_ h;rw[show prog.cellsOf 63=2 from k_]at hl;obtain⟨_,_,h0⟩:=yf (P:=prog) (i:=0) (u:=3) (o:=0) k_ h;obtain⟨_,_,h1⟩:=yf (P:=prog) (i:=1) (u:=56) (o:=1) k_ h;rw[show prog.cellsOf 3=1 from k_]at h0;rw[show prog.cellsOf 56=1 from k_]at h1;obtain⟨a,b,rfl⟩:=aGk hl;obtain⟨z,e0⟩:=aGl h0;obtain⟨l,hw⟩:=aT7 h1;simp at e0;subst e0;exact⟨⟨((z,l),b),hw⟩,rfl⟩
theorem aGo{w:World}:∀ rs:List (XE w),rk w (rs.map λr=>r.1.1) (dc Ma rs)
 |[]=>.nil
 |r::rs=>by show rk w (r.1.1::rs.map λr=>r.1.1) (Ma r++dc Ma rs);obtain⟨⟨⟨z,l⟩,u⟩,hw⟩:=r;exact .cons hw (aGo rs)
set_option maxRecDepth 100000 in
theorem XF{α:Type}{f:α->aj}{s:Nat}(hE:∀ x,(f x).length=s)(qc:0<s){T e:TypeId}(ht:prog.underlying T=some (.slice e))(hs:prog.cellsOf e=s)(hb:0<prog.bytesOf e)(XD:∀ n cs (y:DataW H×List MemPlace),DataW.trod enc prog w 0 (λ_=>true) true n e cs=some y->∃ r,cs=f r)
  {v:Value} {r:Reach} (ay:Cell.okWide prog w r base T v) (h:DataW.trod enc prog w 0 (λ_=>true) true fuel T [v]=some x) (hw:∀ k∈x.1.weights prog T,k<=reachBytes):∃ rs:List α,cK w v rs.length (dc f rs)/\rs.length<=reachBytes:=by
 rcases aGf hE qc ht hs XD h with h1|⟨a,len,cap,rs,h1,hl,hc,hlen,lV,_⟩
 ·exact⟨[],.inl ⟨h1,rfl,rfl⟩,kU _⟩
 ·subst h1;obtain⟨q1,q2⟩:=aT1 ht ay;have OP:=aTY ht hb h hw;obtain⟨b,o,sp⟩:=a;dsimp only at q1 q2;subst q1;exact⟨rs,aGj hE hl q2 hlen lV,by omega⟩
set_option maxRecDepth 100000 in
theorem aT9{v:Value}{d:DataW H}{p:List MemPlace}(hv:Value.okWide prog w .any base 26 v)(h:DataW.Trod enc prog w 0 (λ_=>true) true 26 v d p)(hw:∀ k∈d.weights prog 26,k<=reachBytes):
  ∃ rs vs fs,(iS rs vs fs).In w v/\rs.length<=reachBytes/\vs.length<=reachBytes/\fs.length<=reachBytes:=by
 obtain⟨fuel,h⟩:=h;obtain⟨cs,rfl,bA,jm⟩:=aGi k_ hv;rw[show prog.cellsOf 26=3 from k_]at bA;obtain⟨c0,c1,c2,rfl⟩:∃ a b c,cs=#[a,b,c]:=by
  obtain⟨l⟩:=cs
  match l,bA with
  |[a,b,c],_=>exact⟨a,b,c,rfl⟩
 obtain⟨ts,hts,_,jc⟩:=jm;have Q1:prog.cellTypes prog.depth 26=some [22,23,24]:=k_;rw[hts]at Q1;injection Q1 with Q1;subst Q1;have k0:Cell.okWide prog w .any base 22 c0:=by obtain⟨u,hu,ay⟩:=jc 0 c0 rfl;simp at hu;subst hu;exact ay
 have k1:Cell.okWide prog w .any base 23 c1:=by obtain⟨u,hu,ay⟩:=jc 1 c1 rfl;simp at hu;subst hu;exact ay
 have k2:Cell.okWide prog w .any base 24 c2:=by obtain⟨u,hu,ay⟩:=jc 2 c2 rfl;simp at hu;subst hu;exact ay
 have h:DataW.trod enc prog w 0 (λ_=>true) true fuel 26 [c0,c1,c2]=some (d,p):=h;obtain⟨_,_,h0,w0⟩:=XC (P:=prog) (i:=0) (u:=22) (o:=0) k_ h;obtain⟨_,_,h1,w1⟩:=XC (P:=prog) (i:=1) (u:=23) (o:=1) k_ h;obtain⟨_,_,h2,w2⟩:=XC (P:=prog) (i:=2) (u:=24) (o:=2) k_ h;rw[show prog.cellsOf 22=1 from k_]at h0;rw[show prog.cellsOf 23=1 from k_]at h1;rw[show prog.cellsOf 24=1 from k_]at h2;obtain⟨rs,q0,l0⟩:=XF (f:=RP.cs) (s:=40) iD.len d_ (e:=35) k_ k_ (kH k_) (λn cs y hy=>aGn hy) k0 h0 (λk hk=>hw k (w0 k hk));obtain⟨vs,q1,l1⟩:=XF (f:=RV.cs) (s:=30) gh.len d_ (e:=33) k_ k_ (kH k_) (λn cs y hy=>aGm hy) k1 h1 (λk hk=>hw k (w1 k hk));obtain⟨fs,q2,l2⟩:=XF (f:=Ma (w:=w)) (s:=2) (λ_=>rfl) d_ (e:=63) k_ k_ (kH k_) (λn cs y hy=>aT8 hy) k2 h2 (λk hk=>hw k (w2 k hk));refine⟨rs,vs,fs.map λr=>r.1.1,⟨c0,c1,c2,rfl,q0,q1,⟨_,by rw[ek];exact q2,aGo fs⟩,?_⟩,l0,l1,by rw[ek];exact l2⟩;rcases q2 with ⟨e,_⟩|⟨_,_,_,e,_⟩<;>rw[e]<;>exact⟨rfl,rfl⟩
set_option maxRecDepth 100000 in
theorem aGp{v:Value}{d:DataW H}{p:List MemPlace}(hv:Value.okWide prog w .any base 35 v)(h:DataW.Trod enc prog w 0 (λ_=>true) true 35 v d p):∃ r:RP,v=r.v:=by obtain⟨cs,rfl,_,_⟩:=aGi k_ hv;obtain⟨fuel,h⟩:=h;obtain⟨r,hr⟩:=aGn (cs:=cs.toList) h;refine⟨r,?_⟩;show Value.agg cs=.agg r.cs.toArray;rw[<-hr]
end
section
open CR OF
open V3 (dot ax cL smul)
section
variable{ps qs:List (HS K)}{p q:HS K}
theorem aUa(h:∀ x,x∈ps↔x∈qs){v:V3 K}:gH ps v↔gH qs v:=⟨λk x hx=>k x ((h x).2 hx),λk x hx=>k x ((h x).1 hx)⟩
theorem Q2(h:∀ x,x∈ps↔x∈qs):gJ ps↔gJ qs:=⟨λ⟨y,k⟩=>⟨y,λx hx=>k x ((h x).2 hx)⟩,λ⟨y,k⟩=>⟨y,λx hx=>k x ((h x).1 hx)⟩⟩
theorem aUb(h:∀ x,x∈ps↔x∈qs){v:V3 K}:kL ps v↔kL qs v:=by
 unfold kL;rw[aUa h];constructor<;>rintro⟨h0,a,ha,b,hb,c,hc,k⟩
 ·exact⟨h0,a,(h a).1 ha,b,(h b).1 hb,c,(h c).1 hc,k⟩
 ·exact⟨h0,a,(h a).2 ha,b,(h b).2 hb,c,(h c).2 hc,k⟩
theorem aGq(h:∀ x,x∈ps↔x∈qs)(h1:Cl ps/\gp ps/\gJ ps)(h2:Cl qs/\gp qs):bT ps=bT qs:=by
 have hf:=(Q2 h).1 h1.2.2;have e:∀ x,x∈bT ps↔x∈bT qs:=λx=>by rw[LW h1.1 h1.2.1 h1.2.2,LW h2.1 h2.2 hf,aUb h]
 exact OY (KS _) (KS _) e
theorem aGr(h:gJ (ps++qs)):gJ ps:=⟨h.choose,λx hx=>h.choose_spec x (sR _ hx)⟩
theorem aUc(h:p∈ps):∀ x,x∈ps++[p]↔x∈ps:=λx=>by rw[dY,KH];exact⟨λk=>k.elim id λe=>e▸h,.inl⟩
theorem aUd{vs:List (V3 K)}{i:Nat}(hi:i<ps.length):jW (ps++[p]) vs i=jW ps vs i:=by unfold jW;rw[GI hi,bd hi];unfold oZ;rw[aUe (iM hi)]
theorem aUf{vs:List (V3 K)}(h:p∈ps):jW (ps++[p]) vs ps.length=[]:=by unfold jW;rw[Ci (bh _),ux];show oZ (ps++[p]) vs ps.length p=[];unfold oZ;rw[aUe (bh _),nI,aw];rw[rC];exact⟨p,h,aB rfl⟩
theorem aGs{vs:List (V3 K)}:∀ n,n<=ps.length->eX (ps++[p]) vs n=eX ps vs n
 |0,_=>rfl
 |n+1,hn=>by rw[D0,D0,aGs n o_,aUd o_]
theorem aUg(h:p∈ps)(hv:bT (ps++[p])=bT ps):(fD (ps++[p])).length=(fD ps).length:=by unfold fD;rw[ek,ek,hv,iJ,vS,D0,aGs _ (bh _),aUf h,iY]
theorem aUh(hc:Cl ps)(hp:gp ps)(hf:gJ ps)(h:p∈ps):ke p (bT ps) (bT ps).length=[]:=by
 unfold ke;rw[List.filter_eq_nil_iff];intro k hk;have hm:=(LW hc hp hf).1 (aFw (vs:=bT ps) (j5.1 hk));have:=hm.1 p h;have:OF.az (dot p.n (aL (bT ps) k)-p.d)<=0:=by rw[W0];exact OF.not_lt.1 λh'=>OF.not_lt.2 this (OF.sub_pos.1 h')
 simp;omega
end
structure nP where
 np:Nat
 xp:aj
 nv:Nat
 xv:aj
 gs:List (Int×List Int)
structure nP.Ok(s:nP):Prop where
 f1:s.xp.all flat=true
 n1:s.np=0->s.xp=[]
 f2:s.xv.all flat=true
 n2:s.nv=0->s.xv=[]
def nP.arg(s:nP):aP:=.s s.np s.xp s.nv s.xv (fo s.gs)
def nP.val(s:nP)(k:Nat):Value:=.agg #[sl k s.np,sl (k+1) s.nv,eQ (k+2)]
def nP.Q3(s:nP):List (Nat×Option Obj):=[(0,some (.view s.xp)),(1,some (.view s.xv)),(2,some (.fact (fo s.gs)))]
def nP.atk(s:nP)(k S:Nat):List (Nat×Option Obj):=[(k,some (.row s.xp 35 40)),(k+1,some (.row s.xv 33 30)),(k+2,some (.fact ((fo s.gs).jJ S)))]
def Ar(s:nP)(p:HS K)(t:Bool)(s':nP):Prop:=tH prog 12 [s.arg,.p (cB p)] 35 40 s'.np s'.xp 33 30 s'.nv s'.xv (fo s'.gs) [.bool t,iR 0]
def Jc(s:nP)(p:HS K):Prop:=cD prog 12 [s.arg,.p (cB p)] (.tuple #[ri,.bool false,iR 12])
section
variable{Bs:aa}{s a b c d e:nP}{p q:HS K}{t t1 t2 t3 t4:Bool}{l:List aP}{xs:aj}{nd:List (Nat×Option Obj)}
theorem nP.Ok.src(h:s.Ok)(hs:fm Bs l xs nd):fm Bs (s.arg::l) (s.val 0::xs) (s.Q3++nd):=.s (x1:=.view s.xp) (x2:=.view s.xv) rfl h.f1 h.n1 rfl h.f2 h.n2 hs
theorem nP.Ok.aUi(h:s.Ok)(k S:Nat)(hs:fm Bs l xs nd):fm Bs (s.arg::l) (s.val k::xs) (s.atk k S++nd):=.si (Gs _ _) (x1:=.row s.xp 35 40) (x2:=.row s.xv 33 30) rfl h.f1 h.n1 rfl h.f2 h.n2 hs
def XG(s:nP)(S:Nat):Option Nat->List (Nat×Option Obj)
 |none=>s.Q3
 |some j=>s.atk j S
theorem nP.Ok.aGt(h:s.Ok)(S:Nat):∀ j:Option Nat,fm Bs [s.arg,.p (cB p)] [s.val (j.getD 0),cB p] (XG s S j)
 |none=>h.src (.p k_ .nil)
 |some j=>h.aUi j S (.p k_ .nil)
noncomputable def B4{w:World}{n:Nat}(fn:Func)(key:Nat)(j:Option Nat)(k:Nat)(ho:dp (av fn key).op=some (.func 12))(h:Ar s p t a)(hs:s.Ok)(ha:a.Ok):aX prog (aa.at w) n:=
 .step key (av fn key) [.func (.func 12) #[] #[],s.val (j.getD 0),cB p] ((k,none)::(k+1,none)::(k+2,none)::XG s w.heap.size j) (.tuple #[a.val k,.bool t,iR 0])
  [(k+2,.fact ((fo a.gs).jJ w.heap.size)),(k+1,.row a.xv 33 30),(k,.row a.xp 35 40)]
  (Dz (B:=aa.at w) (S:=w.heap.size) h (hs.aGt _ j) (x:=.func 12) ho k_ rfl ha.f1 ha.f2 rfl (λw' hb=>Below.size hb) k)
noncomputable def Ed{w:World}{n:Nat}(fn:Func)(key:Nat)(j:Option Nat)(ho:dp (av fn key).op=some (.func 12))(h:Jc s p)(hs:s.Ok):aX prog (aa.at w) n:=
 .step key (av fn key) [.func (.func 12) #[] #[],s.val (j.getD 0),cB p] (XG s w.heap.size j) (.tuple #[ri,.bool false,iR 12]) []
  (dE h (hs.aGt _ j) (x:=.func 12) ho k_ k_)
structure Q4(s:nP)(p q:HS K):Prop where
 ok:s.Ok
 few:cD prog 8 [s.arg] (.bool true)
 six:s.np<=6
 rp:aD prog 9 [cB p,vI 3] (.bool true)
 rq:aD prog 9 [cB q,vI 3] (.bool true)
 vp:aD prog 10 [cB p] (.bool true)
 vq:aD prog 10 [cB q] (.bool true)
 val:cD prog 11 [s.arg] (.bool true)
noncomputable def aVD{w:World}(h:Q4 s p q)(more:bE prog (aa.at w) 142):bE prog (aa.at w) 142:=
 .step 19 (av Tryz.f4 19) [.func (.func 7) #[] #[]] [] (.bool true) [] (dE aF7 .nil (x:=.func 7) k_ k_ rfl)::
 .step 22 (av Tryz.f4 22) [.func (.func 8) #[] #[],s.val 0] s.Q3 (.bool true) [] (dE h.few (h.ok.src .nil) (x:=.func 8) k_ k_ rfl)::
 .gt 28 s.np 6 false (aJ (by have:=h.six;omega))::h.rp.at 32::h.rq.at 37::h.vp.at 42::h.vq.at 47::
 .step 52 (av Tryz.f4 52) [.func (.func 11) #[] #[],s.val 0] s.Q3 (.bool true) [] (dE h.val (h.ok.src .nil) (x:=.func 11) k_ k_ rfl)::more
theorem aGu(h:s.Ok)(p q:HS K):([s.arg,.p (cB p),.p (cB q)].all aP.ok)=true:=by
 have e:s.arg.ok=true:=by show(s.xp.all flat&&(s.xv.all flat&&true))=true;rw[h.f1,h.f2];rfl
 simp only[dG,fB,e,Wt,jk]
theorem aUj(h:Q4 s p q)(oa:a.Ok)(ob:b.Ok)(oc:c.Ok)(od:d.Ok)(oe:e.Ok)(c1:Ar s p t1 a)(c2:Ar a q t2 b)(c3:Ar s q t3 c)(c4:Ar c p t4 d)(c5:Ar b p false e)
  (s1:cD prog 20 [.r b.nv b.xv,.r d.nv d.xv] (.bool true)) (s2:cD prog 20 [.r e.nv e.xv,.r b.nv b.xv] (.bool true)) (hg:e.gs.length=b.gs.length) :
  cD prog 4 [s.arg,.p (cB p),.p (cB q)] (.bool true):=by
 have ay:=aGu h.ok p q;exact fJ mixed func4 ay 400 (N:=142) k_ (λw=>aVD h [B4 Tryz.f4 61 none 8 k_ c1 h.ok oa,B4 Tryz.f4 70 (some 8) 12 k_ c2 oa ob,B4 Tryz.f4 61 none 16 k_ c3 h.ok oc,B4 Tryz.f4 70 (some 16) 20 k_ c4 oc od,.step 104 (av Tryz.f4 104) [.func (.func 20) #[] #[],sl 13 b.nv,sl 21 d.nv] [(13,some (.row b.xv 33 30)),(21,some (.row d.xv 33 30))] (.bool true) []
   (dE s1 (.w (x:=.row b.xv 33 30) rfl ob.f2 ob.n2 (.w (x:=.row d.xv 33 30) rfl od.f2 od.n2 .nil)) (x:=.func 20) k_ k_ rfl),
  B4 Tryz.f4 114 (some 12) 24 k_ c5 ob oe,
  .step 130 (av Tryz.f4 130) [.func (.func 20) #[] #[],sl 25 e.nv,sl 13 b.nv] [(25,some (.row e.xv 33 30)),(13,some (.row b.xv 33 30))] (.bool true) []
   (dE s2 (.w (x:=.row e.xv 33 30) rfl oe.f2 oe.n2 (.w (x:=.row b.xv 33 30) rfl ob.f2 ob.n2 .nil)) (x:=.func 20) k_ k_ rfl),
  .step 135 (av Tryz.f4 135) [eQ 26] [(26,some (.fact ((fo e.gs).jJ w.heap.size)))] (vI b.gs.length) [] (hg▸Xg k_ (Gs _ _)),
  .step 139 (av Tryz.f4 139) [eQ 14] [(14,some (.fact ((fo b.gs).jJ w.heap.size)))] (vI b.gs.length) [] (Xg k_ (Gs _ _)),
  .rw 140 (.bool ((b.gs.length:Int)==(b.gs.length:Int))) (.bool true) s_]) (λw=>k_) k_
theorem Q5:aD prog 20 [.slice none 0 0,.slice none 0 0] (.bool true):=aK func20 (λ_=>[])
theorem aUk(h:Q4 s p q)(h0:(∃ t a,Ar s p t a/\a.Ok/\Jc a q)\/Jc s p)(h1:(∃ t c,Ar s q t c/\c.Ok/\Jc c p)\/Jc s q):cD prog 4 [s.arg,.p (cB p),.p (cB q)] (.bool true):=by
 have ay:=aGu h.ok p q;rcases h0 with ⟨t1,a,c1,oa,n1⟩|n1<;>rcases h1 with ⟨t3,c,c3,oc,n3⟩|n3
 ·exact fJ mixed func4 ay 400 (N:=142) k_ (λw=>aVD h [B4 Tryz.f4 61 none 8 k_ c1 h.ok oa,Ed Tryz.f4 70 (some 8) k_ n1 oa,B4 Tryz.f4 61 none 13 k_ c3 h.ok oc,Ed Tryz.f4 70 (some 13) k_ n3 oc,Q5.at 104]) (λw=>k_) k_
 ·exact fJ mixed func4 ay 400 (N:=142) k_ (λw=>aVD h [B4 Tryz.f4 61 none 8 k_ c1 h.ok oa,Ed Tryz.f4 70 (some 8) k_ n1 oa,Ed Tryz.f4 61 none k_ n3 h.ok,Q5.at 104]) (λw=>k_) k_
 ·exact fJ mixed func4 ay 400 (N:=142) k_ (λw=>aVD h [Ed Tryz.f4 61 none k_ n1 h.ok,B4 Tryz.f4 61 none 9 k_ c3 h.ok oc,Ed Tryz.f4 70 (some 9) k_ n3 oc,Q5.at 104]) (λw=>k_) k_
 ·exact fJ mixed func4 ay 400 (N:=142) k_ (λw=>aVD h [Ed Tryz.f4 61 none k_ n1 h.ok,Ed Tryz.f4 61 none k_ n3 h.ok,Q5.at 104]) (λw=>k_) k_
end
noncomputable def B5(ps:List (HS K)):nP:=⟨ps.length,aQ ps,(bT ps).length,aR (bT ps),fD ps⟩
theorem Ee(ps:List (HS K)):(B5 ps).Ok:=⟨cZ ps,iE,dW _,xB⟩
section
variable{ps:List (HS K)}{p q:HS K}
theorem Good.vt(h:Good ps p)(hf:gJ (ps++[p])):Ar (B5 ps) p (decide (0<(ke p (bT ps) (bT ps).length).length)) (B5 (ps++[p])):=by
 have sG:=aF6 h.aF9 h.cl h.full hf;unfold Aq Ea at sG;rw[ek]at sG;have hl:(ps++[p]).length=ps.length+1:=by rw[iJ,vS]
 unfold Ar B5 nP.arg;rw[hl];exact sG
theorem Good.Q6(h:Good ps p)(hf:¬gJ (ps++[p])):Jc (B5 ps) p:=by
 have hi:qR (ps++[p]) (bT (ps++[p]))=false:=by
  cases e:qR (ps++[p]) (bT (ps++[p]))with
  |false=>rfl
  |true=>exact absurd ⟨_,(WT.1 e).2⟩ hf
 have sG:=aSX h.aF9 ((Xq h.proper).2 ⟨h.cl,h.full⟩) (QF.2 h.Ja) hi;unfold Aq Ea at sG;rw[ek]at sG;exact sG
theorem Good.next(h:Good ps p)(hq:bo 24 q/\q.n≠0)(hl:ps.length<8)(hf:gJ (ps++[p])):Good (ps++[p]) q:=⟨by rw[iJ,vS];omega,h.all,hq,h.Ja,hf⟩
theorem aUl(h:Good ps p)(hf:gJ (ps++[p])):cD prog 20 [.r (bT (ps++[p])).length (aR (bT (ps++[p]))),.r (bT (ps++[p])).length (aR (bT (ps++[p])))] (.bool true):=by
 have hv:=h.aTT hf;have oy:∀ x∈(bT (ps++[p])).map cC,x.Sm:=λx hx=>by obtain⟨v,pb,rfl⟩:=di.1 hx;exact(hv.1 v pb).sm h.aF8.qw.2.2.2.2.2.2
 have:=aDO oy oy (by rw[ek];have:=hv.2;omega);rw[ek,aB rfl]at this;exact this
theorem aUm(hp:Good ps p)(hq:Good ps q)(h6:ps.length<=6)(h:Q4 (B5 ps) p q):cD prog 4 [(B5 ps).arg,.p (cB p),.p (cB q)] (.bool true):=by
 have XH:∀ x,x∈ps++[q]++[p]↔x∈ps++[p]++[q]:=λx=>by simp only[dY,KH,or_assoc];exact⟨λk=>k.elim .inl λk=>.inr k.symm,λk=>k.elim .inl λk=>.inr k.symm⟩
 by_cases hf:gJ (ps++[p]++[q])
 ·have fv:=aGr hf;have oG:=(Q2 XH).2 hf;have iG:=aGr oG;have g1:=hp.next hq.new o_ fv;have g2:=hq.next hp.new o_ iG;have g3:=g1.next hp.new (by rw[iJ,vS];omega) hf;have wL:p∈ps++[p]++[q]:=by simp
  have hd:=aUc wL;have O4:=(Q2 hd).2 hf;have e2:=aGq XH ⟨g2.Ja,g2.QY,oG⟩ ⟨g1.Ja,g1.QY⟩;have e3:=aGq hd ⟨g3.Ja,g3.QY,O4⟩ ⟨g3.cl,g3.proper⟩;have c5:=g3.vt O4;rw[aUh g3.cl g3.proper g3.full wL]at c5;have s1:=aUl g1 hf;have s2:=s1;refine aUj h (Ee _) (Ee _) (Ee _) (Ee _) (Ee _) (hp.vt fv) (g1.vt hf) (hq.vt iG) (g2.vt oG) c5 ?_ ?_ (aUg wL e3)
  ·unfold B5;dsimp only;rw[e2];exact s1
  ·unfold B5;dsimp only;rw[e3];exact s1
 ·have oG:¬gJ (ps++[q]++[p]):=λk=>hf ((Q2 XH).1 k);refine aUk h ?_ ?_
  ·by_cases fv:gJ (ps++[p])
   ·exact .inl ⟨_,_,hp.vt fv,Ee _,(hp.next hq.new o_ fv).Q6 hf⟩
   ·exact .inr (hp.Q6 fv)
  ·by_cases fv:gJ (ps++[q])
   ·exact .inl ⟨_,_,hq.vt fv,Ee _,(hq.next hp.new o_ fv).Q6 oG⟩
   ·exact .inr (hq.Q6 fv)
end
section
variable{rs:List RP}{vs:List RV}{fs:List (Int×List Int)}{r u:RP}
theorem aUn(rs:List RP)(vs:List RV)(fs:List (Int×List Int))(r u:RP):([.s rs.length (da rs) vs.length (cE vs) (mZ fs),.p r.v,.p u.v].all aP.ok)=true:=by have e:(aP.s rs.length (da rs) vs.length (cE vs) (mZ fs)).ok=true:=Xk rs vs fs;have e2:flat r.v=true:=k_;have e3:flat u.v=true:=k_;simp only[dG,fB,e,lD,jk];show(flat r.v&&flat u.v)=true;rw[e2,e3];rfl
noncomputable def Gx{Bs:aa}{t:Bool}(tZ:cD prog 8 [iS rs vs fs] (.bool t))(more:bE prog Bs 142):bE prog Bs 142:=
 .step 19 (av Tryz.f4 19) [.func (.func 7) #[] #[]] [] (.bool true) [] (dE aF7 .nil (x:=.func 7) k_ k_ rfl)::
 .step 22 (av Tryz.f4 22) [.func (.func 8) #[] #[],sA rs.length vs.length] (XB rs vs fs) (.bool t) [] (dE tZ (aGa .nil) (x:=.func 8) k_ k_ rfl)::more
theorem aUo(QS:rs.length<9223372036854775807)(iq:vs.length<9223372036854775807)(wz:fs.length<9223372036854775807):cD prog 4 [iS rs vs fs,.p r.v,.p u.v] (.bool true):=by
 have ay:=aUn rs vs fs r u;have tZ:=aTs (rs:=rs) (vs:=vs) (fs:=fs) QS iq wz;have Ef:=P7 r 3;have Gy:=P7 u 3;by_cases hb:L3 rs vs fs=true;rotate_left
 ·have hb:L3 rs vs fs=false:=by simpa using hb
  rw[hb]at tZ;unfold iS at *;exact fJ mixed func4 ay 300 (N:=142) k_ (λw=>Gx tZ []) (λw=>k_) k_
 rw[hb]at tZ;by_cases h7:rs.length>6
 ·unfold iS at *;exact fJ mixed func4 ay 300 (N:=142) k_ (λw=>Gx tZ [.gt 28 rs.length 6 true (aB h7)]) (λw=>k_) k_
 have g7:decide (6<rs.length)=false:=aJ h7;by_cases hw:uZ r 3=true;rotate_left
 ·have hw:uZ r 3=false:=by simpa using hw
  rw[hw]at Ef;unfold iS at *;exact fJ mixed func4 ay 300 (N:=142) k_ (λw=>Gx tZ [.gt 28 rs.length 6 false g7,Ef.at 32]) (λw=>k_) k_
 have Jd:=Lv (Lw (n:=24) hw d_) d_;rw[hw]at Ef;by_cases hx:uZ u 3=true;rotate_left
 ·have hx:uZ u 3=false:=by simpa using hx
  rw[hx]at Gy;unfold iS at *;exact fJ mixed func4 ay 300 (N:=142) k_ (λw=>Gx tZ [.gt 28 rs.length 6 false g7,Ef.at 32,Gy.at 37]) (λw=>k_) k_
 have zD:=Lv (Lw (n:=24) hx d_) d_;rw[hx]at Gy;by_cases hv:oz r=true;rotate_left
 ·have hv:oz r=false:=by simpa using hv
  rw[hv]at Jd;unfold iS at *;exact fJ mixed func4 ay 300 (N:=142) k_ (λw=>Gx tZ [.gt 28 rs.length 6 false g7,Ef.at 32,Gy.at 37,Jd.at 42]) (λw=>k_) k_
 rw[hv]at Jd;by_cases hy:oz u=true;rotate_left
 ·have hy:oz u=false:=by simpa using hy
  rw[hy]at zD;unfold iS at *;exact fJ mixed func4 ay 300 (N:=142) k_ (λw=>Gx tZ [.gt 28 rs.length 6 false g7,Ef.at 32,Gy.at 37,Jd.at 42,zD.at 47]) (λw=>k_) k_
 rw[hy]at zD
 -- what a small record aU5
 have jz:=hb;unfold L3 LM at jz;simp only[db]at jz;obtain⟨cN,⟨hrp,_,_⟩,⟨hvw,aU6⟩,aU7⟩:=jz;rw[bf]at cN hrp hvw;have bA:∀ x∈rs,Ab 24 x:=λx hx=>Lw (hrp x hx) d_;have aN:∀ x∈vs,x.Sm:=λx hx=>aTS (hvw x hx) d_;have rf:∀ f∈fs,f.2.length<9223372036854775807:=λf hf=>eW (kH (cN f hf)) d_;have bad:cD prog 11 [iS rs vs fs] (.bool false)->cD prog 4 [iS rs vs fs,.p r.v,.p u.v] (.bool true):=λnA=>by unfold iS at *;exact fJ mixed func4 ay 300 (N:=142) k_ (λw=>Gx tZ [.gt 28 rs.length 6 false g7,Ef.at 32,Gy.at 37,Jd.at 42,zD.at 47,.step 52 (av Tryz.f4 52) [.func (.func 11) #[] #[],sA rs.length vs.length] (XB rs vs fs) (.bool false) [] (dE nA (aGa .nil) (x:=.func 11) k_ k_ rfl)]) (λw=>k_) k_
 by_cases ba:rs.all oz=true;rotate_left
 ·exact bad (aTp bA d_ QS (by simpa using ba))
 obtain⟨ers,fV⟩:=aTV ba;have bW:∀ q∈rs.map pZ,bo 24 q/\q.n≠0:=λq hq=>by refine⟨?_,fV q hq⟩;obtain⟨x,hx,rfl⟩:=di.1 hq;exact Wj (bf.1 ba x hx) (bA x hx)
 have hlen:(rs.map pZ).length=rs.length:=ek ..;obtain⟨er,La⟩:=P6 hv;have EJ:=Wj hv (Lw (n:=24) hw d_);obtain⟨eu,hun⟩:=P6 hy;have Fz:=Wj hy (Lw (n:=24) hx d_);generalize hP:rs.map pZ=ps at *;generalize hQ:pZ r=p at *;generalize hU:pZ u=q at *;subst ers;subst er;subst eu;have Q7:gp ps:=λq hq=>(bW q hq).2;have aUp:pJ ps 24 4000:=⟨by omega,bW,by decide,by decide⟩;have nA:=aFV (vs:=vs) (fs:=fs) aUp (λhc hs=>by have hc:=QH.1 hc;have hf:=aFZ Q7 hs;have:=Xr hc Q7 hf;rw[tW hc Q7 hf]at this;exact this) aN iq wz rf
 by_cases hvalid:Ec ps vs fs=true;rotate_left
 ·have hvalid:Ec ps vs fs=false:=by simpa using hvalid
  rw[hvalid]at nA;exact bad nA
 obtain⟨hc,hf,e1,e2⟩:=aTA Q7 hvalid;subst e1;subst e2;have hg:∀ p:HS K,bo 24 p/\p.n≠0->Good ps p:=λp hp=>⟨by omega,bW,hp,hc,hf⟩;have g1:=hg p ⟨EJ,La⟩;unfold iS at tZ ⊢;rw[ek,ek]at tZ ⊢;exact cD.aTX (aUm g1 (hg q ⟨Fz,hun⟩) o_ ⟨Ee ps,cD.Xj tZ (B0.full _).G,by show ps.length<=6;omega,Ef,Gy,Jd,zD,aTU g1.ref g1.cl g1.proper g1.full⟩) (aTW ps)
end
end
end Go.Proofs.YtjjefbkbljlgdaaGreatDoor
