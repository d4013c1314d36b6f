/- Area vectors of a solid's faces: the proof of MeasureClosedCardSaid (the law's function answers true at every record it can be given; theorem measureClosed_card, last part), part 6 of 7; no condition. -/
import Derived.Test.YthjhinbiabcfiaaGreatDoorCK5
namespace Go.Proofs.YthjhinbiabcfiaaGreatDoor
open Go Go.RowKit Tryz
variable{i k j d N np A nv:Nat}{o:Oper}{f:FuncId}{Bs:aa}{t:Bool}{x:K}{Os cz:aM}{xs eW xp:ak}{fn:Func}{l:List aP}{u:i_}{fs:f_}{vs acc:e_}
section
open V3 (dot af bA smul)
section
variable{Bs:aa}{vs:e_}{L:l_}
def dX(L:l_):List Int:=L.map λx:Nat=>(x:Int)
def dy(vs:e_)(L:l_):e_:=L.map (aw vs)
def RO(n j:Nat):aT:=[(11,vI j),(9,cK 3),(10,vI n),(2,bN 4),(5,sl 6 j)]
def EL(np:Nat)(vs:e_)(L:l_):aM:=[(1,.view (aN vs)),(3,.fact (eA (dX L))),(4,.aK [sl 0 np,sl 1 vs.length,cK 2] 26)]
theorem aUB:∀ x∈EL np vs L,fE 6 x.2:=λx hx=>by
 simp only[EL,cD,jE,jF]at hx;rcases hx with rfl|rfl|rfl
 ·exact λv hv=>iH (bB.1 (dC vs) v hv)
 ·exact n_
 ·intro v hv;have hv:v∈[sl 0 np,sl 1 vs.length,cK 2]:=hv;simp at hv;rcases hv with rfl|rfl|rfl<;>rfl
theorem aUC{z:Nat}{v:V3 K}(hj:j<(dX L).length)(hz:(dX L)[j]?=some (z:Int))(hv:vs[z]?=some v)(hl:acc.length=j)(h63:(dX L).length<1000000):
  ah prog Bs 25 (aI (ag f93 0)) (RO (dX L).length j) (EL np vs L++marks 6 (kK acc)) 7 ⟨.normal,gH 6 [some 9] (RO (dX L).length (j+1)),EL np vs L++dT [some 9] (kK (acc++[v])),10⟩:=by
 have al:=(dZ.1 hv).1;have hc:(aN acc).length=j*30:=by rw[pY,hl]
 exact aD [.lt 12 j (dX L).length true (aJ hj),.step 13 (au f93 13) [cK 3,vI j] [(7,none),(3,some (.fact (eA (dX L))))] (bN 7) [(7,.view [iV z])] (aG3 k_ hz),.c8 f93 19 1 vs.length z 30 al k_,.ld f93 20 38 1 (z*30) (.view (aN vs)) (bE v) rfl (ke hv) k_,.bs f93 21 8 1 38 30 [0] (RV.v rf) [bE v] (cH v).cs.toArray (.row (cH v).cs 38 30) rfl (λv hv=>by simp at hv;subst hv;rfl) (λv hv=>gm.flat _ v hv) k_ rfl d_ d_ k_,.pP f93 22 9 6 j 1 (j+1) 38 30 360 (aN acc) 8 (.row (cH v).cs 38 30) (aN (acc++[v])) rfl rfl rfl hc (by rw[<-LL];congr 1) (gm.one _) d_ (by simp[maxLen];omega) o_ k_,.sum 23 j 1 (j+1) rfl o_]
theorem aUD(hL:∀ x∈L,x<vs.length)(h63:L.length<1000000):
  ah prog Bs 25 (.block 0 (ag f93 0)) (gH 6 [none] (RO (dX L).length 0)) (EL np vs L++dT [none] (kK [])) 6 ⟨.normal,[(5,sl 6 (dX L).length)],EL np vs L++marks 6 (kK (dy vs L)),7⟩:=by
 have hlen:(dX L).length=L.length:=dQ ..
 have:=qF (P:=prog) (B:=Bs) (N:=25) (b:=aI (ag f93 0)) (next:=6) (p:=1) (r:=⟨.exit 0,[(5,sl 6 (dX L).length)],EL np vs L++marks 6 (kK (dy vs L)),7⟩) (dX L).length
  (λj=>RO (dX L).length j) (λ_=>EL np vs L) (λj=>kK (dy vs (L.take j))) [none] (λ_ _=>rfl) (λj _=>⟨aUB,Qa⟩) k_ k_
  (λj hj=>by
   have fY:j<L.length:=by omega
   have hq:L[j]?=some L[j]:=aW fY;have hz:(dX L)[j]?=some ((L[j]:Nat):Int):=by unfold dX;rw[sH,hq];rfl
   have e:dy vs (L.take (j+1))=dy vs (L.take j)++[aw vs L[j]]:=by unfold dy;rw[tA,hq,sF];rfl
   rw[e];exact⟨[some 9],10,k_,aUC (Bs:=Bs) hj hz (jU (hL _ (df fY))) (by unfold dy;rw[dQ,jK];omega) o_⟩)
  (by rw[show L.take (dX L).length=L from kG o_];generalize dy vs L=a;exact aD [.lt 12 (dX L).length (dX L).length false s_]) n_
 exact cd (id:=0) this
theorem aUE{F:Fact}{i:Int}(hu:u=iV i)(hL:∀ x∈L,x<vs.length)(h63:L.length<1000000)(mn:xp.all flat=true)(hF:F.rc=false):
  lO prog 93 [.s np xp vs.length (aN vs) F,.c u (eA (dX L))] 38 30 (dX L).length (aN (dy vs L)):=by
 subst hu;have aC:([aP.s np xp vs.length (aN vs) F,.c (iV i) (eA (dX L))].all aP.ok)=true:=by
  have e:(aP.s np xp vs.length (aN vs) F).ok=true:=by show(xp.all flat&&((aN vs).all flat&&!F.rc))=true;rw[mn,dC,hF];rfl
  simp only[eC,e7,e,kS,iA];rfl
 have lo:=λBs=>aUD (Bs:=Bs) (np:=np) hL h63;have hlen:(aN (dy vs L)).length=(dX L).length*30:=by rw[pY];unfold dy dX;rw[dQ,dQ]
 generalize dy vs L=a at *;exact x9 (k:=6) mixed func93 aC 100 (N:=25) k_ (λ_=>[.step 10 (au f93 10) [cK 3] [(3,some (.fact (eA (dX L))))] (vI (dX L).length) [] (vO k_),.code 0 _ _ _ _ _ (lo _)]) (λ_=>k_) (dC a) hlen
end
theorem QP{u v t:V3 K}{m n q:Nat}(hu:aF m u)(hv:aF n v)(ht:aF q t)(cQ:3*m+6*(n+q)+50<aE):aG prog 43 [bE u,bE v,bE t] (bX (bA u v t)):=
 bC func43 (λ_=>[(tu hv ht o_).at 10,(qP hu (hv.af ht) o_).at 11])
section
variable{P:j_}{N:Nat}
theorem aUF{c:Code}{v:i_}(hf:P.funcs[f]?=some fn)(hb:fn.body=some c)(hN:N=(e6 0 l).length+(fn.ntmps-(e6 0 l).length))(hl:(l.all aP.ok)=true)
  (h:∀ w ι cc a,fQ (aa.at w) ι (bK (jh 0 (e6 0 l))) N a->aO (aa.at w) ι cc w->cY cc (jB 0 l)->eK cc (jQ 0 l)->c.wpIn (FW none) 0 P (bodyPostM (FW none) 0 P fn λe w'=>e=.returned v/\Below w.heap.size w w') a w):cy P f l v:=by
 intro w args cC;obtain⟨ι,cc,h1,h2,h3,h4,h5,h6,h7⟩:=x8 cC (bB.1 hl) 0 _ _ (ub w) n_ (λ_ _=>rfl);refine JX.1 (callsIn_of_wp_marks (F:=FW none) (n:=0) hf hb trivial (h w ι cc _ ?_ h2 h4 h3));have:=aBR (B:=aa.at w) (fn:=fn) (N:=N) h6 hN rfl;simpa using this
theorem aUG{S:Nat->Prop}{m:Map}(h:∀ b,S b↔∃ k x o cap,ai Os k=some x/\m k=some (.at b o cap))(hk:∀ k,ai cz k=none↔ai Os k=none):∀ b,S b↔∃ k x o cap,ai cz k=some x/\m k=some (.at b o cap):=λb=>by
 have go:∀{L L':aM} {k:Nat} {x:Obj},(ai L' k=none->ai L k=none)->ai L k=some x->∃ y,ai L' k=some y:=λ{L L' k x} h e=>by
  cases e':ai L' k with
  |none=>rw[h e']at e;cases e
  |some y=>exact⟨y,rfl⟩
 rw[h b];constructor
 ·rintro⟨k,x,o,cap,e1,e2⟩
  obtain⟨y,e3⟩:=go (hk k).1 e1;exact⟨k,y,o,cap,e3,e2⟩
 ·rintro⟨k,x,o,cap,e1,e2⟩
  obtain⟨y,e3⟩:=go (hk k).2 e1;exact⟨k,y,o,cap,e3,e2⟩
theorem aUH{m:Map}(h:∀ k x,ai Os k=some x->m k≠none)(hk:∀ k,ai cz k=none↔ai Os k=none):∀ k x,ai cz k=some x->m k≠none:=λk x e=>by
 cases e':ai Os k with
 |none=>rw[(hk k).2 e']at e;cases e
 |some y=>exact h k y e'
end
theorem aUI{s:K}{m n:Nat}(hs:Sz m s)(hx:Sz n x)(cQ:m+n<aE):yi prog 89 20 ([bX x]++[bN 5]) [(5,.aK (du s).cs 33)] [] (.tuple #[]) [(5,.aK (du (s+x)).cs 33)]:=
 oL mixed func89 100 (N:=6) k_ (λ_=>[(uu hs hx cQ).at 5]) (λ_=>k_)
theorem aUJ{F:Fact}:yi prog 40 7 ([.agg #[sl 0 np,sl 1 nv,cK 2]]++[]) [] [(0,.view xp),(1,.view eW),(2,.fact F)] (.func (.func 92) #[] #[bN 7]) [(7,.aK [sl 0 np,sl 1 nv,cK 2] 26)]:=
 oL mixed func40 100 (N:=4) k_ (λ_=>[]) (λ_=>k_)
section
variable{ps:c_}{vs:e_}{fs:f_}{xp:ak}{np:Nat}{s:K}{p q r:V3 K}
def aG4(p q r:V3 K):Value:=.agg ((cH p).cs++(cH q).cs++(cH r).cs).toArray
end
section
variable{σ:Type}{vs:e_}{xp:ak}{np:Nat}{Fs:List (Nat×List Nat)}
def kZ(f:σ->V3 K->V3 K->V3 K->σ)(s:σ)(l:e_):Nat->σ
 |0=>s
 |t+1=>f (kZ f s l t) ((l[0]?).getD 0) ((l[t+1]?).getD 0) ((l[t+2]?).getD 0)
def w9(f:σ->V3 K->V3 K->V3 K->σ)(s:σ)(vs:e_)(Ls:List (List Nat)):Nat->σ
 |0=>s
 |i+1=>kZ f (w9 f s vs Ls i) (dy vs ((Ls[i]?).getD [])) (((Ls[i]?).getD []).length-2)
def rm(np nv:Nat)(x3 x4 x5 x6:Obj):aM:=[(3,x3),(4,x4),(5,x5),(6,x6),(7,.aK [sl 0 np,sl 1 nv,cK 2] 26)]
def pF(xp:ak)(vs:e_)(fs:f_):aM:=[(0,.view xp),(1,.view (aN vs)),(2,.fact (jd fs))]
theorem RQ{x3 x4 x5 x6:Obj}{m:Nat}(hm:m=8\/m=9)(h:([x3,x4,x5,x6].all λx=>x.cells.all (l5 m))=true)(mn:xp.all flat=true):((rm np vs.length x3 x4 x5 x6++pF xp vs fs).all λp=>Nat.blt p.1 8&&mO m p)=true:=by have e2:=yk (m:=m) (k:=0) (x:=.view xp) λv hv=>bB.1 mn v hv;have e3:=yk (m:=m) (k:=1) (x:=.view (aN vs)) λv hv=>bB.1 (dC vs) v hv;simp only[eC,e7,de]at h;obtain⟨h3,h4,h5,h6,_⟩:=h;simp only[rm,pF,Dt,ju,eC,e7,e2,e3];simp only[mO,h3,h4,h5,h6];rcases hm with rfl|rfl<;>rfl
theorem aUK{x3 x4 x5 x6:Obj}{m:Nat}(hm:m=8\/m=9)(h:([x3,x4,x5,x6].all λx=>x.cells.all (l5 m))=true):((rm np vs.length x3 x4 x5 x6).all (mO m))=true:=by have:=RQ (xp:=[]) (np:=np) (vs:=vs) (fs:=[]) hm h rfl;rw[List.all_append,de]at this;refine bB.2 λx hx=>?_;have:=bB.1 this.1 x hx;rw[de]at this;exact this.2
theorem aUL(mn:xp.all flat=true):(([]++pF xp vs fs).all λp=>Nat.blt p.1 7&&mO 7 p)=true:=by have e2:=yk (m:=7) (k:=0) (x:=.view xp) λv hv=>bB.1 mn v hv;have e3:=yk (m:=7) (k:=1) (x:=.view (aN vs)) λv hv=>bB.1 (dC vs) v hv;simp only[pF,ju,eC,e7,e2,e3];rfl
structure CS(σ:Type) where
 f:σ->V3 K->V3 K->V3 K->σ
 Inv:Nat->σ->Prop
 q:Nat
 X:Nat
 x5:σ->Obj
 x3:Obj
 x4:Obj
 x6:Obj
 N:Nat
 Yb:Array Tmp
 gU:Code
 fA:Code
 fr:aT
structure CS.Holds(B:CS σ)(np:Nat)(vs:e_)(xp:ak)(fs:f_):Prop where
 inv:∀{n s p q r},B.Inv n s->aF B.q p->aF B.q q->aF B.q r->B.Inv (n+B.X) (B.f s p q r)
 mono:∀{m n s},m<=n->B.Inv m s->B.Inv n s
 round:∀{n s p q r},B.Inv n s->n+B.X<aE->aF B.q p->aF B.q q->aF B.q r->
  IE prog 8 B.N B.Yb B.gU B.fA B.fr (rm np vs.length B.x3 B.x4 (B.x5 s) B.x6) (pF xp vs fs) (rm np vs.length B.x3 B.x4 (B.x5 (B.f s p q r)) B.x6) [aG4 p q r] none
 low:∀ s,∀ x∈rm np vs.length B.x3 B.x4 (B.x5 s) B.x6++pF xp vs fs,fE 9 x.2
variable{fs:f_}{m:Map}{S:Nat->Prop}{T:p_}{W1 W:h_}{l D:Nat}{cT:FuncId}{B:CS σ}{s0:σ}
noncomputable def lX(B:CS σ)(l:Nat)(cT:FuncId)(T:p_)(D:Nat):Obj:=.fact (fJ l (j7 cT T B.Yb B.gU B.fA D))
def RR(n t:Nat)(l:Nat):aT:=[(6,vI t),(5,sl 12 n),(0,.func (.yield l) #[] #[])]
noncomputable def EM(B:CS σ)(np:Nat)(vs:e_)(xp:ak)(fs:f_)(s:σ):aM:=rm np vs.length B.x3 B.x4 (B.x5 s) B.x6++pF xp vs fs
noncomputable def A5(B:CS σ)(np:Nat)(vs:e_)(xp:ak)(fs:f_)(dV:e_)(s:σ)(r:Obj):aM:=(12,.row (aN dV) 38 30)::(8,r)::EM B np vs xp fs s
theorem aUM{n t:Nat}{s:σ}{dV:e_}(hB:B.Holds np vs xp fs)(fT:Ab prog 8 B.N B.fr (rm np vs.length B.x3 B.x4 (B.x5 s0) B.x6) m S T)(hp:∀ p∈dV,aF B.q p)(hs:B.Inv n s)(ht:t+2<dV.length)(cQ:n+B.X<aE)(h63:dV.length<1000000):
  ah prog (kW W1 l S m) 40 (aI (ag f92 2)) (RR dV.length (t+2) l) (A5 B np vs xp fs dV s (lX B l cT T D)) 13
   ⟨.normal,RR dV.length (t+1+2) l,A5 B np vs xp fs dV (B.f s ((dV[0]?).getD 0) ((dV[t+1]?).getD 0) ((dV[t+2]?).getD 0)) (lX B l cT T D),13⟩:=by
 have h0:=aW (l:=dV) (i:=0) o_;have h1:=aW (l:=dV) (i:=t+1) o_;have h2:=aW (l:=dV) (i:=t+2) ht;have s0':=hp _ (df (l:=dV) (n:=0) o_);have s1:=hp _ (df (l:=dV) (n:=t+1) o_);have s2:=hp _ (df (l:=dV) (n:=t+2) ht);rw[h0,h1,h2];show ah _ _ _ _ _ _ _ ⟨_,_,A5 B np vs xp fs dV (B.f s dV[0] dV[t+1] dV[t+2]) _,_⟩;generalize dV[0]=a at *;generalize dV[t+1]=x at *;generalize dV[t+2]=y at *;have hk:∀ k,ai (rm np vs.length B.x3 B.x4 (B.x5 s) B.x6) k=none↔ai (rm np vs.length B.x3 B.x4 (B.x5 s0) B.x6) k=none:=wC rfl;have st:=K7 (W1:=W1) (l:=l) (D:=D) (cT:=cT) (x:=.tmp 23) (o:=au f92 37) (hB.round hs cQ s0' s1 s2) k_ fT.size fT.jh fT.low (aUG fT.set hk) (aUH fT.born hk);have w1:IntKind.i64.wrap (((t+2:Nat):Int)-1)=((t+1:Nat):Int):=by rw[eh];omega
 unfold A5 EM lX;generalize B.x5 s=o5 at *;generalize B.x5 (B.f s a x y)=o5' at *;generalize B.x3=o3 at *;generalize B.x4=o4 at *;generalize B.x6=o6 at *;exact aD [.lt 20 (t+2) dV.length true (aJ ht),.c8 f92 25 12 dV.length 0 30 o_ k_,.ld f92 26 38 12 (0*30) (.row (aN dV) 38 30) (bE a) rfl (ke h0) k_,.wr 29 .i64 (((t+2:Nat):Int)-1) ((t+1:Nat):Int) w1,.c8 f92 30 12 dV.length (t+1) 30 o_ k_,.ld f92 31 38 12 ((t+1)*30) (.row (aN dV) 38 30) (bE x) rfl (ke h1) k_,.c8 f92 34 12 dV.length (t+2) 30 ht k_,.ld f92 35 38 12 ((t+2)*30) (.row (aN dV) 38 30) (bE y) rfl (ke h2) k_,.step 37 _ _ _ _ _ st,.sum 22 (t+2) 1 (t+1+2) o_ o_]
theorem Yc{n:Nat}{s:σ}{dV:e_}(hB:B.Holds np vs xp fs)(hp:∀ p∈dV,aF B.q p)(hs:B.Inv n s):∀ t,t+2<=dV.length->B.Inv (n+t*B.X) (kZ B.f s dV t)
 |0,_=>by rw[kQ,jg];exact hs
 |t+1,h=>by have ih:=Yc hB hp hs t o_;unfold kZ;rw[aW (l:=dV) (i:=0) o_,aW (l:=dV) (i:=t+1) o_,aW (l:=dV) (i:=t+2) o_];exact hB.mono (by rw[rI t];omega) (hB.inv ih (hp _ (df _)) (hp _ (df _)) (hp _ (df _)))
theorem aUN{n:Nat}{s:σ}{dV:e_}(hB:B.Holds np vs xp fs)(fT:Ab prog 8 B.N B.fr (rm np vs.length B.x3 B.x4 (B.x5 s0) B.x6) m S T)(hp:∀ p∈dV,aF B.q p)(hs:B.Inv n s)(h2:2<=dV.length)(cQ:n+(dV.length+1)*B.X<aE)(h63:dV.length<1000000):
  ah prog (kW W1 l S m) 40 (.block 2 (ag f92 2)) (RR dV.length 2 l) (A5 B np vs xp fs dV s (lX B l cT T D)) 13
   ⟨.normal,[],A5 B np vs xp fs dV (kZ B.f s dV (dV.length-2)) (lX B l cT T D),13⟩:=by
 obtain⟨c,hc⟩:∃ c,dV.length=c+2:=⟨dV.length-2,by omega⟩;have e:dV.length-2=c:=by omega
 rw[e];refine cd (id:=2) (cx (r:=⟨.exit 2,[],A5 B np vs xp fs dV (kZ B.f s dV c) (lX B l cT T D),13⟩) c (λt=>RR dV.length (t+2) l) (λt=>A5 B np vs xp fs dV (kZ B.f s dV t) (lX B l cT T D)) (λi k _=>wC (by rfl) k) (λt ht=>?_) ?_ n_)
 ·have hle:n+t*B.X+B.X<aE:=by have h1:(t+1)*B.X<=(dV.length+1)*B.X:=eE _ o_;rw[rI t]at h1;generalize t*B.X=z at *;omega
  exact aUM hB fT hp (Yc hB hp hs t o_) o_ hle h63
 ·rw[hc];unfold A5 EM lX;generalize B.x5 (kZ B.f s dV c)=z at *;generalize B.x3=o3 at *;generalize B.x4=o4 at *;generalize B.x6=o6 at *;exact aD [.lt 20 (c+2) (c+2) false s_]
def Hd(n i:Nat)(l:Nat):aT:=[(10,vI i),(8,cK 2),(9,vI n),(0,.func (.yield l) #[] #[]),(1,bN 7)]
noncomputable def qi(B:CS σ)(np:Nat)(vs:e_)(xp:ak)(fs:f_)(s:σ)(r:Obj):aM:=(8,r)::EM B np vs xp fs s
theorem aUO{s:σ}(hB:B.Holds np vs xp fs):∀ x∈qi B np vs xp fs s (lX B l cT T D),fE 9 x.2:=λx hx=>by
 rcases cD.1 hx with rfl|hx
 ·exact n_
 ·exact hB.low s x hx
theorem aUP{n:Nat}{s:σ}{k:Int}{L:l_}(hB:B.Holds np vs xp fs)(fT:Ab prog 8 B.N B.fr (rm np vs.length B.x3 B.x4 (B.x5 s0) B.x6) m S T)(hi:i<fs.length)(hf:fs[i]?=some (k,dX L))(hL:∀ x∈L,x<vs.length)(hp:∀ p∈vs,aF B.q p)(hs:B.Inv n s)(h2:2<=L.length)(cQ:n+(L.length+1)*B.X<aE)
  (mn:xp.all flat=true) (Et:np=0->xp=[]) (h63:L.length<1000000) (rl:fs.length<1000000) :
  ah prog (kW W1 l S m) 40 (aI (ag f92 0)) (Hd fs.length i l) (qi B np vs xp fs s (lX B l cT T D)) 9
   ⟨.normal,Hd fs.length (i+1) l,qi B np vs xp fs (kZ B.f s (dy vs L) (L.length-2)) (lX B l cT T D),9⟩:=by
 have hlen:(dy vs L).length=L.length:=dQ ..;have iD:(dX L).length=L.length:=dQ ..;have GJ:∀ p∈dy vs L,aF B.q p:=λp fG=>by obtain⟨x,hx,rfl⟩:=db.1 fG;exact hp _ (cL (jU (hL x hx)))
 have lo:=aUN (W1:=W1) (l:=l) (cT:=cT) (D:=D) (fs:=fs) (vs:=vs) (np:=np) (xp:=xp) hB fT GJ hs o_ (by rw[hlen];exact cQ) o_;have Ak:=aUE (np:=np) (F:=jd fs) (i:=k) (u:=iV k) rfl hL h63 mn rfl;rw[hlen]at lo;rw[iD]at Ak;have dG:=λz=>aUO (l:=l) (cT:=cT) (T:=T) (D:=D) (s:=z) hB;have cR:=dC (dy vs L);generalize kZ B.f s (dy vs L) (L.length-2)=z at *;have dG:=dG z;generalize dy vs L=a at *;unfold A5 at lo;unfold qi EM lX at *;generalize B.x5 s=o5 at *;generalize B.x5 z=o5' at *;generalize B.x3=o3 at *;generalize B.x4=o4 at *;generalize B.x6=o6 at *;exact ua mixed 100 (gN:=13) [.lt 11 i fs.length true (aJ hi),.step 12 (au f92 12) [cK 2,vI i] [(9,none),(9+1,none),(2,some (.fact (jd fs)))] (bN 9) [(9,.view [iV k,cK 10]),(9+1,.fact (eA (dX L)))] (GX k_ (tP.full fs) hf d_),.step 16 (au f92 16) [.func (.func 93) #[] #[],.agg #[sl 0 np,sl 1 vs.length,cK 2],.agg #[iV k,cK 10]] [(12,none),(0,some (.view xp)),(1,some (.view (aN vs))),(2,some (.fact (jd fs))),(10,some (.fact (eA (dX L))))] (sl 12 L.length) [(12,.row (aN a) 38 30)]
   (rS Ak (.s (x1:=.view xp) (x2:=.view (aN vs)) rfl mn Et rfl (dC vs) rU (.c rfl (λ_ _ h=>h) .nil)) (x:=.func 93) k_ k_ cR 12),
  .code 2 _ _ _ _ _ lo,.sum 39 i 1 (i+1) rfl o_] k_ rfl k_ dG k_
end
section
variable{σ:Type}{vs:e_}{xp:ak}{np:Nat}{m:Map}{S:Nat->Prop}{T:p_}{W1 W:h_}{l D:Nat}{cT:FuncId}{Fs:List (Nat×List Nat)}{q X M n0:Nat}{B:CS σ}{s0:σ}
structure EN(vs:e_)(Fs:List (Nat×List Nat))(q X M n0:Nat):Prop where
 len:∀ f∈Fs,2<=f.2.length/\f.2.length<=M
 idx:∀ f∈Fs,∀ x∈f.2,x<vs.length
 sz:∀ p∈vs,aF q p
 gN:n0+(Fs.length+2)*((M+1)*X)<aE
 few:Fs.length<1000000
 many:M<1000000
theorem EN.y(h:EN vs Fs q X M n0){i:Nat}(hi:i<Fs.length){n:Nat}(hn:n<=M):n0+i*((M+1)*X)+(n+1)*X<aE:=by have:=h.gN;have h1:(i+1)*((M+1)*X)<=(Fs.length+2)*((M+1)*X):=eE _ o_;rw[rI i]at h1;have h2:(n+1)*X<=(M+1)*X:=eE _ o_;generalize (M+1)*X=z at *;generalize (n+1)*X=y at *;generalize i*z=a at *;omega
theorem Yd(f:σ->V3 K->V3 K->V3 K->σ)(s:σ)(vs:e_)(Fs:List (Nat×List Nat))(i:Nat)(g:Nat×List Nat)(hf:Fs[i]?=some g):w9 f s vs (Fs.map (·.2)) (i+1)=kZ f (w9 f s vs (Fs.map (·.2)) i) (dy vs g.2) (g.2.length-2):=by show kZ f _ (dy vs (((Fs.map (·.2))[i]?).getD [])) ((((Fs.map (·.2))[i]?).getD []).length-2)=_;rw[sH,hf];rfl
theorem Ye(h:EN vs Fs B.q B.X M n0)(hB:B.Holds np vs xp (Fs.map eO))(h0:B.Inv n0 s0):∀ i,i<=Fs.length->B.Inv (n0+i*((M+1)*B.X)) (w9 B.f s0 vs (Fs.map (·.2)) i)
 |0,_=>hB.mono o_ h0
 |i+1,hi=>by
  have ih:=Ye h hB h0 i o_;have hf:Fs[i]?=some Fs[i]:=aW o_;have hm:=df (l:=Fs) (n:=i) o_;generalize Fs[i]=g at *;rw[Yd _ _ _ _ _ _ hf];have hlen:(dy vs g.2).length=g.2.length:=dQ ..;have hl:=h.len _ hm;refine hB.mono ?_ (Yc hB (λp hp=>?_) ih (g.2.length-2) o_)
  ·rw[rI i];have h2:(g.2.length-2)*B.X<=(M+1)*B.X:=eE _ o_;generalize (M+1)*B.X=z at *;generalize (g.2.length-2)*B.X=y at *;generalize i*z=a at *;omega
  ·obtain⟨x,hx,rfl⟩:=db.1 hp;exact h.sz _ (cL (jU (h.idx _ hm x hx)))
theorem aUQ{z:Nat->σ}(h:EN vs Fs B.q B.X M n0)(hB:B.Holds np vs xp (Fs.map eO))(hz:∀(i:Nat) (f:Nat×List Nat),Fs[i]?=some f->z (i+1)=kZ B.f (z i) (dy vs f.2) (f.2.length-2))(bH:∀ i,i<=Fs.length->B.Inv (n0+i*((M+1)*B.X)) (z i))
  (fT:Ab prog 8 B.N B.fr (rm np vs.length B.x3 B.x4 (B.x5 s0) B.x6) m S T) (mn:xp.all flat=true) (Et:np=0->xp=[]) :
  ah prog (kW W1 l S m) 40 (.block 0 (ag f92 0)) (Hd (Fs.map eO).length 0 l) (qi B np vs xp (Fs.map eO) (z 0) (lX B l cT T D)) 9
   ⟨.normal,[],qi B np vs xp (Fs.map eO) (z (Fs.map eO).length) (lX B l cT T D),9⟩:=by
 have hlen:(Fs.map eO).length=Fs.length:=dQ ..;have hk:∀(i k:Nat),ai (qi B np vs xp (Fs.map eO) (z i) (lX B l cT T D)) k=none↔ai (qi B np vs xp (Fs.map eO) (z 0) (lX B l cT T D)) k=none:=λi k=>wC (by unfold qi EM rm;rfl) k;have pO:∀ y:σ,ah prog (kW W1 l S m) 40 (aI (ag f92 0)) (Hd (Fs.map eO).length (Fs.map eO).length l) (qi B np vs xp (Fs.map eO) y (lX B l cT T D)) 9 ⟨.exit 0,[],qi B np vs xp (Fs.map eO) y (lX B l cT T D),9⟩:=λy=>by unfold qi EM lX;generalize B.x5 y=o5 at *;generalize B.x3=o3 at *;generalize B.x4=o4 at *;generalize B.x6=o6 at *;exact aD [.lt 11 (Fs.map eO).length (Fs.map eO).length false s_]
 have aUR:∀ i,i<(Fs.map eO).length->ah prog (kW W1 l S m) 40 (aI (ag f92 0)) (Hd (Fs.map eO).length i l) (qi B np vs xp (Fs.map eO) (z i) (lX B l cT T D)) 9 ⟨.normal,Hd (Fs.map eO).length (i+1) l,qi B np vs xp (Fs.map eO) (z (i+1)) (lX B l cT T D),9⟩:=λi hi=>by
  have iF:i<Fs.length:=by omega
  have hf:Fs[i]?=some Fs[i]:=aW iF;have hm:=df (l:=Fs) (n:=i) iF;generalize Fs[i]=f at *;have hl:=h.len _ hm;rw[hz i f hf];exact aUP (W1:=W1) (l:=l) (cT:=cT) (D:=D) (xp:=xp) (np:=np) (fs:=Fs.map eO) (i:=i) (s:=z i) (k:=(f.1:Int)) (L:=f.2) hB fT hi (by rw[sH,hf];rfl) (h.idx _ hm) h.sz (bH i o_) hl.1 (h.y iF hl.2) mn Et (by have:=h.many;omega) (by rw[hlen];exact h.few)
 exact cd (id:=0) (cx (P:=prog) (B:=kW W1 l S m) (N:=40) (Fs.map eO).length (λi=>Hd (Fs.map eO).length i l) (λi=>qi B np vs xp (Fs.map eO) (z i) (lX B l cT T D)) (λi k _=>hk i k) aUR (pO _) n_)
theorem aUS{z:Nat->σ}(h:EN vs Fs B.q B.X M n0)(hB:B.Holds np vs xp (Fs.map eO))(hz:∀(i:Nat) (f:Nat×List Nat),Fs[i]?=some f->z (i+1)=kZ B.f (z i) (dy vs f.2) (f.2.length-2))(bH:∀ i,i<=Fs.length->B.Inv (n0+i*((M+1)*B.X)) (z i))(uX:z 0=s0)
  (fT:Ab prog 8 B.N B.fr (rm np vs.length B.x3 B.x4 (B.x5 s0) B.x6) m S T) (mn:xp.all flat=true) (Et:np=0->xp=[])
  {κ:Map} {c:g_} {eg:ak} (hm:aO (kW W1 l S m) κ c W) (ha:cY c (qi B np vs xp (Fs.map eO) s0 (lX B l cT T D))) (hu:eK c (8+1)) (fB:bY (aL κ) [bN 7] eg) :
  Calls prog 92 (.func (.yield l) #[] #[]::eg).toArray W λe W'=>∃ v qM c',e=.returned v/\Map.le κ qM/\aO (kW W1 l S m) qM c' W'/\cY c' (qi B np vs xp (Fs.map eO) (z (Fs.map eO).length) (lX B l cT T D))/\∀ k,k<8->c k=none->c' k=none:=by
 have lo:=aUQ (W1:=W1) (l:=l) (cT:=cT) (D:=D) h hB hz bH fT mn Et;rw[uX]at lo;generalize z (Fs.map eO).length=y at *;generalize Fs.map eO=fs at *;unfold qi EM lX at *;generalize B.x5 s0=o5 at *;generalize B.x5 y=o5' at *;generalize B.x3=o3 at *;generalize B.x4=o4 at *;generalize B.x6=o6 at *;exact D0 (N:=40) (ca:=[bN 7]) mixed func92 k_ 100 (v:=.tuple #[]) (rs:=[.step 9 (au f92 9) [cK 2] [(2,some (.fact (jd fs)))] (vI fs.length) [] (vN k_ (tP.full fs)),.code 0 _ _ _ _ _ lo]) hm ha hu fB k_
end
theorem Yf{p q:Int}{n:Nat}(hq:q≠0)(h1:p.natAbs<2^n)(h2:q.natAbs<2^n)(hn:n<=63):aG prog 45 [.int .i64 p,.int .i64 q] (bX (iB p q)):=by have rt:=UI hq h1 h2 hn;rw[<-P9 hq]at rt;generalize iB p q=k at *;exact bC func45 (λ_=>[rt.at 10])
section
variable{vs:e_}{fs:f_}{xp:ak}{np:Nat}{s:K}{p q r:V3 K}
def CT(s:K)(p q r:V3 K):K:=s+bA p q r
noncomputable def He(Q np nv:Nat):CS K where
 f:=CT
 Inv n s:=Sz n s
 q:=Q
 X:=18*Q+50
 x5 s:=.aK (du s).cs 33
 x3:=.aK [sl 0 np,sl 1 nv,cK 2] 26
 x4:=.aK tJ.cs 33
 x6:=.aK [.func (.func 89) #[] #[bN 5]] 101
 N:=23
 Yb:=#[10]
 gU:=DY (rR f36)
 fA:=DZ (rR f36)
 fr:=[(2,bN 4),(3,bN 5),(4,bN 6),(9,.func (.func 92) #[] #[bN 7])]
def A6(np nv:Nat)(s:K):aM:=rm np nv (.aK [sl 0 np,sl 1 nv,cK 2] 26) (.aK tJ.cs 33) (.aK (du s).cs 33) (.aK [.func (.func 89) #[] #[bN 5]] 101)
def MX:aT:=[(2,bN 4),(3,bN 5),(4,bN 6),(9,.func (.func 92) #[] #[bN 7])]
theorem RS{m:Nat}(hm:m=8\/m=9):([Obj.aK [sl 0 np,sl 1 nv,cK 2] 26,.aK tJ.cs 33,.aK (du s).cs 33,.aK [.func (.func 89) #[] #[bN 5]] 101].all λx=>x.cells.all (l5 m))=true:=by rcases hm with rfl|rfl<;>kernel_rfl
theorem aUT{m n:Nat}(hp:aF m p)(hq:aF m q)(hr:aF m r)(hs:Sz n s)(cQ:n+(18*m+50)<aE)(mn:xp.all flat=true):
  IE prog 8 23 #[10] (DY (rR f36)) (DZ (rR f36)) MX (A6 np vs.length s) (pF xp vs fs) (A6 np vs.length (s+bA p q r)) [aG4 p q r] none:=by
 have hd:Sz (15*m+41) (bA p q r):=(hp.dot (hq.af hr)).mono o_;have Vx:=QP hp hq hr o_;have aUU:=aUI hs hd o_;generalize bA p q r=x at *
 exact Ld (rA:=⟨.normal,(5,bN 9)::MX,(9,.aK ((cH p).cs++(cH q).cs++(cH r).cs) 69)::(A6 np vs.length s++pF xp vs fs),10⟩) (rB:=⟨.normal,[],A6 np vs.length (s+x),10⟩)
  k_ rfl k_ (RQ (.inr rfl) (RS (.inr rfl)) mn) (aUK (.inr rfl) (RS (.inr rfl))) k_ k_ k_ k_ (λB=>fF mixed 10 [] k_) rfl k_ rfl
  (λB=>fF mixed 10 [Vx.at 18,.step 19 _ _ _ _ _ (LC (K:=20) (args:=[bX x]) (ca:=[bN 5]) (x:=.tmp 11) (o:=au f36 19) aUU k_ k_ k_ k_ k_ k_ k_ k_ k_ k_)] k_) (λk y h=>h) rfl
theorem aG5{Q:Nat}(mn:xp.all flat=true):(He Q np vs.length).Holds np vs xp fs where
 inv {n s p q r} hs hp hq hr:=by have hs:Sz n s:=hs;have hp:aF Q p:=hp;have hq:aF Q q:=hq;have hr:aF Q r:=hr;have hd:Sz (15*Q+41) (bA p q r):=(hp.dot (hq.af hr)).mono o_;exact(hs.add hd).mono (by show _<=n+(18*Q+50);omega)
 mono {m n s} h hs:=by have hs:Sz m s:=hs;exact hs.mono h
 round hs h hp hq hr:=aUT hp hq hr hs h mn
 low s x hx:=by have:=bB.1 (RQ (fs:=fs) (np:=np) (vs:=vs) (.inr rfl) (RS (s:=s) (.inr rfl)) mn) x hx;rw[de]at this;exact Af this.2
end
section
variable{vs:e_}{xp:ak}{np:Nat}{Fs:List (Nat×List Nat)}{Q M:Nat}
def JK(np:Nat)(xp:ak)(vs:e_)(Fs:List (Nat×List Nat)):aP:=.s np xp vs.length (aN vs) (jd (Fs.map eO))
def JL(vs:e_)(Fs:List (Nat×List Nat)):K:=w9 CT 0 vs (Fs.map (·.2)) (Fs.map eO).length
noncomputable def MY(vs:e_)(Fs:List (Nat×List Nat)):K:=JL vs Fs*iB 1 6
theorem aUV{n:Nat}(h:EN vs Fs Q (18*Q+50) M 2)(mn:xp.all flat=true)(Et:np=0->xp=[])(hs:Sz n (JL vs Fs))(hn:n+40<aE):cy prog 36 [JK np xp vs Fs] (bX (MY vs Fs)):=by
 have aC:([JK np xp vs Fs].all aP.ok)=true:=by show((xp.all flat&&((aN vs).all flat&&true))&&true)=true;rw[mn,dC];rfl
 have hr:Sz 3 (iB 1 6):=D7 d_ d_ d_;have mr:=Yf (p:=1) (q:=6) (n:=3) d_ d_ d_ d_;have ml:=nE hs hr o_;have h0:aG prog 88 [.int .i64 0] (bX 0):=rO (z:=0) d_;have body:∀ w ι cc a,fQ (aa.at w) ι (bK (jh 0 (e6 0 [JK np xp vs Fs]))) 23 a->aO (aa.at w) ι cc w->cY cc (jB 0 [JK np xp vs Fs])->eK cc (jQ 0 [JK np xp vs Fs])->
   ((f36).body.getD .skip).wpIn (FW none) 0 prog (bodyPostM (FW none) 0 prog f36 λe w'=>e=.returned (bX (MY vs Fs))/\Below w.heap.size w w') a w:=by
  intro w ι cc a hf hm ha hu;have hB:=aG5 (Q:=Q) (np:=np) (vs:=vs) (fs:=Fs.map eO) mn;have hz:∀(i:Nat) (f:Nat×List Nat),Fs[i]?=some f->w9 CT 0 vs (Fs.map (·.2)) (i+1)=kZ (He Q np vs.length).f (w9 CT 0 vs (Fs.map (·.2)) i) (dy vs f.2) (f.2.length-2):=Yd CT 0 vs Fs;have hinv:∀ i,i<=Fs.length->(He Q np vs.length).Inv (2+i*((M+1)*(He Q np vs.length).X)) (w9 CT 0 vs (Fs.map (·.2)) i):=Ye (B:=He Q np vs.length) (s0:=(0:K)) h hB (pr (z:=0) (n:=2) d_ d_);have vh:=λ(cT l D:Nat) (W1:h_) (S:Nat->Prop) (m:Map) (T:p_) (fT:Ab prog 8 23 MX (A6 np vs.length 0) m S T) (κ:Map) (c:g_) (W:h_) (eg:ak)=>
   aUS (B:=He Q np vs.length) (s0:=(0:K)) (W:=W) (W1:=W1) (l:=l) (D:=D) (cT:=cT) (xp:=xp) (np:=np) (S:=S) (m:=m) (T:=T) (κ:=κ) (c:=c) (eg:=eg) (z:=w9 CT 0 vs (Fs.map (·.2))) h hB hz hinv rfl fT mn Et
  unfold MY;unfold JL at *;unfold JK at *;generalize w9 CT 0 vs (Fs.map (·.2)) (Fs.map eO).length=z at *;generalize Fs.map eO=fs at *;have g0:ah prog (aa.at w) 23 (Ae f36 0) (jh 0 (e6 0 [.s np xp vs.length (aN vs) (jd fs)])) (jB 0 [.s np xp vs.length (aN vs) (jd fs)]) 3 ⟨.normal,[(1,bN 3),(2,bN 4)],(3,.aK [sl 0 np,sl 1 vs.length,cK 2] 26)::(4,.aK tJ.cs 33)::pF xp vs fs,5⟩:=aD [];have g1:ah prog (aa.at w) 23 (Ae f36 1) [(1,bN 3),(2,bN 4)] ((3,.aK [sl 0 np,sl 1 vs.length,cK 2] 26)::(4,.aK tJ.cs 33)::pF xp vs fs) 5 ⟨.normal,[(1,bN 3),(2,bN 4),(3,bN 5)],(5,.aK (du 0).cs 33)::(3,.aK [sl 0 np,sl 1 vs.length,cK 2] 26)::(4,.aK tJ.cs 33)::pF xp vs fs,6⟩:=aD [h0.at 6];have g2:ah prog (aa.at w) 23 (Ae f36 2) [(1,bN 3),(2,bN 4),(3,bN 5)] ((5,.aK (du 0).cs 33)::(3,.aK [sl 0 np,sl 1 vs.length,cK 2] 26)::(4,.aK tJ.cs 33)::pF xp vs fs) 6 ⟨.normal,[(1,bN 3),(2,bN 4),(3,bN 5),(4,bN 6)],(5,.aK (du 0).cs 33)::(6,.aK [.func (.func 89) #[] #[bN 5]] 101)::(3,.aK [sl 0 np,sl 1 vs.length,cK 2] 26)::(4,.aK tJ.cs 33)::pF xp vs fs,7⟩:=aD [];have g3:ah prog (aa.at w) 23 (Ae f36 3) [(1,bN 3),(2,bN 4),(3,bN 5),(4,bN 6)] ((5,.aK (du 0).cs 33)::(6,.aK [.func (.func 89) #[] #[bN 5]] 101)::(3,.aK [sl 0 np,sl 1 vs.length,cK 2] 26)::(4,.aK tJ.cs 33)::pF xp vs fs) 7 ⟨.normal,MX,A6 np vs.length 0++pF xp vs fs,8⟩:=aD [
   .step 9 _ _ _ _ _ (aNQ (K:=7) (args:=[.agg #[sl 0 np,sl 1 vs.length,cK 2]]) (ca:=[]) (ns:=[7]) (Os:=[]) (Vs:=pF xp vs fs) (x:=.func 40) (o:=au f36 9) aUJ k_ k_ k_ k_ (aUL mn) (λp hp v hv=>by simp at hp;subst hp;have hv:v∈[sl 0 np,sl 1 vs.length,cK 2]:=hv;simp at hv;rcases hv with rfl|rfl|rfl<;>rfl) k_ (λp hp=>by simp at hp;subst hp;exact .inl rfl) k_ (aUA rfl))]
  have ge:∀ B,ah prog B 23 (.seq (Ae f36 6) .ret) MX (A6 np vs.length z++pF xp vs fs) 8 ⟨.ret,[(2,bN 4)],[(4,.aK (du (z*iB 1 6)).cs 33)],8⟩:=λB=>aD [mr.at 21,ml.at 22];refine mG (g0 none _ _ a w _ hf hm ha hu λui cc0 a0 w0 aBV Br kD nT zO x7 _=>?_);refine mG (g1 none _ _ a0 w0 _ Br kD nT zO λbZ gF a1 w1 jv iG c7 eL dS iq _=>?_);refine mG (g2 none _ _ a1 w1 _ iG c7 eL dS λdO rG a2 w2 lf je dI gR e8 fO _=>?_);refine mG (mG (g3 none _ _ a2 w2 _ je dI gR e8 λPq cc3 a3 w3 aWs VI vR Cd U0 U1 _=>J7 ?_));have l8:=RQ (fs:=fs) (np:=np) (vs:=vs) (.inl rfl) (RS (np:=np) (nv:=vs.length) (s:=z) (.inl rfl)) mn;refine U3 (next:=8) (Os:=A6 np vs.length 0) (Vs:=pF xp vs fs) (cz:=A6 np vs.length z) (gf:=92) (ca:=[bN 7]) (j:=none) VI vR Cd U0 (λk x h=>lN (p:=λp=>p.2.owns) k_ h) (λk x h=>lN (p:=λp=>p.2.soft) k_ h) k_ k_ k_ (wC (by unfold A6 rm;rfl)) (λk x h=>lN (p:=λp=>p.2.owns) k_ h) (λk x h=>by
    have:=lN (p:=λp=>Nat.blt p.1 8&&mO 8 p) l8 h;rw[de]at this;exact Af this.2)
   (λcT l D W1 S fT κ c W eg hm ha hu fB=>vh cT l D W1 S _ _ fT κ c W eg hm ha hu fB) λD ct w' DW hDw hf4 U2 ha4 hu4=>?_
  exact aBQ (B:=aa.at w) (v:=bX (z*iB 1 6)) ge rfl k_ hf4 U2 ha4 hu4 rfl (λF h=>h) DW λaA v' w' hc hG=>⟨by rw[hc.fD rfl],hG⟩
 exact aUF (N:=23) (c:=(f36).body.getD .skip) func36 k_ k_ aC body
end
end
variable{q:Nat}
section
open CR OF
open V3 (dot af bA smul)
section
variable{vs:e_}{ps:c_}{σ:Type}{f:σ->V3 K->V3 K->V3 K->σ}{L:σ->K}{φ:V3 K->V3 K->V3 K->K}
theorem aG6(s:σ)(a x:V3 K)(m:e_):∀ t,kZ f s (a::x::m) (t+1)=kZ f (f s a x ((m[0]?).getD 0)) (a::m) t
 |0=>rfl
 |t+1=>by have ih:=aG6 s a x m t;show f (kZ f s (a::x::m) (t+1)) _ _ _=f (kZ f (f s a x ((m[0]?).getD 0)) (a::m) t) _ _ _;rw[ih];rfl
theorem aG7(h:∀ s p q r,L (f s p q r)=L s+φ p q r)(a:Nat):∀(s:σ) (m:l_),L (kZ f s (dy vs (a::m)) (m.length-1))=L s+A4 (λx y=>φ (aw vs a) (aw vs x) (aw vs y)) m
 |_,[]=>(CR.add_zero _).symm
 |_,[_]=>(CR.add_zero _).symm
 |s,x::y::t=>by have ih:=aG7 h a (f s (aw vs a) (aw vs x) (aw vs y)) (y::t);show L (kZ f s (aw vs a::aw vs x::dy vs (y::t)) (t.length+1))=L s+(φ (aw vs a) (aw vs x) (aw vs y)+A4 _ (y::t));rw[aG6,<-CR.add_assoc,<-h,<-ih];rfl
theorem aG8(h:∀ s p q r,L (f s p q r)=L s+φ p q r)(s:σ){l:l_}(hl:2<=l.length):L (kZ f s (dy vs l) (l.length-2))=L s+MV (λa x y=>φ (aw vs a) (aw vs x) (aw vs y)) l:=by
 match l,hl with
 |a::x::m,_=>exact aG7 h a s (x::m)
 |[],h=>exact absurd h s_
 |[_],h=>exact absurd h s_
theorem aG9(h:∀ s p q r,L (f s p q r)=L s+φ p q r)(s:σ)(Fs:List (Nat×List Nat))(hl:∀ f∈Fs,2<=f.2.length):∀ i,i<=Fs.length->L (w9 f s vs (Fs.map (·.2)) i)=L s+ou ((Fs.take i).map λg=>MV (λa x y=>φ (aw vs a) (aw vs x) (aw vs y)) g.2)
 |0,_=>(CR.add_zero _).symm
 |i+1,hi=>by have hf:Fs[i]?=some Fs[i]:=aW o_;have hm:=df (l:=Fs) (n:=i) o_;generalize Fs[i]=g at *;rw[Yd _ _ vs Fs i g hf,aG8 h _ (hl _ hm),aG9 h s Fs hl i o_,tA,hf,sF,RK,CR.add_assoc];show _=_+(_+(_+0));rw[CR.add_zero]
theorem aUW(h:∀ s p q r,L (f s p q r)=L s+φ p q r)(s:σ)(hl:∀ f∈cN ps vs ps.length,2<=f.2.length):L (w9 f s vs ((cN ps vs ps.length).map (·.2)) ((cN ps vs ps.length).map eO).length)=L s+MW ps vs λa x y=>φ (aw vs a) (aw vs x) (aw vs y):=by rw[aG9 h s _ hl _ (by rw[dQ];exact bF _),dQ,n9];rfl
theorem aUX(h:∀ f∈cN ps vs ps.length,2<=f.2.length):JL vs (cN ps vs ps.length)=aG2 ps vs:=by have:=aUW (L:=λs:K=>s) (f:=CT) (φ:=bA) (vs:=vs) (λ_ _ _ _=>rfl) 0 h;rw[CR.zero_add]at this;exact this
theorem JM(hp:gB ps)(hv:jI ps vs){f:Nat×List Nat}(h:f∈cN ps vs ps.length):3<=f.2.length/\f.2.length<=vs.length/\∀ x∈f.2,x<vs.length:=by obtain⟨r,_,_,h3,a,m,e1,fv,hm,_⟩:=JJ hp hv h;have h1:=Jx (Ha r vs) (J:=a::m) λx hx=>(hm x).2 hx;have h2:=Jx fv (J:=List.range vs.length) λx hx=>ki.2 (kz.1 ((hm x).1 hx)).1;rw[zx]at h2;rw[e1];exact⟨by omega,h2,λx hx=>(kz.1 ((hm x).1 hx)).1⟩
theorem aUY(hp:gB ps)(hv:jI ps vs)(h9:ps.length<=20)(hq:∀ p∈vs,aF q p)(hn:vs.length<=1000)(hb:q<=100000):EN vs (cN ps vs ps.length) q (18*q+50) 1000 2:=by
 have hl:(cN ps vs ps.length).length<=20:=dh (EC ps vs _) h9;refine⟨λf hf=>?_,λf hf=>(JM hp hv hf).2.2,hq,?_,by omega,by decide⟩
 ·have:=JM hp hv hf;omega
 ·have h1:((cN ps vs ps.length).length+2)*((1000+1)*(18*q+50))<=22*(1001*1800050):=xB o_ (xB o_ o_);exact eZ (S6 h1 2) d_
end
end
section
open V3 (dot af bA smul)
def rp(ps:c_):aP:=.s ps.length (bf ps) (aZ ps).length (aN (aZ ps)) (jd (ee ps))
noncomputable def EO(ps:c_):K:=aG2 ps (aZ ps)*iB 1 6
structure gY(ps:c_):Prop where
 len:ps.length<=9
 sz:∀ p∈ps,bP 24 p/\p.n≠0
 cl:Cl ps
 full:nG ps
section
variable{ps:c_}
theorem gY.proper(h:gY ps):gB ps:=λq hq=>(h.sz q hq).2
theorem gY.aUZ(h:gY ps):yI ps 24:=⟨by have:=h.len;omega,λq hq=>(h.sz q hq).1,h.proper,by decide⟩
theorem gY.Hf(h:gY ps):jI ps (aZ ps):=aGp h.cl h.proper h.full
theorem gY.MZ(h:gY ps):(∀ v∈aZ ps,aF 4000 v)/\(aZ ps).length<=81*9:=by rw[EI h.cl h.proper h.full];exact sC.sz (m:=24) (M:=4000) ⟨h.len,h.sz,by decide,by decide⟩
theorem gY.loops(h:gY ps):EN (aZ ps) (cN ps (aZ ps) ps.length) 4000 (18*4000+50) 1000 2:=
 aUY h.proper h.Hf (by have:=h.len;omega) h.MZ.1 (by have:=h.MZ.2;omega) d_
theorem gY.Yg(h:gY ps):∀ f∈cN ps (aZ ps) ps.length,2<=f.2.length:=λf hf=>by have:=JM h.proper h.Hf hf;omega
theorem gY.aHa(h:gY ps):MY (aZ ps) (cN ps (aZ ps) ps.length)=EO ps:=by unfold MY;rw[aUX h.Yg];rfl
theorem gY.many(h:gY ps):2+((cN ps (aZ ps) ps.length).map eO).length*((1000+1)*(18*4000+50))<=700000000:=by rw[dQ];have hl:(cN ps (aZ ps) ps.length).length<=9:=dh (EC ps _ _) h.len;have h2:(cN ps (aZ ps) ps.length).length*((1000+1)*(18*4000+50))<=9*(1001*72050):=xB hl (bF _);exact dh (S6 h2 2) d_
theorem gY.aHb(h:gY ps):Sz 700000000 (JL (aZ ps) (cN ps (aZ ps) ps.length)):=by have h1:=Ye (B:=He 4000 ps.length (aZ ps).length) (s0:=(0:K)) (np:=ps.length) (xp:=bf ps) h.loops (aG5 (dx ps)) (pr (z:=0) (n:=2) d_ d_) ((cN ps (aZ ps) ps.length).map eO).length (by rw[dQ];exact bF _);have h1:Sz (2+((cN ps (aZ ps) ps.length).map eO).length*((1000+1)*(18*4000+50))) (JL (aZ ps) (cN ps (aZ ps) ps.length)):=h1;exact h1.mono h.many
theorem gY.aU0(h:gY ps):Sz 800000000 (EO ps):=by rw[<-h.aHa];exact(h.aHb.mul (D7 (p:=1) (q:=6) (n:=3) d_ d_ d_)).mono d_
theorem gY.aCj(h:gY ps):MK ps=true:=(aTE h.proper).2 ⟨h.cl,h.full⟩
theorem gY.valid(h:gY ps):cy prog 35 [rp ps] b_:=by have:=aTa h.aUZ h.aCj;unfold aGe XN at this;rw[dQ]at this;exact this
def wA(np nv:Nat):Value:=.agg #[sl 0 np,sl 1 nv,cK 2]
def yW(ps:c_):q_:=[(0,some (.view (bf ps))),(1,some (.view (aN (aZ ps)))),(2,some (.fact (jd (ee ps))))]
theorem A7(h:gA Bs l xs []):gA Bs (rp ps::l) (wA ps.length (aZ ps).length::xs) (yW ps):=
 .s (x1:=.view (bf ps)) (x2:=.view (aN (aZ ps))) rfl (dx ps) jG rfl (dC _) rU h
theorem RT(ps:c_):(rp ps).ok=true:=by show((bf ps).all flat&&((aN (aZ ps)).all flat&&true))=true;rw[dx,dC];rfl
theorem aHc(h:gY ps):cy prog 8 [rp ps] (.tuple #[bX (EO ps),fW 0]):=by
 have aC:([rp ps].all aP.ok)=true:=by simp only[eC,e7,RT,iA]
 have hv:=aUV (np:=ps.length) (xp:=bf ps) h.loops (dx ps) jG h.aHb d_;rw[h.aHa]at hv;have lK:=h.valid;generalize EO ps=x at *;exact dj func8 aC 10 (λw=>[.step 5 (au f8 5) [.func (.func 35) #[] #[],wA ps.length (aZ ps).length] (yW ps) b_ [] (dD lK (A7 .nil) (x:=.func 35) k_ k_ rfl),.step 9 (au f8 9) [.func (.func 36) #[] #[],wA ps.length (aZ ps).length] (yW ps) (bX x) [] (dD hv (A7 .nil) (x:=.func 36) k_ k_ k_)])
theorem aU1(h:gY ps)(h1:1<=d)(h2:d<=30000):cy prog 12 [rp ps,.p (vI d)] (.tuple #[bX (EO ps*iB d 1000),fW 0]):=by
 have aC:([rp ps,.p (vI d)].all aP.ok)=true:=by simp only[eC,e7,RT,kS,iA];rfl
 have hv:=aHc h;have bH:=h.aU0;have hr:Sz 16 (iB (d:Int) 1000):=D7 d_ (by rw[zY];omega) d_;have mr:=Yf (p:=(d:Int)) (q:=1000) (n:=16) d_ (by rw[zY];omega) d_ d_;have ml:=nE bH hr d_;generalize EO ps=x at *;generalize iB (d:Int) 1000=y at *;exact dj func12 aC 30 (λw=>[.step 10 (au f12 10) [.func (.func 8) #[] #[],wA ps.length (aZ ps).length] (yW ps) (.tuple #[bX x,fW 0]) [] (dD hv (A7 .nil) (x:=.func 8) k_ k_ k_),.lt 20 d 1 false (bd o_),.gt 23 d 30000 false (bd o_),mr.at 28,ml.at 29])
theorem aU2{n:Nat}(hx:Sz n x)(hn:n+30<=aE):aG prog 14 [bX x] (.tuple #[bX (x*iB 1 200),fW 0]):=by have hr:Sz 8 (iB 1 200):=D7 d_ d_ d_;have mr:=Yf (p:=1) (q:=200) (n:=8) d_ d_ d_ d_;have ml:=nE hx hr o_;generalize iB 1 200=y at *;exact bC func14 (λ_=>[(kV hx o_).at 5,mr.at 9,ml.at 10])
end
section
variable{vs:e_}{fs:f_}{xp:ak}{np:Nat}{s:V3 K}{p q r:V3 K}
end
section
variable{vs:e_}{xp:ak}{np:Nat}{Fs:List (Nat×List Nat)}{Q M:Nat}
end
end
section
open CR OF
open V3 (dot af bA smul)
section
variable{ps:c_}{m:V3 K}{d:K}
end
def A8(s p q r:V3 K):V3 K:=s+af (q-p) (r-p)
def Hg(l:e_):V3 K:=kZ A8 0 l (l.length-2)
section
variable{F:Type}[OF F]
end
section
variable{ps:c_}{vs:e_}
end
section
variable{F:Type}[OF F]
theorem aHd{φ:Nat->Nat->F}:∀{m:l_},(∀ x∈m,∀ y∈m,φ x y=0)->A4 φ m=0
 |[],_=>rfl
 |[_],_=>rfl
 |x::y::t,h=>by show φ x y+A4 φ (y::t)=0;rw[h x s_ y s_,aHd λu hu v hv=>h u (bI _ hu) v (bI _ hv),CR.add_zero]
theorem aU3(w a x y:V3 F):dot w (af (x-a) (y-a))=dot w (af a x)+dot w (af x y)+dot w (af y a):=
 V3.ring [w,a,x,y] [] (λV _=>dot (V 0) (af (V 2-V 1) (V 3-V 1))) (λV _=>dot (V 0) (af (V 1) (V 2))+dot (V 0) (af (V 2) (V 3))+dot (V 0) (af (V 3) (V 1))) d_
theorem aU4(w x y:V3 F):dot w (af y x)=-dot w (af x y):=V3.ring [w,x,y] [] (λV _=>dot (V 0) (af (V 2) (V 1))) (λV _=>-dot (V 0) (af (V 1) (V 2))) d_
theorem aU5(w a n:V3 F):dot w (af a n)=dot (af n w) a:=V3.ring [w,a,n] [] (λV _=>dot (V 0) (af (V 1) (V 2))) (λV _=>dot (af (V 2) (V 0)) (V 1)) d_
theorem aU6(n w u v:V3 F):dot (af n w) (af u v)=dot n u*dot w v+-(dot n v*dot w u):=V3.ring [n,w,u,v] [] (λV _=>dot (af (V 0) (V 1)) (af (V 2) (V 3))) (λV _=>dot (V 0) (V 2)*dot (V 1) (V 3)+-(dot (V 0) (V 3)*dot (V 1) (V 2))) d_
theorem aHe{s:V3 F}(h:∀ w,dot w s=0):s=0:=iP λk=>V3.yb k (h s)
end
def mW(l:e_):V3 K:=smul (Hg l) (iB 1 2)
def yX(vs:e_)(Ls:List (List Nat)):Nat->V3 K
 |0=>0
 |i+1=>yX vs Ls i+mW (dy vs ((Ls[i]?).getD []))
theorem Yh{Fs:List (Nat×List Nat)}{f:Nat×List Nat}(hf:Fs[i]?=some f):yX vs (Fs.map (·.2)) (i+1)=yX vs (Fs.map (·.2)) i+mW (dy vs f.2):=by show _+mW (dy vs (((Fs.map (·.2))[i]?).getD []))=_;rw[sH,hf];rfl
section
variable{ps:c_}{vs:e_}
theorem aHf(w:V3 K){L:l_}(hl:2<=L.length):dot w (Hg (dy vs L))=MV (λa x y=>dot w (af (aw vs x-aw vs a) (aw vs y-aw vs a))) L:=by have:=aG8 (vs:=vs) (f:=A8) (L:=dot w) (φ:=λp q r=>dot w (af (q-p) (r-p))) (λs p q r=>by unfold A8;rw[V3.jm]) 0 hl;rw[V3.vy,CR.zero_add]at this;unfold Hg;rw[<-this,show(dy vs L).length=L.length from dQ ..]
theorem aHg(w:V3 K)(Fs:List (Nat×List Nat))(hl:∀ f∈Fs,2<=f.2.length):∀ i,i<=Fs.length->dot w (yX vs (Fs.map (·.2)) i)=ou ((Fs.take i).map λg=>MV (λa x y=>dot w (af (aw vs x-aw vs a) (aw vs y-aw vs a))) g.2)*iB 1 2
 |0,_=>by show dot w 0=0*_;rw[V3.vy,CR.zero_mul]
 |i+1,hi=>by have hf:Fs[i]?=some Fs[i]:=aW o_;have hm:=df (l:=Fs) (n:=i) o_;generalize Fs[i]=g at *;rw[Yh hf,V3.jm,aHg w Fs hl i o_];unfold mW;rw[V3.gk,aHf w (hl _ hm),tA,hf,sF,RK,CR.add_mul];show _=_+(_+0)*_;rw[CR.add_zero]
theorem gY.aU7(h:gY ps):yX (aZ ps) ((cN ps (aZ ps) ps.length).map (·.2)) (cN ps (aZ ps) ps.length).length=0:=by
 refine aHe λw=>?_;rw[aHg w _ h.Yg _ (bF _),n9];have:=aUz h.cl h.proper h.Hf h.full (λx y=>dot w (af (aw (aZ ps) x) (aw (aZ ps) y))) λx y=>aU4 _ _ _;have e:(λa x y=>dot w (af (aw (aZ ps) x-aw (aZ ps) a) (aw (aZ ps) y-aw (aZ ps) a)))=λa x y=>dot w (af (aw (aZ ps) a) (aw (aZ ps) x))+dot w (af (aw (aZ ps) x) (aw (aZ ps) y))+dot w (af (aw (aZ ps) y) (aw (aZ ps) a)):=by funext a x y;exact aU3 _ _ _ _
 unfold MW at this;rw[e,this,CR.zero_mul]
theorem gY.aU8(h:gY ps){f:Nat×List Nat}(hf:f∈cN ps (aZ ps) ps.length):∃ r,ps[f.1]?=Option.some r/\af (mW (dy (aZ ps) f.2)) r.n=0/\0<dot (mW (dy (aZ ps) f.2)) r.n:=by
 have hl:=h.Yg f hf;obtain⟨r,hr,_,h3,a,m,e1,fv,nS,bT⟩:=JJ h.proper h.Hf hf;have hp:=aHf (vs:=aZ ps) (L:=f.2);have z:∀{x},x∈a::m->dot r.n (aw (aZ ps) x-aw (aZ ps) a)=0:=λhx=>by rw[V3.hZ,(kz.1 ((nS _).1 hx)).2,(kz.1 ((nS a).1 (aR ..))).2,OF.sub_self]
 refine⟨r,hr,aHe λw=>?_,?_⟩
 ·rw[aU5];unfold mW;rw[V3.gk,hp _ hl,e1];show A4 _ m*_=0;rw[aHd λx hx y hy=>?_,CR.zero_mul];show dot (af r.n w) (af (aw (aZ ps) x-aw (aZ ps) a) (aw (aZ ps) y-aw (aZ ps) a))=0;rw[aU6,z (bI _ hx),z (bI _ hy),CR.zero_mul,CR.zero_mul,CR.neg_zero,CR.add_zero]
 ·rw[V3.wE];unfold mW;rw[V3.gk,hp _ hl,e1];refine OF.mul_pos ?_ (gj.2 k_);have hlen:2<=m.length:=by have:=Jx (Ha r (aZ ps)) (J:=a::m) λx hx=>(nS x).2 hx;simp at this;omega
  refine aG0 (R:=mP r.n (aw (aZ ps)) (ch r (aZ ps) (aZ ps).length)) (aG1 (r:=[a]) (aUy bT)) (λx hx y hy cA=>?_) hlen;have ha:=(nS a).1 (aR ..);have nx:=(XL.1 fv).1;have ax:a≠x:=λe=>nx (e▸hx);have ay:a≠y:=λe=>nx (e▸hy);have:=cA a ha ax ay;rwa[<-Gi]at this
theorem Yi{q:Nat}{l:e_}(hl:∀ v∈l,aF q v):∀ t,t+2<=l.length->aF (1+t*(8*q+14)) (kZ A8 0 l t)
 |0,_=>by rw[kQ];exact Cr
 |t+1,h=>by have ih:=Yi hl t o_;unfold kZ A8;rw[aW (l:=l) (i:=0) o_,aW (l:=l) (i:=t+1) o_,aW (l:=l) (i:=t+2) o_];have h0:=hl _ (df (l:=l) (n:=0) o_);exact(ih.add (((hl _ (df (l:=l) (n:=t+1) o_)).sub h0).af ((hl _ (df (l:=l) (n:=t+2) o_)).sub h0))).mono (by rw[rI t];omega)
end
section
variable{rs:List RP}{vs:List RV}{fs:f_}{n:Nat}
theorem aHh(rs:List RP)(vs:List RV)(fs:f_)(n:Nat):([gK rs vs fs,.p (vI n)].all aP.ok)=true:=by have e:(gK rs vs fs).ok=true:=Ry rs vs fs;simp only[eC,e7,e,kS,iA];rfl
noncomputable def Yj(yY:cy prog 7 [gK rs vs fs] (.bool t))(more:bM prog Bs 18):bM prog Bs 18:=
 .step 6 (au f16 6) [.func (.func 7) #[] #[],sA rs.length vs.length] (RC rs vs fs) (.bool t) [] (dD yY (X0 .nil) (x:=.func 7) k_ k_ rfl)::more
noncomputable def riV(hl:rs.length<=n)(lK:cy prog 37 [gK rs vs fs] (.bool t)):bM prog Bs 18:=
 [.rw 12 _ b_ (GZ (a:=rs.length) (b:=n) (aJ hl)),.step 16 (au f16 16) [.func (.func 37) #[] #[],sA rs.length vs.length] (RC rs vs fs) (.bool t) [] (dD lK (X0 .nil) (x:=.func 37) k_ k_ rfl)]
theorem Yk(yY:cy prog 7 [gK rs vs fs] b_)(hl:rs.length<=n)(lK:cy prog 37 [gK rs vs fs] (.bool t)):cy prog 16 [gK rs vs fs,.p (vI n)] (.bool t):=by have aC:=aHh rs vs fs n;unfold gK at *;exact dj func16 aC 18 (λw=>Yj yY (riV hl lK))
theorem aU9(hn:n<=9)(JE:rs.length<9223372036854775807)(iW:vs.length<9223372036854775807)(rl:fs.length<9223372036854775807):cy prog 16 [gK rs vs fs,.p (vI n)] a_\/
  ∃ ps:c_,gY ps/\ps.length<=n/\rs=ps.map c9/\vs=(aZ ps).map cH/\fs=ee ps/\cy prog 16 [gK rs vs fs,.p (vI n)] b_:=by
 have aC:=aHh rs vs fs n;have yY:=aTA (rs:=rs) (vs:=vs) (fs:=fs) JE iW rl;by_cases hb:MO rs vs fs=true;rotate_left
 ·have hb:MO rs vs fs=false:=by simpa using hb
  rw[hb]at yY;unfold gK at *;exact .inl (dj func16 aC 18 (λw=>Yj yY []))
 rw[hb]at yY;by_cases hl:rs.length<=n;rotate_left
 ·unfold gK at *;exact .inl (dj func16 aC 18 (λw=>Yj yY [.rw 12 _ a_ (GZ (a:=rs.length) (b:=n) (bd hl))]))
 have jX:=hb;unfold MO MC at jX;simp only[de]at jX;obtain⟨cR,⟨hrp,_,_⟩,⟨hvw,aWt⟩,aWu⟩:=jX;rw[bB]at cR hrp hvw;have bH:∀ x∈rs,AP 24 x:=λx hx=>aQh (hrp x hx) d_;have aU:∀ x∈vs,x.Sm:=λx hx=>aTO (hvw x hx) d_;have rh:∀ f∈fs,f.2.length<9223372036854775807:=λf hf=>eZ (kp (cR f hf)) d_;by_cases bh:rs.all r7=true;rotate_left
 ·exact .inl (Yk yY hl (aTw bH d_ JE (by simpa using bh)))
 obtain⟨ers,kv⟩:=aTP bh;have cq:∀ q∈rs.map pZ,bP 24 q/\q.n≠0:=λq hq=>by refine⟨?_,kv q hq⟩;obtain⟨x,hx,rfl⟩:=db.1 hq;exact aQg (bB.1 bh x hx) (bH x hx)
 have hlen:(rs.map pZ).length=rs.length:=dQ ..;generalize hP:rs.map pZ=ps at *;subst ers;have RU:gB ps:=λq hq=>(cq q hq).2;have aVa:sC ps 24 4000:=⟨by omega,cq,by decide,by decide⟩;have lK:=aTx (vs:=vs) (fs:=fs) aVa (λhc hs=>by have hc:=XH.1 hc;have hf:=aGr RU hs;have:=aGq hc RU hf;rw[EI hc RU hf]at this;exact this) aU iW rl rh
 by_cases hvalid:JC ps vs fs=true;rotate_left
 ·have hvalid:JC ps vs fs=false:=by simpa using hvalid
  rw[hvalid]at lK;exact .inl (Yk yY hl lK)
 rw[hvalid]at lK;obtain⟨hc,hf,e1,e2⟩:=aTG RU hvalid;exact .inr ⟨ps,⟨by omega,cq,hc,hf⟩,by omega,rfl,e1,e2,Yk yY hl lK⟩
end
section
theorem aVb(ps:c_):gK (ps.map c9) ((aZ ps).map cH) (ee ps)=.s ps.length (bf ps) (aZ ps).length (aN (aZ ps)) (iX (ee ps)):=by unfold gK;rw[dQ,dQ];rfl
end
section
variable{Bs:aa}{g:FuncId}{l vs:e_}{a x y v s:V3 K}{i t n q:Nat}{L:l_}
theorem aVc(hc:gg prog g=true)(hi:i<l.length)(hv:l[i]?=some v)(h:aG prog g [bE v] a_)(h63:l.length<1000000):
  ah prog Bs 19 (aI (ag f201 0)) (uJ g l.length i) [(0,.view (aN l))] 1 ⟨.normal,uJ g l.length (i+1),[(0,.view (aN l))],1⟩:=
 aD [.lt 9 i l.length true (aJ hi),.c8 f201 14 0 l.length i 30 hi k_,.ld f201 15 38 0 (i*30) (.view (aN l)) (bE v) rfl (ke hv) k_,.step 16 (au f201 16) [sk g,bE v] [] a_ [] (dD (l:=[.p (bE v)]) (x:=.tmp 11) (λw vs cC=>by
   cases cC with
   |cons h1 h2=>
    cases h2;cases h1;exact h w) (.p rfl .nil) k_ hc rfl),.sum 18 i 1 (i+1) rfl o_]
theorem aHi(l:e_)(g:FuncId):([oM l,.p (sk g)].all aP.ok)=true:=by show((aN l).all flat&&(true&&true))=true;rw[dC];rfl
theorem aVd(hc:gg prog g=true)(h63:l.length<1000000)(h:∀ v∈l,aG prog g [bE v] a_):cy prog 201 [oM l,.p (sk g)] (.int .i64 (-1)):=by
 have lo:∀ B:aa,ah prog B 19 (.block 0 (ag f201 0)) (uJ g l.length 0) [(0,.view (aN l))] 1 ⟨.normal,[],[(0,.view (aN l))],1⟩:=λB=>
  cd (id:=0) (cx (r:=⟨.exit 0,[],[(0,.view (aN l))],1⟩) l.length (λi=>uJ g l.length i) (λ_=>[(0,.view (aN l))]) (λi k _=>Iff.rfl) (λi hi=>by have hv:=aW hi;exact aVc hc hi hv (h _ (df hi)) h63) (aD [.lt 9 l.length l.length false s_]) n_)
 exact dj func201 (aHi l g) 19 (λw=>[.code 0 _ _ _ _ _ (lo _)])
theorem aVe(hc:gg prog g=true)(h63:l.length<1000000)(h:∀ v∈l,aG prog g [bE v] a_):cy prog 159 [oM l,.p (sk g)] a_:=
 dj func159 (aHi l g) 9 (λw=>[.step 7 (au f159 7) [.func (.func 201) #[] #[],sl 0 l.length,sk g] [(0,some (.view (aN l)))] (.int .i64 (-1)) []
  (dD (aVd hc h63 h) (.w (x:=.view (aN l)) rfl (dC _) rU (.p rfl .nil)) (x:=.func 201) k_ k_ rfl)])
theorem aVf(hv:aF q v)(hq:q<=aE):aG prog 160 [bE v] a_:=bC func160 (λ_=>[(jR hv hq).at 4])
theorem aVg(hl:∀ v∈l,aF q v)(hq:q<=aE)(h63:l.length<1000000):cy prog 113 [oM l] b_:=by
 have aC:([oM l].all aP.ok)=true:=by show((aN l).all flat&&true)=true;rw[dC];rfl
 exact dj func113 aC 6 (λw=>[.step 4 (au f113 4) [.func (.func 159) #[] #[],sl 0 l.length,sk 160] [(0,some (.view (aN l)))] a_ []
  (dD (aVe k_ h63 λv hv=>aVf (hl v hv) hq) (.w (x:=.view (aN l)) rfl (dC _) rU (.p rfl .nil)) (x:=.func 159) k_ k_ rfl)])
def EP(n i:Nat):aT:=[(5,vI i),(0,sl 0 n),(2,bN 1),(4,bN 2)]
def yZ(l:e_)(s:V3 K):aM:=[(0,.view (aN l)),(1,.aK rf.cs 38),(2,.aK (cH s).cs 38)]
theorem aVh(hl:t+2<l.length)(h0:l[0]?=some a)(h1:l[t+1]?=some x)(h2:l[t+2]?=some y)(sa:aF q a)(sx:aF q x)(sy:aF q y)(ss:aF n s)(hn:n+(8*q+50)<aE)(h63:l.length<1000000):
  ah prog Bs 46 (aI (ag Tryz.f57 0)) (EP l.length (t+2)) (yZ l s) 3 ⟨.normal,EP l.length (t+1+2),yZ l (A8 s a x y),3⟩:=by
 have c1:=yg sx sa o_;have c2:=yg sy sa o_;have z1:=sx.sub sa;have z2:=sy.sub sa;have c3:=tu z1 z2 o_;have c4:=Cq ss (z1.af z2) o_;have w1:IntKind.i64.wrap (((t+2:Nat):Int)-1)=((t+1:Nat):Int):=by rw[eh];omega
 unfold A8;generalize s+af (x-a) (y-a)=s' at *;generalize af (x-a) (y-a)=e at *;generalize x-a=e1 at *;generalize y-a=e2 at *;exact aD [.lt 16 (t+2) l.length true (aJ hl),.wr 22 .i64 (((t+2:Nat):Int)-1) ((t+1:Nat):Int) w1,.c8 Tryz.f57 23 0 l.length (t+1) 30 o_ k_,.ld Tryz.f57 24 38 0 ((t+1)*30) (.view (aN l)) (bE x) rfl (ke h1) k_,.c8 Tryz.f57 26 0 l.length 0 30 o_ k_,.ld Tryz.f57 27 38 0 (0*30) (.view (aN l)) (bE a) rfl (ke h0) k_,c1.at 28,.c8 Tryz.f57 31 0 l.length (t+2) 30 hl k_,.ld Tryz.f57 32 38 0 ((t+2)*30) (.view (aN l)) (bE y) rfl (ke h2) k_,.c8 Tryz.f57 34 0 l.length 0 30 o_ k_,.ld Tryz.f57 35 38 0 (0*30) (.view (aN l)) (bE a) rfl (ke h0) k_,c2.at 36,c3.at 37,c4.at 38,.sum 18 (t+2) 1 (t+1+2) o_ o_]
theorem aVi{z:Nat->V3 K}(Hh:∀ v∈l,aF q v)(h2:2<=l.length)(hz:∀ t,t+2<l.length->z (t+1)=A8 (z t) ((l[0]?).getD 0) ((l[t+1]?).getD 0) ((l[t+2]?).getD 0))(hs:∀ t,t+2<=l.length->aF n (z t))(hn:n+(8*q+50)<aE)(h63:l.length<1000000):
  ah prog Bs 46 (.block 0 (ag Tryz.f57 0)) (EP l.length 2) (yZ l (z 0)) 3 ⟨.normal,[(2,bN 1),(4,bN 2)],yZ l (z (l.length-2)),3⟩:=by
 obtain⟨c,hc⟩:∃ c,l.length=c+2:=⟨l.length-2,by omega⟩;rw[show l.length-2=c by omega];have pO:∀ s:V3 K,ah prog Bs 46 (aI (ag Tryz.f57 0)) (EP l.length l.length) (yZ l s) 3 ⟨.exit 0,[(2,bN 1),(4,bN 2)],yZ l s,3⟩:=λs=>aD [.lt 16 l.length l.length false s_];refine cd (id:=0) (cx (r:=⟨.exit 0,[(2,bN 1),(4,bN 2)],yZ l (z c),3⟩) c (λt=>EP l.length (t+2)) (λt=>yZ l (z t)) (λi k _=>wC (by rfl) k) (λt ht=>?_) ?_ n_)
 ·have g0:=aW (l:=l) (i:=0) o_;have g1:=aW (l:=l) (i:=t+1) o_;have g2:=aW (l:=l) (i:=t+2) o_;have s0:=Hh _ (df (l:=l) (n:=0) o_);have s1:=Hh _ (df (l:=l) (n:=t+1) o_);have s2:=Hh _ (df (l:=l) (n:=t+2) o_);show ah _ _ _ _ _ _ _ ⟨_,_,yZ l (z (t+1)),_⟩;rw[hz t o_,g0,g1,g2];exact aVh o_ g0 g1 g2 s0 s1 s2 (hs t o_) hn h63
 ·have:=pO (z c);rw[show EP l.length (c+2)=EP l.length l.length by rw[hc]];exact this
theorem aVj(Hh:∀ v∈l,aF q v)(h2:2<=l.length)(hn:1+l.length*(8*q+14)+(8*q+100)<aE)(h63:l.length<1000000):cy prog 57 [oM l] (.tuple #[bE (mW l),fW 0]):=by
 have aC:([oM l].all aP.ok)=true:=by show((aN l).all flat&&true)=true;rw[dC];rfl
 have bH:∀ t,t+2<=l.length->aF (1+l.length*(8*q+14)) (kZ A8 0 l t):=λt ht=>(Yi Hh t ht).mono (by have:=eE (8*q+14) (show t<=l.length by omega);omega)
 have lo:=λBs=>aVi (Bs:=Bs) (z:=kZ A8 0 l) Hh h2 (λt _=>rfl) bH o_ h63;have hk:=bH (l.length-2) o_;have hr:Sz 4 (iB 1 2):=D7 (p:=1) (q:=2) (n:=4) d_ d_ d_;have sc:=vE hk hr o_;have h0:aG prog 39 [.int .i64 0,.int .i64 0,.int .i64 0] (bE 0):=vD (a:=0) (b:=0) (c:=0) d_ d_ d_;have rt:aG prog 99 [.int .i64 1,.int .i64 2] (.tuple #[bX (iB 1 2),.int .i64 0]):=UI (n:=4) d_ d_ d_ d_;have pp:=aVg Hh o_ h63;have lo:∀ Bs,ah prog Bs 46 (.block 0 (ag Tryz.f57 0)) (EP l.length 2) (yZ l 0) 3 ⟨.normal,[(2,bN 1),(4,bN 2)],yZ l (Hg l),3⟩:=lo;have sc:aG prog 42 [bE (Hg l),bX (iB 1 2)] (bE (mW l)):=sc;generalize mW l=r at *;generalize Hg l=z at *;generalize iB 1 2=k at *;exact dj func57 aC 46 (λw=>[.step 9 (au Tryz.f57 9) [.func (.func 113) #[] #[],sl 0 l.length] [(0,some (.view (aN l)))] b_ [] (dD pp (.w (x:=.view (aN l)) rfl (dC _) rU .nil) (x:=.func 113) k_ k_ rfl),h0.at 12,.code 0 _ _ _ _ _ (lo _),rt.at 40,sc.at 45])
end
section
variable{Bs:aa}{ps:c_}{vs:e_}{np i:Nat}{f:Nat×List Nat}{L:l_}
theorem aHj(hf:(cN ps (aZ ps) ps.length)[i]?=some f):(ee ps)[i]?=some ((f.1:Int),dX f.2):=by unfold ee;rw[sH,hf];rfl
theorem RW(ps:c_)(i:Nat):([rp ps,.p (vI i)].all aP.ok)=true:=by simp only[eC,e7,RT,kS,iA];rfl
theorem aVk(h:gY ps)(hi:i<(ee ps).length):cy prog 112 [rp ps,.p (vI i)] (fW 0):=
 dj func112 (RW ps i) 19 (λw=>[.step 7 (au f112 7) [.func (.func 35) #[] #[],wA ps.length (aZ ps).length] (yW ps) b_ [] (dD h.valid (A7 .nil) (x:=.func 35) k_ k_ rfl),.lt 11 i 0 false s_,.step 16 (au f112 16) [cK 2] [(2,some (.fact (jd (ee ps))))] (vI (ee ps).length) [] (vN k_ (tP.full _)),.ge 17 i (ee ps).length false (bd o_)])
def RX(n j:Nat):aT:=[(23,vI j),(21,cK 5),(22,vI n),(2,bN 3),(7,sl 6 j)]
def ER(np:Nat)(vs:e_)(L:l_):aM:=[(1,.view (aN vs)),(5,.fact (eA (dX L))),(3,.aK [sl 0 np,sl 1 vs.length,cK 2] 26)]
theorem aVl:∀ x∈ER np vs L,fE 6 x.2:=λx hx=>by
 simp only[ER,cD,jE,jF]at hx;rcases hx with rfl|rfl|rfl
 ·exact λv hv=>iH (bB.1 (dC vs) v hv)
 ·exact n_
 ·intro v hv;have hv:v∈[sl 0 np,sl 1 vs.length,cK 2]:=hv;simp at hv;rcases hv with rfl|rfl|rfl<;>rfl
theorem aVm{z:Nat}{v:V3 K}(hj:j<(dX L).length)(hz:(dX L)[j]?=some (z:Int))(hv:vs[z]?=some v)(hl:acc.length=j)(h63:(dX L).length<1000000):
  ah prog Bs 37 (aI (ag f56 0)) (RX (dX L).length j) (ER np vs L++marks 6 (kK acc)) 7 ⟨.normal,gH 6 [some 9] (RX (dX L).length (j+1)),ER np vs L++dT [some 9] (kK (acc++[v])),10⟩:=by
 have al:=(dZ.1 hv).1;have hc:(aN acc).length=j*30:=by rw[pY,hl]
 exact aD [.lt 24 j (dX L).length true (aJ hj),.step 25 (au f56 25) [cK 5,vI j] [(7,none),(5,some (.fact (eA (dX L))))] (bN 7) [(7,.view [iV z])] (aG3 k_ hz),.c8 f56 31 1 vs.length z 30 al k_,.ld f56 32 38 1 (z*30) (.view (aN vs)) (bE v) rfl (ke hv) k_,.bs f56 33 8 1 38 30 [0] (RV.v rf) [bE v] (cH v).cs.toArray (.row (cH v).cs 38 30) rfl (λv hv=>by simp at hv;subst hv;rfl) (λv hv=>gm.flat _ v hv) k_ rfl d_ d_ k_,.pP f56 34 9 6 j 1 (j+1) 38 30 360 (aN acc) 8 (.row (cH v).cs 38 30) (aN (acc++[v])) rfl rfl rfl hc (by rw[<-LL];congr 1) (gm.one _) d_ (by simp[maxLen];omega) o_ k_,.sum 35 j 1 (j+1) rfl o_]
theorem aVn(hL:∀ x∈L,x<vs.length)(h63:L.length<1000000):
  ah prog Bs 37 (.block 0 (ag f56 0)) (gH 6 [none] (RX (dX L).length 0)) (ER np vs L++dT [none] (kK [])) 6 ⟨.normal,[(7,sl 6 (dX L).length)],ER np vs L++marks 6 (kK (dy vs L)),7⟩:=by
 have hlen:(dX L).length=L.length:=dQ ..
 have:=qF (P:=prog) (B:=Bs) (N:=37) (b:=aI (ag f56 0)) (next:=6) (p:=1) (r:=⟨.exit 0,[(7,sl 6 (dX L).length)],ER np vs L++marks 6 (kK (dy vs L)),7⟩) (dX L).length
  (λj=>RX (dX L).length j) (λ_=>ER np vs L) (λj=>kK (dy vs (L.take j))) [none] (λ_ _=>rfl) (λj _=>⟨aVl,Qa⟩) k_ k_
  (λj hj=>by
   have fY:j<L.length:=by omega
   have hq:L[j]?=some L[j]:=aW fY;have hz:(dX L)[j]?=some ((L[j]:Nat):Int):=by unfold dX;rw[sH,hq];rfl
   have e:dy vs (L.take (j+1))=dy vs (L.take j)++[aw vs L[j]]:=by unfold dy;rw[tA,hq,sF];rfl
   rw[e];exact⟨[some 9],10,k_,aVm (Bs:=Bs) hj hz (jU (hL _ (df fY))) (by unfold dy;rw[dQ,jK];omega) o_⟩)
  (by rw[show L.take (dX L).length=L from kG o_];generalize dy vs L=a;exact aD [.lt 24 (dX L).length (dX L).length false s_]) n_
 exact cd (id:=0) this
theorem aVo(h:gY ps)(hf:(cN ps (aZ ps) ps.length)[i]?=some f):Gs prog 56 [rp ps,.p (vI i)] 38 30 f.2.length (aN (dy (aZ ps) f.2)) (fW 0):=by
 have hm:=JM h.proper h.Hf (cL hf);have hz:=h.MZ.2;have hlen:(dX f.2).length=f.2.length:=dQ ..;have lo:=λBs=>aVn (Bs:=Bs) (np:=ps.length) (vs:=aZ ps) (L:=f.2) hm.2.2 o_;have Cb:=aHj hf;have hi:=(dZ.1 Cb).1;have rg:=aVk h hi;have hvl:(aN (dy (aZ ps) f.2)).length=(dX f.2).length*30:=by rw[pY];unfold dy dX;rw[dQ,dQ]
 rw[<-hlen];generalize dy (aZ ps) f.2=a at *;exact aCM (k:=6) mixed func56 (RW ps i) 100 (N:=37) k_ (λ_=>[.step 12 (au f56 12) [.func (.func 112) #[] #[],wA ps.length (aZ ps).length,vI i] (yW ps) (fW 0) [] (dD rg (A7 (.p rfl .nil)) (x:=.func 112) k_ k_ rfl),.step 19 (au f56 19) [cK 2,vI i] [(4,none),(5,none),(2,some (.fact (jd (ee ps))))] (bN 4) [(4,.view [iV f.1,cK 5]),(5,.fact (eA (dX f.2)))] (GX k_ (tP.full _) Cb d_),.step 22 (au f56 22) [cK 5] [(5,some (.fact (eA (dX f.2))))] (vI (dX f.2).length) [] (vO k_),.code 0 _ _ _ _ _ (lo _)]) (λ_=>k_) (dC a) hvl rfl
theorem aHk(h:gY ps)(hf:(cN ps (aZ ps) ps.length)[i]?=some f):cy prog 18 [rp ps,.p (vI i)] (.tuple #[bE (mW (dy (aZ ps) f.2)),fW 0]):=by
 have hm:=JM h.proper h.Hf (cL hf);have hz:=h.MZ;have pg:=aVo h hf;have hlen:(dy (aZ ps) f.2).length=f.2.length:=dQ ..;have ar:=aVj (l:=dy (aZ ps) f.2) (q:=4000) (λv hv=>by obtain⟨x,hx,rfl⟩:=db.1 hv;exact hz.1 _ (cL (jU (hm.2.2 x hx)))) o_ (by have:=eE (8*4000+14) (show(dy (aZ ps) f.2).length<=1000 by omega);exact eZ (Ji (S6 this 1) _) d_) o_
 rw[<-hlen]at pg;generalize mW (dy (aZ ps) f.2)=r at *;generalize dy (aZ ps) f.2=a at *;exact dj func18 (RW ps i) 22 (λw=>[.step 11 (au f18 11) [.func (.func 56) #[] #[],wA ps.length (aZ ps).length,vI i] ((5,none)::yW ps) (.tuple #[.slice (some ⟨5,0,some 7⟩) a.length 0,fW 0]) [(5,.row (aN a) 38 30)] (P3 pg (A7 (.p rfl .nil)) (x:=.func 56) k_ k_ (dC a) rfl 5),.step 19 (au f18 19) [.func (.func 57) #[] #[],sl 5 a.length] [(5,some (.row (aN a) 38 30))] (.tuple #[bE r,fW 0]) [] (dD ar (.w (x:=.row (aN a) 38 30) rfl (dC _) rU .nil) (x:=.func 57) k_ k_ k_)])
theorem aVp(h:gY ps)(hf:(cN ps (aZ ps) ps.length)[i]?=some f){n:Nat}(hs:aF n (mW (dy (aZ ps) f.2)))(hn:3*(n+n)+16<aE):cy prog 19 [rp ps,.p (vI i)] (.tuple #[bX (dot (mW (dy (aZ ps) f.2)) (mW (dy (aZ ps) f.2))),fW 0]):=by have ar:=aHk h hf;have dt:=qP hs hs hn;generalize dot (mW (dy (aZ ps) f.2)) (mW (dy (aZ ps) f.2))=x at *;generalize mW (dy (aZ ps) f.2)=r at *;exact dj func19 (RW ps i) 21 (λw=>[.step 11 (au f19 11) [.func (.func 18) #[] #[],wA ps.length (aZ ps).length,vI i] (yW ps) (.tuple #[bE r,fW 0]) [] (dD ar (A7 (.p rfl .nil)) (x:=.func 18) k_ k_ k_),dt.at 20])
end
end
theorem aVq:aG prog 79 [vI 0] (.string (ByteArray.mk #[])):=bC func79 (λ_=>[])
section
variable{Bs:aa}{N:Nat}
noncomputable def A9(a n':Nat)(ha:a<bz)(hn:nd bz a=n'):aY prog Bs N:=
 .step 43 (au f78 43) [.func (.func 138) #[] #[],sl 2 1] [(2,some (.row [vI a] 3 1))] (sl 2 n') [] (hn▸aC6 (y:=.func 138) (n:=1) (a:=a) (k:=2) (off:=0) (x:=.row [vI a] 3 1) k_ rfl rfl (by rw[CF ha];rfl) (by rw[BG];exact ha) d_ (λ_=>.inr trivial))
noncomputable def Ba(m q:Nat):List (aY prog Bs N):=[.ix f78 32 2 1 0 d_ k_,.ld f78 33 3 2 0 (.row [vI m] 3 1) (vI m) rfl k_ k_,.ix f78 39 2 1 0 d_ k_,.st f78 100039 3 2 0 (.row [vI m] 3 1) (vI q) (.row [vI q] 3 1) rfl k_ rfl k_]
end
noncomputable def RY(m:Nat)(dg:lO prog 119 [.p (oI m)] 3 1 1 [vI m])(more:bM prog Bs N):bM prog Bs N:=
 (aWO false (m:=m) n_).at 9::.rw 14 (.bool ((BA (cM m)).toList==(ByteArray.mk #[]).toList)) (.bool (decide (m=0))) (by rw[qH])::
  .step 17 (au f78 17) [.func (.func 119) #[] #[],oI m] [(2,none)] (sl 2 1) [(2,.row [vI m] 3 1)] (rS dg (.p rfl .nil) (x:=.func 119) k_ k_ rfl 2)::more
theorem aVr:aG prog 78 [aX 25] (.string (ByteArray.mk #[50,53])):=by
 have hd:nd bz 25=1:=vM d_ d_;have hc:cJ 25=[vI 25]:=by unfold cJ;rw[hd,CF d_];rfl
 have dg:=I3 (m:=25) (by rw[show nd 256 25=1 from by kernel_rfl];decide);rw[hd,hc]at dg;exact eY mixed func78 200 (λ_=>RY 25 dg (Ba 25 2++[A9 2 1 d_ (vM d_ d_)]++Ba 2 0++[A9 0 0 d_ oG])) (λ_=>k_) k_ k_
theorem aVs:aG prog 78 [aX 88] (.string (ByteArray.mk #[56,56])):=by
 have hd:nd bz 88=1:=vM d_ d_;have hc:cJ 88=[vI 88]:=by unfold cJ;rw[hd,CF d_];rfl
 have dg:=I3 (m:=88) (by rw[show nd 256 88=1 from by kernel_rfl];decide);rw[hd,hc]at dg;exact eY mixed func78 200 (λ_=>RY 88 dg (Ba 88 8++[A9 8 1 d_ (vM d_ d_)]++Ba 8 0++[A9 0 0 d_ oG])) (λ_=>k_) k_ k_
theorem aVt:aG prog 78 [aX 625] (.string (ByteArray.mk #[54,50,53])):=by
 have hd:nd bz 625=1:=vM d_ d_;have hc:cJ 625=[vI 625]:=by unfold cJ;rw[hd,CF d_];rfl
 have dg:=I3 (m:=625) (by rw[show nd 256 625=2 from by kernel_rfl];decide);rw[hd,hc]at dg;exact eY mixed func78 200 (λ_=>RY 625 dg (Ba 625 62++[A9 62 1 d_ (vM d_ d_)]++Ba 62 6++[A9 6 1 d_ (vM d_ d_)]++Ba 6 0++[A9 0 0 d_ oG])) (λ_=>k_) k_ k_
theorem aVu:aG prog 78 [aX 704] (.string (ByteArray.mk #[55,48,52])):=by
 have hd:nd bz 704=1:=vM d_ d_;have hc:cJ 704=[vI 704]:=by unfold cJ;rw[hd,CF d_];rfl
 have dg:=I3 (m:=704) (by rw[show nd 256 704=2 from by kernel_rfl];decide);rw[hd,hc]at dg;exact eY mixed func78 200 (λ_=>RY 704 dg (Ba 704 70++[A9 70 1 d_ (vM d_ d_)]++Ba 70 7++[A9 7 1 d_ (vM d_ d_)]++Ba 7 0++[A9 0 0 d_ oG])) (λ_=>k_) k_ k_
section
open CR OF
open V3 (dot af bA smul)
section
variable{m n:Nat}{a b c:ByteArray}
def y0(m n:Nat):Value:=iz ⟨(m:Int),0,0,0,(n:Int)⟩
theorem Yl:aG prog 74 [aX 0] (.int .i64 0):=aWK 0
theorem aHl{x y:Int}(h1:x.natAbs<2^k)(h2:y.natAbs<2^k)(hk:k<=aE)(bw:x≠y)(ho:FM o=some (false,30)):cI prog Bs o [aX x,aX y] [] b_ []:=by
 have:=B7 (Bs:=Bs) (neg:=false) ho (bO x) (bO y) (uo h1 hk) (uo h2 hk) (b:=true) (by simp;exact λh=>bw (xR h))
 exact this
noncomputable def pfS(hv:aG prog 55 [y0 m n] b_)(hs:aG prog 74 [aX m] (.int .i64 1))(hg:aG prog 75 [aX m,aX n] (aX 1))(b9:aG prog 77 [aX m] (aX m))
  (o1:aG prog 76 [aX m,aX 1] (aX m)) (o2:aG prog 76 [aX n,aX 1] (aX n)) (h1:aG prog 63 [.int .i64 1] (aX 1)) (pm:aG prog 78 [aX m] (.string a)) (pn:aG prog 78 [aX n] (.string b))
  (bw:cI prog Bs (au f32 66) [aX n,aX 1] [] b_ []):bM prog Bs N:=
 [hv.at 11,hs.at 22,hg.at 27,b9.at 29,o1.at 31,o2.at 35,hs.at 38,h1.at 47,pm.at 62,.step 66 (au f32 66) [aX n,aX 1] [] b_ [] bw,pn.at 69,aVq.at 74,Yl.at 22,Yl.at 22,Yl.at 22]
end
theorem aVv:aG prog 32 [y0 704 25] (.string (ByteArray.mk #[55,48,52,47,50,53])):=by have hv:aG prog 55 [y0 704 25] b_:=aWQ (n:=10) (f:=⟨704,0,0,0,25⟩) ⟨by decide,by decide⟩ ⟨by decide,by decide,by decide,by decide,by decide⟩ d_;have hg:aG prog 75 [aX (704:Nat),aX (25:Nat)] (aX 1):=aXx (p:=10) (q:=10) d_ d_ d_ d_;have o1:aG prog 76 [aX (704:Nat),aX 1] (aX (704:Nat)):=aXs (n:=10) d_ d_ d_ d_;have o2:aG prog 76 [aX (25:Nat),aX 1] (aX (25:Nat)):=aXs (n:=10) d_ d_ d_ d_;exact eY mixed func32 300 (λ_=>pfS hv (aWK 704) hg (Wg 704) o1 o2 (aXq (z:=1) d_ d_) aVu aVr (aHl (k:=10) d_ d_ d_ d_ k_)) (λ_=>k_) k_ k_
theorem aVw:aG prog 32 [y0 88 625] (.string (ByteArray.mk #[56,56,47,54,50,53])):=by have hv:aG prog 55 [y0 88 625] b_:=aWQ (n:=10) (f:=⟨88,0,0,0,625⟩) ⟨by decide,by decide⟩ ⟨by decide,by decide,by decide,by decide,by decide⟩ d_;have hg:aG prog 75 [aX (88:Nat),aX (625:Nat)] (aX 1):=aXx (p:=10) (q:=10) d_ d_ d_ d_;have o1:aG prog 76 [aX (88:Nat),aX 1] (aX (88:Nat)):=aXs (n:=10) d_ d_ d_ d_;have o2:aG prog 76 [aX (625:Nat),aX 1] (aX (625:Nat)):=aXs (n:=10) d_ d_ d_ d_;exact eY mixed func32 300 (λ_=>pfS hv (aWK 88) hg (Wg 88) o1 o2 (aXq (z:=1) d_ d_) aVs aVt (aHl (k:=10) d_ d_ d_ d_ k_)) (λ_=>k_) k_ k_
theorem aHm:gY qh:=⟨by decide,λp h=>⟨(aGu (tS _ h)).mono d_,XW (tS _ h)⟩,XY,XX⟩
theorem aVx:EO qh=kI 8:=by unfold EO;rw[aTN];kernel_rfl
theorem aVy:kI 8*iB ((3520:Nat):Int) 1000=iB 704 25:=by kernel_rfl
theorem aVz:iB 704 25*iB 1 200=iB 88 625:=by kernel_rfl
theorem aHn:bX (iB 704 25)=y0 704 25:=by rw[P9 d_];kernel_rfl
theorem aVA:bX (iB 88 625)=y0 88 625:=by rw[P9 d_];kernel_rfl
theorem aVB{F:Fact}{v:K}(hF:F.rc=false)(f1:xp.all flat=true)(f2:eW.all flat=true)(z1:np=0->xp=[])(z2:nv=0->eW=[])
  (hB:Cz prog 30 [.p (vI 1)] 50 40 np xp 38 30 nv eW F [fW 0]) (hV:cy prog 8 [.s np xp nv eW F] (.tuple #[bX v,fW 0])) (hW:cy prog 12 [.s np xp nv eW F,.p (vI 3520)] (.tuple #[y0 704 25,fW 0]))
  (hC:aG prog 14 [y0 704 25] (.tuple #[y0 88 625,fW 0])) (h8:aG prog 31 [.int .i64 8] (bX v)) (sv:Sz 20 v) :
  cy prog 6 [] b_:=
 jC mixed func6 rfl 300 (N:=53) k_ (λw=>[
  .step 10 (au Tryz.f6 10) [.func (.func 30) #[] #[],vI 1] [(0,none),(1,none),(2,none)] (.tuple #[.agg #[sl 0 np,sl 1 nv,cK 2],fW 0]) [(2,.fact (F.mU w.heap.size)),(1,.row eW 38 30),(0,.row xp 50 40)]
   (LZ (B:=aa.at w) (S:=w.heap.size) hB (.p rfl .nil) (x:=.func 30) k_ k_ hF f1 f2 rfl (λw' hb=>Below.size hb) 0),
  .step 15 (au Tryz.f6 15) [.func (.func 8) #[] #[],.agg #[sl 0 np,sl 1 nv,cK 2]] [(0,some (.row xp 50 40)),(1,some (.row eW 38 30)),(2,some (.fact (F.mU w.heap.size)))] (.tuple #[bX v,fW 0]) []
   (dD hV (.si (aGd _ _) (x1:=.row xp 50 40) (x2:=.row eW 38 30) rfl f1 z1 rfl f2 z2 .nil) (x:=.func 8) k_ k_ k_),
  .step 20 (au Tryz.f6 20) [.func (.func 12) #[] #[],.agg #[sl 0 np,sl 1 nv,cK 2],vI 3520] [(0,some (.row xp 50 40)),(1,some (.row eW 38 30)),(2,some (.fact (F.mU w.heap.size)))] (.tuple #[y0 704 25,fW 0]) []
   (dD hW (.si (aGd _ _) (x1:=.row xp 50 40) (x2:=.row eW 38 30) rfl f1 z1 rfl f2 z2 (.p rfl .nil)) (x:=.func 12) k_ k_ k_),
  hC.at 25,h8.at 40,.step 41 (au Tryz.f6 41) [bX v,bX v] [] b_ [] (O3 (neg:=true) k_ (du v) (du v) (xT sv d_) (xT sv d_) s_),aVv.at 45,aVw.at 50]) (λw=>k_) k_
theorem aVC:cy prog 6 [] b_:=by have hV:=aHc aHm;have hW:=aU1 aHm (d:=3520) d_ d_;rw[aVx]at hV hW;rw[aVy,aHn]at hW;have hC:=aU2 (x:=iB 704 25) (n:=10) (D7 d_ d_ d_) d_;rw[aVz,aHn,aVA]at hC;exact aVB rfl (dx _) (dC _) n_ rU aTM hV hW hC (aXv (z:=8) d_) (pr d_ d_)
section
variable{Bs:aa}{ps:c_}{a n s:V3 K}{i:Nat}{f:Nat×List Nat}{r:HS K}
def M3(n i:Nat):aT:=[(20,vI i),(18,cK 2),(19,vI n),(1,bN 3),(3,bN 4)]
def y7(ps:c_)(s:V3 K):aM:=[(0,.view (bf ps)),(1,.view (aN (aZ ps))),(2,.fact (jd (ee ps))),(3,.aK [sl 0 ps.length,sl 1 (aZ ps).length,cK 2] 26),(4,.aK (cH s).cs 38)]
theorem aVD:∀ x∈y7 ps s,fE 5 x.2:=λx hx=>by
 simp only[y7,cD,jE,jF]at hx;rcases hx with rfl|rfl|rfl|rfl|rfl
 ·exact λv hv=>iH (bB.1 (dx ps) v hv)
 ·exact λv hv=>iH (bB.1 (dC _) v hv)
 ·exact n_
 ·intro v hv;have hv:v∈[sl 0 ps.length,sl 1 (aZ ps).length,cK 2]:=hv;simp at hv;rcases hv with rfl|rfl|rfl<;>rfl
 ·exact λx hx=>iH (bB.1 (show((cH s).cs.all flat)=true from k_) x hx)
theorem aVE{M:Nat}(Cb:(ee ps)[i]?=some ((f.1:Int),dX f.2))(hr:ps[f.1]?=some r)(ar:cy prog 18 [rp ps,.p (vI i)] (.tuple #[bE a,fW 0]))(a2:cy prog 19 [rp ps,.p (vI i)] (.tuple #[bX (dot a a),fW 0]))
  (sa:aF A a) (sr:aF 24 r.n) (ss:aF M s) (hA:100*A+10000<=aE) (hM:M+A<aE) (hc:af a r.n=0) (hd:0<dot a r.n) (h63:(ee ps).length<1000000) :
  ah prog Bs 77 (aI (ag Tryz.f4 0)) (M3 (ee ps).length i) (y7 ps s) 5 ⟨.normal,M3 (ee ps).length (i+1),y7 ps (s+a),5⟩:=by
 have hi:=(dZ.1 Cb).1;have al:=(dZ.1 hr).1;have c1:=aWV sa sa o_;have c2:=aWC sa sr o_;rw[hc]at c2;have c3:=aXw (v:=(0:V3 K)) (n:=1) Cr d_;rw[aJ rfl]at c3;have c4:=aWV sa sr o_;have c5:=aWJ (sa.dot sr) o_;rw[gj.1 hd]at c5;have c6:=aW5 ss sa hM;have m1:=xT (sa.dot sa) o_;clear hc hd;generalize s+a=s' at *;generalize dot a a=x at *;generalize dot a r.n=y at *;exact ua mixed 200 (gN:=11) [.lt 21 i (ee ps).length true (aJ hi),.step 23 (au Tryz.f4 23) [cK 2,vI i] [(5,none),(6,none),(2,some (.fact (jd (ee ps))))] (bN 5) [(5,.view [iV f.1,cK 6]),(6,.fact (eA (dX f.2)))] (GX k_ (tP.full _) Cb d_),.step 28 (au Tryz.f4 28) [.func (.func 18) #[] #[],wA ps.length (aZ ps).length,vI i] (yW ps) (.tuple #[bE a,fW 0]) [] (dD ar (A7 (.p rfl .nil)) (x:=.func 18) k_ k_ k_),.step 34 (au Tryz.f4 34) [.func (.func 19) #[] #[],wA ps.length (aZ ps).length,vI i] (yW ps) (.tuple #[bX x,fW 0]) [] (dD a2 (A7 (.p rfl .nil)) (x:=.func 19) k_ k_ k_),.c8 Tryz.f4 41 0 ps.length f.1 40 al k_,.ld Tryz.f4 43 38 0 (f.1*40) (.view (bf ps)) (bE r.n) rfl (Jj hr) k_,c1.at 54,.step 55 (au Tryz.f4 55) [bX x,bX x] [] a_ [] (O3 (neg:=false) k_ (du x) (du x) m1 m1 s_),c2.at 60,c3.at 61,c4.at 67,c5.at 68,c6.at 73,.sum 74 i 1 (i+1) rfl o_] k_ rfl k_ aVD k_
theorem aHo{vs:e_}{Fs:List (Nat×List Nat)}{A:Nat}(h:∀ f∈Fs,aF A (mW (dy vs f.2))):∀ i,i<=Fs.length->aF (1+i*(A+1)) (yX vs (Fs.map (·.2)) i)
 |0,_=>by rw[kQ];exact Cr
 |i+1,hi=>by have hf:Fs[i]?=some Fs[i]:=aW o_;rw[Yh hf];exact((aHo h i o_).add (h _ (df _))).mono (by rw[rI i];omega)
theorem aHp(h:gY ps){f:Nat×List Nat}(hf:f∈cN ps (aZ ps) ps.length):aF 33000000 (mW (dy (aZ ps) f.2)):=by
 have hm:=JM h.proper h.Hf hf;have hz:=h.MZ;have hlen:(dy (aZ ps) f.2).length=f.2.length:=dQ ..;have k:=Yi (l:=dy (aZ ps) f.2) (q:=4000) (λv hv=>by obtain⟨x,hx,rfl⟩:=db.1 hv;exact hz.1 _ (cL (jU (hm.2.2 x hx)))) ((dy (aZ ps) f.2).length-2) o_
 have k2:aF 32100000 (Hg (dy (aZ ps) f.2)):=k.mono (by have:=eE (8*4000+14) (show(dy (aZ ps) f.2).length-2<=1000 by omega);omega)
 exact(k2.smul (D7 (p:=1) (q:=2) (n:=4) d_ d_ d_)).mono d_
theorem aVF{z:Nat->V3 K}(h:gY ps)(uX:z 0=0)(hz:∀ i f,(cN ps (aZ ps) ps.length)[i]?=some f->z (i+1)=z i+mW (dy (aZ ps) f.2))(hs:∀ i,i<=(ee ps).length->aF 400000000 (z i)):
  ah prog Bs 77 (.block 0 (ag Tryz.f4 0)) (M3 (ee ps).length 0) (y7 ps 0) 5 ⟨.normal,[(3,bN 4)],y7 ps (z (ee ps).length),5⟩:=by
 have RZ:(ee ps).length=(cN ps (aZ ps) ps.length).length:=dQ ..;have h9:(ee ps).length<=9:=by rw[RZ];exact dh (EC ps _ _) h.len
 have pO:∀ s:V3 K,ah prog Bs 77 (aI (ag Tryz.f4 0)) (M3 (ee ps).length (ee ps).length) (y7 ps s) 5 ⟨.exit 0,[(3,bN 4)],y7 ps s,5⟩:=λs=>aD [.lt 21 (ee ps).length (ee ps).length false s_];have:=cx (P:=prog) (B:=Bs) (N:=77) (ee ps).length (λi=>M3 (ee ps).length i) (λi=>y7 ps (z i)) (λi k _=>wC (by rfl) k) (λi hi=>by have hf:(cN ps (aZ ps) ps.length)[i]?=some (cN ps (aZ ps) ps.length)[i]:=aW o_;have hm:=df (l:=cN ps (aZ ps) ps.length) (n:=i) o_;generalize (cN ps (aZ ps) ps.length)[i]=f at *;obtain⟨r,hr,hc,hd⟩:=h.aU8 hm;have sa:=aHp h hm;show ah _ _ _ _ _ _ _ ⟨_,_,y7 ps (z (i+1)),_⟩;rw[hz i f hf];exact aVE (aHj hf) hr (aHk h hf) (aVp h hf sa d_) sa (h.sz r (cL hr)).1.1 (hs i o_) d_ d_ hc hd o_) (r:=⟨.exit 0,[(3,bN 4)],y7 ps (z (ee ps).length),5⟩) (pO _) n_
 rw[uX]at this;exact cd (id:=0) this
theorem aVG(h:gY ps)(JN:cy prog 6 [] b_)(JH:cy prog 16 [rp ps,.p (vI 8)] b_):cy prog 4 [rp ps] b_:=by
 have aC:([rp ps].all aP.ok)=true:=by simp only[eC,e7,RT,iA]
 have RZ:(ee ps).length=(cN ps (aZ ps) ps.length).length:=dQ ..;have h9:(ee ps).length<=9:=by rw[RZ];exact dh (EC ps _ _) h.len
 have h1:∀ i f,(cN ps (aZ ps) ps.length)[i]?=some f->yX (aZ ps) ((cN ps (aZ ps) ps.length).map (·.2)) (i+1)=yX (aZ ps) ((cN ps (aZ ps) ps.length).map (·.2)) i+mW (dy (aZ ps) f.2):=λi f hf=>Yh hf;have h2:∀ i,i<=(ee ps).length->aF 400000000 (yX (aZ ps) ((cN ps (aZ ps) ps.length).map (·.2)) i):=λi hi=>(aHo (λf hf=>aHp h hf) i o_).mono (by have:=eE (33000000+1) (show i<=9 by omega);omega)
 have e0:=h.aU7;have e1:yX (aZ ps) ((cN ps (aZ ps) ps.length).map (·.2)) 0=0:=rfl;rw[<-RZ]at e0;generalize yX (aZ ps) ((cN ps (aZ ps) ps.length).map (·.2))=z at *;have lo:=λBs=>aVF (Bs:=Bs) (z:=z) h e1 h1 h2;rw[e0]at lo;have h0:aG prog 17 [.int .i64 0,.int .i64 0,.int .i64 0] (bE 0):=aWM (a:=0) (b:=0) (c:=0) d_ d_ d_;have c3:=aXw (v:=(0:V3 K)) (n:=1) Cr d_;rw[aJ rfl]at c3;exact dj func4 aC 77 (λw=>[.step 11 (au Tryz.f4 11) [.func (.func 6) #[] #[]] [] b_ [] (dD JN .nil (x:=.func 6) k_ k_ rfl),.step 14 (au Tryz.f4 14) [.func (.func 16) #[] #[],wA ps.length (aZ ps).length,vI 8] (yW ps) b_ [] (dD JH (A7 (.p rfl .nil)) (x:=.func 16) k_ k_ rfl),h0.at 16,.step 19 (au Tryz.f4 19) [cK 2] [(2,some (.fact (jd (ee ps))))] (vI (ee ps).length) [] (vN k_ (tP.full _)),.code 0 _ _ _ _ _ (lo _),c3.at 76])
end
section
variable{rs:List RP}{vs:List RV}{fs:f_}
theorem aVH(JN:cy prog 6 [] b_)(h:cy prog 16 [gK rs vs fs,.p (vI 8)] a_):cy prog 4 [gK rs vs fs] b_:=by
 have aC:([gK rs vs fs].all aP.ok)=true:=by have e:(gK rs vs fs).ok=true:=Ry rs vs fs;simp only[eC,e7,e,iA]
 unfold gK at *;exact jC mixed func4 aC 400 (N:=77) k_ (λw=>[.step 11 (au Tryz.f4 11) [.func (.func 6) #[] #[]] [] b_ [] (dD JN .nil (x:=.func 6) k_ k_ rfl),.step 14 (au Tryz.f4 14) [.func (.func 16) #[] #[],sA rs.length vs.length,vI 8] (RC rs vs fs) a_ [] (dD h (X0 (.p rfl .nil)) (x:=.func 16) k_ k_ rfl)]) (λ_=>k_) k_
theorem aVI(JN:cy prog 6 [] b_)(JE:rs.length<9223372036854775807)(iW:vs.length<9223372036854775807)(rl:fs.length<9223372036854775807):cy prog 4 [gK rs vs fs] b_:=by
 rcases aU9 (n:=8) d_ JE iW rl with h|⟨ps,h,h8,rfl,rfl,rfl,JH⟩
 ·exact aVH JN h
 rw[aVb]at JH ⊢;exact cy.aTR (aVG h JN (cy.Xo JH (tP.full _).G)) (aTQ ps)
end
end
end Go.Proofs.YthjhinbiabcfiaaGreatDoor
