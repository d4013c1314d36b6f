/- Weights of solids: the proof of MeasureWeightsCardSaid (the law's function answers true at every record and all densities it can be given; theorem measureWeights_card, last part), part 6 of 7; no condition. -/
import Derived.Test.YtmocejjfkdcgkaaGreatDoorMW5
namespace Go.Proofs.YtmocejjfkdcgkaaGreatDoor
open Go Go.RowKit Tryz
variable{i m k a j d N np n2:Nat}{o:Oper}{Bs:aa}{t:Bool}{Os cx:aL}{xs eU xp:ak}{fn:Func}{l:List aR}{fs:f_}
section
open V3 (dot af aW smul)
section
variable{P:j_}{N:Nat}
theorem aU3{f:FuncId}{c:Code}{v:i_}(hf:P.funcs[f]?=some fn)(hb:fn.body=some c)(hN:N=(eC 0 l).length+(fn.ntmps-(eC 0 l).length))(hl:(l.all aR.ok)=true)
  (h:∀ w ι cc a,fR (aa.at w) ι (bJ (jh 0 (eC 0 l))) N a->aO (aa.at w) ι cc w->cY cc (ja 0 l)->eF cc (jo 0 l)->c.wpIn (FW none) 0 P (bodyPostM (FW none) 0 P fn λe w'=>e=.returned v/\Below w.heap.size w w') a w):cE P f l v:=by
 intro w args cz;obtain⟨ι,cc,h1,h2,h3,h4,h5,h6,h7⟩:=wS cz (bB.1 hl) 0 _ _ (rG w) n_ (λ_ _=>rfl);refine Kd.1 (callsIn_of_wp_marks (F:=FW none) (n:=0) hf hb trivial (h w ι cc _ ?_ h2 h4 h3));have:=aCi (B:=aa.at w) (fn:=fn) (N:=N) h6 hN rfl;simpa using this
theorem aU4{S:Nat->Prop}{m:Map}(h:∀ b,S b↔∃ k x o cap,ag Os k=some x/\m k=some (.at b o cap))(hk:∀ k,ag cx k=none↔ag Os k=none):∀ b,S b↔∃ k x o cap,ag cx k=some x/\m k=some (.at b o cap):=λb=>by
 have go:∀{L L':aL} {k:Nat} {x:Obj},(ag L' k=none->ag L k=none)->ag L k=some x->∃ y,ag L' k=some y:=λ{L L' k x} h e=>by
  cases e':ag L' k with
  |none=>rw[h e']at e;cases e
  |some y=>exact⟨y,rfl⟩
 rw[h b];constructor
 ·rintro⟨k,x,o,cap,e1,e2⟩
  obtain⟨y,e3⟩:=go (hk k).1 e1;exact⟨k,y,o,cap,e3,e2⟩
 ·rintro⟨k,x,o,cap,e1,e2⟩
  obtain⟨y,e3⟩:=go (hk k).2 e1;exact⟨k,y,o,cap,e3,e2⟩
theorem aU5{m:Map}(h:∀ k x,ag Os k=some x->m k≠none)(hk:∀ k,ag cx k=none↔ag Os k=none):∀ k x,ag cx k=some x->m k≠none:=λk x e=>by
 cases e':ag Os k with
 |none=>rw[(hk k).2 e']at e;cases e
 |some y=>exact h k y e'
end
theorem aU6{s x:K}{n:Nat}(hs:Sz m s)(hx:Sz n x)(cN:m+n<aD):yx prog 95 20 ([bI x]++[cq 5]) [(5,.aM (de s).cs 34)] [] (.tuple #[]) [(5,.aM (de (s+x)).cs 34)]:=
 o6 mixed func95 100 (N:=6) k_ (λ_=>[(ti hs hx cN).at 5]) (λ_=>k_)
theorem aU7{F:Fact}:yx prog 56 7 ([.agg #[sl 0 np,sl 1 n2,eg 2]]++[]) [] [(0,.view xp),(1,.view eU),(2,.fact F)] (.func (.func 111) #[] #[cq 7]) [(7,.aM [sl 0 np,sl 1 n2,eg 2] 26)]:=
 o6 mixed func56 100 (N:=4) k_ (λ_=>[]) (λ_=>k_)
section
variable{ps:c_}{vs:e_}{fs:f_}{xp:ak}{np:Nat}{s:K}{p q r:V3 K}
def aU8(p q r:V3 K):Value:=.agg ((cK p).cs++(cK q).cs++(cK r).cs).toArray
def lJ(np nv:Nat)(s:K):aL:=[(5,.aM (de s).cs 34),(6,.aM [.func (.func 95) #[] #[cq 5]] 110),(7,.aM [sl 0 np,sl 1 nv,eg 2] 26),(4,.aM wb.cs 34)]
def pf(xp:ak)(vs:e_)(fs:f_):aL:=[(0,.view xp),(1,.view (aV vs)),(2,.fact (jE fs))]
def Bj:aX:=[(2,cq 4),(3,cq 5),(4,cq 6),(9,.func (.func 111) #[] #[cq 7])]
theorem aHb(jZ:xp.all flat=true):((lJ np vs.length s++pf xp vs fs).all λp=>Nat.blt p.1 8&&mY (8+1) p)=true:=by have e1:=rX (m:=9) (k:=5) (x:=.aM (de s).cs 34) λv hv=>bB.1 (show((de s).cs.all flat)=true from k_) v hv;have e2:=rX (m:=9) (k:=0) (x:=.view xp) λv hv=>bB.1 jZ v hv;have e3:=rX (m:=9) (k:=1) (x:=.view (aV vs)) λv hv=>bB.1 (ee vs) v hv;simp only[lJ,pf,BX,jg,dL,eX,e1,e2,e3];rfl
theorem aU9:((lJ np vs.length s).all (mY (8+1)))=true:=by have e1:=rX (m:=9) (k:=5) (x:=.aM (de s).cs 34) λv hv=>bB.1 (show((de s).cs.all flat)=true from k_) v hv;simp only[lJ,dL,eX,e1];rfl
theorem aVa{n:Nat}(hp:aI m p)(hq:aI m q)(hr:aI m r)(hs:Sz n s)(hm:15*m+50<aD)(cN:n+(15*m+41)<aD)(jZ:xp.all flat=true):
  Lp prog 8 23 #[10] (D7 (tz f41)) (D8 (tz f41)) Bj (lJ np vs.length s) (pf xp vs fs) (lJ np vs.length (s+aW p q r)) [aU8 p q r] none:=by
 have hd:Sz (15*m+41) (aW p q r):=(hp.dot (hq.af hr)).mono o_;have VK:=Ra hp hq hr o_;have MD:=aU6 hs hd cN;generalize aW p q r=x at *
 exact Lx (rA:=⟨.normal,(5,cq 9)::Bj,(9,.aM ((cK p).cs++(cK q).cs++(cK r).cs) 87)::(lJ np vs.length s++pf xp vs fs),10⟩) (rB:=⟨.normal,[],lJ np vs.length (s+x),10⟩)
  k_ rfl k_ (aHb jZ) aU9 k_ k_ k_ k_ (λB=>fD mixed 10 [] k_) rfl k_ rfl
  (λB=>fD mixed 10 [VK.at 18,.step 19 _ _ _ _ _ (L3 (K:=20) (args:=[bI x]) (ca:=[cq 5]) (x:=.tmp 11) (o:=aw f41 19) MD k_ k_ k_ k_ k_ k_ k_ k_ k_ k_)] k_) (λk y h=>h) rfl
end
section
variable{vs:e_}{xp:ak}{np:Nat}
def nZ(s:K)(l:e_):Nat->K
 |0=>s
 |t+1=>nZ s l t+aW ((l[0]?).getD 0) ((l[t+1]?).getD 0) ((l[t+2]?).getD 0)
def C5(vs:e_)(Ls:List (List Nat)):Nat->K
 |0=>0
 |i+1=>nZ (C5 vs Ls i) (kN vs ((Ls[i]?).getD [])) (((Ls[i]?).getD []).length-2)
variable{fs:f_}{m:Map}{S:Nat->Prop}{T:p_}{W1:h_}{l D:Nat}{cS:FuncId}
noncomputable abbrev aHc:=tz f41
noncomputable def l5(l:Nat)(cS:FuncId)(T:p_)(D:Nat):Obj:=.fact (fG l (j4 cS T #[10] (D7 aHc) (D8 aHc) D))
def R6(n t:Nat)(l:Nat):aX:=[(6,vI t),(5,sl 12 n),(0,.func (.yield l) #[] #[])]
def E3(np:Nat)(vs:e_)(xp:ak)(fs:f_)(dM:e_)(s:K)(r:Obj):aL:=(12,.row (aV dM) 44 30)::(8,r)::(lJ np vs.length s++pf xp vs fs)
theorem aVb{q n t:Nat}{s:K}{dM:e_}(fU:Af prog 8 23 Bj (lJ np vs.length 0) m S T)(hp:∀ p∈dM,aI q p)(hs:Sz n s)(ht:t+2<dM.length)(hm:15*q+50<aD)(cN:n+(15*q+41)<aD)(jZ:xp.all flat=true)(h63:dM.length<1000000):
  ai prog (k6 W1 l S m) 40 (aJ (ah f111 2)) (R6 dM.length (t+2) l) (E3 np vs xp fs dM s (l5 l cS T D)) 13
   ⟨.normal,R6 dM.length (t+1+2) l,E3 np vs xp fs dM (s+aW ((dM[0]?).getD 0) ((dM[t+1]?).getD 0) ((dM[t+2]?).getD 0)) (l5 l cS T D),13⟩:=by
 have h0:=bo (l:=dM) (i:=0) o_;have h1:=bo (l:=dM) (i:=t+1) o_;have h2:=bo (l:=dM) (i:=t+2) ht;have s0:=hp _ (dB (l:=dM) (n:=0) o_);have s1:=hp _ (dB (l:=dM) (n:=t+1) o_);have s2:=hp _ (dB (l:=dM) (n:=t+2) ht);rw[h0,h1,h2];show ai _ _ _ _ _ _ _ ⟨_,_,E3 np vs xp fs dM (s+aW dM[0] dM[t+1] dM[t+2]) _,_⟩;generalize dM[0]=a at *;generalize dM[t+1]=x at *;generalize dM[t+2]=y at *;have hk:∀ k,ag (lJ np vs.length s) k=none↔ag (lJ np vs.length 0) k=none:=Aj rfl;have st:=Lq (W1:=W1) (l:=l) (D:=D) (cS:=cS) (x:=.tmp 23) (o:=aw f111 37) (aVa (np:=np) (vs:=vs) (fs:=fs) s0 s1 s2 hs hm cN jZ) k_ fU.size fU.jh fU.low (aU4 fU.set hk) (aU5 fU.born hk);have w1:IntKind.i64.wrap (((t+2:Nat):Int)-1)=((t+1:Nat):Int):=by rw[dh];omega
 unfold l5;exact aE [.lt 20 (t+2) dM.length true (aH ht),.dj f111 25 12 dM.length 0 30 o_ k_,.ld f111 26 44 12 (0*30) (.row (aV dM) 44 30) (bZ a) rfl (mE h0) k_,.wr 29 .i64 (((t+2:Nat):Int)-1) ((t+1:Nat):Int) w1,.dj f111 30 12 dM.length (t+1) 30 o_ k_,.ld f111 31 44 12 ((t+1)*30) (.row (aV dM) 44 30) (bZ x) rfl (mE h1) k_,.dj f111 34 12 dM.length (t+2) 30 ht k_,.ld f111 35 44 12 ((t+2)*30) (.row (aV dM) 44 30) (bZ y) rfl (mE h2) k_,.step 37 _ _ _ _ _ st,.sum 22 (t+2) 1 (t+1+2) o_ o_]
theorem Yy{q n:Nat}{s:K}{dM:e_}(hp:∀ p∈dM,aI q p)(hs:Sz n s):∀ t,t+2<=dM.length->Sz (n+t*(15*q+42)) (nZ s dM t)
 |0,_=>by rw[lP,jf];exact hs
 |t+1,h=>by have ih:=Yy hp hs t o_;unfold nZ;rw[bo (l:=dM) (i:=0) o_,bo (l:=dM) (i:=t+1) o_,bo (l:=dM) (i:=t+2) o_];have hd:Sz (15*q+41) (aW dM[0] dM[t+1] dM[t+2]):=((hp _ (dB _)).dot ((hp _ (dB _)).af (hp _ (dB _)))).mono o_;exact(ih.add hd).mono (by rw[sS t];omega)
theorem aVc{q n:Nat}{s:K}{dM:e_}(fU:Af prog 8 23 Bj (lJ np vs.length 0) m S T)(hp:∀ p∈dM,aI q p)(hs:Sz n s)(h2:2<=dM.length)(hm:15*q+50<aD)(cN:n+(dM.length+1)*(15*q+42)<aD)(jZ:xp.all flat=true)(h63:dM.length<1000000):
  ai prog (k6 W1 l S m) 40 (.block 2 (ah f111 2)) (R6 dM.length 2 l) (E3 np vs xp fs dM s (l5 l cS T D)) 13
   ⟨.normal,[],E3 np vs xp fs dM (nZ s dM (dM.length-2)) (l5 l cS T D),13⟩:=by
 obtain⟨c,hc⟩:∃ c,dM.length=c+2:=⟨dM.length-2,by omega⟩;have e:dM.length-2=c:=by omega
 rw[e];refine cd (id:=2) (cA (r:=⟨.exit 2,[],E3 np vs xp fs dM (nZ s dM c) (l5 l cS T D),13⟩) c (λt=>R6 dM.length (t+2) l) (λt=>E3 np vs xp fs dM (nZ s dM t) (l5 l cS T D)) (λi k _=>Aj (by rfl) k) (λt ht=>?_) ?_ n_)
 ·have hle:n+t*(15*q+42)+(15*q+41)<aD:=by have h1:(t+1)*(15*q+42)<=(dM.length+1)*(15*q+42):=eV _ o_;rw[sS t]at h1;generalize t*(15*q+42)=z at *;omega
  exact aVb fU hp (Yy hp hs t o_) o_ hm hle jZ h63
 ·rw[hc];unfold l5;generalize nZ s dM c=z at *;exact aE [.lt 20 (c+2) (c+2) false s_]
noncomputable def Hu(n i:Nat)(l:Nat):aX:=[(10,vI i),(8,eg 2),(9,vI n),(0,.func (.yield l) #[] #[]),(1,cq 7)]
noncomputable def qp(np:Nat)(vs:e_)(xp:ak)(fs:f_)(s:K)(r:Obj):aL:=(8,r)::(lJ np vs.length s++pf xp vs fs)
theorem aVd{s:K}(jZ:xp.all flat=true):∀ x∈qp np vs xp fs s (l5 l cS T D),fV 9 x.2:=λx hx=>by
 rcases cC.1 hx with rfl|hx
 ·exact n_
 ·have:=bB.1 (aHb (fs:=fs) (np:=np) (s:=s) (vs:=vs) jZ) x hx;rw[dr]at this;exact Ak this.2
theorem aVe{q n:Nat}{s:K}{k:Int}{L:l_}(fU:Af prog 8 23 Bj (lJ np vs.length 0) m S T)(hi:i<fs.length)(hf:fs[i]?=some (k,kf L))(hL:∀ x∈L,x<vs.length)(hp:∀ p∈vs,aI q p)(hs:Sz n s)(h2:2<=L.length)(hm:15*q+50<aD)(cN:n+(L.length+1)*(15*q+42)<aD)(jZ:xp.all flat=true)(EI:np=0->xp=[])(h63:L.length<1000000)(tT:fs.length<1000000):
  ai prog (k6 W1 l S m) 40 (aJ (ah f111 0)) (Hu fs.length i l) (qp np vs xp fs s (l5 l cS T D)) 9
   ⟨.normal,Hu fs.length (i+1) l,qp np vs xp fs (nZ s (kN vs L) (L.length-2)) (l5 l cS T D),9⟩:=by
 have hlen:(kN vs L).length=L.length:=eH ..;have iG:(kf L).length=L.length:=eH ..;have GS:∀ p∈kN vs L,aI q p:=λp fE=>by obtain⟨x,hx,rfl⟩:=db.1 fE;exact hp _ (cL (kJ (hL x hx)))
 have lo:=aVc (W1:=W1) (l:=l) (cS:=cS) (D:=D) (fs:=fs) (vs:=vs) (np:=np) (xp:=xp) fU GS hs o_ hm (by rw[hlen];exact cN) jZ o_;have Ar:=aU2 (np:=np) (F:=jE fs) (i:=k) (u:=iV k) rfl hL h63 jZ rfl;rw[hlen]at lo;rw[iG]at Ar;have dJ:=λz=>aVd (vs:=vs) (fs:=fs) (np:=np) (xp:=xp) (l:=l) (cS:=cS) (T:=T) (D:=D) (s:=z) jZ;unfold E3 at lo;unfold qp at *;unfold l5 at *;have cR:=ee (kN vs L);generalize nZ s (kN vs L) (L.length-2)=z at *;generalize kN vs L=a at *;exact vn mixed 100 (gH:=13) [.lt 11 i fs.length true (aH hi),.step 12 (aw f111 12) [eg 2,vI i] [(9,none),(9+1,none),(2,some (.fact (jE fs)))] (cq 9) [(9,.view [iV k,eg 10]),(9+1,.fact (jG (kf L)))] (Yh k_ (Bi.full fs) hf d_),.step 16 (aw f111 16) [.func (.func 112) #[] #[],.agg #[sl 0 np,sl 1 vs.length,eg 2],.agg #[iV k,eg 10]] [(12,none),(0,some (.view xp)),(1,some (.view (aV vs))),(2,some (.fact (jE fs))),(10,some (.fact (jG (kf L))))] (sl 12 L.length) [(12,.row (aV a) 44 30)]
   (rR Ar (.s (x1:=.view xp) (x2:=.view (aV vs)) rfl jZ EI rfl (ee vs) w9 (.c rfl (λ_ _ h=>h) .nil)) (x:=.func 112) k_ k_ cR 12),
  .code 2 _ _ _ _ _ lo,.sum 39 i 1 (i+1) rfl o_] k_ rfl k_ (dJ z) k_
end
section
variable{vs:e_}{xp:ak}{np:Nat}{m:Map}{S:Nat->Prop}{T:p_}{W1 W:h_}{l D:Nat}{cS:FuncId}{Fs:List (Nat×List Nat)}{q M:Nat}
structure Bk(vs:e_)(Fs:List (Nat×List Nat))(q M:Nat):Prop where
 len:∀ f∈Fs,2<=f.2.length/\f.2.length<=M
 idx:∀ f∈Fs,∀ x∈f.2,x<vs.length
 sz:∀ p∈vs,aI q p
 gH:2+(Fs.length+2)*((M+1)*(15*q+50))<aD
 few:Fs.length<1000000
 many:M<1000000
theorem Bk.x(h:Bk vs Fs q M):15*q+50<aD:=by have:=h.gH;have h1:1*(1*(15*q+50))<=(Fs.length+2)*((M+1)*(15*q+50)):=qG o_ (eV _ o_);rw[pv,pv]at h1;omega
theorem Bk.y(h:Bk vs Fs q M){i:Nat}(hi:i<Fs.length){n:Nat}(hn:n<=M):2+i*((M+1)*(15*q+50))+(n+1)*(15*q+42)<aD:=by have:=h.gH;have h1:(i+1)*((M+1)*(15*q+50))<=(Fs.length+2)*((M+1)*(15*q+50)):=eV _ o_;rw[sS i]at h1;have h2:(n+1)*(15*q+42)<=(M+1)*(15*q+50):=qG o_ o_;generalize (M+1)*(15*q+50)=z at *;generalize (n+1)*(15*q+42)=y at *;generalize i*z=a at *;omega
theorem aHd(vs:e_)(Fs:List (Nat×List Nat))(i:Nat)(f:Nat×List Nat)(hf:Fs[i]?=some f):C5 vs (Fs.map (·.2)) (i+1)=nZ (C5 vs (Fs.map (·.2)) i) (kN vs f.2) (f.2.length-2):=by show nZ _ (kN vs (((Fs.map (·.2))[i]?).getD [])) ((((Fs.map (·.2))[i]?).getD []).length-2)=_;rw[vi,hf];rfl
theorem R7(h:Bk vs Fs q M):∀ i,i<=Fs.length->Sz (2+i*((M+1)*(15*q+50))) (C5 vs (Fs.map (·.2)) i)
 |0,_=>(qe (z:=0) (n:=2) d_ d_).mono o_
 |i+1,hi=>by
  have ih:=R7 h i o_;have hf:Fs[i]?=some Fs[i]:=bo o_;have hm:=dB (l:=Fs) (n:=i) o_;unfold C5;rw[vi,hf];show Sz _ (nZ _ (kN vs Fs[i].2) (Fs[i].2.length-2));have hlen:(kN vs Fs[i].2).length=Fs[i].2.length:=eH ..;have hl:=h.len _ hm;refine(Yy (q:=q) (λp hp=>?_) ih (Fs[i].2.length-2) o_).mono ?_
  ·obtain⟨x,hx,rfl⟩:=db.1 hp;exact h.sz _ (cL (kJ (h.idx _ hm x hx)))
  ·rw[sS i];have h2:(Fs[i].2.length-2)*(15*q+42)<=(M+1)*(15*q+50):=qG o_ o_;generalize (M+1)*(15*q+50)=z at *;generalize (Fs[i].2.length-2)*(15*q+42)=y at *;generalize i*z=a at *;omega
theorem aVf{z:Nat->K}(h:Bk vs Fs q M)(hz:∀(i:Nat) (f:Nat×List Nat),Fs[i]?=some f->z (i+1)=nZ (z i) (kN vs f.2) (f.2.length-2))(bH:∀ i,i<=Fs.length->Sz (2+i*((M+1)*(15*q+50))) (z i))(fU:Af prog 8 23 Bj (lJ np vs.length 0) m S T)(jZ:xp.all flat=true)(EI:np=0->xp=[]):
  ai prog (k6 W1 l S m) 40 (.block 0 (ah f111 0)) (Hu (Fs.map fB).length 0 l) (qp np vs xp (Fs.map fB) (z 0) (l5 l cS T D)) 9
   ⟨.normal,[],qp np vs xp (Fs.map fB) (z (Fs.map fB).length) (l5 l cS T D),9⟩:=by
 have hlen:(Fs.map fB).length=Fs.length:=eH ..;have hk:∀(i k:Nat),ag (qp np vs xp (Fs.map fB) (z i) (l5 l cS T D)) k=none↔ag (qp np vs xp (Fs.map fB) (z 0) (l5 l cS T D)) k=none:=λi k=>Aj (by unfold qp lJ;rfl) k;have ui:∀ y:K,ai prog (k6 W1 l S m) 40 (aJ (ah f111 0)) (Hu (Fs.map fB).length (Fs.map fB).length l) (qp np vs xp (Fs.map fB) y (l5 l cS T D)) 9 ⟨.exit 0,[],qp np vs xp (Fs.map fB) y (l5 l cS T D),9⟩:=λy=>by unfold qp l5;exact aE [.lt 11 (Fs.map fB).length (Fs.map fB).length false s_]
 have aVg:∀ i,i<(Fs.map fB).length->ai prog (k6 W1 l S m) 40 (aJ (ah f111 0)) (Hu (Fs.map fB).length i l) (qp np vs xp (Fs.map fB) (z i) (l5 l cS T D)) 9 ⟨.normal,Hu (Fs.map fB).length (i+1) l,qp np vs xp (Fs.map fB) (z (i+1)) (l5 l cS T D),9⟩:=λi hi=>by
  have gu:i<Fs.length:=by omega
  have hf:Fs[i]?=some Fs[i]:=bo gu;have hm:=dB (l:=Fs) (n:=i) gu;generalize Fs[i]=f at *;have hl:=h.len _ hm;rw[hz i f hf];exact aVe (W1:=W1) (l:=l) (cS:=cS) (D:=D) (xp:=xp) (np:=np) (fs:=Fs.map fB) (i:=i) (s:=z i) (k:=(f.1:Int)) (L:=f.2) fU hi (by rw[vi,hf];rfl) (h.idx _ hm) h.sz (bH i o_) hl.1 h.x (h.y gu hl.2) jZ EI (by have:=h.many;omega) (by rw[hlen];exact h.few)
 exact cd (id:=0) (cA (P:=prog) (B:=k6 W1 l S m) (N:=40) (Fs.map fB).length (λi=>Hu (Fs.map fB).length i l) (λi=>qp np vs xp (Fs.map fB) (z i) (l5 l cS T D)) (λi k _=>hk i k) aVg (ui _) n_)
theorem aVh{z:Nat->K}(h:Bk vs Fs q M)(hz:∀(i:Nat) (f:Nat×List Nat),Fs[i]?=some f->z (i+1)=nZ (z i) (kN vs f.2) (f.2.length-2))(bH:∀ i,i<=Fs.length->Sz (2+i*((M+1)*(15*q+50))) (z i))(xx:z 0=0)(fU:Af prog 8 23 Bj (lJ np vs.length 0) m S T)(jZ:xp.all flat=true)(EI:np=0->xp=[])
  {κ:Map} {c:g_} {eh:ak} (hm:aO (k6 W1 l S m) κ c W) (ha:cY c (qp np vs xp (Fs.map fB) 0 (l5 l cS T D))) (hu:eF c (8+1)) (fA:bW (aK κ) [cq 7] eh) :
  Calls prog 111 (.func (.yield l) #[] #[]::eh).toArray W λe W'=>∃ v qO c',e=.returned v/\Map.le κ qO/\aO (k6 W1 l S m) qO c' W'/\cY c' (qp np vs xp (Fs.map fB) (z (Fs.map fB).length) (l5 l cS T D))/\∀ k,k<8->c k=none->c' k=none:=by
 have lo:=aVf (W1:=W1) (l:=l) (cS:=cS) (D:=D) h hz bH fU jZ EI;rw[xx]at lo;unfold qp at *;unfold l5 at *;generalize z (Fs.map fB).length=y at *;generalize Fs.map fB=fs at *;exact D9 (N:=40) (ca:=[cq 7]) mixed func111 k_ 100 (v:=.tuple #[]) (rs:=[.step 9 (aw f111 9) [eg 2] [(2,some (.fact (jE fs)))] (vI fs.length) [] (Ho k_ (Bi.full fs)),.code 0 _ _ _ _ _ lo]) hm ha hu fA k_
end
theorem Yz{p q:Int}{n:Nat}(hq:q≠0)(h1:p.natAbs<2^n)(h2:q.natAbs<2^n)(hn:n<=63):aF prog 39 [.int .i64 p,.int .i64 q] (bI (fK p q)):=by have rt:=aBT hq h1 h2 hn;rw[<-Qr hq]at rt;generalize fK p q=k at *;exact aN func39 (λ_=>[rt.at 10])
section
variable{vs:e_}{xp:ak}{np:Nat}{Fs:List (Nat×List Nat)}{q M:Nat}
def JY(np:Nat)(xp:ak)(vs:e_)(Fs:List (Nat×List Nat)):aR:=.s np xp vs.length (aV vs) (jE (Fs.map fB))
noncomputable def JZ(vs:e_)(Fs:List (Nat×List Nat)):K:=C5 vs (Fs.map (·.2)) (Fs.map fB).length*fK 1 6
theorem aVi{s:K}(jZ:xp.all flat=true):((lJ np vs.length s++pf xp vs fs).all (mY 8))=true:=by have e1:=rX (m:=8) (k:=5) (x:=.aM (de s).cs 34) λv hv=>bB.1 (show((de s).cs.all flat)=true from k_) v hv;have e2:=rX (m:=8) (k:=0) (x:=.view xp) λv hv=>bB.1 jZ v hv;have e3:=rX (m:=8) (k:=1) (x:=.view (aV vs)) λv hv=>bB.1 (ee vs) v hv;simp only[lJ,pf,BX,jg,dL,eX,e1,e2,e3];rfl
theorem aVj(jZ:xp.all flat=true):(([]++pf xp vs fs).all λp=>Nat.blt p.1 7&&mY 7 p)=true:=by have e2:=rX (m:=7) (k:=0) (x:=.view xp) λv hv=>bB.1 jZ v hv;have e3:=rX (m:=7) (k:=1) (x:=.view (aV vs)) λv hv=>bB.1 (ee vs) v hv;simp only[pf,jg,dL,eX,e2,e3];rfl
theorem aVk(h:Bk vs Fs q M)(jZ:xp.all flat=true)(EI:np=0->xp=[]):cE prog 41 [JY np xp vs Fs] (bI (JZ vs Fs)):=by
 have aC:([JY np xp vs Fs].all aR.ok)=true:=by show((xp.all flat&&((aV vs).all flat&&true))&&true)=true;rw[jZ,ee];rfl
 have hlen:(Fs.map fB).length=Fs.length:=eH ..;have hs:=(R7 h (Fs.map fB).length (u5 hlen)).mono (n:=2+Fs.length*((M+1)*(15*q+50))) (by rw[hlen];exact bC _);have aW4:2+Fs.length*((M+1)*(15*q+50))+40<aD:=by have:=h.gH;have h1:(Fs.length+1)*((M+1)*(15*q+50))<=(Fs.length+2)*((M+1)*(15*q+50)):=eV _ o_;rw[sS Fs.length]at h1;have h2:1*50<=(M+1)*(15*q+50):=qG o_ o_;generalize (M+1)*(15*q+50)=z at *;generalize Fs.length*z=a at *;omega
 have hr:Sz 3 (fK 1 6):=GD d_ d_ d_;have mr:=Yz (p:=1) (q:=6) (n:=3) d_ d_ d_ d_;have ml:=nO hs hr o_;have h0:aF prog 94 [.int .i64 0] (bI 0):=by have:=rO (z:=0) d_;exact this
 have body:∀ w ι cc a,fR (aa.at w) ι (bJ (jh 0 (eC 0 [JY np xp vs Fs]))) 23 a->aO (aa.at w) ι cc w->cY cc (ja 0 [JY np xp vs Fs])->eF cc (jo 0 [JY np xp vs Fs])->
   ((f41).body.getD .skip).wpIn (FW none) 0 prog (bodyPostM (FW none) 0 prog f41 λe w'=>e=.returned (bI (JZ vs Fs))/\Below w.heap.size w w') a w:=by
  intro w ι cc a hf hm ha hu;have vh:=λ(cS l D:Nat) (W1:h_) (S:Nat->Prop) (m:Map) (T:p_) (fU:Af prog 8 23 Bj (lJ np vs.length 0) m S T) (κ:Map) (c:g_) (W:h_) (eh:ak)=>aVh (W:=W) (W1:=W1) (l:=l) (D:=D) (cS:=cS) (xp:=xp) (np:=np) (S:=S) (m:=m) (T:=T) (κ:=κ) (c:=c) (eh:=eh) (z:=C5 vs (Fs.map (·.2))) h (aHd vs Fs) (R7 h) rfl fU jZ EI
  unfold JZ;unfold JY at *;generalize C5 vs (Fs.map (·.2)) (Fs.map fB).length=z at *;generalize Fs.map fB=fs at *;have g0:ai prog (aa.at w) 23 (Ai f41 0) (jh 0 (eC 0 [.s np xp vs.length (aV vs) (jE fs)])) (ja 0 [.s np xp vs.length (aV vs) (jE fs)]) 3 ⟨.normal,[(1,cq 3),(2,cq 4)],(3,.aM [sl 0 np,sl 1 vs.length,eg 2] 26)::(4,.aM wb.cs 34)::pf xp vs fs,5⟩:=aE [];have g1:ai prog (aa.at w) 23 (Ai f41 1) [(1,cq 3),(2,cq 4)] ((3,.aM [sl 0 np,sl 1 vs.length,eg 2] 26)::(4,.aM wb.cs 34)::pf xp vs fs) 5 ⟨.normal,[(1,cq 3),(2,cq 4),(3,cq 5)],(5,.aM (de 0).cs 34)::(3,.aM [sl 0 np,sl 1 vs.length,eg 2] 26)::(4,.aM wb.cs 34)::pf xp vs fs,6⟩:=aE [h0.at 6];have g2:ai prog (aa.at w) 23 (Ai f41 2) [(1,cq 3),(2,cq 4),(3,cq 5)] ((5,.aM (de 0).cs 34)::(3,.aM [sl 0 np,sl 1 vs.length,eg 2] 26)::(4,.aM wb.cs 34)::pf xp vs fs) 6 ⟨.normal,[(1,cq 3),(2,cq 4),(3,cq 5),(4,cq 6)],(5,.aM (de 0).cs 34)::(6,.aM [.func (.func 95) #[] #[cq 5]] 110)::(3,.aM [sl 0 np,sl 1 vs.length,eg 2] 26)::(4,.aM wb.cs 34)::pf xp vs fs,7⟩:=aE [];have g3:ai prog (aa.at w) 23 (Ai f41 3) [(1,cq 3),(2,cq 4),(3,cq 5),(4,cq 6)] ((5,.aM (de 0).cs 34)::(6,.aM [.func (.func 95) #[] #[cq 5]] 110)::(3,.aM [sl 0 np,sl 1 vs.length,eg 2] 26)::(4,.aM wb.cs 34)::pf xp vs fs) 7 ⟨.normal,Bj,lJ np vs.length 0++pf xp vs fs,8⟩:=aE [
   .step 9 _ _ _ _ _ (aOf (K:=7) (args:=[.agg #[sl 0 np,sl 1 vs.length,eg 2]]) (ca:=[]) (ns:=[7]) (Os:=[]) (Vs:=pf xp vs fs) (x:=.func 56) (o:=aw f41 9) aU7 k_ k_ k_ k_ (aVj jZ) (λp hp v hv=>by simp at hp;subst hp;have hv:v∈[sl 0 np,sl 1 vs.length,eg 2]:=hv;simp at hv;rcases hv with rfl|rfl|rfl<;>rfl) k_ (λp hp=>by simp at hp;subst hp;exact .inl rfl) k_ (aUX rfl))]
  have ge:∀ B,ai prog B 23 (.seq (Ai f41 6) .ret) Bj (lJ np vs.length z++pf xp vs fs) 8 ⟨.ret,[(2,cq 4)],[(4,.aM (de (z*fK 1 6)).cs 34)],8⟩:=λB=>aE [mr.at 21,ml.at 22];refine mR (g0 none _ _ a w _ hf hm ha hu λuj cc0 a0 w0 aCm BG kC oj zT yn _=>?_);refine mR (g1 none _ _ a0 w0 _ BG kC oj zT λbX gG a1 w1 jx iI c8 eG dT iA _=>?_);refine mR (g2 none _ _ a1 w1 _ iI c8 eG dT λdP rF a2 w2 lk jd dH gV e6 fP _=>?_);refine mR (mR (g3 none _ _ a2 w2 _ jd dH gV e6 λPL cc3 a3 w3 aW5 VV wm Cr Vb Vc _=>Kn ?_))
  refine Ve (next:=8) (Os:=lJ np vs.length 0) (Vs:=pf xp vs fs) (cx:=lJ np vs.length z) (gf:=111) (ca:=[cq 7]) (j:=none) VV wm Cr Vb (λk x h=>lT (p:=λp=>p.2.owns) k_ h) (λk x h=>lT (p:=λp=>p.2.soft) k_ h) k_ k_ k_ (Aj (by unfold lJ;rfl)) (λk x h=>lT (p:=λp=>p.2.owns) k_ h) (λk x h=>Ak (lT (p:=mY 8) (aVi jZ) h))
   (λcS l D W1 S fU κ c W eh hm ha hu fA=>vh cS l D W1 S _ _ fU κ c W eh hm ha hu fA) λD cr w' D5 hDw hf4 Vd ha4 hu4=>?_
  exact aCh (B:=aa.at w) (v:=bI (z*fK 1 6)) ge rfl k_ hf4 Vd ha4 hu4 rfl (λF h=>h) D5 λaz v' w' hc hG=>⟨by rw[hc.eZ rfl],hG⟩
 exact aU3 (N:=23) (c:=(f41).body.getD .skip) func41 k_ k_ aC body
end
end
variable{q:Nat}
section
open CR OF V3
section
variable{F:Type}[OF F]
def dN(y u n:V3 F):F:=-(dot n u*(dot n y)⁻¹)
theorem YA{y u n:V3 F}(h:dot n y≠0):dot n u=-(dN y u n*dot n y):=by unfold dN;rw[CR.neg_mul,CR.neg_neg,CR.mul_assoc,OF.inv_mul h,CR.mul_one]
theorem aHe(y u n:V3 F):dN y (-u) n=-dN y u n:=by unfold dN;rw[rS,CR.neg_mul]
theorem aHf{α:Type}(P:α->Prop)(f:α->F):∀ l:List α,(∃ m∈l,P m)->∃ m∈l,P m/\∀ r∈l,P r->f r<=f m
 |[],⟨_,h,_⟩=>by cases h
 |a::l,h=>by
  by_cases hl:∃ m∈l,P m
  ·obtain⟨m,h1,h2,h3⟩:=aHf P f l hl;by_cases ha:P a/\f m<f a
   ·refine⟨a,aT ..,ha.1,λr hr hp=>?_⟩;rcases cC.1 hr with rfl|hr
    ·exact OF.le_refl _
    ·exact OF.le_trans (h3 r hr hp) (OF.le_of_lt ha.2)
   ·refine⟨m,bF _ h1,h2,λr hr hp=>?_⟩;rcases cC.1 hr with rfl|hr
    ·exact OF.not_lt.1 λk=>ha ⟨hp,k⟩
    ·exact h3 r hr hp
  ·obtain⟨m,h1,h2⟩:=h;rcases cC.1 h1 with rfl|h1
   ·refine⟨m,aT ..,h2,λr hr hp=>?_⟩;rcases cC.1 hr with rfl|hr
    ·exact OF.le_refl _
    ·exact absurd ⟨r,hr,hp⟩ hl
   ·exact absurd ⟨m,h1,h2⟩ hl
theorem aHg{a b:F}(h:a<0)(k:b<0):0<a*b:=by have:=OF.mul_pos (OF.neg_pos.2 h) (OF.neg_pos.2 k);rwa[CR.neg_mul,CR.mul_neg,CR.neg_neg]at this
theorem nY.go{ps S:List (HS F)}(h:nY ps S){w r:V3 F}(hw:dZ ps w)(hr:∀ m∈S,cy m w->dot m.n r<=0):∀ q∈ps,cy q w->dot q.n r<=0:=by
 obtain⟨e,he,bh⟩:=RO (S.map λm=>if OF.aG (m.d-dot m.n w)=1 then(dot m.n r,m.d-dot m.n w)else(0,1)) λx hx=>by
  obtain⟨m,_,rfl⟩:=db.1 hx;split
  ·rename_i hs;exact OF.gk.2 hs
  ·exact OF.zero_lt_one
 have cz:dZ ps (w+smul r e):=(h.same _).1 λm hm=>by
  rw[jq,gC];have h1:dot m.n w<=m.d:=hw m (h.sub m hm);by_cases hs:OF.aG (m.d-dot m.n w)=1
  ·have:=bh _ (db.2 ⟨m,hm,rfl⟩);rw[aB hs]at this;have:=(OF.add_le_add_left (dot m.n w)).2 this;rwa[show dot m.n w+(m.d-dot m.n w)=m.d from jN (dot m.n w) m.d (λa d=>a+(d-a)) (λ_ d=>d) d_]at this
  ·have ht:cy m w:=OF.le_antisymm h1 (OF.not_lt.1 λk=>hs (OF.gk.1 (OF.sub_pos.2 k)));have h2:=OF.mul_nonneg (OF.neg_nonneg.2 (hr m hm ht)) (OF.le_of_lt he);rw[CR.neg_mul,OF.neg_nonneg]at h2;have:=OF.add_le_add h1 h2;rwa[CR.add_zero]at this
 intro q hq tq;have:=cz q hq;rw[jq,gC,show dot q.n w=q.d from tq]at this;apply OF.not_lt.1;intro k;have h2:=(OF.add_lt_add_left q.d).2 (OF.mul_pos k he);rw[CR.add_zero]at h2;exact OF.lt_irrefl _ (OF.lt_of_lt_of_le h2 this)
theorem R8{ps:List (HS F)}{x w:V3 F}(hx:wY ps x):∀ q∈ps,cy q w->dot q.n (x-w)<0:=λq hq tq=>by have:=hx q hq;rw[<-show dot q.n w=q.d from tq,<-OF.sub_pos]at this;rw[gT];rwa[<-OF.neg_sub,OF.neg_pos]at this
theorem nY.side{ps S:List (HS F)}(h:nY ps S){x w:V3 F}(hx:wY ps x)(hw:dZ ps w){a:HS F}(ha:a∈ps)(ta:cy a w)(u:V3 F):
  ∃ q∈S,cy q w/\∀ r∈ps,cy r w->dN (x-w) u r.n<=dN (x-w) u q.n:=by
 have neg:=R8 (w:=w) hx;have ne:∃ m∈S,cy m w:=by apply gR;intro fX;have h1:=h.go (r:=-(x-w)) hw (λm hm tm=>absurd ⟨m,hm,tm⟩ fX) a ha ta;rw[rS,OF.DT]at h1;exact OF.lt_irrefl _ (OF.lt_of_lt_of_le (neg a ha ta) h1)
 obtain⟨q,hq,tq,vL⟩:=aHf (λm=>cy m w) (λm=>dN (x-w) u m.n) S ne;refine⟨q,hq,tq,λr hr tr=>?_⟩;have dir:∀ m∈ps,cy m w->dot m.n (u+smul (x-w) (dN (x-w) u q.n))=dot m.n (x-w)*(dN (x-w) u q.n-dN (x-w) u m.n):=λm hm tm=>by rw[jq,gC,YA (OF.ne_of_lt (neg m hm tm))];generalize dot m.n (x-w)=b;generalize dN (x-w) u q.n=s;generalize dN (x-w) u m.n=t;exact ku b s t (λb s t=>-(t*b)+b*s) (λb s t=>b*(s-t)) d_
 have:=h.go (r:=u+smul (x-w) (dN (x-w) u q.n)) hw (λm hm tm=>by have bE:=h.sub m hm;rw[dir m bE tm];have:=OF.mul_nonneg (OF.le_of_lt (OF.neg_pos.2 (neg m bE tm))) (OF.sub_nonneg.2 (vL m hm tm));rwa[CR.neg_mul,OF.neg_nonneg]at this) r hr tr
 rw[dir r hr tr]at this;apply OF.not_lt.1;intro k;have h2:dN (x-w) u q.n-dN (x-w) u r.n<0:=by rw[<-OF.neg_pos,OF.neg_sub];exact OF.sub_pos.2 k
 exact OF.lt_irrefl _ (OF.lt_of_lt_of_le (aHg (neg r hr tr) h2) this)
theorem aVl(n d y u v:V3 F):dot n v*aW d y u=dot n d*aW v y u+dot n y*aW d v u+dot n u*aW d y v:=
 ring [n,d,y,u,v] [] (λV _=>dot (V 0) (V 4)*aW (V 1) (V 2) (V 3)) (λV _=>dot (V 0) (V 1)*aW (V 4) (V 2) (V 3)+dot (V 0) (V 2)*aW (V 1) (V 4) (V 3)+dot (V 0) (V 3)*aW (V 1) (V 2) (V 4)) d_
theorem aVm(d y u v:V3 F):smul v (aW d y u)=smul d (aW v y u)+smul y (aW d v u)+smul u (aW d y v):=
 hY [d,y,u,v] [] (λV _=>smul (V 3) (aW (V 0) (V 1) (V 2))) (λV _=>smul (V 0) (aW (V 3) (V 1) (V 2))+smul (V 1) (aW (V 0) (V 3) (V 2))+smul (V 2) (aW (V 0) (V 1) (V 3))) d_
theorem aVn(d y u n:V3 F):smul n (aW d y u)=smul (af y u) (dot n d)+smul (af u d) (dot n y)+smul (af d y) (dot n u):=
 hY [d,y,u,n] [] (λV _=>smul (V 3) (aW (V 0) (V 1) (V 2))) (λV _=>smul (af (V 1) (V 2)) (dot (V 3) (V 0))+smul (af (V 2) (V 0)) (dot (V 3) (V 1))+smul (af (V 0) (V 1)) (dot (V 3) (V 2))) d_
theorem aHh{n d y u:V3 F}(hd:dot n d=0)(hb:dot n y<0)(v:V3 F):dot n v*aW d y u=dot n y*(aW d v u-dN y u n*aW d y v):=by rw[aVl,hd,YA (u:=u) (OF.ne_of_lt hb)];generalize dot n y=b;generalize dN y u n=s;generalize aW d v u=e;generalize aW d y v=x;generalize aW v y u=z;exact Iy b s e x z (λb s e x z=>0*z+b*e+-(s*b)*x) (λb s e x z=>b*(e-s*x)) d_
theorem aHi{n d y u v:V3 F}(D:0<aW d y u)(hd:dot n d=0)(hb:dot n y<0)(h:dot n v<=0):dN y u n*aW d y v<=aW d v u:=by
 apply OF.not_lt.1;intro k;have h1:aW d v u-dN y u n*aW d y v<0:=by rw[<-OF.neg_pos,OF.neg_sub];exact OF.sub_pos.2 k
 have h2:=aHg hb h1;rw[<-aHh hd hb v]at h2;have h3:=OF.mul_nonneg (OF.neg_nonneg.2 h) (OF.le_of_lt D);rw[CR.neg_mul,OF.neg_nonneg]at h3;exact OF.lt_irrefl _ (OF.lt_of_lt_of_le h2 h3)
theorem aVo{n n1 n2 d y u v:V3 F}(D:0<aW d y u)(hd:dot n d=0)(Gq:dot n1 d=0)(Lh:dot n2 d=0)(hb:dot n y<0)(nB:dot n1 y<0)(gF:dot n2 y<0)(h:dot n v=0)(h1:dot n1 v<=0)(h2:dot n2 v<=0)
  (l1:dN y u n<dN y u n1) (l2:dN y u n2<dN y u n):smul v (aW d y u)=smul d (aW v y u):=by
 have k:=aHh hd hb (u:=u) v;rw[h,CR.zero_mul]at k;have e:aW d v u=dN y u n*aW d y v:=by
  rcases OF.mul_eq_zero.1 k.symm with k|k
  ·exact absurd k (OF.ne_of_lt hb)
  ·exact OF.sub_eq_zero.1 k
 have k1:=aHi D Gq nB h1;have k2:=aHi D Lh gF h2;rw[e]at k1 k2;have g1:=OF.sub_pos.2 l1;have g2:=OF.sub_pos.2 l2;have x0:aW d y v=0:=by
  rcases OF.lt_trichotomy (aW d y v) 0 with hx|hx|hx
  ·exfalso;have:=OF.mul_pos g2 (OF.neg_pos.2 hx);rw[CR.mul_neg,OF.neg_pos]at this;rw[<-OF.sub_nonneg,show dN y u n*aW d y v-dN y u n2*aW d y v=(dN y u n-dN y u n2)*aW d y v from ku (dN y u n) (dN y u n2) (aW d y v) (λa b x=>a*x-b*x) (λa b x=>(a-b)*x) d_]at k2;exact OF.lt_irrefl _ (OF.lt_of_lt_of_le this k2)
  ·exact hx
  ·exfalso;have:=OF.mul_pos g1 hx;rw[<-OF.sub_nonneg,show dN y u n*aW d y v-dN y u n1*aW d y v=-((dN y u n1-dN y u n)*aW d y v)from ku (dN y u n) (dN y u n1) (aW d y v) (λa b x=>a*x-b*x) (λa b x=>-((b-a)*x)) d_,OF.neg_nonneg]at k1;exact OF.lt_irrefl _ (OF.lt_of_lt_of_le this k1)
 rw[aVm,e,x0,CR.mul_zero];exact hY [d,y,u] [aW v y u] (λV S=>smul (V 0) (S 0)+smul (V 1) 0+smul (V 2) 0) (λV S=>smul (V 0) (S 0)) d_
theorem aHj{p q:V3 F}{k:F}(hk:k≠0)(h:smul p k=smul q k):p=q:=by
 have e:∀ p:V3 F,smul (smul p k) k⁻¹=p:=λp=>by rw[show smul (smul p k) k⁻¹=smul p (k*k⁻¹)from hY [p] [k,k⁻¹] (λV S=>smul (smul (V 0) (S 0)) (S 1)) (λV S=>smul (V 0) (S 0*S 1)) d_,OF.jn k hk,V3.Vl]
 rw[<-e p,h,e]
theorem aVp{n n1 d y u:V3 F}(D:aW d y u≠0)(hd:dot n d=0)(Gq:dot n1 d=0)(hb:dot n y<0)(nB:dot n1 y<0)(e:dN y u n1=dN y u n):∃ k:F,0<k/\n1=smul n k:=by
 have hn:=OF.ne_of_lt hb;refine⟨dot n1 y*(dot n y)⁻¹,?_,aHj D ?_⟩
 ·have:=OF.mul_pos (OF.neg_pos.2 nB) (OF.inv_pos (OF.neg_pos.2 hb));have h2:(-dot n y)⁻¹=-(dot n y)⁻¹:=by
   have aQ:-dot n y≠0:=OF.ne_of_gt (OF.neg_pos.2 hb);have h3:-dot n y*-(dot n y)⁻¹=1:=by rw[CR.neg_mul,CR.mul_neg,CR.neg_neg,OF.jn _ hn]
   rw[<-CR.mul_one (-dot n y)⁻¹,<-h3,<-CR.mul_assoc,OF.inv_mul aQ,CR.one_mul]
  rwa[h2,CR.neg_mul,CR.mul_neg,CR.neg_neg]at this
 ·have g:∀ m:V3 F,dot m d=0->dot m y<0->dN y u m=dN y u n->smul m (aW d y u)=smul (af u d-smul (af d y) (dN y u n)) (dot m y):=λm h1 h2 h3=>by rw[aVn,h1,YA (u:=u) (OF.ne_of_lt h2),h3];exact hY [af y u,af u d,af d y] [dot m y,dN y u n] (λV S=>smul (V 0) 0+smul (V 1) (S 0)+smul (V 2) (-(S 1*S 0))) (λV S=>smul (V 1-smul (V 2) (S 1)) (S 0)) d_
  have g1:=g n1 Gq nB e;have g2:=g n hd hb rfl;rw[g1,show smul (smul n (dot n1 y*(dot n y)⁻¹)) (aW d y u)=smul (smul n (aW d y u)) (dot n1 y*(dot n y)⁻¹)from hY [n] [dot n1 y*(dot n y)⁻¹,aW d y u] (λV S=>smul (smul (V 0) (S 0)) (S 1)) (λV S=>smul (smul (V 0) (S 1)) (S 0)) d_,g2,show ∀(p:V3 F) (a b c:F),smul (smul p a) (b*c)=smul p (b*(a*c))from λp a b c=>hY [p] [a,b,c] (λV S=>smul (smul (V 0) (S 0)) (S 1*S 2)) (λV S=>smul (V 0) (S 1*(S 0*S 2))) d_,OF.jn _ hn,CR.mul_one]
theorem nY.two{ps S:List (HS F)}(h:nY ps S){x w:V3 F}(hx:wY ps x)(hw:dZ ps w)(hn:¬j5 ps w){a b:HS F}(ha:a∈ps)(hb:b∈ps)(ta:cy a w)(tb:cy b w)(ch:af a.n b.n≠0):
  ∃ p∈S,∃ q∈S,cy p w/\cy q w/\(¬∃ k:F,0<k/\q.n=smul p.n k)/\
   ∀ r∈ps,cy r w->(∃ k:F,0<k/\p.n=smul r.n k)\/(∃ k:F,0<k/\q.n=smul r.n k)\/∃ d:V3 F,∀ v,dZ ps v->cy r v->∃ c:F,v=w+smul d c:=by
 have neg:=R8 (w:=w) hx;have flat:∀ r∈ps,cy r w->dot r.n (af a.n b.n)=0:=λr hr tr=>by apply gR;intro k;refine hn ⟨hw,r,hr,a,ha,b,hb,?_,tr,ta,tb⟩;exact k
 generalize hd:af a.n b.n=d at *;have hdy:af d (x-w)≠0:=λe=>by
  -- then the way inside aW6 lie along the aW7
  have h1:=neg a ha ta;have h2:=flat a ha ta;have h3:dot a.n (smul d (dot d (x-w)))=dot a.n (smul (x-w) (dot d d)):=by have:smul (x-w) (dot d d)=smul d (dot d (x-w))+af (af d (x-w)) d:=hY [d,x-w] [] (λV _=>smul (V 1) (dot (V 0) (V 0))) (λV _=>smul (V 0) (dot (V 0) (V 1))+af (af (V 0) (V 1)) (V 0)) d_;rw[this,e,show af (0:V3 F) d=0 from hY [d] [] (λV _=>af 0 (V 0)) (λ_ _=>0) d_,jq,yr,CR.add_zero]
  rw[gC,gC,h2,CR.zero_mul]at h3;rcases OF.mul_eq_zero.1 h3.symm with k|k
  ·exact OF.ne_of_lt h1 k
  ·exact Ap ch k
 obtain⟨u,hu⟩:∃ u,u=af d (x-w):=⟨_,rfl⟩;have D:0<aW d (x-w) u:=by rw[hu,show aW d (x-w) (af d (x-w))=dot (af d (x-w)) (af d (x-w))from ring [d,x-w] [] (λV _=>aW (V 0) (V 1) (af (V 0) (V 1))) (λV _=>dot (af (V 0) (V 1)) (af (V 0) (V 1))) d_];exact Cw hdy
 obtain⟨p,hp,tp,mp⟩:=h.side hx hw ha ta u;obtain⟨q,hq,tq,mq⟩:=h.side hx hw ha ta (-u);have mq:∀ r∈ps,cy r w->dN (x-w) u q.n<=dN (x-w) u r.n:=λr hr tr=>by have:=mq r hr tr;rw[aHe,aHe,<-OF.sub_nonneg]at this;rw[<-OF.sub_nonneg];rwa[show -dN (x-w) u q.n - -dN (x-w) u r.n=dN (x-w) u r.n-dN (x-w) u q.n from jN (dN (x-w) u q.n) (dN (x-w) u r.n) (λa b=>-a - -b) (λa b=>b-a) d_]at this
 have fE:=h.sub p hp;have pJ:=h.sub q hq;have dir:∀ m∈ps,∀ r∈ps,cy m w->cy r w->dN (x-w) u m.n=dN (x-w) u r.n->∃ k:F,0<k/\m.n=smul r.n k:=λm hm r hr tm tr e=>
  aVp (OF.ne_of_gt D) (flat r hr tr) (flat m hm tm) (neg r hr tr) (neg m hm tm) e
 refine⟨p,hp,q,hq,tp,tq,?_,λr hr tr=>?_⟩
 ·rintro⟨k,hk,e⟩
  -- then both aW8 alike,and so aW9 all else
  have hs:dN (x-w) u q.n=dN (x-w) u p.n:=by
   unfold dN;rw[e,LB,LB];have h1:=OF.ne_of_lt (neg p fE tp);have h2:=OF.ne_of_gt hk
   congr 1
   have h3:dot p.n (x-w)*k≠0:=OF.mul_ne_zero h1 h2;have h4:(dot p.n (x-w)*k)⁻¹=k⁻¹*(dot p.n (x-w))⁻¹:=by
    have:dot p.n (x-w)*k*(k⁻¹*(dot p.n (x-w))⁻¹)=1:=by rw[show ∀ a b c d:F,a*b*(c*d)=(a*d)*(b*c)from λa b c d=>Aa a b c d (λa b c d=>a*b*(c*d)) (λa b c d=>(a*d)*(b*c)) d_,OF.jn _ h1,OF.jn _ h2,CR.mul_one]
    rw[<-CR.mul_one (dot p.n (x-w)*k)⁻¹,<-this,<-CR.mul_assoc,OF.inv_mul h3,CR.one_mul]
   rw[h4,show ∀ a b c d:F,a*b*(c*d)=a*d*(b*c)from λa b c d=>Aa a b c d (λa b c d=>a*b*(c*d)) (λa b c d=>a*d*(b*c)) d_,OF.jn _ h2,CR.mul_one]
  have bh:∀ r∈ps,cy r w->dN (x-w) u r.n=dN (x-w) u p.n:=λr hr tr=>OF.le_antisymm (mp r hr tr) (hs▸mq r hr tr);obtain⟨c,_,hc⟩:=dir b hb a ha tb ta ((bh b hb tb).trans (bh a ha ta).symm);apply ch;rw[<-hd,hc];exact hY [a.n] [c] (λV S=>af (V 0) (smul (V 0) (S 0))) (λ_ _=>0) d_
 ·by_cases e1:dN (x-w) u p.n=dN (x-w) u r.n
  ·exact .inl (dir p fE r hr tp tr e1)
  by_cases e2:dN (x-w) u q.n=dN (x-w) u r.n
  ·exact .inr (.inl (dir q pJ r hr tq tr e2))
  have l1:=(OF.oA (mp r hr tr)).resolve_right λe=>e1 e.symm;have l2:=(OF.oA (mq r hr tr)).resolve_right e2;refine .inr (.inr ⟨d,λv hv tv=>⟨aW (v-w) (x-w) u*(aW d (x-w) u)⁻¹,?_⟩⟩);have on:∀ m∈ps,cy m w->dot m.n (v-w)<=0:=λm hm tm=>by have:=hv m hm;rw[<-show dot m.n w=m.d from tm,<-OF.sub_nonneg]at this;rw[gT,<-OF.neg_nonneg,OF.neg_sub];exact this
  have nK:dot r.n (v-w)=0:=by rw[gT,show dot r.n v=r.d from tv,show dot r.n w=r.d from tr,OF.sub_self]
  have:=aVo D (flat r hr tr) (flat p fE tp) (flat q pJ tq) (neg r hr tr) (neg p fE tp) (neg q pJ tq) nK (on p fE tp) (on q pJ tq) l1 l2;have hD:=OF.ne_of_gt D;have e:v-w=smul d (aW (v-w) (x-w) u*(aW d (x-w) u)⁻¹):=aHj hD (by rw[this];rw[show ∀(p:V3 F) (a b c:F),smul (smul p (a*b)) c=smul p (a*(c*b))from λp a b c=>hY [p] [a,b,c] (λV S=>smul (smul (V 0) (S 0*S 1)) (S 2)) (λV S=>smul (V 0) (S 0*(S 2*S 1))) d_,OF.jn _ hD,CR.mul_one])
  rw[<-e];exact hY [v,w] [] (λV _=>V 0) (λV _=>V 1+(V 0-V 1)) d_
end
end
section
open CR OF
open V3 (dot af aW smul)
theorem aVq{F:Type}[OF F](n w d:V3 F)(a b c:F):dot n (af (w+smul d b-(w+smul d a)) (w+smul d c-(w+smul d a)))=0:=
 V3.ring [n,w,d] [a,b,c] (λV S=>dot (V 0) (af (V 1+smul (V 2) (S 1)-(V 1+smul (V 2) (S 0))) (V 1+smul (V 2) (S 2)-(V 1+smul (V 2) (S 0))))) (λ_ _=>0) d_
section
variable{ps:c_}{vs:e_}{p q r s:HS K}{v w:V3 K}
theorem YB(hr:r.n≠0)(tr:cy r w)(tp:cy p w)(h:∃ k:K,0<k/\p.n=smul r.n k)(hp:p.n≠0):canon r=canon p:=by
 obtain⟨k,hk,e⟩:=h;refine(X3 hr hp).2 ⟨k,hk,?_⟩;have hd:p.d=r.d*k:=by rw[<-show dot p.n w=p.d from tp,e,V3.LB,show dot r.n w=r.d from tr]
 cases p;unfold C2;rw[HS.mk.injEq];exact⟨e,hd⟩
theorem aVr(hp:p.n≠0)(hq:q.n≠0)(h:canon p=canon q)(vs:e_):bY p vs vs.length=bY q vs vs.length:=by
 unfold bY
 congr 1
 funext k
 rw[sQ,OF.sub_eq_zero,OF.sub_eq_zero];exact(M8 hp hq h _).2
theorem aVs(hi:ps[i]?=some r)(h:ga ps vs i≠[]):lf ps i r=false:=by
 unfold ga at h;rw[hi]at h;unfold qk at h;dsimp only at h;cases hm:lf ps i r with
 |false=>rfl
 |true=>
  unfold lf at hm;rw[aB hm]at h;exact absurd rfl h
theorem YC(hi:ps[i]?=some r)(hj:ps[j]?=some s)(h1:ga ps vs i≠[])(h2:ga ps vs j≠[])(h:canon r=canon s):i=j:=by
 have key:∀{i j:Nat} {r s:HS K},ps[i]?=some r->ps[j]?=some s->ga ps vs j≠[]->canon r=canon s->¬i<j:=by
  intro i j r s hi hj h2 h al;have hm:=aVs hj h2;have:lf ps j s=true:=by unfold lf;rw[rD];exact⟨r,cL (i:=i) (by rw[List.getElem?_take_of_lt al];exact hi),aH h.symm⟩
  rw[this]at hm;cases hm
 have k1:=key hi hj h2 h;have k2:=key hj hi h1 h.symm;omega
theorem aHk(hp:fH ps)(hv:iM ps vs)(hq:q∈ps)(h3:¬(bY q vs vs.length).length<3):∃ i r,ps[i]?=some r/\canon r=canon q/\ga ps vs i≠[]:=by
 obtain⟨i,hi⟩:∃ i,i=ps.findIdx λx=>decide (canon x=canon q):=⟨_,rfl⟩;have al:i<ps.length:=by rw[hi];exact aTK ⟨q,hq,by simp⟩
 have JN:canon ps[i]=canon q:=by have:=List.findIdx_getElem (xs:=ps) (p:=λx=>decide (canon x=canon q)) (w:=by rw[hi]at al;exact al);subst hi;simpa using this
 refine⟨i,ps[i],bo al,JN,?_⟩;have hr:=hp _ (dB al);unfold ga;rw[bo al];dsimp only;rw[hv.Bf hr];have su:¬lf ps i ps[i]=true:=by
  unfold lf;rw[rD]
  rintro⟨x,hx,hd⟩
  obtain⟨j,hj,rfl⟩:=k8 hx;rw[jH]at hj;rw[Ru,JN]at hd;have hd:=kX hd;have M9:j<i:=by omega
  rw[hi]at M9;have:=List.not_of_lt_findIdx M9;simp[hd]at this
 rw[av su,aVr hr (hp q hq) JN,av h3];exact aHl _ _
theorem aHm(hp:fH ps)(hv:iM ps vs)(hi:ps[i]?=some r)(h:ga ps vs i≠[]):¬(bY r vs vs.length).length<3:=by intro h3;unfold ga at h;rw[hi]at h;dsimp only at h;rw[hv.Bf (hp r (cL hi)),aB h3]at h;split at h<;>exact h rfl
theorem aVt(hv:iM ps vs)(hr:r.n≠0)(h3:¬(bY r vs vs.length).length<3){d:V3 K}(h:∀ v,dZ ps v->cy r v->∃ c:K,v=w+smul d c):False:=by
 have hc:=hv.conv (p:=r);have fv:=Hm r vs;have hm:∀ i∈bY r vs vs.length,∃ c:K,aA vs i=w+smul d c:=λi hi=>by obtain⟨h1,h2⟩:=kM.1 hi;exact h _ ((hv.mem _).1 (JM h1)).1 h2
 generalize bY r vs vs.length=on at *
 match on,h3,hc,fv,hm with
 |[],h3,_,_,_=>exact h3 d_
 |[_],h3,_,_,_=>exact h3 s_
 |[_,_],h3,_,_,_=>exact h3 s_
 |i::j::k::t,_,hc,fv,hm=>
  simp only[Yb,cC,not_or]at fv;refine hc.PU hr (a:=i) (b:=j) (c:=k) s_ s_ s_ fv.1.1 fv.1.2.1 fv.2.1.1 ?_;obtain⟨a,ha⟩:=hm i s_;obtain⟨b,hb⟩:=hm j s_;obtain⟨c,hc⟩:=hm k s_;rw[ha,hb,hc];exact aVq _ _ _ _ _ _
theorem iM.two(hc:Cl ps)(hp:fH ps)(hv:iM ps vs)(hf:lD ps)(hw:dZ ps w)(hn:¬j5 ps w)(h2:∃ a∈ps,∃ b∈ps,cy a w/\cy b w/\af a.n b.n≠0):
  ∃ i j,i≠j/\i<ps.length/\j<ps.length/\∀ k r,ps[k]?=some r->((ga ps vs k≠[]/\cy r w)↔k=i\/k=j):=by
 obtain⟨a,ha,b,hb,ta,tb,ch⟩:=h2;obtain⟨x,hx⟩:=hf;obtain⟨S,hS⟩:=aGi ps;obtain⟨p,C3,q,hqS,tp,tq,aQ,bh⟩:=hS.two hx hw hn ha hb ta tb ch;have on3:∀ p∈S,¬(bY p vs vs.length).length<3:=λp C3=>by obtain⟨A,B,rfl⟩:=List.append_of_mem C3;exact nY.on hc hp hv hx hS
 have fE:=hS.sub p C3;have pJ:=hS.sub q hqS;obtain⟨i,ri,hi,ci,fi⟩:=aHk hp hv fE (on3 p C3);obtain⟨j,rj,hj,cj,fj⟩:=aHk hp hv pJ (on3 q hqS);have R9:=hp ri (cL hi);have hrj:=hp rj (cL hj);refine⟨i,j,λe=>?_,(eA.1 hi).1,(eA.1 hj).1,λk r hk=>⟨λ⟨h1,h2⟩=>?_,?_⟩⟩
 ·subst e;rw[hi]at hj;injection hj with hj;subst hj;obtain⟨k,hk,e⟩:=(X3 (hp p fE) (hp q pJ)).1 (ci.symm.trans cj);exact aQ ⟨k,hk,by rw[e];rfl⟩
 ·have hr:=cL hk;have uI:=hp r hr;rcases bh r hr h2 with h|h|⟨d,h⟩
  ·exact .inl (YC hk hi h1 fi ((YB uI h2 tp h (hp p fE)).trans ci.symm))
  ·exact .inr (YC hk hj h1 fj ((YB uI h2 tq h (hp q pJ)).trans cj.symm))
  ·exact(aVt hv uI (aHm hp hv hk h1) h).elim
 ·rintro(rfl|rfl)
  ·rw[hi]at hk;injection hk with hk;subst hk;exact⟨fi,(M8 R9 (hp p fE) ci w).2.2 tp⟩
  ·rw[hj]at hk;injection hk with hk;subst hk;exact⟨fj,(M8 hrj (hp q pJ) cj w).2.2 tq⟩
theorem YD(i:Nat):ga ps vs i=[]\/∃ r l,ps[i]?=some r/\ga ps vs i=[(i,l)]:=by
 unfold ga;cases h:ps[i]? with
 |none=>exact .inl rfl
 |some r=>
  dsimp only;unfold qk;split
  ·exact .inl rfl
  ·split
   ·exact .inl rfl
   ·split
    ·exact .inr ⟨r,_,rfl,rfl⟩
    ·exact .inl rfl
end
end
section
open CR OF V3
section
variable{F:Type}[OF F]
def o9(a b:V3 F):V3 F:=smul (a+b) (1+1)⁻¹
theorem aVu:(0:F)<1+1:=OF.add_pos OF.zero_lt_one OF.zero_lt_one
theorem Sa(m a b:V3 F):dot m (o9 a b)+dot m (o9 a b)=dot m a+dot m b:=by unfold o9;have h:(1+1:F)*(1+1)⁻¹=1:=OF.jn _ (OF.ne_of_gt aVu);rw[gC,jq];generalize dot m a+dot m b=x;generalize (1+1:F)⁻¹=y at *;rw[CR.add_mul,CR.one_mul]at h;rw[<-CR.mul_add,h,CR.mul_one]
theorem aHn{x a b d:F}(h:x+x=a+b)(ha:a<=d)(hb:b<=d):x<=d:=OF.not_lt.1 λk=>by have h1:=OF.add_lt_add k k;rw[h]at h1;exact OF.lt_irrefl _ (OF.lt_of_lt_of_le h1 (OF.add_le_add ha hb))
theorem aVv{x a b d:F}(h:x+x=a+b)(ha:a<=d)(hb:b<=d)(e:x=d):a=d/\b=d:=by
 subst e;constructor
 ·refine OF.le_antisymm ha (OF.not_lt.1 λk=>?_);have:=OF.add_lt_add_of_lt_of_le k hb;rw[h]at this;exact OF.lt_irrefl _ this
 ·refine OF.le_antisymm hb (OF.not_lt.1 λk=>?_);have:=OF.add_lt_add_of_le_of_lt ha k;rw[h]at this;exact OF.lt_irrefl _ this
variable{ps:List (HS F)}{a b w u v:V3 F}{p r s:HS F}
theorem dZ.o9(ha:dZ ps a)(hb:dZ ps b):dZ ps (o9 a b):=λp hp=>aHn (Sa p.n a b) (ha p hp) (hb p hp)
theorem aHo(ha:dZ ps a)(hb:dZ ps b)(hp:p∈ps)(h:cy p (o9 a b)):cy p a/\cy p b:=aVv (Sa p.n a b) (ha p hp) (hb p hp) h
theorem aHp(ha:cy p a)(hb:cy p b):cy p (o9 a b):=by have h:=Sa p.n a b;rw[show dot p.n a=p.d from ha,show dot p.n b=p.d from hb]at h;refine OF.le_antisymm (aHn h (OF.le_refl _) (OF.le_refl _)) (OF.not_lt.1 λk=>?_);have:=OF.add_lt_add k k;rw[h]at this;exact OF.lt_irrefl _ this
theorem aVw(ha:dZ ps a)(hb:dZ ps b)(ch:a≠b):¬j5 ps (o9 a b):=by
 rintro⟨_,p,hp,q,hq,r,hr,hd,tp,tq,tr⟩
 have z:∀{p:HS F},p∈ps->cy p (o9 a b)->dot p.n (b-a)=0:=λhp tp=>by obtain⟨h1,h2⟩:=aHo ha hb hp tp;rw[gT,show dot _ b=_ from h2,show dot _ a=_ from h1,OF.sub_self]
 exact ch (V3.sub_eq_zero.1 (Gn hd (z hp tp) (z hq tq) (z hr tr))).symm
theorem aVx(hr:r∈ps)(h:j5 (ps++[⟨-r.n,-r.d⟩]) v):j5 ps v/\cy r v:=by
 obtain⟨h0,a,ha,b,hb,c,hc,hd,ta,tb,tc⟩:=h;have cz:dZ ps v:=λq hq=>h0 q (sC _ hq);have ht:cy r v:=by have h1:dot r.n v<=r.d:=cz r hr;have h2:dot (-r.n) v<=-r.d:=h0 ⟨-r.n,-r.d⟩ s_;rw[yq,<-OF.sub_nonneg,show -r.d - -dot r.n v=dot r.n v-r.d from jN r.d (dot r.n v) (λa b=>-a - -b) (λa b=>b-a) d_,OF.sub_nonneg]at h2;exact OF.le_antisymm h1 h2
 have own:∀{a:HS F},a∈ps++[⟨-r.n,-r.d⟩]->cy a v->∃ a'∈ps,cy a' v/\(a'.n=a.n\/a'.n=-a.n):=λ{a} ha ta=>by
  rw[eW,Cz]at ha;rcases ha with ha|rfl
  ·exact⟨a,ha,ta,.inl rfl⟩
  ·exact⟨r,hr,ht,.inr (V3.neg_neg _).symm⟩
 have turn:∀{x x' y z:V3 F},x'=x\/x'=-x->aW x y z≠0->aW x' y z≠0:=λ{x x' y z} h k=>by
  rcases h with rfl|rfl
  ·exact k
  ·intro e;apply k;rw[show aW (-x) y z=-aW x y z from ring [x,y,z] [] (λV _=>aW (-V 0) (V 1) (V 2)) (λV _=>-aW (V 0) (V 1) (V 2)) d_]at e;rw[<-CR.neg_neg (aW x y z),e,CR.neg_zero]
 obtain⟨a',a1,a2,a3⟩:=own ha ta;obtain⟨b',b1,b2,b3⟩:=own hb tb;obtain⟨c',c1,c2,c3⟩:=own hc tc;refine⟨⟨cz,a',a1,b',b1,c',c1,?_,a2,b2,c2⟩,ht⟩;have h1:=turn a3 hd;rw[Gm]at h1;have h2:=turn b3 h1;rw[Gm]at h2;have h3:=turn c3 h2;rwa[Gm]at h3
theorem aVy(hc:Cl ps)(hp:fH ps)(hr:r∈ps)(hw:dZ ps w)(tw:cy r w)(hu:u≠0)(M7:dot r.n u=0)(vL:∀ v,j5 ps v->cy r v->dot u v<=dot u w):∃ q∈ps,cy q w/\0<dot q.n u:=by
 apply gR;intro fX;have bh:∀ q∈ps,cy q w->dot q.n u<=0:=λq hq tq=>OF.not_lt.1 λk=>fX ⟨q,hq,tq,k⟩;obtain⟨e,he,hs⟩:=RO (ps.map λm=>if OF.aG (m.d-dot m.n w)=1 then(dot m.n u,m.d-dot m.n w)else(0,1)) λx hx=>by
  obtain⟨m,_,rfl⟩:=db.1 hx;split
  ·rename_i hs;exact OF.gk.2 hs
  ·exact OF.zero_lt_one
 have cz:dZ ps (w+smul u e):=λm hm=>by
  rw[jq,gC];have h1:dot m.n w<=m.d:=hw m hm;by_cases tY:OF.aG (m.d-dot m.n w)=1
  ·have:=hs _ (db.2 ⟨m,hm,rfl⟩);rw[aB tY]at this;have:=(OF.add_le_add_left (dot m.n w)).2 this;rwa[show dot m.n w+(m.d-dot m.n w)=m.d from jN (dot m.n w) m.d (λa d=>a+(d-a)) (λ_ d=>d) d_]at this
  ·have ht:cy m w:=OF.le_antisymm h1 (OF.not_lt.1 λk=>tY (OF.gk.1 (OF.sub_pos.2 k)));have h2:=OF.mul_nonneg (OF.neg_nonneg.2 (bh m hm ht)) (OF.le_of_lt he);rw[CR.neg_mul,OF.neg_nonneg]at h2;have:=OF.add_le_add h1 h2;rwa[CR.add_zero]at this
 have CT:dZ (ps++[⟨-r.n,-r.d⟩]) (w+smul u e):=λm hm=>by
  rw[eW,Cz]at hm;rcases hm with hm|rfl
  ·exact cz m hm
  ·show dot (-r.n) (w+smul u e)<=-r.d;rw[yq,jq,gC,M7,CR.zero_mul,CR.add_zero,show dot r.n w=r.d from tw];exact OF.le_refl _
 have fE:fH (ps++[⟨-r.n,-r.d⟩]):=λm hm=>by
  rw[eW,Cz]at hm;rcases hm with hm|rfl
  ·exact hp m hm
  ·exact λe=>hp r hr (V3.neg_eq_zero.1 e)
 obtain⟨v,hv,hle⟩:=top (m:=u) (Cl.more hc hp λ_ hq=>sC _ hq) fE CT;obtain⟨kB,iz⟩:=aVx hr hv;have h1:=OF.le_trans hle (vL v kB iz);rw[jq,gC]at h1;have h2:=(OF.add_lt_add_left (dot u w)).2 (OF.mul_pos (Cw hu) he);rw[CR.add_zero]at h2;exact OF.lt_irrefl _ (OF.lt_of_lt_of_le h2 h1)
theorem aVz{n m a b e c:V3 F}(kE:af n m≠0)(Ce:dot n (b-a)=0)(hma:dot m (b-a)=0)(aQ:dot n (e-a)=0)(hme:dot m (e-a)<0)(he:0<turn n a b e)(hmc:dot m (c-b)=0)(lg:dot n (c-b)<0):0<turn m b a c:=by
 have hn:n≠0:=λh=>kE (by rw[h];exact hY [m] [] (λV _=>af 0 (V 0)) (λ_ _=>0) d_);have hm:m≠0:=λh=>kE (by rw[h];exact hY [n] [] (λV _=>af (V 0) 0) (λ_ _=>0) d_);obtain⟨t,ht⟩:∃ t,b-a=smul (af n m) t:=⟨_,LD kE Ce hma⟩;unfold turn at *;rw[ht]at he;rw[show a-b=-(b-a)from Cy b a,ht];generalize e-a=f at *;generalize c-b=g at *;rw[show dot n (af (smul (af n m) t) f)=t*(dot n m*dot n f-dot n n*dot m f)from ring [n,m,f] [t] (λV S=>dot (V 0) (af (smul (af (V 0) (V 1)) (S 0)) (V 2))) (λV S=>S 0*(dot (V 0) (V 1)*dot (V 0) (V 2)-dot (V 0) (V 0)*dot (V 1) (V 2))) d_,aQ,CR.mul_zero]at he;rw[show dot m (af (-(smul (af n m) t)) g)=t*(dot m m*-dot n g+dot n m*dot m g)from ring [n,m,g] [t] (λV S=>dot (V 1) (af (-(smul (af (V 0) (V 1)) (S 0))) (V 2))) (λV S=>S 0*(dot (V 1) (V 1)*-dot (V 0) (V 2)+dot (V 0) (V 1)*dot (V 1) (V 2))) d_,hmc,CR.mul_zero,CR.add_zero];have h1:0<dot n n*-dot m f:=OF.mul_pos (Cw hn) (OF.neg_pos.2 hme);have h2:0<dot n n*-dot m f*t:=by rw[show dot n n*-dot m f*t=t*(0-dot n n*dot m f)from ku (dot n n) (dot m f) t (λa b t=>a*-b*t) (λa b t=>t*(0-a*b)) d_];exact he
 have h3:0<t:=by rw[OF.gk]at h2 ⊢;rwa[OF.Ld h1]at h2
 exact OF.mul_pos h3 (OF.mul_pos (Cw hm) (OF.neg_pos.2 lg))
theorem aVA{x:V3 F}(hr:r.n≠0)(h:af r.n s.n=0)(xr:dot r.n (x-w)<0)(xs:dot s.n (x-w)<0):∃ k:F,0<k/\s.n=smul r.n k:=by
 have hn:=Cw hr;have e:s.n=smul r.n (dot r.n s.n*(dot r.n r.n)⁻¹):=by
  have h1:smul s.n (dot r.n r.n)=smul r.n (dot r.n s.n):=by rw[show smul s.n (dot r.n r.n)=smul r.n (dot r.n s.n)+af (af r.n s.n) r.n from hY [r.n,s.n] [] (λV _=>smul (V 1) (dot (V 0) (V 0))) (λV _=>smul (V 0) (dot (V 0) (V 1))+af (af (V 0) (V 1)) (V 0)) d_,h,show af (0:V3 F) r.n=0 from hY [r.n] [] (λV _=>af 0 (V 0)) (λ_ _=>0) d_,V3.add_zero]
  rw[<-PO,<-h1,PO,OF.jn _ (OF.ne_of_gt hn),V3.Vl]
 refine⟨_,?_,e⟩;generalize dot r.n s.n*(dot r.n r.n)⁻¹=k at *;rw[e,LB]at xs;have h1:0 < -dot r.n (x-w)*k:=by rw[CR.neg_mul];exact OF.neg_pos.2 xs
 rw[OF.gk]at h1 ⊢;rwa[OF.Ld (OF.neg_pos.2 xr)]at h1
theorem aVB(d n x:V3 F):dot (af d n) x=-dot n (af d x):=ring [d,n,x] [] (λV _=>dot (af (V 0) (V 1)) (V 2)) (λV _=>-dot (V 1) (af (V 0) (V 2))) d_
theorem aVC(x:V3 F):af 0 x=0:=hY [x] [] (λV _=>af 0 (V 0)) (λ_ _=>0) d_
theorem aVD(n u:V3 F)(s t:F):dot n (af (smul u s) (smul u t))=0:=ring [n,u] [s,t] (λV S=>dot (V 0) (af (smul (V 1) (S 0)) (smul (V 1) (S 1)))) (λ_ _=>0) d_
end
end
section
open CR OF
open V3 (dot af aW smul)
section
variable{ps:c_}{vs:e_}{r s:HS K}{i j a b:Nat}
def DE(ps:c_)(vs:e_)(i a b:Nat):Prop:=∃ r,ps[i]?=some r/\ga ps vs i≠[]/\a∈bY r vs vs.length/\b∈bY r vs vs.length/\b≠a/\mZ r.n (aA vs) (bY r vs vs.length) a b
theorem aHq{l:l_}(hn:l.Nodup)(h3:¬l.length<3)(a b:Nat):∃ e∈l,e≠a/\e≠b:=by
 apply gR;intro fX;have:∀ x∈l,x∈[a,b]:=λx hx=>by
  by_cases h1:x=a
  ·simp[h1]
  ·by_cases h2:x=b
   ·simp[h2]
   ·exact absurd ⟨x,hx,h1,h2⟩ fX
 have:=Hn hn this;simp at this;omega
theorem DE.rev(hc:Cl ps)(hp:fH ps)(hv:iM ps vs)(hf:lD ps)(h:DE ps vs i a b):∃ j,DE ps vs j b a/\∀ k,DE ps vs k b a->k=j:=by
 obtain⟨r,hi,fi,ha,hb,qQ,hl⟩:=h;have hr:=cL hi;have uI:=hp r hr;obtain⟨la,ta⟩:=kM.1 ha;obtain⟨lb,tb⟩:=kM.1 hb;have ia:=((hv.mem _).1 (JM la)).1;have ib:=((hv.mem _).1 (JM lb)).1;have ch:aA vs a≠aA vs b:=λe=>qQ (hv.inj la lb e).symm;obtain⟨e,he,YE,LJ⟩:=aHq (Hm r vs) (aHm hp hv hi fi) a b;have te:=hl e he YE LJ;obtain⟨w,hw⟩:∃ w,w=o9 (aA vs a) (aA vs b):=⟨_,rfl⟩;have iw:dZ ps w:=hw▸ia.o9 ib;have tw:cy r w:=hw▸aHp ta tb;have nw:¬j5 ps w:=hw▸aVw ia ib ch;have dz:∀{q:HS K},cy q (aA vs a)->cy q (aA vs b)->dot q.n (aA vs b-aA vs a)=0:=λh1 h2=>by rw[V3.gT,show dot _ (aA vs b)=_ from h2,show dot _ (aA vs a)=_ from h1,OF.sub_self]
 have ud:∀ x:V3 K,dot (af (aA vs b-aA vs a) r.n) x=-dot r.n (af (aA vs b-aA vs a) x):=λx=>aVB _ _ _
 -- a second qg through the CC
 obtain⟨q,hq,tq,LH⟩:=aVy (u:=af (aA vs b-aA vs a) r.n) hc hp hr iw tw (λh0=>by
   have h1:=ud (aA vs e-aA vs a);rw[h0,V3.aCq]at h1;have:0<dot r.n (af (aA vs b-aA vs a) (aA vs e-aA vs a)):=te;rw[<-OF.F1,<-h1]at this;exact OF.lt_irrefl _ this) (V3.Ao _ _) (λv cv tv=>by
   obtain⟨c,lc,rfl⟩:=aGz ((hv.mem v).2 cv);have ba:dot (af (aA vs b-aA vs a) r.n) (aA vs b-aA vs a)=0:=by rw[V3.yp];exact V3.Ea _ _
   have mw:dot (af (aA vs b-aA vs a) r.n) w=dot (af (aA vs b-aA vs a) r.n) (aA vs a):=by
    have h1:=Sa (af (aA vs b-aA vs a) r.n) (aA vs a) (aA vs b);rw[V3.gT]at ba;rw[OF.sub_eq_zero.1 ba,<-hw]at h1;rcases OF.lt_trichotomy (dot (af (aA vs b-aA vs a) r.n) w) (dot (af (aA vs b-aA vs a) r.n) (aA vs a))with h|h|h
    ·have:=OF.add_lt_add h h;rw[h1]at this;exact absurd this (OF.lt_irrefl _)
    ·exact h
    ·have:=OF.add_lt_add h h;rw[h1]at this;exact absurd this (OF.lt_irrefl _)
   rw[mw,<-OF.sub_nonneg,<-OF.DT,OF.neg_sub,<-V3.gT];by_cases fA:c=a
   ·subst fA;rw[V3.sub_self,V3.yr];exact OF.le_refl _
   by_cases kv:c=b
   ·subst kv;exact OF.le_of_eq ba
   rw[ud,OF.DT];exact OF.le_of_lt (hl c (kM.2 ⟨lc,tv⟩) fA kv))
 have hrq:af r.n q.n≠0:=λh0=>by have:=LG uI h0 (V3.Ao (aA vs b-aA vs a) r.n);rw[this]at LH;exact OF.lt_irrefl _ LH
 obtain⟨i',j',kP,gu,gM,hk⟩:=iM.two hc hp hv hf iw nw ⟨r,hr,q,hq,tw,tq,hrq⟩;obtain⟨x,hx⟩:=hf
 -- one of the two is the given Bf
 obtain⟨j,JI,oT,hk⟩:∃ j,j<ps.length/\j≠i/\∀ k r,ps[k]?=some r->((ga ps vs k≠[]/\cy r w)↔k=i\/k=j):=by
  rcases(hk i r hi).1 ⟨fi,tw⟩with e|e
  ·subst e;exact⟨j',gM,kR kP,hk⟩
  ·subst e;exact⟨i',gu,kP,λk r h=>(hk k r h).trans Or.comm⟩
 have hj:=bo JI;generalize ps[j]=s at hj;obtain⟨fj,tj⟩:=(hk j s hj).2 (.inr rfl);have hs:=cL hj;obtain⟨sa,sb⟩:=aHo ia ib hs (hw▸tj);have BK:af r.n s.n≠0:=λh0=>by obtain⟨k,yn,ek⟩:=aVA uI h0 (R8 hx r hr tw) (R8 hx s hs tj);exact oT (YC hj hi fj fi (YB uI tw tj ⟨k,yn,ek⟩ (hp s hs)).symm)
 have onj:∀{c},c∈bY s vs vs.length->c<vs.length/\dZ ps (aA vs c)/\cy s (aA vs c):=λh=>by obtain⟨h1,h2⟩:=kM.1 h;exact⟨h1,((hv.mem _).1 (JM h1)).1,h2⟩
 have ne0:∀{p q:HS K} {y c:Nat},p∈ps->q∈ps->y=a\/y=b->c∈bY q vs vs.length->c≠a->c≠b->cy p (aA vs a)->cy p (aA vs b)->a∈bY q vs vs.length->b∈bY q vs vs.length->af p.n q.n≠0->dot p.n (aA vs c-aA vs y)<0:=λ{p q y c} GS QT hy hcq fA kv pa pb aq bq Gb=>by
  obtain⟨lc,tc⟩:=kM.1 hcq;have ic:=((hv.mem _).1 (JM lc)).1;have py:dot p.n (aA vs y)=p.d:=by rcases hy with rfl|rfl;exact pa;exact pb
  rw[V3.gT,py,<-OF.neg_pos,OF.neg_sub,OF.sub_pos];refine(OF.oA (ic p GS)).resolve_right λhpc=>?_;have qz:dot q.n (aA vs c-aA vs a)=0:=by rw[V3.gT,show dot _ (aA vs c)=_ from tc,show dot _ (aA vs a)=_ from(kM.1 aq).2,OF.sub_self]
  have pz:dot p.n (aA vs c-aA vs a)=0:=by rw[V3.gT,hpc,show dot _ (aA vs a)=_ from pa,OF.sub_self]
  have qb:dot q.n (aA vs b-aA vs a)=0:=dz (kM.1 aq).2 (kM.1 bq).2;have pb':dot p.n (aA vs b-aA vs a)=0:=dz pa pb;obtain⟨t1,e1⟩:∃ t,aA vs b-aA vs a=smul (af p.n q.n) t:=⟨_,V3.LD Gb pb' qb⟩;obtain⟨t2,e2⟩:∃ t,aA vs c-aA vs a=smul (af p.n q.n) t:=⟨_,V3.LD Gb pz qz⟩;refine(hv.conv (p:=q)).PU (hp q QT) aq bq hcq (kR qQ) (kR fA) (kR kv) ?_;unfold turn;rw[e1,e2];exact aVD _ _ _ _
 have aj:a∈bY s vs vs.length:=kM.2 ⟨la,sa⟩;have bj:b∈bY s vs vs.length:=kM.2 ⟨lb,sb⟩;have Kf:af s.n r.n≠0:=λh0=>BK (by rw[V3.Gl,h0,V3.neg_zero]);have me:dot s.n (aA vs e-aA vs a)<0:=ne0 hs hr (.inl rfl) he YE LJ sa sb ha hb Kf;have re:dot r.n (aA vs e-aA vs a)=0:=by rw[V3.gT,show dot _ (aA vs e)=_ from(kM.1 he).2,show dot _ (aA vs a)=_ from ta,OF.sub_self]
 refine⟨j,⟨s,hj,fj,bj,aj,kR qQ,λc oC kv fA=>?_⟩,λk gN=>?_⟩
 ·refine aVz BK (dz ta tb) (dz sa sb) re me te ?_ (ne0 hr hs (.inr rfl) oC fA kv ta tb aj bj BK);rw[V3.gT,show dot _ (aA vs c)=_ from(kM.1 oC).2,show dot _ (aA vs b)=_ from sb,OF.sub_self]
 ·obtain⟨t,ht,ft,hbt,mg,_,al⟩:=gN;have tt:cy t w:=hw▸aHp (kM.1 mg).2 (kM.1 hbt).2;rcases(hk k t ht).1 ⟨ft,tt⟩with rfl|h
  ·exfalso;rw[hi]at ht;injection ht with ht;subst ht;have h1:=al e he LJ YE;rw[Gs,Vp,<-Gs]at h1;have h2:=OF.neg_pos.1 h1;exact OF.lt_irrefl _ (OF.lt_trans te (by rwa[Gs]at h2))
  ·exact h
end
section
variable{F:Type}[OF F]
def mH(l:List F):F:=l.foldr (·+·) 0
theorem tU(a:F)(l:List F):mH (a::l)=a+mH l:=rfl
theorem YF:∀ l m:List F,mH (l++m)=mH l+mH m
 |[],m=>(CR.zero_add _).symm
 |a::l,m=>by rw[BX,tU,tU,YF l m,CR.add_assoc]
theorem aVE{l m:List F}(h:l.Perm m):mH l=mH m:=by
 induction h with
 |nil=>rfl
 |cons x _ ih=>rw[tU,tU,ih]
 |swap x y l=>rw[tU,tU,tU,tU,CR.add_left_comm]
 |trans _ _ h1 h2=>rw[h1,h2]
theorem YG{α:Type}(f:α->F):∀ l:List α,mH (l.map λx=>-f x)=-mH (l.map f)
 |[]=>CR.neg_zero.symm
 |a::l=>by rw[nE,nE,tU,tU,YG f l,CR.z8]
theorem aHr{α:Type}(f g:α->F):∀ l:List α,mH (l.map λx=>f x+g x)=mH (l.map f)+mH (l.map g)
 |[]=>(CR.zero_add _).symm
 |a::l=>by rw[nE,nE,nE,tU,tU,tU,aHr f g l,CR.add_assoc,CR.add_assoc,CR.add_left_comm (g a)]
theorem aHs{α:Type}(f:α->List F):∀ l:List α,mH (l.flatMap f)=mH (l.map λx=>mH (f x))
 |[]=>rfl
 |a::l=>by rw[List.flatMap_cons,YF,nE,tU,aHs f l]
theorem aHt:∀{l:List F},l≠[]->(∀ x∈l,0<x)->0<mH l
 |[],h,_=>absurd rfl h
 |[a],_,h=>by rw[tU];show 0<a+0;rw[CR.add_zero];exact h a (aT ..)
 |a::b::l,_,h=>OF.add_pos (h a (aT ..)) (aHt (aHl _ _) λx hx=>h x (bF _ hx))
theorem aVF{a:F}(h:a=-a):a=0:=by
 rcases OF.lt_trichotomy a 0 with k|k|k
 ·have:=OF.neg_pos.2 k;rw[<-h]at this;exact absurd (OF.lt_trans this k) (OF.lt_irrefl _)
 ·exact k
 ·have:=OF.F1.2 k;rw[<-h]at this;exact absurd (OF.lt_trans this k) (OF.lt_irrefl _)
end
def uW(h:Nat):List Nat->List (Nat×Nat)
 |[]=>[]
 |[x]=>[(x,h)]
 |x::y::t=>(x,y)::uW h (y::t)
def J0:List Nat->List (Nat×Nat)
 |[]=>[]
 |a::m=>uW a (a::m)
theorem Sb(h:Nat):∀ l:List Nat,(uW h l).map (·.1)=l
 |[]=>rfl
 |[x]=>rfl
 |x::y::t=>by rw[uW,nE,Sb h (y::t)]
theorem aHu{R:Nat->Nat->Prop}(h:Nat):∀ l:List Nat,mD R (l++[h])->∀ p∈uW h l,R p.1 p.2
 |[],_,p,hp=>by cases hp
 |[x],hs,p,hp=>by simp[uW]at hp;subst hp;exact hs.1
 |x::y::t,hs,p,hp=>by
  rcases cC.1 hp with rfl|hp
  ·exact hs.1
  ·exact aHu h (y::t) hs.2 p hp
theorem aHv(h:Nat):∀ l:List Nat,∀ p∈uW h l,p.2=h\/p.2∈l
 |[],p,hp=>by cases hp
 |[x],p,hp=>by simp[uW]at hp;subst hp;exact .inl rfl
 |x::y::t,p,hp=>by
  rcases cC.1 hp with rfl|hp
  ·exact .inr s_
  ·exact(aHv h (y::t) p hp).imp id (bF _)
section
variable{ps:c_}{vs:e_}{r s:HS K}{i j a b:Nat}
theorem J1(hp:fH ps)(hv:iM ps vs){f:Nat×List Nat}(h:f∈dE ps vs ps.length):∃ r,ps[f.1]?=some r/\ga ps vs f.1=[f]/\¬(bY r vs vs.length).length<3/\
  ∃ a m,f.2=a::m/\(a::m).Nodup/\(∀ x,x∈a::m↔x∈bY r vs vs.length)/\mD (mZ r.n (aA vs) (bY r vs vs.length)) (a::m++[a]):=by
 unfold dE at h;rw[w6]at h;obtain⟨i,hi,hf⟩:=h;have lX:=jT.1 hi;have hr:=bo lX;have uI:=hp _ (dB lX);generalize ps[i]=r at *;have e:ga ps vs i=if lf ps i r then[]else if(bY r vs vs.length).length<3 then[]else[(i,order r.n (aA vs) (bY r vs vs.length))]:=by unfold ga;rw[hr];exact hv.Bf uI i
 by_cases hm:lf ps i r=true
 ·rw[e,aB hm]at hf;cases hf
 rw[av hm]at e;by_cases h3:(bY r vs vs.length).length<3
 ·rw[e,aB h3]at hf;cases hf
 rw[av h3]at e;rw[e,Cz]at hf;subst hf;refine⟨r,hr,e,h3,?_⟩;have hc:=hv.conv (p:=r);have hs:=hv.sort (p:=r);clear e;generalize bY r vs vs.length=on at *
 match on,h3,hc,hs with
 |a::b::l,_,hc,hs=>
  obtain⟨m,e1,e2,e3,e4⟩:=aCC uI hc hs;exact⟨a,m,e1,e2,e3,e4⟩
 |[],h3,_,_=>exact(h3 s_).elim
 |[_],h3,_,_=>exact(h3 s_).elim
theorem aVG(hn:(bY r vs vs.length).Nodup)(h3:¬(bY r vs vs.length).length<3){n:V3 K}(h:mZ n (aA vs) (bY r vs vs.length) a b):b≠a:=by
 rintro rfl
 obtain⟨e,he,h1,_⟩:=aHq hn h3 b b;have:=h e he h1 h1;unfold turn at this;rw[V3.sub_self,show af (0:V3 K) (aA vs e-aA vs b)=0 from aVC _,V3.yr]at this;exact OF.lt_irrefl _ this
theorem Sc(hp:fH ps)(hv:iM ps vs){f:Nat×List Nat}(h:f∈dE ps vs ps.length){e:Nat×Nat}(he:e∈J0 f.2):DE ps vs f.1 e.1 e.2:=by
 obtain⟨r,hr,U3,h3,a,m,e1,fv,oe,bP⟩:=J1 hp hv h;rw[e1]at he;have hl:=aHu a (a::m) bP e he;have hx:e.1∈a::m:=by have:e.1∈(uW a (a::m)).map (·.1):=db.2 ⟨e,he,rfl⟩;rwa[Sb]at this
 have hy:e.2∈a::m:=(aHv a (a::m) e he).elim (λh=>by rw[h];exact aT ..) id;exact⟨r,hr,by rw[U3];exact aHl _ _,(oe _).1 hx,(oe _).1 hy,aVG (Hm r vs) h3 hl,hl⟩
theorem aVH(hp:fH ps)(hv:iM ps vs)(h:DE ps vs i a b):∃ f∈dE ps vs ps.length,f.1=i/\(a,b)∈J0 f.2:=by
 obtain⟨r,hr,hf,ha,hb,qQ,hl⟩:=h;obtain⟨f,Ge⟩:∃ f,f∈ga ps vs i:=List.exists_mem_of_ne_nil _ hf;have hi:=(eA.1 hr).1;have oe:f∈dE ps vs ps.length:=by unfold dE;exact w6.2 ⟨i,jT.2 hi,Ge⟩
 have jA:f.1=i:=by
  rcases YD (ps:=ps) (vs:=vs) i with e|⟨_,l,_,e⟩
  ·rw[e]at Ge;cases Ge
  ·rw[e,Cz]at Ge;rw[Ge]
 obtain⟨r',ph,_,_,a',m,e1,fv,hm,bP⟩:=J1 hp hv oe;rw[jA,hr]at ph;injection ph with ph;subst ph;refine⟨f,oe,jA,?_⟩;have vx:a∈(uW a' (a'::m)).map (·.1):=by rw[Sb];exact(hm a).2 ha
 obtain⟨e,he,rfl⟩:=db.1 vx;have pT:e∈J0 f.2:=by rw[e1];exact he
 obtain⟨r2,lv,_,_,gF,aVI,ju⟩:=Sc hp hv oe pT;rw[jA,hr]at lv;injection lv with lv;subst lv;have cz:∀ a∈bY r vs vs.length,∀ b∈bY r vs vs.length,aA vs a=aA vs b->a=b:=λa ha b hb e=>hv.inj (kM.1 ha).1 (kM.1 hb).1 e;have:=Vy (pt:=aA vs) (n:=r.n) cz hb gF qQ aVI hl ju;rw[this];exact pT
def Bl(ps:c_)(vs:e_):List (Nat×Nat):=(dE ps vs ps.length).flatMap λf=>J0 f.2
theorem aHw(hp:fH ps)(hv:iM ps vs):(a,b)∈Bl ps vs↔∃ i,DE ps vs i a b:=by unfold Bl;rw[w6];exact⟨λ⟨f,h1,h2⟩=>⟨f.1,Sc hp hv h1 h2⟩,λ⟨i,h⟩=>by obtain⟨f,h1,_,h2⟩:=aVH hp hv h;exact⟨f,h1,h2⟩⟩
theorem DE.uniq(hc:Cl ps)(hp:fH ps)(hv:iM ps vs)(hf:lD ps)(h1:DE ps vs i a b)(h2:DE ps vs j a b):i=j:=by obtain⟨k,hk,_⟩:=h1.rev hc hp hv hf;obtain⟨m,_,hm⟩:=hk.rev hc hp hv hf;rw[hm i h1,hm j h2]
theorem aVJ(ps:c_)(vs:e_)(n:Nat):(dE ps vs n).Pairwise λf g=>f.1≠g.1:=by
 unfold dE;rw[List.pairwise_flatMap];refine⟨λi _=>?_,(List.nodup_range (n:=n)).imp λ{i j} kP f hf g hg=>?_⟩
 ·rcases YD (ps:=ps) (vs:=vs) i with e|⟨_,l,_,e⟩<;>rw[e]
  ·exact .nil
  ·exact VA ..
 ·have one:∀{i:Nat} {f:Nat×List Nat},f∈ga ps vs i->f.1=i:=λ{i f} hf=>by
   rcases YD (ps:=ps) (vs:=vs) i with e|⟨_,l,_,e⟩
   ·rw[e]at hf;cases hf
   ·rw[e,Cz]at hf;rw[hf]
  rw[one hf,one hg];exact kP
theorem aVK(hc:Cl ps)(hp:fH ps)(hv:iM ps vs)(hf:lD ps):(Bl ps vs).Nodup:=by
 unfold Bl;refine List.pairwise_flatMap.2 ⟨λf Hv=>?_,?_⟩
 ·obtain⟨r,_,_,_,a,m,e1,fv,_,_⟩:=J1 hp hv Hv;rw[e1];have:((uW a (a::m)).map (·.1)).Nodup:=by rw[Sb];exact fv
  exact List.Pairwise.of_map (·.1) (λx y h e=>h (by rw[e])) this
 ·refine aGA (λ{f g} Hv hgm aQ=>?_) (aVJ ps vs ps.length)
  rintro e he e' pT rfl
  exact aQ ((Sc hp hv Hv he).uniq hc hp hv hf (Sc hp hv hgm pT))
theorem aVL(hc:Cl ps)(hp:fH ps)(hv:iM ps vs)(hf:lD ps)(φ:Nat->Nat->K)(aVM:∀ x y,φ y x=-φ x y):mH ((Bl ps vs).map λe=>φ e.1 e.2)=0:=by
 have fv:=aVK hc hp hv hf;have hsw:(Bl ps vs).Perm ((Bl ps vs).map λe=>(e.2,e.1)):=by
  refine(aTI fv ?_).2 λe=>?_
  ·exact List.Pairwise.map _ (λx y h e=>h (by have:=Prod.mk.inj e;exact Prod.ext this.2 this.1)) fv
  ·obtain⟨x,y⟩:=e;rw[db];have rv:∀{x y},(x,y)∈Bl ps vs->(y,x)∈Bl ps vs:=λh=>by obtain⟨i,h⟩:=(aHw hp hv).1 h;obtain⟨j,hj,_⟩:=h.rev hc hp hv hf;exact(aHw hp hv).2 ⟨j,hj⟩
   exact⟨λh=>⟨(y,x),rv h,rfl⟩,λ⟨e',h1,h2⟩=>by have:=Prod.mk.inj h2;rw[<-this.1,<-this.2];exact rv h1⟩
 have h1:=aVE (hsw.map λe=>φ e.1 e.2);rw[TG]at h1;have h2:(λe:Nat×Nat=>φ e.1 e.2)∘(λe:Nat×Nat=>(e.2,e.1))=λe=>-φ e.1 e.2:=by funext e;exact aVM e.1 e.2
 rw[h2,YG]at h1;exact aVF h1
end
section
variable{F:Type}[OF F]
def rh(φ:Nat->Nat->F):List Nat->F
 |x::y::t=>φ x y+rh φ (y::t)
 |_=>0
theorem aHx(φ ψ:Nat->Nat->F):∀ m:List Nat,rh (λx y=>φ x y+ψ x y) m=rh φ m+rh ψ m
 |[]=>(CR.zero_add _).symm
 |[x]=>(CR.zero_add _).symm
 |x::y::t=>by show φ x y+ψ x y+rh _ (y::t)=φ x y+rh φ (y::t)+(ψ x y+rh ψ (y::t));rw[aHx φ ψ (y::t),CR.add_assoc,CR.add_assoc,CR.add_left_comm (ψ x y)]
theorem aHy(φ:Nat->Nat->F):∀ m:List Nat,rh (λx y=>-φ x y) m=-rh φ m
 |[]=>CR.neg_zero.symm
 |[x]=>CR.neg_zero.symm
 |x::y::t=>by show -φ x y+rh _ (y::t)=-(φ x y+rh φ (y::t));rw[aHy φ (y::t),CR.z8]
theorem aHz(g:Nat->Nat->F)(hg:∀ x y,g y x=-g x y)(a:Nat):∀(x:Nat) (t:l_),rh (λx y=>g a x+g x y+g y a) (x::t)=mH ((J0 (a::x::t)).map λe=>g e.1 e.2)
 |x,[]=>by show(0:F)=g a x+(g x a+0);rw[hg a x,CR.add_zero,CR.add_neg]
 |x,y::t=>by have ih:=aHz g hg a y t;have e:∀ z (l:l_),mH ((J0 (a::z::l)).map λe=>g e.1 e.2)=g a z+mH ((uW a (z::l)).map λe=>g e.1 e.2):=λz l=>rfl;rw[e]at ih ⊢;show g a x+g x y+g y a+rh _ (y::t)=g a x+(g x y+mH ((uW a (y::t)).map λe=>g e.1 e.2));rw[ih,hg a y];generalize mH ((uW a (y::t)).map λe=>g e.1 e.2)=s;generalize g a y=p;generalize g a x=q;generalize g x y=r;exact Aa p q r s (λp q r s=>q+r+-p+(p+s)) (λp q r s=>q+(r+s)) d_
theorem aHA{φ:Nat->Nat->F}{R:Nat->Nat->Prop}:∀{m:l_},mD R m->(∀ x∈m,∀ y∈m,R x y->0<φ x y)->2<=m.length->0<rh φ m
 |[],_,_,h=>by simp at h
 |[_],_,_,h=>by simp at h
 |[x,y],hs,hp,_=>by show 0<φ x y+0;rw[CR.add_zero];exact hp x s_ y s_ hs.1
 |x::y::z::t,hs,hp,_=>OF.add_pos (hp x s_ y s_ hs.1) (aHA (m:=y::z::t) hs.2 (λu hu v hv=>hp u (bF _ hu) v (bF _ hv)) s_)
theorem aHB{R:Nat->Nat->Prop}:∀{l r:l_},mD R (l++r)->mD R l
 |[],_,_=>trivial
 |[_],_,_=>trivial
 |_::y::t,r,h=>⟨h.1,aHB (l:=y::t) (r:=r) h.2⟩
theorem aVN{R:Nat->Nat->Prop}:∀{l:l_},mD R (a::l)->mD R l
 |[],_=>trivial
 |_::_,h=>h.2
theorem aVO(o a x y:V3 F):aW (a-o) (x-o) (y-o)=aW a x y+-(aW o a x+aW o x y+aW o y a):=
 V3.ring [o,a,x,y] [] (λV _=>aW (V 1-V 0) (V 2-V 0) (V 3-V 0)) (λV _=>aW (V 1) (V 2) (V 3)+-(aW (V 0) (V 1) (V 2)+aW (V 0) (V 2) (V 3)+aW (V 0) (V 3) (V 1))) d_
theorem aVP(n a x y o:V3 F):dot n n*aW (a-o) (x-o) (y-o)=dot n (a-o)*dot n (af (x-a) (y-a))+dot n (x-a)*dot (a-o) (af n (y-a))+-(dot n (y-a))*dot (a-o) (af n (x-a)):=
 V3.ring [n,a,x,y,o] [] (λV _=>dot (V 0) (V 0)*aW (V 1-V 4) (V 2-V 4) (V 3-V 4)) (λV _=>dot (V 0) (V 1-V 4)*dot (V 0) (af (V 2-V 1) (V 3-V 1))+dot (V 0) (V 2-V 1)*dot (V 1-V 4) (af (V 0) (V 3-V 1))+-(dot (V 0) (V 3-V 1))*dot (V 1-V 4) (af (V 0) (V 2-V 1))) k_
theorem aVQ{n a x y o:V3 F}(hn:n≠0)(h1:0<dot n (a-o))(h2:0<turn n a x y)(hx:dot n (x-a)=0)(hy:dot n (y-a)=0):0<aW (a-o) (x-o) (y-o):=by have e:=aVP n a x y o;rw[hx,hy,CR.zero_mul,CR.neg_zero,CR.zero_mul,CR.add_zero,CR.add_zero]at e;have h3:=OF.mul_pos h1 h2;unfold turn at h3;rw[<-e]at h3;rw[OF.gk]at h3 ⊢;rwa[OF.Ld (V3.Cw hn)]at h3
end
section
variable{ps:c_}{vs:e_}
def Nn(g:Nat->Nat->Nat->K):List Nat->K
 |[]=>0
 |a::m=>rh (g a) m
def wi(ps:c_)(vs:e_)(g:Nat->Nat->Nat->K):K:=mH ((dE ps vs ps.length).map λf=>Nn g f.2)
theorem aVR(g h:Nat->Nat->Nat->K):wi ps vs (λa x y=>g a x y+h a x y)=wi ps vs g+wi ps vs h:=by
 unfold wi;rw[<-aHr]
 congr 1
 refine vm λf _=>?_;unfold Nn;cases f.2 with
 |nil=>exact(CR.zero_add _).symm
 |cons a m=>exact aHx _ _ m
theorem aVS(g:Nat->Nat->Nat->K):wi ps vs (λa x y=>-g a x y)=-wi ps vs g:=by
 unfold wi;rw[<-YG]
 congr 1
 refine vm λf _=>?_;unfold Nn;cases f.2 with
 |nil=>exact CR.neg_zero.symm
 |cons a m=>exact aHy _ m
theorem aVT(hc:Cl ps)(hp:fH ps)(hv:iM ps vs)(hf:lD ps)(g:Nat->Nat->K)(hg:∀ x y,g y x=-g x y):wi ps vs (λa x y=>g a x+g x y+g y a)=0:=by
 have:=aVL hc hp hv hf g hg;unfold Bl at this;rw[List.map_flatMap,aHs]at this;unfold wi;rw[<-this]
 congr 1
 refine vm λf Hv=>?_;obtain⟨r,_,_,h3,a,m,e1,fv,oe,_⟩:=J1 hp hv Hv;have hm:m≠[]:=by
  rintro rfl
  have:=Hn (Hm r vs) (J:=[a]) λx hx=>(oe x).2 hx;simp at this;omega
 rw[e1];cases m with
 |nil=>exact absurd rfl hm
 |cons x t=>exact aHz g hg a x t
def Sd(ps:c_)(vs:e_):K:=wi ps vs λa x y=>aW (aA vs a) (aA vs x) (aA vs y)
theorem aVU(hc:Cl ps)(hp:fH ps)(hv:iM ps vs)(hf:lD ps)(o:V3 K):wi ps vs (λa x y=>aW (aA vs a-o) (aA vs x-o) (aA vs y-o))=Sd ps vs:=by
 have h0:=aVT hc hp hv hf (λx y=>aW o (aA vs x) (aA vs y)) λx y=>V3.Vk _ _ _;have e:(λa x y=>aW (aA vs a-o) (aA vs x-o) (aA vs y-o))=λa x y=>aW (aA vs a) (aA vs x) (aA vs y)+-(aW o (aA vs a) (aA vs x)+aW o (aA vs x) (aA vs y)+aW o (aA vs y) (aA vs a)):=by funext a x y;exact aVO _ _ _ _
 rw[e,aVR,aVS,h0,CR.neg_zero,CR.add_zero];rfl
theorem aVV(hc:Cl ps)(hp:fH ps)(hv:iM ps vs)(hf:lD ps){g:Nat->Nat->Nat->K}(h:∀(i:Nat) (r:HS K),ps[i]?=some r->∀ a x y:Nat,a∈bY r vs vs.length->x∈bY r vs vs.length->y∈bY r vs vs.length->0<turn r.n (aA vs a) (aA vs x) (aA vs y)->0<g a x y):0<wi ps vs g:=by
 unfold wi;refine aHt (λe=>?_) λz hz=>?_
 ·have h4:=aTJ hc hp hv hf;have:=cO List.length e;rw[eH]at this;simp at this;rw[this]at h4;simp at h4
 ·obtain⟨f,Hv,rfl⟩:=db.1 hz;obtain⟨r,hr,_,h3,a,m,e1,fv,oe,bP⟩:=J1 hp hv Hv;rw[e1];have hlen:2<=m.length:=by have:=Hn (Hm r vs) (J:=a::m) λx hx=>(oe x).2 hx;simp at this;omega
  refine aHA (R:=mZ r.n (aA vs) (bY r vs vs.length)) (aHB (r:=[a]) (aVN bP)) (λx hx y hy hl=>?_) hlen;have ha:=(oe a).1 (aT ..);have nx:=(Yb.1 fv).1;have ax:a≠x:=λe=>nx (e▸hx);have ay:a≠y:=λe=>nx (e▸hy);refine h f.1 r hr a x y ha ((oe x).1 (bF _ hx)) ((oe y).1 (bF _ hy)) ?_;have:=hl a ha ax ay;rwa[<-Gs]at this
theorem aVW(hc:Cl ps)(hp:fH ps)(hv:iM ps vs)(hf:lD ps):0<Sd ps vs:=by
 obtain⟨o,ho⟩:=hf;rw[<-aVU hc hp hv ⟨o,ho⟩ o];refine aVV hc hp hv ⟨o,ho⟩ λi r hr a x y ha hx hy ht=>?_;have Np:=cL hr;have on:∀{c},c∈bY r vs vs.length->dot r.n (aA vs c)=r.d:=λh=>(kM.1 h).2;refine aVQ (hp r Np) ?_ ht ?_ ?_
 ·rw[V3.gT,on ha];exact OF.sub_pos.2 (ho r Np)
 ·rw[V3.gT,on ha,on hx,OF.sub_self]
 ·rw[V3.gT,on ha,on hy,OF.sub_self]
end
section
variable{vs:e_}{ps:c_}
theorem aHC(s:K)(a x:V3 K)(m:e_):∀ t,nZ s (a::x::m) (t+1)=nZ (s+aW a x ((m[0]?).getD 0)) (a::m) t
 |0=>rfl
 |t+1=>by have ih:=aHC s a x m t;show nZ s (a::x::m) (t+1)+_=nZ (s+aW a x ((m[0]?).getD 0)) (a::m) t+_;rw[ih];rfl
theorem aHD(s:K)(a:Nat):∀(m:l_),nZ s (kN vs (a::m)) (m.length-1)=s+rh (λx y=>aW (aA vs a) (aA vs x) (aA vs y)) m
 |[]=>(CR.add_zero s).symm
 |[x]=>(CR.add_zero s).symm
 |x::y::t=>by have ih:=aHD (s+aW (aA vs a) (aA vs x) (aA vs y)) a (y::t);show nZ s (aA vs a::aA vs x::kN vs (y::t)) (t.length+1)=s+(aW (aA vs a) (aA vs x) (aA vs y)+rh _ (y::t));rw[aHC,<-CR.add_assoc,<-ih];rfl
theorem aVX(s:K){L:l_}(h:2<=L.length):nZ s (kN vs L) (L.length-2)=s+Nn (λa x y=>aW (aA vs a) (aA vs x) (aA vs y)) L:=by
 match L,h with
 |a::x::m,_=>exact aHD s a (x::m)
 |[],h=>exact absurd h s_
 |[_],h=>exact absurd h s_
theorem aHE(Fs:List (Nat×List Nat))(h:∀ f∈Fs,2<=f.2.length):∀ i,i<=Fs.length->C5 vs (Fs.map (·.2)) i=mH ((Fs.take i).map λf=>Nn (λa x y=>aW (aA vs a) (aA vs x) (aA vs y)) f.2)
 |0,_=>rfl
 |i+1,hi=>by have hf:Fs[i]?=some Fs[i]:=bo o_;have hm:=dB (l:=Fs) (n:=i) o_;generalize Fs[i]=f at *;rw[aHd vs Fs i f hf,aVX _ (h _ hm),aHE Fs h i o_,vS,hf,vf,YF];show _=_+(_+0);rw[CR.add_zero]
theorem aVY(h:∀ f∈dE ps vs ps.length,2<=f.2.length):JZ vs (dE ps vs ps.length)=Sd ps vs*fK 1 6:=by unfold JZ;rw[aHE _ h _ (by rw[eH];exact bC _),eH,o5];rfl
theorem YH(hp:fH ps)(hv:iM ps vs){f:Nat×List Nat}(h:f∈dE ps vs ps.length):3<=f.2.length/\f.2.length<=vs.length/\∀ x∈f.2,x<vs.length:=by obtain⟨r,_,_,h3,a,m,e1,fv,hm,_⟩:=J1 hp hv h;have h1:=Hn (Hm r vs) (J:=a::m) λx hx=>(hm x).2 hx;have h2:=Hn fv (J:=List.range vs.length) λx hx=>jT.2 (kM.1 ((hm x).1 hx)).1;rw[zD]at h2;rw[e1];exact⟨by omega,h2,λx hx=>(kM.1 ((hm x).1 hx)).1⟩
theorem aVZ(hp:fH ps)(hv:iM ps vs)(h9:ps.length<=20)(hq:∀ p∈vs,aI q p)(hn:vs.length<=1000)(hb:q<=100000):Bk vs (dE ps vs ps.length) q 1000:=by
 have hl:(dE ps vs ps.length).length<=20:=dq (Jy ps vs _) h9;refine⟨λf hf=>?_,λf hf=>(YH hp hv hf).2.2,hq,?_,by omega,by decide⟩
 ·have:=YH hp hv hf;omega
 ·have h1:((dE ps vs ps.length).length+2)*((1000+1)*(15*q+50))<=22*(1001*1500050):=qG o_ (qG o_ o_);exact fq (aAc h1 2) d_
end
end
section
open V3 (dot af aW smul)
def qt(ps:c_):aR:=.s ps.length (bt ps) (cQ ps).length (aV (cQ ps)) (jE (lI ps))
noncomputable def wj(ps:c_):K:=Sd ps (cQ ps)*fK 1 6
structure mI(ps:c_):Prop where
 len:ps.length<=9
 sz:∀ p∈ps,bO 24 p/\p.n≠0
 cl:Cl ps
 full:lD ps
section
variable{ps:c_}
theorem mI.proper(h:mI ps):fH ps:=λq hq=>(h.sz q hq).2
theorem mI.aV0(h:mI ps):A8 ps 24:=⟨by have:=h.len;omega,λq hq=>(h.sz q hq).1,h.proper,by decide⟩
theorem mI.YI(h:mI ps):iM ps (cQ ps):=aGS h.cl h.proper h.full
theorem mI.vsz(h:mI ps):(∀ v∈cQ ps,aI 4000 v)/\(cQ ps).length<=81*9:=by rw[EZ h.cl h.proper h.full];exact sD.sz (m:=24) (M:=4000) ⟨h.len,h.sz,by decide,by decide⟩
theorem mI.loops(h:mI ps):Bk (cQ ps) (dE ps (cQ ps) ps.length) 4000 1000:=
 aVZ h.proper h.YI (by have:=h.len;omega) h.vsz.1 (by have:=h.vsz.2;omega) d_
theorem mI.aHF(h:mI ps):JZ (cQ ps) (dE ps (cQ ps) ps.length)=wj ps:=
 aVY λf hf=>by have:=YH h.proper h.YI hf;omega
theorem mI.aHG(h:mI ps):Sz 800000000 (wj ps):=by rw[<-h.aHF];have hl:(dE ps (cQ ps) ps.length).length<=9:=dq (Jy ps _ _) h.len;have h1:=R7 h.loops ((dE ps (cQ ps) ps.length).map fB).length (by rw[eH];exact bC _);refine(h1.mul (GD (p:=1) (q:=6) (n:=3) d_ d_ d_)).mono ?_;rw[eH];have h2:(dE ps (cQ ps) ps.length).length*((1000+1)*(15*4000+50))<=9*(1001*60050):=qG hl (bC _);exact dq (Hb (Hb (aAc h2 2) 3) 4) d_
theorem mI.aCJ(h:mI ps):Na ps=true:=(aUv h.proper).2 ⟨h.cl,h.full⟩
theorem mI.valid(h:mI ps):cE prog 40 [qt ps] b_:=by have:=aTW h.aV0 h.aCJ;unfold aGE JO at this;rw[eH]at this;exact this
def wA(np nv:Nat):Value:=.agg #[sl 0 np,sl 1 nv,eg 2]
def Hw(ps:c_):q_:=[(0,some (.view (bt ps))),(1,some (.view (aV (cQ ps)))),(2,some (.fact (jE (lI ps))))]
theorem J2(h:gB Bs l xs []):gB Bs (qt ps::l) (wA ps.length (cQ ps).length::xs) (Hw ps):=
 .s (x1:=.view (bt ps)) (x2:=.view (aV (cQ ps))) rfl (dC ps) jD rfl (ee _) w9 h
theorem YJ(ps:c_):(qt ps).ok=true:=by show((bt ps).all flat&&((aV (cQ ps)).all flat&&true))=true;rw[dC,ee];rfl
theorem YK(h:mI ps):cE prog 10 [qt ps] (.tuple #[bI (wj ps),hZ 0]):=by
 have aC:([qt ps].all aR.ok)=true:=by simp only[dL,eX,YJ,iJ]
 have hv:=aVk (np:=ps.length) (xp:=bt ps) h.loops (dC ps) jD;rw[h.aHF]at hv;have kV:=h.valid;generalize wj ps=x at *;exact dV func10 aC 10 (λw=>[.step 5 (aw f10 5) [.func (.func 40) #[] #[],wA ps.length (cQ ps).length] (Hw ps) b_ [] (dR kV (J2 .nil) (x:=.func 40) k_ k_ rfl),.step 9 (aw f10 9) [.func (.func 41) #[] #[],wA ps.length (cQ ps).length] (Hw ps) (bI x) [] (dR hv (J2 .nil) (x:=.func 41) k_ k_ k_)])
theorem Nq(h:mI ps)(h1:1<=d)(h2:d<=30000):cE prog 9 [qt ps,.p (vI d)] (.tuple #[bI (wj ps*fK d 1000),hZ 0]):=by
 have aC:([qt ps,.p (vI d)].all aR.ok)=true:=by simp only[dL,eX,YJ,kF,iJ];rfl
 have hv:=YK h;have bH:=h.aHG;have hr:Sz 16 (fK (d:Int) 1000):=GD d_ (by rw[yb];omega) d_;have mr:=Yz (p:=(d:Int)) (q:=1000) (n:=16) d_ (by rw[yb];omega) d_ d_;have ml:=nO bH hr d_;generalize wj ps=x at *;generalize fK (d:Int) 1000=y at *;exact dV func9 aC 30 (λw=>[.step 10 (aw f9 10) [.func (.func 10) #[] #[],wA ps.length (cQ ps).length] (Hw ps) (.tuple #[bI x,hZ 0]) [] (dR hv (J2 .nil) (x:=.func 10) k_ k_ k_),.lt 20 d 1 false (aP o_),.gt 23 d 30000 false (aP o_),mr.at 28,ml.at 29])
theorem aV1{x:K}{n:Nat}(hx:Sz n x)(hn:n+30<=aD):aF prog 18 [bI x] (.tuple #[bI (x*fK 1 200),hZ 0]):=by have hr:Sz 8 (fK 1 200):=GD d_ d_ d_;have mr:=Yz (p:=1) (q:=200) (n:=8) d_ d_ d_ d_;have ml:=nO hx hr o_;generalize fK 1 200=y at *;exact aN func18 (λ_=>[(kZ hx o_).at 5,mr.at 9,ml.at 10])
end
end
section
open CR OF
open V3 (dot af aW smul)
section
variable{rs:List RP}{vs:List RV}{fs:f_}{n:Nat}
theorem aHH(rs:List RP)(vs:List RV)(fs:f_)(n:Nat):([ig rs vs fs,.p (vI n)].all aR.ok)=true:=by have e:(ig rs vs fs).ok=true:=RX rs vs fs;simp only[dL,eX,e,kF,iJ];rfl
noncomputable def YL(zf:cE prog 13 [ig rs vs fs] (.bool t))(more:bM prog Bs 18):bM prog Bs 18:=
 .step 6 (aw f8 6) [.func (.func 13) #[] #[],sA rs.length vs.length] (R1 rs vs fs) (.bool t) [] (dR zf (Yt .nil) (x:=.func 13) k_ k_ rfl)::more
noncomputable def riV(hl:rs.length<=n)(kV:cE prog 37 [ig rs vs fs] (.bool t)):bM prog Bs 18:=
 [.rw 12 _ b_ (Hd (a:=rs.length) (b:=n) (aH hl)),.step 16 (aw f8 16) [.func (.func 37) #[] #[],sA rs.length vs.length] (R1 rs vs fs) (.bool t) [] (dR kV (Yt .nil) (x:=.func 37) k_ k_ rfl)]
theorem YM(zf:cE prog 13 [ig rs vs fs] b_)(hl:rs.length<=n)(kV:cE prog 37 [ig rs vs fs] (.bool t)):cE prog 8 [ig rs vs fs,.p (vI n)] (.bool t):=by have aC:=aHH rs vs fs n;unfold ig at *;exact dV func8 aC 18 (λw=>YL zf (riV hl kV))
theorem aV2(hn:n<=9)(JV:rs.length<9223372036854775807)(jt:vs.length<9223372036854775807)(tT:fs.length<9223372036854775807):cE prog 8 [ig rs vs fs,.p (vI n)] a_\/
  ∃ ps:c_,mI ps/\ps.length<=n/\rs=ps.map c9/\vs=(cQ ps).map cK/\fs=lI ps/\cE prog 8 [ig rs vs fs,.p (vI n)] b_:=by
 have aC:=aHH rs vs fs n;have zf:=aUr (rs:=rs) (vs:=vs) (fs:=fs) JV jt tT;by_cases hb:Ng rs vs fs=true;rotate_left
 ·have hb:Ng rs vs fs=false:=by simpa using hb
  rw[hb]at zf;unfold ig at *;exact .inl (dV func8 aC 18 (λw=>YL zf []))
 rw[hb]at zf;by_cases hl:rs.length<=n;rotate_left
 ·unfold ig at *;exact .inl (dV func8 aC 18 (λw=>YL zf [.rw 12 _ a_ (Hd (a:=rs.length) (b:=n) (aP hl))]))
 have jU:=hb;unfold Ng MV at jU;simp only[dr]at jU;obtain⟨cR,⟨Np,_,_⟩,⟨hvw,aXa⟩,aXb⟩:=jU;rw[bB]at cR Np hvw;have bH:∀ x∈rs,A3 24 x:=λx hx=>aQ8 (Np x hx) d_;have aZ:∀ x∈vs,x.Sm:=λx hx=>aUF (hvw x hx) d_;have sn:∀ f∈fs,f.2.length<9223372036854775807:=λf hf=>fq (kX (cR f hf)) d_;by_cases bh:rs.all r8=true;rotate_left
 ·exact .inl (YM zf hl (aUn bH d_ JV (by simpa using bh)))
 obtain⟨ers,jO⟩:=aUG bh;have ck:∀ q∈rs.map pZ,bO 24 q/\q.n≠0:=λq hq=>by refine⟨?_,jO q hq⟩;obtain⟨x,hx,rfl⟩:=db.1 hq;exact aQ7 (bB.1 bh x hx) (bH x hx)
 have hlen:(rs.map pZ).length=rs.length:=eH ..;generalize hP:rs.map pZ=ps at *;subst ers;have Se:fH ps:=λq hq=>(ck q hq).2;have aV3:sD ps 24 4000:=⟨by omega,ck,by decide,by decide⟩;have kV:=aUo (vs:=vs) (fs:=fs) aV3 (λhc hs=>by have hc:=X7.1 hc;have hf:=aGU Se hs;have:=aGT hc Se hf;rw[EZ hc Se hf]at this;exact this) aZ jt tT sn
 by_cases hvalid:JT ps vs fs=true;rotate_left
 ·have hvalid:JT ps vs fs=false:=by simpa using hvalid
  rw[hvalid]at kV;exact .inl (YM zf hl kV)
 rw[hvalid]at kV;obtain⟨hc,hf,e1,e2⟩:=aUx Se hvalid;exact .inr ⟨ps,⟨by omega,ck,hc,hf⟩,by omega,rfl,e1,e2,YM zf hl kV⟩
end
section
variable{ps:c_}{a b m n:Nat}
def wk(a:Nat):Value:=.int .u16 a
theorem aV4(ps:c_)(a b:Nat):([qt ps,.p (wk a),.p (wk b)].all aR.ok)=true:=by simp only[dL,eX,YJ,kF,iJ];rfl
theorem aHI{x:Nat}(h:x<65536):IntKind.i64.wrap (x:Int)=(x:Int):=by rw[dh];omega
noncomputable def Sf(key:Nat)(x:K)(h:cE prog 9 [qt ps,.p (vI d)] (.tuple #[bI x,hZ 0]))(ho:dD (aw Tryz.f3 key).op=some (.func 9)):bd prog Bs 97:=
 .step key (aw Tryz.f3 key) [.func (.func 9) #[] #[],wA ps.length (cQ ps).length,vI d] (Hw ps) (.tuple #[bI x,hZ 0]) [] (dR h (J2 (.p rfl .nil)) (x:=.func 9) ho k_ k_)
theorem aV5{x y z v:K}(J3:cE prog 7 [] b_)(YN:cE prog 8 [qt ps,.p (vI 8)] b_)(ha:a<65536)(hb:b<65536)(em:m=a%15000+1)(en:n=b%15000+1)
  (h1:cE prog 9 [qt ps,.p (vI m)] (.tuple #[bI x,hZ 0])) (h2:cE prog 9 [qt ps,.p (vI n)] (.tuple #[bI y,hZ 0])) (h3:cE prog 9 [qt ps,.p (vI (m+n))] (.tuple #[bI z,hZ 0]))
  (h4:cE prog 10 [qt ps] (.tuple #[bI v,hZ 0])) (h5:cE prog 9 [qt ps,.p (vI 1000)] (.tuple #[bI v,hZ 0])) (hs:aF prog 11 [bI x,bI y] (bI z)) (hg:aF prog 12 [bI x] (.int .i64 1))
  (sz:Sz q z) (sv:Sz q v) (hq:q<=aD):cE prog 3 [qt ps,.p (wk a),.p (wk b)] b_:=by
 have aC:=aV4 ps a b;have r1:((a:Nat):Int).tmod 15000=((a%15000:Nat):Int):=by rw[wH o_];rfl
 have r2:((b:Nat):Int).tmod 15000=((b%15000:Nat):Int):=by rw[wH o_];rfl
 exact jC mixed func3 aC 400 (N:=97) k_ (λw=>[
  .step 19 (aw Tryz.f3 19) [.func (.func 7) #[] #[]] [] b_ [] (dR J3 .nil (x:=.func 7) k_ k_ rfl),
  .step 22 (aw Tryz.f3 22) [.func (.func 8) #[] #[],wA ps.length (cQ ps).length,vI 8] (Hw ps) b_ [] (dR YN (J2 (.p rfl .nil)) (x:=.func 8) k_ k_ rfl),
  .wr 25 .i64 (a:Int) (a:Int) (aHI ha),.vu Tryz.f3 26 .i64 (a:Int) 15000 ((a%15000:Nat):Int) d_ r1 k_,.sum 27 (a%15000) 1 m em o_,.wr 29 .i64 (b:Int) (b:Int) (aHI hb),.vu Tryz.f3 30 .i64 (b:Int) 15000 ((b%15000:Nat):Int) d_ r2 k_,.sum 31 (b%15000) 1 n en o_,
  Sf 35 x h1 k_,Sf 41 y h2 k_,.sum 48 m n (m+n) rfl o_,Sf 49 z h3 k_,
  .step 54 (aw Tryz.f3 54) [.func (.func 10) #[] #[],wA ps.length (cQ ps).length] (Hw ps) (.tuple #[bI v,hZ 0]) [] (dR h4 (J2 .nil) (x:=.func 10) k_ k_ k_),
  Sf 59 v h5 k_,hs.at 83,.step 85 (aw Tryz.f3 85) [bI z,bI z] [] b_ [] (Lj (neg:=true) k_ (de z) (de z) (ux sz hq) (ux sz hq) s_),
  .step 90 (aw Tryz.f3 90) [bI v,bI v] [] b_ [] (Lj (neg:=true) k_ (de v) (de v) (ux sv hq) (ux sv hq) s_),hg.at 94]) (λ_=>k_) k_
end
theorem Nr{p:Int}{n:Nat}(hn:n≠0):fK p (n:Int)=kI p*fK 1 (n:Int):=by
 rw[aGa];unfold fK;rw[<-IK s_ (by simpa using hn)];have e:fe ⟨p,0,0,0,1⟩ ⟨1,0,0,0,(n:Int)⟩=⟨p,0,0,0,(n:Int)⟩:=by unfold fe;simp
 rw[e]
theorem aV6{p n:Nat}(hn:n≠0):fK (p:Int) (n:Int)+fK (q:Int) (n:Int)=fK ((p+q:Nat):Int) (n:Int):=by rw[Nr hn,Nr (p:=(q:Int)) hn,Nr (p:=((p+q:Nat):Int)) hn,<-CR.add_mul,<-JJ,<-JJ,<-JJ,CR.ofNat_add]
theorem aV7{n:Nat}(hn:n≠0):fK (n:Int) (n:Int)=1:=by rw[Nr hn,CR.mul_comm,aGb hn]
theorem aHJ{p n:Nat}(hp:p≠0)(hn:n≠0):0<fK (p:Int) (n:Int):=by rw[Nr hn,aGc hn,<-JJ];exact OF.mul_pos (LP o_) (OF.inv_pos (LP o_))
section
variable{ps:c_}{a b:Nat}
theorem aV8(h:mI ps):0<wj ps:=OF.mul_pos (aVW h.cl h.proper h.YI h.full) (aHJ (p:=1) (n:=6) d_ d_)
theorem aV9(h:mI ps)(J3:cE prog 7 [] b_)(YN:cE prog 8 [qt ps,.p (vI 8)] b_)(ha:a<65536)(hb:b<65536):cE prog 3 [qt ps,.p (wk a),.p (wk b)] b_:=by
 have hv:=h.aHG;have hm:a%15000<15000:=cM _ d_;have hn:b%15000<15000:=cM _ d_;have h1:=Nq h (d:=a%15000+1) o_ o_;have h2:=Nq h (d:=b%15000+1) o_ o_;have h3:=Nq h (d:=a%15000+1+(b%15000+1)) o_ o_;have h5:=Nq h (d:=1000) d_ d_;have hw:∀ d:Nat,d<=30000->Sz 800000020 (wj ps*fK (d:Int) 1000):=λd hd=>(hv.mul (GD (p:=(d:Int)) (q:=1000) (n:=16) d_ (by rw[yb];omega) d_)).mono d_;have s1:=hw (a%15000+1) o_;have s2:=hw (b%15000+1) o_;have s3:=hw (a%15000+1+(b%15000+1)) o_;have e5:wj ps*fK ((1000:Nat):Int) 1000=wj ps:=by rw[show fK ((1000:Nat):Int) 1000=1 from aV7 (n:=1000) d_,CR.mul_one]
 rw[e5]at h5;have hs:=aXI s1 s2 d_;rw[<-CR.mul_add,show fK ((a%15000+1:Nat):Int) 1000+fK ((b%15000+1:Nat):Int) 1000=fK ((a%15000+1+(b%15000+1):Nat):Int) 1000 from aV6 (n:=1000) d_]at hs;have hg:=aXu s1 d_;have gQ:0<wj ps*fK ((a%15000+1:Nat):Int) 1000:=OF.mul_pos (aV8 h) (aHJ (p:=a%15000+1) (n:=1000) o_ d_);rw[OF.gk.1 gQ]at hg;exact aV5 J3 YN ha hb rfl rfl h1 h2 h3 (YK h) h5 hs hg s3 (hv.mono d_) d_
end
section
variable{rs:List RP}{vs:List RV}{fs:f_}{a b:Nat}
theorem aWa(ps:c_):ig (ps.map c9) ((cQ ps).map cK) (lI ps)=.s ps.length (bt ps) (cQ ps).length (aV (cQ ps)) (oK (lI ps)):=by unfold ig;rw[eH,eH];rfl
theorem aWb(J3:cE prog 7 [] b_)(JV:rs.length<9223372036854775807)(jt:vs.length<9223372036854775807)(tT:fs.length<9223372036854775807)(ha:a<65536)(hb:b<65536):
  cE prog 3 [ig rs vs fs,.p (wk a),.p (wk b)] b_:=by
 rcases aV2 (n:=8) d_ JV jt tT with h|⟨ps,h,h8,rfl,rfl,rfl,R9⟩
 ·have aC:([ig rs vs fs,.p (wk a),.p (wk b)].all aR.ok)=true:=by have e:(ig rs vs fs).ok=true:=RX rs vs fs;simp only[dL,eX,e,kF,iJ];rfl
  unfold ig at *;exact jC mixed func3 aC 400 (N:=97) k_ (λw=>[
   .step 19 (aw Tryz.f3 19) [.func (.func 7) #[] #[]] [] b_ [] (dR J3 .nil (x:=.func 7) k_ k_ rfl),
   .step 22 (aw Tryz.f3 22) [.func (.func 8) #[] #[],sA rs.length vs.length,vI 8] (R1 rs vs fs) a_ [] (dR h (Yt (.p rfl .nil)) (x:=.func 8) k_ k_ rfl)]) (λ_=>k_) k_
 ·rw[aWa]at R9 ⊢;exact cE.aUI (aV9 h J3 (cE.aGM R9 (Bi.full _).G) ha hb) (aUH ps)
end
end
theorem aWc:aF prog 85 [vI 0] (.string (ByteArray.mk #[])):=aN func85 (λ_=>[])
section
variable{Bs:aa}{N:Nat}
noncomputable def Bm(a n':Nat)(ha:a<bz)(hn:nd bz a=n'):bd prog Bs N:=
 .step 43 (aw f84 43) [.func (.func 137) #[] #[],sl 2 1] [(2,some (.row [vI a] 3 1))] (sl 2 n') [] (hn▸aDv (y:=.func 137) (n:=1) (a:=a) (k:=2) (off:=0) (x:=.row [vI a] 3 1) k_ rfl rfl (by rw[CS ha];rfl) (by rw[BS];exact ha) d_ (λ_=>.inr trivial))
noncomputable def Bn(m q:Nat):List (bd prog Bs N):=[.ix f84 32 2 1 0 d_ k_,.ld f84 33 3 2 0 (.row [vI m] 3 1) (vI m) rfl k_ k_,.ix f84 39 2 1 0 d_ k_,.st f84 100039 3 2 0 (.row [vI m] 3 1) (vI q) (.row [vI q] 3 1) rfl k_ rfl k_]
end
noncomputable def Sg(m:Nat)(dg:lV prog 100 [.p (oX m)] 3 1 1 [vI m])(more:bM prog Bs N):bM prog Bs N:=
 (aXv false (m:=m) n_).at 9::.rw 14 (.bool ((BA (ct m)).toList==(ByteArray.mk #[]).toList)) (.bool (decide (m=0))) (by rw[qJ])::
  .step 17 (aw f84 17) [.func (.func 100) #[] #[],oX m] [(2,none)] (sl 2 1) [(2,.row [vI m] 3 1)] (rR dg (.p rfl .nil) (x:=.func 100) k_ k_ rfl 2)::more
theorem aWd:aF prog 84 [bf 25] (.string (ByteArray.mk #[50,53])):=by
 have hd:nd bz 25=1:=v8 d_ d_;have hc:cJ 25=[vI 25]:=by unfold cJ;rw[hd,CS d_];rfl
 have dg:=Jh (m:=25) (by rw[show nd 256 25=1 from by kernel_rfl];decide);rw[hd,hc]at dg;exact fW mixed func84 200 (λ_=>Sg 25 dg (Bn 25 2++[Bm 2 1 d_ (v8 d_ d_)]++Bn 2 0++[Bm 0 0 d_ nF])) (λ_=>k_) k_ k_
theorem aWe:aF prog 84 [bf 88] (.string (ByteArray.mk #[56,56])):=by
 have hd:nd bz 88=1:=v8 d_ d_;have hc:cJ 88=[vI 88]:=by unfold cJ;rw[hd,CS d_];rfl
 have dg:=Jh (m:=88) (by rw[show nd 256 88=1 from by kernel_rfl];decide);rw[hd,hc]at dg;exact fW mixed func84 200 (λ_=>Sg 88 dg (Bn 88 8++[Bm 8 1 d_ (v8 d_ d_)]++Bn 8 0++[Bm 0 0 d_ nF])) (λ_=>k_) k_ k_
theorem aWf:aF prog 84 [bf 625] (.string (ByteArray.mk #[54,50,53])):=by
 have hd:nd bz 625=1:=v8 d_ d_;have hc:cJ 625=[vI 625]:=by unfold cJ;rw[hd,CS d_];rfl
 have dg:=Jh (m:=625) (by rw[show nd 256 625=2 from by kernel_rfl];decide);rw[hd,hc]at dg;exact fW mixed func84 200 (λ_=>Sg 625 dg (Bn 625 62++[Bm 62 1 d_ (v8 d_ d_)]++Bn 62 6++[Bm 6 1 d_ (v8 d_ d_)]++Bn 6 0++[Bm 0 0 d_ nF])) (λ_=>k_) k_ k_
theorem aWg:aF prog 84 [bf 704] (.string (ByteArray.mk #[55,48,52])):=by
 have hd:nd bz 704=1:=v8 d_ d_;have hc:cJ 704=[vI 704]:=by unfold cJ;rw[hd,CS d_];rfl
 have dg:=Jh (m:=704) (by rw[show nd 256 704=2 from by kernel_rfl];decide);rw[hd,hc]at dg;exact fW mixed func84 200 (λ_=>Sg 704 dg (Bn 704 70++[Bm 70 1 d_ (v8 d_ d_)]++Bn 70 7++[Bm 7 1 d_ (v8 d_ d_)]++Bn 7 0++[Bm 0 0 d_ nF])) (λ_=>k_) k_ k_
section
open CR OF
open V3 (dot af aW smul)
section
variable{m n:Nat}{a b c:ByteArray}
def zg(m n:Nat):Value:=iE ⟨(m:Int),0,0,0,(n:Int)⟩
theorem YO:aF prog 80 [bf 0] (.int .i64 0):=aXM 0
theorem aHK{x y:Int}(h1:x.natAbs<2^k)(h2:y.natAbs<2^k)(hk:k<=aD)(aQ:x≠y)(ho:FY o=some (false,31)):cI prog Bs o [bf x,bf y] [] b_ []:=by
 have:=Cm (Bs:=Bs) (neg:=false) ho (bN x) (bN y) (uu h1 hk) (uu h2 hk) (b:=true) (by simp;exact λh=>aQ (yd h))
 exact this
noncomputable def pfS(hv:aF prog 42 [zg m n] b_)(hs:aF prog 80 [bf m] (.int .i64 1))(hg:aF prog 81 [bf m,bf n] (bf 1))(ch:aF prog 83 [bf m] (bf m))
  (o1:aF prog 82 [bf m,bf 1] (bf m)) (o2:aF prog 82 [bf n,bf 1] (bf n)) (h1:aF prog 50 [.int .i64 1] (bf 1)) (pm:aF prog 84 [bf m] (.string a)) (pn:aF prog 84 [bf n] (.string b))
  (aQ:cI prog Bs (aw f36 66) [bf n,bf 1] [] b_ []):bM prog Bs N:=
 [hv.at 11,hs.at 22,hg.at 27,ch.at 29,o1.at 31,o2.at 35,hs.at 38,h1.at 47,pm.at 62,.step 66 (aw f36 66) [bf n,bf 1] [] b_ [] aQ,pn.at 69,aWc.at 74,YO.at 22,YO.at 22,YO.at 22]
end
theorem aWh:aF prog 36 [zg 704 25] (.string (ByteArray.mk #[55,48,52,47,50,53])):=by have hv:aF prog 42 [zg 704 25] b_:=aXy (n:=10) (f:=⟨704,0,0,0,25⟩) ⟨by decide,by decide⟩ ⟨by decide,by decide,by decide,by decide,by decide⟩ d_;have hg:aF prog 81 [bf (704:Nat),bf (25:Nat)] (bf 1):=aX2 (p:=10) (q:=10) d_ d_ d_ d_;have o1:aF prog 82 [bf (704:Nat),bf 1] (bf (704:Nat)):=aXL (n:=10) d_ d_ d_ d_;have o2:aF prog 82 [bf (25:Nat),bf 1] (bf (25:Nat)):=aXL (n:=10) d_ d_ d_ d_;exact fW mixed func36 300 (λ_=>pfS hv (aXM 704) hg (Wv 704) o1 o2 (aXW (z:=1) d_ d_) aWg aWd (aHK (k:=10) d_ d_ d_ d_ k_)) (λ_=>k_) k_ k_
theorem aWi:aF prog 36 [zg 88 625] (.string (ByteArray.mk #[56,56,47,54,50,53])):=by have hv:aF prog 42 [zg 88 625] b_:=aXy (n:=10) (f:=⟨88,0,0,0,625⟩) ⟨by decide,by decide⟩ ⟨by decide,by decide,by decide,by decide,by decide⟩ d_;have hg:aF prog 81 [bf (88:Nat),bf (625:Nat)] (bf 1):=aX2 (p:=10) (q:=10) d_ d_ d_ d_;have o1:aF prog 82 [bf (88:Nat),bf 1] (bf (88:Nat)):=aXL (n:=10) d_ d_ d_ d_;have o2:aF prog 82 [bf (625:Nat),bf 1] (bf (625:Nat)):=aXL (n:=10) d_ d_ d_ d_;exact fW mixed func36 300 (λ_=>pfS hv (aXM 88) hg (Wv 88) o1 o2 (aXW (z:=1) d_ d_) aWe aWf (aHK (k:=10) d_ d_ d_ d_ k_)) (λ_=>k_) k_ k_
theorem aHL:mI qo:=⟨by decide,λp h=>⟨(aGX (sC _ h)).mono d_,Yp (sC _ h)⟩,Yr,Yq⟩
theorem aWj:wj qo=kI 8:=by unfold wj;rw[aUE];kernel_rfl
theorem aWk:kI 8*fK ((3520:Nat):Int) 1000=fK 704 25:=by kernel_rfl
theorem aWl:fK 704 25*fK 1 200=fK 88 625:=by kernel_rfl
theorem aHM:bI (fK 704 25)=zg 704 25:=by rw[Qr d_];kernel_rfl
theorem aWm:bI (fK 88 625)=zg 88 625:=by rw[Qr d_];kernel_rfl
theorem aWn{F:Fact}{v:K}(hF:F.rc=false)(f1:xp.all flat=true)(f2:eU.all flat=true)(z1:np=0->xp=[])(z2:n2=0->eU=[])
  (hB:CL prog 34 [.p (vI 1)] 54 40 np xp 44 30 n2 eU F [hZ 0]) (hV:cE prog 10 [.s np xp n2 eU F] (.tuple #[bI v,hZ 0])) (hW:cE prog 9 [.s np xp n2 eU F,.p (vI 3520)] (.tuple #[zg 704 25,hZ 0]))
  (hC:aF prog 18 [zg 704 25] (.tuple #[zg 88 625,hZ 0])) (h8:aF prog 35 [.int .i64 8] (bI v)) (sv:Sz 20 v) :
  cE prog 7 [] b_:=
 jC mixed func7 rfl 300 (N:=53) k_ (λw=>[
  .step 10 (aw f7 10) [.func (.func 34) #[] #[],vI 1] [(0,none),(1,none),(2,none)] (.tuple #[.agg #[sl 0 np,sl 1 n2,eg 2],hZ 0]) [(2,.fact (F.nq w.heap.size)),(1,.row eU 44 30),(0,.row xp 54 40)]
   (Mn (B:=aa.at w) (S:=w.heap.size) hB (.p rfl .nil) (x:=.func 34) k_ k_ hF f1 f2 rfl (λw' hb=>Below.size hb) 0),
  .step 15 (aw f7 15) [.func (.func 10) #[] #[],.agg #[sl 0 np,sl 1 n2,eg 2]] [(0,some (.row xp 54 40)),(1,some (.row eU 44 30)),(2,some (.fact (F.nq w.heap.size)))] (.tuple #[bI v,hZ 0]) []
   (dR hV (.si (Yd _ _) (x1:=.row xp 54 40) (x2:=.row eU 44 30) rfl f1 z1 rfl f2 z2 .nil) (x:=.func 10) k_ k_ k_),
  .step 20 (aw f7 20) [.func (.func 9) #[] #[],.agg #[sl 0 np,sl 1 n2,eg 2],vI 3520] [(0,some (.row xp 54 40)),(1,some (.row eU 44 30)),(2,some (.fact (F.nq w.heap.size)))] (.tuple #[zg 704 25,hZ 0]) []
   (dR hW (.si (Yd _ _) (x1:=.row xp 54 40) (x2:=.row eU 44 30) rfl f1 z1 rfl f2 z2 (.p rfl .nil)) (x:=.func 9) k_ k_ k_),
  hC.at 25,h8.at 40,.step 41 (aw f7 41) [bI v,bI v] [] b_ [] (Lj (neg:=true) k_ (de v) (de v) (ux sv d_) (ux sv d_) s_),aWh.at 45,aWi.at 50]) (λw=>k_) k_
theorem aWo:cE prog 7 [] b_:=by have hV:=YK aHL;have hW:=Nq aHL (d:=3520) d_ d_;rw[aWj]at hV hW;rw[aWk,aHM]at hW;have hC:=aV1 (x:=fK 704 25) (n:=10) (GD d_ d_ d_) d_;rw[aWl,aHM,aWm]at hC;exact aWn rfl (dC _) (ee _) n_ w9 aUD hV hW hC (aXp (z:=8) d_) (qe d_ d_)
end
end Go.Proofs.YtmocejjfkdcgkaaGreatDoor
