/- Centroid and extent of solids: the proof of MeasureInsideCardSaid (the law's function answers true at every record and every direction it can be given; theorem measureInside_card, last part), part 6 of 7; no condition. -/
import Derived.Test.YtgpahigmalfpdaaGreatDoorIC5
namespace Go.Proofs.YtgpahigmalfpdaaGreatDoor
open Go Go.RowKit Tryz
variable{i m k a q j d N np nv:Nat}{w:h_}{ι:Map}{o:Oper}{c:g_}{B Bs:aa}{t:Bool}{x:K}{ps:c_}{ty:TypeId}{xs e6 xp:al}{l:List aQ}
section
open CR OF V3
section
variable{F:Type}[OF F]
def dL(y u n:V3 F):F:=-(dot n u*(dot n y)⁻¹)
theorem YW{y u n:V3 F}(h:dot n y≠0):dot n u=-(dL y u n*dot n y):=by unfold dL;rw[CR.neg_mul,CR.neg_neg,CR.mul_assoc,OF.inv_mul h,CR.mul_one]
theorem aHD(y u n:V3 F):dL y (-u) n=-dL y u n:=by unfold dL;rw[pO,CR.neg_mul]
theorem aHE{α:Type}(P:α->Prop)(f:α->F):∀ l:List α,(∃ m∈l,P m)->∃ m∈l,P m/\∀ r∈l,P r->f r<=f m
 |[],⟨_,h,_⟩=>by cases h
 |a::l,h=>by
  by_cases hl:∃ m∈l,P m
  ·obtain⟨m,h1,h2,h3⟩:=aHE P f l hl;by_cases ha:P a/\f m<f a
   ·refine⟨a,aR ..,ha.1,λr hr hp=>?_⟩;rcases cE.1 hr with rfl|hr
    ·exact OF.le_refl _
    ·exact OF.le_trans (h3 r hr hp) (OF.le_of_lt ha.2)
   ·refine⟨m,bK _ h1,h2,λr hr hp=>?_⟩;rcases cE.1 hr with rfl|hr
    ·exact OF.not_lt.1 λk=>ha ⟨hp,k⟩
    ·exact h3 r hr hp
  ·obtain⟨m,h1,h2⟩:=h;rcases cE.1 h1 with rfl|h1
   ·refine⟨m,aR ..,h2,λr hr hp=>?_⟩;rcases cE.1 hr with rfl|hr
    ·exact OF.le_refl _
    ·exact absurd ⟨r,hr,hp⟩ hl
   ·exact absurd ⟨m,h1,h2⟩ hl
theorem aHF{a b:F}(h:a<0)(k:b<0):0<a*b:=by have:=OF.mul_pos (OF.neg_pos.2 h) (OF.neg_pos.2 k);rwa[CR.neg_mul,CR.mul_neg,CR.neg_neg]at this
theorem od.go{ps S:List (HS F)}(h:od ps S){w r:V3 F}(hw:ep ps w)(hr:∀ m∈S,cC m w->dot m.n r<=0):∀ q∈ps,cC q w->dot q.n r<=0:=by
 obtain⟨e,he,bo⟩:=R9 (S.map λm=>if OF.aE (m.d-dot m.n w)=1 then(dot m.n r,m.d-dot m.n w)else(0,1)) λx hx=>by
  obtain⟨m,_,rfl⟩:=df.1 hx;split
  ·rename_i hs;exact OF.gj.2 hs
  ·exact OF.zero_lt_one
 have cy:ep ps (w+smul r e):=(h.same _).1 λm hm=>by
  rw[iT,gk];have h1:dot m.n w<=m.d:=hw m (h.sub m hm);by_cases hs:OF.aE (m.d-dot m.n w)=1
  ·have:=bo _ (df.2 ⟨m,hm,rfl⟩);rw[aA hs]at this;have:=(OF.add_le_add_left (dot m.n w)).2 this;rwa[show dot m.n w+(m.d-dot m.n w)=m.d from iR (dot m.n w) m.d (λa d=>a+(d-a)) (λ_ d=>d) d_]at this
  ·have ht:cC m w:=OF.le_antisymm h1 (OF.not_lt.1 λk=>hs (OF.gj.1 (OF.sub_pos.2 k)));have h2:=OF.mul_nonneg (OF.neg_nonneg.2 (hr m hm ht)) (OF.le_of_lt he);rw[CR.neg_mul,OF.neg_nonneg]at h2;have:=OF.add_le_add h1 h2;rwa[CR.add_zero]at this
 intro q hq tq;have:=cy q hq;rw[iT,gk,show dot q.n w=q.d from tq]at this;apply OF.not_lt.1;intro k;have h2:=(OF.add_lt_add_left q.d).2 (OF.mul_pos k he);rw[CR.add_zero]at h2;exact OF.lt_irrefl _ (OF.lt_of_lt_of_le h2 this)
theorem Sy{ps:List (HS F)}{x w:V3 F}(hx:sB ps x):∀ q∈ps,cC q w->dot q.n (x-w)<0:=λq hq tq=>by have:=hx q hq;rw[<-show dot q.n w=q.d from tq,<-OF.sub_pos]at this;rw[gg];rwa[<-OF.neg_sub,OF.neg_pos]at this
theorem od.side{ps S:List (HS F)}(h:od ps S){x w:V3 F}(hx:sB ps x)(hw:ep ps w){a:HS F}(ha:a∈ps)(ta:cC a w)(u:V3 F):
  ∃ q∈S,cC q w/\∀ r∈ps,cC r w->dL (x-w) u r.n<=dL (x-w) u q.n:=by
 have neg:=Sy (w:=w) hx;have ne:∃ m∈S,cC m w:=by apply iP;intro gi;have h1:=h.go (r:=-(x-w)) hw (λm hm tm=>absurd ⟨m,hm,tm⟩ gi) a ha ta;rw[pO,OF.Ef]at h1;exact OF.lt_irrefl _ (OF.lt_of_lt_of_le (neg a ha ta) h1)
 obtain⟨q,hq,tq,v7⟩:=aHE (λm=>cC m w) (λm=>dL (x-w) u m.n) S ne;refine⟨q,hq,tq,λr hr tr=>?_⟩;have dir:∀ m∈ps,cC m w->dot m.n (u+smul (x-w) (dL (x-w) u q.n))=dot m.n (x-w)*(dL (x-w) u q.n-dL (x-w) u m.n):=λm hm tm=>by rw[iT,gk,YW (OF.ne_of_lt (neg m hm tm))];generalize dot m.n (x-w)=b;generalize dL (x-w) u q.n=s;generalize dL (x-w) u m.n=t;exact j0 b s t (λb s t=>-(t*b)+b*s) (λb s t=>b*(s-t)) d_
 have:=h.go (r:=u+smul (x-w) (dL (x-w) u q.n)) hw (λm hm tm=>by have bJ:=h.sub m hm;rw[dir m bJ tm];have:=OF.mul_nonneg (OF.le_of_lt (OF.neg_pos.2 (neg m bJ tm))) (OF.sub_nonneg.2 (v7 m hm tm));rwa[CR.neg_mul,OF.neg_nonneg]at this) r hr tr
 rw[dir r hr tr]at this;apply OF.not_lt.1;intro k;have h2:dL (x-w) u q.n-dL (x-w) u r.n<0:=by rw[<-OF.neg_pos,OF.neg_sub];exact OF.sub_pos.2 k
 exact OF.lt_irrefl _ (OF.lt_of_lt_of_le (aHF (neg r hr tr) h2) this)
theorem aVr(n d y u v:V3 F):dot n v*aN d y u=dot n d*aN v y u+dot n y*aN d v u+dot n u*aN d y v:=
 ring [n,d,y,u,v] [] (λV _=>dot (V 0) (V 4)*aN (V 1) (V 2) (V 3)) (λV _=>dot (V 0) (V 1)*aN (V 4) (V 2) (V 3)+dot (V 0) (V 2)*aN (V 1) (V 4) (V 3)+dot (V 0) (V 3)*aN (V 1) (V 2) (V 4)) d_
theorem aVs(d y u v:V3 F):smul v (aN d y u)=smul d (aN v y u)+smul y (aN d v u)+smul u (aN d y v):=
 il [d,y,u,v] [] (λV _=>smul (V 3) (aN (V 0) (V 1) (V 2))) (λV _=>smul (V 0) (aN (V 3) (V 1) (V 2))+smul (V 1) (aN (V 0) (V 3) (V 2))+smul (V 2) (aN (V 0) (V 1) (V 3))) d_
theorem aVt(d y u n:V3 F):smul n (aN d y u)=smul (ag y u) (dot n d)+smul (ag u d) (dot n y)+smul (ag d y) (dot n u):=
 il [d,y,u,n] [] (λV _=>smul (V 3) (aN (V 0) (V 1) (V 2))) (λV _=>smul (ag (V 1) (V 2)) (dot (V 3) (V 0))+smul (ag (V 2) (V 0)) (dot (V 3) (V 1))+smul (ag (V 0) (V 1)) (dot (V 3) (V 2))) d_
theorem aHG{n d y u:V3 F}(hd:dot n d=0)(hb:dot n y<0)(v:V3 F):dot n v*aN d y u=dot n y*(aN d v u-dL y u n*aN d y v):=by rw[aVr,hd,YW (u:=u) (OF.ne_of_lt hb)];generalize dot n y=b;generalize dL y u n=s;generalize aN d v u=e;generalize aN d y v=x;generalize aN v y u=z;exact Gm b s e x z (λb s e x z=>0*z+b*e+-(s*b)*x) (λb s e x z=>b*(e-s*x)) d_
theorem aHH{n d y u v:V3 F}(D:0<aN d y u)(hd:dot n d=0)(hb:dot n y<0)(h:dot n v<=0):dL y u n*aN d y v<=aN d v u:=by
 apply OF.not_lt.1;intro k;have h1:aN d v u-dL y u n*aN d y v<0:=by rw[<-OF.neg_pos,OF.neg_sub];exact OF.sub_pos.2 k
 have h2:=aHF hb h1;rw[<-aHG hd hb v]at h2;have h3:=OF.mul_nonneg (OF.neg_nonneg.2 h) (OF.le_of_lt D);rw[CR.neg_mul,OF.neg_nonneg]at h3;exact OF.lt_irrefl _ (OF.lt_of_lt_of_le h2 h3)
theorem aVu{n n1 n2 d y u v:V3 F}(D:0<aN d y u)(hd:dot n d=0)(GR:dot n1 d=0)(Lr:dot n2 d=0)(hb:dot n y<0)(mK:dot n1 y<0)(gy:dot n2 y<0)(h:dot n v=0)(h1:dot n1 v<=0)(h2:dot n2 v<=0)
  (l1:dL y u n<dL y u n1) (l2:dL y u n2<dL y u n):smul v (aN d y u)=smul d (aN v y u):=by
 have k:=aHG hd hb (u:=u) v;rw[h,CR.zero_mul]at k;have e:aN d v u=dL y u n*aN d y v:=by
  rcases OF.mul_eq_zero.1 k.symm with k|k
  ·exact absurd k (OF.ne_of_lt hb)
  ·exact OF.sub_eq_zero.1 k
 have k1:=aHH D GR mK h1;have k2:=aHH D Lr gy h2;rw[e]at k1 k2;have g1:=OF.sub_pos.2 l1;have g2:=OF.sub_pos.2 l2;have x0:aN d y v=0:=by
  rcases OF.lt_trichotomy (aN d y v) 0 with hx|hx|hx
  ·exfalso;have:=OF.mul_pos g2 (OF.neg_pos.2 hx);rw[CR.mul_neg,OF.neg_pos]at this;rw[<-OF.sub_nonneg,show dL y u n*aN d y v-dL y u n2*aN d y v=(dL y u n-dL y u n2)*aN d y v from j0 (dL y u n) (dL y u n2) (aN d y v) (λa b x=>a*x-b*x) (λa b x=>(a-b)*x) d_]at k2;exact OF.lt_irrefl _ (OF.lt_of_lt_of_le this k2)
  ·exact hx
  ·exfalso;have:=OF.mul_pos g1 hx;rw[<-OF.sub_nonneg,show dL y u n*aN d y v-dL y u n1*aN d y v=-((dL y u n1-dL y u n)*aN d y v)from j0 (dL y u n) (dL y u n1) (aN d y v) (λa b x=>a*x-b*x) (λa b x=>-((b-a)*x)) d_,OF.neg_nonneg]at k1;exact OF.lt_irrefl _ (OF.lt_of_lt_of_le this k1)
 rw[aVs,e,x0,CR.mul_zero];exact il [d,y,u] [aN v y u] (λV S=>smul (V 0) (S 0)+smul (V 1) 0+smul (V 2) 0) (λV S=>smul (V 0) (S 0)) d_
theorem aHI{p q:V3 F}{k:F}(hk:k≠0)(h:smul p k=smul q k):p=q:=by
 have e:∀ p:V3 F,smul (smul p k) k⁻¹=p:=λp=>by rw[show smul (smul p k) k⁻¹=smul p (k*k⁻¹)from il [p] [k,k⁻¹] (λV S=>smul (smul (V 0) (S 0)) (S 1)) (λV S=>smul (V 0) (S 0*S 1)) d_,OF.jA k hk,V3.VT]
 rw[<-e p,h,e]
theorem aVv{n n1 d y u:V3 F}(D:aN d y u≠0)(hd:dot n d=0)(GR:dot n1 d=0)(hb:dot n y<0)(mK:dot n1 y<0)(e:dL y u n1=dL y u n):∃ k:F,0<k/\n1=smul n k:=by
 have hn:=OF.ne_of_lt hb;refine⟨dot n1 y*(dot n y)⁻¹,?_,aHI D ?_⟩
 ·have:=OF.mul_pos (OF.neg_pos.2 mK) (OF.inv_pos (OF.neg_pos.2 hb));have h2:(-dot n y)⁻¹=-(dot n y)⁻¹:=by
   have bB:-dot n y≠0:=OF.ne_of_gt (OF.neg_pos.2 hb);have h3:-dot n y*-(dot n y)⁻¹=1:=by rw[CR.neg_mul,CR.mul_neg,CR.neg_neg,OF.jA _ hn]
   rw[<-CR.mul_one (-dot n y)⁻¹,<-h3,<-CR.mul_assoc,OF.inv_mul bB,CR.one_mul]
  rwa[h2,CR.neg_mul,CR.mul_neg,CR.neg_neg]at this
 ·have g:∀ m:V3 F,dot m d=0->dot m y<0->dL y u m=dL y u n->smul m (aN d y u)=smul (ag u d-smul (ag d y) (dL y u n)) (dot m y):=λm h1 h2 h3=>by rw[aVt,h1,YW (u:=u) (OF.ne_of_lt h2),h3];exact il [ag y u,ag u d,ag d y] [dot m y,dL y u n] (λV S=>smul (V 0) 0+smul (V 1) (S 0)+smul (V 2) (-(S 1*S 0))) (λV S=>smul (V 1-smul (V 2) (S 1)) (S 0)) d_
  have g1:=g n1 GR mK e;have g2:=g n hd hb rfl;rw[g1,show smul (smul n (dot n1 y*(dot n y)⁻¹)) (aN d y u)=smul (smul n (aN d y u)) (dot n1 y*(dot n y)⁻¹)from il [n] [dot n1 y*(dot n y)⁻¹,aN d y u] (λV S=>smul (smul (V 0) (S 0)) (S 1)) (λV S=>smul (smul (V 0) (S 1)) (S 0)) d_,g2,show ∀(p:V3 F) (a b c:F),smul (smul p a) (b*c)=smul p (b*(a*c))from λp a b c=>il [p] [a,b,c] (λV S=>smul (smul (V 0) (S 0)) (S 1*S 2)) (λV S=>smul (V 0) (S 1*(S 0*S 2))) d_,OF.jA _ hn,CR.mul_one]
theorem od.two{ps S:List (HS F)}(h:od ps S){x w:V3 F}(hx:sB ps x)(hw:ep ps w)(hn:¬kz ps w){a b:HS F}(ha:a∈ps)(hb:b∈ps)(ta:cC a w)(tb:cC b w)(cd:ag a.n b.n≠0):
  ∃ p∈S,∃ q∈S,cC p w/\cC q w/\(¬∃ k:F,0<k/\q.n=smul p.n k)/\
   ∀ r∈ps,cC r w->(∃ k:F,0<k/\p.n=smul r.n k)\/(∃ k:F,0<k/\q.n=smul r.n k)\/∃ d:V3 F,∀ v,ep ps v->cC r v->∃ c:F,v=w+smul d c:=by
 have neg:=Sy (w:=w) hx;have flat:∀ r∈ps,cC r w->dot r.n (ag a.n b.n)=0:=λr hr tr=>by apply iP;intro k;refine hn ⟨hw,r,hr,a,ha,b,hb,?_,tr,ta,tb⟩;exact k
 generalize hd:ag a.n b.n=d at *;have hdy:ag d (x-w)≠0:=λe=>by
  -- then the way inside aXi lie along the aXj
  have h1:=neg a ha ta;have h2:=flat a ha ta;have h3:dot a.n (smul d (dot d (x-w)))=dot a.n (smul (x-w) (dot d d)):=by have:smul (x-w) (dot d d)=smul d (dot d (x-w))+ag (ag d (x-w)) d:=il [d,x-w] [] (λV _=>smul (V 1) (dot (V 0) (V 0))) (λV _=>smul (V 0) (dot (V 0) (V 1))+ag (ag (V 0) (V 1)) (V 0)) d_;rw[this,e,show ag (0:V3 F) d=0 from il [d] [] (λV _=>ag 0 (V 0)) (λ_ _=>0) d_,iT,xe,CR.add_zero]
  rw[gk,gk,h2,CR.zero_mul]at h3;rcases OF.mul_eq_zero.1 h3.symm with k|k
  ·exact OF.ne_of_lt h1 k
  ·exact AP cd k
 obtain⟨u,hu⟩:∃ u,u=ag d (x-w):=⟨_,rfl⟩;have D:0<aN d (x-w) u:=by rw[hu,show aN d (x-w) (ag d (x-w))=dot (ag d (x-w)) (ag d (x-w))from ring [d,x-w] [] (λV _=>aN (V 0) (V 1) (ag (V 0) (V 1))) (λV _=>dot (ag (V 0) (V 1)) (ag (V 0) (V 1))) d_];exact CN hdy
 obtain⟨p,hp,tp,mp⟩:=h.side hx hw ha ta u;obtain⟨q,hq,tq,mq⟩:=h.side hx hw ha ta (-u);have mq:∀ r∈ps,cC r w->dL (x-w) u q.n<=dL (x-w) u r.n:=λr hr tr=>by have:=mq r hr tr;rw[aHD,aHD,<-OF.sub_nonneg]at this;rw[<-OF.sub_nonneg];rwa[show -dL (x-w) u q.n - -dL (x-w) u r.n=dL (x-w) u r.n-dL (x-w) u q.n from iR (dL (x-w) u q.n) (dL (x-w) u r.n) (λa b=>-a - -b) (λa b=>b-a) d_]at this
 have fT:=h.sub p hp;have pP:=h.sub q hq;have dir:∀ m∈ps,∀ r∈ps,cC m w->cC r w->dL (x-w) u m.n=dL (x-w) u r.n->∃ k:F,0<k/\m.n=smul r.n k:=λm hm r hr tm tr e=>
  aVv (OF.ne_of_gt D) (flat r hr tr) (flat m hm tm) (neg r hr tr) (neg m hm tm) e
 refine⟨p,hp,q,hq,tp,tq,?_,λr hr tr=>?_⟩
 ·rintro⟨k,hk,e⟩
  -- then both aXk alike,and so aXl all else
  have hs:dL (x-w) u q.n=dL (x-w) u p.n:=by
   unfold dL;rw[e,LM,LM];have h1:=OF.ne_of_lt (neg p fT tp);have h2:=OF.ne_of_gt hk
   congr 1
   have h3:dot p.n (x-w)*k≠0:=OF.mul_ne_zero h1 h2;have h4:(dot p.n (x-w)*k)⁻¹=k⁻¹*(dot p.n (x-w))⁻¹:=by
    have:dot p.n (x-w)*k*(k⁻¹*(dot p.n (x-w))⁻¹)=1:=by rw[show ∀ a b c d:F,a*b*(c*d)=(a*d)*(b*c)from λa b c d=>yv a b c d (λa b c d=>a*b*(c*d)) (λa b c d=>(a*d)*(b*c)) d_,OF.jA _ h1,OF.jA _ h2,CR.mul_one]
    rw[<-CR.mul_one (dot p.n (x-w)*k)⁻¹,<-this,<-CR.mul_assoc,OF.inv_mul h3,CR.one_mul]
   rw[h4,show ∀ a b c d:F,a*b*(c*d)=a*d*(b*c)from λa b c d=>yv a b c d (λa b c d=>a*b*(c*d)) (λa b c d=>a*d*(b*c)) d_,OF.jA _ h2,CR.mul_one]
  have bo:∀ r∈ps,cC r w->dL (x-w) u r.n=dL (x-w) u p.n:=λr hr tr=>OF.le_antisymm (mp r hr tr) (hs▸mq r hr tr);obtain⟨c,_,hc⟩:=dir b hb a ha tb ta ((bo b hb tb).trans (bo a ha ta).symm);apply cd;rw[<-hd,hc];exact il [a.n] [c] (λV S=>ag (V 0) (smul (V 0) (S 0))) (λ_ _=>0) d_
 ·by_cases e1:dL (x-w) u p.n=dL (x-w) u r.n
  ·exact .inl (dir p fT r hr tp tr e1)
  by_cases e2:dL (x-w) u q.n=dL (x-w) u r.n
  ·exact .inr (.inl (dir q pP r hr tq tr e2))
  have l1:=(OF.oz (mp r hr tr)).resolve_right λe=>e1 e.symm;have l2:=(OF.oz (mq r hr tr)).resolve_right e2;refine .inr (.inr ⟨d,λv hv tv=>⟨aN (v-w) (x-w) u*(aN d (x-w) u)⁻¹,?_⟩⟩);have on:∀ m∈ps,cC m w->dot m.n (v-w)<=0:=λm hm tm=>by have:=hv m hm;rw[<-show dot m.n w=m.d from tm,<-OF.sub_nonneg]at this;rw[gg,<-OF.neg_nonneg,OF.neg_sub];exact this
  have nQ:dot r.n (v-w)=0:=by rw[gg,show dot r.n v=r.d from tv,show dot r.n w=r.d from tr,OF.sub_self]
  have:=aVu D (flat r hr tr) (flat p fT tp) (flat q pP tq) (neg r hr tr) (neg p fT tp) (neg q pP tq) nQ (on p fT tp) (on q pP tq) l1 l2;have hD:=OF.ne_of_gt D;have e:v-w=smul d (aN (v-w) (x-w) u*(aN d (x-w) u)⁻¹):=aHI hD (by rw[this];rw[show ∀(p:V3 F) (a b c:F),smul (smul p (a*b)) c=smul p (a*(c*b))from λp a b c=>il [p] [a,b,c] (λV S=>smul (smul (V 0) (S 0*S 1)) (S 2)) (λV S=>smul (V 0) (S 0*(S 2*S 1))) d_,OF.jA _ hD,CR.mul_one])
  rw[<-e];exact il [v,w] [] (λV _=>V 0) (λV _=>V 1+(V 0-V 1)) d_
end
end
section
open CR OF
open V3 (dot ag aN smul)
theorem aVw{F:Type}[OF F](n w d:V3 F)(a b c:F):dot n (ag (w+smul d b-(w+smul d a)) (w+smul d c-(w+smul d a)))=0:=
 V3.ring [n,w,d] [a,b,c] (λV S=>dot (V 0) (ag (V 1+smul (V 2) (S 1)-(V 1+smul (V 2) (S 0))) (V 1+smul (V 2) (S 2)-(V 1+smul (V 2) (S 0))))) (λ_ _=>0) d_
section
variable{ps:c_}{vs:e_}{p q r s:HS K}{v w:V3 K}
theorem YX(hr:r.n≠0)(tr:cC r w)(tp:cC p w)(h:∃ k:K,0<k/\p.n=smul r.n k)(hp:p.n≠0):canon r=canon p:=by
 obtain⟨k,hk,e⟩:=h;refine(Yn hr hp).2 ⟨k,hk,?_⟩;have hd:p.d=r.d*k:=by rw[<-show dot p.n w=p.d from tp,e,V3.LM,show dot r.n w=r.d from tr]
 cases p;unfold Di;rw[HS.mk.injEq];exact⟨e,hd⟩
theorem aVx(hp:p.n≠0)(hq:q.n≠0)(h:canon p=canon q)(vs:e_):bZ p vs vs.length=bZ q vs vs.length:=by
 unfold bZ
 congr 1
 funext k
 rw[qh,OF.sub_eq_zero,OF.sub_eq_zero];exact(Nu hp hq h _).2
theorem aVy(hi:ps[i]?=some r)(h:gn ps vs i≠[]):lC ps i r=false:=by
 unfold gn at h;rw[hi]at h;unfold qB at h;dsimp only at h;cases hm:lC ps i r with
 |false=>rfl
 |true=>
  unfold lC at hm;rw[aA hm]at h;exact absurd rfl h
theorem YY(hi:ps[i]?=some r)(hj:ps[j]?=some s)(h1:gn ps vs i≠[])(h2:gn ps vs j≠[])(h:canon r=canon s):i=j:=by
 have key:∀{i j:Nat} {r s:HS K},ps[i]?=some r->ps[j]?=some s->gn ps vs j≠[]->canon r=canon s->¬i<j:=by
  intro i j r s hi hj h2 h ao;have hm:=aVy hj h2;have:lC ps j s=true:=by unfold lC;rw[rS];exact⟨r,cM (i:=i) (by rw[List.getElem?_take_of_lt ao];exact hi),aJ h.symm⟩
  rw[this]at hm;cases hm
 have k1:=key hi hj h2 h;have k2:=key hj hi h1 h.symm;omega
theorem aHJ(hp:fE ps)(hv:iC ps vs)(hq:q∈ps)(h3:¬(bZ q vs vs.length).length<3):∃ i r,ps[i]?=some r/\canon r=canon q/\gn ps vs i≠[]:=by
 obtain⟨i,hi⟩:∃ i,i=ps.findIdx λx=>decide (canon x=canon q):=⟨_,rfl⟩;have ao:i<ps.length:=by rw[hi];exact aT2 ⟨q,hq,by simp⟩
 have JZ:canon ps[i]=canon q:=by have:=List.findIdx_getElem (xs:=ps) (p:=λx=>decide (canon x=canon q)) (w:=by rw[hi]at ao;exact ao);subst hi;simpa using this
 refine⟨i,ps[i],bt ao,JZ,?_⟩;have hr:=hp _ (dy ao);unfold gn;rw[bt ao];dsimp only;rw[hv.Bx hr];have sQ:¬lC ps i ps[i]=true:=by
  unfold lC;rw[rS]
  rintro⟨x,hx,hd⟩
  obtain⟨j,hj,rfl⟩:=lA hx;rw[jV]at hj;rw[RM,JZ]at hd;have hd:=jN hd;have Nv:j<i:=by omega
  rw[hi]at Nv;have:=List.not_of_lt_findIdx Nv;simp[hd]at this
 rw[au sQ,aVx hr (hp q hq) JZ,au h3];exact aHK _ _
theorem aHL(hp:fE ps)(hv:iC ps vs)(hi:ps[i]?=some r)(h:gn ps vs i≠[]):¬(bZ r vs vs.length).length<3:=by intro h3;unfold gn at h;rw[hi]at h;dsimp only at h;rw[hv.Bx (hp r (cM hi)),aA h3]at h;split at h<;>exact h rfl
theorem aVz(hv:iC ps vs)(hr:r.n≠0)(h3:¬(bZ r vs vs.length).length<3){d:V3 K}(h:∀ v,ep ps v->cC r v->∃ c:K,v=w+smul d c):False:=by
 have hc:=hv.conv (p:=r);have e7:=HI r vs;have hm:∀ i∈bZ r vs vs.length,∃ c:K,af vs i=w+smul d c:=λi hi=>by obtain⟨h1,h2⟩:=kC.1 hi;exact h _ ((hv.mem _).1 (HH h1)).1 h2
 generalize bZ r vs vs.length=on at *
 match on,h3,hc,e7,hm with
 |[],h3,_,_,_=>exact h3 d_
 |[_],h3,_,_,_=>exact h3 s_
 |[_,_],h3,_,_,_=>exact h3 s_
 |i::j::k::t,_,hc,e7,hm=>
  simp only[Yw,cE,not_or]at e7;refine hc.Qe hr (a:=i) (b:=j) (c:=k) s_ s_ s_ e7.1.1 e7.1.2.1 e7.2.1.1 ?_;obtain⟨a,ha⟩:=hm i s_;obtain⟨b,hb⟩:=hm j s_;obtain⟨c,hc⟩:=hm k s_;rw[ha,hb,hc];exact aVw _ _ _ _ _ _
theorem iC.two(hc:Cl ps)(hp:fE ps)(hv:iC ps vs)(hf:k6 ps)(hw:ep ps w)(hn:¬kz ps w)(h2:∃ a∈ps,∃ b∈ps,cC a w/\cC b w/\ag a.n b.n≠0):
  ∃ i j,i≠j/\i<ps.length/\j<ps.length/\∀ k r,ps[k]?=some r->((gn ps vs k≠[]/\cC r w)↔k=i\/k=j):=by
 obtain⟨a,ha,b,hb,ta,tb,cd⟩:=h2;obtain⟨x,hx⟩:=hf;obtain⟨S,hS⟩:=aGH ps;obtain⟨p,Dj,q,hqS,tp,tq,bB,bo⟩:=hS.two hx hw hn ha hb ta tb cd;have on3:∀ p∈S,¬(bZ p vs vs.length).length<3:=λp Dj=>by obtain⟨A,B,rfl⟩:=List.append_of_mem Dj;exact od.on hc hp hv hx hS
 have fT:=hS.sub p Dj;have pP:=hS.sub q hqS;obtain⟨i,ri,hi,ci,fi⟩:=aHJ hp hv fT (on3 p Dj);obtain⟨j,rj,hj,cj,fj⟩:=aHJ hp hv pP (on3 q hqS);have HP:=hp ri (cM hi);have hrj:=hp rj (cM hj);refine⟨i,j,λe=>?_,(eP.1 hi).1,(eP.1 hj).1,λk r hk=>⟨λ⟨h1,h2⟩=>?_,?_⟩⟩
 ·subst e;rw[hi]at hj;injection hj with hj;subst hj;obtain⟨k,hk,e⟩:=(Yn (hp p fT) (hp q pP)).1 (ci.symm.trans cj);exact bB ⟨k,hk,by rw[e];rfl⟩
 ·have hr:=cM hk;have u7:=hp r hr;rcases bo r hr h2 with h|h|⟨d,h⟩
  ·exact .inl (YY hk hi h1 fi ((YX u7 h2 tp h (hp p fT)).trans ci.symm))
  ·exact .inr (YY hk hj h1 fj ((YX u7 h2 tq h (hp q pP)).trans cj.symm))
  ·exact(aVz hv u7 (aHL hp hv hk h1) h).elim
 ·rintro(rfl|rfl)
  ·rw[hi]at hk;injection hk with hk;subst hk;exact⟨fi,(Nu HP (hp p fT) ci w).2.2 tp⟩
  ·rw[hj]at hk;injection hk with hk;subst hk;exact⟨fj,(Nu hrj (hp q pP) cj w).2.2 tq⟩
theorem YZ(i:Nat):gn ps vs i=[]\/∃ r l,ps[i]?=some r/\gn ps vs i=[(i,l)]:=by
 unfold gn;cases h:ps[i]? with
 |none=>exact .inl rfl
 |some r=>
  dsimp only;unfold qB;split
  ·exact .inl rfl
  ·split
   ·exact .inl rfl
   ·split
    ·exact .inr ⟨r,_,rfl,rfl⟩
    ·exact .inl rfl
end
end
section
open CR OF V3
section
variable{F:Type}[OF F]
def pf(a b:V3 F):V3 F:=smul (a+b) (1+1)⁻¹
theorem aVA:(0:F)<1+1:=OF.add_pos OF.zero_lt_one OF.zero_lt_one
theorem SA(m a b:V3 F):dot m (pf a b)+dot m (pf a b)=dot m a+dot m b:=by unfold pf;have h:(1+1:F)*(1+1)⁻¹=1:=OF.jA _ (OF.ne_of_gt aVA);rw[gk,iT];generalize dot m a+dot m b=x;generalize (1+1:F)⁻¹=y at *;rw[CR.add_mul,CR.one_mul]at h;rw[<-CR.mul_add,h,CR.mul_one]
theorem aHM{x a b d:F}(h:x+x=a+b)(ha:a<=d)(hb:b<=d):x<=d:=OF.not_lt.1 λk=>by have h1:=OF.add_lt_add k k;rw[h]at h1;exact OF.lt_irrefl _ (OF.lt_of_lt_of_le h1 (OF.add_le_add ha hb))
theorem aVB{x a b d:F}(h:x+x=a+b)(ha:a<=d)(hb:b<=d)(e:x=d):a=d/\b=d:=by
 subst e;constructor
 ·refine OF.le_antisymm ha (OF.not_lt.1 λk=>?_);have:=OF.add_lt_add_of_lt_of_le k hb;rw[h]at this;exact OF.lt_irrefl _ this
 ·refine OF.le_antisymm hb (OF.not_lt.1 λk=>?_);have:=OF.add_lt_add_of_le_of_lt ha k;rw[h]at this;exact OF.lt_irrefl _ this
variable{ps:List (HS F)}{a b w u v:V3 F}{p r s:HS F}
theorem ep.pf(ha:ep ps a)(hb:ep ps b):ep ps (pf a b):=λp hp=>aHM (SA p.n a b) (ha p hp) (hb p hp)
theorem aHN(ha:ep ps a)(hb:ep ps b)(hp:p∈ps)(h:cC p (pf a b)):cC p a/\cC p b:=aVB (SA p.n a b) (ha p hp) (hb p hp) h
theorem aHO(ha:cC p a)(hb:cC p b):cC p (pf a b):=by have h:=SA p.n a b;rw[show dot p.n a=p.d from ha,show dot p.n b=p.d from hb]at h;refine OF.le_antisymm (aHM h (OF.le_refl _) (OF.le_refl _)) (OF.not_lt.1 λk=>?_);have:=OF.add_lt_add k k;rw[h]at this;exact OF.lt_irrefl _ this
theorem aVC(ha:ep ps a)(hb:ep ps b)(cd:a≠b):¬kz ps (pf a b):=by
 rintro⟨_,p,hp,q,hq,r,hr,hd,tp,tq,tr⟩
 have z:∀{p:HS F},p∈ps->cC p (pf a b)->dot p.n (b-a)=0:=λhp tp=>by obtain⟨h1,h2⟩:=aHN ha hb hp tp;rw[gg,show dot _ b=_ from h2,show dot _ a=_ from h1,OF.sub_self]
 exact cd (V3.sub_eq_zero.1 (Eu hd (z hp tp) (z hq tq) (z hr tr))).symm
theorem aVD(hr:r∈ps)(h:kz (ps++[⟨-r.n,-r.d⟩]) v):kz ps v/\cC r v:=by
 obtain⟨h0,a,ha,b,hb,c,hc,hd,ta,tb,tc⟩:=h;have cy:ep ps v:=λq hq=>h0 q (uh _ hq);have ht:cC r v:=by have h1:dot r.n v<=r.d:=cy r hr;have h2:dot (-r.n) v<=-r.d:=h0 ⟨-r.n,-r.d⟩ s_;rw[vY,<-OF.sub_nonneg,show -r.d - -dot r.n v=dot r.n v-r.d from iR r.d (dot r.n v) (λa b=>-a - -b) (λa b=>b-a) d_,OF.sub_nonneg]at h2;exact OF.le_antisymm h1 h2
 have own:∀{a:HS F},a∈ps++[⟨-r.n,-r.d⟩]->cC a v->∃ a'∈ps,cC a' v/\(a'.n=a.n\/a'.n=-a.n):=λ{a} ha ta=>by
  rw[fh,CQ]at ha;rcases ha with ha|rfl
  ·exact⟨a,ha,ta,.inl rfl⟩
  ·exact⟨r,hr,ht,.inr (V3.neg_neg _).symm⟩
 have turn:∀{x x' y z:V3 F},x'=x\/x'=-x->aN x y z≠0->aN x' y z≠0:=λ{x x' y z} h k=>by
  rcases h with rfl|rfl
  ·exact k
  ·intro e;apply k;rw[show aN (-x) y z=-aN x y z from ring [x,y,z] [] (λV _=>aN (-V 0) (V 1) (V 2)) (λV _=>-aN (V 0) (V 1) (V 2)) d_]at e;rw[<-CR.neg_neg (aN x y z),e,CR.neg_zero]
 obtain⟨a',a1,a2,a3⟩:=own ha ta;obtain⟨b',b1,b2,b3⟩:=own hb tb;obtain⟨c',c1,c2,c3⟩:=own hc tc;refine⟨⟨cy,a',a1,b',b1,c',c1,?_,a2,b2,c2⟩,ht⟩;have h1:=turn a3 hd;rw[GP]at h1;have h2:=turn b3 h1;rw[GP]at h2;have h3:=turn c3 h2;rwa[GP]at h3
theorem aVE(hc:Cl ps)(hp:fE ps)(hr:r∈ps)(hw:ep ps w)(tw:cC r w)(hu:u≠0)(Nt:dot r.n u=0)(v7:∀ v,kz ps v->cC r v->dot u v<=dot u w):∃ q∈ps,cC q w/\0<dot q.n u:=by
 apply iP;intro gi;have bo:∀ q∈ps,cC q w->dot q.n u<=0:=λq hq tq=>OF.not_lt.1 λk=>gi ⟨q,hq,tq,k⟩;obtain⟨e,he,hs⟩:=R9 (ps.map λm=>if OF.aE (m.d-dot m.n w)=1 then(dot m.n u,m.d-dot m.n w)else(0,1)) λx hx=>by
  obtain⟨m,_,rfl⟩:=df.1 hx;split
  ·rename_i hs;exact OF.gj.2 hs
  ·exact OF.zero_lt_one
 have cy:ep ps (w+smul u e):=λm hm=>by
  rw[iT,gk];have h1:dot m.n w<=m.d:=hw m hm;by_cases uy:OF.aE (m.d-dot m.n w)=1
  ·have:=hs _ (df.2 ⟨m,hm,rfl⟩);rw[aA uy]at this;have:=(OF.add_le_add_left (dot m.n w)).2 this;rwa[show dot m.n w+(m.d-dot m.n w)=m.d from iR (dot m.n w) m.d (λa d=>a+(d-a)) (λ_ d=>d) d_]at this
  ·have ht:cC m w:=OF.le_antisymm h1 (OF.not_lt.1 λk=>uy (OF.gj.1 (OF.sub_pos.2 k)));have h2:=OF.mul_nonneg (OF.neg_nonneg.2 (bo m hm ht)) (OF.le_of_lt he);rw[CR.neg_mul,OF.neg_nonneg]at h2;have:=OF.add_le_add h1 h2;rwa[CR.add_zero]at this
 have MP:ep (ps++[⟨-r.n,-r.d⟩]) (w+smul u e):=λm hm=>by
  rw[fh,CQ]at hm;rcases hm with hm|rfl
  ·exact cy m hm
  ·show dot (-r.n) (w+smul u e)<=-r.d;rw[vY,iT,gk,Nt,CR.zero_mul,CR.add_zero,show dot r.n w=r.d from tw];exact OF.le_refl _
 have fT:fE (ps++[⟨-r.n,-r.d⟩]):=λm hm=>by
  rw[fh,CQ]at hm;rcases hm with hm|rfl
  ·exact hp m hm
  ·exact λe=>hp r hr (V3.neg_eq_zero.1 e)
 obtain⟨v,hv,hle⟩:=top (m:=u) (Cl.more hc hp λ_ hq=>uh _ hq) fT MP;obtain⟨kU,iF⟩:=aVD hr hv;have h1:=OF.le_trans hle (v7 v kU iF);rw[iT,gk]at h1;have h2:=(OF.add_lt_add_left (dot u w)).2 (OF.mul_pos (CN hu) he);rw[CR.add_zero]at h2;exact OF.lt_irrefl _ (OF.lt_of_lt_of_le h2 h1)
theorem aVF{n m a b e c:V3 F}(kX:ag n m≠0)(Cy:dot n (b-a)=0)(hma:dot m (b-a)=0)(bB:dot n (e-a)=0)(hme:dot m (e-a)<0)(he:0<turn n a b e)(hmc:dot m (c-b)=0)(lF:dot n (c-b)<0):0<turn m b a c:=by
 have hn:n≠0:=λh=>kX (by rw[h];exact il [m] [] (λV _=>ag 0 (V 0)) (λ_ _=>0) d_);have hm:m≠0:=λh=>kX (by rw[h];exact il [n] [] (λV _=>ag (V 0) 0) (λ_ _=>0) d_);obtain⟨t,ht⟩:∃ t,b-a=smul (ag n m) t:=⟨_,LP kX Cy hma⟩;unfold turn at *;rw[ht]at he;rw[show a-b=-(b-a)from CP b a,ht];generalize e-a=f at *;generalize c-b=g at *;rw[show dot n (ag (smul (ag n m) t) f)=t*(dot n m*dot n f-dot n n*dot m f)from ring [n,m,f] [t] (λV S=>dot (V 0) (ag (smul (ag (V 0) (V 1)) (S 0)) (V 2))) (λV S=>S 0*(dot (V 0) (V 1)*dot (V 0) (V 2)-dot (V 0) (V 0)*dot (V 1) (V 2))) d_,bB,CR.mul_zero]at he;rw[show dot m (ag (-(smul (ag n m) t)) g)=t*(dot m m*-dot n g+dot n m*dot m g)from ring [n,m,g] [t] (λV S=>dot (V 1) (ag (-(smul (ag (V 0) (V 1)) (S 0))) (V 2))) (λV S=>S 0*(dot (V 1) (V 1)*-dot (V 0) (V 2)+dot (V 0) (V 1)*dot (V 1) (V 2))) d_,hmc,CR.mul_zero,CR.add_zero];have h1:0<dot n n*-dot m f:=OF.mul_pos (CN hn) (OF.neg_pos.2 hme);have h2:0<dot n n*-dot m f*t:=by rw[show dot n n*-dot m f*t=t*(0-dot n n*dot m f)from j0 (dot n n) (dot m f) t (λa b t=>a*-b*t) (λa b t=>t*(0-a*b)) d_];exact he
 have h3:0<t:=by rw[OF.gj]at h2 ⊢;rwa[OF.Lm h1]at h2
 exact OF.mul_pos h3 (OF.mul_pos (CN hm) (OF.neg_pos.2 lF))
theorem aVG{x:V3 F}(hr:r.n≠0)(h:ag r.n s.n=0)(xr:dot r.n (x-w)<0)(xs:dot s.n (x-w)<0):∃ k:F,0<k/\s.n=smul r.n k:=by
 have hn:=CN hr;have e:s.n=smul r.n (dot r.n s.n*(dot r.n r.n)⁻¹):=by
  have h1:smul s.n (dot r.n r.n)=smul r.n (dot r.n s.n):=by rw[show smul s.n (dot r.n r.n)=smul r.n (dot r.n s.n)+ag (ag r.n s.n) r.n from il [r.n,s.n] [] (λV _=>smul (V 1) (dot (V 0) (V 0))) (λV _=>smul (V 0) (dot (V 0) (V 1))+ag (ag (V 0) (V 1)) (V 0)) d_,h,show ag (0:V3 F) r.n=0 from il [r.n] [] (λV _=>ag 0 (V 0)) (λ_ _=>0) d_,V3.add_zero]
  rw[<-P8,<-h1,P8,OF.jA _ (OF.ne_of_gt hn),V3.VT]
 refine⟨_,?_,e⟩;generalize dot r.n s.n*(dot r.n r.n)⁻¹=k at *;rw[e,LM]at xs;have h1:0 < -dot r.n (x-w)*k:=by rw[CR.neg_mul];exact OF.neg_pos.2 xs
 rw[OF.gj]at h1 ⊢;rwa[OF.Lm (OF.neg_pos.2 xr)]at h1
theorem aVH(d n x:V3 F):dot (ag d n) x=-dot n (ag d x):=ring [d,n,x] [] (λV _=>dot (ag (V 0) (V 1)) (V 2)) (λV _=>-dot (V 1) (ag (V 0) (V 2))) d_
theorem aVI(x:V3 F):ag 0 x=0:=il [x] [] (λV _=>ag 0 (V 0)) (λ_ _=>0) d_
theorem aVJ(n u:V3 F)(s t:F):dot n (ag (smul u s) (smul u t))=0:=ring [n,u] [s,t] (λV S=>dot (V 0) (ag (smul (V 1) (S 0)) (smul (V 1) (S 1)))) (λ_ _=>0) d_
end
end
section
open CR OF
open V3 (dot ag aN smul)
section
variable{ps:c_}{vs:e_}{r s:HS K}{i j a b:Nat}
def DE(ps:c_)(vs:e_)(i a b:Nat):Prop:=∃ r,ps[i]?=some r/\gn ps vs i≠[]/\a∈bZ r vs vs.length/\b∈bZ r vs vs.length/\b≠a/\nu r.n (af vs) (bZ r vs vs.length) a b
theorem aHP{l:l_}(hn:l.Nodup)(h3:¬l.length<3)(a b:Nat):∃ e∈l,e≠a/\e≠b:=by
 apply iP;intro gi;have:∀ x∈l,x∈[a,b]:=λx hx=>by
  by_cases h1:x=a
  ·simp[h1]
  ·by_cases h2:x=b
   ·simp[h2]
   ·exact absurd ⟨x,hx,h1,h2⟩ gi
 have:=HJ hn this;simp at this;omega
theorem DE.rev(hc:Cl ps)(hp:fE ps)(hv:iC ps vs)(hf:k6 ps)(h:DE ps vs i a b):∃ j,DE ps vs j b a/\∀ k,DE ps vs k b a->k=j:=by
 obtain⟨r,hi,fi,ha,hb,rq,hl⟩:=h;have hr:=cM hi;have u7:=hp r hr;obtain⟨la,ta⟩:=kC.1 ha;obtain⟨lb,tb⟩:=kC.1 hb;have ia:=((hv.mem _).1 (HH la)).1;have ib:=((hv.mem _).1 (HH lb)).1;have cd:af vs a≠af vs b:=λe=>rq (hv.inj la lb e).symm;obtain⟨e,he,Y0,LV⟩:=aHP (HI r vs) (aHL hp hv hi fi) a b;have te:=hl e he Y0 LV;obtain⟨w,hw⟩:∃ w,w=pf (af vs a) (af vs b):=⟨_,rfl⟩;have iw:ep ps w:=hw▸ia.pf ib;have tw:cC r w:=hw▸aHO ta tb;have nw:¬kz ps w:=hw▸aVC ia ib cd;have dz:∀{q:HS K},cC q (af vs a)->cC q (af vs b)->dot q.n (af vs b-af vs a)=0:=λh1 h2=>by rw[V3.gg,show dot _ (af vs b)=_ from h2,show dot _ (af vs a)=_ from h1,OF.sub_self]
 have ud:∀ x:V3 K,dot (ag (af vs b-af vs a) r.n) x=-dot r.n (ag (af vs b-af vs a) x):=λx=>aVH _ _ _
 -- a second qv through the CU
 obtain⟨q,hq,tq,LS⟩:=aVE (u:=ag (af vs b-af vs a) r.n) hc hp hr iw tw (λh0=>by
   have h1:=ud (af vs e-af vs a);rw[h0,V3.aCM]at h1;have:0<dot r.n (ag (af vs b-af vs a) (af vs e-af vs a)):=te;rw[<-OF.Gp,<-h1]at this;exact OF.lt_irrefl _ this) (V3.AO _ _) (λv cv tv=>by
   obtain⟨c,lc,rfl⟩:=Yv ((hv.mem v).2 cv);have ba:dot (ag (af vs b-af vs a) r.n) (af vs b-af vs a)=0:=by rw[V3.su];exact V3.Et _ _
   have mw:dot (ag (af vs b-af vs a) r.n) w=dot (ag (af vs b-af vs a) r.n) (af vs a):=by
    have h1:=SA (ag (af vs b-af vs a) r.n) (af vs a) (af vs b);rw[V3.gg]at ba;rw[OF.sub_eq_zero.1 ba,<-hw]at h1;rcases OF.lt_trichotomy (dot (ag (af vs b-af vs a) r.n) w) (dot (ag (af vs b-af vs a) r.n) (af vs a))with h|h|h
    ·have:=OF.add_lt_add h h;rw[h1]at this;exact absurd this (OF.lt_irrefl _)
    ·exact h
    ·have:=OF.add_lt_add h h;rw[h1]at this;exact absurd this (OF.lt_irrefl _)
   rw[mw,<-OF.sub_nonneg,<-OF.Ef,OF.neg_sub,<-V3.gg];by_cases fm:c=a
   ·subst fm;rw[V3.sub_self,V3.xe];exact OF.le_refl _
   by_cases kO:c=b
   ·subst kO;exact OF.le_of_eq ba
   rw[ud,OF.Ef];exact OF.le_of_lt (hl c (kC.2 ⟨lc,tv⟩) fm kO))
 have hrq:ag r.n q.n≠0:=λh0=>by have:=LR u7 h0 (V3.AO (af vs b-af vs a) r.n);rw[this]at LS;exact OF.lt_irrefl _ LS
 obtain⟨i',j',mX,fQ,gU,hk⟩:=iC.two hc hp hv hf iw nw ⟨r,hr,q,hq,tw,tq,hrq⟩;obtain⟨x,hx⟩:=hf
 -- one of the two is the given Bx
 obtain⟨j,E8,mJ,hk⟩:∃ j,j<ps.length/\j≠i/\∀ k r,ps[k]?=some r->((gn ps vs k≠[]/\cC r w)↔k=i\/k=j):=by
  rcases(hk i r hi).1 ⟨fi,tw⟩with e|e
  ·subst e;exact⟨j',gU,kV mX,hk⟩
  ·subst e;exact⟨i',fQ,mX,λk r h=>(hk k r h).trans Or.comm⟩
 have hj:=bt E8;generalize ps[j]=s at hj;obtain⟨fj,tj⟩:=(hk j s hj).2 (.inr rfl);have hs:=cM hj;obtain⟨sa,sb⟩:=aHN ia ib hs (hw▸tj);have B8:ag r.n s.n≠0:=λh0=>by obtain⟨k,xc,ek⟩:=aVG u7 h0 (Sy hx r hr tw) (Sy hx s hs tj);exact mJ (YY hj hi fj fi (YX u7 tw tj ⟨k,xc,ek⟩ (hp s hs)).symm)
 have onj:∀{c},c∈bZ s vs vs.length->c<vs.length/\ep ps (af vs c)/\cC s (af vs c):=λh=>by obtain⟨h1,h2⟩:=kC.1 h;exact⟨h1,((hv.mem _).1 (HH h1)).1,h2⟩
 have ne0:∀{p q:HS K} {y c:Nat},p∈ps->q∈ps->y=a\/y=b->c∈bZ q vs vs.length->c≠a->c≠b->cC p (af vs a)->cC p (af vs b)->a∈bZ q vs vs.length->b∈bZ q vs vs.length->ag p.n q.n≠0->dot p.n (af vs c-af vs y)<0:=λ{p q y c} Hl hqq hy hcq fm kO pa pb aq bq GB=>by
  obtain⟨lc,tc⟩:=kC.1 hcq;have ic:=((hv.mem _).1 (HH lc)).1;have py:dot p.n (af vs y)=p.d:=by rcases hy with rfl|rfl;exact pa;exact pb
  rw[V3.gg,py,<-OF.neg_pos,OF.neg_sub,OF.sub_pos];refine(OF.oz (ic p Hl)).resolve_right λhpc=>?_;have qz:dot q.n (af vs c-af vs a)=0:=by rw[V3.gg,show dot _ (af vs c)=_ from tc,show dot _ (af vs a)=_ from(kC.1 aq).2,OF.sub_self]
  have pz:dot p.n (af vs c-af vs a)=0:=by rw[V3.gg,hpc,show dot _ (af vs a)=_ from pa,OF.sub_self]
  have qb:dot q.n (af vs b-af vs a)=0:=dz (kC.1 aq).2 (kC.1 bq).2;have pb':dot p.n (af vs b-af vs a)=0:=dz pa pb;obtain⟨t1,e1⟩:∃ t,af vs b-af vs a=smul (ag p.n q.n) t:=⟨_,V3.LP GB pb' qb⟩;obtain⟨t2,e2⟩:∃ t,af vs c-af vs a=smul (ag p.n q.n) t:=⟨_,V3.LP GB pz qz⟩;refine(hv.conv (p:=q)).Qe (hp q hqq) aq bq hcq (kV rq) (kV fm) (kV kO) ?_;unfold turn;rw[e1,e2];exact aVJ _ _ _ _
 have aj:a∈bZ s vs vs.length:=kC.2 ⟨la,sa⟩;have bj:b∈bZ s vs vs.length:=kC.2 ⟨lb,sb⟩;have Kq:ag s.n r.n≠0:=λh0=>B8 (by rw[V3.GO,h0,V3.neg_zero]);have me:dot s.n (af vs e-af vs a)<0:=ne0 hs hr (.inl rfl) he Y0 LV sa sb ha hb Kq;have re:dot r.n (af vs e-af vs a)=0:=by rw[V3.gg,show dot _ (af vs e)=_ from(kC.1 he).2,show dot _ (af vs a)=_ from ta,OF.sub_self]
 refine⟨j,⟨s,hj,fj,bj,aj,kV rq,λc oC kO fm=>?_⟩,λk gV=>?_⟩
 ·refine aVF B8 (dz ta tb) (dz sa sb) re me te ?_ (ne0 hr hs (.inr rfl) oC fm kO ta tb aj bj B8);rw[V3.gg,show dot _ (af vs c)=_ from(kC.1 oC).2,show dot _ (af vs b)=_ from sb,OF.sub_self]
 ·obtain⟨t,ht,ft,hbt,mI,_,ao⟩:=gV;have tt:cC t w:=hw▸aHO (kC.1 mI).2 (kC.1 hbt).2;rcases(hk k t ht).1 ⟨ft,tt⟩with rfl|h
  ·exfalso;rw[hi]at ht;injection ht with ht;subst ht;have h1:=ao e he LV Y0;rw[GV,VX,<-GV]at h1;have h2:=OF.neg_pos.1 h1;exact OF.lt_irrefl _ (OF.lt_trans te (by rwa[GV]at h2))
  ·exact h
end
section
variable{F:Type}[OF F]
def lV(l:List F):F:=l.foldr (·+·) 0
theorem rL(a:F)(l:List F):lV (a::l)=a+lV l:=rfl
theorem Y1:∀ l m:List F,lV (l++m)=lV l+lV m
 |[],m=>(CR.zero_add _).symm
 |a::l,m=>by rw[DZ,rL,rL,Y1 l m,CR.add_assoc]
theorem aVK{l m:List F}(h:l.Perm m):lV l=lV m:=by
 induction h with
 |nil=>rfl
 |cons x _ ih=>rw[rL,rL,ih]
 |swap x y l=>rw[rL,rL,rL,rL,CR.add_left_comm]
 |trans _ _ h1 h2=>rw[h1,h2]
theorem Y2{α:Type}(f:α->F):∀ l:List α,lV (l.map λx=>-f x)=-lV (l.map f)
 |[]=>CR.neg_zero.symm
 |a::l=>by rw[mL,mL,rL,rL,Y2 f l,CR.Az]
theorem aHQ{α:Type}(f g:α->F):∀ l:List α,lV (l.map λx=>f x+g x)=lV (l.map f)+lV (l.map g)
 |[]=>(CR.zero_add _).symm
 |a::l=>by rw[mL,mL,mL,rL,rL,rL,aHQ f g l,CR.add_assoc,CR.add_assoc,CR.add_left_comm (g a)]
theorem aHR{α:Type}(f:α->List F):∀ l:List α,lV (l.flatMap f)=lV (l.map λx=>lV (f x))
 |[]=>rfl
 |a::l=>by rw[List.flatMap_cons,Y1,mL,rL,aHR f l]
theorem aHS:∀{l:List F},l≠[]->(∀ x∈l,0<x)->0<lV l
 |[],h,_=>absurd rfl h
 |[a],_,h=>by rw[rL];show 0<a+0;rw[CR.add_zero];exact h a (aR ..)
 |a::b::l,_,h=>OF.add_pos (h a (aR ..)) (aHS (aHK _ _) λx hx=>h x (bK _ hx))
theorem aVL{a:F}(h:a=-a):a=0:=by
 rcases OF.lt_trichotomy a 0 with k|k|k
 ·have:=OF.neg_pos.2 k;rw[<-h]at this;exact absurd (OF.lt_trans this k) (OF.lt_irrefl _)
 ·exact k
 ·have:=OF.Gp.2 k;rw[<-h]at this;exact absurd (OF.lt_trans this k) (OF.lt_irrefl _)
end
def vn(h:Nat):List Nat->List (Nat×Nat)
 |[]=>[]
 |[x]=>[(x,h)]
 |x::y::t=>(x,y)::vn h (y::t)
def Kb:List Nat->List (Nat×Nat)
 |[]=>[]
 |a::m=>vn a (a::m)
theorem SB(h:Nat):∀ l:List Nat,(vn h l).map (·.1)=l
 |[]=>rfl
 |[x]=>rfl
 |x::y::t=>by rw[vn,mL,SB h (y::t)]
theorem aHT{R:Nat->Nat->Prop}(h:Nat):∀ l:List Nat,mU R (l++[h])->∀ p∈vn h l,R p.1 p.2
 |[],_,p,hp=>by cases hp
 |[x],hs,p,hp=>by simp[vn]at hp;subst hp;exact hs.1
 |x::y::t,hs,p,hp=>by
  rcases cE.1 hp with rfl|hp
  ·exact hs.1
  ·exact aHT h (y::t) hs.2 p hp
theorem aHU(h:Nat):∀ l:List Nat,∀ p∈vn h l,p.2=h\/p.2∈l
 |[],p,hp=>by cases hp
 |[x],p,hp=>by simp[vn]at hp;subst hp;exact .inl rfl
 |x::y::t,p,hp=>by
  rcases cE.1 hp with rfl|hp
  ·exact .inr s_
  ·exact(aHU h (y::t) p hp).imp id (bK _)
section
variable{ps:c_}{vs:e_}{r s:HS K}{i j a b:Nat}
theorem Kc(hp:fE ps)(hv:iC ps vs){f:Nat×List Nat}(h:f∈da ps vs ps.length):∃ r,ps[f.1]?=some r/\gn ps vs f.1=[f]/\¬(bZ r vs vs.length).length<3/\
  ∃ a m,f.2=a::m/\(a::m).Nodup/\(∀ x,x∈a::m↔x∈bZ r vs vs.length)/\mU (nu r.n (af vs) (bZ r vs vs.length)) (a::m++[a]):=by
 unfold da at h;rw[xk]at h;obtain⟨i,hi,hf⟩:=h;have mB:=kh.1 hi;have hr:=bt mB;have u7:=hp _ (dy mB);generalize ps[i]=r at *;have e:gn ps vs i=if lC ps i r then[]else if(bZ r vs vs.length).length<3 then[]else[(i,order r.n (af vs) (bZ r vs vs.length))]:=by unfold gn;rw[hr];exact hv.Bx u7 i
 by_cases hm:lC ps i r=true
 ·rw[e,aA hm]at hf;cases hf
 rw[au hm]at e;by_cases h3:(bZ r vs vs.length).length<3
 ·rw[e,aA h3]at hf;cases hf
 rw[au h3]at e;rw[e,CQ]at hf;subst hf;refine⟨r,hr,e,h3,?_⟩;have hc:=hv.conv (p:=r);have hs:=hv.sort (p:=r);clear e;generalize bZ r vs vs.length=on at *
 match on,h3,hc,hs with
 |a::b::l,_,hc,hs=>
  obtain⟨m,e1,e2,e3,e4⟩:=aCY u7 hc hs;exact⟨a,m,e1,e2,e3,e4⟩
 |[],h3,_,_=>exact(h3 s_).elim
 |[_],h3,_,_=>exact(h3 s_).elim
theorem aVM(hn:(bZ r vs vs.length).Nodup)(h3:¬(bZ r vs vs.length).length<3){n:V3 K}(h:nu n (af vs) (bZ r vs vs.length) a b):b≠a:=by
 rintro rfl
 obtain⟨e,he,h1,_⟩:=aHP hn h3 b b;have:=h e he h1 h1;unfold turn at this;rw[V3.sub_self,show ag (0:V3 K) (af vs e-af vs b)=0 from aVI _,V3.xe]at this;exact OF.lt_irrefl _ this
theorem SC(hp:fE ps)(hv:iC ps vs){f:Nat×List Nat}(h:f∈da ps vs ps.length){e:Nat×Nat}(he:e∈Kb f.2):DE ps vs f.1 e.1 e.2:=by
 obtain⟨r,hr,VB,h3,a,m,e1,e7,ou,bW⟩:=Kc hp hv h;rw[e1]at he;have hl:=aHT a (a::m) bW e he;have hx:e.1∈a::m:=by have:e.1∈(vn a (a::m)).map (·.1):=df.2 ⟨e,he,rfl⟩;rwa[SB]at this
 have hy:e.2∈a::m:=(aHU a (a::m) e he).elim (λh=>by rw[h];exact aR ..) id;exact⟨r,hr,by rw[VB];exact aHK _ _,(ou _).1 hx,(ou _).1 hy,aVM (HI r vs) h3 hl,hl⟩
theorem aVN(hp:fE ps)(hv:iC ps vs)(h:DE ps vs i a b):∃ f∈da ps vs ps.length,f.1=i/\(a,b)∈Kb f.2:=by
 obtain⟨r,hr,hf,ha,hb,rq,hl⟩:=h;obtain⟨f,GG⟩:∃ f,f∈gn ps vs i:=List.exists_mem_of_ne_nil _ hf;have hi:=(eP.1 hr).1;have ou:f∈da ps vs ps.length:=by unfold da;exact xk.2 ⟨i,kh.2 hi,GG⟩
 have jO:f.1=i:=by
  rcases YZ (ps:=ps) (vs:=vs) i with e|⟨_,l,_,e⟩
  ·rw[e]at GG;cases GG
  ·rw[e,CQ]at GG;rw[GG]
 obtain⟨r',sW,_,_,a',m,e1,e7,hm,bW⟩:=Kc hp hv ou;rw[jO,hr]at sW;injection sW with sW;subst sW;refine⟨f,ou,jO,?_⟩;have vL:a∈(vn a' (a'::m)).map (·.1):=by rw[SB];exact(hm a).2 ha
 obtain⟨e,he,rfl⟩:=df.1 vL;have qf:e∈Kb f.2:=by rw[e1];exact he
 obtain⟨r2,lM,_,_,gy,aVO,jG⟩:=SC hp hv ou qf;rw[jO,hr]at lM;injection lM with lM;subst lM;have cy:∀ a∈bZ r vs vs.length,∀ b∈bZ r vs vs.length,af vs a=af vs b->a=b:=λa ha b hb e=>hv.inj (kC.1 ha).1 (kC.1 hb).1 e;have:=V6 (pt:=af vs) (n:=r.n) cy hb gy rq aVO hl jG;rw[this];exact qf
def BF(ps:c_)(vs:e_):List (Nat×Nat):=(da ps vs ps.length).flatMap λf=>Kb f.2
theorem aHV(hp:fE ps)(hv:iC ps vs):(a,b)∈BF ps vs↔∃ i,DE ps vs i a b:=by unfold BF;rw[xk];exact⟨λ⟨f,h1,h2⟩=>⟨f.1,SC hp hv h1 h2⟩,λ⟨i,h⟩=>by obtain⟨f,h1,_,h2⟩:=aVN hp hv h;exact⟨f,h1,h2⟩⟩
theorem DE.uniq(hc:Cl ps)(hp:fE ps)(hv:iC ps vs)(hf:k6 ps)(h1:DE ps vs i a b)(h2:DE ps vs j a b):i=j:=by obtain⟨k,hk,_⟩:=h1.rev hc hp hv hf;obtain⟨m,_,hm⟩:=hk.rev hc hp hv hf;rw[hm i h1,hm j h2]
theorem aVP(ps:c_)(vs:e_)(n:Nat):(da ps vs n).Pairwise λf g=>f.1≠g.1:=by
 unfold da;rw[List.pairwise_flatMap];refine⟨λi _=>?_,(List.nodup_range (n:=n)).imp λ{i j} mX f hf g hg=>?_⟩
 ·rcases YZ (ps:=ps) (vs:=vs) i with e|⟨_,l,_,e⟩<;>rw[e]
  ·exact .nil
  ·exact V8 ..
 ·have one:∀{i:Nat} {f:Nat×List Nat},f∈gn ps vs i->f.1=i:=λ{i f} hf=>by
   rcases YZ (ps:=ps) (vs:=vs) i with e|⟨_,l,_,e⟩
   ·rw[e]at hf;cases hf
   ·rw[e,CQ]at hf;rw[hf]
  rw[one hf,one hg];exact mX
theorem aVQ(hc:Cl ps)(hp:fE ps)(hv:iC ps vs)(hf:k6 ps):(BF ps vs).Nodup:=by
 unfold BF;refine List.pairwise_flatMap.2 ⟨λf HQ=>?_,?_⟩
 ·obtain⟨r,_,_,_,a,m,e1,e7,_,_⟩:=Kc hp hv HQ;rw[e1];have:((vn a (a::m)).map (·.1)).Nodup:=by rw[SB];exact e7
  exact List.Pairwise.of_map (·.1) (λx y h e=>h (by rw[e])) this
 ·refine aGY (λ{f g} HQ hgm bB=>?_) (aVP ps vs ps.length)
  rintro e he e' qf rfl
  exact bB ((SC hp hv HQ he).uniq hc hp hv hf (SC hp hv hgm qf))
theorem aVR(hc:Cl ps)(hp:fE ps)(hv:iC ps vs)(hf:k6 ps)(φ:Nat->Nat->K)(aVS:∀ x y,φ y x=-φ x y):lV ((BF ps vs).map λe=>φ e.1 e.2)=0:=by
 have e7:=aVQ hc hp hv hf;have hsw:(BF ps vs).Perm ((BF ps vs).map λe=>(e.2,e.1)):=by
  refine(aT0 e7 ?_).2 λe=>?_
  ·exact List.Pairwise.map _ (λx y h e=>h (by have:=Prod.mk.inj e;exact Prod.ext this.2 this.1)) e7
  ·obtain⟨x,y⟩:=e;rw[df];have rv:∀{x y},(x,y)∈BF ps vs->(y,x)∈BF ps vs:=λh=>by obtain⟨i,h⟩:=(aHV hp hv).1 h;obtain⟨j,hj,_⟩:=h.rev hc hp hv hf;exact(aHV hp hv).2 ⟨j,hj⟩
   exact⟨λh=>⟨(y,x),rv h,rfl⟩,λ⟨e',h1,h2⟩=>by have:=Prod.mk.inj h2;rw[<-this.1,<-this.2];exact rv h1⟩
 have h1:=aVK (hsw.map λe=>φ e.1 e.2);rw[Ub]at h1;have h2:(λe:Nat×Nat=>φ e.1 e.2)∘(λe:Nat×Nat=>(e.2,e.1))=λe=>-φ e.1 e.2:=by funext e;exact aVS e.1 e.2
 rw[h2,Y2]at h1;exact aVL h1
end
section
variable{F:Type}[OF F]
def oM(φ:Nat->Nat->F):List Nat->F
 |x::y::t=>φ x y+oM φ (y::t)
 |_=>0
theorem aHW(φ ψ:Nat->Nat->F):∀ m:List Nat,oM (λx y=>φ x y+ψ x y) m=oM φ m+oM ψ m
 |[]=>(CR.zero_add _).symm
 |[x]=>(CR.zero_add _).symm
 |x::y::t=>by show φ x y+ψ x y+oM _ (y::t)=φ x y+oM φ (y::t)+(ψ x y+oM ψ (y::t));rw[aHW φ ψ (y::t),CR.add_assoc,CR.add_assoc,CR.add_left_comm (ψ x y)]
theorem aHX(φ:Nat->Nat->F):∀ m:List Nat,oM (λx y=>-φ x y) m=-oM φ m
 |[]=>CR.neg_zero.symm
 |[x]=>CR.neg_zero.symm
 |x::y::t=>by show -φ x y+oM _ (y::t)=-(φ x y+oM φ (y::t));rw[aHX φ (y::t),CR.Az]
theorem aHY(g:Nat->Nat->F)(hg:∀ x y,g y x=-g x y)(a:Nat):∀(x:Nat) (t:l_),oM (λx y=>g a x+g x y+g y a) (x::t)=lV ((Kb (a::x::t)).map λe=>g e.1 e.2)
 |x,[]=>by show(0:F)=g a x+(g x a+0);rw[hg a x,CR.add_zero,CR.add_neg]
 |x,y::t=>by have ih:=aHY g hg a y t;have e:∀ z (l:l_),lV ((Kb (a::z::l)).map λe=>g e.1 e.2)=g a z+lV ((vn a (z::l)).map λe=>g e.1 e.2):=λz l=>rfl;rw[e]at ih ⊢;show g a x+g x y+g y a+oM _ (y::t)=g a x+(g x y+lV ((vn a (y::t)).map λe=>g e.1 e.2));rw[ih,hg a y];generalize lV ((vn a (y::t)).map λe=>g e.1 e.2)=s;generalize g a y=p;generalize g a x=q;generalize g x y=r;exact yv p q r s (λp q r s=>q+r+-p+(p+s)) (λp q r s=>q+(r+s)) d_
theorem aHZ{φ:Nat->Nat->F}{R:Nat->Nat->Prop}:∀{m:l_},mU R m->(∀ x∈m,∀ y∈m,R x y->0<φ x y)->2<=m.length->0<oM φ m
 |[],_,_,h=>by simp at h
 |[_],_,_,h=>by simp at h
 |[x,y],hs,hp,_=>by show 0<φ x y+0;rw[CR.add_zero];exact hp x s_ y s_ hs.1
 |x::y::z::t,hs,hp,_=>OF.add_pos (hp x s_ y s_ hs.1) (aHZ (m:=y::z::t) hs.2 (λu hu v hv=>hp u (bK _ hu) v (bK _ hv)) s_)
theorem aH0{R:Nat->Nat->Prop}:∀{l r:l_},mU R (l++r)->mU R l
 |[],_,_=>trivial
 |[_],_,_=>trivial
 |_::y::t,r,h=>⟨h.1,aH0 (l:=y::t) (r:=r) h.2⟩
theorem aVT{R:Nat->Nat->Prop}:∀{l:l_},mU R (a::l)->mU R l
 |[],_=>trivial
 |_::_,h=>h.2
theorem aVU(o a x y:V3 F):aN (a-o) (x-o) (y-o)=aN a x y+-(aN o a x+aN o x y+aN o y a):=
 V3.ring [o,a,x,y] [] (λV _=>aN (V 1-V 0) (V 2-V 0) (V 3-V 0)) (λV _=>aN (V 1) (V 2) (V 3)+-(aN (V 0) (V 1) (V 2)+aN (V 0) (V 2) (V 3)+aN (V 0) (V 3) (V 1))) d_
theorem aVV(n a x y o:V3 F):dot n n*aN (a-o) (x-o) (y-o)=dot n (a-o)*dot n (ag (x-a) (y-a))+dot n (x-a)*dot (a-o) (ag n (y-a))+-(dot n (y-a))*dot (a-o) (ag n (x-a)):=
 V3.ring [n,a,x,y,o] [] (λV _=>dot (V 0) (V 0)*aN (V 1-V 4) (V 2-V 4) (V 3-V 4)) (λV _=>dot (V 0) (V 1-V 4)*dot (V 0) (ag (V 2-V 1) (V 3-V 1))+dot (V 0) (V 2-V 1)*dot (V 1-V 4) (ag (V 0) (V 3-V 1))+-(dot (V 0) (V 3-V 1))*dot (V 1-V 4) (ag (V 0) (V 2-V 1))) k_
theorem aH1{n a x y o:V3 F}(hn:n≠0)(h1:0<dot n (a-o))(h2:0<turn n a x y)(hx:dot n (x-a)=0)(hy:dot n (y-a)=0):0<aN (a-o) (x-o) (y-o):=by have e:=aVV n a x y o;rw[hx,hy,CR.zero_mul,CR.neg_zero,CR.zero_mul,CR.add_zero,CR.add_zero]at e;have h3:=OF.mul_pos h1 h2;unfold turn at h3;rw[<-e]at h3;rw[OF.gj]at h3 ⊢;rwa[OF.Lm (V3.CN hn)]at h3
end
section
variable{ps:c_}{vs:e_}
def Kd(g:Nat->Nat->Nat->K):List Nat->K
 |[]=>0
 |a::m=>oM (g a) m
def pj(ps:c_)(vs:e_)(g:Nat->Nat->Nat->K):K:=lV ((da ps vs ps.length).map λf=>Kd g f.2)
theorem NM(g h:Nat->Nat->Nat->K):pj ps vs (λa x y=>g a x y+h a x y)=pj ps vs g+pj ps vs h:=by
 unfold pj;rw[<-aHQ]
 congr 1
 refine uD λf _=>?_;unfold Kd;cases f.2 with
 |nil=>exact(CR.zero_add _).symm
 |cons a m=>exact aHW _ _ m
theorem Y3(g:Nat->Nat->Nat->K):pj ps vs (λa x y=>-g a x y)=-pj ps vs g:=by
 unfold pj;rw[<-Y2]
 congr 1
 refine uD λf _=>?_;unfold Kd;cases f.2 with
 |nil=>exact CR.neg_zero.symm
 |cons a m=>exact aHX _ m
theorem Y4(hc:Cl ps)(hp:fE ps)(hv:iC ps vs)(hf:k6 ps)(g:Nat->Nat->K)(hg:∀ x y,g y x=-g x y):pj ps vs (λa x y=>g a x+g x y+g y a)=0:=by
 have:=aVR hc hp hv hf g hg;unfold BF at this;rw[List.map_flatMap,aHR]at this;unfold pj;rw[<-this]
 congr 1
 refine uD λf HQ=>?_;obtain⟨r,_,_,h3,a,m,e1,e7,ou,_⟩:=Kc hp hv HQ;have hm:m≠[]:=by
  rintro rfl
  have:=HJ (HI r vs) (J:=[a]) λx hx=>(ou x).2 hx;simp at this;omega
 rw[e1];cases m with
 |nil=>exact absurd rfl hm
 |cons x t=>exact aHY g hg a x t
def BG(ps:c_)(vs:e_):K:=pj ps vs λa x y=>aN (af vs a) (af vs x) (af vs y)
theorem aH2(hc:Cl ps)(hp:fE ps)(hv:iC ps vs)(hf:k6 ps)(o:V3 K):pj ps vs (λa x y=>aN (af vs a-o) (af vs x-o) (af vs y-o))=BG ps vs:=by
 have h0:=Y4 hc hp hv hf (λx y=>aN o (af vs x) (af vs y)) λx y=>V3.LO _ _ _;have e:(λa x y=>aN (af vs a-o) (af vs x-o) (af vs y-o))=λa x y=>aN (af vs a) (af vs x) (af vs y)+-(aN o (af vs a) (af vs x)+aN o (af vs x) (af vs y)+aN o (af vs y) (af vs a)):=by funext a x y;exact aVU _ _ _ _
 rw[e,NM,Y3,h0,CR.neg_zero,CR.add_zero];rfl
theorem aH3(hc:Cl ps)(hp:fE ps)(hv:iC ps vs)(hf:k6 ps){g:Nat->Nat->Nat->K}(h:∀(i:Nat) (r:HS K),ps[i]?=some r->∀ a x y:Nat,a∈bZ r vs vs.length->x∈bZ r vs vs.length->y∈bZ r vs vs.length->0<turn r.n (af vs a) (af vs x) (af vs y)->0<g a x y):0<pj ps vs g:=by
 unfold pj;refine aHS (λe=>?_) λz hz=>?_
 ·have h4:=aT1 hc hp hv hf;have:=cS List.length e;rw[eO]at this;simp at this;rw[this]at h4;simp at h4
 ·obtain⟨f,HQ,rfl⟩:=df.1 hz;obtain⟨r,hr,_,h3,a,m,e1,e7,ou,bW⟩:=Kc hp hv HQ;rw[e1];have hlen:2<=m.length:=by have:=HJ (HI r vs) (J:=a::m) λx hx=>(ou x).2 hx;simp at this;omega
  refine aHZ (R:=nu r.n (af vs) (bZ r vs vs.length)) (aH0 (r:=[a]) (aVT bW)) (λx hx y hy hl=>?_) hlen;have ha:=(ou a).1 (aR ..);have nx:=(Yw.1 e7).1;have ax:a≠x:=λe=>nx (e▸hx);have ay:a≠y:=λe=>nx (e▸hy);refine h f.1 r hr a x y ha ((ou x).1 (bK _ hx)) ((ou y).1 (bK _ hy)) ?_;have:=hl a ha ax ay;rwa[<-GV]at this
theorem SD(hc:Cl ps)(hp:fE ps)(hv:iC ps vs)(hf:k6 ps):0<BG ps vs:=by
 obtain⟨o,ho⟩:=hf;rw[<-aH2 hc hp hv ⟨o,ho⟩ o];refine aH3 hc hp hv ⟨o,ho⟩ λi r hr a x y ha hx hy ht=>?_;have Fh:=cM hr;have on:∀{c},c∈bZ r vs vs.length->dot r.n (af vs c)=r.d:=λh=>(kC.1 h).2;refine aH1 (hp r Fh) ?_ ht ?_ ?_
 ·rw[V3.gg,on ha];exact OF.sub_pos.2 (ho r Fh)
 ·rw[V3.gg,on ha,on hx,OF.sub_self]
 ·rw[V3.gg,on ha,on hy,OF.sub_self]
end
section
variable{vs:e_}{ps:c_}{σ:Type}{f:σ->V3 K->V3 K->V3 K->σ}{L:σ->K}{φ:V3 K->V3 K->V3 K->K}
theorem aH4(s:σ)(a x:V3 K)(m:e_):∀ t,nG f s (a::x::m) (t+1)=nG f (f s a x ((m[0]?).getD 0)) (a::m) t
 |0=>rfl
 |t+1=>by have ih:=aH4 s a x m t;show f (nG f s (a::x::m) (t+1)) _ _ _=f (nG f (f s a x ((m[0]?).getD 0)) (a::m) t) _ _ _;rw[ih];rfl
theorem aH5(h:∀ s p q r,L (f s p q r)=L s+φ p q r)(a:Nat):∀(s:σ) (m:l_),L (nG f s (kR vs (a::m)) (m.length-1))=L s+oM (λx y=>φ (af vs a) (af vs x) (af vs y)) m
 |_,[]=>(CR.add_zero _).symm
 |_,[_]=>(CR.add_zero _).symm
 |s,x::y::t=>by have ih:=aH5 h a (f s (af vs a) (af vs x) (af vs y)) (y::t);show L (nG f s (af vs a::af vs x::kR vs (y::t)) (t.length+1))=L s+(φ (af vs a) (af vs x) (af vs y)+oM _ (y::t));rw[aH4,<-CR.add_assoc,<-h,<-ih];rfl
theorem aVW(h:∀ s p q r,L (f s p q r)=L s+φ p q r)(s:σ){l:l_}(hl:2<=l.length):L (nG f s (kR vs l) (l.length-2))=L s+Kd (λa x y=>φ (af vs a) (af vs x) (af vs y)) l:=by
 match l,hl with
 |a::x::m,_=>exact aH5 h a s (x::m)
 |[],h=>exact absurd h s_
 |[_],h=>exact absurd h s_
theorem aH6(h:∀ s p q r,L (f s p q r)=L s+φ p q r)(s:σ)(Fs:List (Nat×List Nat))(hl:∀ f∈Fs,2<=f.2.length):∀ i,i<=Fs.length->L (pW f s vs (Fs.map (·.2)) i)=L s+lV ((Fs.take i).map λg=>Kd (λa x y=>φ (af vs a) (af vs x) (af vs y)) g.2)
 |0,_=>(CR.add_zero _).symm
 |i+1,hi=>by have hf:Fs[i]?=some Fs[i]:=bt o_;have hm:=dy (l:=Fs) (n:=i) o_;generalize Fs[i]=g at *;rw[Sv _ _ vs Fs i g hf,aVW h _ (hl _ hm),aH6 h s Fs hl i o_,uZ,hf,vA,Y1,CR.add_assoc];show _=_+(_+(_+0));rw[CR.add_zero]
theorem aH7(h:∀ s p q r,L (f s p q r)=L s+φ p q r)(s:σ)(hl:∀ f∈da ps vs ps.length,2<=f.2.length):L (pW f s vs ((da ps vs ps.length).map (·.2)) ((da ps vs ps.length).map dS).length)=L s+pj ps vs λa x y=>φ (af vs a) (af vs x) (af vs y):=by rw[aH6 h s _ hl _ (by rw[eO];exact bF _),eO,oD];rfl
theorem aVX(h:∀ f∈da ps vs ps.length,2<=f.2.length):Ka vs (da ps vs ps.length)=BG ps vs:=by have:=aH7 (L:=λs:K=>s) (f:=Dm) (φ:=aN) (vs:=vs) (λ_ _ _ _=>rfl) 0 h;rw[CR.zero_add]at this;exact this
theorem Y5(hp:fE ps)(hv:iC ps vs){f:Nat×List Nat}(h:f∈da ps vs ps.length):3<=f.2.length/\f.2.length<=vs.length/\∀ x∈f.2,x<vs.length:=by obtain⟨r,_,_,h3,a,m,e1,e7,hm,_⟩:=Kc hp hv h;have h1:=HJ (HI r vs) (J:=a::m) λx hx=>(hm x).2 hx;have h2:=HJ e7 (J:=List.range vs.length) λx hx=>kh.2 (kC.1 ((hm x).1 hx)).1;rw[Ag]at h2;rw[e1];exact⟨by omega,h2,λx hx=>(kC.1 ((hm x).1 hx)).1⟩
theorem aVY(hp:fE ps)(hv:iC ps vs)(h9:ps.length<=20)(hq:∀ p∈vs,aD q p)(hn:vs.length<=1000)(hb:q<=100000):Dl vs (da ps vs ps.length) q (18*q+50) 1000 2:=by
 have hl:(da ps vs ps.length).length<=20:=dq (JN ps vs _) h9;refine⟨λf hf=>?_,λf hf=>(Y5 hp hv hf).2.2,hq,?_,by omega,by decide⟩
 ·have:=Y5 hp hv hf;omega
 ·have h1:((da ps vs ps.length).length+2)*((1000+1)*(18*q+50))<=22*(1001*1800050):=yf o_ (yf o_ o_);exact fA (aAA h1 2) d_
end
end
section
open V3 (dot ag aN smul)
def qG(ps:c_):aQ:=.s ps.length (bf ps) (bh ps).length (aP (bh ps)) (jC (lD ps))
noncomputable def uj(ps:c_):K:=BG ps (bh ps)*eZ 1 6
structure gp(ps:c_):Prop where
 len:ps.length<=9
 sz:∀ p∈ps,bP 24 p/\p.n≠0
 cl:Cl ps
 full:k6 ps
section
variable{ps:c_}
theorem gp.proper(h:gp ps):fE ps:=λq hq=>(h.sz q hq).2
theorem gp.aVZ(h:gp ps):zt ps 24:=⟨by have:=h.len;omega,λq hq=>(h.sz q hq).1,h.proper,by decide⟩
theorem gp.Fi(h:gp ps):iC ps (bh ps):=aHc h.cl h.proper h.full
theorem gp.Fj(h:gp ps):(∀ v∈bh ps,aD 4000 v)/\(bh ps).length<=81*9:=by rw[Fb h.cl h.proper h.full];exact sU.sz (m:=24) (M:=4000) ⟨h.len,h.sz,by decide,by decide⟩
theorem gp.loops(h:gp ps):Dl (bh ps) (da ps (bh ps) ps.length) 4000 (18*4000+50) 1000 2:=
 aVY h.proper h.Fi (by have:=h.len;omega) h.Fj.1 (by have:=h.Fj.2;omega) d_
theorem gp.aH8(h:gp ps):∀ f∈da ps (bh ps) ps.length,2<=f.2.length:=λf hf=>by have:=Y5 h.proper h.Fi hf;omega
theorem gp.Y6(h:gp ps):NL (bh ps) (da ps (bh ps) ps.length)=uj ps:=by unfold NL;rw[aVX h.aH8];rfl
theorem gp.many(h:gp ps):2+((da ps (bh ps) ps.length).map dS).length*((1000+1)*(18*4000+50))<=700000000:=by rw[eO];have hl:(da ps (bh ps) ps.length).length<=9:=dq (JN ps _ _) h.len;have h2:(da ps (bh ps) ps.length).length*((1000+1)*(18*4000+50))<=9*(1001*72050):=yf hl (bF _);exact dq (aAA h2 2) d_
theorem gp.Y7(h:gp ps):Sz 700000000 (Ka (bh ps) (da ps (bh ps) ps.length)):=by have h1:=NJ (B:=HO 4000 ps.length (bh ps).length) (s0:=(0:K)) (np:=ps.length) (xp:=bf ps) h.loops (aHB (dp ps)) (mh (z:=0) (n:=2) d_ d_) ((da ps (bh ps) ps.length).map dS).length (by rw[eO];exact bF _);have h1:Sz (2+((da ps (bh ps) ps.length).map dS).length*((1000+1)*(18*4000+50))) (Ka (bh ps) (da ps (bh ps) ps.length)):=h1;exact h1.mono h.many
theorem gp.aH9(h:gp ps):Sz 800000000 (uj ps):=by rw[<-h.Y6];exact(h.Y7.mul (EB (p:=1) (q:=6) (n:=3) d_ d_ d_)).mono d_
theorem gp.aC5(h:gp ps):Nw ps=true:=(aUI h.proper).2 ⟨h.cl,h.full⟩
theorem gp.valid(h:gp ps):cx prog 27 [qG ps] b_:=by have:=aUa h.aVZ h.aC5;unfold aG1 Yy at this;rw[eO]at this;exact this
def wA(np nv:Nat):Value:=.agg #[sl 0 np,sl 1 nv,cN 2]
def BH(ps:c_):q_:=[(0,some (.view (bf ps))),(1,some (.view (aP (bh ps)))),(2,some (.fact (jC (lD ps))))]
theorem Dn(h:gC Bs l xs []):gC Bs (qG ps::l) (wA ps.length (bh ps).length::xs) (BH ps):=
 .s (x1:=.view (bf ps)) (x2:=.view (aP (bh ps))) rfl (dp ps) jt rfl (dR _) wk h
theorem SE(ps:c_):(qG ps).ok=true:=by show((bf ps).all flat&&((aP (bh ps)).all flat&&true))=true;rw[dp,dR];rfl
theorem aIa(h:gp ps):cx prog 17 [qG ps] (.tuple #[bH (uj ps),gT 0]):=by
 have aC:([qG ps].all aQ.ok)=true:=by simp only[eA,e8,SE,iz]
 have hv:=aHC (np:=ps.length) (xp:=bf ps) h.loops (dp ps) jt h.Y7 d_;rw[h.Y6]at hv;have kt:=h.valid;generalize uj ps=x at *;exact dF func17 aC 10 (λw=>[.step 5 (az f17 5) [.func (.func 27) #[] #[],wA ps.length (bh ps).length] (BH ps) b_ [] (dJ kt (Dn .nil) (x:=.func 27) k_ k_ rfl),.step 9 (az f17 9) [.func (.func 35) #[] #[],wA ps.length (bh ps).length] (BH ps) (bH x) [] (dJ hv (Dn .nil) (x:=.func 35) k_ k_ k_)])
theorem aV0(h:gp ps)(h1:1<=d)(h2:d<=30000):cx prog 18 [qG ps,.p (vI d)] (.tuple #[bH (uj ps*eZ d 1000),gT 0]):=by
 have aC:([qG ps,.p (vI d)].all aQ.ok)=true:=by simp only[eA,e8,SE,kp,iz];rfl
 have hv:=aIa h;have bL:=h.aH9;have hr:Sz 16 (eZ (d:Int) 1000):=EB d_ (by rw[AB];omega) d_;have mr:=Sw (p:=(d:Int)) (q:=1000) (n:=16) d_ (by rw[AB];omega) d_ d_;have ml:=nU bL hr d_;generalize uj ps=x at *;generalize eZ (d:Int) 1000=y at *;exact dF func18 aC 30 (λw=>[.step 10 (az f18 10) [.func (.func 17) #[] #[],wA ps.length (bh ps).length] (BH ps) (.tuple #[bH x,gT 0]) [] (dJ hv (Dn .nil) (x:=.func 17) k_ k_ k_),.lt 20 d 1 false (aY o_),.gt 23 d 30000 false (aY o_),mr.at 28,ml.at 29])
theorem aV1{n:Nat}(hx:Sz n x)(hn:n+30<=aF):aH prog 19 [bH x] (.tuple #[bH (x*eZ 1 200),gT 0]):=by have hr:Sz 8 (eZ 1 200):=EB d_ d_ d_;have mr:=Sw (p:=1) (q:=200) (n:=8) d_ d_ d_ d_;have ml:=nU hx hr o_;generalize eZ 1 200=y at *;exact bI func19 (λ_=>[(lp hx o_).at 5,mr.at 9,ml.at 10])
end
end
section
open CR OF
open V3 (dot ag aN smul)
section
variable{Bs:aa}{vs:e_}{d v:V3 K}{m q i:Nat}{lo hi:K}
def j9(d:V3 K)(vs:e_):Nat->K
 |0=>0
 |i+1=>if i=0 then dot (af vs i) d else if decide (OF.aE (dot (af vs i) d-j9 d vs i)<0)then dot (af vs i) d else j9 d vs i
def qH(d:V3 K)(vs:e_):Nat->K
 |0=>0
 |i+1=>if i=0 then dot (af vs i) d else if decide (OF.aE (dot (af vs i) d-qH d vs i)>0)then dot (af vs i) d else qH d vs i
def Dp(n i:Nat):aU:=[(27,vI i),(25,sl 1 n),(26,vI n),(3,aV 4),(4,aV 5),(5,aV 6)]
def vo(vs:e_)(d:V3 K)(lo hi:al):aL:=[(1,.view (aP vs)),(4,.aI (cB d).cs 33),(5,.aI lo 31),(6,.aI hi 31)]
theorem aIb{lo hi:al}(h1:lo.all flat=true)(h2:hi.all flat=true):∀ x∈vo vs d lo hi,fR 7 x.2:=λx hx=>by
 simp only[vo,cE,jR,jS]at hx;rcases hx with rfl|rfl|rfl|rfl
 ·exact λv hv=>gP (bC.1 (dR vs) v hv)
 ·exact λx hx=>gP (bC.1 (show((cB d).cs.all flat)=true from k_) x hx)
 ·exact λv hv=>gP (bC.1 h1 v hv)
 ·exact λv hv=>gP (bC.1 h2 v hv)
theorem aV2(hl:0<vs.length)(hv:vs[0]?=some v)(sv:aD q v)(sd:aD m d)(hm:3*(q+m)+16<aF)(h63:vs.length<1000000):
  ah prog Bs 56 (aK (ai f10 0)) (Dp vs.length 0) (vo vs d zN.cs zN.cs) 7 ⟨.normal,Dp vs.length 1,vo vs d (cG (dot v d)).cs (cG (dot v d)).cs,7⟩:=by
 have hd:=qw sv sd hm;generalize dot v d=x at *;exact rU mixed 100 (gG:=9) [.lt 28 0 vs.length true (aJ hl),.di f10 30 1 vs.length 0 30 hl k_,.ld f10 31 33 1 (0*30) (.view (aP vs)) (bE v) rfl (lv hv) k_,hd.at 34,.sum 53 0 1 1 rfl d_] k_ rfl k_ (aIb k_ k_) k_
theorem aV3{nl:Nat}{b1 b2:Bool}(h0:i≠0)(fQ:i<vs.length)(hv:vs[i]?=some v)(sv:aD q v)(sd:aD m d)(hm:3*(q+m)+16<aF)(h63:vs.length<1000000)(Fk:Sz nl lo)(sh:Sz nl hi)(hn:4*(3*(q+m)+14+nl)+24<=aF)(h1:decide (OF.aE (dot v d-lo)<0)=b1)(h2:decide (OF.aE (dot v d-hi)>0)=b2):
  ah prog Bs 56 (aK (ai f10 0)) (Dp vs.length i) (vo vs d (cG lo).cs (cG hi).cs) 7 ⟨.normal,Dp vs.length (i+1),vo vs d (cG (if b1 then dot v d else lo)).cs (cG (if b2 then dot v d else hi)).cs,7⟩:=by
 have hd:=qw sv sd hm;have sx:Sz (3*(q+m)+14) (dot v d):=(sv.dot sd).mono o_;have c1:=kM sx Fk hn;have c2:=kM sx sh hn;generalize dot v d=x at *;generalize OF.aE (x-lo)=z1 at *;generalize OF.aE (x-hi)=z2 at *;cases b1<;>cases b2<;>
  exact rU mixed 100 (gG:=9) [.lt 28 i vs.length true (aJ fQ),.di f10 30 1 vs.length i 30 fQ k_,.ld f10 31 33 1 (i*30) (.view (aP vs)) (bE v) rfl (lv hv) k_,hd.at 34,.gH 36 i 0 false (aY h0),c1.at 40,.rw 41 (.bool (decide (z1<0))) (.bool _) (by rw[h1]),.gH 45 i 0 false (aY h0),c2.at 49,.rw 50 (.bool (decide (z2>0))) (.bool _) (by rw[h2]),.sum 53 i 1 (i+1) rfl o_] k_ rfl k_ (aIb k_ k_) k_
theorem Y8(sv:∀ v∈vs,aD q v)(sd:aD m d):∀ i,i<=vs.length->i≠0->Sz (3*(q+m)+14) (j9 d vs i)/\Sz (3*(q+m)+14) (qH d vs i)
 |0,_,h=>absurd rfl h
 |i+1,hi,_=>by
  have sx:Sz (3*(q+m)+14) (dot (af vs i) d):=((sv _ (cM (j8 (show i<vs.length by omega)))).dot sd).mono o_;unfold j9 qH;by_cases h0:i=0
  ·rw[aA h0,aA h0];exact⟨sx,sx⟩
  ·obtain⟨h1,h2⟩:=Y8 sv sd i o_ h0;rw[au h0,au h0];constructor<;>split<;>assumption
def Fl(i:Nat)(x:K):al:=if i=0 then zN.cs else(cG x).cs
theorem aV4{zl zh:Nat->K}{nl:Nat}(hl:0<vs.length)(sv:∀ v∈vs,aD q v)(sd:aD m d)(hm:3*(q+m)+16<aF)(hn:4*(3*(q+m)+14+nl)+24<=aF)(h63:vs.length<1000000)
  (C1:zl 1=dot (af vs 0) d/\zh 1=dot (af vs 0) d) (bL:∀ i,i<=vs.length->i≠0->Sz nl (zl i)/\Sz nl (zh i))
  (hs:∀ i,i<vs.length->i≠0->zl (i+1)=(if decide (OF.aE (dot (af vs i) d-zl i)<0)then dot (af vs i) d else zl i)/\zh (i+1)=(if decide (OF.aE (dot (af vs i) d-zh i)>0)then dot (af vs i) d else zh i)) :
  ah prog Bs 56 (.block 0 (ai f10 0)) (Dp vs.length 0) (vo vs d zN.cs zN.cs) 7 ⟨.normal,[(4,aV 5),(5,aV 6)],vo vs d (cG (zl vs.length)).cs (cG (zh vs.length)).cs,7⟩:=by
 have qk:∀ a b:K,ah prog Bs 56 (aK (ai f10 0)) (Dp vs.length vs.length) (vo vs d (cG a).cs (cG b).cs) 7 ⟨.exit 0,[(4,aV 5),(5,aV 6)],vo vs d (cG a).cs (cG b).cs,7⟩:=λa b=>aG [.lt 28 vs.length vs.length false s_];have bB:vs.length≠0:=by omega
 have uz:∀ i,i<vs.length->ah prog Bs 56 (aK (ai f10 0)) (Dp vs.length i) (vo vs d (Fl i (zl i)) (Fl i (zh i))) 7 ⟨.normal,Dp vs.length (i+1),vo vs d (Fl (i+1) (zl (i+1))) (Fl (i+1) (zh (i+1))),7⟩:=λi hi=>by
  have hv:=j8 hi;have svi:=sv _ (cM hv);unfold Fl;rw[au (Nat.succ_ne_zero i),au (Nat.succ_ne_zero i)];by_cases h0:i=0
  ·subst h0;rw[aA rfl,aA rfl,C1.1,C1.2];exact aV2 hl hv svi sd hm h63
  ·obtain⟨s1,s2⟩:=bL i o_ h0;rw[(hs i hi h0).1,(hs i hi h0).2,au h0,au h0];exact aV3 (v:=af vs i) (lo:=zl i) (hi:=zh i) (i:=i) h0 hi hv svi sd hm h63 s1 s2 hn rfl rfl
 have:=cz (P:=prog) (B:=Bs) (N:=56) vs.length (λi=>Dp vs.length i) (λi=>vo vs d (Fl i (zl i)) (Fl i (zh i))) (λi k _=>xa (by rfl) k) uz (r:=⟨.exit 0,[(4,aV 5),(5,aV 6)],vo vs d (cG (zl vs.length)).cs (cG (zh vs.length)).cs,7⟩) (by have:=qk (zl vs.length) (zh vs.length);unfold Fl;rw[au bB,au bB];exact this) n_
 exact cg (id:=0) this
end
theorem aIc{d:V3 K}(h:gp ps)(hl:0<(bh ps).length)(sd:aD m d)(hd:d≠0)(hm:m<=1000):cx prog 10 [qG ps,.p (bE d)] (.tuple #[bH (j9 d (bh ps) (bh ps).length),bH (qH d (bh ps) (bh ps).length),gT 0]):=by
 have aC:([qG ps,.p (bE d)].all aQ.ok)=true:=by simp only[eA,e8,SE,kp,iz];rfl
 have pM:(10000000:Nat)<=aF:=by decide
 have kt:=h.valid;have vd:=j5 sd o_;have zd:=A0 sd o_;rw[aY hd]at zd
 have lo:=λBs=>aV4 (Bs:=Bs) (vs:=bh ps) (d:=d) (m:=m) (q:=4000) (nl:=3*(4000+m)+14) (zl:=j9 d (bh ps)) (zh:=qH d (bh ps)) hl h.Fj.1 sd o_ o_ (by have:=h.Fj.2;omega) ⟨rfl,rfl⟩
  (λi hi h0=>Y8 h.Fj.1 sd i hi h0) (λi hi h0=>⟨by rw[j9,au h0],by rw[qH,au h0]⟩)
 generalize j9 d (bh ps) (bh ps).length=a at *;generalize qH d (bh ps) (bh ps).length=b at *;exact dF func10 aC 56 (λw=>[.step 11 (az f10 11) [.func (.func 27) #[] #[],wA ps.length (bh ps).length] (BH ps) b_ [] (dJ kt (Dn .nil) (x:=.func 27) k_ k_ rfl),vd.at 15,zd.at 20,.code 0 _ _ _ _ _ (lo _)])
section
variable{F:Type}[OF F]
theorem aId{α:Type}(c:F)(f:α->F):∀ l:List α,lV (l.map λx=>c*f x)=c*lV (l.map f)
 |[]=>(CR.mul_zero _).symm
 |a::l=>by rw[mL,mL,rL,rL,aId c f l,CR.mul_add]
theorem aIe(c:F)(φ:Nat->Nat->F):∀ m:List Nat,oM (λx y=>c*φ x y) m=c*oM φ m
 |[]=>(CR.mul_zero _).symm
 |[x]=>(CR.mul_zero _).symm
 |x::y::t=>by show c*φ x y+oM _ (y::t)=c*(φ x y+oM φ (y::t));rw[aIe c φ (y::t),CR.mul_add]
theorem aV5(m o a x y:V3 F):(dot m (a-o)+dot m (x-o)+dot m (y-o))*aN (a-o) (x-o) (y-o) =
  (dot m a+dot m x+dot m y)*aN a x y+(-(dot m o+dot m o+dot m o+dot m o)*aN a x y+(-(aN o a x*(dot m a+dot m x)+aN o x y*(dot m x+dot m y)+aN o y a*(dot m y+dot m a))+(dot m o+dot m o+dot m o)*(aN o a x+aN o x y+aN o y a))):=
 V3.ring [m,o,a,x,y] [] (λV _=>(dot (V 0) (V 2-V 1)+dot (V 0) (V 3-V 1)+dot (V 0) (V 4-V 1))*aN (V 2-V 1) (V 3-V 1) (V 4-V 1))
  (λV _=>(dot (V 0) (V 2)+dot (V 0) (V 3)+dot (V 0) (V 4))*aN (V 2) (V 3) (V 4)+(-(dot (V 0) (V 1)+dot (V 0) (V 1)+dot (V 0) (V 1)+dot (V 0) (V 1))*aN (V 2) (V 3) (V 4)+(-(aN (V 1) (V 2) (V 3)*(dot (V 0) (V 2)+dot (V 0) (V 3))+aN (V 1) (V 3) (V 4)*(dot (V 0) (V 3)+dot (V 0) (V 4))+aN (V 1) (V 4) (V 2)*(dot (V 0) (V 4)+dot (V 0) (V 2)))+(dot (V 0) (V 1)+dot (V 0) (V 1)+dot (V 0) (V 1))*(aN (V 1) (V 2) (V 3)+aN (V 1) (V 3) (V 4)+aN (V 1) (V 4) (V 2))))) k_
end
section
variable{ps:c_}{vs:e_}
theorem Y9(c:K)(g:Nat->Nat->Nat->K):pj ps vs (λa x y=>c*g a x y)=c*pj ps vs g:=by
 unfold pj;rw[<-aId]
 congr 1
 refine uD λf _=>?_;unfold Kd;cases f.2 with
 |nil=>exact(CR.mul_zero _).symm
 |cons a m=>exact aIe _ _ m
def SF(ps:c_)(vs:e_)(m:V3 K):K:=pj ps vs λa x y=>(dot m (af vs a)+dot m (af vs x)+dot m (af vs y))*aN (af vs a) (af vs x) (af vs y)
theorem aV6(hc:Cl ps)(hp:fE ps)(hv:iC ps vs)(hf:k6 ps)(m o:V3 K):
  pj ps vs (λa x y=>(dot m (af vs a-o)+dot m (af vs x-o)+dot m (af vs y-o))*aN (af vs a-o) (af vs x-o) (af vs y-o))=SF ps vs m+-(dot m o+dot m o+dot m o+dot m o)*BG ps vs:=by
 have e:(λa x y=>(dot m (af vs a-o)+dot m (af vs x-o)+dot m (af vs y-o))*aN (af vs a-o) (af vs x-o) (af vs y-o))=_:=funext λa=>funext λx=>funext λy=>aV5 m o (af vs a) (af vs x) (af vs y);rw[e,NM,NM,NM,Y9,Y3,Y9,Y4 hc hp hv hf (λx y=>aN o (af vs x) (af vs y)) (λx y=>V3.LO _ _ _),Y4 hc hp hv hf (λx y=>aN o (af vs x) (af vs y)*(dot m (af vs x)+dot m (af vs y))) (λx y=>by rw[V3.LO,CR.neg_mul,CR.add_comm (dot m (af vs y))]),CR.mul_zero,CR.neg_zero,CR.add_zero,CR.add_zero];rfl
theorem aV7(hc:Cl ps)(hp:fE ps)(hv:iC ps vs)(hf:k6 ps){m:V3 K}{d:K}(h:∀ v∈vs,dot m v<=d){o:V3 K}(ho:sB ps o)(Za:dot m o<d):SF ps vs m<(d+d+d+d)*BG ps vs:=by
 have vM:0<pj ps vs λa x y=>(d+d+d+d+-(dot m o+dot m o+dot m o+dot m o)+-(dot m (af vs a-o)+dot m (af vs x-o)+dot m (af vs y-o)))*aN (af vs a-o) (af vs x-o) (af vs y-o):=by
  refine aH3 hc hp hv hf λi r hr a x y ha hx hy ht=>OF.mul_pos ?_ ?_
  ·have le:∀{c},c∈bZ r vs vs.length->dot m (af vs c-o)<=d-dot m o:=λhc=>by rw[V3.gg,<-OF.sub_nonneg];have:=OF.sub_nonneg.2 (h _ (HH (kC.1 hc).1));rwa[show d-dot m o-(dot m (af vs _)-dot m o)=d-dot m (af vs _)from j0 d (dot m o) (dot m (af vs _)) (λa b c=>a-b-(c-b)) (λa b c=>a-c) d_]
   have h3:=OF.add_le_add (OF.add_le_add (le ha) (le hx)) (le hy);have h4:=OF.add_lt_add_of_le_of_lt h3 (OF.sub_pos.2 Za);rw[CR.add_zero,<-OF.sub_pos]at h4;generalize dot m (af vs a-o)+dot m (af vs x-o)+dot m (af vs y-o)=s at *;rwa[show d-dot m o+(d-dot m o)+(d-dot m o)+(d-dot m o)-s=d+d+d+d+-(dot m o+dot m o+dot m o+dot m o)+-s from j0 d (dot m o) s (λa b c=>a-b+(a-b)+(a-b)+(a-b)-c) (λa b c=>a+a+a+a+-(b+b+b+b)+-c) d_]at h4
  ·have Fh:=cM hr;have on:∀{c},c∈bZ r vs vs.length->dot r.n (af vs c)=r.d:=λh=>(kC.1 h).2;refine aH1 (hp r Fh) ?_ ht ?_ ?_
   ·rw[V3.gg,on ha];exact OF.sub_pos.2 (ho r Fh)
   ·rw[V3.gg,on ha,on hx,OF.sub_self]
   ·rw[V3.gg,on ha,on hy,OF.sub_self]
 have e:(λa x y=>(d+d+d+d+-(dot m o+dot m o+dot m o+dot m o)+-(dot m (af vs a-o)+dot m (af vs x-o)+dot m (af vs y-o)))*aN (af vs a-o) (af vs x-o) (af vs y-o)) =
   λa x y=>(d+d+d+d+-(dot m o+dot m o+dot m o+dot m o))*aN (af vs a-o) (af vs x-o) (af vs y-o)+-((dot m (af vs a-o)+dot m (af vs x-o)+dot m (af vs y-o))*aN (af vs a-o) (af vs x-o) (af vs y-o)):=by
  funext a x y;rw[CR.add_mul,CR.neg_mul]
 rw[e,NM,Y9,Y3,aH2 hc hp hv hf,aV6 hc hp hv hf]at vM;rw[<-OF.sub_pos];generalize BG ps vs=v at *;generalize SF ps vs m=z at *;rwa[show(d+d+d+d+-(dot m o+dot m o+dot m o+dot m o))*v+-(z+-(dot m o+dot m o+dot m o+dot m o)*v)=(d+d+d+d)*v-z from yv d (dot m o) v z (λd b v z=>(d+d+d+d+-(b+b+b+b))*v+-(z+-(b+b+b+b)*v)) (λd _ v z=>(d+d+d+d)*v-z) d_]at vM
end
end
section
open V3 (dot ag aN smul)
section
variable{vs:e_}{fs:f_}{xp:al}{np:Nat}{s:V3 K}{p q r:V3 K}
def wE(s p q r:V3 K):V3 K:=s+smul (p+q+r) (aN p q r)
noncomputable def Fm(Q np nv:Nat):BC (V3 K) where
 f:=wE
 Inv n s:=aD n s
 q:=Q
 X:=18*Q+50
 x5 s:=.aI (cB s).cs 33
 x3:=.aI [sl 0 np,sl 1 nv,cN 2] 26
 x4:=.aI zV.cs 33
 x6:=.row [] 3 1
 N:=46
 Ss:=#[16]
 hJ:=AK (o7 f9)
 fC:=AL (o7 f9)
 fr:=[(1,aV 3),(2,aV 4),(4,aV 5),(15,.func (.func 68) #[] #[aV 7])]
def BI(np nv:Nat)(s:V3 K):aL:=pX np nv (.aI [sl 0 np,sl 1 nv,cN 2] 26) (.aI zV.cs 33) (.aI (cB s).cs 33) (.row [] 3 1)
theorem SG(hm:m=8\/m=9):([Obj.aI [sl 0 np,sl 1 nv,cN 2] 26,.aI zV.cs 33,.aI (cB s).cs 33,.row [] 3 1].all λx=>x.cells.all (l5 m))=true:=by rcases hm with rfl|rfl<;>kernel_rfl
theorem aV8{n:Nat}(hp:aD m p)(hq:aD m q)(hr:aD m r)(hs:aD n s)(cQ:n+(18*m+50)<aF)(iS:xp.all flat=true):
  GI prog 8 46 #[16] (AK (o7 f9)) (AL (o7 f9)) [(1,aV 3),(2,aV 4),(4,aV 5),(15,.func (.func 68) #[] #[aV 7])] (BI np vs.length s) (jF xp vs fs) (BI np vs.length (wE s p q r)) [YR p q r] none:=by
 have hd:Sz (15*m+41) (aN p q r):=(hp.dot (hq.ag hr)).mono o_;have a1:=AZ hp hq o_;have a2:=AZ (hp.add hq) hr o_;have L3:=MW hp hq hr o_;have hm:=(hp.add hq).add hr;have sc:=uU hm hd o_;have a3:=AZ hs (hm.smul hd) o_;unfold wE;generalize s+smul (p+q+r) (aN p q r)=z at *;generalize smul (p+q+r) (aN p q r)=u at *;generalize aN p q r=x at *;generalize p+q+r=t at *;generalize p+q=y at *
 exact Jf (rA:=⟨.normal,(5,aV 9)::[(1,aV 3),(2,aV 4),(4,aV 5),(15,.func (.func 68) #[] #[aV 7])],(9,.aI ((cB p).cs++(cB q).cs++(cB r).cs) 64)::(BI np vs.length s++jF xp vs fs),10⟩) (rB:=⟨.normal,[],BI np vs.length z,11⟩)
  k_ rfl k_ (HM (.inr rfl) (SG (.inr rfl)) iS) (aHy (.inr rfl) (SG (.inr rfl))) k_ k_ k_ k_ (λB=>fv mixed 10 [] k_) rfl k_ rfl
  (λB=>fv mixed 10 [a1.at 21,a2.at 24,L3.at 33,sc.at 34,a3.at 35] k_) (λk y h=>h) rfl
theorem aIf{Q:Nat}(iS:xp.all flat=true):(Fm Q np vs.length).Holds np vs xp fs where
 inv {n s p q r} hs hp hq hr:=by have hs:aD n s:=hs;have hp:aD Q p:=hp;have hq:aD Q q:=hq;have hr:aD Q r:=hr;have hd:Sz (15*Q+41) (aN p q r):=(hp.dot (hq.ag hr)).mono o_;exact(hs.add (((hp.add hq).add hr).smul hd)).mono (by show _<=n+(18*Q+50);omega)
 mono {m n s} h hs:=by have hs:aD m s:=hs;exact hs.mono h
 round hs h hp hq hr:=aV8 hp hq hr hs h iS
 low s x hx:=by have:=bC.1 (HM (fs:=fs) (np:=np) (vs:=vs) (.inr rfl) (SG (s:=s) (.inr rfl)) iS) x hx;rw[dc]at this;exact xb this.2
theorem aV9(hm:aO B ι c w)(hk:c k=none){sz:Nat}:aO B (dT ι k .nil) (bA c k (.row [] ty sz)) w:=
 hm.add hk (x:=.row [] ty sz) (l:=.nil) (.inl ⟨rfl,rfl⟩) n_ n_ n_
end
section
variable{vs:e_}{xp:al}{np:Nat}{Fs:List (Nat×List Nat)}{Q M:Nat}
def cL:Code->Code|.seq x _=>x|c=>c
def cR:Code->Code|.seq _ y=>y|c=>c
def Fo(vs:e_)(Fs:List (Nat×List Nat)):V3 K:=pW wE 0 vs (Fs.map (·.2)) (Fs.map dS).length
theorem aWa{Fp:K}{n:Nat}(h:Dl vs Fs Q (18*Q+50) M 2)(iS:xp.all flat=true)(zk:np=0->xp=[])(kt:cx prog 27 [ui np xp vs Fs] b_)(SH:cx prog 35 [ui np xp vs Fs] (bH Fp))
  (As:Fp≠0) (sv:Sz n Fp) (hn:10*n+1000<=aF) (hc:aD n (Fo vs Fs)):cx prog 9 [ui np xp vs Fs] (.tuple #[bE (smul (Fo vs Fs) (eZ 1 24*Fp⁻¹)),gT 0]):=by
 have aC:([ui np xp vs Fs].all aQ.ok)=true:=by show((xp.all flat&&((aP vs).all flat&&true))&&true)=true;rw[iS,dR];rfl
 have hr:Sz 5 (eZ 1 24):=EB d_ d_ d_;have mr:=Sw (p:=1) (q:=24) (n:=5) d_ d_ d_ d_;have dv:=GC As hr sv o_;have sk:Sz (5+7*n+28) (eZ 1 24*Fp⁻¹):=Sz.div As hr sv;have sc:=uU hc sk o_;have h0:aH prog 28 [.int .i64 0,.int .i64 0,.int .i64 0] (bE 0):=xj (a:=0) (b:=0) (c:=0) d_ d_ d_;have body:∀ w ι cc a,fp (aa.at w) ι (bM (jb 0 (eY 0 [ui np xp vs Fs]))) 46 a->aO (aa.at w) ι cc w->cZ cc (jq 0 [ui np xp vs Fs])->eG cc (jQ 0 [ui np xp vs Fs])->
   ((f9).body.getD .skip).wpIn (FW none) 0 prog (bodyPostM (FW none) 0 prog f9 λe w'=>e=.returned (.tuple #[bE (smul (Fo vs Fs) (eZ 1 24*Fp⁻¹)),gT 0])/\Below w.heap.size w w') a w:=by
  intro w ι cc a hf hm ha hu;have hB:=aIf (Q:=Q) (np:=np) (vs:=vs) (fs:=Fs.map dS) iS;have hz:∀(i:Nat) (f:Nat×List Nat),Fs[i]?=some f->pW wE 0 vs (Fs.map (·.2)) (i+1)=nG (Fm Q np vs.length).f (pW wE 0 vs (Fs.map (·.2)) i) (kR vs f.2) (f.2.length-2):=Sv wE 0 vs Fs;have z0:aD 2 (0:V3 K):=⟨mh (z:=0) d_ d_,mh (z:=0) d_ d_,mh (z:=0) d_ d_⟩;have hinv:∀ i,i<=Fs.length->(Fm Q np vs.length).Inv (2+i*((M+1)*(Fm Q np vs.length).X)) (pW wE 0 vs (Fs.map (·.2)) i):=NJ (B:=Fm Q np vs.length) (s0:=(0:V3 K)) h hB z0;have vh:=λ(cP l D:Nat) (W1:h_) (S:Nat->Prop) (m:Map) (T:p_) (fD:yI prog 8 46 (Fm Q np vs.length).fr (BI np vs.length 0) m S T) (κ:Map) (c:g_) (W:h_) (dM:al)=>
   aHA (B:=Fm Q np vs.length) (s0:=(0:V3 K)) (W:=W) (W1:=W1) (l:=l) (D:=D) (cP:=cP) (xp:=xp) (np:=np) (S:=S) (m:=m) (T:=T) (κ:=κ) (c:=c) (dM:=dM) (z:=pW wE 0 vs (Fs.map (·.2))) h hB hz hinv rfl fD iS zk
  have vB:∀ B:aa,gC B [ui np xp vs Fs] [wA np vs.length] [(0,some (.view xp)),(1,some (.view (aP vs))),(2,some (.fact (jC (Fs.map dS))))]:=λB=>.s (x1:=.view xp) (x2:=.view (aP vs)) rfl iS zk rfl (dR vs) wk .nil;have vv:=λB (o:Oper) (ho:dC o.op=some (.func 35))=>dJ (P:=prog) (B:=B) (o:=o) SH (vB B) ho k_ k_
  have va:=λB (o:Oper) (ho:dC o.op=some (.func 27))=>dJ (P:=prog) (B:=B) (o:=o) kt (vB B) ho k_ rfl
  unfold Fo at *;unfold ui at *;generalize smul (pW wE 0 vs (Fs.map (·.2)) (Fs.map dS).length) (eZ 1 24*Fp⁻¹)=res at *;generalize pW wE 0 vs (Fs.map (·.2)) (Fs.map dS).length=z at *;generalize eZ 1 24*Fp⁻¹=kk at *;generalize eZ 1 24=rr at *;generalize Fs.map dS=fs at *;have g0:ah prog (aa.at w) 46 (vX f9 0) (jb 0 (eY 0 [.s np xp vs.length (aP vs) (jC fs)])) (jq 0 [.s np xp vs.length (aP vs) (jC fs)]) 3 ⟨.normal,[(1,aV 3),(2,aV 4)],(3,.aI [sl 0 np,sl 1 vs.length,cN 2] 26)::(4,.aI zV.cs 33)::jF xp vs fs,5⟩:=aG [];have g1:ah prog (aa.at w) 46 (cL (cR ((f9).body.getD .skip))) [(1,aV 3),(2,aV 4)] ((3,.aI [sl 0 np,sl 1 vs.length,cN 2] 26)::(4,.aI zV.cs 33)::jF xp vs fs) 5 ⟨.normal,[(1,aV 3),(2,aV 4)],(3,.aI [sl 0 np,sl 1 vs.length,cN 2] 26)::(4,.aI zV.cs 33)::jF xp vs fs,5⟩:=aG [.step 10 _ _ _ _ _ (va _ (az f9 10) k_)];have g2:ah prog (aa.at w) 46 (vX f9 3) [(1,aV 3),(2,aV 4)] ((3,.aI [sl 0 np,sl 1 vs.length,cN 2] 26)::(4,.aI zV.cs 33)::jF xp vs fs) 5 ⟨.normal,[(1,aV 3),(2,aV 4),(4,aV 5)],(5,.aI (cB 0).cs 33)::(3,.aI [sl 0 np,sl 1 vs.length,cN 2] 26)::(4,.aI zV.cs 33)::jF xp vs fs,6⟩:=aG [h0.at 13];have g3:ah prog (aa.at w) 46 (vX f9 4) [(1,aV 3),(2,aV 4),(4,aV 5)] ((6,.row [] 3 1)::(5,.aI (cB 0).cs 33)::(3,.aI [sl 0 np,sl 1 vs.length,cN 2] 26)::(4,.aI zV.cs 33)::jF xp vs fs) 7 ⟨.normal,[(1,aV 3),(2,aV 4),(4,aV 5),(15,.func (.func 68) #[] #[aV 7])],BI np vs.length 0++jF xp vs fs,8⟩:=aG [
   .step 15 _ _ _ _ _ (aEc (K:=7) (args:=[.agg #[sl 0 np,sl 1 vs.length,cN 2]]) (ca:=[]) (ns:=[7]) (Os:=[]) (Vs:=jF xp vs fs) (x:=.func 29) (o:=az f9 15) aHx k_ k_ k_ k_ (aHz iS) (λp hp v hv=>by simp at hp;subst hp;have hv:v∈[sl 0 np,sl 1 vs.length,cN 2]:=hv;simp at hv;rcases hv with rfl|rfl|rfl<;>rfl) k_ (λp hp=>by simp at hp;subst hp;exact .inl rfl) k_ (aHv rfl))]
  have ge:∀ B,ah prog B 46 (cR (cR (cR (cR ((f9).body.getD .skip))))) [(1,aV 3),(2,aV 4),(4,aV 5),(15,.func (.func 68) #[] #[aV 7])] (BI np vs.length z++jF xp vs fs) 8 ⟨.ret,[(2,aV 4),(3,.int .i64 0)],[(4,.aI (cB res).cs 33)],9⟩:=λB=>
   aG [mr.at 37,.step 39 _ _ _ _ _ (vv _ (az f9 39) k_),dv.at 40,sc.at 45]
  refine kY (g0 none _ _ a w _ hf hm ha hu λtA VO a0 w0 VP xU kg ni wS xc _=>?_);refine kY (g1 none _ _ a0 w0 _ xU kg ni wS λb9 gF a1 w1 jy iq c8 eC dO iu _=>?_);refine kY (g2 none _ _ a1 w1 _ iq c8 eC dO λdQ qP a2 w2 lg iX dE gO eM fX _=>?_);have aWb:=aV9 dE (eM 6 (bF _)) (ty:=3) (sz:=1);refine kY (kY (g3 none _ _ a2 w2 _ (iX.mono (hZ (dE.dD 6 (eM 6 (bF _))))) aWb (λk x e=>?_) (λk hk=>?_) λLK cc3 a3 w3 aVq Mb um yH LB P1 _=>H4 ?_))
  ·unfold bA;by_cases h6:k=6
   ·subst h6;rw[aA rfl];exact e
   ·rw[au h6];refine gO k x ?_;have:ak ((6,Obj.row [] 3 1)::((5,.aI (cB 0).cs 33)::(3,.aI [sl 0 np,sl 1 vs.length,cN 2] 26)::(4,.aI zV.cs 33)::jF xp vs fs)) k=ak ((5,.aI (cB 0).cs 33)::(3,.aI [sl 0 np,sl 1 vs.length,cN 2] 26)::(4,.aI zV.cs 33)::jF xp vs fs) k:=by show(if Nat.beq 6 k then _ else _)=_;rw[om (kV h6)];rfl
    rw[<-this];exact e
  ·unfold bA;rw[au o_];exact eM k (Nat.le_of_succ_le hk)
  have l8:=HM (fs:=fs) (np:=np) (vs:=vs) (.inl rfl) (SG (np:=np) (nv:=vs.length) (s:=z) (.inl rfl)) iS;refine P2 (next:=8) (Os:=BI np vs.length 0) (Vs:=jF xp vs fs) (cA:=BI np vs.length z) (gf:=68) (ca:=[aV 7]) (j:=none) Mb um yH LB (λk x h=>kN (p:=λp=>p.2.owns) k_ h) (λk x h=>kN (p:=λp=>p.2.soft) k_ h) k_ k_ k_ (xa (by unfold BI pX;rfl)) (λk x h=>kN (p:=λp=>p.2.owns) k_ h) (λk x h=>by
    have:=kN (p:=λp=>Nat.blt p.1 8&&mT 8 p) l8 h;rw[dc]at this;exact xb this.2)
   (λcP l D W1 S fD κ c W dM hm ha hu fm=>vh cP l D W1 S _ _ fD κ c W dM hm ha hu fm) λD cr w' AH VQ YT LC YU YV=>?_
  exact VM (B:=aa.at w) (v:=.tuple #[bE res,gT 0]) ge rfl k_ YT LC YU YV rfl (λF h=>h) AH λaB v' w' hc hG=>⟨by rw[hc.fH rfl],hG⟩
 exact aHw (N:=46) (c:=(f9).body.getD .skip) func9 k_ k_ aC body
end
end
section
open CR OF
open V3 (dot ag aN smul)
noncomputable def zM(ps:c_):V3 K:=smul (Fo (bh ps) (da ps (bh ps) ps.length)) (eZ 1 24*(uj ps)⁻¹)
section
variable{ps:c_}{m:V3 K}{d:K}
theorem gp.aWc(h:gp ps)(m:V3 K):dot m (Fo (bh ps) (da ps (bh ps) ps.length))=SF ps (bh ps) m:=by have:=aH7 (ps:=ps) (L:=dot m) (f:=wE) (φ:=λp q r=>(dot m p+dot m q+dot m r)*aN p q r) (vs:=bh ps) (λs p q r=>by unfold wE;rw[V3.iT,V3.gk,V3.iT,V3.iT]) 0 h.aH8;rw[V3.xe,CR.zero_add]at this;exact this
theorem gp.aIg(h:gp ps):aD 700000000 (Fo (bh ps) (da ps (bh ps) ps.length)):=by have z0:aD 2 (0:V3 K):=⟨mh (z:=0) d_ d_,mh (z:=0) d_ d_,mh (z:=0) d_ d_⟩;have h1:=NJ (B:=Fm 4000 ps.length (bh ps).length) (s0:=(0:V3 K)) (np:=ps.length) (xp:=bf ps) h.loops (aIf (dp ps)) z0 ((da ps (bh ps) ps.length).map dS).length (by rw[eO];exact bF _);have h1:aD (2+((da ps (bh ps) ps.length).map dS).length*((1000+1)*(18*4000+50))) (Fo (bh ps) (da ps (bh ps) ps.length)):=h1;exact h1.mono h.many
theorem gp.some(h:gp ps):0<(bh ps).length:=by obtain⟨l1,_⟩:=Qp h.cl h.proper (l:=bh ps) (λv=>h.Fi.2 v) h.full;exact List.length_pos_iff.2 l1
theorem gp.SDq(h:gp ps):0<uj ps:=OF.mul_pos (SD h.cl h.proper h.Fi h.full) (gj.2 k_)
theorem gp.aIh(h:gp ps)(hv:∀ v∈bh ps,dot m v<=d){o:V3 K}(ho:sB ps o)(Za:dot m o<d):dot m (zM ps)<d:=by
 have h1:=aV7 h.cl h.proper h.Fi h.full hv ho Za;have hw:=h.SDq;have hk:0<eZ 1 24*(uj ps)⁻¹:=OF.mul_pos (gj.2 k_) (OF.inv_pos hw);have e4:eZ 1 6*eZ 24 1=(1+1+1+1:K):=by kernel_rfl
 have e24:eZ 24 1*eZ 1 24=(1:K):=by kernel_rfl
 have ew:=OF.inv_mul (OF.ne_of_gt hw);have e:(eZ 1 24*(uj ps)⁻¹)*((d+d+d+d)*BG ps (bh ps))=d:=by
  have e1:(d+d+d+d)*BG ps (bh ps)=d*(uj ps*eZ 24 1):=by unfold uj;rw[CR.mul_assoc,e4];exact iR d (BG ps (bh ps)) (λd v=>(d+d+d+d)*v) (λd v=>d*(v*(1+1+1+1))) d_
  rw[e1];generalize uj ps=w at *;rw[show eZ 1 24*w⁻¹*(d*(w*eZ 24 1))=d*(w⁻¹*w)*(eZ 24 1*eZ 1 24)from Gm d w w⁻¹ (eZ 24 1) (eZ 1 24) (λd w i a b=>b*i*(d*(w*a))) (λd w i a b=>d*(i*w)*(a*b)) d_,ew,e24,CR.mul_one,CR.mul_one]
 have h2:=(OF.mul_lt_mul_left hk).2 h1;rw[e,<-h.aWc m]at h2;unfold zM;rw[V3.gk,CR.mul_comm];exact h2
theorem gp.aWd(h:gp ps):sB ps (zM ps):=λp hp=>by obtain⟨o,ho⟩:=h.full;exact h.aIh (λv hv=>((h.Fi.2 v).1 hv).1 p hp) ho (ho p hp)
theorem gp.before(h:gp ps)(hm:m≠0)(hv:∀ v∈bh ps,dot m v<=d):dot m (zM ps)<d:=by
 obtain⟨l1,l2⟩:=Qp h.cl h.proper (l:=bh ps) (λv=>h.Fi.2 v) h.full;refine h.aIh hv l2 (Wj hv ?_);refine iP λhn=>?_;have ht:∀ v∈bh ps,dot m v=d:=λv hw=>OF.le_antisymm (hv v hw) (OF.not_lt.1 λk=>hn ⟨v,hw,k⟩);obtain⟨o,rest,e,a,ha,b,hb,c,hc,hd⟩:=aDf h.cl h.proper (l:=bh ps) (λv=>h.Fi.2 v) h.full;rw[e]at ht;have to:=ht o (aR ..);have z:∀ x∈rest,dot (x-o) m=0:=λx hx=>by rw[V3.su,V3.gg,ht x (bK _ hx),to,OF.sub_self]
 exact hm (V3.Eu hd (z a ha) (z b hb) (z c hc))
theorem aIi{v:V3 K}:∀{l:c_},sB l v->xI l v=-1
 |[],_=>rfl
 |p::l,h=>by have ih:=aIi (l:=l) λq hq=>h q (bK _ hq);have e:OF.aE (dot p.n v-p.d)=-1:=Gn.1 (by rw[<-OF.neg_pos,OF.neg_sub];exact OF.sub_pos.2 (h p (aR ..)));unfold xI at *;rw[vF];unfold NA at *;rw[e];exact ih
end
section
variable{rs:List RP}{vs:List RV}{fs:f_}{n:Nat}
theorem aIj(rs:List RP)(vs:List RV)(fs:f_)(n:Nat):([gh rs vs fs,.p (vI n)].all aQ.ok)=true:=by have e:(gh rs vs fs).ok=true:=Sg rs vs fs;simp only[eA,e8,e,kp,iz];rfl
noncomputable def Zb(zO:cx prog 22 [gh rs vs fs] (.bool t))(more:bN prog Bs 18):bN prog Bs 18:=
 .step 6 (az Tryz.f5 6) [.func (.func 22) #[] #[],sA rs.length vs.length] (Sl rs vs fs) (.bool t) [] (dJ zO (YL .nil) (x:=.func 22) k_ k_ rfl)::more
noncomputable def riV(hl:rs.length<=n)(kt:cx prog 23 [gh rs vs fs] (.bool t)):bN prog Bs 18:=
 [.rw 12 _ b_ (Hy (a:=rs.length) (b:=n) (aJ hl)),.step 16 (az Tryz.f5 16) [.func (.func 23) #[] #[],sA rs.length vs.length] (Sl rs vs fs) (.bool t) [] (dJ kt (YL .nil) (x:=.func 23) k_ k_ rfl)]
theorem Zc(zO:cx prog 22 [gh rs vs fs] b_)(hl:rs.length<=n)(kt:cx prog 23 [gh rs vs fs] (.bool t)):cx prog 5 [gh rs vs fs,.p (vI n)] (.bool t):=by have aC:=aIj rs vs fs n;unfold gh at *;exact dF func5 aC 18 (λw=>Zb zO (riV hl kt))
theorem aWe(hn:n<=9)(J7:rs.length<9223372036854775807)(jh:vs.length<9223372036854775807)(rK:fs.length<9223372036854775807):cx prog 5 [gh rs vs fs,.p (vI n)] a_\/
  ∃ ps:c_,gp ps/\ps.length<=n/\rs=ps.map db/\vs=(bh ps).map cB/\fs=lD ps/\cx prog 5 [gh rs vs fs,.p (vI n)] b_:=by
 have aC:=aIj rs vs fs n;have zO:=aUE (rs:=rs) (vs:=vs) (fs:=fs) J7 jh rK;by_cases hb:NC rs vs fs=true;rotate_left
 ·have hb:NC rs vs fs=false:=by simpa using hb
  rw[hb]at zO;unfold gh at *;exact .inl (dF func5 aC 18 (λw=>Zb zO []))
 rw[hb]at zO;by_cases hl:rs.length<=n;rotate_left
 ·unfold gh at *;exact .inl (dF func5 aC 18 (λw=>Zb zO [.rw 12 _ a_ (Hy (a:=rs.length) (b:=n) (aY hl))]))
 have ki:=hb;unfold NC Ni at ki;simp only[dc]at ki;obtain⟨cV,⟨Fh,_,_⟩,⟨hvw,aXm⟩,aXn⟩:=ki;rw[bC]at cV Fh hvw;have bL:∀ x∈rs,Bk 24 x:=λx hx=>aRc (Fh x hx) d_;have aW:∀ x∈vs,x.Sm:=λx hx=>aUS (hvw x hx) d_;have rJ:∀ f∈fs,f.2.length<9223372036854775807:=λf hf=>fA (jN (cV f hf)) d_;by_cases bo:rs.all sL=true;rotate_left
 ·exact .inl (Zc zO hl (aUw bL d_ J7 (by simpa using bo)))
 obtain⟨ers,j4⟩:=aUT bo;have cq:∀ q∈rs.map pZ,bP 24 q/\q.n≠0:=λq hq=>by refine⟨?_,j4 q hq⟩;obtain⟨x,hx,rfl⟩:=df.1 hq;exact aRb (bC.1 bo x hx) (bL x hx)
 have hlen:(rs.map pZ).length=rs.length:=eO ..;generalize hP:rs.map pZ=ps at *;subst ers;have SI:fE ps:=λq hq=>(cq q hq).2;have aWf:sU ps 24 4000:=⟨by omega,cq,by decide,by decide⟩;have kt:=aUx (vs:=vs) (fs:=fs) aWf (λhc hs=>by have hc:=Yr.1 hc;have hf:=aHe SI hs;have:=aHd hc SI hf;rw[Fb hc SI hf]at this;exact this) aW jh rK rJ
 by_cases hvalid:J4 ps vs fs=true;rotate_left
 ·have hvalid:J4 ps vs fs=false:=by simpa using hvalid
  rw[hvalid]at kt;exact .inl (Zc zO hl kt)
 rw[hvalid]at kt;obtain⟨hc,hf,e1,e2⟩:=aUK SI hvalid;exact .inr ⟨ps,⟨by omega,cq,hc,hf⟩,by omega,rfl,e1,e2,Zc zO hl kt⟩
end
section
theorem aWg(ps:c_):gh (ps.map db) ((bh ps).map cB) (lD ps)=.s ps.length (bf ps) (bh ps).length (aP (bh ps)) (ji (lD ps)):=by unfold gh;rw[eO,eO];rfl
end
section
variable{Bs:aa}{vs:e_}{c d v:V3 K}{m q i:Nat}{lo hi:K}
def HR(n i:Nat)(le mo:Bool):aU:=[(89,vI i),(87,sl 1 n),(88,vI n),(3,aV 4),(5,aV 5),(7,aV 6),(8,aV 7),(13,.bool le),(14,.bool mo)]
def xJ(vs:e_)(c d:V3 K)(lo hi:K):aL:=[(1,.view (aP vs)),(4,.aI (cB d).cs 33),(5,.aI (cB c).cs 33),(6,.aI (cG lo).cs 31),(7,.aI (cG hi).cs 31)]
theorem aWh:∀ x∈xJ vs c d lo hi,fR 10 x.2:=λx hx=>by
 simp only[xJ,cE,jR,jS]at hx;rcases hx with rfl|rfl|rfl|rfl|rfl
 ·exact λv hv=>gP (bC.1 (dR vs) v hv)
 ·exact λx hx=>gP (bC.1 (show((cB d).cs.all flat)=true from k_) x hx)
 ·exact λx hx=>gP (bC.1 (show((cB c).cs.all flat)=true from k_) x hx)
 ·exact λx hx=>gP (bC.1 (show((cG lo).cs.all flat)=true from k_) x hx)
 ·exact λx hx=>gP (bC.1 (show((cG hi).cs.all flat)=true from k_) x hx)
theorem aWi{n:Nat}{le mo e1 e2:Bool}(fQ:i<vs.length)(hv:vs[i]?=some v)(sv:aD q v)(sd:aD m d)(hm:3*(q+m)+16<aF)(h63:vs.length<1000000)(Fk:Sz n lo)(sh:Sz n hi)(hn:4*(3*(q+m)+14+n)+40<=aF)
  (h1:lo<=dot v d) (h2:dot v d<=hi) (MD:e1=decide (dot v d=lo)) (he2:e2=decide (dot v d=hi)) :
  ah prog Bs 138 (aK (ai Tryz.f3 0)) (HR vs.length i le mo) (xJ vs c d lo hi) 10 ⟨.normal,HR vs.length (i+1) (le||e1) (mo||e2),xJ vs c d lo hi,10⟩:=by
 have hd:=aYl sv sd hm;have sx:Sz (3*(q+m)+14) (dot v d):=(sv.dot sd).mono o_;have c1:=aYn sx Fk hn;have c2:=aYn sx sh hn;have z1:decide (OF.aE (dot v d-lo)<0)=false:=aY (by rw[le_def]at h1;rcases OF.iJ (dot v d-lo)with h|h|h<;>omega);have z2:decide (OF.aE (dot v d-hi)>0)=false:=aY (by rw[le_def,AA]at h2;rcases OF.iJ (dot v d-hi)with h|h|h<;>omega);have q1:e1=true↔cG (dot v d)=cG lo:=by rw[MD,uV];exact⟨λh=>by rw[h],Gy⟩
 have q2:e2=true↔cG (dot v d)=cG hi:=by rw[he2,uV];exact⟨λh=>by rw[h],Gy⟩
 have m1:=tJ sx o_;have m2:=tJ Fk o_;have m3:=tJ sh o_;clear MD he2 h1 h2;generalize dot v d=x at *;generalize OF.aE (x-lo)=z at *;generalize OF.aE (x-hi)=y at *;refine rU mixed 100 (gG:=12) ([.lt 90 i vs.length true (aJ fQ),.di Tryz.f3 91 1 vs.length i 30 fQ k_,.ld Tryz.f3 92 33 1 (i*30) (.view (aP vs)) (bE v) rfl (lv hv) k_,hd.at 95,c1.at 98,.rw 99 (.bool (decide (z<0))) a_ (by rw[z1]),c2.at 103,.rw 104 (.bool (decide (y>0))) a_ (by rw[z2])]++
   (bif le then[]else[.step 110 (az Tryz.f3 110) [bH x,bH lo] [] (.bool e1) [] (Gw (neg:=true) k_ (cG x) (cG lo) m1 m2 q1)])++(bif mo then[]else[.step 116 (az Tryz.f3 116) [bH x,bH hi] [] (.bool e2) [] (Gw (neg:=true) k_ (cG x) (cG hi) m1 m3 q2)])++[.sum 118 i 1 (i+1) rfl o_]) ?_ rfl ?_ aWh k_<;>cases le<;>cases mo<;>kernel_rfl
theorem aWj{n:Nat}{z1 z2:Nat->Bool}(sv:∀ v∈vs,aD q v)(sd:aD m d)(hm:3*(q+m)+16<aF)(h63:vs.length<1000000)(Fk:Sz n lo)(sh:Sz n hi)(hn:4*(3*(q+m)+14+n)+40<=aF)
  (h1:∀ v∈vs,lo<=dot v d/\dot v d<=hi) (ux:z1 0=false/\z2 0=false) (hz:∀ i,i<vs.length->z1 (i+1)=(z1 i||decide (dot (af vs i) d=lo))/\z2 (i+1)=(z2 i||decide (dot (af vs i) d=hi))) :
  ah prog Bs 138 (.block 0 (ai Tryz.f3 0)) (HR vs.length 0 false false) (xJ vs c d lo hi) 10 ⟨.normal,[(3,aV 4),(5,aV 5),(7,aV 6),(8,aV 7),(13,.bool (z1 vs.length)),(14,.bool (z2 vs.length))],xJ vs c d lo hi,10⟩:=by
 have qk:∀ a b:Bool,ah prog Bs 138 (aK (ai Tryz.f3 0)) (HR vs.length vs.length a b) (xJ vs c d lo hi) 10 ⟨.exit 0,[(3,aV 4),(5,aV 5),(7,aV 6),(8,aV 7),(13,.bool a),(14,.bool b)],xJ vs c d lo hi,10⟩:=λa b=>aG [.lt 90 vs.length vs.length false s_];have:=cz (P:=prog) (B:=Bs) (N:=138) vs.length (λi=>HR vs.length i (z1 i) (z2 i)) (λ_=>xJ vs c d lo hi) (λ_ _ _=>Iff.rfl) (λi fQ=>by have hv:=j8 fQ;have bJ:=cM hv;show ah _ _ _ _ _ _ _ ⟨_,HR vs.length (i+1) (z1 (i+1)) (z2 (i+1)),_,_⟩;rw[(hz i fQ).1,(hz i fQ).2];exact aWi fQ hv (sv _ bJ) sd hm h63 Fk sh hn (h1 _ bJ).1 (h1 _ bJ).2 rfl rfl) (r:=⟨.exit 0,[(3,aV 4),(5,aV 5),(7,aV 6),(8,aV 7),(13,.bool (z1 vs.length)),(14,.bool (z2 vs.length))],xJ vs c d lo hi,10⟩) (qk _ _) n_
 rw[ux.1,ux.2]at this;exact cg (id:=0) this
end
section
variable{rs:List RP}{vs:List RV}{fs:f_}{r:RV}
theorem aWk(rs:List RP)(vs:List RV)(fs:f_)(r:RV):([gh rs vs fs,.p r.v].all aQ.ok)=true:=by have e:(gh rs vs fs).ok=true:=Sg rs vs fs;simp only[eA,e8,e,kp,iz];rfl
noncomputable def SJ(sV:cx prog 4 [] b_)(h:cx prog 5 [gh rs vs fs,.p (vI 8)] (.bool t))(more:bN prog Bs 138):bN prog Bs 138:=
 .step 19 (az Tryz.f3 19) [.func (.func 4) #[] #[]] [] b_ [] (dJ sV .nil (x:=.func 4) k_ k_ rfl)::
 .step 22 (az Tryz.f3 22) [.func (.func 5) #[] #[],sA rs.length vs.length,vI 8] (Sl rs vs fs) (.bool t) [] (dJ h (YL (.p rfl .nil)) (x:=.func 5) k_ k_ rfl)::more
theorem SK{t1 t2 t3 t4:Bool}(sV:cx prog 4 [] b_)(h:cx prog 5 [gh rs vs fs,.p (vI 8)] (.bool t1))(hr:aH prog 6 [r.v,vI 4] (.bool t2))
  (hv:t1=true->t2=true->aH prog 7 [r.v] (.bool t3)) (hz:t1=true->t2=true->t3=true->aH prog 8 [r.v] (.bool t4)) (SR:¬(t1=true/\t2=true/\t3=true/\t4=false)) :
  cx prog 3 [gh rs vs fs,.p r.v] b_:=by
 have aC:=aWk rs vs fs r;cases t1
 ·unfold gh at *;exact iL mixed func3 aC 400 (N:=138) k_ (λw=>SJ sV h []) (λ_=>k_) k_
 cases t2
 ·unfold gh at *;exact iL mixed func3 aC 400 (N:=138) k_ (λw=>SJ sV h [hr.at 26]) (λ_=>k_) k_
 have hv:=hv rfl rfl;cases t3
 ·unfold gh at *;exact iL mixed func3 aC 400 (N:=138) k_ (λw=>SJ sV h [hr.at 26,hv.at 31]) (λ_=>k_) k_
 have hz:=hz rfl rfl rfl;cases t4
 ·exact absurd ⟨rfl,rfl,rfl,rfl⟩ SR
 ·unfold gh at *;exact iL mixed func3 aC 400 (N:=138) k_ (λw=>SJ sV h [hr.at 26,hv.at 31,hz.at 36]) (λ_=>k_) k_
end
section
variable{ps:c_}{c d:V3 K}{lo hi:K}{m n:Nat}
theorem aWl(ps:c_)(d:V3 K):([qG ps,.p (bE d)].all aQ.ok)=true:=by simp only[eA,e8,SE,kp,iz];rfl
theorem aWm(sV:cx prog 4 [] b_)(Zd:cx prog 5 [qG ps,.p (vI 8)] b_)(hr:aH prog 6 [bE d,vI 4] b_)(hv:aH prog 7 [bE d] b_)(hz:aH prog 8 [bE d] a_)
  (hc:cx prog 9 [qG ps] (.tuple #[bE c,gT 0])) (hx:cx prog 10 [qG ps,.p (bE d)] (.tuple #[bH lo,bH hi,gT 0])) (hn:aH prog 11 [bE d] (bE (-d)))
  (hy:cx prog 10 [qG ps,.p (bE (-d))] (.tuple #[bH (-hi),bH (-lo),gT 0])) (cy:cx prog 12 [qG ps,.p (bE c)] (.int .i64 (-1)))
  (n1:aH prog 13 [bH hi] (bH (-hi))) (n2:aH prog 13 [bH lo] (bH (-lo))) (Fk:Sz n lo) (sh:Sz n hi) (hnl:n<=aF)
  (vK:∀ Bs,ah prog Bs 138 (.block 0 (ai Tryz.f3 0)) (HR (bh ps).length 0 false false) (xJ (bh ps) c d lo hi) 10 ⟨.normal,[(3,aV 4),(5,aV 5),(7,aV 6),(8,aV 7),(13,.bool true),(14,.bool true)],xJ (bh ps) c d lo hi,10⟩)
  (hd:aH prog 14 [bE c,bE d] (bH (dot c d))) (c1:aH prog 15 [bH lo,bH (dot c d)] (.int .i64 (-1))) (c2:aH prog 15 [bH (dot c d),bH hi] (.int .i64 (-1))) :
  cx prog 3 [qG ps,.p (bE d)] b_:=by
 have aC:=aWl ps d;have k1:=tJ Fk.neg hnl;have k2:=tJ sh.neg hnl;generalize dot c d=x at *;exact iL mixed func3 aC 400 (N:=138) k_ (λw=>[
  .step 19 (az Tryz.f3 19) [.func (.func 4) #[] #[]] [] b_ [] (dJ sV .nil (x:=.func 4) k_ k_ rfl),
  .step 22 (az Tryz.f3 22) [.func (.func 5) #[] #[],wA ps.length (bh ps).length,vI 8] (BH ps) b_ [] (dJ Zd (Dn (.p rfl .nil)) (x:=.func 5) k_ k_ rfl),
  hr.at 26,hv.at 31,hz.at 36,
  .step 40 (az Tryz.f3 40) [.func (.func 9) #[] #[],wA ps.length (bh ps).length] (BH ps) (.tuple #[bE c,gT 0]) [] (dJ hc (Dn .nil) (x:=.func 9) k_ k_ k_),
  .step 46 (az Tryz.f3 46) [.func (.func 10) #[] #[],wA ps.length (bh ps).length,bE d] (BH ps) (.tuple #[bH lo,bH hi,gT 0]) [] (dJ hx (Dn (.p k_ .nil)) (x:=.func 10) k_ k_ k_),
  hn.at 53,
  .step 54 (az Tryz.f3 54) [.func (.func 10) #[] #[],wA ps.length (bh ps).length,bE (-d)] (BH ps) (.tuple #[bH (-hi),bH (-lo),gT 0]) [] (dJ hy (Dn (.p k_ .nil)) (x:=.func 10) k_ k_ k_),
  .step 71 (az Tryz.f3 71) [.func (.func 12) #[] #[],wA ps.length (bh ps).length,bE c] (BH ps) (.int .i64 (-1)) [] (dJ cy (Dn (.p k_ .nil)) (x:=.func 12) k_ k_ rfl),
  n1.at 77,.step 78 (az Tryz.f3 78) [bH (-hi),bH (-hi)] [] a_ [] (Gw (neg:=false) k_ (cG (-hi)) (cG (-hi)) k2 k2 s_),
  n2.at 83,.step 84 (az Tryz.f3 84) [bH (-lo),bH (-lo)] [] a_ [] (Gw (neg:=false) k_ (cG (-lo)) (cG (-lo)) k1 k1 s_),
  .code 0 _ _ _ _ _ (vK _),hd.at 121,c1.at 129,c2.at 135]) (λ_=>k_) k_
end
section
variable{vs:e_}{d:V3 K}
theorem aWn{a b:K}:a-b=-(-a - -b):=iR a b (λa b=>a-b) (λa b=>-(-a - -b)) d_
theorem SL:∀ i,qH d vs i=-j9 (-d) vs i
 |0=>CR.neg_zero.symm
 |i+1=>by
  have ih:=SL i;unfold qH j9;rw[V3.pO];by_cases h0:i=0
  ·rw[aA h0,aA h0,CR.neg_neg]
  ·rw[au h0,au h0,ih];generalize j9 (-d) vs i=a;generalize dot (af vs i) d=x;have e:OF.aE (x - -a)=-OF.aE (-x-a):=by rw[aWn,CR.neg_neg,pI]
   rw[e];by_cases h:OF.aE (-x-a)<0
   ·rw[aA (aJ h),aA (aJ o_),CR.neg_neg]
   ·rw[au (by rw[uV];omega),au (by rw[uV];exact h)]
theorem Ze:∀ i,i<=vs.length->(∀ j,j<i->j9 d vs i<=dot (af vs j) d)/\(i≠0->∃ j,j<i/\dot (af vs j) d=j9 d vs i)
 |0,_=>⟨λ_ h=>absurd h (Nat.not_lt_zero _),λh=>absurd rfl h⟩
 |i+1,hi=>by
  obtain⟨h1,h2⟩:=Ze i o_;unfold j9;by_cases h0:i=0
  ·subst h0;rw[aA rfl];refine⟨λj hj=>?_,λ_=>⟨0,by omega,rfl⟩⟩;obtain rfl:j=0:=by omega
   exact OF.le_refl _
  ·rw[au h0];by_cases h:OF.aE (dot (af vs i) d-j9 d vs i)<0
   ·rw[aA (aJ h)];have ao:dot (af vs i) d<j9 d vs i:=by rw[lt_def,AA];rcases OF.iJ (dot (af vs i) d-j9 d vs i)with h|h|h<;>omega
    refine⟨λj hj=>?_,λ_=>⟨i,by omega,rfl⟩⟩;by_cases mJ:j=i
    ·subst mJ;exact OF.le_refl _
    ·exact OF.le_trans (OF.le_of_lt ao) (h1 j o_)
   ·rw[au (by rw[uV];exact h)];have hle:j9 d vs i<=dot (af vs i) d:=by rw[le_def];omega
    refine⟨λj hj=>?_,λ_=>?_⟩
    ·by_cases mJ:j=i
     ·subst mJ;exact hle
     ·exact h1 j o_
    ·obtain⟨j,hj,e⟩:=h2 h0;exact⟨j,by omega,e⟩
theorem aWo(hl:0<vs.length):(∀ j,j<vs.length->dot (af vs j) d<=qH d vs vs.length)/\∃ j,j<vs.length/\dot (af vs j) d=qH d vs vs.length:=by
 rw[SL];obtain⟨h1,h2⟩:=Ze (vs:=vs) (d:=-d) vs.length (bF _);obtain⟨j,hj,e⟩:=h2 o_;refine⟨λj hj=>?_,j,hj,?_⟩
 ·have:=h1 j hj;rw[V3.pO]at this;rw[le_def]at *;rwa[show -j9 (-d) vs vs.length-dot (af vs j) d=-dot (af vs j) d-j9 (-d) vs vs.length from iR _ _ (λa b=>-a-b) (λa b=>-b-a) d_]
 ·rw[<-e,V3.pO,CR.neg_neg]
def NN(d:V3 K)(vs:e_)(z:K):Nat->Bool
 |0=>false
 |i+1=>NN d vs z i||decide (dot (af vs i) d=z)
theorem Zf{z:K}{j:Nat}(e:dot (af vs j) d=z):∀ n,j<n->NN d vs z n=true
 |0,h=>absurd h (Nat.not_lt_zero _)
 |n+1,h=>by
  unfold NN;by_cases hj:j=n
  ·subst hj;rw[aJ e,Bool.or_true]
  ·rw[Zf e n o_,FI]
end
section
variable{ps:c_}{d:V3 K}
theorem aIk{a b:K}(h:a<b):OF.aE (a-b)=-1:=by rw[AA,lt_def]at *;omega
theorem aWp(h:gp ps)(sV:cx prog 4 [] b_)(Zd:cx prog 5 [qG ps,.p (vI 8)] b_)(hr:aH prog 6 [bE d,vI 4] b_)(hv:aH prog 7 [bE d] b_)(hz:aH prog 8 [bE d] a_)
  (sd:aD 32 d) (hd:d≠0):cx prog 3 [qG ps,.p (bE d)] b_:=by
 have hl:=h.some;have SH:=h.SDq;have sv:=h.aH9;have hvl:=aHC (np:=ps.length) (xp:=bf ps) h.loops (dp ps) jt h.Y7 d_;rw[h.Y6]at hvl;have hc:=aWa (np:=ps.length) (xp:=bf ps) h.loops (dp ps) jt h.valid hvl (OF.ne_of_gt SH) sv d_ (h.aIg.mono d_);have hx:=aIc h hl sd hd d_;have e7:-d≠0:=λe=>hd (V3.neg_eq_zero.1 e);have hy:=aIc h hl sd.neg e7 d_;have eh:qH d (bh ps) (bh ps).length=-j9 (-d) (bh ps) (bh ps).length:=SL _;have el:qH (-d) (bh ps) (bh ps).length=-j9 d (bh ps) (bh ps).length:=by rw[SL,V3.neg_neg]
 rw[el,show j9 (-d) (bh ps) (bh ps).length=-qH d (bh ps) (bh ps).length by rw[eh,CR.neg_neg]]at hy;have hn:=aXx sd d_;obtain⟨l1,l2⟩:=Ze (vs:=bh ps) (d:=d) (bh ps).length (bF _);obtain⟨jl,E8,ejl⟩:=l2 o_;obtain⟨m1,jm,WV,ejm⟩:=aWo (vs:=bh ps) (d:=d) hl;obtain⟨s1,s2⟩:=Y8 (q:=4000) (m:=32) h.Fj.1 sd (bh ps).length (bF _) o_;have bo:∀ v∈bh ps,j9 d (bh ps) (bh ps).length<=dot v d/\dot v d<=qH d (bh ps) (bh ps).length:=λv hv=>by obtain⟨j,hj,rfl⟩:=Yv hv;exact⟨l1 j hj,m1 j hj⟩
 have mK:dot (zM ps) d<qH d (bh ps) (bh ps).length:=by rw[V3.su];exact h.before hd λv hv=>by rw[V3.su];exact(bo v hv).2
 have gy:j9 d (bh ps) (bh ps).length<dot (zM ps) d:=by
  have:=h.before (m:=-d) (d:=-j9 d (bh ps) (bh ps).length) e7 λv hv=>by rw[V3.vY,V3.su];have:=(bo v hv).1;rw[le_def]at *;rwa[show -j9 d (bh ps) (bh ps).length - -dot v d=dot v d-j9 d (bh ps) (bh ps).length from iR _ _ (λa b=>-a - -b) (λa b=>b-a) d_]
  rw[V3.vY,V3.su]at this;rw[lt_def]at *;rwa[show -j9 d (bh ps) (bh ps).length - -dot (zM ps) d=dot (zM ps) d-j9 d (bh ps) (bh ps).length from iR _ _ (λa b=>-a - -b) (λa b=>b-a) d_]at this
 have sc:aD 6300000100 (zM ps):=(h.aIg.smul (Sz.div (OF.ne_of_gt SH) (EB (p:=1) (q:=24) (n:=5) d_ d_ d_) sv)).mono d_;have cy:=aUB (n2:=(bh ps).length) (x2:=aP (bh ps)) (F:=jC (lD ps)) (m:=24) (n:=6300000100) (v:=zM ps) (dR _) rfl h.sz sc d_ (by have:=h.len;omega);rw[aIi h.aWd]at cy;have hdc:=aYl sc sd d_;have sx:=sc.dot sd;have c1:=aYn s1 sx d_;rw[aIk gy]at c1;have c2:=aYn sx s2 d_;rw[aIk mK]at c2;have vK:=λBs=>aWj (Bs:=Bs) (c:=zM ps) (z1:=NN d (bh ps) (j9 d (bh ps) (bh ps).length)) (z2:=NN d (bh ps) (qH d (bh ps) (bh ps).length)) h.Fj.1 sd d_ (by have:=h.Fj.2;omega) s1 s2 d_ bo ⟨rfl,rfl⟩ (λi _=>⟨rfl,rfl⟩);rw[Zf ejl _ E8,Zf ejm _ WV]at vK;exact aWm sV Zd hr hv hz hc hx hn hy cy (aX4 s2 d_) (aX4 s1 d_) s1 s2 d_ vK hdc c1 c2
end
section
variable{rs:List RP}{vs:List RV}{fs:f_}{r:RV}
theorem aWq(sV:cx prog 4 [] b_)(J7:rs.length<9223372036854775807)(jh:vs.length<9223372036854775807)(rK:fs.length<9223372036854775807):cx prog 3 [gh rs vs fs,.p r.v] b_:=by
 have hr:=Rt r 4;rcases aWe (n:=8) d_ J7 jh rK with h|⟨ps,h,h8,rfl,rfl,rfl,HP⟩
 ·exact SK (t1:=false) (t3:=false) (t4:=false) sV h hr n_ n_ (λh=>by cases h.1)
 by_cases hw:pR r 4=true;rotate_left
 ·have hw:pR r 4=false:=by simpa using hw
  rw[hw]at hr;exact SK (t3:=false) (t4:=false) sV HP hr n_ n_ (λh=>by cases h.2.1)
 have sz:=aE6 (n:=32) hw d_;rw[hw]at hr;have hv:=aXP sz d_;by_cases hb:xx r=true;rotate_left
 ·have hb:xx r=false:=by simpa using hb
  rw[hb]at hv;exact SK (t4:=false) sV HP hr (λ_ _=>hv) n_ (λh=>by cases h.2.2.1)
 rw[hb]at hv;have sd:=XM hb sz;have er:=XL hb;generalize vZ r=d at *;subst er;have hz:=aYf sd d_;by_cases h0:d=0
 ·rw[aJ h0]at hz;exact SK sV HP hr (λ_ _=>hv) (λ_ _ _=>hz) (λh=>by cases h.2.2.2)
 rw[aY h0]at hz;rw[aWg]at HP ⊢;exact cx.aUV (aWp h sV (cx.X7 HP (zu.full _).G) hr hv hz sd h0) (aUU ps)
end
end
theorem aWr:aH prog 55 [vI 0] (.string (ByteArray.mk #[])):=bI func55 (λ_=>[])
section
variable{Bs:aa}{N:Nat}
noncomputable def BJ(a n':Nat)(ha:a<bz)(hn:nd bz a=n'):aZ prog Bs N:=
 .step 43 (az f54 43) [.func (.func 107) #[] #[],sl 2 1] [(2,some (.row [vI a] 3 1))] (sl 2 n') [] (hn▸aDQ (y:=.func 107) (n:=1) (a:=a) (k:=2) (off:=0) (x:=.row [vI a] 3 1) k_ rfl rfl (by rw[C9 ha];rfl) (by rw[Cg];exact ha) d_ (λ_=>.inr trivial))
noncomputable def BK(m q:Nat):List (aZ prog Bs N):=[.ix f54 32 2 1 0 d_ k_,.ld f54 33 3 2 0 (.row [vI m] 3 1) (vI m) rfl k_ k_,.ix f54 39 2 1 0 d_ k_,.st f54 100039 3 2 0 (.row [vI m] 3 1) (vI q) (.row [vI q] 3 1) rfl k_ rfl k_]
end
noncomputable def SM(m:Nat)(dg:mz prog 100 [.p (oX m)] 3 1 1 [vI m])(more:bN prog Bs N):bN prog Bs N:=
 (aX7 false (m:=m) n_).at 9::.rw 14 (.bool ((BA (cO m)).toList==(ByteArray.mk #[]).toList)) (.bool (decide (m=0))) (by rw[qZ])::
  .step 17 (az f54 17) [.func (.func 100) #[] #[],oX m] [(2,none)] (sl 2 1) [(2,.row [vI m] 3 1)] (sn dg (.p rfl .nil) (x:=.func 100) k_ k_ rfl 2)::more
theorem aWs:aH prog 54 [bd 25] (.string (ByteArray.mk #[50,53])):=by
 have hd:nd bz 25=1:=wB d_ d_;have hc:cK 25=[vI 25]:=by unfold cK;rw[hd,C9 d_];rfl
 have dg:=Jy (m:=25) (by rw[show nd 256 25=1 from by kernel_rfl];decide);rw[hd,hc]at dg;exact fk mixed func54 200 (λ_=>SM 25 dg (BK 25 2++[BJ 2 1 d_ (wB d_ d_)]++BK 2 0++[BJ 0 0 d_ oV])) (λ_=>k_) k_ k_
theorem aWt:aH prog 54 [bd 88] (.string (ByteArray.mk #[56,56])):=by
 have hd:nd bz 88=1:=wB d_ d_;have hc:cK 88=[vI 88]:=by unfold cK;rw[hd,C9 d_];rfl
 have dg:=Jy (m:=88) (by rw[show nd 256 88=1 from by kernel_rfl];decide);rw[hd,hc]at dg;exact fk mixed func54 200 (λ_=>SM 88 dg (BK 88 8++[BJ 8 1 d_ (wB d_ d_)]++BK 8 0++[BJ 0 0 d_ oV])) (λ_=>k_) k_ k_
theorem aWu:aH prog 54 [bd 625] (.string (ByteArray.mk #[54,50,53])):=by
 have hd:nd bz 625=1:=wB d_ d_;have hc:cK 625=[vI 625]:=by unfold cK;rw[hd,C9 d_];rfl
 have dg:=Jy (m:=625) (by rw[show nd 256 625=2 from by kernel_rfl];decide);rw[hd,hc]at dg;exact fk mixed func54 200 (λ_=>SM 625 dg (BK 625 62++[BJ 62 1 d_ (wB d_ d_)]++BK 62 6++[BJ 6 1 d_ (wB d_ d_)]++BK 6 0++[BJ 0 0 d_ oV])) (λ_=>k_) k_ k_
theorem aWv:aH prog 54 [bd 704] (.string (ByteArray.mk #[55,48,52])):=by
 have hd:nd bz 704=1:=wB d_ d_;have hc:cK 704=[vI 704]:=by unfold cK;rw[hd,C9 d_];rfl
 have dg:=Jy (m:=704) (by rw[show nd 256 704=2 from by kernel_rfl];decide);rw[hd,hc]at dg;exact fk mixed func54 200 (λ_=>SM 704 dg (BK 704 70++[BJ 70 1 d_ (wB d_ d_)]++BK 70 7++[BJ 7 1 d_ (wB d_ d_)]++BK 7 0++[BJ 0 0 d_ oV])) (λ_=>k_) k_ k_
section
open CR OF
open V3 (dot ag aN smul)
section
variable{m n:Nat}{a b c:ByteArray}
def zQ(m n:Nat):Value:=iK ⟨(m:Int),0,0,0,(n:Int)⟩
theorem Zg:aH prog 50 [bd 0] (.int .i64 0):=aXt 0
theorem aIl{x y:Int}(h1:x.natAbs<2^k)(h2:y.natAbs<2^k)(hk:k<=aF)(bB:x≠y)(ho:Gk o=some (false,28)):cI prog Bs o [bd x,bd y] [] b_ []:=by
 have:=CE (Bs:=Bs) (neg:=false) ho (bT x) (bT y) (uP h1 hk) (uP h2 hk) (b:=true) (by simp;exact λh=>bB (yA h))
 exact this
noncomputable def pfS(hv:aH prog 25 [zQ m n] b_)(hs:aH prog 50 [bd m] (.int .i64 1))(hg:aH prog 51 [bd m,bd n] (bd 1))(cd:aH prog 53 [bd m] (bd m))
  (o1:aH prog 52 [bd m,bd 1] (bd m)) (o2:aH prog 52 [bd n,bd 1] (bd n)) (h1:aH prog 49 [.int .i64 1] (bd 1)) (pm:aH prog 54 [bd m] (.string a)) (pn:aH prog 54 [bd n] (.string b))
  (bB:cI prog Bs (az Tryz.f21 66) [bd n,bd 1] [] b_ []):bN prog Bs N:=
 [hv.at 11,hs.at 22,hg.at 27,cd.at 29,o1.at 31,o2.at 35,hs.at 38,h1.at 47,pm.at 62,.step 66 (az Tryz.f21 66) [bd n,bd 1] [] b_ [] bB,pn.at 69,aWr.at 74,Zg.at 22,Zg.at 22,Zg.at 22]
end
theorem aWw:aH prog 21 [zQ 704 25] (.string (ByteArray.mk #[55,48,52,47,50,53])):=by have hv:aH prog 25 [zQ 704 25] b_:=aXz (n:=10) (f:=⟨704,0,0,0,25⟩) ⟨by decide,by decide⟩ ⟨by decide,by decide,by decide,by decide,by decide⟩ d_;have hg:aH prog 51 [bd (704:Nat),bd (25:Nat)] (bd 1):=aYk (p:=10) (q:=10) d_ d_ d_ d_;have o1:aH prog 52 [bd (704:Nat),bd 1] (bd (704:Nat)):=aXU (n:=10) d_ d_ d_ d_;have o2:aH prog 52 [bd (25:Nat),bd 1] (bd (25:Nat)):=aXU (n:=10) d_ d_ d_ d_;exact fk mixed func21 300 (λ_=>pfS hv (aXt 704) hg (W6 704) o1 o2 (aXK (z:=1) d_ d_) aWv aWs (aIl (k:=10) d_ d_ d_ d_ k_)) (λ_=>k_) k_ k_
theorem aWx:aH prog 21 [zQ 88 625] (.string (ByteArray.mk #[56,56,47,54,50,53])):=by have hv:aH prog 25 [zQ 88 625] b_:=aXz (n:=10) (f:=⟨88,0,0,0,625⟩) ⟨by decide,by decide⟩ ⟨by decide,by decide,by decide,by decide,by decide⟩ d_;have hg:aH prog 51 [bd (88:Nat),bd (625:Nat)] (bd 1):=aYk (p:=10) (q:=10) d_ d_ d_ d_;have o1:aH prog 52 [bd (88:Nat),bd 1] (bd (88:Nat)):=aXU (n:=10) d_ d_ d_ d_;have o2:aH prog 52 [bd (625:Nat),bd 1] (bd (625:Nat)):=aXU (n:=10) d_ d_ d_ d_;exact fk mixed func21 300 (λ_=>pfS hv (aXt 88) hg (W6 88) o1 o2 (aXK (z:=1) d_ d_) aWt aWu (aIl (k:=10) d_ d_ d_ d_ k_)) (λ_=>k_) k_ k_
theorem aIm:gp qE:=⟨by decide,λp h=>⟨(aHh (uh _ h)).mono d_,YH (uh _ h)⟩,YJ,YI⟩
theorem aWy:uj qE=kI 8:=by unfold uj;rw[aUR];kernel_rfl
theorem aWz:kI 8*eZ ((3520:Nat):Int) 1000=eZ 704 25:=by kernel_rfl
theorem aWA:eZ 704 25*eZ 1 200=eZ 88 625:=by kernel_rfl
theorem aIn:bH (eZ 704 25)=zQ 704 25:=by rw[QM d_];kernel_rfl
theorem aWB:bH (eZ 88 625)=zQ 88 625:=by rw[QM d_];kernel_rfl
theorem aWC{F:Fact}{v:K}(hF:F.rc=false)(f1:xp.all flat=true)(f2:e6.all flat=true)(z1:np=0->xp=[])(z2:nv=0->e6=[])
  (hB:C3 prog 16 [.p (vI 1)] 73 40 np xp 33 30 nv e6 F [gT 0]) (hV:cx prog 17 [.s np xp nv e6 F] (.tuple #[bH v,gT 0])) (hW:cx prog 18 [.s np xp nv e6 F,.p (vI 3520)] (.tuple #[zQ 704 25,gT 0]))
  (hC:aH prog 19 [zQ 704 25] (.tuple #[zQ 88 625,gT 0])) (h8:aH prog 20 [.int .i64 8] (bH v)) (sv:Sz 20 v) :
  cx prog 4 [] b_:=
 iL mixed func4 rfl 300 (N:=53) k_ (λw=>[
  .step 10 (az Tryz.f4 10) [.func (.func 16) #[] #[],vI 1] [(0,none),(1,none),(2,none)] (.tuple #[.agg #[sl 0 np,sl 1 nv,cN 2],gT 0]) [(2,.fact (F.nE w.heap.size)),(1,.row e6 33 30),(0,.row xp 73 40)]
   (MA (B:=aa.at w) (S:=w.heap.size) hB (.p rfl .nil) (x:=.func 16) k_ k_ hF f1 f2 rfl (λw' hb=>Below.size hb) 0),
  .step 15 (az Tryz.f4 15) [.func (.func 17) #[] #[],.agg #[sl 0 np,sl 1 nv,cN 2]] [(0,some (.row xp 73 40)),(1,some (.row e6 33 30)),(2,some (.fact (F.nE w.heap.size)))] (.tuple #[bH v,gT 0]) []
   (dJ hV (.si (aG0 _ _) (x1:=.row xp 73 40) (x2:=.row e6 33 30) rfl f1 z1 rfl f2 z2 .nil) (x:=.func 17) k_ k_ k_),
  .step 20 (az Tryz.f4 20) [.func (.func 18) #[] #[],.agg #[sl 0 np,sl 1 nv,cN 2],vI 3520] [(0,some (.row xp 73 40)),(1,some (.row e6 33 30)),(2,some (.fact (F.nE w.heap.size)))] (.tuple #[zQ 704 25,gT 0]) []
   (dJ hW (.si (aG0 _ _) (x1:=.row xp 73 40) (x2:=.row e6 33 30) rfl f1 z1 rfl f2 z2 (.p rfl .nil)) (x:=.func 18) k_ k_ k_),
  hC.at 25,h8.at 40,.step 41 (az Tryz.f4 41) [bH v,bH v] [] b_ [] (Gw (neg:=true) k_ (cG v) (cG v) (tJ sv d_) (tJ sv d_) s_),aWw.at 45,aWx.at 50]) (λw=>k_) k_
theorem aWD:cx prog 4 [] b_:=by have hV:=aIa aIm;have hW:=aV0 aIm (d:=3520) d_ d_;rw[aWy]at hV hW;rw[aWz,aIn]at hW;have hC:=aV1 (x:=eZ 704 25) (n:=10) (EB d_ d_ d_) d_;rw[aWA,aIn,aWB]at hC;exact aWC rfl (dp _) (dR _) n_ wk aUQ hV hW hC (aXH (z:=8) d_) (mh d_ d_)
end
end Go.Proofs.YtgpahigmalfpdaaGreatDoor
