/- Ends and areas: the proof of MeasureAreasCardSaid (the law's function answers true at every solid, direction and number; theorem measureAreas_card, last part), part 1 of 7; no condition. -/
import Derived.WalkKit
import Derived.Orders
import Derived.KernelRfl
import Derived.Deep.MidRow
import Derived.Below
import Derived.OwnWalk
import Derived.OwnWalkIn
import Derived.OrdersIn
import Derived.LoopNIn
import Derived.TacticsIn
import Derived.LoopN
import Derived.DeepKeys
import Derived.RangeFuncLeaves
import Derived.RangeFuncSeq
import Derived.Lib.SliceRun
import Derived.Shelf.SlSortCmp.WholeK
import Derived.OpenShut
import Derived.ProofKit
import Derived.Carry
import Derived.ChangeOld
import Derived.Deep.DeepHandedRow
import Derived.Test.YthjhinbiabcfiaaGreatDoorProg
namespace Go.Proofs.YthjhinbiabcfiaaGreatDoor
open Go Go.RowKit Tryz
abbrev p_:=Array Value
abbrev m_:=Operand
abbrev l_:=List Nat
abbrev j_:=Program
abbrev i_:=Value
abbrev h_:=World
abbrev f_:=List (Int×List Int)
abbrev b_:=Value.bool true
abbrev a_:=Value.bool false
variable{i j size e d N cc len n2 n1 A:Nat}{w w':h_}{ty:TypeId}{fn:Func}{α β:Type}{u v' va res:i_}{P:j_}{look:Nat->Value}{Q:Ending->World->Prop}{cur:p_}
theorem k_{p:Prop}(h:p:=by kernel_rfl):p:=h
theorem o_{p:Prop}(h:p:=by omega):p:=h
theorem d_{p:Prop}(h:p:=by decide):p:=h
theorem n_{p:Prop}(h:p:=by nofun):p:=h
theorem s_{p:Prop}(h:p:=by simp):p:=h
abbrev yL:=@Go.Addr.add_mid
abbrev EF:=@Array.ext'
abbrev aBI:=@Array.foldl_toList
abbrev qg:=@Array.getD_eq_getD_getElem?
abbrev aDj:=@Array.getElem?_append_left
abbrev yQ:=@Array.getElem?_eq_getElem
abbrev YX:=@Array.getElem?_eq_none
abbrev wY:=@Array.getElem?_eq_some_iff
abbrev Ys:=@Array.getElem?_modify
abbrev Sc:=@Array.getElem?_setIfInBounds_ne
abbrev yJ:=@Array.length_toList
abbrev MU:=@Array.mem_toList_iff
abbrev zK:=@Array.toArray_toList
abbrev Il:=@Array.toList_eq_nil_iff
abbrev vF:=@Array.toList_inj
abbrev aHN:=@Array.toList_setIfInBounds
abbrev cZ:=@Bool.and_eq_true
abbrev NG:=@Bool.and_false
abbrev z7:=@Bool.and_self
abbrev gp:=@Bool.and_true
abbrev Ql:=@Bool.eq_false_iff
abbrev zg:=@Bool.false_and
abbrev Oh:=@Bool.false_bne
abbrev uR:=@Bool.false_eq_true
abbrev xf:=@Bool.false_or
abbrev PN:=@Bool.not_eq_true
abbrev yP:=@Bool.not_eq_true'
abbrev NF:=@Bool.not_false
abbrev J1:=@Bool.not_true
abbrev MY:=@Bool.or_eq_false_iff
abbrev tE:=@Bool.or_eq_true
abbrev jy:=@Bool.true_and
abbrev Oi:=@Bool.true_bne
abbrev Ha:=@Bool.true_or
abbrev jI:=@Classical.byContradiction
abbrev Fc:=@Classical.not_not
abbrev aGG:=@Go.DataW.trod_struct
abbrev RY:=@Go.RowKit.Below.heap_alloc
abbrev VX:=@Go.Sort.size_flatK
abbrev aAV:=@Int.add_mul_ediv_right
abbrev aOU:=@Int.add_mul_emod_self_left
abbrev OD:=@Int.ediv_mul_cancel
abbrev Ui:=@Int.eq_of_mul_eq_mul_right
abbrev sB:=@Int.fdiv_eq_ediv_of_nonneg
abbrev Ox:=@Int.lt_trichotomy
abbrev LN:=@Int.mul_assoc
abbrev TW:=@Int.mul_comm
abbrev Dl:=@Int.mul_ne_zero
abbrev HN:=@Int.mul_neg
abbrev Ur:=@Int.mul_pos
abbrev aBi:=@Int.natAbs_add_le
abbrev aKD:=@Int.natAbs_ediv_le_natAbs
abbrev xA:=@Int.natAbs_mul
abbrev xB:=@Int.natAbs_natCast
abbrev Kj:=@Int.natAbs_neg
abbrev vM:=@Int.natCast_add
abbrev tO:=@Int.natCast_ediv
abbrev Wi:=@Int.natCast_emod
abbrev nY:=@Int.natCast_mul
abbrev Hx:=@Int.natCast_pow
abbrev HM:=@Int.neg_mul
abbrev Kk:=@Int.neg_neg
abbrev Oj:=@Int.one_mul
abbrev Hw:=@Int.pow_nonneg
abbrev aKw:=@Int.sign_eq_neg_one_iff_neg
abbrev Fu:=@Int.sign_eq_neg_one_of_neg
abbrev aA9:=@Int.sign_eq_one_iff_pos
abbrev zu:=@Int.sign_eq_one_of_pos
abbrev aKx:=@Int.sign_eq_zero_iff_zero
abbrev A8:=@Int.tdiv_eq_ediv_of_nonneg
abbrev zk:=@Int.tmod_eq_emod_of_nonneg
abbrev dX:=@Go.IntKind.wrap_i64
abbrev nG:=@Go.IntKind.wrap_u32
abbrev j9:=@Go.IntKind.wrap_u64
abbrev aAo:=@Go.IntKind.wrap_u8
abbrev aCI:=@List.Pairwise.nil
abbrev dT:=@List.all_cons
abbrev Jd:=@List.all_eq_false
abbrev bd:=@List.all_eq_true
abbrev eC:=@List.all_nil
abbrev JI:=@List.any_eq_false
abbrev rZ:=@List.any_eq_true
abbrev EU:=@List.append_assoc
abbrev jh:=@List.append_nil
abbrev C3:=@List.cons_append
abbrev NK:=@List.drop_drop
abbrev aCO:=@List.drop_eq_getElem_cons
abbrev R0:=@List.drop_left'
abbrev mg:=@List.drop_zero
abbrev kO:=@List.eq_nil_of_length_eq_zero
abbrev xa:=@List.ext_getElem
abbrev Tu:=@List.ext_getElem?
abbrev M6:=@List.filter_cons
abbrev VE:=@List.flatMap_append
abbrev aC1:=@List.foldl_append
abbrev vH:=@List.foldl_cons
abbrev aCz:=@List.foldl_nil
abbrev T3:=@List.foldr_cons
abbrev T2:=@List.foldr_nil
abbrev EK:=@List.getD_eq_getElem?_getD
abbrev JH:=@List.getElem?_append_left
abbrev EL:=@List.getElem?_append_right
abbrev EC:=@List.getElem?_drop
abbrev aT:=@List.getElem?_eq_getElem
abbrev AM:=@List.getElem?_eq_none
abbrev aAb:=@List.getElem?_eq_none_iff
abbrev eA:=@List.getElem?_eq_some_iff
abbrev qW:=@List.getElem?_map
abbrev Yz:=@List.getElem?_of_mem
abbrev Lj:=@List.getElem?_range
abbrev uG:=@List.getElem?_take
abbrev CJ:=@List.getElem_map
abbrev cY:=@List.getElem_mem
abbrev k7:=@List.getElem_of_mem
abbrev CK:=@List.getElem_range
abbrev Hg:=@List.getElem_set
abbrev Xi:=@List.getElem_take
abbrev Po:=@List.getLast?_cons_cons
abbrev kP:=@List.length_append
abbrev oL:=@List.length_cons
abbrev vE:=@List.length_drop
abbrev dr:=@List.length_map
abbrev yY:=@List.length_range
abbrev II:=@List.length_replicate
abbrev Gw:=@List.length_reverse
abbrev Wo:=@List.length_set
abbrev PJ:=@List.length_singleton
abbrev jr:=@List.length_take
abbrev JP:=@List.mapM_cons
abbrev Ut:=@List.mapM_nil
abbrev rW:=@List.map_append
abbrev wU:=@List.map_congr_left
abbrev sk:=@List.map_cons
abbrev NX:=@List.map_nil
abbrev CI:=@List.map_take
abbrev fo:=@List.mem_append
abbrev tY:=@List.mem_append_left
abbrev vS:=@List.mem_append_right
abbrev ct:=@List.mem_cons
abbrev bH:=@List.mem_cons_of_mem
abbrev aP:=@List.mem_cons_self
abbrev aE9:=@List.mem_filter
abbrev YQ:=@List.mem_filterMap
abbrev zY:=@List.mem_flatMap
abbrev dj:=@List.mem_map
abbrev cH:=@List.mem_of_getElem?
abbrev W8:=@List.mem_of_mem_drop
abbrev Iw:=@List.mem_of_mem_take
abbrev j4:=@List.mem_range
abbrev K5:=@List.mem_reverse
abbrev Pr:=@List.mem_singleton
abbrev jG:=@List.nil_append
abbrev iX:=@List.not_mem_nil
abbrev sT:=@List.pairwise_cons
abbrev QI:=@List.pairwise_iff_getElem
abbrev aCn:=@List.pairwise_reverse
abbrev aCk:=@List.pairwise_singleton
abbrev KG:=@List.range_succ
abbrev vW:=@List.reverse_cons
abbrev aCm:=@List.reverse_eq_nil_iff
abbrev VH:=@List.set_append_right
abbrev MR:=@List.size_toArray
abbrev sY:=@List.take_add_one
abbrev aCN:=@List.take_append
abbrev LB:=@List.take_append_drop
abbrev R3:=@List.take_left
abbrev RZ:=@List.take_left'
abbrev ox:=@List.take_length
abbrev j8:=@List.take_of_length_le
abbrev MP:=@List.take_take
abbrev aAi:=@List.take_zero
abbrev uI:=@Nat.add_assoc
abbrev mR:=@Nat.add_comm
abbrev KL:=@Nat.add_le_add
abbrev Nx:=@Nat.add_le_add_left
abbrev Gy:=@Nat.add_le_add_right
abbrev Kd:=@Nat.add_mod_right
abbrev fF:=@Nat.add_mul
abbrev JV:=@Nat.add_mul_div_left
abbrev pF:=@Nat.add_mul_div_right
abbrev E5:=@Nat.add_mul_mod_self_left
abbrev C5:=@Nat.add_mul_mod_self_right
abbrev NZ:=@Nat.add_sub_cancel
abbrev Fi:=@Nat.add_sub_cancel_left
abbrev jd:=@Nat.add_zero
abbrev ND:=@Nat.and_lt_two_pow
abbrev EW:=@Nat.beq_refl
abbrev Se:=@Nat.ble_eq_true_of_le
abbrev yR:=@Nat.blt_eq
abbrev jx:=@Nat.div_add_mod
abbrev kT:=@Nat.div_div_eq_div_mul
abbrev mf:=@Nat.div_eq_of_lt
abbrev tP:=@Nat.div_le_self
abbrev iG:=@Nat.div_lt_iff_lt_mul
abbrev ZA:=@Nat.div_lt_self
abbrev C8:=@Nat.div_mul_le_self
abbrev Fe:=@Nat.div_one
abbrev N3:=@Nat.div_pos
abbrev H7:=@Nat.dvd_gcd
abbrev KD:=@Nat.dvd_of_mod_eq_zero
abbrev Dj:=@Nat.dvd_trans
abbrev RR:=@Nat.eq_of_beq_eq_true
abbrev aKC:=@Nat.eq_of_mul_eq_mul_right
abbrev nF:=@Nat.eq_zero_or_pos
abbrev HO:=@Nat.gcd_comm
abbrev Bt:=@Nat.gcd_dvd_left
abbrev Uh:=@Nat.gcd_dvd_right
abbrev aBp:=@Nat.gcd_le_left
abbrev Uw:=@Nat.gcd_zero_left
abbrev TU:=@Nat.gcd_zero_right
abbrev J7:=@Nat.le_add_right
abbrev aAh:=@Nat.le_antisymm
abbrev C7:=@Nat.le_div_iff_mul_le
abbrev VR:=@Nat.le_mul_of_pos_left
abbrev Ff:=@Nat.le_mul_of_pos_right
abbrev qc:=@Nat.le_of_ble_eq_true
abbrev vC:=@Nat.le_of_eq
abbrev jV:=@Nat.le_of_lt
abbrev O9:=@Nat.le_of_not_lt
abbrev bA:=@Nat.le_refl
abbrev yO:=@Nat.le_succ
abbrev Od:=@Nat.le_total
abbrev di:=@Nat.le_trans
abbrev aAI:=@Nat.log2_self_le
abbrev eV:=@Nat.lt_of_le_of_lt
abbrev cF:=@Nat.lt_of_lt_of_le
abbrev aJw:=@Nat.lt_of_mul_lt_mul_right
abbrev fm:=@Nat.lt_or_ge
abbrev EO:=@Nat.lt_or_gt_of_ne
abbrev Hy:=@Nat.lt_succ_self
abbrev lO:=@Nat.lt_trans
abbrev tj:=@Nat.lt_trichotomy
abbrev aEd:=@Nat.max_eq_left
abbrev aEc:=@Nat.max_eq_right
abbrev nZ:=@Nat.min_eq_left
abbrev Wl:=@Nat.min_eq_right
abbrev dU:=@Nat.mod_eq_of_lt
abbrev JW:=@Nat.mod_le
abbrev cJ:=@Nat.mod_lt
abbrev Ns:=@Nat.mod_mul
abbrev A7:=@Nat.mod_mul_right_div_self
abbrev J4:=@Nat.mod_mul_right_mod
abbrev tL:=@Nat.mod_one
abbrev Uf:=@Nat.mod_two_eq_zero_or_one
abbrev oU:=@Nat.mul_add
abbrev fU:=@Nat.mul_assoc
abbrev cP:=@Nat.mul_comm
abbrev SR:=@Nat.mul_div_cancel
abbrev aAF:=@Nat.mul_div_mul_right
abbrev xi:=@Nat.mul_le_mul
abbrev jJ:=@Nat.mul_le_mul_left
abbrev eh:=@Nat.mul_le_mul_right
abbrev mS:=@Nat.mul_left_comm
abbrev qk:=@Nat.mul_lt_mul''
abbrev aAG:=@Nat.mul_lt_mul_of_lt_of_le
abbrev ZE:=@Nat.mul_lt_mul_of_pos_left
abbrev Bh:=@Nat.mul_lt_mul_of_pos_right
abbrev KC:=@Nat.mul_mod
abbrev ZD:=@Nat.mul_mod_left
abbrev aAE:=@Nat.mul_mod_mul_right
abbrev gC:=@Nat.mul_one
abbrev rj:=@Nat.mul_pos
abbrev Bk:=@Nat.mul_right_comm
abbrev Nv:=@Nat.mul_succ
abbrev Kc:=@Nat.not_lt
abbrev ql:=@Nat.one_mul
abbrev ZN:=@Nat.or_lt_two_pow
abbrev tK:=@Nat.pos_of_ne_zero
abbrev eP:=@Nat.pow_add
abbrev aAQ:=@Nat.pow_le_pow_left
abbrev df:=@Nat.pow_le_pow_right
abbrev sD:=@Nat.pow_mul
abbrev Bb:=@Nat.pow_one
abbrev cI:=@Nat.pow_pos
abbrev dD:=@Nat.pow_succ
abbrev sC:=@Nat.pow_zero
abbrev Fv:=@Nat.sub_le
abbrev vL:=@Nat.sub_self
abbrev Hc:=@Nat.sub_zero
abbrev sA:=@Nat.succ_mul
abbrev TH:=@Nat.succ_pos
abbrev YZ:=@Nat.testBit_or
abbrev NJ:=@Nat.two_pow_add_eq_or_of_lt
abbrev ZM:=@Nat.xor_lt_two_pow
abbrev ko:=@Nat.zero_add
abbrev jH:=@Nat.zero_le
abbrev kS:=@Nat.zero_mul
abbrev mN:=@Ne.symm
abbrev MI:=@Go.Oper.semAt_eq
abbrev aGK:=@Option.bind_eq_some_iff
abbrev YS:=@Option.bind_some
abbrev aBQ:=@Option.map_none
abbrev RU:=@Option.map_some
abbrev Ul:=@Rat.divInt_add_divInt
abbrev Bu:=@Rat.divInt_eq_div
abbrev FI:=@Rat.div_def
abbrev aBa:=@Rat.div_mul_cancel
abbrev OI:=@Rat.intCast_add
abbrev Di:=@Rat.intCast_mul
abbrev aBl:=@Rat.intCast_sub
abbrev H6:=@Rat.mul_inv_cancel
abbrev Ue:=@Rat.mul_pos
abbrev aBh:=@Rat.num_divInt_den
abbrev Jx:=@Go.Sem.run_bind
abbrev NL:=@UInt8.toNat_inj
abbrev NU:=@UInt8.toNat_ofNat'
abbrev UL:=@Go.World.putObj_heap_other
abbrev rC:=@Go.World.putObj_size
abbrev rh:=@bne_iff_ne
abbrev cL:=@congrArg
abbrev pD:=@decide_eq_decide
abbrev aO:=@decide_eq_false
abbrev Z3:=@decide_eq_false_iff_not
abbrev aE:=@decide_eq_true
abbrev r6:=@decide_eq_true_eq
abbrev zW:=@decide_eq_true_iff
abbrev B7:=@getElem!_pos
abbrev YF:=@Go.grownCap_le_maxLen
abbrev uT:=@if_false
abbrev ao:=@if_neg
abbrev ax:=@if_pos
abbrev qS:=@if_true
abbrev Df:=@of_decide_eq_false
abbrev jz:=@of_decide_eq_true
abbrev iY:=@or_false
abbrev EX:=@Go.roundsIn_succ
abbrev jF:=@Go.run_underlying
abbrev MN:=@Go.size_zeroCells
abbrev aHk:=@Go.trodAll_cons_mk
abbrev JL:=@Go.wpIn_block
abbrev SC:=@Go.wpIn_loop_rounds
abbrev l9:=@Go.wpIn_seq
def lZ(a:Addr):Bool:=match a.spot with|some _=>false|none=>true
def pv:Value->Bool
 |.pointer (some a)=>lZ a
 |.slice (some a) _ _=>lZ a
 |.agg _=>false
 |.tuple _=>false
 |.func _ _ _=>false
 |_=>true
def pw:Value->Bool
 |.func _ fi ca=>fi.toList.all pv&&ca.toList.all pv
 |v=>pv v
def qR:Value->Bool
 |.agg cs=>cs.toList.all pw
 |v=>pw v
def flat:Value->Bool
 |.tuple vs=>vs.toList.all qR
 |v=>qR v
inductive bW{α β:Type}(R:α->β->Prop):List α->List β->Prop
 |nil:bW R [] []
 |cons {a b l m}:R a b->bW R l m->bW R (a::l) (b::m)
inductive pY where
 |at (b o cap:Nat)
 |nil
 |val (v:i_)
variable{m a:Nat}
abbrev Map:=Nat->Option pY
variable{ι κ ay:Map}
def Map.le(ι κ:Map):Prop:=∀ k l,ι k=some l->κ k=some l
theorem Map.le.refl(ι:Map):Map.le ι ι:=λ_ _ h=>h
theorem Map.le.trans{a b c:Map}(h:Map.le a b)(k:Map.le b c):Map.le a c:=λi l e=>k i l (h i l e)
inductive aK(ι:Map):Value->Value->Prop
 |same {v}:flat v=true->aK ι v v
 |ptr {k off b o cap}:ι k=some (.at b o cap)->aK ι (.pointer (some ⟨k,off,some 7⟩)) (.pointer (some ⟨b,o+off,none⟩))
 |slc {k off b o n c c' cap}:ι k=some (.at b o cap)->n<=c'->c+c'=cap->aK ι (.slice (some ⟨k,off,some 7⟩) n c) (.slice (some ⟨b,o+off,none⟩) n c')
 |slcN {k}:ι k=some .nil->aK ι (.slice (some ⟨k,0,some 7⟩) 0 0) (.slice none 0 0)
 |opq {k v}:ι k=some (.val v)->v.cells=#[v]->v.oneCell'=true->aK ι (.pointer (some ⟨k,0,some 9⟩)) v
 |fn {f fi j0 ca gM}:bW (aK ι) fi j0->bW (aK ι) ca gM->aK ι (.func f fi.toArray ca.toArray) (.func f j0.toArray gM.toArray)
 |agg {cs cg}:bW (aK ι) cs cg->aK ι (.agg cs.toArray) (.agg cg.toArray)
 |tup {vs cQ}:bW (aK ι) vs cQ->aK ι (.tuple vs.toArray) (.tuple cQ.toArray)
theorem bW.imp{R R':α->β->Prop}:∀{l:List α} {m:List β},bW R l m->(∀ a∈l,∀ b,R a b->R' a b)->bW R' l m
 |_,_,.nil,_=>.nil
 |_,_,.cons h t,k=>.cons (k _ (aP ..) _ h) (t.imp λa ha=>k a (bH _ ha))
variable{k b off cap:Nat}{o:Oper}{f:FuncId}
theorem bW.length{R:α->β->Prop}:∀{l:List α} {m:List β},bW R l m->l.length=m.length
 |_,_,.nil=>rfl
 |_,_,.cons _ t=>by simp[t.length]
theorem bW.get{R:α->β->Prop}:∀{l:List α} {m:List β},bW R l m->∀(i:Nat) a,l[i]?=some a->∃ b,m[i]?=some b/\R a b
 |_,_,.nil,i,a,h=>by simp at h
 |_,_,.cons h t,0,a,e=>⟨_,rfl,by simp at e;exact e▸h⟩
 |_,_,.cons _ t,i+1,a,e=>by simpa using t.get i a (by simpa using e)
theorem bW.get'{R:α->β->Prop}:∀{l:List α} {m:List β},bW R l m->∀(i:Nat) b,m[i]?=some b->∃ a,l[i]?=some a/\R a b
 |_,_,.nil,i,a,h=>by simp at h
 |_,_,.cons h t,0,a,e=>⟨_,rfl,by simp at e;exact e▸h⟩
 |_,_,.cons _ t,i+1,a,e=>by simpa using t.get' i a (by simpa using e)
theorem bW.set{R:α->β->Prop}{a:α}{b:β}(h:R a b):∀{l:List α} {m:List β},bW R l m->∀(i:Nat),bW R (l.set i a) (m.set i b)
 |_,_,.nil,i=>by simpa using .nil
 |_,_,.cons _ t,0=>.cons h t
 |_,_,.cons k t,i+1=>.cons k (t.set h i)
theorem bW.append{R:α->β->Prop}:∀{l:List α} {m:List β},bW R l m->∀{l' m'},bW R l' m'->bW R (l++l') (m++m')
 |_,_,.nil,_,_,h=>h
 |_,_,.cons k t,_,_,h=>.cons k (t.append h)
theorem bW.take{R:α->β->Prop}:∀{l:List α} {m:List β},bW R l m->∀(n:Nat),bW R (l.take n) (m.take n)
 |_,_,.nil,n=>by simpa using .nil
 |_,_,.cons k t,0=>.nil
 |_,_,.cons k t,n+1=>.cons k (t.take n)
theorem bW.drop{R:α->β->Prop}:∀{l:List α} {m:List β},bW R l m->∀(n:Nat),bW R (l.drop n) (m.drop n)
 |_,_,.nil,n=>by simpa using .nil
 |_,_,.cons k t,0=>.cons k t
 |_,_,.cons k t,n+1=>t.drop n
theorem RQ{v:i_}(h:pw v=true):flat v=true:=by cases v<;>first|exact h|(simp[pw,pv]at h)
theorem Yl{v:i_}(h:pv v=true):pw v=true:=by cases v<;>first|exact h|(simp[pv]at h)
theorem aHm{v:i_}(h:qR v=true):flat v=true:=by cases v<;>first|exact h|(simp[qR,pw,pv]at h)
theorem Ym{cs:p_}(h:flat (.agg cs)=true):∀ c∈cs.toList,flat c=true:=by simp only[flat,qR,bd]at h;exact λc hc=>RQ (h c hc)
theorem aHn{cs:p_}(h:flat (.tuple cs)=true):∀ c∈cs.toList,flat c=true:=by simp only[flat,bd]at h;exact λc hc=>aHm (h c hc)
theorem Yn{f:Fn}{fi ca:p_}(h:flat (.func f fi ca)=true):(∀ c∈fi.toList,flat c=true)/\(∀ c∈ca.toList,flat c=true):=by simp only[flat,qR,pw,cZ,bd]at h;exact⟨λc hc=>RQ (Yl (h.1 c hc)),λc hc=>RQ (Yl (h.2 c hc))⟩
abbrev ah:=List Value
variable{xs args vs ca cells' args' eT pre post:ah}
theorem kM{ι:Map}:∀{l:ah},(∀ c∈l,flat c=true)->bW (aK ι) l l
 |[],_=>.nil
 |c::l,h=>.cons (.same (h c (aP ..))) (kM λc hc=>h c (bH _ hc))
theorem aK.fk{v:i_}(h:aK ι v v')(hf:flat v=true):v'=v:=by
 suffices H:∀ v v',aK ι v v'->flat v=true->v'=v from H v v' h hf
 have hP:∀ v v',aK ι v v'->pv v=true->v'=v:=by
  intro v v' h hf;cases h with
  |same _=>rfl
  |_=>simp[pv,lZ]at hf
 have uC:∀(Q:Value->Bool),(∀ v v',aK ι v v'->Q v=true->v'=v)->∀ l l',bW (aK ι) l l'->(∀ c∈l,Q c=true)->l'=l:=by
  intro Q hQ l l' h;induction h with
  |nil=>intro _;rfl
  |cons h t ih=>
   intro hl;rw[hQ _ _ h (hl _ (aP ..)),ih λc hc=>hl c (bH _ hc)]
 have h0:∀ v v',aK ι v v'->pw v=true->v'=v:=by
  intro v v' h hf;cases h with
  |same _=>rfl
  |fn h1 h2=>
   simp only[pw,cZ,bd]at hf;rw[uC pv hP _ _ h1 hf.1,uC pv hP _ _ h2 hf.2]
  |_=>simp[pw,pv,lZ]at hf
 have h1:∀ v v',aK ι v v'->qR v=true->v'=v:=by
  intro v v' h hf;cases h with
  |same _=>rfl
  |fn a b=>exact h0 _ _ (.fn a b) hf
  |agg h1=>
   simp only[qR,bd]at hf;rw[uC pw h0 _ _ h1 hf]
  |_=>simp[qR,pw,pv,lZ]at hf
 intro v v' h hf;cases h with
 |same _=>rfl
 |fn a b=>exact h0 _ _ (.fn a b) hf
 |agg a=>exact h1 _ _ (.agg a) hf
 |tup a=>
  simp only[flat,bd]at hf;rw[uC qR h1 _ _ a hf]
 |_=>simp[flat,qR,pw,pv,lZ]at hf
theorem aK.mono(hle:Map.le ι κ){v:i_}(h:aK ι v v'):aK κ v v':=by
 apply aK.rec (motive_1:=λv v' _=>aK κ v v') (motive_2:=λl l' _=>bW (aK κ) l l') (t:=h)
 case same=>intro v h;exact .same h
 case ptr=>intro k off b o cap h;exact .ptr (hle _ _ h)
 case slc=>intro k off b o n c c' cap h h1 h2;exact .slc (hle _ _ h) h1 h2
 case slcN=>intro k h;exact .slcN (hle _ _ h)
 case opq=>intro k v h h1 h2;exact .opq (hle _ _ h) h1 h2
 case fn=>intro f fi j0 ca gM _ _ h1 h2;exact .fn h1 h2
 case agg=>intro cs cg _ h;exact .agg h
 case tup=>intro cs cg _ h;exact .tup h
 case nil=>exact .nil
 case cons=>intro a b l m _ _ h1 h2;exact .cons h1 h2
theorem nV(hle:Map.le ι κ){l l':ah}(h:bW (aK ι) l l'):bW (aK κ) l l':=h.imp λ_ _ _ h=>h.mono hle
def mI(a:Addr):Bool:=match a.spot with|some s=>Nat.beq s 7|none=>false
theorem GX{a:Addr}(h:mI a=true):a.spot=some 7:=by
 unfold mI at h;split at h
 ·rename_i s hs;rw[hs,RR h]
 ·cases h
theorem MG{a:Addr}(h:mI a=true):lZ a=false:=by unfold lZ;rw[GX h]
theorem aK.wI{a:Addr}(h:aK ι (.pointer (some a)) v')(ho:mI a=true):∃ b o cap,ι a.block=some (.at b o cap)/\v'=.pointer (some ⟨b,o+a.off,none⟩):=by
 cases h with
 |same hf=>simp[flat,qR,pw,pv,MG ho]at hf
 |ptr hb=>exact⟨_,_,_,hb,rfl⟩
 |opq _ _ _=>cases ho
theorem aK.hZ{a:Addr}{n c:Nat}(h:aK ι (.slice (some a) n c) v')(ho:mI a=true):
  (ι a.block=some .nil/\n=0/\c=0/\a.off=0/\v'=.slice none 0 0)\/∃ b o cap c',ι a.block=some (.at b o cap)/\n<=c'/\c+c'=cap/\v'=.slice (some ⟨b,o+a.off,none⟩) n c':=by
 cases h with
 |same hf=>simp[flat,qR,pw,pv,MG ho]at hf
 |slc hb h1 h2=>exact .inr ⟨_,_,_,_,hb,h1,h2,rfl⟩
 |slcN hb=>exact .inl ⟨hb,rfl,rfl,rfl,rfl⟩
theorem aK.bool{b:Bool}(h:aK ι (.bool b) v'):v'=.bool b:=h.fk rfl
theorem aK.uD{vs:p_}(h:aK ι (.tuple vs) v'):∃ cQ,v'=.tuple cQ/\bW (aK ι) vs.toList cQ.toList:=by
 cases h with
 |same hf=>exact⟨vs,rfl,kM (aHn hf)⟩
 |tup h=>exact⟨_,rfl,by simpa using h⟩
theorem aK.GY{vs:p_}(h:aK ι (.agg vs) v'):∃ cQ,v'=.agg cQ/\bW (aK ι) vs.toList cQ.toList:=by
 cases h with
 |same hf=>exact⟨vs,rfl,kM (Ym hf)⟩
 |agg h=>exact⟨_,rfl,by simpa using h⟩
theorem aK.AH{f:Fn}{fi ca:p_}(h:aK ι (.func f fi ca) v'):∃ j0 gM,v'=.func f j0 gM/\bW (aK ι) fi.toList j0.toList/\bW (aK ι) ca.toList gM.toList:=by
 cases h with
 |same hf=>exact⟨fi,ca,rfl,kM (Yn hf).1,kM (Yn hf).2⟩
 |fn h1 h2=>exact⟨_,_,rfl,by simpa using h1,by simpa using h2⟩
theorem aK.cells{ι:Map}{v v':i_}(h:aK ι v v'):bW (aK ι) v.cells.toList v'.cells.toList:=by
 cases h with
 |same hf=>
  apply kM;cases v<;>first|(intro c hc;simp[Value.cells]at hc;subst hc;exact hf)|exact Ym hf
 |ptr hb=>exact .cons (.ptr hb) .nil
 |slc hb h1 h2=>exact .cons (.slc hb h1 h2) .nil
 |slcN hb=>exact .cons (.slcN hb) .nil
 |opq hb h1 h2=>rw[h1];exact .cons (.opq hb h1 h2) .nil
 |fn a b=>exact .cons (.fn a b) .nil
 |agg h=>simpa[Value.cells]using h
 |tup h=>exact .cons (.tup h) .nil
theorem aK.Yo{v:i_}(h:aK ι v v'):v'.oneCell'=v.oneCell':=by
 cases h with
 |opq _ _ h=>rw[h];rfl
 |_=>rfl
def GZ:Value:=.tuple #[.tuple #[]]
def mJ:Value->Bool
 |.tuple vs=>match vs.toList with|[.tuple us]=>Nat.beq us.size 0|_=>false
 |_=>false
def nW(ι:Map)(v v':i_):Prop:=mJ v=true\/aK ι v v'
theorem nW.AJ{v:i_}(h:nW ι v v')(hn:mJ v=false):aK ι v v':=by
 rcases h with h|h
 ·rw[hn]at h;cases h
 ·exact h
theorem nW.mono(hle:Map.le ι κ){v:i_}(h:nW ι v v'):nW κ v v':=h.imp id (aK.mono hle)
def tz(w w':h_):Prop:=w'.os=w.os/\w.drawn<=w'.drawn
theorem tz.refl(w:h_):tz w w:=⟨rfl,bA _⟩
theorem tz.trans{a b c:h_}(h:tz b c)(k:tz a b):tz a c:=⟨h.1.trans k.1,di k.2 h.2⟩
structure Below(B:Nat)(w w':h_):Prop where
 os:tz w w'
 tape:w'.tape=w.tape
 output:w'.output=w.output
 size:w.heap.size<=w'.heap.size
 block:∀ k,k<B->w'.heap[k]?=w.heap[k]?
theorem Below.G1{B:Nat}(h:Below B w w'):Go.RowKit.Below B w w':=⟨h.os.1,h.tape,h.output,h.size,h.block⟩
theorem Below.refl(B:Nat)(w:h_):Below B w w:=⟨.refl w,rfl,rfl,bA _,λ_ _=>rfl⟩
theorem Below.cell{B:Nat}(h:Below B w w'){p:Addr}(hp:p.block<B):w'.cell? p=w.cell? p:=h.G1.cell hp
theorem Below.alloc{B:Nat}{a:h_}(h:Below B a w)(hB:B<=w.heap.size)(o:Go.Obj):Below B a (w.alloc o):=
 have k:=h.G1.alloc hB o
 ⟨⟨k.os,h.os.2⟩,k.tape,k.output,k.size,k.block⟩
structure Fact where
 G:Value->World->Prop
 cS:Value->World->Nat->Prop
 lt:∀ v w k,G v w->cS v w k->k<w.heap.size
 dep:∀ v w w',G v w->w.heap.size<=w'.heap.size->(∀ k,cS v w k->w'.heap[k]?=w.heap[k]?)->G v w'/\∀ k,cS v w' k->cS v w k
 rc:Bool:=false
 soft:rc=false->∀ v w w',G v w->w.heap.size<=w'.heap.size->(∀ k,cS v w k->∀ cs ty f,w.heap[k]?=some (Go.Obj.cells cs ty f)->w'.heap[k]?=some (Go.Obj.cells cs ty f))->G v w'/\∀ k,cS v w' k->cS v w k
structure aa where
 G:World->Prop
 cS:Nat->Prop
 ds:List Deferred:=[]
 Fa:Fact->Prop:=λ_=>False
 mp:Map:=λ_=>none
 lt:∀ w k,G w->cS k->k<w.heap.size
 dep:∀ w w',G w->tz w w'->w'.tape=w.tape->w'.output=w.output->w.heap.size<=w'.heap.size->(∀ k,cS k->w'.heap[k]?=w.heap[k]?)->G w'
variable{B Bs:aa}
def aa.at(w0:h_):aa where
 G w:=Below w0.heap.size w0 w
 cS k:=k<w0.heap.size
 lt w k h hk:=cF hk h.size
 dep w w' h h1 h2 h3 h4 h5:=⟨h1.trans h.os,h2.trans h.tape,h3.trans h.output,di h.size h4,λk hk=>(h5 k hk).trans (h.block k hk)⟩
inductive Obj where
 |aI (cells:ah) (ty:TypeId)
 |row (cells:ah) (ty:TypeId) (size:Nat)
 |view (cells:ah)
 |fact (F:Fact)
 |dead
variable{c:Nat->Option Obj}{need:List (Nat×Option Obj)}
def Obj.owns:Obj->Bool
 |.aI _ _=>true
 |.row _ _ _=>true
 |_=>false
def iM(ι:Map)(w:h_)(l:pY):Obj->Prop
 |.aI cells ty=>∃ b cg,l=.at b 0 0/\bW (aK ι) cells cg/\w.heap[b]?=some (.cells cg.toArray ty (0,0))
 |.row cells ty size=>(l=.nil/\cells=[])\/∃ b cap cur,l=.at b 0 cap/\w.heap[b]?=some (.cells cur ty (0,0))/\cap<=maxLen/\cur.size=cap*size/\bW (aK ι) cells (cur.toList.take cells.length)
 |.view cells=>(l=.nil/\cells=[])\/∃ b o cap cg,l=.at b o cap/\bW (aK ι) cells cg/\∀ j u,cg[j]?=some u->w.cell? ⟨b,o+j,none⟩=some u
 |.fact F=>∃ v,l=.val v/\F.G v w
 |.dead=>True
def Obj.jN:Obj->Bool
 |.view _=>true
 |_=>false
structure aM(B:aa)(ι:Map)(c:Nat->Option Obj)(w:h_):Prop where
 base:B.G w
 dJ:∀ k,c k=none->ι k=none
 born:∀ k x,c k=some x->∃ l,ι k=some l/\iM ι w l x
 own:∀ k x b o cap,c k=some x->x.owns=true->ι k=some (.at b o cap)->b<w.heap.size/\¬B.cS b
 inj:∀ k j x y b o cap o' bE,c k=some x->x.owns=true->c j=some y->y.owns=true->ι k=some (.at b o cap)->ι j=some (.at b o' bE)->k=j
 apart:∀ k j x F b o cap v,c k=some x->x.owns=true->ι k=some (.at b o cap)->c j=some (.fact F)->ι j=some (.val v)->¬F.cS v w b
 seen:∀ k x b o cap,c k=some x->x.jN=true->ι k=some (.at b o cap)->b<w.heap.size/\∀ j y o' bE,c j=some y->y.owns=true->ι j≠some (.at b o' bE)
 fa:∀ j F,c j=some (.fact F)->F.rc=true->B.Fa F
 one:∀ j k F F',c j=some (.fact F)->c k=some (.fact F')->F.rc=true->F'.rc=true->j=k
 rV:Map.le B.mp ι
theorem iM.mono(hle:Map.le ι κ){l:pY}{x:Obj}(h:iM ι w l x):iM κ w l x:=by
 cases x with
 |aI cells ty=>obtain⟨b,cg,h1,h2,h3⟩:=h;exact⟨b,cg,h1,nV hle h2,h3⟩
 |row cells ty size=>
  rcases h with h|⟨b,cap,cur,h1,h2,h3,h4,h5⟩
  ·exact .inl h
  ·exact .inr ⟨b,cap,cur,h1,h2,h3,h4,nV hle h5⟩
 |view cells=>
  rcases h with h|⟨b,o,cap,cg,h1,h2,h3⟩
  ·exact .inl h
  ·exact .inr ⟨b,o,cap,cg,h1,nV hle h2,h3⟩
 |fact F=>exact h
 |dead=>trivial
theorem iM.jO{l:pY}{x:Obj}(h:iM ι w l x)(hs:w.heap.size<=w'.heap.size)
  (hb:∀ b o cap,x.owns=true\/x.jN=true->l=.at b o cap->w'.heap[b]?=w.heap[b]?) (hf:∀ F v b,x=.fact F->l=.val v->F.cS v w b->w'.heap[b]?=w.heap[b]?):iM ι w' l x:=by
 cases x with
 |aI cells ty=>obtain⟨b,cg,h1,h2,h3⟩:=h;exact⟨b,cg,h1,h2,by rw[hb b 0 0 (.inl rfl) h1];exact h3⟩
 |row cells ty size=>
  rcases h with h|⟨b,cap,cur,h1,h2,h3,h4,h5⟩
  ·exact .inl h
  ·exact .inr ⟨b,cap,cur,h1,by rw[hb b 0 cap (.inl rfl) h1];exact h2,h3,h4,h5⟩
 |view cells=>
  rcases h with h|⟨b,o,cap,cg,h1,h2,h3⟩
  ·exact .inl h
  ·exact .inr ⟨b,o,cap,cg,h1,h2,λj u hj=>by rw[World.cell?_of_block (w:=w) (w':=w') (a:=⟨b,o+j,none⟩) (hb b o cap (.inr rfl) h1)];exact h3 j u hj⟩
 |fact F=>obtain⟨v,h1,h2⟩:=h;exact⟨v,h1,(F.dep v w w' h2 hs λk hk=>hf F v k rfl h1 hk).1⟩
 |dead=>trivial
theorem iM.Ey{l:pY}{F:Fact}{v:i_}(h:iM ι w l (.fact F))(hl:l=.val v)(hb:F.cS v w b):b<w.heap.size:=by obtain⟨v',h1,h2⟩:=h;rw[hl]at h1;injection h1 with h1;subst h1;exact F.lt _ w b h2 hb
theorem aM.Ez(h:aM B ι c w){F:Fact}{v:i_}(hj:c j=some (.fact F))(hv:ι j=some (.val v))(hs:w.heap.size<=w'.heap.size)
  (AK:∀ k,k<w.heap.size->F.cS v w k->w'.heap[k]?=w.heap[k]?) {b:Nat} (hF:F.cS v w' b):F.cS v w b:=by
 obtain⟨l,q1,v',q2,q3⟩:=h.born j _ hj;rw[hv]at q1;injection q1 with q1;subst q1;injection q2 with q2;subst q2;exact(F.dep v w w' q3 hs λk hk=>AK k (F.lt v w k q3 hk) hk).2 b hF
theorem aM.call(h:aM B ι c w)(hb:Below w.heap.size w w'):aM B ι c w' where
 base:=B.dep w w' h.base hb.os hb.tape hb.output hb.size λk hk=>hb.block k (B.lt w k h.base hk)
 dJ:=h.dJ
 born k x hk:=by
  obtain⟨l,h1,h2⟩:=h.born k x hk;refine⟨l,h1,h2.jO hb.size (λb o cap hx hl=>?_) λF v b hx hl hf=>?_⟩
  ·rcases hx with hx|hx
   ·exact hb.block b (h.own k x b o cap hk hx (by rw[h1,hl])).1
   ·exact hb.block b (h.seen k x b o cap hk hx (by rw[h1,hl])).1
  ·subst hx;exact hb.block b (h2.Ey hl hf)
 own k x b o cap hk hx hl:=⟨cF (h.own k x b o cap hk hx hl).1 hb.size,(h.own k x b o cap hk hx hl).2⟩
 inj:=h.inj
 apart k j x F b o cap v hk hx hl hj hv hF:=h.apart k j x F b o cap v hk hx hl hj hv (h.Ez hj hv hb.size (λk hk _=>hb.block k hk) hF)
 seen k x b o cap hk hx hl:=⟨cF (h.seen k x b o cap hk hx hl).1 hb.size,(h.seen k x b o cap hk hx hl).2⟩
 fa:=h.fa
 one:=h.one
 rV:=h.rV
def bh(c:Nat->Option Obj)(k:Nat)(x:Obj):Nat->Option Obj:=λj=>if j=k then some x else c j
def dR(ι:Map)(k:Nat)(l:pY):Map:=λj=>if j=k then some l else ι j
theorem gN{l:pY}(h:ι k=none):Map.le ι (dR ι k l):=λj m e=>by
 unfold dR;by_cases hj:j=k
 ·subst hj;rw[h]at e;cases e
 ·rw[ao hj];exact e
theorem fP(ι:Map)(k:Nat)(l:pY):dR ι k l k=some l:=by simp[dR]
theorem aM.add(h:aM B ι c w)(hk:c k=none){x:Obj}{l:pY}(hx:iM (dR ι k l) w l x)
  (eW:∀ b o cap,x.owns=true->l=.at b o cap->b<w.heap.size/\¬B.cS b/\(∀ j y o' bE,c j=some y->y.owns=true->ι j≠some (.at b o' bE))/\(∀ j F v,c j=some (.fact F)->ι j=some (.val v)->¬F.cS v w b)/\(∀ j y o' bE,c j=some y->y.jN=true->ι j≠some (.at b o' bE)))
  (EA:∀ F v b,x=.fact F->l=.val v->F.cS v w b->∀ j y o' bE,c j=some y->y.owns=true->ι j≠some (.at b o' bE))
  (aHo:∀ b o cap,x.jN=true->l=.at b o cap->b<w.heap.size/\∀ j y o' bE,c j=some y->y.owns=true->ι j≠some (.at b o' bE)) (qa:∀ F,x=.fact F->F.rc=true->(B.Fa F/\∀ j F',c j=some (.fact F')->F'.rc=false):=by intro F e;cases e):aM B (dR ι k l) (bh c k x) w:=by
 have uE:=h.dJ k hk;have hle:=gN (l:=l) uE;have c9:∀ j y,j≠k->bh c k x j=some y->c j=some y:=λj y hj e=>by unfold bh at e;rw[ao hj]at e;exact e
 have uF:∀ j m,j≠k->dR ι k l j=some m->ι j=some m:=λj m hj e=>by unfold dR at e;rw[ao hj]at e;exact e
 have new:∀ y,bh c k x k=some y->y=x:=λy e=>by unfold bh at e;rw[ax rfl]at e;injection e with e;exact e.symm
 have jC:∀ m,dR ι k l k=some m->m=l:=λm e=>by rw[fP]at e;injection e with e;exact e.symm
 refine⟨h.base,?_,?_,?_,?_,?_,?_,?_,?_,h.rV.trans hle⟩
 ·intro j hj;unfold bh at hj;unfold dR;by_cases bX:j=k
  ·rw[ax bX]at hj;cases hj
  ·rw[ao bX]at hj ⊢;exact h.dJ j hj
 ·intro j y hj;by_cases bX:j=k
  ·subst bX;rw[new y hj];exact⟨l,fP _ _ _,hx⟩
  ·obtain⟨m,h1,h2⟩:=h.born j y (c9 j y bX hj);exact⟨m,hle _ _ h1,h2.mono hle⟩
 ·intro j y b o cap hj hy hl;by_cases bX:j=k
  ·subst bX;rw[new y hj]at hy;have:=eW b o cap hy (jC _ hl).symm;exact⟨this.1,this.2.1⟩
  ·exact h.own j y b o cap (c9 j y bX hj) hy (uF _ _ bX hl)
 ·intro i j y z b o cap o' bE hi hy hj hz hl hm;by_cases e8:i=k<;>by_cases bX:j=k
  ·rw[e8,bX]
  ·exfalso;subst e8;rw[new y hi]at hy;exact(eW b o cap hy (jC _ hl).symm).2.2.1 j z o' bE (c9 j z bX hj) hz (uF _ _ bX hm)
  ·exfalso;subst bX;rw[new z hj]at hz;exact(eW b o' bE hz (jC _ hm).symm).2.2.1 i y o cap (c9 i y e8 hi) hy (uF _ _ e8 hl)
  ·exact h.inj i j y z b o cap o' bE (c9 i y e8 hi) hy (c9 j z bX hj) hz (uF _ _ e8 hl) (uF _ _ bX hm)
 ·intro i j y F b o cap v hi hy hl hj hv hF;by_cases e8:i=k<;>by_cases bX:j=k
  ·subst e8;subst bX;have e:y=.fact F:=(new y hi).trans (new _ hj).symm;rw[e]at hy;cases hy
  ·subst e8;rw[new y hi]at hy;exact(eW b o cap hy (jC _ hl).symm).2.2.2.1 j F v (c9 j _ bX hj) (uF _ _ bX hv) hF
  ·subst bX;exact EA F v b (new _ hj).symm (jC _ hv).symm hF i y o cap (c9 i y e8 hi) hy (uF _ _ e8 hl)
  ·exact h.apart i j y F b o cap v (c9 i y e8 hi) hy (uF _ _ e8 hl) (c9 j _ bX hj) (uF _ _ bX hv) hF
 ·intro j y b o cap hj hy hl;by_cases bX:j=k
  ·subst bX;rw[new y hj]at hy;obtain⟨q1,q2⟩:=aHo b o cap hy (jC _ hl).symm;refine⟨q1,λi z o' bE hi hz hm=>?_⟩;by_cases pz:i=j
   ·subst pz;rw[new z hi]at hz;cases x<;>simp[Obj.owns,Obj.jN]at hy hz
   ·exact q2 i z o' bE (c9 i z pz hi) hz (uF _ _ pz hm)
  ·obtain⟨q1,q2⟩:=h.seen j y b o cap (c9 j y bX hj) hy (uF _ _ bX hl);refine⟨q1,λi z o' bE hi hz hm=>?_⟩;by_cases e8:i=k
   ·subst e8;rw[new z hi]at hz;exact(eW b o' bE hz (jC _ hm).symm).2.2.2.2 j y o cap (c9 j y bX hj) hy (uF _ _ bX hl)
   ·exact q2 i z o' bE (c9 i z e8 hi) hz (uF _ _ e8 hm)
 ·intro j F hj;by_cases bX:j=k
  ·subst bX;exact λwJ=>(qa F (new _ hj).symm wJ).1
  ·exact h.fa j F (c9 j _ bX hj)
 ·intro i j F F' hi hj hr EB;by_cases e8:i=k<;>by_cases bX:j=k
  ·rw[e8,bX]
  ·subst e8;have:=(qa F (new _ hi).symm hr).2 j F' (c9 j _ bX hj);rw[EB]at this;cases this
  ·subst bX;have:=(qa F' (new _ hj).symm EB).2 i F (c9 i _ e8 hi);rw[hr]at this;cases this
  ·exact h.one i j F F' (c9 i _ e8 hi) (c9 j _ bX hj) hr EB
theorem aM.new(h:aM B ι c w)(hb:Below w.heap.size w w')(hk:c k=none){x:Obj}{l:pY}
  (hx:iM (dR ι k l) w' l x) (eW:∀ b o cap,x.owns=true->l=.at b o cap->w.heap.size<=b/\b<w'.heap.size)
  (EA:∀ F v b,x=.fact F->l=.val v->F.cS v w' b->w.heap.size<=b\/B.cS b) (mK:x.jN=false) (qa:∀ F,x=.fact F->F.rc=true->(B.Fa F/\∀ j F',c j=some (.fact F')->F'.rc=false):=by intro F e;cases e):aM B (dR ι k l) (bh c k x) w':=by
 refine(h.call hb).add hk hx (λb o cap Jt hl=>?_) (λF v b Yp hl hF j y o' bE hj hy he=>?_) (λb o cap hv=>by rw[mK]at hv;cases hv) qa
 ·obtain⟨h1,h2⟩:=eW b o cap Jt hl;refine⟨h2,λhF=>by have:=B.lt w b h.base hF;omega,λj y o' bE hj hy he=>?_,λj F v hj he hF=>?_,λj y o' bE hj hy he=>?_⟩
  ·have:=(h.own j y b o' bE hj hy he).1;omega
  ·have hF:=h.Ez hj he hb.size (λk hk _=>hb.block k hk) hF;obtain⟨m,q1,q2⟩:=h.born j _ hj;rw[he]at q1;injection q1 with q1;have:=q2.Ey q1.symm hF;omega
  ·have:=(h.seen j y b o' bE hj hy he).1;omega
 ·have h1:=h.own j y b o' bE hj hy he;rcases EA F v b Yp hl hF with h2|h2
  ·omega
  ·exact h1.2 h2
theorem aM.write(h:aM B ι c w){o:Nat}{x y:Obj}(hk:c k=some x)(hx:x.owns=true)(hl:ι k=some (.at b o cap))
  (hos:tz w w') (aHp:w'.tape=w.tape) (aHq:w'.output=w.output) (yI:w.heap.size<=w'.heap.size) (Ju:∀ j,j<w.heap.size->j≠b->w'.heap[j]?=w.heap[j]?)
  (hy:iM ι w' (.at b o cap) y) (Jv:∀ F,y≠.fact F) (Jw:y.jN=false):aM B ι (bh c k y) w':=by
 obtain⟨iB,Yq⟩:=h.own k x b o cap hk hx hl;have c9:∀ j z,j≠k->bh c k y j=some z->c j=some z:=λj z hj e=>by unfold bh at e;rw[ao hj]at e;exact e
 have new:∀ z,bh c k y k=some z->z=y:=λz e=>by unfold bh at e;rw[ax rfl]at e;injection e with e;exact e.symm
 refine⟨B.dep w w' h.base hos aHp aHq yI λj hj=>Ju j (B.lt w j h.base hj) λe=>Yq (e▸hj),?_,?_,?_,?_,?_,?_,?_,?_,h.rV⟩
 ·intro j hj;unfold bh at hj;by_cases bX:j=k
  ·rw[ax bX]at hj;cases hj
  ·rw[ao bX]at hj;exact h.dJ j hj
 ·intro j z hj;by_cases bX:j=k
  ·subst bX;rw[new z hj];exact⟨_,hl,hy⟩
  ·have fK:=c9 j z bX hj;obtain⟨m,h1,h2⟩:=h.born j z fK;refine⟨m,h1,h2.jO yI (λb' o' bE hz hm=>?_) λF v b' hz hm hF=>?_⟩
   ·subst hm;rcases hz with hz|hz
    ·exact Ju b' (h.own j z b' o' bE fK hz h1).1 λe=>bX (h.inj j k z x b o' bE o cap fK hz hk hx (e▸h1) hl)
    ·obtain⟨q1,q2⟩:=h.seen j z b' o' bE fK hz h1;exact Ju b' q1 λe=>q2 k x o cap hk hx (e▸hl)
   ·subst hz;subst hm;exact Ju b' (h2.Ey rfl hF) λe=>h.apart k j x F b o cap v hk hx hl fK h1 (e▸hF)
 ·intro j z b' o' bE hj hz hm;by_cases bX:j=k
  ·subst bX;rw[hl]at hm;injection hm with hm;injection hm with c7 dF vA;subst c7;exact⟨cF iB yI,Yq⟩
  ·have:=h.own j z b' o' bE (c9 j z bX hj) hz hm;exact⟨cF this.1 yI,this.2⟩
 ·intro i j z z' b' o1 lG o2 qb hi hz hj nX vB lH;by_cases e8:i=k<;>by_cases bX:j=k
  ·rw[e8,bX]
  ·subst e8;exact h.inj i j x z' b' o1 lG o2 qb hk hx (c9 j z' bX hj) nX vB lH
  ·subst bX;exact h.inj i j z x b' o1 lG o2 qb (c9 i z e8 hi) hz hk hx vB lH
  ·exact h.inj i j z z' b' o1 lG o2 qb (c9 i z e8 hi) hz (c9 j z' bX hj) nX vB lH
 ·intro i j z F b' o' bE v hi hz hm hj hv hF;by_cases bX:j=k
  ·subst bX;exact absurd (new _ hj).symm (Jv F)
  ·have fK:=c9 j _ bX hj;have hF:=h.Ez fK hv yI (λk2 gv jD=>Ju k2 gv λe=>h.apart k j x F b o cap v hk hx hl fK hv (e▸jD)) hF;by_cases e8:i=k
   ·subst e8;exact h.apart i j x F b' o' bE v hk hx hm fK hv hF
   ·exact h.apart i j z F b' o' bE v (c9 i z e8 hi) hz hm fK hv hF
 ·intro j z b' o' bE hj hz hm;by_cases bX:j=k
  ·subst bX;rw[new z hj,Jw]at hz;cases hz
  ·obtain⟨q1,q2⟩:=h.seen j z b' o' bE (c9 j z bX hj) hz hm;refine⟨cF q1 yI,λi z' o2 qb hi nX bF=>?_⟩;by_cases e8:i=k
   ·subst e8;exact q2 i x o2 qb hk hx bF
   ·exact q2 i z' o2 qb (c9 i z' e8 hi) nX bF
 ·intro j F hj;by_cases bX:j=k
  ·subst bX;exact absurd (new _ hj).symm (Jv F)
  ·exact h.fa j F (c9 j _ bX hj)
 ·intro i j F F' hi hj;by_cases e8:i=k
  ·subst e8;exact absurd (new _ hi).symm (Jv F)
  ·by_cases bX:j=k
   ·subst bX;exact absurd (new _ hj).symm (Jv F')
   ·exact h.one i j F F' (c9 i _ e8 hi) (c9 j _ bX hj)
theorem aM.kill(h:aM B ι c w)(k:Nat)(hk:c k≠none):aM B ι (bh c k .dead) w:=by
 have c9:∀ j z,j≠k->bh c k .dead j=some z->c j=some z:=λj z hj e=>by unfold bh at e;rw[ao hj]at e;exact e
 have new:∀ z,bh c k .dead k=some z->z=.dead:=λz e=>by unfold bh at e;rw[ax rfl]at e;injection e with e;exact e.symm
 refine⟨h.base,?_,?_,?_,?_,?_,?_,?_,?_,h.rV⟩
 ·intro j hj;unfold bh at hj;by_cases bX:j=k
  ·rw[ax bX]at hj;cases hj
  ·rw[ao bX]at hj;exact h.dJ j hj
 ·intro j z hj;by_cases bX:j=k
  ·subst bX;rw[new z hj];cases hc:c j with
   |none=>exact absurd hc hk
   |some x=>obtain⟨l,h1,_⟩:=h.born j x hc;exact⟨l,h1,trivial⟩
  ·exact h.born j z (c9 j z bX hj)
 ·intro j z b o cap hj hz;by_cases bX:j=k
  ·subst bX;rw[new z hj]at hz;cases hz
  ·exact h.own j z b o cap (c9 j z bX hj) hz
 ·intro i j z z' b o1 c1 o2 c2 hi hz hj nX;by_cases e8:i=k
  ·subst e8;rw[new z hi]at hz;cases hz
  ·by_cases bX:j=k
   ·subst bX;rw[new z' hj]at nX;cases nX
   ·exact h.inj i j z z' b o1 c1 o2 c2 (c9 i z e8 hi) hz (c9 j z' bX hj) nX
 ·intro i j z F b o cap v hi hz hl hj;by_cases e8:i=k
  ·subst e8;rw[new z hi]at hz;cases hz
  ·by_cases bX:j=k
   ·subst bX;cases new _ hj
   ·exact h.apart i j z F b o cap v (c9 i z e8 hi) hz hl (c9 j _ bX hj)
 ·intro j z b o cap hj hz;by_cases bX:j=k
  ·subst bX;rw[new z hj]at hz;cases hz
  ·intro hl;obtain⟨q1,q2⟩:=h.seen j z b o cap (c9 j z bX hj) hz hl;refine⟨q1,λi z' o' bE hi nX hm=>?_⟩;by_cases e8:i=k
   ·subst e8;rw[new z' hi]at nX;cases nX
   ·exact q2 i z' o' bE (c9 i z' e8 hi) nX hm
 ·intro j F hj;by_cases bX:j=k
  ·subst bX;cases new _ hj
  ·exact h.fa j F (c9 j _ bX hj)
 ·intro i j F F' hi hj;by_cases e8:i=k
  ·subst e8;cases new _ hi
  ·by_cases bX:j=k
   ·subst bX;cases new _ hj
   ·exact h.one i j F F' (c9 i _ e8 hi) (c9 j _ bX hj)
theorem aM.ext{c':Nat->Option Obj}(h:aM B ι c w)(e:∀ k,c' k=c k):aM B ι c' w:=by have:c'=c:=funext e;rw[this];exact h
theorem aM.drew(h:aM B ι c w)(n:Nat)(hn:w.drawn<=n):aM B ι c { w with drawn:=n }:=
 h.call ⟨⟨rfl,hn⟩,rfl,rfl,bA _,λ_ _=>rfl⟩
def jc:ah->Nat->ah->ah
 |l,_,[]=>l
 |l,o,v::r=>jc (l.set o v) (o+1) r
theorem RS:∀(vs l:ah) (o:Nat),(jc l o vs).length=l.length
 |[],_,_=>rfl
 |v::r,l,o=>by rw[jc,RS r];simp
theorem bW.jc{ι:Map}:∀{vs cQ:ah},bW (aK ι) vs cQ->∀{l l':ah},bW (aK ι) l l'->∀ o,bW (aK ι) (jc l o vs) (jc l' o cQ)
 |_,_,.nil,_,_,h,_=>h
 |_,_,.cons hv hr,_,_,h,o=>hr.jc (h.set hv o) (o+1)
theorem Yr:∀(vs l:ah) (o n:Nat),o+vs.length<=n->(jc l o vs).take n=jc (l.take n) o vs
 |[],_,_,_,_=>rfl
 |v::r,l,o,n,h=>by simp only[oL]at h;rw[jc,jc,Yr r (l.set o v) (o+1) n o_,List.take_set]
theorem RT(b:Nat)(ty:TypeId)(fr:Nat×Nat):∀(vs cs:ah) (o:Nat) (w:h_),w.heap[b]?=some (.cells cs.toArray ty fr)->
  (w.setCells b o vs).heap[b]?=some (.cells (jc cs o vs).toArray ty fr)/\(∀ k,k≠b->(w.setCells b o vs).heap[k]?=w.heap[k]?)/\(w.setCells b o vs).heap.size=w.heap.size/\
   tz w (w.setCells b o vs)/\(w.setCells b o vs).tape=w.tape/\(w.setCells b o vs).output=w.output
 |[],cs,o,w,h=>⟨h,λ_ _=>rfl,rfl,.refl w,rfl,rfl⟩
 |v::r,cs,o,w,h=>by
  have h1:(w.setCell ⟨b,o,none⟩ v).heap[b]?=some (.cells (cs.set o v).toArray ty fr):=by simp only[World.setCell,Ys,qS,h,RU];simp
  obtain⟨a1,a2,a3,a4,a5,a6⟩:=RT b ty fr r (cs.set o v) (o+1) _ h1;refine⟨a1,λk hk=>?_,?_,a4,a5,a6⟩
  ·rw[World.setCells,a2 k hk,Go.RowKit.Below.heap_setCell _ _ _ _ hk]
  ·rw[World.setCells,a3];simp[World.setCell]
def Obj.cells:Obj->ah
 |.aI cs _=>cs
 |.row cs _ _=>cs
 |.view cs=>cs
 |_=>[]
def Obj.MH:Obj->ah->Obj
 |.aI _ ty,cs=>.aI cs ty
 |.row _ ty s,cs=>.row cs ty s
 |x,_=>x
def Obj.reads(x:Obj):Bool:=x.owns||x.jN
theorem iM.at{ι:Map}{w:h_}{b o cap:Nat}{x:Obj}(h:iM ι w (.at b o cap) x)(hx:x.reads=true):
  ∃ cg:ah,bW (aK ι) x.cells cg/\∀ j u,cg[j]?=some u->w.cell? ⟨b,o+j,none⟩=some u:=by
 cases x with
 |aI cells ty=>
  obtain⟨b',cg,h1,h2,h3⟩:=h;injection h1 with h1 oM Yt;subst h1;subst oM;exact⟨cg,h2,λj u hj=>by simp[World.cell?,h3,hj]⟩
 |row cells ty size=>
  rcases h with h|⟨b',bE,cur,h1,h2,h3,h4,h5⟩
  ·cases h.1
  ·injection h1 with h1 oM Yt;subst h1;subst oM;refine⟨_,h5,λj u hj=>?_⟩;rw[uG]at hj;split at hj
   ·have fK:cur[j]?=some u:=by simpa using hj
    simp[World.cell?,h2,fK]
   ·cases hj
 |view cells=>
  rcases h with h|⟨b',o',bE,cg,h1,h2,h3⟩
  ·cases h.1
  ·injection h1 with h1 oM Yt;subst h1;subst oM;exact⟨cg,h2,h3⟩
 |fact F=>cases hx
 |dead=>cases hx
theorem aM.store(h:aM B ι c w){o:Nat}{x:Obj}(hk:c k=some x)(hx:x.owns=true)(hb:ι k=some (.at b n2 cap))
  (hv:bW (aK ι) vs eT) (hle:o+vs.length<=x.cells.length) :
  n2=0/\aM B ι (bh c k (x.MH (jc x.cells o vs))) (w.setCells b o eT)/\∃(cg:ah) (ty:TypeId),w.heap[b]?=some (.cells cg.toArray ty (0,0))/\o+vs.length<=cg.length:=by
 obtain⟨l,h1,h2⟩:=h.born k x hk;rw[hb]at h1;injection h1 with h1;subst h1;cases x with
 |aI cells ty=>
  obtain⟨b',cg,q1,q2,q3⟩:=h2;injection q1 with q1 AL RW;subst q1;subst AL;subst RW;obtain⟨a1,a2,a3,a4,a5,a6⟩:=RT b ty (0,0) eT cg o w q3;exact⟨rfl,h.write hk hx hb a4 a5 a6 (vC a3.symm) (λj _ hj=>a2 j hj) ⟨b,_,rfl,hv.jc q2 o,a1⟩ n_ rfl,cg,ty,q3,by rw[<-q2.length];exact hle⟩
 |row cells ty size=>
  rcases h2 with h2|⟨b',bE,cur,q1,q2,q3,q4,q5⟩
  ·cases h2.1
  ·injection q1 with q1 AL RW;subst q1;subst AL;subst RW;obtain⟨a1,a2,a3,a4,a5,a6⟩:=RT b ty (0,0) eT cur.toList o w (by simpa using q2);have uH:o+eT.length<=cells.length:=by rw[<-hv.length];exact hle
   have ig:cells.length<=cur.toList.length:=by have:=q5.length;rw[jr]at this;omega
   refine⟨rfl,h.write hk hx hb a4 a5 a6 (vC a3.symm) (λj _ hj=>a2 j hj) (.inr ⟨b,cap,_,rfl,a1,q3,by simp[RS,q4],?_⟩) n_ rfl,cur.toList,ty,by simpa using q2,?_⟩
   ·rw[RS];show bW (aK ι) (jc cells o vs) (List.take cells.length (jc cur.toList o eT));rw[Yr _ _ _ _ uH];exact hv.jc q5 o
   ·rw[hv.length];omega
 |view cells=>cases hx
 |fact F=>cases hx
 |dead=>cases hx
abbrev aH:=List (Nat×Obj)
variable{M ms:aH}
def lI(c:Nat->Option Obj):aH->Nat->Option Obj
 |[]=>c
 |(k,x)::l=>bh (lI c l) k x
def iC(P:j_)(B:aa)(o:Oper)(eT:ah)(need:List (Nat×Option Obj))(val:i_)(cX:aH):Prop:=
 ∀(ι:Map) (c:Nat->Option Obj) (ρ:Operand->Value) (w:h_),bW (aK ι) eT (o.op.operands.toList.map ρ)->aM B ι c w->(∀ p∈need,c p.1=p.2)->
  ∃ ay v' w',Map.le ι ay/\aK ay val v'/\aM B ay (lI c cX) w'/\((execOp ρ o).run P w=.ok (.value v') w'\/(v'=undef/\(execOp ρ o).run P w=.ok .skip w'))
def FW(R:Option Nat):Fence:={ fn:=λ_=>True,depth:=none,alive:=false,round:=R }
theorem Yu{ρ:Operand->Value}{n:Next}(h:(execOp ρ o).run P w=.ok n w')(hn:∀ d,n≠.defer d):∀ c,o.op≠.defer c:=by
 intro c hc;have e:execOp ρ o=(do let d <-resolve ρ c o.type;pure (.defer d)):=by unfold execOp;rw[hc]
 rw[e,Jx]at h;cases hr:(resolve ρ c o.type).run P w with
 |ok d w1=>rw[hr]at h;injection h with h _;exact hn d h.symm
 |halt x w1=>rw[hr]at h;cases h
def cA(P:j_)(B:aa)(o:Oper)(eT:ah)(need:List (Nat×Option Obj))(val:i_)(cX:aH):Prop:=
 ∀(R:Option Nat) (ι:Map) (c:Nat->Option Obj) (a:Act) (w:h_),bW (aK ι) eT (o.op.operands.toList.map a.eval)->aM B ι c w->(∀ p∈need,c p.1=p.2)->
  ∀(K:Act->World->Prop) (Q:Exit->Act->World->Prop),(∀ ay v' w',Map.le ι ay->aK ay val v'->aM B ay (lI c cX) w'->K (a.put o.dst v') w')->o.wpIn (FW R) 0 P a w K Q
theorem iC.step{val:i_}{cX:aH}(h:iC P B o eT need val cX):cA P B o eT need val cX:=by
 intro R ι c a w hv hm hn K Q hK;refine⟨λ_ _=>trivial,?_⟩;obtain⟨ay,v',w',h1,h2,h3,h4|⟨h4,h5⟩⟩:=h ι c a.eval w hv hm hn
 ·rw[MI _ _ _ (Yu h4 n_),h4,Oper.uponIn_value];exact hK ay v' w' h1 h2 h3
 ·rw[MI _ _ _ (Yu h5 n_),h5,Oper.uponIn_skip];subst h4;exact hK ay undef w' h1 h2 h3
section
variable{P:j_}{B:aa}{o:Oper}
theorem nB{R:α->β->Prop}{a:α}{m:List β}(h:bW R [a] m):∃ b,m=[b]/\R a b:=by cases h with|cons h t=>cases t;exact⟨_,rfl,h⟩
theorem js{R:α->β->Prop}{a a2:α}{m:List β}(h:bW R [a,a2] m):∃ b b2,m=[b,b2]/\R a b/\R a2 b2:=by cases h with|cons h t=>obtain⟨b2,rfl,h2⟩:=nB t;exact⟨_,_,rfl,h,h2⟩
def dO(P:j_)(t:TypeId)(cells:ah)(off:Nat):Option Value:=
 match P.underlying t,P.info? t with
 |some d,some i=>
  if d.isRow then(if Nat.ble (off+i.size) cells.length then some (.agg ((cells.drop off).take i.size).toArray)else none)
  else cells[off]?
 |_,_=>none
def e9(P:j_)(t:TypeId)(cells:ah)(off:Nat)(v:i_):Option ah:=
 match P.info? t with
 |some i=>if Nat.beq i.size v.cells.size&&Nat.ble (off+v.cells.size) cells.length&&v.cells.toList.all (·.oneCell')then some (jc cells off v.cells.toList)else none
 |none=>none
theorem Yv(hm:aM B ι c w){x:Obj}{t:TypeId}{v:i_}
  (hk:c k=some x) (hx:x.reads=true) (hv:dO P t x.cells off=some v) (hc:aK ι (.pointer (some ⟨k,off,some 7⟩)) u) :
  ∃ v' a',u=.pointer (some a')/\aK ι v v'/\(loadVar t a').run P w=.ok v' w:=by
 obtain⟨b,o,cap,hb,he⟩:=hc.wI rfl;dsimp only at hb he;obtain⟨l,h1,h2⟩:=hm.born k x hk;rw[hb]at h1;injection h1 with h1;subst h1;obtain⟨cg,fQ,lg⟩:=h2.at hx;unfold dO at hv;split at hv
 ·rename_i d i hd hi;split at hv
  ·rename_i jE;split at hv
   ·rename_i Yw;have Yw:=qc Yw;have hlen:=fQ.length;injection hv with hv;refine⟨.agg ((cg.drop off).take i.size).toArray,⟨b,o+off,none⟩,he,by rw[<-hv];exact .agg ((fQ.drop _).take _),?_⟩;exact run_loadVar_mid (P:=P) w b (o+off) t ((cg.drop off).take i.size) d (λj u hj=>by
      rw[uG]at hj;split at hj
      ·rw[EC]at hj;rw[uI];exact lg _ _ hj
      ·cases hj) hd jE (by rw[hi];simp;omega)
   ·cases hv
  ·rename_i jE;obtain⟨u',pA,RX⟩:=fQ.get _ _ hv;refine⟨u',⟨b,o+off,none⟩,he,RX,?_⟩;have aHr:(isAgg t).run P w=.ok false w:=by unfold isAgg;rw[Jx,jF hd w];cases d<;>first|rfl|(simp[TypeDesc.isRow]at jE)
   simp[loadVar,Jx,aHr,load,Sem.run,lg _ _ pA]
 ·cases hv
theorem Yx{t:TypeId}{x:m_}(ho:o.op=.load t x){y:Obj}{v:i_}(hx:y.reads=true)(hv:dO P t y.cells off=some v):
  iC P B o [.pointer (some ⟨k,off,some 7⟩)] [(k,some y)] v []:=by
 intro ι c ρ w aQ hm hn;rw[ho]at aQ;obtain⟨u,hu,hc⟩:=nB aQ;have hu:ρ x=u:=by simpa[Op.operands]using hu
 obtain⟨v',a',e,km,qd⟩:=Yv hm (hn _ (aP ..)) hx hv hc;refine⟨ι,v',w,Map.le.refl _,km,hm,.inl ?_⟩;simp only[execOp,ho,hu,e,Instr.loadAt,Instr.sureAddr];simp[qd]
theorem Yy{t:TypeId}{x y:m_}(ho:o.op=.store t x y){z:Obj}{v:i_}{cs:ah}(hx:z.owns=true)(hv:e9 P t z.cells off v=some cs):
  iC P B o [.pointer (some ⟨k,off,some 7⟩),v] [(k,some z)] undef [(k,z.MH cs)]:=by
 intro ι c ρ w aQ hm hn;rw[ho]at aQ;obtain⟨u,u2,hu,hc,hy⟩:=js aQ;have dS:ρ x=u:=by simp[Op.operands]at hu;exact hu.1
 have eX:ρ y=u2:=by simp[Op.operands]at hu;exact hu.2
 have hk:c k=some z:=hn _ (aP ..);obtain⟨b,oo,cap,hb,he⟩:=hc.wI rfl;dsimp only at hb he;unfold e9 at hv;split at hv
 ·rename_i i hi;split at hv
  ·rename_i qe;injection hv with hv;simp only[cZ,bd]at qe;obtain⟨⟨bC,hle⟩,ED⟩:=qe;have bC:=RR bC;have hle:=qc hle;have G2:=hy.cells.length;simp only[yJ]at G2;obtain⟨h0,bT,cg,ty,l4,uH⟩:=hm.store hk hx hb hy.cells (o:=off) (by simpa using hle);subst h0;rw[ko]at he;refine⟨ι,undef,w.setCells b off u2.cells.toList,Map.le.refl _,.same rfl,by rw[<-hv];exact bT,.inr ⟨rfl,?_⟩⟩
   have run:=run_storeCells_cells (P:=P) b off u2.cells.toList 0 w
     (λj hj=>by
      simp at hj;simp only[yJ]at uH;have:j+off<cg.length:=by omega
      simp[World.cell?,l4];omega)
     (λj hj=>by simp[World.frozen?,l4])
     (λv1 kN=>by
      obtain⟨j,hj⟩:=Yz kN;have ak:j<v.cells.toList.length:=by
       have:j<u2.cells.toList.length:=by
        rcases fm j u2.cells.toList.length with h|h
        ·exact h
        ·rw[AM h]at hj;cases hj
       rw[hy.cells.length];exact this
      obtain⟨v',qT,tA⟩:=hy.cells.get j _ (aT ak);rw[hj]at qT;injection qT with qT;rw[qT,tA.Yo];exact ED _ (cY ak))
   simp only[jd]at run;simp only[execOp,ho,dS,he,eX,Instr.storeAt,Instr.sureAddr];simp[storeVar,sizeOf,typeInfo,hi,bC,<-G2,run]
  ·cases hv
 ·cases hv
theorem YA{x:m_}(ho:o.op=.move x\/o.op=.assign x){v:i_}:iC P B o [v] [] v []:=by
 intro ι c ρ w aQ hm hn;have yK:o.op.operands=#[x]:=by rcases ho with ho|ho<;>rw[ho]<;>rfl
 rw[yK]at aQ;obtain⟨u,hu,hc⟩:=nB aQ;have hu:ρ x=u:=by simpa using hu
 refine⟨ι,u,w,Map.le.refl _,hc,hm,.inl ?_⟩;rcases ho with ho|ho<;>simp[execOp,ho,hu]
theorem Jy{R:α->β->Prop}{a a2 a3:α}{m:List β}(h:bW R [a,a2,a3] m):∃ b b2 b3,m=[b,b2,b3]/\R a b/\R a2 b2/\R a3 b3:=by cases h with|cons h t=>obtain⟨b2,b3,rfl,h2,h3⟩:=js t;exact⟨_,_,_,rfl,h,h2,h3⟩
theorem aHs{x y z:m_}(ho:o.op=.pick x y z){b:Bool}{v1 v2:i_}:iC P B o [.bool b,v1,v2] [] (if b then v1 else v2) []:=by
 intro ι c ρ w aQ hm hn;rw[ho]at aQ;obtain⟨u0,u1,u2,hu,h0,h1,h2⟩:=Jy aQ;simp[Op.operands]at hu;obtain⟨e0,e1,e2⟩:=hu;have h0:=h0.bool;cases b
 ·exact⟨ι,u2,w,Map.le.refl _,h2,hm,.inl (by simp[execOp,ho,e0,e1,e2,h0,asBool])⟩
 ·exact⟨ι,u1,w,Map.le.refl _,h1,hm,.inl (by simp[execOp,ho,e0,e1,e2,h0,asBool])⟩
theorem YB(hm:aM B ι c w)(hk:c k=none)(cs cg:ah)(ty:TypeId)(hc:bW (aK ι) cs cg):
  aM B (dR ι k (.at w.heap.size 0 0)) (bh c k (.aI cs ty)) (w.alloc (.cells cg.toArray ty (0,0))):=by
 have hle:=gN (l:=.at w.heap.size 0 0) (hm.dJ k hk)
 exact hm.new (w':=w.alloc (.cells cg.toArray ty (0,0))) (x:=.aI cs ty) (l:=.at w.heap.size 0 0) ⟨⟨rfl,bA _⟩,rfl,rfl,by simp,λj hj=>RY _ _ _ hj⟩ hk
  ⟨_,cg,rfl,nV hle hc,by show(w.heap.push _)[w.heap.size]?=_;simp⟩ (λb o cap _ e=>by injection e with e1 e2;subst e1;simp) n_ rfl
theorem aHt{t:TypeId}(ho:o.op=.alloc t){i:TypeInfo}{z:i_}(hi:P.info? t=some i)(hz:i.zero=some z)(hf:flat z=true)(k:Nat):
  iC P B o [] [(k,none)] (.pointer (some ⟨k,0,some 7⟩)) [(k,.aI z.cells.toList t)]:=by
 intro ι c ρ w aQ hm hn;have hk:c k=none:=hn _ (aP ..);refine⟨_,.pointer (some ⟨w.heap.size,0,none⟩),_,gN (hm.dJ k hk),.ptr (o:=0) (off:=0) (fP _ _ _),YB hm hk z.cells.toList z.cells.toList t ((aK.same hf:aK ι z z).cells),.inl ?_⟩;simp[execOp,ho,Instr.alloc,zeroValue,typeInfo,hi,hz,newVar,newRow,newObj,Sem.run]
theorem aHu{t:TypeId}{x:m_}(ho:o.op=.box t x)(v:i_)(k:Nat):
  iC P B o [v] [(k,none)] (.pointer (some ⟨k,0,some 7⟩)) [(k,.aI v.cells.toList t)]:=by
 intro ι c ρ w aQ hm hn;have hk:c k=none:=hn _ (aP ..);rw[ho]at aQ;obtain⟨u,hu,hc⟩:=nB aQ;have hu:ρ x=u:=by simpa[Op.operands]using hu
 refine⟨_,.pointer (some ⟨w.heap.size,0,none⟩),_,gN (hm.dJ k hk),.ptr (o:=0) (off:=0) (fP _ _ _),YB hm hk v.cells.toList u.cells.toList t hc.cells,.inl ?_⟩;simp[execOp,ho,hu,Instr.box,newVar,newRow,newObj,Sem.run]
theorem aHv{s:TypeId}{x:m_}{f:Nat}(ho:o.op=.fieldAddr s x f){fs:Array Field}{fd:Field}{i:TypeInfo}(hs:P.underlying s=some (.struct fs))(vD:fs[f]?=some fd)
  (hi:P.info? fd.type=some i) (bC:1<=i.size) (k off:Nat) :
  iC P B o [.pointer (some ⟨k,off,some 7⟩)] [] (.pointer (some ⟨k,off+fd.offset,some 7⟩)) []:=by
 intro ι c ρ w aQ hm hn;rw[ho]at aQ;obtain⟨u,hu,hc⟩:=nB aQ;have hu:ρ x=u:=by simpa[Op.operands]using hu
 obtain⟨b,oo,cap,hb,he⟩:=hc.wI rfl;have bj:i.size≠0:=by omega
 refine⟨ι,.pointer (some ⟨b,oo+(off+fd.offset),none⟩),w,Map.le.refl _,.ptr hb,hm,.inl ?_⟩;simp only[execOp,ho,hu,he];simp[Instr.fieldAt,Instr.sureAddr,jF hs,vD,fieldPlace,sizeOf,typeInfo,hi,bj,yL,uI]
theorem aHw{t:TypeId}{x ix:m_}(ho:o.op=.indexAddr t x ix){e:TypeId}{i:TypeInfo}(ht:P.underlying t=some (.array len e))(hi:P.info? e=some i)
  {kd:IntKind} {n:Int} (h0:0<=n) (h1:n<len) (k off:Nat) :
  iC P B o [.pointer (some ⟨k,off,some 7⟩),.int kd n] [] (.pointer (some ⟨k,off+n.toNat*i.size,some 7⟩)) []:=by
 intro ι c ρ w aQ hm hn;rw[ho]at aQ;obtain⟨u,u2,hu,hc,hx⟩:=js aQ;have dS:ρ x=u:=by simp[Op.operands]at hu;exact hu.1
 have eX:ρ ix=u2:=by simp[Op.operands]at hu;exact hu.2
 have hx:=hx.fk rfl;obtain⟨b,oo,cap,hb,he⟩:=hc.wI rfl;refine⟨ι,.pointer (some ⟨b,oo+(off+n.toNat*i.size),none⟩),w,Map.le.refl _,.ptr hb,hm,.inl ?_⟩;simp only[execOp,ho,dS,he,eX,hx];simp[Instr.indexAt,Instr.sureAddr,asIntOf,jF ht,sizeOf,typeInfo,hi,h0,h1,yL,uI]
theorem YC{t:TypeId}{x ix:m_}(ho:o.op=.indexAddr t x ix){e:TypeId}{i:TypeInfo}(ht:P.underlying t=some (.slice e))(hi:P.info? e=some i)
  {kd:IntKind} {n:Int} {len cc:Nat} (h0:0<=n) (h1:n<len) (k off:Nat) :
  iC P B o [.slice (some ⟨k,off,some 7⟩) len cc,.int kd n] [] (.pointer (some ⟨k,off+n.toNat*i.size,some 7⟩)) []:=by
 intro ι c ρ w aQ hm hn;rw[ho]at aQ;obtain⟨u,u2,hu,hc,hx⟩:=js aQ;have dS:ρ x=u:=by simp[Op.operands]at hu;exact hu.1
 have eX:ρ ix=u2:=by simp[Op.operands]at hu;exact hu.2
 have hx:=hx.fk rfl;rcases hc.hZ rfl with ⟨_,h,_⟩|⟨b,oo,cap,c',hb,_,_,he⟩
 ·omega
 ·refine⟨ι,.pointer (some ⟨b,oo+(off+n.toNat*i.size),none⟩),w,Map.le.refl _,.ptr hb,hm,.inl ?_⟩;simp only[execOp,ho,dS,he,eX,hx];simp[Instr.indexAt,asIntOf,jF ht,sizeOf,typeInfo,hi,h0,h1,yL,uI]
theorem aHx{x:m_}(ho:o.op=.extract x i){vs:p_}{v:i_}(hv:vs[i]?=some v):iC P B o [.tuple vs] [] v []:=by
 intro ι c ρ w aQ hm hn;rw[ho]at aQ;obtain⟨u,hu,hc⟩:=nB aQ;have hu:ρ x=u:=by simpa[Op.operands]using hu
 obtain⟨cQ,he,aY⟩:=hc.uD;obtain⟨v',qT,tA⟩:=aY.get i v (by simpa using hv);refine⟨ι,v',w,Map.le.refl _,tA,hm,.inl ?_⟩;have aHy:cQ[i]?=some v':=by simpa using qT
 simp only[execOp,ho,hu,he];simp[Instr.extract,aHy]
theorem aHz{f:Fn}{fi ca:Array Operand}(ho:o.op=.makeFunc f fi ca):iC P B o vs [] (.func f (vs.take fi.size).toArray (vs.drop fi.size).toArray) []:=by intro ι c ρ w aQ hm hn;rw[ho]at aQ;simp only[Op.operands,Array.toList_append,rW]at aQ;have h1:=aQ.take fi.size;have h2:=aQ.drop fi.size;rw[RZ s_]at h1;rw[R0 s_]at h2;refine⟨ι,_,w,Map.le.refl _,.fn h1 h2,hm,.inl ?_⟩;simp[execOp,ho,Instr.makeFunc,<-Array.toList_map]
theorem aHA{t:TypeId}{x:m_}{e:TypeId}(ho:o.op=.call { callee:=.builtin .len,args:=#[x],argTypes:=#[t]})(ht:P.underlying t=some (.slice e))(k off n cc:Nat):
  iC P B o [.slice (some ⟨k,off,some 7⟩) n cc] [] (.int .i64 n) []:=by
 intro ι c ρ w aQ hm hn;rw[ho]at aQ;obtain⟨u,hu,hc⟩:=nB aQ;have hu:ρ x=u:=by simpa[Op.operands,Call.operands]using hu
 refine⟨ι,.int .i64 n,w,Map.le.refl _,.same rfl,hm,.inl ?_⟩;rcases hc.hZ rfl with ⟨_,h,_,_,he⟩|⟨b,oo,cap,c',hb,_,_,he⟩
 ·subst h;simp[execOp,ho,resolve,invoke,builtin,Builtin.len_,hu,he,jF ht,goInt]
 ·simp[execOp,ho,resolve,invoke,builtin,Builtin.len_,hu,he,jF ht,goInt]
def MJ{α:Type}(P:j_):Sem α->Option α
 |.pure a=>some a
 |.program k=>MJ P (k P)
 |.mark _ k=>MJ P k
 |_=>none
theorem R1{α:Type}{P:j_}:∀{e:Sem α} {a:α},MJ P e=some a->∀ w,e.run P w=.ok a w
 |.pure _,a,h,w=>by injection h with h;subst h;rfl
 |.program k,a,h,w=>by rw[Sem.run];exact R1 (e:=k P) h w
 |.mark _ k,a,h,w=>by rw[Sem.run];exact R1 (e:=k) h w
 |.load _ _ _,_,h,_=>by cases h
 |.store _ _ _ _,_,h,_=>by cases h
 |.new _ _,_,h,_=>by cases h
 |.shape _ _,_,h,_=>by cases h
 |.freeze _ _ _,_,h,_=>by cases h
 |.frozen _ _,_,h,_=>by cases h
 |.getObj _ _,_,h,_=>by cases h
 |.setObj _ _ _,_,h,_=>by cases h
 |.choose _ _,_,h,_=>by cases h
 |.sys _ _,_,h,_=>by cases h
 |.halt _,_,h,_=>by cases h
theorem nC{l l':ah}(h:bW (aK ι) l l')(hf:∀ v∈l,flat v=true):l'=l:=by
 induction h with
 |nil=>rfl
 |cons h t ih=>rw[h.fk (hf _ (aP ..)),ih λv hv=>hf v (bH _ hv)]
theorem Cu{val:i_}(R2:∀ v∈eT,flat v=true)(hf:flat val=true)
  (h:∀ ρ:Operand->Value,o.op.operands.toList.map ρ=eT->∀ w,B.G w->(execOp ρ o).run P w=.ok (.value val) w):iC P B o eT [] val []:=by
 intro ι c ρ w aQ hm hn;exact⟨ι,val,w,Map.le.refl _,.same hf,hm,.inl (h ρ (nC aQ R2) w hm.base)⟩
end
section
variable{P:j_}{B:aa}{o:Oper}
def bound(x:Option Operand)(n:Nat):ah:=match x with|some _=>[.int .i64 n]|none=>[]
theorem aHB{t:TypeId}{x:m_}{lo hi:Option Operand}(ho:o.op=.slice t x lo hi none){e:TypeId}{i:TypeInfo}(ht:P.underlying t=some (.slice e))(AN:P.info? e=some i)
  {k off n cc l h:Nat} (hl:lo=none->l=0) (hh:hi=none->h=n) (MK:l<=h) (YD:h<=n) (hz:l<h\/l=0) :
  iC P B o (.slice (some ⟨k,off,some 7⟩) n cc::(bound lo l++bound hi h)) [] (.slice (some ⟨k,off+l*i.size,some 7⟩) (h-l) (cc+l)) []:=by
 intro ι c ρ w aQ hm hn;rw[ho]at aQ;have hb:∀(x:Option Operand) (q:Nat),bW (aK ι) (bound x q) ((x.toArray).toList.map ρ)->∀ y,x=some y->ρ y=.int .i64 q:=by
  intro x q h y hy;subst hy;obtain⟨u,hu,hc⟩:=nB h;have hu:ρ y=u:=by simpa using hu
  rw[hu];exact hc.fk rfl
 have yK:(Op.operands (.slice t x lo hi none)).toList.map ρ=ρ x::(lo.toArray.toList.map ρ++hi.toArray.toList.map ρ):=by simp[Op.operands]
 rw[yK]at aQ;cases aQ with
 |cons hc rX=>
 have hlen:(bound lo l).length=(lo.toArray.toList.map ρ).length:=by cases lo<;>rfl
 have h1:bW (aK ι) (bound lo l) (lo.toArray.toList.map ρ):=by have:=rX.take (bound lo l).length;rwa[R3,hlen,R3]at this
 have h2:bW (aK ι) (bound hi h) (hi.toArray.toList.map ρ):=by have:=rX.drop (bound lo l).length;rwa[List.drop_left,hlen,List.drop_left]at this
 have eL:∀ y,lo=some y->ρ y=.int .i64 l:=hb lo l h1;have iD:∀ y,hi=some y->ρ y=.int .i64 h:=hb hi h h2;have tB:∀(y:Nat) (q:Nat) (code:BoundsCode),q<=y->(Instr.sliceBound (.int .i64 q) y code).run P w=.ok q w:=by intro y q code hq;have:(0:Int)<=q/\(q:Int)<=y:=⟨by omega,by omega⟩;simp[Instr.sliceBound,asIntOf,this]
 have R4:∀ cap,n<=cap->(Instr.sliceBounds true n cap (lo.map ρ) (hi.map ρ) none).run P w=.ok (l,h,cap) w:=by
  intro cap jP;cases lo with
  |none=>
   have:=hl rfl;subst this;cases hi with
   |none=>have:=hh rfl;subst this;simp[Instr.sliceBounds]
   |some y=>simp[Instr.sliceBounds,iD y rfl,tB cap h _ o_]
  |some x=>
   cases hi with
   |none=>have:=hh rfl;subst this;simp[Instr.sliceBounds,eL x rfl,tB h l _ MK]
   |some y=>simp[Instr.sliceBounds,iD y rfl,eL x rfl,tB cap h _ o_,tB h l _ MK]
 rcases hc.hZ rfl with ⟨hb,kz,qf,yM,he⟩|⟨b,oo,cap,c',hb,lJ,mL,he⟩
 ·dsimp only at yM;have hh0:h=0:=by omega
  have tC:l=0:=by omega
  subst kz;subst qf;subst yM;subst hh0;subst tC;refine⟨ι,.slice none 0 0,w,Map.le.refl _,by simpa using aK.slcN hb,hm,.inl ?_⟩;simp only[execOp,ho];simp[Instr.sliceAt,jF ht,Instr.slice,he,R4 0 (bA _),sizeOf,typeInfo,AN]
 ·refine⟨ι,.slice (some ⟨b,oo+(off+l*i.size),none⟩) (h-l) (c'-l),w,Map.le.refl _,.slc hb o_ o_,hm,.inl ?_⟩;simp only[execOp,ho];by_cases ig:c'=l
  ·have tC:l=0:=by omega
   simp[Instr.sliceAt,jF ht,Instr.slice,he,R4 c' lJ,sizeOf,typeInfo,AN,tC,yL,uI]
  ·simp[Instr.sliceAt,jF ht,Instr.slice,he,R4 c' lJ,sizeOf,typeInfo,AN,ig,yL,uI]
theorem YE{t:TypeId}{x y:m_}(ho:o.op=.makeSlice t x y){e:TypeId}{i:TypeInfo}{z:i_}(ht:P.underlying t=some (.slice e))(hi:P.info? e=some i)(hz:i.zero=some z)
  {kl kc:IntKind} {l cp:Nat} (hlc:l<=cp) (Cv:i.bytes*cp<=281474976710656) (h63:cp<=maxLen) {cells:ah} (jt:(madeCells z.cells (cp*i.size)).toList.take (l*i.size)=cells)
  (hlen:cells.length=l*i.size) (cK:∀ v∈cells,flat v=true) (k:Nat) :
  iC P B o [.int kl l,.int kc cp] [(k,none)] (.slice (some ⟨k,0,some 7⟩) l 0) [(k,.row cells e i.size)]:=by
 intro ι c ρ w aQ hm hn;have hk:c k=none:=hn _ (aP ..);rw[ho]at aQ;obtain⟨u,u2,hu,hc,hx⟩:=js aQ;have dS:ρ x=u:=by simp[Op.operands]at hu;exact hu.1
 have eX:ρ y=u2:=by simp[Op.operands]at hu;exact hu.2
 have hc:=hc.fk rfl;have hx:=hx.fk rfl;have hle:=gN (l:=.at w.heap.size 0 cp) (hm.dJ k hk);have hr:=run_make (P:=P) w t e i z ht hi hz kl kc l cp o_ o_ (by
  have h:((i.bytes*cp:Nat):Int)<=281474976710656:=by omega
  rwa[nY]at h) (by have h:=h63;simp[maxLen]at h;omega)
 simp only[Int.toNat_natCast]at hr;refine⟨dR ι k (.at w.heap.size 0 cp),.slice (some ⟨w.heap.size,0,none⟩) l cp,w.alloc (.cells (madeCells z.cells (cp*i.size)) e),hle,.slc (o:=0) (off:=0) (fP _ _ _) hlc o_,?_,.inl ?_⟩
 ·refine hm.new (w':=w.alloc (.cells (madeCells z.cells (cp*i.size)) e)) (x:=.row cells e i.size) ⟨⟨rfl,bA _⟩,rfl,rfl,by simp,λj hj=>RY _ _ _ hj⟩ hk
   (.inr ⟨w.heap.size,cp,_,rfl,by show(w.heap.push _)[w.heap.size]?=_;simp;rfl,h63,size_madeCells _ _,?_⟩) (λb o cap _ e=>by injection e with e1 e2;subst e1;simp) n_ rfl
  rw[hlen,jt];exact kM cK
 ·simp only[execOp,ho,dS,eX,hc,hx];simp[hr]
def Cw(B:aa)(sv:i_)(m:Nat)(news:ah)(need:List (Nat×Option Obj)):Prop:=
 ∀(ι:Map) (c:Nat->Option Obj) (w:h_) (u:i_),aM B ι c w->(∀ p∈need,c p.1=p.2)->aK ι sv u->
  (m=0/\news=[]/\u=.slice none 0 0)\/∃ ad c' l5,u=.slice (some ad) m c'/\bW (aK ι) news l5/\∀ j v,l5[j]?=some v->w.cell? (ad.add j)=some v
theorem ML{x:Obj}(hx:x.reads=true)(h0:m=0->len=0):Cw B (.slice (some ⟨k,off,some 7⟩) m cc) m ((x.cells.drop off).take len) [(k,some x)]:=by
 intro ι c w u hm hn hc;have hk:c k=some x:=hn _ (aP ..);rcases hc.hZ rfl with ⟨hb,kz,qf,yM,he⟩|⟨b,oo,cap,c',hb,lJ,mL,he⟩
 ·refine .inl ⟨kz,?_,he⟩;rw[h0 kz];rfl
 ·dsimp only at hb he;obtain⟨l,h1,h2⟩:=hm.born k x hk;rw[hb]at h1;injection h1 with h1;subst h1;obtain⟨cg,fQ,lg⟩:=h2.at hx;refine .inr ⟨⟨b,oo+off,none⟩,c',_,he,(fQ.drop off).take len,λj v hj=>?_⟩;rw[uG]at hj;split at hj
  ·rw[EC]at hj;rw[yL,uI];exact lg _ _ hj
  ·cases hj
theorem G3(hm:aM B ι c w)(hk:c k=none){cells:ah}{rest:p_}(hc:bW (aK ι) cells cells')
  (jP:cap<=maxLen) (bC:cells'.length+rest.size=cap*size) :
  aM B (dR ι k (.at w.heap.size 0 cap)) (bh c k (.row cells ty size)) (w.alloc (.cells (cells'.toArray++rest) ty)):=by
 have hle:=gN (l:=.at w.heap.size 0 cap) (hm.dJ k hk)
 refine hm.new (w':=w.alloc (.cells (cells'.toArray++rest) ty)) (x:=.row cells ty size) ⟨⟨rfl,bA _⟩,rfl,rfl,by simp,λj hj=>RY _ _ _ hj⟩ hk
  (.inr ⟨w.heap.size,cap,cells'.toArray++rest,rfl,by show(w.heap.push _)[w.heap.size]?=_;simp,jP,by simpa using bC,?_⟩) (λb o cap _ e=>by injection e with e1 e2;subst e1;simp) n_ rfl
 rw[hc.length,Array.toList_append];show bW _ _ (List.take cells'.length (cells'++rest.toList));rw[R3];exact nV hle hc
theorem aHC{l l':ah}(h:bW (aK ι) l l')(h1:∀ v∈l,v.oneCell'=true):∀ v∈l',v.oneCell'=true:=by intro v hv;obtain⟨j,hj⟩:=Yz hv;obtain⟨u,hu,hc⟩:=h.get' j v hj;rw[hc.Yo];exact h1 u (cH hu)
theorem aHD{s x:m_}{t:TypeId}(ho:o.op=.call { callee:=.builtin .append,args:=#[s,x],argTypes:=#[t,t]})
  {e:TypeId} {i:TypeInfo} {z:i_} (ht:P.underlying t=some (.slice e)) (hi:P.info? e=some i) (hz:i.zero=some z) (MM:z.cells.size=i.size) (bC:0<i.size)
  {sv:i_} {m:Nat} {news:ah} {need:List (Nat×Option Obj)} (yN:Cw B sv m news need) (hl:news.length=m*i.size)
  (h63:m<=maxLen) (Cv:m*i.bytes<=140737488355328) (k:Nat) :
  iC P B o [.slice none 0 0,sv] ((k,none)::need) (.slice (some ⟨k,0,some 7⟩) m 0) [(k,.row news e i.size)]:=by
 intro ι c ρ w aQ hm hn;have hk:c k=none:=hn _ (aP ..);rw[ho]at aQ;obtain⟨u,u2,hu,hc,hx⟩:=js aQ;have dS:ρ s=u:=by simp[Op.operands,Call.operands]at hu;exact hu.1
 have eX:ρ x=u2:=by simp[Op.operands,Call.operands]at hu;exact hu.2
 have hc:=hc.fk rfl;have Jz:m=0->(Builtin.append_ #[t,t] o.type #[u,u2]).run P w=.ok (.slice none 0 0) w->
   ∃ ay v' w',Map.le ι ay/\aK ay (.slice (some ⟨k,0,some 7⟩) m 0) v'/\aM B ay (lI c [(k,.row news e i.size)]) w'/\((execOp ρ o).run P w=.ok (.value v') w'\/(v'=undef/\(execOp ρ o).run P w=.ok .skip w')):=by
  intro kp hr;subst kp;have kz:news=[]:=kO (by simpa using hl);subst kz;refine⟨dR ι k .nil,.slice none 0 0,w,gN (hm.dJ k hk),.slcN (fP _ _ _),hm.add hk (.inl ⟨rfl,rfl⟩) n_ n_ n_,.inl ?_⟩;simp[execOp,ho,resolve,invoke,builtin,dS,eX,hr]
 rcases yN ι c w u2 hm (λp hp=>hn p (bH _ hp)) hx with ⟨h1,h2,h3⟩|⟨ad,c',l5,h1,h2,h3⟩
 ·refine Jz h1 ?_;rw[hc,h3];simp[Builtin.append_,jF ht,sizeOf,typeInfo,hi,Builtin.lenOf,Builtin.firstCells]
 ·have dh:l5.length=m*i.size:=by rw[<-h2.length];exact hl
  by_cases kp:m=0
  ·refine Jz kp ?_;rw[hc,h1,kp];simp[Builtin.append_,jF ht,sizeOf,typeInfo,hi,Builtin.lenOf,Builtin.firstCells,loadCells,loadCellsFrom]
  ·have hr:=run_append_nil (P:=P) w t o.type e i z ht hi hz ad m c' l5 dh h3 o_ (by have h:=h63;simp[maxLen]at h;omega) o_;have fR:=grownCap_ge w m 0 e;have dP:=YF w m 0 e h63;have bF:aM B ι c w.drew:=hm.call ⟨⟨rfl,yO _⟩,rfl,rfl,bA _,λ_ _=>rfl⟩;have je:=G3 (ty:=e) (size:=i.size) (cap:=grownCap w m 0 e) (rest:=Builtin.zeroCells z.cells (grownCap w m 0 e-m)) bF hk h2 dP (by
    have h:=MN z.cells (grownCap w m 0 e-m);rw[dh,h,MM,<-fF]
    congr 1;omega)
   refine⟨_,_,_,gN (hm.dJ k hk),.slc (o:=0) (off:=0) (fP _ _ _) fR o_,je,.inl ?_⟩;rw[<-hc,<-h1]at hr;simp[execOp,ho,resolve,invoke,builtin,dS,eX,hr]
theorem aHE{s x:m_}{t:TypeId}(ho:o.op=.call { callee:=.builtin .append,args:=#[s,x],argTypes:=#[t,t]})
  {e:TypeId} {i:TypeInfo} {z:i_} (ht:P.underlying t=some (.slice e)) (hi:P.info? e=some i) (hz:i.zero=some z) (MM:z.cells.size=i.size) (bC:0<i.size)
  {sv:i_} {m:Nat} {news:ah} {need:List (Nat×Option Obj)} (yN:Cw B sv m news need) (hl:news.length=m*i.size) (R5:∀ v∈news,v.oneCell'=true)
  {j n:Nat} {cells:ah} (oN:n*i.size<=cells.length) (h63:n+m<=maxLen) (Cv:(n+m)*i.bytes<=140737488355328) (k:Nat) :
  iC P B o [.slice (some ⟨j,0,some 7⟩) n 0,sv] ((k,none)::(j,some (.row cells e i.size))::need) (.slice (some ⟨k,0,some 7⟩) (n+m) 0)
   [(k,.row (cells.take (n*i.size)++news) e i.size),(j,.dead)]:=by
 intro ι c ρ w aQ hm hn;have hk:c k=none:=hn _ (aP ..);have hj:c j=some (.row cells e i.size):=hn _ (bH _ (aP ..));have hkj:j≠k:=λe=>by rw[e,hk]at hj;cases hj
 have ij:bh c j .dead k=none:=by unfold bh;rw[ao (mN hkj)];exact hk
 rw[ho]at aQ;obtain⟨u,u2,hu,hc,hx⟩:=js aQ;have dS:ρ s=u:=by simp[Op.operands,Call.operands]at hu;exact hu.1
 have eX:ρ x=u2:=by simp[Op.operands,Call.operands]at hu;exact hu.2
 have ex:∀ v' w',(Builtin.append_ #[t,t] o.type #[u,u2]).run P w=.ok v' w'->(execOp ρ o).run P w=.ok (.value v') w':=by intro v' w' hr;simp[execOp,ho,resolve,invoke,builtin,dS,eX,hr]
 have G4:aM B ι (bh c j .dead) w:=hm.kill j (by rw[hj];exact n_);rcases hc.hZ rfl with ⟨hb,kz,_,_,he⟩|⟨b,oo,cap,c',hb,lJ,mL,he⟩
 ·-- nothing is there yet
  subst kz;subst he;have R6:=yN ι c w u2 hm (λp hp=>hn p (bH _ (bH _ hp))) hx;have wK:cells.take (0*i.size)=[]:=by simp
  rw[wK,jG,ko];simp only[ko]at h63 Cv;have Jz:m=0->(Builtin.append_ #[t,t] o.type #[.slice none 0 0,u2]).run P w=.ok (.slice none 0 0) w->
    ∃ ay v' w',Map.le ι ay/\aK ay (.slice (some ⟨k,0,some 7⟩) m 0) v'/\aM B ay (lI c [(k,.row news e i.size),(j,.dead)]) w'/\((execOp ρ o).run P w=.ok (.value v') w'\/(v'=undef/\(execOp ρ o).run P w=.ok .skip w')):=by
   intro kp hr;subst kp;have kz:news=[]:=kO (by simpa using hl);subst kz;exact⟨dR ι k .nil,.slice none 0 0,w,gN (hm.dJ k hk),.slcN (fP _ _ _),G4.add ij (.inl ⟨rfl,rfl⟩) n_ n_ n_,.inl (ex _ _ hr)⟩
  rcases R6 with ⟨h1,h2,h3⟩|⟨ad,c',l5,h1,h2,h3⟩
  ·refine Jz h1 ?_;rw[h3];simp[Builtin.append_,jF ht,sizeOf,typeInfo,hi,Builtin.lenOf,Builtin.firstCells]
  ·have dh:l5.length=m*i.size:=by rw[<-h2.length];exact hl
   by_cases kp:m=0
   ·refine Jz kp ?_;rw[h1,kp];simp[Builtin.append_,jF ht,sizeOf,typeInfo,hi,Builtin.lenOf,Builtin.firstCells,loadCells,loadCellsFrom]
   ·have hr:=run_append_nil (P:=P) w t o.type e i z ht hi hz ad m c' l5 dh h3 o_ (by have h:=h63;simp[maxLen]at h;omega) o_;have fR:=grownCap_ge w m 0 e;have dP:=YF w m 0 e h63;have bF:aM B ι (bh c j .dead) w.drew:=G4.call ⟨⟨rfl,yO _⟩,rfl,rfl,bA _,λ_ _=>rfl⟩;have je:=G3 (ty:=e) (size:=i.size) (cap:=grownCap w m 0 e) (rest:=Builtin.zeroCells z.cells (grownCap w m 0 e-m)) bF ij h2 dP (by
     have h:=MN z.cells (grownCap w m 0 e-m);rw[dh,h,MM,<-fF]
     congr 1;omega)
    refine⟨_,_,_,gN (hm.dJ k hk),.slc (o:=0) (off:=0) (fP _ _ _) fR o_,je,.inl (ex _ _ ?_)⟩;rw[h1,hr];rfl
 ·-- a row
  dsimp only at hb he;subst he;have kA:c'=cap:=by omega
  subst kA;obtain⟨l,q1,q2⟩:=hm.born j _ hj;rw[hb]at q1;injection q1 with q1;subst q1;rcases q2 with q2|⟨b',bE,cur,e1,l4,dP,fQ,jt⟩
  ·cases q2.1
  injection e1 with e1 e2 e3;subst e1;subst e2;subst e3;have ig:cells.length<=cur.size:=by have:=jt.length;rw[jr,yJ]at this;change cells.length=min cells.length cur.size at this;omega
  have MO:bW (aK ι) (cells.take (n*i.size)) (cur.toList.take (n*i.size)):=by have:=jt.take (n*i.size);rwa[MP,nZ oN]at this
  have holds:∀(jj:Nat) (v:i_),(cur.toList.take (n*i.size))[jj]?=some v->w.cell? ((⟨b,0,none⟩:Addr).add jj)=some v:=by
   intro jj v hv;rw[uG]at hv;split at hv
   ·have qT:cur[jj]?=some v:=by simpa using hv
    simp[World.cell?,yL,l4,qT]
   ·cases hv
  have eL:(cur.toList.take (n*i.size)).length=n*i.size:=by rw[jr,yJ];omega
  -- the source
  have R6:∃ ad c' l5,u2=.slice ad m c'/\bW (aK ι) news l5/\(ad=none->m=0/\c'=0)/\∀ a,ad=some a->∀ j v,l5[j]?=some v->w.cell? (a.add j)=some v:=by
   rcases yN ι c w u2 hm (λp hp=>hn p (bH _ (bH _ hp))) hx with ⟨h1,h2,h3⟩|⟨ad,c',l5,h1,h2,h3⟩
   ·subst h1;subst h2;exact⟨none,0,[],h3,.nil,λ_=>⟨rfl,rfl⟩,λa e=>by cases e⟩
   ·exact⟨some ad,c',l5,h1,h2,λe=>(by cases e),λa e=>by injection e with e;subst e;exact h3⟩
  obtain⟨ad,c2,l5,R7,EE,MQ,lg⟩:=R6;have dh:l5.length=m*i.size:=by rw[<-EE.length];exact hl
  have eW:=hm.own j _ b 0 c' hj rfl hb
  -- where the block is kept
  have jO:∀ w' (fX:p_),tz w w'->w'.tape=w.tape->w'.output=w.output->w.heap.size<=w'.heap.size->(∀ q,q≠b->w'.heap[q]?=w.heap[q]?)->w'.heap[b]?=some (.cells fX e (0,0))->
    fX.size=c'*i.size->fX.toList.take (n*i.size+m*i.size)=cur.toList.take (n*i.size)++l5->n+m<=c'->(Builtin.append_ #[t,t] o.type #[.slice (some ⟨b,0,none⟩) n c',u2]).run P w=.ok (.slice (some ⟨b,0,none⟩) (n+m) c') w'->
    ∃ ay v' w',Map.le ι ay/\aK ay (.slice (some ⟨k,0,some 7⟩) (n+m) 0) v'/\aM B ay (lI c [(k,.row (cells.take (n*i.size)++news) e i.size),(j,.dead)]) w'/\((execOp ρ o).run P w=.ok (.value v') w'\/(v'=undef/\(execOp ρ o).run P w=.ok .skip w')):=by
   intro w' fX p1 p2 p3 p4 p5 p6 p7 p8 p9 hr;have hle:=gN (l:=.at b 0 c') (hm.dJ k hk);have c7:aM B ι (bh c j .dead) w':=hm.write hj rfl hb p1 p2 p3 p4 (λq _ hq=>p5 q hq) trivial n_ rfl;refine⟨dR ι k (.at b 0 c'),_,w',hle,.slc (o:=0) (off:=0) (fP _ _ _) p9 o_,c7.add ij (.inr ⟨b,c',fX,rfl,p6,dP,p7,?_⟩) (λb1 o1 lG _ e1=>?_) n_ n_,.inl (ex _ _ hr)⟩
   ·have e1:(cells.take (n*i.size)++news).length=n*i.size+m*i.size:=by rw[kP,jr,hl];omega
    rw[e1,p8];exact(nV hle MO).append (nV hle EE)
   ·injection e1 with e1 e2;subst e1;refine⟨cF eW.1 p4,eW.2,λq y o' bE hq hy AO=>?_,λq F v hq AO=>?_,λq y o' bE hq hy AO=>?_⟩
    ·unfold bh at hq;by_cases wL:q=j
     ·rw[ax wL]at hq;injection hq with hq;subst hq;cases hy
     ·rw[ao wL]at hq;exact wL (hm.inj q j y _ b o' bE 0 c' hq hy hj rfl AO hb)
    ·unfold bh at hq;by_cases wL:q=j
     ·rw[ax wL]at hq;cases hq
     ·rw[ao wL]at hq;exact λhF=>hm.apart j q _ F b 0 c' v hj rfl hb hq AO (hm.Ez hq AO p4 (λk2 gv jD=>p5 k2 λe=>hm.apart j q _ F b 0 c' v hj rfl hb hq AO (e▸jD)) hF)
    ·unfold bh at hq;by_cases wL:q=j
     ·rw[ax wL]at hq;injection hq with hq;subst hq;cases hy
     ·rw[ao wL]at hq;exact(hm.seen q y b o' bE hq hy AO).2 j _ 0 c' hj rfl hb
  by_cases JA:n+m<=c'
  ·cases ad with
   |none=>
    obtain⟨kp,qf⟩:=MQ rfl;subst kp;subst qf;have kz:l5=[]:=kO (by simpa using dh);subst kz;refine jO w cur (.refl w) rfl rfl (bA _) (λ_ _=>rfl) l4 fQ s_ JA ?_;rw[R7];have hr:=run_append_owned_none (P:=P) (w:=w) 0 t o.type e i i.size ht hi (.slice (some ⟨b,0,none⟩) n c') n (cur.toList.take (n*i.size)) ⟨eL,.inr ⟨b,c',cur,rfl,jH _,l4,by omega,dP,fQ,rfl⟩⟩;simpa using hr
   |some a=>
    have hr:=run_append_room (P:=P) w t o.type e i ht hi b n c' cur l4 a m c2 l5 dh (lg a rfl) (aHC EE R5) JA (by rw[dh,fQ,<-fF];exact eh _ JA);refine jO (w.setRow b (cur.toList.take (n*i.size)++l5++cur.toList.drop (n*i.size+l5.length)).toArray) _ ⟨rfl,bA _⟩ rfl rfl s_ (λq hq=>setRow_other w b q _ hq) (setRow_heap w b cur _ e _ l4) ?_ ?_ JA (by rw[R7];exact hr)
    ·have:=eh i.size JA;rw[fF]at this;simp only[MR,kP,eL,vE,yJ,dh];omega
    ·have e1:(cur.toList.take (n*i.size)++l5).length=n*i.size+m*i.size:=by rw[kP,eL,dh]
     rw[<-e1];exact R3
  ·cases ad with
   |none=>
    obtain⟨kp,_⟩:=MQ rfl;omega
   |some a=>
    have hr:=run_append_grow (P:=P) w t o.type e i z ht hi hz ⟨b,0,none⟩ n c' _ eL holds a m c2 l5 dh (lg a rfl) o_ (by have h:=h63;simp[maxLen]at h;omega) (growslice_fits o_ Cv);have fR:=grownCap_ge w (n+m) c' e;have aHF:=YF w (n+m) c' e h63;have bF:aM B ι (bh c j .dead) w.drew:=G4.call ⟨⟨rfl,yO _⟩,rfl,rfl,bA _,λ_ _=>rfl⟩;have je:=G3 (ty:=e) (size:=i.size) (cap:=grownCap w (n+m) c' e) (rest:=Builtin.zeroCells z.cells (grownCap w (n+m) c' e-(n+m))) bF ij (MO.append EE) aHF (by
     have h:=MN z.cells (grownCap w (n+m) c' e-(n+m));rw[kP,eL,dh,h,MM,<-fF,<-fF]
     congr 1;omega)
    refine⟨_,_,_,gN (hm.dJ k hk),.slc (o:=0) (off:=0) (fP _ _ _) fR o_,je,.inl (ex _ _ ?_)⟩;rw[R7,hr];simp
theorem YG{src dst e:TypeId}{x:m_}(ho:o.op=.convert src dst x)(hs:P.underlying src=some (.slice e))(he:P.underlying e=some (.int .u8))(hd:P.underlying dst=some .string)
  {k off n cc:Nat} {y:Obj} {ns:List Int} (hy:y.reads=true) (AP:(y.cells.drop off).take n=ns.map (Value.int .u8)) (hlen:ns.length=n) :
  iC P B o [.slice (some ⟨k,off,some 7⟩) n cc] [(k,some y)] (.string (ns.foldl (λr n=>r.push (UInt8.ofNat n.toNat)) ByteArray.empty)) []:=by
 intro ι c ρ w aQ hm hn;rw[ho]at aQ;obtain⟨u,hu,hc⟩:=nB aQ;have hu:ρ x=u:=by simpa[Op.operands]using hu
 refine⟨ι,_,w,Map.le.refl _,.same rfl,hm,.inl ?_⟩;have km:=λa l c=>run_convert_bytes_string (P:=P) w src dst e a l c hs he hd;rcases ML (B:=B) (k:=k) (off:=off) (m:=n) (cc:=cc) hy (len:=n) (λh=>h) ι c w u hm hn hc with ⟨h1,h2,h3⟩|⟨ad,c',l5,h1,h2,h3⟩
 ·subst h1;have:ns=[]:=kO hlen;subst this;simp only[execOp,ho,hu,h3];simp[km,Conv.bytesToString]
 ·rw[AP]at h2;have h2:=nC h2 (λv hv=>by obtain⟨q,_,rfl⟩:=dj.1 hv;rfl);subst h2;have aHG:(loadCells ad n).run P w=.ok (ns.map (Value.int .u8)).toArray w:=by have:=run_loadCells_list (P:=P) (w:=w) ad (ns.map (Value.int .u8)) h3;simpa[hlen]using this
  simp only[execOp,ho,hu,h1];simp[km,run_bytesToString w ad n c' ns aHG]
end
def gj(look:Nat->Value):Operand->Value
 |.tmp t=>look t
 |.const v=>v
 |.global g=>.pointer (some ⟨g,0,none⟩)
 |.func f=>.func (.func f) #[] #[]
def MS:Operand->Bool
 |.const v=>flat v
 |_=>true
structure fA(B:aa)(ι:Map)(look:Nat->Value)(N:Nat)(a:Act):Prop where
 defers:a.defers=B.ds
 size:a.tmps.size=N
 slot:∀ t,nW ι (look t) (a.tmps.getD t undef)
theorem YH{a:Act}(hf:fA B ι look N a){x:m_}(hx:MS x=true)(hn:mJ (gj look x)=false):aK ι (gj look x) (a.eval x):=by
 cases x with
 |tmp t=>exact(hf.slot t).AJ hn
 |const v=>exact .same hx
 |global g=>exact .same rfl
 |func f=>exact .same rfl
theorem R8{B:aa}{ι:Map}{look:Nat->Value}{N:Nat}{a:Act}(hf:fA B ι look N a):∀(l:List Operand),(∀ x∈l,MS x=true/\mJ (gj look x)=false)->bW (aK ι) (l.map (gj look)) (l.map a.eval)
 |[],_=>.nil
 |x::l,h=>(.cons (YH hf (h x (aP ..)).1 (h x (aP ..)).2) (R8 hf l λy hy=>h y (bH _ hy)))
structure qU where
 val:Value
 cX:aH
 need:List (Nat×Option Obj)
variable{es:Nat->qU}
def MT(P:j_)(look:Nat->Value)(o:Oper):Option qU:=
 if o.op.operands.toList.all (λx=>flat (gj look x))then(match MJ P (execOp (gj look) o)with
   |some (.value v)=>if flat v then some ⟨v,[],[]⟩else none
   |_=>none)else none
def YI(look:Nat->Value)(c:Call):Option (Nat×TypeId×Operand×Addr×Nat):=
 match c.callee,c.args.toList,c.argTypes.toList with
 |.builtin .len,[x],[t]=>match gj look x with
  |.slice (some ad) n cc=>if mI ad then some (n,t,x,ad,cc)else none
  |_=>none
 |_,_,_=>none
def qV(P:j_)(look:Nat->Value)(g:Nat->Option Obj)(next:Nat)(o:Oper):Option qU:=
 match o.op with
 |.move x=>some ⟨gj look x,[],[]⟩
 |.assign x=>some ⟨gj look x,[],[]⟩
 |.pick c x y=>match gj look c with
  |.bool b=>some ⟨if b then gj look x else gj look y,[],[]⟩
  |_=>none
 |.alloc t=>match P.info? t with
  |some i=>match i.zero with
   |some z=>if flat z then some ⟨.pointer (some ⟨next,0,some 7⟩),[(next,.aI z.cells.toList t)],[(next,none)]⟩else none
   |none=>none
  |none=>none
 |.box t x=>some ⟨.pointer (some ⟨next,0,some 7⟩),[(next,.aI (gj look x).cells.toList t)],[(next,none)]⟩
 |.load t x=>match gj look x with
  |.pointer (some ad)=>if mI ad then(match g ad.block with
   |some y=>if y.reads then(match dO P t y.cells ad.off with|some v=>some ⟨v,[],[(ad.block,some y)]⟩|none=>none)else none
   |none=>none)else none
  |_=>none
 |.store t x y=>match gj look x with
  |.pointer (some ad)=>if mI ad then(match g ad.block with
   |some z=>if z.owns then(match e9 P t z.cells ad.off (gj look y)with|some cs=>some ⟨undef,[(ad.block,z.MH cs)],[(ad.block,some z)]⟩|none=>none)else none
   |none=>none)else none
  |_=>none
 |.fieldAddr s x f=>match gj look x with
  |.pointer (some ad)=>if mI ad then(match P.underlying s with
   |some (.struct fs)=>(match fs[f]? with
    |some fd=>(match P.info? fd.type with
     |some i=>if Nat.ble 1 i.size then some ⟨.pointer (some ⟨ad.block,ad.off+fd.offset,some 7⟩),[],[]⟩else none
     |none=>none)
    |none=>none)
   |_=>none)else none
  |_=>none
 |.indexAddr t x ix=>match gj look x,gj look ix with
  |.pointer (some ad),.int _ n=>if mI ad then(match P.underlying t with
   |some (.array len e)=>(match P.info? e with
    |some i=>if 0<=n/\n<len then some ⟨.pointer (some ⟨ad.block,ad.off+n.toNat*i.size,some 7⟩),[],[]⟩else none
    |none=>none)
   |_=>none)else none
  |.slice (some ad) len _,.int _ n=>if mI ad then(match P.underlying t with
   |some (.slice e)=>(match P.info? e with
    |some i=>if 0<=n/\n<len then some ⟨.pointer (some ⟨ad.block,ad.off+n.toNat*i.size,some 7⟩),[],[]⟩else none
    |none=>none)
   |_=>none)else none
  |_,_=>none
 |.extract x i=>match gj look x with
  |.tuple vs=>(match vs[i]? with|some v=>some ⟨v,[],[]⟩|none=>none)
  |_=>none
 |.makeFunc f fi ca=>some ⟨.func f (((fi++ca).toList.map (gj look)).take fi.size).toArray (((fi++ca).toList.map (gj look)).drop fi.size).toArray,[],[]⟩
 |.call c=>match YI look c with
  |some (n,t,_)=>(match P.underlying t with|some (.slice _)=>some ⟨.int .i64 n,[],[]⟩|_=>none)
  |none=>MT P look o
 |_=>MT P look o
def AQ(look:Nat->Value)(o:Oper):Bool:=o.op.operands.toList.all (λx=>MS x&&!mJ (gj look x))&&(match o.op with|.select _ _=>false|_=>true)
def Cx(g:Nat->Option Obj)(next:Nat)(e:qU):Prop:=(∀ p∈e.need,(∃ x,p.2=some x/\g p.1=some x)\/(p.2=none/\next<=p.1))/\∀ p∈e.cX,∃ q∈e.need,q.1=p.1
theorem Cy{a:Addr}(h:mI a=true):a=⟨a.block,a.off,some 7⟩:=by obtain⟨b,o,s⟩:=a;have:=GX h;dsimp only at this;subst this;rfl
theorem YJ{g:Nat->Option Obj}{next:Nat}{e:qU}(au:AQ look o=true)(h:qV P look g next o=some e):
  iC P B o (o.op.operands.toList.map (gj look)) e.need e.val e.cX/\Cx g next e:=by
 simp only[AQ,cZ,bd]at au;obtain⟨yK,YK⟩:=au;have uJ:Cx g next ⟨e.val,[],[]⟩:=⟨λp hp=>(by cases hp),λp hp=>(by cases hp)⟩;have YL:MT P look o=some e->iC P B o (o.op.operands.toList.map (gj look)) e.need e.val e.cX/\Cx g next e:=by
  intro h;unfold MT at h;split at h
  ·rename_i cK;rw[bd]at cK;split at h
   ·rename_i v hp;split at h
    ·rename_i R2;injection h with h;subst h;refine⟨Cu (λv hv=>by obtain⟨x,hx,rfl⟩:=dj.1 hv;exact cK x hx) R2 λρ fY w _=>?_,uJ⟩;rw[execOp_congr (ρ:=ρ) (ρ':=gj look) o (λcs b e=>by rw[e]at YK;cases YK) (λx hx=>by obtain⟨j,hj⟩:=Yz (MU.2 hx);have:=cL (λl=>l[j]?) fY;simp only[qW,hj,RU]at this;injection this)]
     exact R1 hp w
    ·cases h
   ·cases h
  ·cases h
 cases bY:o.op with
 |move x=>
  simp only[qV,bY]at h;injection h with h;subst h;exact⟨YA (.inl bY),uJ⟩
 |assign x=>
  simp only[qV,bY]at h;injection h with h;subst h;exact⟨YA (.inr bY),uJ⟩
 |pick c x y=>
  simp only[qV,bY]at h;split at h
  ·rename_i b hb;injection h with h;subst h;refine⟨?_,uJ⟩;have:=aHs (P:=P) (B:=B) bY (b:=b) (v1:=gj look x) (v2:=gj look y);rw[<-hb]at this;exact this
  ·cases h
 |alloc t=>
  simp only[qV,bY]at h;split at h
  ·rename_i i hi;split at h
   ·rename_i z hz;split at h
    ·rename_i YM;injection h with h;subst h;exact⟨aHt bY hi hz YM next,λp hp=>.inr (by simp at hp;subst hp;exact⟨rfl,bA _⟩),λp hp=>⟨_,aP ..,by simp at hp;subst hp;rfl⟩⟩
    ·cases h
   ·cases h
  ·cases h
 |box t x=>
  simp only[qV,bY]at h;injection h with h;subst h;exact⟨aHu bY _ next,λp hp=>.inr (by simp at hp;subst hp;exact⟨rfl,bA _⟩),λp hp=>⟨_,aP ..,by simp at hp;subst hp;rfl⟩⟩
 |load t x=>
  simp only[qV,bY]at h;split at h
  ·rename_i ad hx;split at h
   ·rename_i eW;split at h
    ·rename_i y hy;split at h
     ·rename_i JB;split at h
      ·rename_i v hv;injection h with h;subst h;refine⟨?_,λp hp=>.inl ⟨y,by simp at hp;subst hp;exact⟨rfl,hy⟩⟩,λp hp=>(by cases hp)⟩;have:=Yx (P:=P) (B:=B) bY (k:=ad.block) JB hv;rw[<-Cy eW,<-hx]at this;exact this
      ·cases h
     ·cases h
    ·cases h
   ·cases h
  ·cases h
 |store t x y=>
  simp only[qV,bY]at h;split at h
  ·rename_i ad hx;split at h
   ·rename_i eW;split at h
    ·rename_i z hz;split at h
     ·rename_i hzo;split at h
      ·rename_i cs fQ;injection h with h;subst h;refine⟨?_,λp hp=>.inl ⟨z,by simp at hp;subst hp;exact⟨rfl,hz⟩⟩,λp hp=>⟨_,aP ..,by simp at hp;subst hp;rfl⟩⟩;have:=Yy (P:=P) (B:=B) bY (k:=ad.block) hzo fQ;rw[<-Cy eW,<-hx]at this;exact this
      ·cases h
     ·cases h
    ·cases h
   ·cases h
  ·cases h
 |fieldAddr s x f=>
  simp only[qV,bY]at h;split at h
  ·rename_i ad hx;split at h
   ·rename_i eW;split at h
    ·rename_i fs hs;split at h
     ·rename_i fd vD;split at h
      ·rename_i i hi;split at h
       ·rename_i bC;injection h with h;subst h;refine⟨?_,uJ⟩;have:=aHv (P:=P) (B:=B) bY hs vD hi (qc bC) ad.block ad.off;rw[<-Cy eW,<-hx]at this;exact this
       ·cases h
      ·cases h
     ·cases h
    ·cases h
   ·cases h
  ·cases h
 |indexAddr t x ix=>
  simp only[qV,bY]at h;split at h
  ·rename_i ad kd n hx AR;split at h
   ·rename_i eW;split at h
    ·rename_i len el ht;split at h
     ·rename_i i hi;split at h
      ·rename_i hr;injection h with h;subst h;refine⟨?_,uJ⟩;have:=aHw (P:=P) (B:=B) bY ht hi (kd:=kd) hr.1 hr.2 ad.block ad.off;rw[<-Cy eW,<-hx,<-AR]at this;exact this
      ·cases h
     ·cases h
    ·cases h
   ·cases h
  ·rename_i ad len cc kd n hx AR;split at h
   ·rename_i eW;split at h
    ·rename_i el ht;split at h
     ·rename_i i hi;split at h
      ·rename_i hr;injection h with h;subst h;refine⟨?_,uJ⟩;have:=YC (P:=P) (B:=B) bY ht hi (kd:=kd) (cc:=cc) hr.1 hr.2 ad.block ad.off;rw[<-Cy eW,<-hx,<-AR]at this;exact this
      ·cases h
     ·cases h
    ·cases h
   ·cases h
  ·cases h
 |extract x i=>
  simp only[qV,bY]at h;split at h
  ·rename_i vs hx;split at h
   ·rename_i v hv;injection h with h;subst h;refine⟨?_,uJ⟩;have:=aHx (P:=P) (B:=B) bY hv;rw[<-hx]at this;exact this
   ·cases h
  ·cases h
 |makeFunc f fi ca=>
  simp only[qV,bY]at h;injection h with h;subst h;exact⟨aHz bY,uJ⟩
 |call c=>
  simp only[qV,bY]at h;split at h
  ·rename_i n t rest hl;obtain⟨x,ad,cc⟩:=rest;split at h
   ·rename_i el ht;injection h with h;subst h;refine⟨?_,uJ⟩;unfold YI at hl;split at hl
    ·rename_i x' t' hc ha mO;split at hl
     ·rename_i YN n' b9 hx;split at hl
      ·rename_i eW;injection hl with hl;injection hl with h1 hl;injection hl with h2 hl;injection hl with h3 hl;injection hl with h4 h5;subst h1;subst h2;subst h3;subst h4;subst h5;have kA:c={ callee:=.builtin .len,args:=#[x'],argTypes:=#[t']}:=by
        obtain⟨c1,c2,c3⟩:=c;dsimp only at hc ha mO;subst hc
        congr 1
        ·exact vF.1 ha
        ·exact vF.1 mO
       rw[kA]at bY ⊢;have:=aHA (P:=P) (B:=B) bY ht YN.block YN.off n' b9;rw[<-Cy eW,<-hx]at this;exact this
      ·cases hl
     ·cases hl
    ·cases hl
   ·cases h
  ·rw[<-bY];exact YL h
 |_=>rw[<-bY];refine YL ?_;simp only[qV,bY]at h;exact h
abbrev aN:=List (Nat×Value)
variable{fr:aN}
def bI:aN->Nat->Value
 |[],_=>GZ
 |(t,v)::l,s=>if Nat.beq t s then v else bI l s
def ai:aH->Nat->Option Obj
 |[],_=>none
 |(k,x)::l,j=>if Nat.beq k j then some x else ai l j
theorem kt(h:Nat.beq a b=true):a=b:=RR h
theorem oO(h:a≠b):Nat.beq a b=false:=by
 cases hb:Nat.beq a b with
 |false=>rfl
 |true=>exact absurd (kt hb) h
theorem wM(c:Nat->Option Obj):∀(l:aH) (k:Nat),lI c l k=match ai l k with|some x=>some x|none=>c k
 |[],k=>rfl
 |(j,x)::l,k=>by
  show(if k=j then some x else lI c l k)=match (if Nat.beq j k then some x else ai l k)with|some x=>some x|none=>c k
  by_cases h:k=j
  ·subst h;simp
  ·rw[ao h,oO (mN h)];exact wM c l k
theorem jQ:∀(l m:aH) (k:Nat),ai (l++m) k=match ai l k with|some x=>some x|none=>ai m k
 |[],m,k=>rfl
 |(j,x)::l,m,k=>by
  show(if Nat.beq j k then some x else ai (l++m) k)=match (if Nat.beq j k then some x else ai l k)with|some x=>some x|none=>ai m k
  by_cases h:Nat.beq j k=true
  ·simp only[ax h]
  ·simp only[ao h];exact jQ l m k
theorem jf:∀{l:aH} {k:Nat} {x:Obj},ai l k=some x->(k,x)∈l
 |(j,y)::l,k,x,h=>by
  unfold ai at h;split at h
  ·rename_i hb;injection h with h;rw[kt hb,h];exact aP ..
  ·exact bH _ (jf h)
def da(c:Nat->Option Obj)(M:aH):Prop:=∀ k x,ai M k=some x->c k=some x
def eU(c:Nat->Option Obj)(next:Nat):Prop:=∀ k,next<=k->c k=none
inductive Ex where
 |normal
 |exit (id:Nat)
 |ret
def Ex.AU:Ex->Exit
 |.normal=>.normal
 |.exit id=>.exit id
 |.ret=>.ret
def wl:Code->List Nat
 |.region _ ops _=>ops.toList.filterMap (·.dst)
 |.seq x y=>wl x++wl y
 |.cond _ x y=>wl x++wl y
 |.block _ b=>wl b
 |.loop b=>wl b
 |.scope b=>wl b
 |.rangeFunc _ ps x y=>ps.toList++(wl x++wl y)
 |_=>[]
def uK(c:Code)(t:Nat):Bool:=(wl c).any λd=>Nat.beq d t
structure lK where
 ex:Ex
 fr:aN
 M:aH
 next:Nat
variable{r1:lK}
def af(P:j_)(B:aa)(N:Nat)(c:Code)(fr:aN)(M:aH)(next:Nat)(r:lK):Prop:=
 ∀(R:Option Nat) (ι:Map) (cc:Nat->Option Obj) (a:Act) (w:h_) (Q:Exit->Act->World->Prop),fA B ι (bI fr) N a->aM B ι cc w->da cc M->eU cc next->
  (∀ ay b9 a' w',Map.le ι ay->fA B ay (bI r.fr) N a'->aM B ay b9 w'->da b9 r.M->eU b9 r.next->(∀ k,k<next->ai M k=none->b9 k=cc k)->(∀ t,uK c t=false->a'.tmps.getD t undef=a.tmps.getD t undef)->Q r.ex.AU a' w')->c.wpIn (FW R) 0 P Q a w
inductive aU(P:j_)(B:aa)(N:Nat) where
 |step (key:Nat) (o:Oper) (eT:ah) (need:List (Nat×Option Obj)) (val:i_) (cX:aH) (ok:cA P B o eT need val cX)
 |call (key:Nat) (f:FuncId) (args:ah) (res:i_) (ok:∀ w,B.G w->Calls P f args.toArray w λe w'=>e=.returned res/\Below w.heap.size w w')
 |rw(key:Nat) (v v':i_) (ok:v=v')
 |code (key:Nat) (c:Code) (fr:aN) (M:aH) (next:Nat) (r:lK) (ok:af P B N c fr M next r)
inductive n9 where
 |eT (l:ah)
 |obj (x:Option Obj)
 |op (o:Oper)
 |code (c:Code)
 |nat (n:Nat)
def callee(look:Nat->Value)(o:Oper):Option (FuncId×ah):=
 match o.op with
 |.call c=>match c.callee with
  |.value x=>match gj look x with
   |.func (.func f) fi ca=>some (f,fi.toList++c.args.toList.map (gj look)++ca.toList)
   |_=>none
  |_=>none
 |_=>none
def fN(P:j_)(f:FuncId):Bool:=
 match P.funcs[f]? with
 | some fn => fn.body.isSome && !(fn.name == "runtime.NumGoroutine")
 |none=>false
def MV(o:Oper):Nat:=match o.dst with
 |some t=>t
 |none=>match o.op with
  |.store _ (.tmp t) _=>100000+t
  |_=>99999
abbrev bL(P:j_)(B:aa)(N:Nat):=List (aU P B N)
abbrev vG:=List (n9×n9)
def YO(next:Nat)(need:List (Nat×Option Obj)):Bool:=need.all λp=>match p.2 with|some _=>true|none=>Nat.ble next p.1
def YP(cX:aH)(need:List (Nat×Option Obj)):Bool:=cX.all λp=>need.any λq=>Nat.beq q.1 p.1
def G6(look:Nat->Value)(g:Nat->Option Obj)(next:Nat)(o:Oper)(rs:bL P B N):Option (qU×bL P B N×vG):=
 match qV P look g next o with
 |some e=>some (e,rs,[])
 |none=>none
def R9(look:Nat->Value)(g:Nat->Option Obj)(next:Nat)(o:Oper)(rs:bL P B N):Option (qU×bL P B N×vG):=
 if AQ look o then
  match rs with
  |.step key o' eT need val cX _::wO=>
   if Nat.beq key (MV o)then
    (if YO next need&&YP cX need then
     some (⟨val,cX,need⟩,wO,(.op o,.op o')::(.eT (o.op.operands.toList.map (gj look)),.eT eT)::need.filterMap λp=>match p.2 with|some x=>some (.obj (g p.1),.obj (some x))|none=>none)
    else none)
   else G6 look g next o rs
  |.call key f args res _::wO=>
   if Nat.beq key (MV o)then
    (match callee look o with
    |some (f',args')=>if fN P f&&args.all flat&&flat res then some (⟨res,[],[]⟩,wO,[(.nat f',.nat f),(.eT args',.eT args)])else none
    |none=>none)
   else G6 look g next o rs
  |.rw key v v' _::wO=>
   if Nat.beq key (MV o)then
    (match qV P look g next o with
    |some e=>some (⟨v',e.cX,e.need⟩,wO,[(.eT [e.val],.eT [v])])
    |none=>none)
   else G6 look g next o rs
  |_=>G6 look g next o rs
 else none
theorem MW(h:fN P f=true)(args:p_)(w:h_):(callFunc f args).run P w=.ok (.enter f args) w:=by
 unfold fN at h;split at h
 ·rename_i fn hf;simp only[cZ,yP]at h;obtain⟨c,hb⟩:=Option.isSome_iff_exists.1 h.1
  have h1 : fn.name ≠ "runtime.NumGoroutine" := by simpa using h.2
  simp[callFunc,hf,h1,hb]
 ·cases h
def rY(tr:vG):Prop:=∀ p∈tr,p.1=p.2
theorem JC{R:Option Nat}{args:p_}{Rs:Ending->World->Prop}{n:Nat}:CallsIn (FW R) n P f args w Rs↔Calls P f args w Rs:=
 (callsIn_wide (n:=n):CallsIn Fence.wide n P f args w Rs↔Calls P f args w Rs)
theorem aHH(au:AQ look o=true)(hc:callee look o=some (f,args))(eY:fN P f=true)
  (dK:∀ v∈args,flat v=true) (AV:flat res=true) (h:∀ w,B.G w->Calls P f args.toArray w λe w'=>e=.returned res/\Below w.heap.size w w') :
  cA P B o (o.op.operands.toList.map (gj look)) [] res []:=by
 intro R ι c a w hv hm hn K Q hK;obtain⟨dst,op,ty,pos,after,guard⟩:=o;unfold callee at hc;split at hc
 ·rename_i cl ho;dsimp only at ho;subst ho;split at hc
  ·rename_i x hx;split at hc
   ·rename_i f' fi ca gU;injection hc with hc;injection hc with gw dq;subst gw;obtain⟨cal,lh,wP⟩:=cl;dsimp only at hx dq;subst hx;have yK:(Op.operands (.call ⟨.value x,lh,wP⟩)).toList=x::lh.toList:=by simp[Op.operands,Call.operands]
    dsimp only at hv;rw[yK]at hv;cases hv with
    |cons hx rX=>
    rw[gU]at hx;obtain⟨j0,gM,he,h1,h2⟩:=hx.AH;have aY:=(h1.append rX).append h2;rw[dq]at aY;have e2:=nC aY dK;have e3:execOp a.eval ⟨dst,.call ⟨.value x,lh,wP⟩,ty,pos,after,guard⟩=callFunc f' (j0++lh.map a.eval++gM):=by have:execOp a.eval ⟨dst,.call ⟨.value x,lh,wP⟩,ty,pos,after,guard⟩=(do let d <-Deferred.ofValue (a.eval x) (lh.map a.eval);invoke d.target d.args):=rfl;rw[this,he];rfl
    have e4:(j0++lh.map a.eval++gM:p_)=args.toArray:=by rw[<-e2];apply EF;simp
    refine⟨λ_ _=>trivial,?_⟩;rw[MI _ _ _ n_,e3,e4,MW eY,Oper.uponIn_enter];refine⟨λe=>(by cases e),JC.2 ((h w hm.base).mono ?_)⟩
    rintro e w' ⟨rfl,hb⟩
    exact hK ι res w' (Map.le.refl _) (.same AV) (hm.call hb)
   ·cases hc
  ·cases hc
 ·cases hc
theorem Sa{g:Nat->Option Obj}{next:Nat}{rs wO:bL P B N}{e:qU}{tr:vG}
  (h:R9 look g next o rs=some (e,wO,tr)) (hs:rY tr):AQ look o=true/\cA P B o (o.op.operands.toList.map (gj look)) e.need e.val e.cX/\Cx g next e:=by
 unfold R9 at h;split at h
 ·rename_i au;refine⟨au,?_⟩;have auto:∀{rs:bL P B N},G6 look g next o rs=some (e,wO,tr)->cA P B o (o.op.operands.toList.map (gj look)) e.need e.val e.cX/\Cx g next e:=by
   intro rs h;unfold G6 at h;split at h
   ·rename_i e' he;injection h with h;injection h with h1 h2;subst h1;obtain⟨q1,q2⟩:=YJ (B:=B) au he;exact⟨q1.step,q2⟩
   ·cases h
  split at h
  ·rename_i key o' eT need val cX ok EG;split at h
   ·split at h
    ·rename_i qe;injection h with h;injection h with h1 h;injection h with h2 h3;subst h1;subst h3;simp only[cZ]at qe;have e1:n9.op o=.op o':=hs _ (aP ..);have e2:n9.eT _=.eT eT:=hs _ (bH _ (aP ..));injection e1 with e1;injection e2 with e2;subst e1;rw[e2];refine⟨ok,λp hp=>?_,λp hp=>?_⟩
     ·have gw:=qe.1;unfold YO at gw;rw[bd]at gw;have iN:=gw p hp;cases EH:p.2 with
      |none=>rw[EH]at iN;exact .inr ⟨rfl,qc iN⟩
      |some x=>
       left;refine⟨x,rfl,?_⟩;have:n9.obj (g p.1)=.obj (some x):=hs _ (bH _ (bH _ (YQ.2 ⟨p,hp,by rw[EH]⟩)));injection this
     ·have dq:=qe.2;unfold YP at dq;rw[bd]at dq;have:=dq p hp;rw[rZ]at this;obtain⟨q,hq,hb⟩:=this;exact⟨q,hq,kt hb⟩
    ·cases h
   ·exact auto h
  ·rename_i key f args res ok EG;split at h
   ·split at h
    ·rename_i f' args' hc;split at h
     ·rename_i qe;injection h with h;injection h with h1 h;injection h with h2 h3;subst h1;subst h3;simp only[cZ,bd]at qe;have e1:n9.nat f'=.nat f:=hs _ (aP ..);have e2:n9.eT args'=.eT args:=hs _ (bH _ (aP ..));injection e1 with e1;injection e2 with e2;subst e1;subst e2;exact⟨aHH au hc qe.1.1 qe.1.2 qe.2 ok,λp hp=>(by cases hp),λp hp=>(by cases hp)⟩
     ·cases h
    ·cases h
   ·exact auto h
  ·rename_i key v v' ok EG;split at h
   ·split at h
    ·rename_i e' he;injection h with h;injection h with h1 h;injection h with h2 h3;subst h1;subst h3;have e1:n9.eT [e'.val]=.eT [v]:=hs _ (aP ..);injection e1 with e1;injection e1 with e1 _;obtain⟨q1,q2⟩:=YJ (B:=B) au he;rw[e1,ok]at q1;exact⟨q1.step,q2⟩
    ·cases h
   ·exact auto h
  ·exact auto h
 ·cases h
def JD(fr:aN)(d:Option Nat)(v:i_):aN:=match d with|some t=>(t,v)::fr|none=>fr
def MX(fr:aN)(ops:Array Oper)(j:Nat):Option Bool:=
 match (ops[j]?).bind (·.dst)with
 |some t=>match bI fr t with|.bool b=>some b|_=>none
 |none=>none
def Cz(fr:aN)(ops:Array Oper)(o:Oper):Bool:=
 match o.guard with
 |none=>true
 |some (j,want)=>match MX fr ops j with|some b=>b==want|none=>false
def CA(N:Nat)(fr:aN)(ops:Array Oper)(o:Oper):Bool:=
 (match o.guard with
 |none=>true
 |some (j,_)=>match (ops[j]?).bind (·.dst)with|some t=>flat (bI fr t)&&!mJ (bI fr t)&&Nat.blt t N|none=>true)&&
 (match o.dst with|some d=>Nat.blt d N|none=>true)
theorem Sb(fr:aN)(d:Option Nat)(v:i_)(t:Nat):bI (JD fr d v) t=if d=some t then v else bI fr t:=by
 cases d with
 |none=>rfl
 |some s=>
  show(if Nat.beq s t then v else bI fr t)=_;by_cases h:s=t
  ·subst h;simp
  ·rw[oO h];simp[h]
theorem fA.put(hle:Map.le ι κ){YR:Nat->Value}{a:Act}(h:fA B ι look N a){v:i_}(hv:nW κ v v')(d:Option Nat)(hd:∀ t,d=some t->t<N)
  (hl:∀ t,YR t=if d=some t then v else look t):fA B κ YR N (a.put d v'):=by
 refine⟨by cases d<;>exact h.defers,by cases d<;>simp[Act.put,h.size],λt=>?_⟩;rw[hl t];by_cases EI:d=some t
 ·rw[ax EI];subst EI;have:t<a.tmps.size:=by rw[h.size];exact hd t rfl
  have e:(a.put (some t) v').tmps.getD t undef=v':=by simp[Act.put,qg,this]
  rw[e];exact hv
 ·rw[ao EI];have e:(a.put d v').tmps.getD t undef=a.tmps.getD t undef:=by
   cases d with
   |none=>rfl
   |some s=>
    have:s≠t:=λe=>EI (by rw[e]);simp[Act.put,qg,Sc this]
  rw[e];exact(h.slot t).mono hle
theorem Sd(a:Act)(d:Option Nat)(v:i_){t:Nat}(h:d≠some t):(a.put d v).tmps.getD t undef=a.tmps.getD t undef:=by
 cases d with
 |none=>rfl
 |some s=>
  have:s≠t:=λe=>h (by rw[e]);simp[Act.put,qg,Sc this]
theorem aHI{a:Act}(h:fA B ι look N a)(ops:Array Oper)(j:Nat)
  (hn:∀ t,(ops[j]?).bind (·.dst)=some t->look t=bI fr t/\flat (bI fr t)=true/\mJ (bI fr t)=false/\t<N):yielded ops a.tmps j=MX fr ops j:=by
 unfold yielded MX;cases hd:(ops[j]?).bind (·.dst)with
 |none=>rfl
 |some t=>
  simp only[YS];obtain⟨h1,cK,h2,h3⟩:=hn t hd;have ak:t<a.tmps.size:=by rw[h.size];exact h3
  have hs:=h.slot t;rw[h1]at hs;have hs:=(hs.AJ h2).fk cK;rw[show a.tmps.getD t undef=a.tmps[t]by simp[qg,ak]]at hs;rw[yQ ak,hs];cases bI fr t<;>rfl
theorem YT{a:Act}(h:fA B ι look N a)(ops:Array Oper)(o:Oper)(hg:CA N fr ops o=true)
  (hl:∀ j b,o.guard=some (j,b)->∀ t,(ops[j]?).bind (·.dst)=some t->look t=bI fr t):Region.wanted o (yielded ops a.tmps)=Cz fr ops o:=by
 unfold Region.wanted Cz;unfold CA at hg;simp only[cZ]at hg;have hg:=hg.1;cases ob:o.guard with
 |none=>rfl
 |some gd=>
  obtain⟨j,want⟩:=gd;rw[ob]at hg;dsimp only at hg ⊢;rw[aHI h ops j λt ht=>by rw[ht]at hg;simp only[cZ,yP]at hg;exact⟨hl j want ob t ht,hg.1.1,hg.1.2,by simpa[yR]using hg.2⟩]
  cases MX fr ops j with
  |none=>rfl
  |some b=>cases b<;>cases want<;>rfl
theorem YU{ops:Array Oper}(hg:CA N fr ops o=true):∀ t,o.dst=some t->t<N:=by intro t ht;unfold CA at hg;simp only[cZ]at hg;have:=hg.2;rw[ht]at this;simpa[yR]using this
def AW(next:Nat)(cX:aH):Nat:=cX.foldl (λn p=>if Nat.ble n p.1 then p.1+1 else n) next
theorem G7:∀(cX:aH) (next:Nat),next<=AW next cX
 |[],next=>bA _
 |p::l,next=>by
  show next<=AW (if Nat.ble next p.1 then p.1+1 else next) l;refine di ?_ (G7 l _);split
  ·rename_i h;have:=qc h;omega
  ·exact bA _
theorem YV:∀(cX:aH) (next:Nat),∀ p∈cX,p.1<AW next cX
 |q::l,next,p,hp=>by
  show p.1<AW (if Nat.ble next q.1 then q.1+1 else next) l;rcases ct.1 hp with rfl|hp
  ·refine cF ?_ (G7 l _);split
   ·omega
   ·rename_i h;rcases fm p.1 next with h1|h1
    ·exact h1
    ·exact absurd (Se h1) h
  ·exact YV l _ p hp
theorem Sf{cc:Nat->Option Obj}{next:Nat}{e:qU}(hn:Cx (ai M) next e)(ha:da cc M)(hu:eU cc next):
  (∀ p∈e.need,cc p.1=p.2)/\da (lI cc e.cX) (e.cX++M)/\eU (lI cc e.cX) (AW next e.cX)/\(∀ k,k<next->ai M k=none->ai (e.cX++M) k=none/\lI cc e.cX k=cc k):=by
 refine⟨λp hp=>?_,λk x hk=>?_,λk hk=>?_,λk hk hM=>?_⟩
 ·rcases hn.1 p hp with ⟨x,h1,h2⟩|⟨h1,h2⟩
  ·rw[h1];exact ha _ _ h2
  ·rw[h1];exact hu _ h2
 ·rw[jQ]at hk;rw[wM];cases h:ai e.cX k with
  |some y=>rw[h]at hk;exact hk
  |none=>rw[h]at hk;exact ha k x hk
 ·rw[wM];cases h:ai e.cX k with
  |some y=>have:=YV e.cX next _ (jf h);dsimp only at this;omega
  |none=>exact hu k (di (G7 _ _) hk)
 ·have:ai e.cX k=none:=by
   cases h:ai e.cX k with
   |none=>rfl
   |some y=>
    exfalso;obtain⟨q,hq,wQ⟩:=hn.2 _ (jf h);dsimp only at wQ;rcases hn.1 q hq with ⟨x,h1,h2⟩|⟨h1,h2⟩
    ·rw[wQ,hM]at h2;cases h2
    ·omega
  exact⟨by rw[jQ,this];exact hM,by rw[wM,this]⟩
structure qX(P:j_)(B:aa)(N:Nat) where
 fr:aN
 M:aH
 next:Nat
 rs:bL P B N
 tr:vG
 nD:List (List Nat×List Nat)
def keys(l:List (Nat×α)):List Nat:=l.map (·.1)
def qX.more(r:qX P B N)(tr:vG)(e:List Nat×List Nat):qX P B N:=⟨r.fr,r.M,r.next,r.rs,tr++r.tr,e::r.nD⟩
def yS{P:j_}{B:aa}{N:Nat}(ops:Array Oper):List Oper->aN->aH->Nat->bL P B N->Option (qX P B N)
 |[],fr,M,next,rs=>some ⟨fr,M,next,rs,[],[]⟩
 |o::l,fr,M,next,rs=>
  if CA N fr ops o then
   if Cz fr ops o then
    match R9 (P:=P) (bI fr) (ai M) next o rs with
    |some (e,EG,EJ)=>match yS ops l (JD fr o.dst e.val) (e.cX++M) (AW next e.cX) EG with
     |some r=>some (r.more EJ (keys e.need,keys e.cX))
     |none=>none
    |none=>none
   else match yS ops l (JD fr o.dst undef) M next rs with
    |some r=>some (r.more [] ([],[]))
    |none=>none
  else none
def wR(l:List Oper)(t:Nat):Bool:=l.any λo=>match o.dst with|some d=>Nat.beq d t|none=>false
theorem YW{l:List Oper}{t:Nat}(h:wR (o::l) t=false):o.dst≠some t/\wR l t=false:=by unfold wR at h;rw[List.any_cons,MY]at h;refine⟨λe=>?_,h.2⟩;rw[e]at h;simp at h
def Sg(B:aa)(N:Nat)(cc:Nat->Option Obj)(M:aH)(next:Nat)(ι:Map)(a:Act)(wr:Nat->Bool)(r:qX P B N)(K:Act->World->Prop):Prop:=
 ∀ ay b9 a' w',Map.le ι ay->fA B ay (bI r.fr) N a'->aM B ay b9 w'->da b9 r.M->eU b9 r.next->(∀ k,k<next->ai M k=none->b9 k=cc k)->
  (∀ t,wr t=false->a'.tmps.getD t undef=a.tmps.getD t undef)->K a' w'
theorem Sh{R:Option Nat}{P:j_}{B:aa}{N:Nat}{ops:Array Oper}{Q:Exit->Act->World->Prop}:∀(l:List Oper) {fr:aN} {M:aH} {next:Nat} {rs:bL P B N} {r:qX P B N} {ι:Map} {cc:Nat->Option Obj} {a:Act} {w:h_},
  yS ops l fr M next rs=some r->rY r.tr->fA B ι (bI fr) N a->aM B ι cc w->da cc M->eU cc next->
  Sg B N cc M next ι a (wR l) r (Q .normal)->wpListIn (FW R) 0 P ops Q l a w
 |[],fr,M,next,rs,r,ι,cc,a,w,h,_,hf,hm,ha,hu,hQ=>by injection h with h;subst h;exact hQ ι cc a w (Map.le.refl _) hf hm ha hu (λ_ _ _=>rfl) (λ_ _=>rfl)
 |o::l,fr,M,next,rs,r,ι,cc,a,w,h,hs,hf,hm,ha,hu,hQ=>by
  unfold yS at h;unfold wpListIn;by_cases ob:CA N fr ops o=true
  case neg=>rw[ao ob]at h;cases h
  rw[ax ob]at h;have CB:=YU ob;rw[YT hf ops o ob λ_ _ _ _ _=>rfl];split at h
  ·rename_i hw;rw[ax hw];split at h
   ·rename_i e EG EJ bT;split at h
    ·rename_i r2 uL;injection h with h;subst h;have wS:rY EJ:=λp hp=>hs p (fo.2 (.inl hp));have Si:rY r2.tr:=λp hp=>hs p (fo.2 (.inr hp));obtain⟨au,tD,oP⟩:=Sa (B:=B) bT wS;simp only[AQ,cZ,bd,yP]at au;obtain⟨q1,q2,q3,q4⟩:=Sf oP ha hu;refine(tD R ι cc a w (R8 hf _ λx hx=>au.1 x hx) hm q1 _ _ λay v' w' hle hv bF=>?_);refine Sh l uL Si (hf.put hle (.inr hv) o.dst CB λt=>Sb _ _ _ _) bF q2 q3 λdG r5 a2 w2 kQ jD dF gk eX gv oc=>?_;refine hQ dG r5 a2 w2 (hle.trans kQ) jD dF gk eX (λk hk hM=>?_) λt ht=>?_
     ·obtain⟨q5,q6⟩:=q4 k hk hM;rw[gv k (cF hk (G7 _ _)) q5,q6]
     ·obtain⟨t1,t2⟩:=YW ht;rw[oc t t2,Sd _ _ _ t1]
    ·cases h
   ·cases h
  ·rename_i hw;rw[ao hw];split at h
   ·rename_i r2 uL;injection h with h;subst h;refine⟨λ_ _=>trivial,?_⟩;refine Sh l uL (λp hp=>hs p (fo.2 (.inr hp))) (hf.put (Map.le.refl _) (v:=undef) (v':=undef) (.inr (.same rfl)) o.dst CB λt=>Sb _ _ _ _) hm ha hu λdG r5 a2 w2 kQ jD dF gk eX gv oc=>?_;refine hQ dG r5 a2 w2 kQ jD dF gk eX gv λt ht=>?_;obtain⟨t1,t2⟩:=YW ht;rw[oc t t2,Sd _ _ _ t1]
   ·cases h
theorem aHJ{R:Option Nat}{ops:Array Oper}{Q:Exit->Act->World->Prop}(Inv:(Nat->Bool)->Act->World->Prop)
  (aHK:∀ i o,ops[i]?=some o->∀ e∈o.after,Region.binds .any e=true->e.on<i)
  (step:∀ L a w i o,Inv L a w->ops[i]?=some o->L i=false->(∀ e∈o.after,Region.binds .any e=true->L e.on=true)->wpOpIn (FW R) 0 P ops Q i (λa' w'=>Inv (λj=>L j||j==i) a' w') a w)
  (fin:∀ L a w,(∀ i,i<ops.size->L i=true)->Inv L a w->Q .normal a w)
  (aHL:∀ L L' a w,(∀ j,L j=L' j)->Inv L a w->Inv L' a w) :
  ∀(fuel:Nat) (listed:Array Bool) (a:Act) (w:h_),listed.size=ops.size->(listed.toList.countP (λb=>b=false))=fuel->Inv (λj=>listed.getD j false) a w->
   wpAnyIn (FW R) 0 P .any ops Q fuel listed a w:=by
 have aHM:∀ listed:Array Bool,listed.size=ops.size->Region.ready .any ops listed=[]->∀ i,i<ops.size->listed.getD i false=true:=by
  intro listed bC hr i;induction i using Nat.strongRecOn with
  |_ i ih=>
   intro hi;cases h:listed.getD i false with
   |true=>rfl
   |false=>
    exfalso;have:i∈Region.ready .any ops listed:=by
     rw[mem_ready];refine⟨?_,ops[i],yQ hi,λe he hb=>?_⟩
     ·have gy:i<listed.size:=by omega
      simp[qg,gy]at h ⊢;exact h
     ·have:=aHK i ops[i] (yQ hi) e he hb;exact ih e.on this o_
    rw[hr]at this;cases this
 intro fuel;induction fuel with
 |zero=>
  intro listed a w bC hc hI;have aY:∀ i,i<ops.size->listed.getD i false=true:=by
   intro i hi;have gy:i<listed.size:=by omega
   have h0:=List.countP_eq_zero.1 hc listed[i] s_;simp[qg,gy];simpa using h0
  refine⟨?_,fin _ a w aY hI⟩;cases hr:Region.ready .any ops listed with
  |nil=>rfl
  |cons i l=>
   have:i∈Region.ready .any ops listed:=by rw[hr];exact aP ..
   rw[mem_ready]at this;obtain⟨h1,o,ho,_⟩:=this;have hi:i<ops.size:=by
    rcases fm i ops.size with h|h
    ·exact h
    ·rw[YX h]at ho;cases ho
   have h2:=aY i hi;have gy:i<listed.size:=by omega
   simp[qg,gy]at h1 h2;rw[h1]at h2;cases h2
 |succ fuel ih=>
  intro listed a w bC hc hI;refine⟨λhr=>fin _ a w (aHM listed bC hr) hI,λi hi=>?_⟩;rw[mem_ready]at hi;obtain⟨h1,o,ho,aY⟩:=hi;have hi:i<ops.size:=by
   rcases fm i ops.size with h|h
   ·exact h
   ·rw[YX h]at ho;cases ho
  have gy:i<listed.size:=by omega
  have oM:listed.getD i false=false:=by simp[qg,gy]at h1 ⊢;exact h1
  refine wpOpIn_mono (λa' w' h=>?_) (step _ a w i o hI ho oM aY);refine ih (listed.setIfInBounds i true) a' w' (by simp[bC]) ?_ (aHL _ _ a' w' (λj=>?_) h)
  ·have ak:i<listed.toList.length:=by simpa using gy
   have JE:listed.toList[i]=false:=by simp[qg,gy]at oM;simpa using oM
   rw[aHN];have key:∀(l:List Bool) (i:Nat) (h:i<l.length),l[i]=false->(l.set i true).countP (λb=>b=false)+1=l.countP (λb=>b=false):=by
    intro l;induction l with
    |nil=>intro i h;simp at h
    |cons b l ih=>
     intro i h hb;cases i with
     |zero=>simp at hb;subst hb;simp
     |succ i=>
      simp at hb h;have:=ih i h hb;simp only[List.set_cons_succ,List.countP_cons];omega
   have:=key listed.toList i ak JE;omega
  ·by_cases pB:j=i
   ·subst pB;simp[qg,gy]
   ·have:(listed.setIfInBounds i true).getD j false=listed.getD j false:=by simp[qg,Sc (mN pB)]
    rw[this];simp[pB]
def JF(acc:l_)(o:Oper):Nat:=o.after.toList.foldl (λs e=>if Region.binds .any e then s||| (2^e.on||| acc.getD e.on 0)else s) 0
def CC:List Oper->List Nat->List Nat
 |[],acc=>acc
 |o::l,acc=>CC l (acc++[JF acc o])
def JG(o:Oper):List Nat:=o.op.operands.toList.filterMap λ| .tmp t=>some t|_=>none
theorem YY(acc:l_):∀(es:List Edge) (s j:Nat),(es.foldl (λs e=>if Region.binds .any e then s||| (2^e.on||| acc.getD e.on 0)else s) s).testBit j=true->
  s.testBit j=true\/∃ e∈es,Region.binds .any e=true/\(e.on=j\/(acc.getD e.on 0).testBit j=true)
 |[],s,j,h=>.inl h
 |e::es,s,j,h=>by
  rw[vH]at h;rcases YY acc es _ j h with h|⟨e',uN,h⟩
  ·by_cases hb:Region.binds .any e=true
   ·rw[ax hb,YZ,YZ,Nat.testBit_two_pow]at h;simp only[tE,r6]at h;rcases h with h|h|h
    ·exact .inl h
    ·exact .inr ⟨e,aP ..,hb,.inl h⟩
    ·exact .inr ⟨e,aP ..,hb,.inr h⟩
   ·rw[ao hb]at h;exact .inl h
  ·exact .inr ⟨e',bH _ uN,h⟩
def Y0(ops:List Oper)(acc:l_):Prop:=
 ∀ k,k<acc.length->∀ j,(acc.getD k 0).testBit j=true->∃ o,ops[k]?=some o/\∃ e∈o.after,Region.binds .any e=true/\(e.on=j\/(acc.getD e.on 0).testBit j=true)
theorem Y1:∀(l pre:List Oper) (acc:l_),acc.length=pre.length->Y0 (pre++l) acc->
  (∀ i o,(pre++l)[i]?=some o->∀ e∈o.after,Region.binds .any e=true->e.on<i)->Y0 (pre++l) (CC l acc)/\(CC l acc).length=(pre++l).length
 |[],pre,acc,hl,hg,_=>⟨hg,by simp[CC,hl]⟩
 |o::l,pre,acc,hl,hg,hd=>by
  have e:pre++o::l=(pre++[o])++l:=by simp
  rw[e]at hg hd ⊢;refine Y1 l (pre++[o]) (acc++[JF acc o]) (by simp[hl]) ?_ hd;have c9:∀ k,k<acc.length->(acc++[JF acc o]).getD k 0=acc.getD k 0:=λk hk=>by rw[EK,EK,JH hk]
  intro k hk j hj;rcases fm k acc.length with ak|fR
  ·rw[c9 k ak]at hj;obtain⟨o',r7,e',uN,hb,h⟩:=hg k ak j hj;refine⟨o',r7,e',uN,hb,?_⟩;rcases h with h|h
   ·exact .inl h
   ·right;have:e'.on<k:=hd k o' r7 e' uN hb;rw[c9 _ o_];exact h
  ·have ij:k=acc.length:=by simp at hk;omega
   subst ij;have ho:((pre++[o])++l)[acc.length]?=some o:=by rw[hl];simp
   have hm:(acc++[JF acc o]).getD acc.length 0=JF acc o:=by rw[EK,EL (bA _)];simp
   rw[hm]at hj;rcases YY acc o.after.toList 0 j hj with h|⟨e',uN,hb,h⟩
   ·simp at h
   ·have uN:e'∈o.after:=MU.1 uN;refine⟨o,ho,e',uN,hb,?_⟩;rcases h with h|h
    ·exact .inl h
    ·right;have:e'.on<acc.length:=hd acc.length o ho e' uN hb;rw[c9 _ this];exact h
def gV{α:Type}(u:Nat->Nat->Option α)(c0:Nat->α)(L:Nat->Bool):Nat->Nat->α
 |0,k=>c0 k
 |i+1,k=>if L i then(match u i k with|some x=>x|none=>gV u c0 L i k)else gV u c0 L i k
theorem Y2(u:Nat->Nat->Option α)(c0:Nat->α)(L:Nat->Bool)(i k:Nat):gV u c0 L (i+1) k=if L i then(match u i k with|some x=>x|none=>gV u c0 L i k)else gV u c0 L i k:=rfl
theorem Sj{u:Nat->Nat->Option α}{c0:Nat->α}{L:Nat->Bool}:∀(n:Nat),i<=n->(∀ j,j<n->u j k≠none->(L j=true↔j<i))->gV u c0 L n k=gV u c0 (λ_=>true) i k:=by
 have below:∀ m,m<=i->(∀ j,j<m->u j k≠none->L j=true)->gV u c0 L m k=gV u c0 (λ_=>true) m k:=by
  intro m;induction m with
  |zero=>intro _ _;rfl
  |succ m ih=>
   intro hm h;show(if L m then _ else _)=(if true then _ else _);have ih:=ih o_ λj hj=>h j o_;cases hu:u m k with
   |none=>simp only[ih];simp
   |some x=>rw[h m o_ (by rw[hu];exact n_)];rfl
 intro n;induction n with
 |zero=>
  intro hi _;have:i=0:=by omega
  subst this;rfl
 |succ n ih=>
  intro hi h;rcases fm n i with ak|fR
  ·have:i=n+1:=by omega
   subst this;exact below (n+1) (bA _) λj hj hu=>(h j hj hu).2 hj
  ·have ih:=ih fR λj hj=>h j o_;show(if L n then _ else _)=_;cases hu:u n k with
   |none=>simp only[ih];simp
   |some x=>
    have:L n=false:=by
     cases hL:L n with
     |false=>rfl
     |true=>have:=(h n o_ (by rw[hu];exact n_)).1 hL;omega
    rw[this,ih];rfl
theorem Y3{u:Nat->Nat->Option α}{c0:Nat->α}{L:Nat->Bool}(hi:L i=false)(hk:∀ j,j<m->i<j->L j=true->u i k≠none->u j k=none):
  ∀(n:Nat),n<=m->i<n->gV u c0 (λj=>L j||j==i) n k=match u i k with|some x=>x|none=>gV u c0 L n k:=by
 have before:∀ m,m<=i->gV u c0 (λj=>L j||j==i) m k=gV u c0 L m k:=by
  intro m;induction m with
  |zero=>intro _;rfl
  |succ m ih=>
   intro hm;show(if(L m||m==i)then _ else _)=(if L m then _ else _);rw[ih o_];have:(m==i)=false:=by simp;omega
   rw[this,Bool.or_false]
 intro n;induction n with
 |zero=>intro _ h;omega
 |succ n ih=>
  intro lL h;show(if(L n||n==i)then(match u n k with|some x=>x|none=>gV u c0 (λj=>L j||j==i) n k)else gV u c0 (λj=>L j||j==i) n k)=match u i k with|some x=>x|none=>(if L n then(match u n k with|some x=>x|none=>gV u c0 L n k)else gV u c0 L n k)
  rcases fm i n with ak|fR
  ·rw[ih o_ ak];have e:(n==i)=false:=by simp;omega
   rw[e,Bool.or_false];cases hL:L n with
   |false=>simp
   |true=>
    cases hu:u i k with
    |none=>rfl
    |some x=>rw[hk n o_ ak hL (by rw[hu];exact n_)];rfl
  ·have:i=n:=by omega
   subst this;rw[before i (bA _),hi];simp
def MZ(ops:List Oper)(o:Oper):List Nat:=match o.guard with
 |some (j,_)=>match (ops[j]?).bind (·.dst)with|some t=>[t]|none=>[]
 |none=>[]
def Sk(ops:List Oper)(o:Oper)(t:Nat):Bool:=(JG o++MZ ops o).any λs=>Nat.beq s t
def M3(l m:l_):Bool:=l.any λa=>m.any λb=>Nat.beq a b
def wT(ops:List Oper)(o:Oper)(e:List Nat×List Nat)(p:Oper)(f:List Nat×List Nat):Bool:=
 (match p.dst with|some t=>Sk ops o t||(match o.dst with|some d=>Nat.beq d t|none=>false)|none=>false)||M3 f.2 e.1
def EM(ops:List Oper)(nD:List (List Nat×List Nat)):Bool:=
 (List.range ops.length).all λi=>match ops[i]?,nD[i]? with
  |some o,some e=>(o.after.toList.all λg=>!Region.binds .any g||Nat.blt g.on i)&&
   (List.range i).all λj=>Nat.testBit ((CC ops []).getD i 0) j||(match ops[j]?,nD[j]? with|some p,some f=>!wT ops o e p f&&!wT ops p f o e|_,_=>false)
  |_,_=>false
section
variable{P:j_}{B:aa}{N:Nat}{ops:Array Oper}
structure Sl(P:j_)(B:aa)(N:Nat)(ops:Array Oper)(l:List Oper)(fr:aN)(M:aH)(next:Nat)(r:qX P B N) where
 r8:Nat->aN
 Ms:Nat->aH
 AX:Nat->Nat
 es:Nat->qU
 Y4:r8 0=fr
 Sn:Ms 0=M
 Sp:AX 0=next
 Y5:r8 l.length=r.fr
 Y6:Ms l.length=r.M
 Y7:AX l.length=r.next
 nD:∀ i,i<l.length->r.nD[i]?=some (keys (es i).need,keys (es i).cX)
 step:∀ i o,l[i]?=some o->CA N (r8 i) ops o=true/\r8 (i+1)=JD (r8 i) o.dst (es i).val/\Ms (i+1)=(es i).cX++Ms i/\AX (i+1)=AW (AX i) (es i).cX/\Cx (ai (Ms i)) (AX i) (es i)/\
  ((Cz (r8 i) ops o=true/\AQ (bI (r8 i)) o=true/\cA P B o (o.op.operands.toList.map (gj (bI (r8 i)))) (es i).need (es i).val (es i).cX)\/(Cz (r8 i) ops o=false/\es i=⟨undef,[],[]⟩))
theorem Sq:∀(l:List Oper) {fr:aN} {M:aH} {next:Nat} {rs:bL P B N} {r:qX P B N},yS ops l fr M next rs=some r->rY r.tr->Nonempty (Sl P B N ops l fr M next r)
 |[],fr,M,next,rs,r,h,_=>by injection h with h;subst h;exact⟨⟨λ_=>fr,λ_=>M,λ_=>next,λ_=>⟨undef,[],[]⟩,rfl,rfl,rfl,rfl,rfl,rfl,λi hi=>by simp at hi,λi o h=>by simp at h⟩⟩
 |o::l,fr,M,next,rs,r,h,hs=>by
  unfold yS at h;by_cases ob:CA N fr ops o=true
  case neg=>rw[ao ob]at h;cases h
  rw[ax ob]at h;have build:∀(e:qU) (r2:qX P B N) (tr:vG),r=r2.more tr (keys e.need,keys e.cX)->Cx (ai M) next e->Nonempty (Sl P B N ops l (JD fr o.dst e.val) (e.cX++M) (AW next e.cX) r2)->
    ((Cz fr ops o=true/\AQ (bI fr) o=true/\cA P B o (o.op.operands.toList.map (gj (bI fr))) e.need e.val e.cX)\/(Cz fr ops o=false/\e=⟨undef,[],[]⟩))->Nonempty (Sl P B N ops (o::l) fr M next r):=by
   rintro e r2 tr rfl bj ⟨T⟩ bT
   refine⟨⟨λi=>match i with|0=>fr|i+1=>T.r8 i,λi=>match i with|0=>M|i+1=>T.Ms i,λi=>match i with|0=>next|i+1=>T.AX i,λi=>match i with|0=>e|i+1=>T.es i,rfl,rfl,rfl,T.Y5,T.Y6,T.Y7,λi hi=>?_,λi o' ho=>?_⟩⟩
   ·cases i with
    |zero=>rfl
    |succ i=>exact T.nD i (by simpa using hi)
   ·cases i with
    |zero=>
     simp at ho;subst ho;exact⟨ob,T.Y4,T.Sn,T.Sp,bj,bT⟩
    |succ i=>exact T.step i o' (by simpa using ho)
  split at h
  ·rename_i hw;split at h
   ·rename_i e EG EJ bT;split at h
    ·rename_i r2 uL;injection h with h;have pC:rY EJ/\rY r2.tr:=by subst h;exact⟨λp hp=>hs p (fo.2 (.inl hp)),λp hp=>hs p (fo.2 (.inr hp))⟩
     obtain⟨au,tD,oP⟩:=Sa (B:=B) bT pC.1;exact build e r2 EJ h.symm oP (Sq l uL pC.2) (.inl ⟨hw,au,tD⟩)
    ·cases h
   ·cases h
  ·rename_i hw;split at h
   ·rename_i r2 uL;injection h with h;have pC:rY r2.tr:=by subst h;exact λp hp=>hs p (fo.2 (.inr hp))
    exact build ⟨undef,[],[]⟩ r2 [] h.symm ⟨λp hp=>(by cases hp),λp hp=>(by cases hp)⟩ (Sq l uL pC) (.inr ⟨by simpa using hw,rfl⟩)
   ·cases h
def M4(ops:List Oper)(L:Nat->Bool):Prop:=∀ i o,ops[i]?=some o->L i=true->∀ e∈o.after,Region.binds .any e=true->L e.on=true
theorem G8{l:List α}{x:α}(h:l[i]?=some x):i<l.length:=by
 rcases fm i l.length with h1|h1
 ·exact h1
 ·rw[AM h1]at h;cases h
theorem Sr{l:List Oper}{nD:List (List Nat×List Nat)}(h:EM l nD=true)(ho:l[i]?=some o):∀ e∈o.after,Region.binds .any e=true->e.on<i:=by
 intro e he hb;unfold EM at h;rw[bd]at h;have:=h i (j4.2 (G8 ho));rw[ho]at this;split at this
 ·rename_i o' e' h1 h2;injection h1 with h1;subst h1;simp only[cZ,bd]at this;have:=this.1 e (MU.2 he);rw[hb]at this;simpa[yR]using this
 ·cases this
theorem Y8{l:List Oper}{nD:List (List Nat×List Nat)}(h:EM l nD=true){p:Oper}{e f:List Nat×List Nat}(ho:l[i]?=some o)(he:nD[i]?=some e)(hp:l[j]?=some p)(hf:nD[j]?=some f)(hj:j<i):
  ((CC l []).getD i 0).testBit j=true\/(wT l o e p f=false/\wT l p f o e=false):=by
 unfold EM at h;rw[bd]at h;have:=h i (j4.2 (G8 ho));rw[ho,he]at this;dsimp only at this;simp only[cZ,bd]at this;have:=this.2 j (j4.2 hj);rw[hp,hf]at this;simpa using this
theorem Y9{l:List Oper}{nD:List (List Nat×List Nat)}(h:EM l nD=true){L:Nat->Bool}(hL:M4 l L):∀(i:Nat) (o:Oper),l[i]?=some o->(∀ e∈o.after,Region.binds .any e=true->L e.on=true)->
  ∀ j,((CC l []).getD i 0).testBit j=true->L j=true/\j<i:=by
 obtain⟨hg,hlen⟩:=Y1 l [] [] rfl (λk hk=>by simp at hk) (λi o ho e he hb=>Sr h (by simpa using ho) e he hb);simp only[jG]at hg hlen;intro i;induction i using Nat.strongRecOn with
 |_ i ih=>
  intro o ho hd j hj;have hi:i<(CC l []).length:=by rw[hlen];exact G8 ho
  obtain⟨o',r7,e,he,hb,lj⟩:=hg i hi j hj;rw[ho]at r7;injection r7 with r7;subst r7;have ak:=Sr h ho e he hb;have Za:=hd e he hb;rcases lj with rfl|lj
  ·exact⟨Za,ak⟩
  ·have aHO:e.on<l.length:=by
    have:i<l.length:=by rw[<-hlen];exact hi
    omega
   have Zb:=aT aHO;obtain⟨h1,h2⟩:=ih e.on ak _ Zb (λe' uN kR=>hL e.on _ Zb Za e' uN kR) j lj;exact⟨h1,by omega⟩
theorem Zc{l m:l_}(h1:a∈l)(h2:a∈m):M3 l m=true:=by unfold M3;rw[rZ];refine⟨a,h1,?_⟩;rw[rZ];exact⟨a,h2,by simp⟩
theorem aHP{l:List Oper}{t:Nat}(h:t∈JG o++MZ l o):Sk l o t=true:=by unfold Sk;rw[rZ];exact⟨t,h,by simp⟩
theorem Ss{l:List (Nat×α)}{p:Nat×α}(h:p∈l):p.1∈keys l:=dj.2 ⟨p,h,rfl⟩
theorem aHQ{t:Nat}(h:Operand.tmp t∈o.op.operands):t∈JG o:=by unfold JG;exact YQ.2 ⟨.tmp t,MU.2 h,rfl⟩
def uS(ops:List Oper)(es:Nat->qU)(j t:Nat):Option Value:=match (ops[j]?).bind (·.dst)with|some d=>if d=t then some (es j).val else none|none=>none
def uM(es:Nat->qU)(j k:Nat):Option (Option Obj):=match ai (es j).cX k with|some x=>some (some x)|none=>none
theorem Zd(k:Nat):lI c (es i).cX k=match uM es i k with|some x=>x|none=>c k:=by rw[wM];unfold uM;cases ai (es i).cX k<;>rfl
theorem Su(h:uM es i k≠none):k∈keys (es i).cX:=by
 unfold uM at h;cases hk:ai (es i).cX k with
 |none=>rw[hk]at h;exact absurd rfl h
 |some x=>exact Ss (jf hk)
theorem Sv{l:List Oper}{t:Nat}(h:uS l es j t≠none):∃ p,l[j]?=some p/\p.dst=some t:=by
 unfold uS at h;cases hp:l[j]? with
 |none=>rw[hp]at h;exact absurd rfl h
 |some p=>
  rw[hp]at h;simp only[YS]at h;cases hd:p.dst with
  |none=>rw[hd]at h;exact absurd rfl h
  |some d=>
   rw[hd]at h;dsimp only at h;by_cases EI:d=t
   ·exact⟨p,rfl,by rw[hd,EI]⟩
   ·rw[ao EI]at h;exact absurd rfl h
theorem Ze{l:List Oper}{t:Nat}{p:Oper}(hp:l[j]?=some p):uS l es j t=if p.dst=some t then some (es j).val else none:=by
 unfold uS;rw[hp];simp only[YS];cases p.dst with
 |none=>rfl
 |some d=>by_cases h:d=t<;>simp[h]
theorem aHR{R:Option Nat}{next:Nat}{rs:bL P B N}{r:qX P B N}{cc:Nat->Option Obj}{Q:Exit->Act->World->Prop}{a:Act}{id:Nat}(iE:P.follows .mixedOrders=true)
  (hs:yS ops ops.toList fr M next rs=some r) (AK:rY r.tr) (h:EM ops.toList r.nD=true) (hf:fA B ι (bI fr) N a) (hm:aM B ι cc w) (ha:da cc M) (hu:eU cc next)
  (hQ:Sg B N cc M next ι a (wR ops.toList) r (Q .normal)):(Code.region id ops true).wpIn (FW R) 0 P Q a w:=by
 obtain⟨T⟩:=Sq _ hs AK;have yI:ops.size=ops.toList.length:=by simp
 have JE:∀(i:Nat),ops[i]?=ops.toList[i]?:=λi=>by simp
 generalize hn:ops.toList.length=n at *
 -- the order of the text
 have text:∀ i,i<=n->(∀ t,bI (T.r8 i) t=gV (uS ops.toList T.es) (bI fr) (λ_=>true) i t)/\da (gV (uM T.es) cc (λ_=>true) i) (T.Ms i)/\eU (gV (uM T.es) cc (λ_=>true) i) (T.AX i)/\next<=T.AX i/\
   (∀ k,k<next->ai M k=none->ai (T.Ms i) k=none/\gV (uM T.es) cc (λ_=>true) i k=cc k):=by
  intro i;induction i with
  |zero=>intro _;exact⟨λt=>by rw[T.Y4];rfl,by rw[T.Sn];exact ha,by rw[T.Sp];exact hu,by rw[T.Sp];exact bA _,λk _ hk=>⟨by rw[T.Sn];exact hk,rfl⟩⟩
  |succ i ih=>
   intro hi;obtain⟨h1,h2,h3,h4,h5⟩:=ih o_;have ho:=aT (l:=ops.toList) (i:=i) o_;obtain⟨_,s2,s3,s4,s5,_⟩:=T.step i _ ho;obtain⟨q1,q2,q3,q4⟩:=Sf s5 h2 h3;have e:gV (uM T.es) cc (λ_=>true) (i+1)=lI (gV (uM T.es) cc (λ_=>true) i) (T.es i).cX:=funext λk=>by rw[Zd,Y2];cases uM T.es i k<;>rfl
   refine⟨λt=>?_,by rw[s3,e];exact q2,by rw[s4,e];exact q3,by rw[s4];exact di h4 (G7 _ _),λk hk hM=>?_⟩
   ·rw[s2,Sb];rw[Y2,Ze ho,h1 t];by_cases hd:(ops.toList[i]).dst=some t
    ·rw[ax hd,ax hd];rfl
    ·rw[ao hd,ao hd];rfl
   ·obtain⟨p1,p2⟩:=h5 k hk hM;obtain⟨p3,p4⟩:=q4 k o_ p1;exact⟨by rw[s3];exact p3,by rw[e,p4,p2]⟩
 -- which of two that wT has Zf up
 have ordered:∀{L:Nat->Bool} (hL:M4 ops.toList L) {i:Nat} {o:Oper},ops.toList[i]?=some o->L i=false->(∀ e∈o.after,Region.binds .any e=true->L e.on=true)->∀{j:Nat} {p:Oper},ops.toList[j]?=some p->j≠i->
   wT ops.toList o (keys (T.es i).need,keys (T.es i).cX) p (keys (T.es j).need,keys (T.es j).cX)=true\/wT ops.toList p (keys (T.es j).need,keys (T.es j).cX) o (keys (T.es i).need,keys (T.es i).cX)=true->(L j=true↔j<i):=by
  intro L hL i o ho EN M5 j p hp pB tF;have ei:=T.nD i (G8 ho);have ej:=T.nD j (G8 hp);rcases EO pB with ak|tG
  ·rcases Y8 h ho ei hp ej ak with hb|⟨qh,gW⟩
   ·have:=(Y9 h hL i o ho M5 j hb).1;exact⟨λ_=>ak,λ_=>this⟩
   ·rcases tF with tF|tF
    ·rw[qh]at tF;cases tF
    ·rw[gW]at tF;cases tF
  ·rcases Y8 h hp ej ho ei tG with hb|⟨qh,gW⟩
   ·refine⟨λAY=>?_,λak=>by omega⟩;have:=(Y9 h hL j p hp (λe he EP=>hL j p hp AY e he EP) i hb).1;rw[EN]at this;cases this
   ·rcases tF with tF|tF
    ·rw[gW]at tF;cases tF
    ·rw[qh]at tF;cases tF
 have Zg:∀{α:Type} (u:Nat->Nat->Option α) (c0:Nat->α) (L:Nat->Bool) (k:Nat),(∀ j,L j=false)->∀ m,gV u c0 L m k=c0 k:=by
  intro α u c0 L k hL m;induction m with
  |zero=>rfl
  |succ m ih=>show(if L m then _ else _)=_;rw[hL m,ih];rfl
 have aVM:∀{α:Type} (u:Nat->Nat->Option α) (c0:Nat->α) (L L':Nat->Bool) (k:Nat),(∀ j,L j=L' j)->∀ m,gV u c0 L m k=gV u c0 L' m k:=by intro α u c0 L L' k hL m;rw[show L=L' from funext hL]
 refine wpIn_region_any iE (aHJ (λL a' w'=>∃ ay,Map.le ι ay/\fA B ay (gV (uS ops.toList T.es) (bI fr) L n) N a'/\M4 ops.toList L/\aM B ay (gV (uM T.es) cc L n) w'/\(∀ t,wR ops.toList t=false->a'.tmps.getD t undef=a.tmps.getD t undef))
  (λi o ho e he hb=>Sr h (by rw[<-JE];exact ho) e he hb) ?_ ?_ ?_ ops.size _ a _ s_ (by simp[List.countP_replicate]) ?_)
 ·-- one operation
  rintro L a' w' i o ⟨ay,hle,mP,ig,ER,yT⟩ ho EN M5
  have r7:ops.toList[i]?=some o:=by rw[<-JE];exact ho
  have cv:i<n:=by rw[<-hn];exact G8 r7
  obtain⟨t1,t2,t3,t4,t5⟩:=text i o_;obtain⟨s1,s2,s3,s4,s5,s6⟩:=T.step i o r7;have ord:=λ{j:Nat} {p:Oper}=>ordered ig r7 EN M5 (j:=j) (p:=p)
  -- the jR that it looks at
  have slot:∀ t,t∈JG o++MZ ops.toList o->gV (uS ops.toList T.es) (bI fr) L n t=bI (T.r8 i) t:=by
   intro t ht;rw[t1 t];refine Sj n o_ λj hj hu=>?_;obtain⟨p,hp,G9⟩:=Sv hu;by_cases pB:j=i
   ·subst pB;rw[EN];exact⟨λe=>(by cases e),λe=>o_⟩
   ·refine ord hp pB (.inl ?_);unfold wT;rw[G9];simp only[aHP ht,Ha]
  have marks:∀ p∈(T.es i).need,gV (uM T.es) cc L n p.1=p.2:=by
   intro q hq;rw[<-(Sf s5 t2 t3).1 q hq];refine Sj n o_ λj hj hu=>?_;have hk:=Su hu;by_cases pB:j=i
   ·subst pB;rw[EN];exact⟨λe=>(by cases e),λe=>o_⟩
   ·have hp:=aT (l:=ops.toList) (i:=j) o_;refine ord hp pB (.inl ?_);unfold wT;rw[Zc hk (Ss hq),Bool.or_true]
  -- what stands behind it
  have Zh:M4 ops.toList (λj=>L j||j==i):=by
   intro k p hp CD e he hb;simp only[tE,beq_iff_eq]at CD ⊢;rcases CD with CD|rfl
   ·exact .inl (ig k p hp CD e he hb)
   ·rw[r7]at hp;injection hp with hp;subst hp;exact .inl (M5 e he hb)
  have Zi:∀ t,gV (uS ops.toList T.es) (bI fr) (λj=>L j||j==i) n t=if o.dst=some t then(T.es i).val else gV (uS ops.toList T.es) (bI fr) L n t:=by
   intro t;rw[Y3 (i:=i) (m:=n) EN (λj hjn hj AY hu=>?_) n (bA _) cv,Ze r7]
   ·by_cases hd:o.dst=some t<;>simp[hd]
   ·obtain⟨q,hq,hqd⟩:=Sv hu;rw[r7]at hq;injection hq with hq;subst hq;apply jI;intro bj;obtain⟨p,hp,G9⟩:=Sv bj;have:=(ord hp o_ (.inl (by unfold wT;rw[G9,hqd];simp))).1 AY;omega
  have Zj:gV (uM T.es) cc (λj=>L j||j==i) n=lI (gV (uM T.es) cc L n) (T.es i).cX:=by
   funext k
   rw[Y3 (i:=i) (m:=n) EN (λj hjn hj AY hu=>?_) n (bA _) cv,Zd]
   ·cases uM T.es i k<;>rfl
   ·apply jI;intro bj;have hp:=aT (l:=ops.toList) (i:=j) o_;have hk:=Su bj;have gv:=Su hu;obtain⟨q,hq,wQ⟩:=dj.1 gv;obtain⟨q2,qi,aHS⟩:=s5.2 q hq;have:=(ord hp o_ (.inl (by unfold wT;rw[Zc hk (by rw[<-wQ,<-aHS];exact Ss qi),Bool.or_true]))).1 AY;omega
  have other:∀ v,∀ t,wR ops.toList t=false->(a'.put o.dst v).tmps.getD t undef=a.tmps.getD t undef:=by intro v t ht;rw[Sd _ _ _ λhd=>?_,yT t ht];unfold wR at ht;rw[JI]at ht;have:=ht o (cH r7);rw[hd]at this;simp at this
  have CB:=YU s1;have aHT:Region.wanted o (yielded ops a'.tmps)=Cz (T.r8 i) ops o:=by refine YT mP ops o s1 λj b hg t ht=>slot t (fo.2 (.inr ?_));unfold MZ;rw[hg];dsimp only;rw[<-JE,ht];exact aP ..
  unfold wpOpIn;rw[ho];dsimp only;rw[aHT];rcases s6 with ⟨hw,au,tD⟩|⟨hw,he⟩
  ·rw[ax hw];simp only[AQ,cZ,bd,yP]at au;have ES:∀ x∈o.op.operands.toList,gj (gV (uS ops.toList T.es) (bI fr) L n) x=gj (bI (T.r8 i)) x:=by
    intro x hx;cases x with
    |tmp t=>exact slot t (fo.2 (.inl (aHQ (MU.1 hx))))
    |_=>rfl
   have Zk:=R8 mP o.op.operands.toList (λx hx=>by rw[ES x hx];exact au.1 x hx);rw[wU ES]at Zk;refine tD R ay _ a' w' Zk ER marks _ _ λdG v2 w2 kQ iF dF=>?_;exact⟨dG,hle.trans kQ,mP.put kQ (.inr iF) o.dst CB Zi,Zh,by rw[Zj];exact dF,other v2⟩
  ·rw[ao (by rw[hw];decide)];refine⟨λ_ _=>trivial,?_⟩;refine⟨ay,hle,mP.put (Map.le.refl _) (v':=undef) (.inr (by rw[he];exact .same rfl)) o.dst CB Zi,Zh,by rw[Zj,he];exact ER,other undef⟩
 ·-- all have Zf up
  rintro L a' w' aY ⟨ay,hle,mP,ig,ER,yT⟩
  obtain⟨t1,t2,t3,t4,t5⟩:=text n (bA _);have eN:∀{α:Type} (u:Nat->Nat->Option α) (c0:Nat->α),gV u c0 L n=gV u c0 (λ_=>true) n:=λu c0=>funext λk=>
   Sj n (bA _) λj hj _=>⟨λ_=>hj,λ_=>aY j o_⟩
  have e1:T.r8 n=r.fr:=by rw[<-hn];exact T.Y5
  have e2:T.Ms n=r.M:=by rw[<-hn];exact T.Y6
  have e3:T.AX n=r.next:=by rw[<-hn];exact T.Y7
  rw[eN]at ER;refine hQ ay _ a' w' hle ⟨mP.defers,mP.size,λt=>?_⟩ ER (by rw[<-e2];exact t2) (by rw[<-e3];exact t3) (λk hk hM=>(t5 k hk hM).2) yT;rw[<-e1,t1 t,<-eN];exact mP.slot t
 ·-- the numbers alone
  rintro L L' a' w' Zl ⟨ay,hle,mP,ig,ER,yT⟩
  have e:L=L':=funext Zl;subst e;exact⟨ay,hle,mP,ig,ER,yT⟩
 ·-- none has Zf up
  have hL:∀ j,(Array.replicate ops.size false).getD j false=false:=λj=>by simp[qg,Array.getElem?_replicate];split<;>rfl
  refine⟨ι,Map.le.refl _,⟨hf.defers,hf.size,λt=>?_⟩,λi o _ hi=>?_,?_,λ_ _=>rfl⟩
  ·rw[Zg _ _ _ _ hL];exact hf.slot t
  ·have:=(hL i).symm.trans hi;cases this
  ·exact(hm.drew _ (yO _)).ext λk=>Zg _ _ _ _ hL n
end
def ET(M:aH)(ks:aH):aH:=M.filter λp=>match ai ks p.1 with|some _=>false|none=>true
theorem Sw{ks:aH}:∀(M:aH) (k:Nat),ai (ET M ks) k=match ai ks k with|some _=>none|none=>ai M k
 |[],k=>by cases h:ai ks k<;>simp[ET,ai]
 |(j,x)::M,k=>by
  have ih:=Sw (ks:=ks) M k;unfold ET at ih ⊢;by_cases hj:j=k
  ·subst hj;cases h:ai ks j with
   |some y=>rw[h]at ih;rw[M6,ao (by simp[h])];exact ih
   |none=>rw[M6,ax (by simp[h])];simp[ai]
  ·have e:∀ M,ai ((j,x)::M) k=ai M k:=λM=>by show(if Nat.beq j k then _ else _)=_;rw[oO hj];rfl
   rw[e,<-ih];cases h:ai ks j with
   |some y=>rw[M6,ao (by simp[h])]
   |none=>rw[M6,ax (by simp[h]),e]
theorem aHU{cc b9:Nat->Option Obj}{M0 M1:aH}{next:Nat}(ha:da cc M)(hu:eU cc next)(h1:da b9 M1)(hk:∀ k,k<next->ai M0 k=none->b9 k=cc k):da b9 (M1++ET M M0):=by
 intro k x hx;rw[jQ]at hx;cases h:ai M1 k with
 |some y=>rw[h]at hx;exact h1 k x (by rw[h];exact hx)
 |none=>
  rw[h]at hx;dsimp only at hx;rw[Sw]at hx;cases h0:ai M0 k with
  |some y=>rw[h0]at hx;cases hx
  |none=>
   rw[h0]at hx;have hc:=ha k x hx;have:k<next:=by
    rcases fm k next with h|h
    ·exact h
    ·rw[hu k h]at hc;cases hc
   rw[hk k this h0];exact hc
structure j5(P:j_)(B:aa)(N:Nat) where
 ex:Ex
 fr:aN
 M:aH
 next:Nat
 rs:bL P B N
 tr:vG
section
variable{P:j_}{B:aa}{N:Nat}
def j5.more(r:j5 P B N)(tr:vG):j5 P B N:=⟨r.ex,r.fr,r.M,r.next,r.rs,tr++r.tr⟩
def j5.after(o:Option (j5 P B N))(tr:vG):Option (j5 P B N):=match o with|some r=>some (r.more tr)|none=>none
def j5.aHV(r:j5 P B N)(e:Ex):j5 P B N:=⟨e,r.fr,r.M,r.next,r.rs,r.tr⟩
def j5.out(r:j5 P B N):lK:=⟨r.ex,r.fr,r.M,r.next⟩
def Keys(M:aH)(next:Nat)(M':aH)(next':Nat):Prop:=next<=next'/\∀ k,k<next->ai M k=none->ai M' k=none
theorem Keys.refl(M:aH)(next:Nat):Keys M next M next:=⟨bA _,λ_ _ h=>h⟩
theorem Keys.trans{M1 M2:aH}{n:Nat}(h:Keys M n M1 n1)(k:Keys M1 n1 M2 n2):Keys M n M2 n2:=⟨di h.1 k.1,λj hj hM=>k.2 j (cF hj h.1) (h.2 j hj hM)⟩
def M7(fr:aN)(M:aH)(next:Nat)(c:Code)(key:Nat)(rs:bL P B N):Option (j5 P B N):=
 match rs with
 |.code Zm c' JJ M0 Sx r _::wO=>
  if Nat.beq Zm key&&(Nat.ble next r.next&&r.M.all λp=>Nat.ble next p.1||(match ai M0 p.1 with|some _=>true|none=>false))then
   some ⟨r.ex,r.fr++((wl c).map λt=>(t,GZ))++fr,r.M++ET M M0,r.next,wO,(.code c,.code c')::(.nat next,.nat Sx)::(JJ.map λp=>(n9.eT [bI fr p.1],n9.eT [p.2]))++M0.map λp=>(n9.obj (ai M p.1),n9.obj (some p.2))⟩
  else none
 |_=>none
def aHW:Bool->List Oper->List (List Nat×List Nat)->Bool
 |true,ops,nD=>EM ops nD
 |false,_,_=>true
def jg:Nat->Code->aN->aH->Nat->bL P B N->Option (j5 P B N)
 |0,_,_,_,_,_=>none
 |n+1,c,fr,M,next,rs=>
  match c with
  |.skip=>some ⟨.normal,fr,M,next,rs,[]⟩
  |.exit id=>some ⟨.exit id,fr,M,next,rs,[]⟩
  |.ret=>some ⟨.ret,fr,M,next,rs,[]⟩
  |.region id ops draw=>
   match M7 fr M next (.region id ops draw) (200000+id) rs with
   |some r=>some r
   |none=>
    match yS ops ops.toList fr M next rs with
    |some r=>if aHW draw ops.toList r.nD then some ⟨.normal,r.fr,r.M,r.next,r.rs,r.tr⟩else none
    |none=>none
  |.seq x y=>match jg n x fr M next rs with
   |some r=>match r.ex with
    |.normal=>j5.after (jg n y r.fr r.M r.next r.rs) r.tr
    |_=>some r
   |none=>none
  |.cond c x y=>match gj (bI fr) c with
   |.bool b=>if b then jg n x fr M next rs else jg n y fr M next rs
   |_=>none
  |.block id b=>
   match M7 fr M next (.block id b) id rs with
   |some r=>some r
   |none=>match jg n b fr M next rs with
    |some r=>match r.ex with
     |.exit k=>some (r.aHV (if Nat.beq k id then .normal else .exit k))
     |_=>some r
    |none=>none
  |.loop b=>match jg n b fr M next rs with
   |some r=>match r.ex with
    |.normal=>j5.after (jg n (.loop b) r.fr r.M r.next r.rs) r.tr
    |_=>some r
   |none=>none
  |_=>none
theorem Zn{o:Option (j5 P B N)}{tr:vG}{r:j5 P B N}(h:j5.after o tr=some r):∃ r',o=some r'/\r=r'.more tr:=by
 cases o with
 |none=>cases h
 |some r'=>injection h with h;exact⟨r',rfl,h.symm⟩
theorem Sy:∀(l m:aN) (t:Nat),(∃ v,(t,v)∈l/\bI (l++m) t=v/\bI l t=v)\/((∀ v,(t,v)∉l)/\bI (l++m) t=bI m t)
 |[],m,t=>.inr ⟨λv h=>(by cases h),rfl⟩
 |(s,v)::l,m,t=>by
  by_cases h:s=t
  ·subst h;exact .inl ⟨v,aP ..,by simp[bI],by simp[bI]⟩
  ·have e1:bI ((s,v)::l++m) t=bI (l++m) t:=by show(if Nat.beq s t then _ else _)=_;rw[oO h];rfl
   have e2:bI ((s,v)::l) t=bI l t:=by show(if Nat.beq s t then _ else _)=_;rw[oO h];rfl
   rcases Sy l m t with ⟨u,h1,h2,h3⟩|⟨h1,h2⟩
   ·exact .inl ⟨u,bH _ h1,by rw[e1,h2],by rw[e2,h3]⟩
   ·refine .inr ⟨λu hu=>?_,by rw[e1,h2]⟩;rcases ct.1 hu with hu|hu
    ·injection hu with dS eX;exact h dS.symm
    ·exact h1 u hu
theorem aHX{c:Code}{t:Nat}(h:t∈wl c):uK c t=true:=by unfold uK;rw[rZ];exact⟨t,h,by simp⟩
theorem M8{c:Code}{t:Nat}(h:uK c t=false):t∉wl c:=λhm=>by rw[aHX hm]at h;cases h
theorem JK{c:Code}{t:Nat}(h:t∉wl c):uK c t=false:=by
 cases hb:uK c t with
 |false=>rfl
 |true=>
  unfold uK at hb;rw[rZ]at hb;obtain⟨d,hd,he⟩:=hb;exact absurd (kt he▸hd) h
theorem aHY{c:Code}{AZ:aN}{a a':Act}(hle:Map.le ι ay)(hf:fA B ι (bI fr) N a)(h1:fA B ay (bI AZ) N a')(ht:∀ t,uK c t=false->a'.tmps.getD t undef=a.tmps.getD t undef):
  fA B ay (bI (AZ++((wl c).map λt=>(t,GZ))++fr)) N a':=by
 refine⟨h1.defers,h1.size,λt=>?_⟩;rw[EU];rcases Sy AZ (((wl c).map λt=>(t,GZ))++fr) t with ⟨v,_,h2,h3⟩|⟨_,h2⟩
 ·rw[h2,<-h3];exact h1.slot t
 ·rw[h2];rcases Sy ((wl c).map λt=>(t,GZ)) fr t with ⟨v,hv,h3,_⟩|⟨hn,h3⟩
  ·obtain⟨s,_,he⟩:=dj.1 hv;injection he with _ he;rw[h3,<-he];exact .inl rfl
  ·rw[h3,ht t (JK λhm=>hn GZ (dj.2 ⟨t,hm,rfl⟩))];exact(hf.slot t).mono hle
theorem Zo{next:Nat}{c:Code}{rs:bL P B N}{r:j5 P B N}(h:M7 fr M next c n2 rs=some r)(hs:rY r.tr):af P B N c fr M next r.out/\Keys M next r.M r.next:=by
 unfold M7 at h;split at h
 ·rename_i Zm c' JJ M0 Sx r0 ok wO;split at h
  ·rename_i qe;injection h with h;subst h;simp only[cZ,bd,tE]at qe;have e1:n9.code c=.code c':=hs _ (aP ..);have e2:n9.nat next=.nat Sx:=hs _ (bH _ (aP ..));injection e1 with e1;injection e2 with e2;subst e1;subst e2;have e3:∀ p∈JJ,bI fr p.1=p.2:=λp hp=>by have:n9.eT [bI fr p.1]=.eT [p.2]:=hs _ (fo.2 (.inl (bH _ (bH _ (dj.2 ⟨p,hp,rfl⟩)))));injection this with this;injection this
   have e4:∀ p∈M0,ai M p.1=some p.2:=λp hp=>by have:n9.obj (ai M p.1)=.obj (some p.2):=hs _ (fo.2 (.inr (dj.2 ⟨p,hp,rfl⟩)));injection this
   refine⟨?_,qc qe.2.1,λk hk hM=>?_⟩;rotate_left
   ·show ai (r0.M++ET M M0) k=none;rw[jQ];have h1:ai r0.M k=none:=by
     cases h1:ai r0.M k with
     |none=>rfl
     |some x=>
      rcases qe.2.2 _ (jf h1)with h2|h2
      ·have:=qc h2;dsimp only at this;omega
      ·dsimp only at h2;cases h0:ai M0 k with
       |none=>rw[h0]at h2;cases h2
       |some y=>have:=e4 _ (jf h0);dsimp only at this;rw[hM]at this;cases this
    rw[h1];show ai (ET M M0) k=none;rw[Sw,hM];cases ai M0 k<;>rfl
   intro R ι cc a w Q hf hm ha hu hQ;have A0:fA B ι (bI JJ) N a:=⟨hf.defers,hf.size,λt=>by
    have:∀(l:aN),(∀ p∈l,bI fr p.1=p.2)->nW ι (bI l t) (a.tmps.getD t undef):=by
     intro l;induction l with
     |nil=>intro _;exact .inl rfl
     |cons p l ih=>
      intro hl;obtain⟨s,v⟩:=p;by_cases bT:s=t
      ·subst bT;have this:bI fr s=v:=hl _ (aP ..);have e:bI ((s,v)::l) s=v:=by simp[bI]
       rw[e,<-this];exact hf.slot s
      ·have e:bI ((s,v)::l) t=bI l t:=by show(if Nat.beq s t then _ else _)=_;rw[oO bT];rfl
       rw[e];exact ih λp hp=>hl p (bH _ hp)
    exact this JJ e3⟩
   have nE:da cc M0:=λk x hk=>ha k x (by have:=e4 _ (jf hk);exact this);refine ok R ι cc a w Q A0 hm nE hu λay b9 a' w' hle wW bF iO pA ij EV=>?_;refine hQ ay b9 a' w' hle (aHY hle hf wW EV) bF (aHU ha hu iO ij) pA (λk hk hM=>ij k hk ?_) EV;cases h0:ai M0 k with
   |none=>rfl
   |some x=>have:=e4 _ (jf h0);dsimp only at this;rw[hM]at this;cases this
  ·cases h
 ·cases h
theorem SA{ops:Array Oper}:∀(l:List Oper) {fr:aN} {M:aH} {next:Nat} {rs:bL P B N} {r:qX P B N},yS ops l fr M next rs=some r->rY r.tr->Keys M next r.M r.next
 |[],fr,M,next,rs,r,h,_=>by injection h with h;subst h;exact Keys.refl _ _
 |o::l,fr,M,next,rs,r,h,hs=>by
  unfold yS at h;split at h
  ·split at h
   ·split at h
    ·rename_i e EG EJ bT;split at h
     ·rename_i r2 uL;injection h with h;subst h;obtain⟨_,_,oP⟩:=Sa (B:=B) bT (λp hp=>hs p (fo.2 (.inl hp)));have k2:=SA l uL λp hp=>hs p (fo.2 (.inr hp));refine Keys.trans (M1:=e.cX++M) (n1:=AW next e.cX) ⟨G7 _ _,λk hk hM=>?_⟩ k2;rw[jQ];cases h1:ai e.cX k with
      |none=>exact hM
      |some x=>
       exfalso;obtain⟨q,hq,wQ⟩:=oP.2 _ (jf h1);dsimp only at wQ;rcases oP.1 q hq with ⟨y,h2,h3⟩|⟨h2,h3⟩
       ·rw[wQ,hM]at h3;cases h3
       ·omega
     ·cases h
    ·cases h
   ·split at h
    ·rename_i r2 uL;injection h with h;subst h;have k2:=SA l uL λp hp=>hs p (fo.2 (.inr hp));exact k2
    ·cases h
  ·cases h
theorem aHZ{x y:Code}{next:Nat}{r2:lK}(h1:af P B N x fr M next r1)(hn:r1.ex=.normal)(hk:Keys M next r1.M r1.next)(h2:af P B N y r1.fr r1.M r1.next r2):af P B N (.seq x y) fr M next r2:=by intro R ι cc a w Q hf hm ha hu hQ;refine l9 (h1 R ι cc a w _ hf hm ha hu λbP gA a1 w1 ju ik c7 eE dS gY iP=>?_);rw[hn];refine h2 R bP gA a1 w1 Q ik c7 eE dS λdG r5 a2 w2 kQ jD dF gk eX gv oc=>?_;refine hQ dG r5 a2 w2 (ju.trans kQ) jD dF gk eX (λk qY hM=>by rw[gv k (cF qY hk.1) (hk.2 k qY hM),gY k qY hM]) λt ht=>?_;have CE:t∉wl x++wl y:=M8 ht;rw[oc t (JK λh=>CE (fo.2 (.inr h))),iP t (JK λh=>CE (fo.2 (.inl h)))]
theorem Zp{x y:Code}{next:Nat}(h1:af P B N x fr M next r1)(hn:r1.ex≠.normal):af P B N (.seq x y) fr M next r1:=by
 intro R ι cc a w Q hf hm ha hu hQ;refine l9 (h1 R ι cc a w _ hf hm ha hu λbP gA a1 w1 ju ik c7 eE dS gY iP=>?_);have:=hQ bP gA a1 w1 ju ik c7 eE dS gY λt ht=>iP t (JK λh=>(M8 ht:t∉wl x++wl y) (fo.2 (.inl h)));cases hx:r1.ex with
 |normal=>exact absurd hx hn
 |exit id=>rw[hx]at this;exact this
 |ret=>rw[hx]at this;exact this
theorem bO{b:Code}{id:Nat}{next:Nat}(h1:af P B N b fr M next r1):
  af P B N (.block id b) fr M next ⟨(match r1.ex with|.exit k=>if Nat.beq k id then .normal else .exit k|e=>e),r1.fr,r1.M,r1.next⟩:=by
 intro R ι cc a w Q hf hm ha hu hQ;refine JL (h1 R ι cc a w _ hf hm ha hu λbP gA a1 w1 ju ik c7 eE dS gY iP=>?_);have:=hQ bP gA a1 w1 ju ik c7 eE dS gY iP;cases hx:r1.ex with
 |normal=>rw[hx]at this;exact this
 |ret=>rw[hx]at this;exact this
 |exit k=>
  rw[hx]at this;dsimp only at this;show(if k=id then Q .normal a1 w1 else Q (.exit k) a1 w1);by_cases hk:k=id
  ·rw[ax hk];subst hk;rw[show Nat.beq k k=true from EW k]at this;exact this
  ·rw[ao hk];rw[oO hk]at this;exact this
theorem SB(iE:P.follows .mixedOrders=true):∀(n:Nat),
  (∀(c:Code) (fr:aN) (M:aH) (next:Nat) (rs:bL P B N) (r:j5 P B N),jg n c fr M next rs=some r->rY r.tr->af P B N c fr M next r.out/\Keys M next r.M r.next)/\
  (∀(b:Code) (fr:aN) (M:aH) (next:Nat) (rs:bL P B N) (r:j5 P B N),jg n (.loop b) fr M next rs=some r->rY r.tr->Keys M next r.M r.next/\∀(R:Option Nat) (ι:Map) (cc:Nat->Option Obj) (a:Act) (w:h_) (Q:Exit->Act->World->Prop),fA B ι (bI fr) N a->aM B ι cc w->da cc M->eU cc next->(∀ ay b9 a' w',Map.le ι ay->fA B ay (bI r.fr) N a'->aM B ay b9 w'->da b9 r.M->eU b9 r.next->(∀ k,k<next->ai M k=none->b9 k=cc k)->(∀ t,uK b t=false->a'.tmps.getD t undef=a.tmps.getD t undef)->Q r.ex.AU a' w')->Code.roundsIn (FW R) 0 P b Q n a w):=by
 intro n;induction n with
 |zero=>exact⟨λc fr M next rs r h=>by simp[jg]at h,λb fr M next rs r h=>by simp[jg]at h⟩
 |succ n ih=>
  obtain⟨wX,ihl⟩:=ih;have loop:∀(b:Code) (fr:aN) (M:aH) (next:Nat) (rs:bL P B N) (r:j5 P B N),jg (n+1) (.loop b) fr M next rs=some r->rY r.tr->
   Keys M next r.M r.next/\∀(R:Option Nat) (ι:Map) (cc:Nat->Option Obj) (a:Act) (w:h_) (Q:Exit->Act->World->Prop),fA B ι (bI fr) N a->aM B ι cc w->da cc M->eU cc next->
  (∀ ay b9 a' w',Map.le ι ay->fA B ay (bI r.fr) N a'->aM B ay b9 w'->da b9 r.M->eU b9 r.next->(∀ k,k<next->ai M k=none->b9 k=cc k)->(∀ t,uK b t=false->a'.tmps.getD t undef=a.tmps.getD t undef)->Q r.ex.AU a' w')->Code.roundsIn (FW R) 0 P b Q (n+1) a w:=by
   intro b fr M next rs r h hs;simp only[jg]at h;cases hb:jg n b fr M next rs with
   |none=>rw[hb]at h;cases h
   |some r1=>
    rw[hb]at h;dsimp only at h;have out:r1.ex≠.normal->r=r1->_:=λbj (e:r=r1)=>by
     subst e;obtain⟨g1,k1⟩:=wX b fr M next rs r hb hs;refine(⟨k1,λR ι cc a w Q hf hm ha hu hQ=>?_⟩:Keys M next r.M r.next/\∀(R:Option Nat) (ι:Map) (cc:Nat->Option Obj) (a:Act) (w:h_) (Q:Exit->Act->World->Prop),fA B ι (bI fr) N a->aM B ι cc w->da cc M->eU cc next->(∀ ay b9 a' w',Map.le ι ay->fA B ay (bI r.fr) N a'->aM B ay b9 w'->da b9 r.M->eU b9 r.next->(∀ k,k<next->ai M k=none->b9 k=cc k)->(∀ t,uK b t=false->a'.tmps.getD t undef=a.tmps.getD t undef)->Q r.ex.AU a' w')->Code.roundsIn (FW R) 0 P b Q (n+1) a w);rw[EX];refine g1 R ι cc a w _ hf hm ha hu λbP gA a1 w1 ju ik c7 eE dS gY iP=>?_;have:=hQ bP gA a1 w1 ju ik c7 eE dS gY iP;show Exit.then _ Q r.ex.AU a1 w1;cases hx:r.ex with
     |normal=>exact absurd hx bj
     |exit id=>rw[hx]at this;exact this
     |ret=>rw[hx]at this;exact this
    cases hex:r1.ex with
    |normal=>
     rw[hex]at h;obtain⟨r2,h2,he⟩:=Zn h;subst he;obtain⟨g1,k1⟩:=wX b fr M next rs r1 hb (λp hp=>hs p (fo.2 (.inl hp)));obtain⟨k2,g2⟩:=ihl b r1.fr r1.M r1.next r1.rs r2 h2 (λp hp=>hs p (fo.2 (.inr hp)));refine⟨k1.trans k2,λR ι cc a w Q hf hm ha hu hQ=>?_⟩;rw[EX];refine g1 R ι cc a w _ hf hm ha hu λbP gA a1 w1 ju ik c7 eE dS gY iP=>?_;show Exit.then _ Q r1.ex.AU a1 w1;rw[hex];refine g2 R bP gA a1 w1 Q ik c7 eE dS λdG r5 a2 w2 kQ jD dF gk eX gv oc=>?_;exact hQ dG r5 a2 w2 (ju.trans kQ) jD dF gk eX (λk qY hM=>(gv k (cF qY k1.1) (k1.2 k qY hM)).trans (gY k qY hM)) λt ht=>(oc t ht).trans (iP t ht)
    |exit id=>rw[hex]at h;injection h with h;exact out (by rw[hex];exact n_) h.symm
    |ret=>rw[hex]at h;injection h with h;exact out (by rw[hex];exact n_) h.symm
  refine⟨λc fr M next rs r h hs=>?_,loop⟩;cases c with
  |skip=>
   simp only[jg]at h;injection h with h;subst h;exact⟨λR ι cc a w Q hf hm ha hu hQ=>wpIn_skip (hQ ι cc a w (Map.le.refl _) hf hm ha hu (λ_ _ _=>rfl) λ_ _=>rfl),Keys.refl _ _⟩
  |exit id=>
   simp only[jg]at h;injection h with h;subst h;exact⟨λR ι cc a w Q hf hm ha hu hQ=>wpIn_exit (hQ ι cc a w (Map.le.refl _) hf hm ha hu (λ_ _ _=>rfl) λ_ _=>rfl),Keys.refl _ _⟩
  |ret=>
   simp only[jg]at h;injection h with h;subst h;exact⟨λR ι cc a w Q hf hm ha hu hQ=>wpIn_ret (hQ ι cc a w (Map.le.refl _) hf hm ha hu (λ_ _ _=>rfl) λ_ _=>rfl),Keys.refl _ _⟩
  |region id ops draw=>
   simp only[jg]at h;split at h
   ·rename_i r1 h1;injection h with h;subst h;exact Zo h1 hs
   ·split at h
    ·rename_i r1 h1;split at h
     ·rename_i hd;injection h with h;subst h;refine⟨λR ι cc a w Q hf hm ha hu hQ=>?_,SA _ h1 hs⟩;have Zq:Sg B N cc M next ι a (wR ops.toList) r1 (Q .normal):=λay b9 a' w' hle wW bF iO pA ij EV=>hQ ay b9 a' w' hle wW bF iO pA ij λt ht=>EV t (by
       have hn:t∉ops.toList.filterMap (·.dst):=M8 ht;cases hb:wR ops.toList t with
       |false=>rfl
       |true=>
        unfold wR at hb;rw[rZ]at hb;obtain⟨o,ho,M9⟩:=hb;exfalso;refine hn (YQ.2 ⟨o,ho,?_⟩);cases CB:o.dst with
        |none=>rw[CB]at M9;cases M9
        |some d=>rw[CB]at M9;rw[kt M9])
      cases draw with
      |false=>exact wpIn_region_list (Sh _ h1 hs hf hm ha hu Zq)
      |true=>exact aHR iE h1 hs hd hf hm ha hu Zq
     ·cases h
    ·cases h
  |seq x y=>
   simp only[jg]at h;cases hx:jg n x fr M next rs with
   |none=>rw[hx]at h;cases h
   |some r1=>
    rw[hx]at h;dsimp only at h;cases hex:r1.ex with
    |normal=>
     rw[hex]at h;obtain⟨r2,h2,he⟩:=Zn h;subst he;obtain⟨g1,k1⟩:=wX x fr M next rs r1 hx (λp hp=>hs p (fo.2 (.inl hp)));obtain⟨g2,k2⟩:=wX y r1.fr r1.M r1.next r1.rs r2 h2 (λp hp=>hs p (fo.2 (.inr hp)));exact⟨aHZ g1 hex k1 g2,k1.trans k2⟩
    |exit id=>
     rw[hex]at h;injection h with h;subst h;obtain⟨g1,k1⟩:=wX x fr M next rs r1 hx hs;exact⟨Zp g1 (by show r1.ex≠_;rw[hex];exact n_),k1⟩
    |ret=>
     rw[hex]at h;injection h with h;subst h;obtain⟨g1,k1⟩:=wX x fr M next rs r1 hx hs;exact⟨Zp g1 (by show r1.ex≠_;rw[hex];exact n_),k1⟩
  |cond EY x y=>
   simp only[jg]at h;cases hc:gj (bI fr) EY with
   |bool b=>
    rw[hc]at h;have he:∀(ι:Map) (a:Act),fA B ι (bI fr) N a->a.eval EY=.bool b:=by
     intro ι a hf;cases EY with
     |tmp t=>
      have:bI fr t=.bool b:=hc;have hs:=hf.slot t;rw[this]at hs;exact(hs.AJ rfl).bool
     |const v=>exact hc
     |global g=>exact hc
     |func f=>exact hc
    have fin:∀ z:Code,(∀ t,t∈wl z->t∈wl (Code.cond EY x y))->af P B N z fr M next r.out->(∀(R:Option Nat) (Q:Exit->Act->World->Prop) (a:Act) (w:h_),a.eval EY=.bool b->z.wpIn (FW R) 0 P Q a w->(Code.cond EY x y).wpIn (FW R) 0 P Q a w)->af P B N (.cond EY x y) fr M next r.out:=by intro z hz g hw R ι cc a w Q hf hm ha hu hQ;refine hw R Q a w (he ι a hf) (g R ι cc a w Q hf hm ha hu λbP gA a1 w1 ju ik c7 eE dS gY iP=>hQ bP gA a1 w1 ju ik c7 eE dS gY λt ht=>iP t (JK λhm=>M8 ht (hz t hm)))
    cases b with
    |true=>
     obtain⟨g1,k1⟩:=wX x fr M next rs r h hs;exact⟨fin x (λt ht=>fo.2 (.inl ht)) g1 (λR Q a w e h=>wpIn_cond e h),k1⟩
    |false=>
     obtain⟨g1,k1⟩:=wX y fr M next rs r h hs;exact⟨fin y (λt ht=>fo.2 (.inr ht)) g1 (λR Q a w e h=>wpIn_cond e h),k1⟩
   |_=>rw[hc]at h;cases h
  |block id b=>
   simp only[jg]at h;split at h
   ·rename_i r1 h1;injection h with h;subst h;exact Zo h1 hs
   ·cases hb:jg n b fr M next rs with
    |none=>rw[hb]at h;cases h
    |some r1=>
     rw[hb]at h;dsimp only at h;cases hex:r1.ex with
     |normal=>
      rw[hex]at h;injection h with h;subst h;obtain⟨g1,k1⟩:=wX b fr M next rs r1 hb hs;have:=bO (id:=id) g1;rw[show r1.out.ex=Ex.normal from hex]at this;refine⟨?_,k1⟩;have e:r1.out=⟨.normal,r1.fr,r1.M,r1.next⟩:=by unfold j5.out;rw[hex]
      rw[e];exact this
     |ret=>
      rw[hex]at h;injection h with h;subst h;obtain⟨g1,k1⟩:=wX b fr M next rs r1 hb hs;have:=bO (id:=id) g1;rw[show r1.out.ex=Ex.ret from hex]at this;refine⟨?_,k1⟩;have e:r1.out=⟨.ret,r1.fr,r1.M,r1.next⟩:=by unfold j5.out;rw[hex]
      rw[e];exact this
     |exit k=>
      rw[hex]at h;injection h with h;subst h;obtain⟨g1,k1⟩:=wX b fr M next rs r1 hb hs;have:=bO (id:=id) g1;rw[show r1.out.ex=Ex.exit k from hex]at this;exact⟨this,k1⟩
  |loop b=>
   obtain⟨k1,g1⟩:=loop b fr M next rs r h hs;exact⟨λR ι cc a w Q hf hm ha hu hQ=>SC (n+1) (g1 R ι cc a w Q hf hm ha hu hQ),k1⟩
  |_=>simp[jg]at h
end
section
variable{P:j_}{B:aa}{N:Nat}
theorem Zr{SD:aN}{a:Act}(hf:fA B ι (bI fr) N a)(h:∀ p∈SD,bI fr p.1=p.2):fA B ι (bI SD) N a:=by
 refine⟨hf.defers,hf.size,λt=>?_⟩;induction SD with
 |nil=>exact .inl rfl
 |cons p l ih=>
  obtain⟨s,v⟩:=p;by_cases bT:s=t
  ·subst bT;have this:bI fr s=v:=h _ (aP ..);have e:bI ((s,v)::l) s=v:=by simp[bI]
   rw[e,<-this];exact hf.slot s
  ·have e:bI ((s,v)::l) t=bI l t:=by show(if Nat.beq s t then _ else _)=_;rw[oO bT];rfl
   rw[e];exact ih λp hp=>h p (bH _ hp)
theorem af.to{c:Code}{next:Nat}{r2:lK}(h:af P B N c fr M next r1)(hex:r1.ex=r2.ex)(mP:∀ p∈r2.fr,bI r1.fr p.1=p.2)
  (hM:∀ p∈r2.M,ai r1.M p.1=some p.2) (hn:r1.next<=r2.next):af P B N c fr M next r2:=by
 intro R ι cc a w Q hf hm ha hu hQ;refine h R ι cc a w Q hf hm ha hu λbP gA a1 w1 ju ik c7 eE dS gY iP=>?_;rw[hex];exact hQ bP gA a1 w1 ju (Zr ik mP) c7 (λk x hk=>eE k x (hM _ (jf hk))) (λk hk=>dS k (di hn hk)) gY iP
theorem j6:∀{l m:aH},keys l=keys m->∀ k,(ai l k=none↔ai m k=none)
 |[],[],_,k=>Iff.rfl
 |[],_::_,h,k=>by cases h
 |_::_,[],h,k=>by cases h
 |(i,x)::l,(j,y)::m,h,k=>by
  injection h with h1 h2;dsimp only at h1;subst h1;show(if Nat.beq i k then some x else ai l k)=none↔(if Nat.beq i k then some y else ai m k)=none;cases Nat.beq i k
  ·exact j6 h2 k
  ·simp
theorem ch{b:Code}{next:Nat}{r:lK}(n:Nat)(I:Nat->aN)(J:Nat->aH)(lk:∀ i k,i<=n->(ai (J i) k=none↔ai (J 0) k=none))
  (body:∀ i,i<n->af P B N b (I i) (J i) next ⟨.normal,I (i+1),J (i+1),next⟩) (last:af P B N b (I n) (J n) next r) (hr:r.ex≠.normal):af P B N (.loop b) (I 0) (J 0) next r:=by
 intro R ι cc a w Q hf hm ha hu hQ;refine SC (n+1) ?_;have key:∀ d i,i+d=n->∀(bP:Map) (gA:Nat->Option Obj) (a1:Act) (w1:h_),Map.le ι bP->fA B bP (bI (I i)) N a1->aM B bP gA w1->da gA (J i)->eU gA next->(∀ k,k<next->ai (J 0) k=none->gA k=cc k)->
   (∀ t,uK (.loop b) t=false->a1.tmps.getD t undef=a.tmps.getD t undef)->Code.roundsIn (FW R) 0 P b Q (d+1) a1 w1:=by
  intro d;induction d with
  |zero=>
   intro i hi bP gA a1 w1 ju ik c7 eE dS gY iP;have:i=n:=by omega
   subst this;rw[EX];refine last R bP gA a1 w1 _ ik c7 eE dS λdG r5 a2 w2 kQ jD dF gk eX gv oc=>?_;have:=hQ dG r5 a2 w2 (ju.trans kQ) jD dF gk eX (λk hk h0=>(gv k hk ((lk i k (bA _)).2 h0)).trans (gY k hk h0)) λt ht=>(oc t ht).trans (iP t ht);show Exit.then _ Q r.ex.AU a2 w2;cases hx:r.ex with
   |normal=>exact absurd hx hr
   |exit id=>rw[hx]at this;exact this
   |ret=>rw[hx]at this;exact this
  |succ d ih=>
   intro i hi bP gA a1 w1 ju ik c7 eE dS gY iP;rw[EX];refine body i o_ R bP gA a1 w1 _ ik c7 eE dS λdG r5 a2 w2 kQ jD dF gk eX gv oc=>?_;exact ih (i+1) o_ dG r5 a2 w2 (ju.trans kQ) jD dF gk eX (λk hk h0=>(gv k hk ((lk i k o_).2 h0)).trans (gY k hk h0)) λt ht=>(oc t ht).trans (iP t ht)
 exact key n 0 o_ ι cc a w (Map.le.refl _) hf hm ha hu (λ_ _ _=>rfl) λ_ _=>rfl
theorem JM:∀{v v1 v2:i_},aK ι v v1->aK ι v v2->v1=v2:=by
 intro v v1 v2 h;revert v2;apply aK.rec (motive_1:=λv v1 _=>∀ v2,aK ι v v2->v1=v2) (motive_2:=λl l1 _=>∀ l2,bW (aK ι) l l2->l1=l2) (t:=h)
 case same=>intro v hf v2 h2;exact(h2.fk hf).symm
 case ptr=>
  intro k off b o cap hk v2 h2;obtain⟨b',o',bE,h3,h4⟩:=h2.wI rfl;rw[hk]at h3;injection h3 with h3;injection h3 with h3 h5 _;subst h3;subst h5;rw[h4]
 case slc=>
  intro k off b o n c c' cap hk h1 h2 v2 h3;rcases h3.hZ rfl with ⟨h4,_⟩|⟨b',o',bE,c2,h4,_,h6,h7⟩
  ·rw[hk]at h4;cases h4
  ·rw[hk]at h4;injection h4 with h4;injection h4 with h4 h5 h8;subst h4;subst h5;subst h8;rw[h7,show c'=c2 by omega]
 case slcN=>
  intro k hk v2 h3;rcases h3.hZ rfl with ⟨_,_,_,_,h4⟩|⟨b',o',bE,c2,h4,_⟩
  ·exact h4.symm
  ·rw[hk]at h4;cases h4
 case opq=>
  intro k v hk h1 h2 v2 h3;cases h3 with
  |same hf=>simp[flat,qR,pw,pv,lZ]at hf
  |opq ij _ _=>rw[hk]at ij;injection ij with ij;injection ij
 case fn=>
  intro f fi j0 ca gM _ _ SE SF v2 h3;obtain⟨fi2,Zs,e,h4,h5⟩:=h3.AH;rw[e,SE _ h4,SF _ h5]
 case agg=>
  intro cs cg _ ih v2 h3;obtain⟨cs2,e,h4⟩:=h3.GY;rw[e,ih _ h4]
 case tup=>
  intro cs cg _ ih v2 h3;obtain⟨cs2,e,h4⟩:=h3.uD;rw[e,ih _ h4]
 case nil=>intro l2 h2;cases h2;rfl
 case cons=>
  intro a b l m _ _ SE SF l2 h2;cases h2 with
  |cons h3 h4=>rw[SE _ h3,SF _ h4]
theorem EZ{ι:Map}:∀{l l1 l2:ah},bW (aK ι) l l1->bW (aK ι) l l2->l1=l2
 |_,_,_,.nil,h=>by cases h;rfl
 |_,_,_,.cons h t,h2=>by cases h2 with|cons h3 t3=>rw[JM h h3,EZ t t3]
def Hb(m:Nat)(a:Addr):Bool:=lZ a||Nat.blt a.block m
def CF(m:Nat):Value->Bool
 |.pointer (some a)=>Hb m a
 |.slice (some a) _ _=>Hb m a
 |.agg _=>false
 |.tuple _=>false
 |.func _ _ _=>false
 |_=>true
def CG(m:Nat):Value->Bool
 |.func _ fi ca=>fi.toList.all (CF m)&&ca.toList.all (CF m)
 |v=>CF m v
def E0(m:Nat):Value->Bool
 |.agg cs=>cs.toList.all (CG m)
 |v=>CG m v
def lM(m:Nat):Value->Bool
 |.tuple vs=>vs.toList.all (E0 m)
 |v=>E0 m v
theorem Na{v:i_}(h:pv v=true):CF m v=true:=by
 cases v with
 |pointer a=>cases a with
  |none=>rfl
  |some a=>show(lZ a||_)=true;rw[show lZ a=true from h];rfl
 |slice a n c=>cases a with
  |none=>rfl
  |some a=>show(lZ a||_)=true;rw[show lZ a=true from h];rfl
 |_=>exact h
theorem Nb{v:i_}(h:pw v=true):CG m v=true:=by
 cases v with
 |func f fi ca=>
  simp only[pw,cZ,bd]at h;simp only[CG,cZ,bd];exact⟨λc hc=>Na (h.1 c hc),λc hc=>Na (h.2 c hc)⟩
 |pointer a=>exact Na (v:=.pointer a) h
 |slice a n c=>exact Na (v:=.slice a n c) h
 |_=>first|rfl|exact h
theorem JN{v:i_}(h:qR v=true):E0 m v=true:=by
 cases v with
 |agg cs=>
  simp only[qR,bd]at h;simp only[E0,bd];exact λc hc=>Nb (h c hc)
 |pointer a=>exact Nb (v:=.pointer a) h
 |slice a n c=>exact Nb (v:=.slice a n c) h
 |func f fi ca=>exact Nb (v:=.func f fi ca) h
 |_=>first|rfl|exact h
theorem gB{v:i_}(h:flat v=true):lM m v=true:=by
 cases v with
 |tuple cs=>
  simp only[flat,bd]at h;simp only[lM,bd];exact λc hc=>JN (h c hc)
 |pointer a=>exact JN (v:=.pointer a) h
 |slice a n c=>exact JN (v:=.slice a n c) h
 |func f fi ca=>exact JN (v:=.func f fi ca) h
 |agg cs=>exact JN (v:=.agg cs) h
 |_=>first|rfl|exact h
theorem aK.low(sj:∀ k,k<m->∀ l,ι k=some l->κ k=some l){v:i_}(h:aK ι v v')(hb:lM m v=true):aK κ v v':=by
 have addr:∀(a:Addr) (s:Nat),a.spot=some s->Hb m a=true->a.block<m:=by intro a s hs h;unfold Hb lZ at h;rw[hs]at h;simpa[yR]using h
 have hP:∀ v v',aK ι v v'->CF m v=true->aK κ v v':=by
  intro v v' h hb;cases h with
  |same hf=>exact .same hf
  |ptr hk=>exact .ptr (sj _ (addr _ 7 rfl hb) _ hk)
  |slc hk h1 h2=>exact .slc (sj _ (addr _ 7 rfl hb) _ hk) h1 h2
  |slcN hk=>exact .slcN (sj _ (addr _ 7 rfl hb) _ hk)
  |opq hk h1 h2=>exact .opq (sj _ (addr _ 9 rfl hb) _ hk) h1 h2
  |_=>simp[CF]at hb
 have uC:∀(Q:Value->Bool),(∀ v v',aK ι v v'->Q v=true->aK κ v v')->∀ l l',bW (aK ι) l l'->(∀ c∈l,Q c=true)->bW (aK κ) l l':=by
  intro Q hQ l l' h;induction h with
  |nil=>intro _;exact .nil
  |cons h t ih=>
   intro hl;exact .cons (hQ _ _ h (hl _ (aP ..))) (ih λc hc=>hl c (bH _ hc))
 have h0:∀ v v',aK ι v v'->CG m v=true->aK κ v v':=by
  intro v v' h hb;cases h with
  |fn h1 h2=>
   simp only[CG,cZ,bd]at hb;exact .fn (uC _ hP _ _ h1 hb.1) (uC _ hP _ _ h2 hb.2)
  |same hf=>exact .same hf
  |ptr hk=>exact hP _ _ (.ptr hk) hb
  |slc hk h1 h2=>exact hP _ _ (.slc hk h1 h2) hb
  |slcN hk=>exact hP _ _ (.slcN hk) hb
  |opq hk h1 h2=>exact hP _ _ (.opq hk h1 h2) hb
  |_=>simp[CG,CF]at hb
 have h1:∀ v v',aK ι v v'->E0 m v=true->aK κ v v':=by
  intro v v' h hb;cases h with
  |agg h1=>
   simp only[E0,bd]at hb;exact .agg (uC _ h0 _ _ h1 hb)
  |same hf=>exact .same hf
  |ptr hk=>exact h0 _ _ (.ptr hk) hb
  |slc hk h1 h2=>exact h0 _ _ (.slc hk h1 h2) hb
  |slcN hk=>exact h0 _ _ (.slcN hk) hb
  |opq hk h1 h2=>exact h0 _ _ (.opq hk h1 h2) hb
  |fn h1 h2=>exact h0 _ _ (.fn h1 h2) hb
  |_=>simp[E0,CG,CF]at hb
 cases h with
 |tup h2=>
  simp only[lM,bd]at hb;exact .tup (uC _ h1 _ _ h2 hb)
 |same hf=>exact .same hf
 |ptr hk=>exact h1 _ _ (.ptr hk) hb
 |slc hk q1 q2=>exact h1 _ _ (.slc hk q1 q2) hb
 |slcN hk=>exact h1 _ _ (.slcN hk) hb
 |opq hk q1 q2=>exact h1 _ _ (.opq hk q1 q2) hb
 |fn q1 q2=>exact h1 _ _ (.fn q1 q2) hb
 |agg q1=>exact h1 _ _ (.agg q1) hb
def fe(m:Nat)(x:Obj):Prop:=∀ v∈x.cells,lM m v=true
theorem iM.below(sj:∀ k,k<m->∀ l,ι k=some l->κ k=some l){l:pY}{x:Obj}(h:iM ι w l x)(hb:fe m x):iM κ w l x:=by
 have uC:∀{l l':ah},bW (aK ι) l l'->(∀ c∈l,lM m c=true)->bW (aK κ) l l':=by
  intro l l' h hl;induction h with
  |nil=>exact .nil
  |cons h t ih=>exact .cons (h.low sj (hl _ (aP ..))) (ih λc hc=>hl c (bH _ hc))
 cases x with
 |aI cells ty=>obtain⟨b,cg,h1,h2,h3⟩:=h;exact⟨b,cg,h1,uC h2 hb,h3⟩
 |row cells ty size=>
  rcases h with h|⟨b,cap,cur,h1,h2,h3,h4,h5⟩
  ·exact .inl h
  ·exact .inr ⟨b,cap,cur,h1,h2,h3,h4,uC h5 hb⟩
 |view cells=>
  rcases h with h|⟨b,o,cap,cg,h1,h2,h3⟩
  ·exact .inl h
  ·exact .inr ⟨b,o,cap,cg,h1,uC h2 hb,h3⟩
 |fact F=>exact h
 |dead=>trivial
theorem af.reset{c:Code}{next:Nat}{r2:lK}(h:af P B N c fr M next r1)(hex:r1.ex=r2.ex)(mP:∀ p∈r2.fr,bI r1.fr p.1=p.2)(Nd:∀ p∈r2.fr,lM next p.2=true)
  (hM:∀ p∈r2.M,ai r1.M p.1=some p.2) (SG:∀ p∈r2.M,fe next p.2) (Nf:∀ p∈r2.M,p.1<next) (hn:next<=r2.next):af P B N c fr M next r2:=by
 intro R ι cc a w Q hf hm ha hu hQ;refine h R ι cc a w Q hf hm ha hu λbP gA a1 w1 ju ik c7 eE dS gY iP=>?_;rw[hex];have sj:∀ k,k<next->∀ l,bP k=some l->(λk=>if k<next then bP k else none) k=some l:=λk hk l e=>by simp[hk,e]
 have A1:∀ k l,(λk=>if k<next then bP k else none) k=some l->k<next/\bP k=some l:=λk l e=>by
  dsimp only at e;split at e
  ·rename_i hk;exact⟨hk,e⟩
  ·cases e
 generalize (λk=>if k<next then bP k else none)=κ at sj A1;have hle:Map.le ι κ:=λk l e=>by
  have hk:k<next:=by
   rcases fm k next with h|h
   ·exact h
   ·rw[hm.dJ k (hu k h)]at e;cases e
  exact sj k hk l (ju k l e)
 -- what is kept: what Zt not looked at,and what is known;the rest is dead
 have aH0:∃ c2:Nat->Option Obj,(∀ k,c2 k=none↔(next<=k\/gA k=none))/\(∀ k x,c2 k=some x->x=.dead\/(gA k=some x/\((ai M k=none)\/ai r2.M k=some x)))/\(∀ k x,ai r2.M k=some x->c2 k=some x)/\(∀ k,k<next->ai M k=none->ai r2.M k=none->c2 k=gA k):=by
  refine⟨λk=>if k<next then(match gA k with|none=>none|some x=>match ai r2.M k with|some y=>some y|none=>match ai M k with|none=>some x|some _=>some .dead)else none,?_,?_,?_,?_⟩
  ·intro k;dsimp only;by_cases hk:k<next
   ·rw[ax hk];cases hc:gA k with
    |none=>simp
    |some x=>cases h2:ai r2.M k<;>cases h3:ai M k<;>simp<;>omega
   ·rw[ao hk];simp;left;omega
  ·intro k x hx;dsimp only at hx;split at hx
   ·cases hc:gA k with
    |none=>rw[hc]at hx;cases hx
    |some y=>
     rw[hc]at hx;dsimp only at hx;cases h2:ai r2.M k with
     |some z=>
      rw[h2]at hx;injection hx with hx;subst hx;have:=eE k z (hM _ (jf h2));rw[hc]at this;exact .inr ⟨this,.inr rfl⟩
     |none=>
      rw[h2]at hx;dsimp only at hx;cases h3:ai M k with
      |none=>rw[h3]at hx;injection hx with hx;subst hx;exact .inr ⟨rfl,.inl rfl⟩
      |some z=>rw[h3]at hx;injection hx with hx;exact .inl hx.symm
   ·cases hx
  ·intro k x hx;have h1:=eE k x (hM _ (jf hx));have h2:=Nf _ (jf hx);dsimp only at h2 ⊢;rw[ax h2,h1];dsimp only;rw[hx]
  ·intro k hk h1 h2;dsimp only;rw[ax hk];cases hc:gA k with
   |none=>rfl
   |some x=>rw[h2,h1]
 obtain⟨c2,d1,d2,d3,d4⟩:=aH0;have E1:∀ k x,c2 k=some x->x.owns=true->gA k=some x:=λk x hk hx=>by
  rcases d2 k x hk with rfl|⟨h1,_⟩
  ·cases hx
  ·exact h1
 have dF:aM B κ c2 w1:=by
  refine⟨c7.base,?_,?_,?_,?_,?_,?_,?_,?_,hm.rV.trans hle⟩
  ·intro k hk;cases aH1:κ k with
   |none=>rfl
   |some l=>
    obtain⟨q1,q2⟩:=A1 k l aH1;rcases(d1 k).1 hk with q|q
    ·omega
    ·rw[c7.dJ k q]at q2;cases q2
  ·intro k x hk;have qY:k<next:=by
    rcases fm k next with h|h
    ·exact h
    ·rw[(d1 k).2 (.inl h)]at hk;cases hk
   have gw:∃ y,gA k=some y:=by
    cases hc:gA k with
    |some y=>exact⟨y,rfl⟩
    |none=>rw[(d1 k).2 (.inr hc)]at hk;cases hk
   obtain⟨y,hy⟩:=gw;obtain⟨l,q1,q2⟩:=c7.born k y hy;refine⟨l,sj k qY l q1,?_⟩;rcases d2 k x hk with rfl|⟨h1,h2⟩
   ·trivial
   ·rw[hy]at h1;injection h1 with h1;subst h1;rcases h2 with h2|h2
    ·-- as it Zt
     have e0:cc k=some y:=(gY k qY h2).symm.trans hy;obtain⟨l0,p1,p2⟩:=hm.born k y e0;have p3:=ju k l0 p1;rw[q1]at p3;injection p3 with p3;subst p3;cases y with
     |aI cells ty=>
      obtain⟨b,cg,e1,e2,e3⟩:=q2;obtain⟨b0,Zu,f1,f2,f3⟩:=p2;rw[e1]at f1;injection f1 with f1 _ _;subst f1;have:cg=Zu:=EZ e2 (nV ju f2);subst this;exact⟨b,cg,e1,nV hle f2,e3⟩
     |row cells ty size=>
      rcases q2 with q2|⟨b,cap,cur,e1,e2,e3,e4,e5⟩
      ·exact .inl q2
      ·rcases p2 with p2|⟨b0,aH2,aVN,f1,f2,f3,f4,f5⟩
       ·rw[e1]at p2;cases p2.1
       ·have:=EZ e5 (nV ju f5);exact .inr ⟨b,cap,cur,e1,e2,e3,e4,by rw[this];exact nV hle f5⟩
     |view cells=>
      rcases q2 with q2|⟨b,o,cap,cg,e1,e2,e3⟩
      ·exact .inl q2
      ·rcases p2 with p2|⟨b0,o0,aH2,Zu,f1,f2,f3⟩
       ·rw[e1]at p2;cases p2.1
       ·have:=EZ e2 (nV ju f2);subst this;exact .inr ⟨b,o,cap,cg,e1,nV hle f2,e3⟩
     |fact F=>exact q2
     |dead=>trivial
    ·exact q2.below sj (SG _ (jf h2))
  ·intro k x b o cap hk hx hl;exact c7.own k x b o cap (E1 k x hk hx) hx (A1 k _ hl).2
  ·intro i j x y b o1 c1 o3 c3 hi hx hj hy hl dh;exact c7.inj i j x y b o1 c1 o3 c3 (E1 i x hi hx) hx (E1 j y hj hy) hy (A1 i _ hl).2 (A1 j _ dh).2
  ·intro i j x F b o cap v hi hx hl hj hv;have fK:gA j=some (.fact F):=by
    rcases d2 j _ hj with h|⟨h,_⟩
    ·cases h
    ·exact h
   exact c7.apart i j x F b o cap v (E1 i x hi hx) hx (A1 i _ hl).2 fK (A1 j _ hv).2
  ·intro k x b o cap hk hx hl;have aH3:gA k=some x:=by
    rcases d2 k x hk with rfl|⟨h1,_⟩
    ·cases hx
    ·exact h1
   obtain⟨q1,q2⟩:=c7.seen k x b o cap aH3 hx (A1 k _ hl).2;exact⟨q1,λj y o' bE hj hy hm=>q2 j y o' bE (E1 j y hj hy) hy (A1 j _ hm).2⟩
  ·intro j F hj;rcases d2 j _ hj with h|⟨h,_⟩
   ·cases h
   ·exact c7.fa j F h
  ·intro i j F F' hi hj;rcases d2 i _ hi with h|⟨h,_⟩
   ·cases h
   ·rcases d2 j _ hj with h'|⟨h',_⟩
    ·cases h'
    ·exact c7.one i j F F' h h'
 refine hQ κ c2 a1 w1 hle ⟨ik.defers,ik.size,λt=>?_⟩ dF (λk x hk=>d3 k x hk) (λk hk=>(d1 k).2 (.inl (di hn hk))) (λk hk h1=>?_) iP
 ·have hs:=(Zr ik mP).slot t;have:∀(l:aN),(∀ p∈l,lM next p.2=true)->nW bP (bI l t) (a1.tmps.getD t undef)->nW κ (bI l t) (a1.tmps.getD t undef):=by
   intro l;induction l with
   |nil=>intro _ _;exact .inl rfl
   |cons p l ih=>
    intro hl hc;obtain⟨s,v⟩:=p;by_cases bT:s=t
    ·subst bT;have e:bI ((s,v)::l) s=v:=by simp[bI]
     rw[e]at hc ⊢;exact hc.imp id λhc=>hc.low sj (hl _ (aP ..))
    ·have e:bI ((s,v)::l) t=bI l t:=by show(if Nat.beq s t then _ else _)=_;rw[oO bT];rfl
     rw[e]at hc ⊢;exact ih (λp hp=>hl p (bH _ hp)) hc
  exact this r2.fr Nd hs
 ·cases h2:ai r2.M k with
  |none=>rw[d4 k hk h1 h2,gY k hk h1]
  |some x=>rw[d3 k x h2,<-gY k hk h1];exact(eE k x (hM _ (jf h2))).symm
end
section
variable{P:j_}{B:aa}{N:Nat}
def Ng(P:j_)(fr:aN)(M:aH):ResultVar->Option Value
 |.tmp t=>if mJ (bI fr t)then none else some (bI fr t)
 |.cell t ty=>match bI fr t with
  |.pointer (some ad)=>if mI ad then(match ai M ad.block with|some x=>if x.reads then dO P ty x.cells ad.off else none|none=>none)else none
  |_=>none
def JO(P:j_)(fr:aN)(M:aH):List ResultVar->Option ah
 |[]=>some []
 |r::l=>match Ng P fr M r with
  |some v=>match JO P fr M l with|some vs=>some (v::vs)|none=>none
  |none=>none
def A2(P:j_)(fn:Func)(fr:aN)(M:aH):Option Value:=
 match JO P fr M fn.results.toList with
 |some [v]=>some v
 |some vs=>some (.tuple vs.toArray)
 |none=>none
def rv(tmps:p_):ResultVar->Sem Value
 |.tmp t=>pure (tmps.getD t undef)
 |.cell x t=>do loadVar t (<-asAddr (tmps.getD x undef))
theorem aH4{cc:Nat->Option Obj}{a:Act}(hf:fA B ι (bI fr) N a)(hm:aM B ι cc w)(ha:da cc M){r:ResultVar}{v:i_}
  (h:Ng P fr M r=some v):∃ v',aK ι v v'/\(rv a.tmps r).run P w=.ok v' w:=by
 cases r with
 |tmp t=>
  unfold Ng at h;dsimp only at h;split at h
  ·cases h
  ·rename_i hn;injection h with h;subst h;exact⟨_,(hf.slot t).AJ (by simpa using hn),rfl⟩
 |cell t ty=>
  unfold Ng at h;dsimp only at h;split at h
  ·rename_i ad hx;split at h
   ·rename_i eW;split at h
    ·rename_i x hblk;split at h
     ·rename_i hrd;have hc:=hf.slot t;rw[hx]at hc;have hc:=hc.AJ rfl;rw[Cy eW]at hc;obtain⟨v',a',he,tA,qd⟩:=Yv hm (ha _ _ hblk) hrd h hc;refine⟨v',tA,?_⟩;unfold rv;dsimp only;rw[he];simp[asAddr,qd]
     ·cases h
    ·cases h
   ·cases h
  ·cases h
theorem Zv{ι:Map}{cc:Nat->Option Obj}{fr:aN}{M:aH}{a:Act}{w:h_}(hf:fA B ι (bI fr) N a)(hm:aM B ι cc w)(ha:da cc M):∀(l:List ResultVar) {vs:ah},
  JO P fr M l=some vs->∃ cQ,bW (aK ι) vs cQ/\(l.mapM (rv a.tmps)).run P w=.ok cQ w
 |[],vs,h=>by injection h with h;subst h;exact⟨[],.nil,rfl⟩
 |r::l,vs,h=>by
  unfold JO at h;split at h
  ·rename_i v hv;split at h
   ·rename_i vs1 aQ;injection h with h;subst h;obtain⟨v',hc,qd⟩:=aH4 hf hm ha hv;obtain⟨cQ,fQ,aH5⟩:=Zv hf hm ha l aQ;refine⟨v'::cQ,.cons hc fQ,?_⟩;rw[JP,Jx,qd,Result.andThen_ok,Jx,aH5,Result.andThen_ok];rfl
   ·cases h
  ·cases h
theorem Nh{cc:Nat->Option Obj}{a:Act}(hf:fA B ι (bI fr) N a)(hm:aM B ι cc w)(ha:da cc M){v:i_}
  (h:A2 P fn fr M=some v):∃ v',aK ι v v'/\(results fn a.tmps).run P w=.ok v' w:=by
 unfold A2 at h;cases hr:JO P fr M fn.results.toList with
 |none=>rw[hr]at h;cases h
 |some vs=>
  obtain⟨cQ,fQ,qd⟩:=Zv hf hm ha _ hr;have e:(results fn a.tmps).run P w=.ok (if h:cQ.toArray.size=1 then cQ.toArray[0]else .tuple cQ.toArray) w:=by
   have e0:results fn a.tmps=(do let vs <-fn.results.mapM (rv a.tmps);pure (if h:vs.size=1 then vs[0]else .tuple vs)):=by
    unfold results
    congr 1
   rw[e0];rw[Array.mapM_eq_mapM_toList,Jx,Sem.run_map,qd];rfl
  rw[e];rw[hr]at h;cases fQ with
  |nil=>injection h with h;subst h;exact⟨_,.same rfl,by simp⟩
  |cons h1 t1=>
   cases t1 with
   |nil=>injection h with h;subst h;exact⟨_,h1,by simp⟩
   |cons h2 t2=>injection h with h;subst h;exact⟨_,.tup (.cons h1 (.cons h2 t2)),by simp⟩
def jR:Nat->ah->aN
 |_,[]=>[]
 |i,v::l=>(i,v)::jR (i+1) l
theorem Ni{ι:Map}:∀{l l':ah},bW (aK ι) l l'->∀(i t:Nat) (tail:ah),nW ι (bI (jR i l) t) (if i<=t then(l'++tail).getD (t-i) undef else undef)\/mJ (bI (jR i l) t)=true
 |_,_,.nil,i,t,tail=>.inr rfl
 |_,_,.cons (a:=v) (b:=v') (l:=l) (m:=m) h k,i,t,tail=>by
  by_cases yU:i=t
  ·subst yU;left;right;have e:bI (jR i (v::l)) i=v:=by simp[jR,bI]
   rw[e];simpa using h
  ·have e:bI (jR i (v::l)) t=bI (jR (i+1) l) t:=by show(if Nat.beq i t then _ else _)=_;rw[oO yU];rfl
   rw[e];rcases Ni k (i+1) t tail with h1|h1
   ·left;by_cases ak:i+1<=t
    ·rw[ax ak]at h1;rw[ax o_];have:t-i=(t-(i+1))+1:=by omega
     rw[this];simpa using h1
    ·by_cases hle:i<=t
     ·omega
     ·rw[ao ak]at h1;rw[ao hle];exact h1
   ·exact .inr h1
theorem Zw{c:Code}{Q:Exit->Act->World->Prop}{a:Act}{n:Nat}(h:c.wpIn (FW none) n P Q a w):c.wp P Q a w:=wpIn_wide.1 h
theorem aH6{c:Code}{next:Nat}{r:lK}{v:i_}{cc:Nat->Option Obj}
  (hf:P.funcs[f]?=some fn) (hb:fn.body=some c) (hN:N=args.length+(fn.ntmps-args.length)) (g:af P B N c (jR 0 args) M next r) (hex:(match r.ex with|.exit _=>false|_=>true)=true)
  (hv:A2 P fn r.fr r.M=some v) (dK:bW (aK ι) args args') (hm:aM B ι cc w) (ha:da cc M) (hu:eU cc next)
  (hQ:∀ ay b9 v' w',Map.le ι ay->aK ay v v'->aM B ay b9 w'->da b9 r.M->eU b9 r.next->(∀ k,k<next->ai M k=none->b9 k=cc k)->Q (.returned v') w') (mQ:B.ds=[]:=by rfl):Calls P f args'.toArray w Q:=by
 refine calls_of_wp hf hb ?_;have mP:fA B ι (bI (jR 0 args)) N { tmps:=args'.toArray++Array.replicate (fn.ntmps-args'.toArray.size) undef,defers:=[]}:=by
  refine⟨mQ.symm,by simp[hN,dK.length],λt=>?_⟩;rcases Ni dK 0 t (List.replicate (fn.ntmps-args'.length) undef)with h|h
  ·simp only[jH,qS,Hc]at h;have e:(args'.toArray++Array.replicate (fn.ntmps-args'.toArray.size) undef).getD t undef=(args'++List.replicate (fn.ntmps-args'.length) undef).getD t undef:=by simp[qg,EK,<-Array.getElem?_toList]
   dsimp only;rw[e];exact h
  ·exact .inl h
 refine Zw (g none ι cc _ w _ mP hm ha hu λay b9 a' w' hle wW bF iO pA ij _=>by
  obtain⟨v',hc,qd⟩:=Nh (fn:=fn) wW bF iO hv;have fin:=hQ ay b9 v' w' hle hc bF iO pA ij;cases hx:r.ex with
  |normal=>exact⟨wW.defers.trans mQ,v',qd,fin⟩
  |ret=>exact⟨wW.defers.trans mQ,v',qd,fin⟩
  |exit id=>rw[hx]at hex;cases hex)
def gO(fn:Func)(n:Nat)(args:ah)(M:aH)(next:Nat)(rs:bL P B N):Option (Value×j5 P B N):=
 match fn.body with
 |some c=>match jg n c (jR 0 args) M next rs with
  |some r=>match (match r.ex with|.exit _=>none|_=>A2 P fn r.fr r.M)with
   |some v=>some (v,r)
   |none=>none
  |none=>none
 |none=>none
def oQ(o:Option (Value×j5 P B N))(ms:aH):Bool×Option (Value×List (Option Obj)×List n9):=
 match o with
 |some r=>(true,some (r.1,ms.map λp=>ai r.2.M p.1,r.2.tr.map (·.1)))
 |none=>(true,none)
def oR(o:Option (Value×j5 P B N))(v:i_)(ms:aH):Bool×Option (Value×List (Option Obj)×List n9):=
 match o with
 |some r=>(true,some (v,ms.map λp=>some p.2,r.2.tr.map (·.2)))
 |none=>(false,none)
theorem Nj:∀{tr:vG},tr.map (·.1)=tr.map (·.2)->rY tr
 |[],_=>λp hp=>by cases hp
 |q::l,h=>by
  simp only[sk]at h;injection h with h1 h2;intro p hp;rcases ct.1 hp with rfl|hp
  ·exact h1
  ·exact Nj h2 p hp
theorem Nk{M:aH}:∀{ms:aH},(ms.map λp=>ai M p.1)=(ms.map λp=>some p.2)->∀ p∈ms,ai M p.1=some p.2
 |[],_=>λp hp=>by cases hp
 |q::l,h=>by
  simp only[sk]at h;injection h with h1 h2;intro p hp;rcases ct.1 hp with rfl|hp
  ·exact h1
  ·exact Nk h2 p hp
theorem SH{next:Nat}{rs:bL P B N}{v:i_}{cc:Nat->Option Obj}(iE:P.follows .mixedOrders=true)
  (hf:P.funcs[f]?=some fn) (hN:N=args.length+(fn.ntmps-args.length)) (n:Nat) (h:oQ (gO (P:=P) fn n args M next rs) ms=oR (gO fn n args M next rs) v ms)
  (dK:bW (aK ι) args args') (hm:aM B ι cc w) (ha:da cc M) (hu:eU cc next)
  (hQ:∀ ay b9 v' w',Map.le ι ay->aK ay v v'->aM B ay b9 w'->(∀ p∈ms,b9 p.1=some p.2)->(∀ k,k<next->ai M k=none->b9 k=cc k)->Q (.returned v') w') (mQ:B.ds=[]:=by rfl):Calls P f args'.toArray w Q:=by
 cases ho:gO (P:=P) fn n args M next rs with
 |none=>rw[ho]at h;cases h
 |some r=>
  rw[ho]at h;unfold oQ oR at h;dsimp only at h;injection h with _ h;injection h with h;injection h with h1 h;injection h with h2 h3;have hs:=Nj h3;have dQ:=Nk h2;unfold gO at ho;split at ho
  ·rename_i c hb;split at ho
   ·rename_i r' hr;split at ho
    ·rename_i v' hv;injection ho with ho;subst ho;dsimp only at h1 hs dQ;subst h1;have g:=((SB (P:=P) (B:=B) (N:=N) iE n).1 c _ M next rs r' hr hs).1;have hex:(match r'.out.ex with|.exit _=>false|_=>true)=true:=by
      show(match r'.ex with|.exit _=>false|_=>true)=true;cases hx:r'.ex with
      |exit id=>rw[hx]at hv;cases hv
      |normal=>rfl
      |ret=>rfl
     have qT:A2 P fn r'.out.fr r'.out.M=some v':=by
      show A2 P fn r'.fr r'.M=some v';cases hx:r'.ex with
      |exit id=>rw[hx]at hv;cases hv
      |normal=>rw[hx]at hv;exact hv
      |ret=>rw[hx]at hv;exact hv
     exact aH6 hf hb hN g hex qT dK hm ha hu (λay b9 v2 w' hle hc bF iO pA ij=>hQ ay b9 v2 w' hle hc bF (λp hp=>iO _ _ (dQ p hp)) ij) mQ
    ·cases ho
   ·cases ho
  ·cases ho
theorem uO{next:Nat}{rs:bL P B N}{v:i_}{cc:Nat->Option Obj}(iE:P.follows .mixedOrders=true)
  (hf:P.funcs[f]?=some fn) (hN:N=args.length+(fn.ntmps-args.length)) (n:Nat) (h:oQ (gO (P:=P) fn n args M next rs) ms=oR (gO fn n args M next rs) v ms)
  (dK:bW (aK ι) args args') (hm:aM B ι cc w) (ha:da cc M) (hu:eU cc next)
  (hQ:∀ ay b9 v' w',Map.le ι ay->aK ay v v'->aM B ay b9 w'->(∀ p∈ms,b9 p.1=some p.2)->Q (.returned v') w') (mQ:B.ds=[]:=by rfl):Calls P f args'.toArray w Q:=
 SH iE hf hN n h dK hm ha hu (λay b9 v' w' h1 h2 h3 h4 _=>hQ ay b9 v' w' h1 h2 h3 h4) mQ
def JQ(o:Option (j5 P B N))(fr:aN)(M:aH):Bool×Option (Ex×ah×List (Option Obj)×Bool×List n9):=
 match o with
 |some r=>(true,some (r.ex,fr.map λp=>bI r.fr p.1,M.map λp=>ai r.M p.1,true,r.tr.map (·.1)))
 |none=>(true,none)
def JR(o:Option (j5 P B N))(ex:Ex)(fr:aN)(M:aH)(next:Nat):Bool×Option (Ex×ah×List (Option Obj)×Bool×List n9):=
 match o with
 |some r=>(true,some (ex,fr.map λp=>p.2,M.map λp=>some p.2,Nat.ble r.next next,r.tr.map (·.2)))
 |none=>(false,none)
theorem Nl{AZ:aN}:∀{fr:aN},(fr.map λp=>bI AZ p.1)=(fr.map λp=>p.2)->∀ p∈fr,bI AZ p.1=p.2
 |[],_=>λp hp=>by cases hp
 |q::l,h=>by
  simp only[sk]at h;injection h with h1 h2;intro p hp;rcases ct.1 hp with rfl|hp
  ·exact h1
  ·exact Nl h2 p hp
theorem fB(iE:P.follows .mixedOrders=true){c:Code}{next:Nat}(n:Nat)(rs:bL P B N){r:lK}
  (h:JQ (jg n c fr M next rs) r.fr r.M=JR (jg n c fr M next rs) r.ex r.fr r.M r.next):af P B N c fr M next r:=by
 cases ho:jg n c fr M next rs with
 |none=>rw[ho]at h;cases h
 |some r1=>
  rw[ho]at h;unfold JQ JR at h;dsimp only at h;injection h with _ h;injection h with h;injection h with h1 h;injection h with h2 h;injection h with h3 h;injection h with h4 h5;obtain⟨g,_⟩:=(SB (P:=P) (B:=B) (N:=N) iE n).1 c fr M next rs r1 ho (Nj h5);exact g.to h1 (Nl h2) (Nk h3) (qc h4.symm)
theorem qZ(iE:P.follows .mixedOrders=true){c:Code}{next:Nat}(n:Nat)(rs:bL P B N){r:lK}{fC:Nat}
  (h:JQ (jg n c fr M next rs) r.fr r.M=JR (jg n c fr M next rs) r.ex r.fr r.M fC) (hn:r.next=next) (Nd:(r.fr.all λp=>lM next p.2)=true) (SG:∀ p∈r.M,fe next p.2) (Nf:(r.M.all λp=>Nat.blt p.1 next)=true) :
  af P B N c fr M next r:=by
 cases ho:jg n c fr M next rs with
 |none=>rw[ho]at h;cases h
 |some r1=>
  rw[ho]at h;unfold JQ JR at h;dsimp only at h;injection h with _ h;injection h with h;injection h with h1 h;injection h with h2 h;injection h with h3 h;injection h with h4 h5;obtain⟨g,_⟩:=(SB (P:=P) (B:=B) (N:=N) iE n).1 c fr M next rs r1 ho (Nj h5);rw[bd]at Nd Nf;exact g.reset h1 (Nl h2) Nd (Nk h3) SG (λp hp=>by simpa[yR]using Nf p hp) (vC hn.symm)
def aB(P:j_)(f:FuncId)(args:ah)(res:i_):Prop:=
 ∀ w:World,Calls P f args.toArray w λe w'=>e=.returned res/\Below w.heap.size w w'
theorem tH(w:h_):aM (aa.at w) (λ_=>none) (λ_=>none) w:=
 ⟨Below.refl _ _,λ_ _=>rfl,λk x h=>(by cases h),λk x b o cap h=>(by cases h),λk j x y b o cap o' bE h=>(by cases h),λk j x F b o cap v h=>(by cases h),λk x b o cap h=>(by cases h),λj F h=>(by cases h),λj k F F' h=>(by cases h),λ_ _ h=>(by cases h)⟩
theorem eF{v:i_}(iE:P.follows .mixedOrders=true)(hf:P.funcs[f]?=some fn)(n:Nat)(rs:∀ w,bL P (aa.at w) (args.length+(fn.ntmps-args.length)))
  (h:∀ w,oQ (gO (P:=P) fn n args [] 0 (rs w)) []=oR (gO fn n args [] 0 (rs w)) v []) (dK:args.all flat=true) (hv:flat v=true):aB P f args v:=by
 intro w;rw[bd]at dK;exact uO iE hf rfl n (h w) (kM dK) (tH w) n_ (λ_ _=>rfl) λay b9 v' w' _ hc hm _=>⟨by rw[hc.fk hv],hm.base⟩
def aB.at(h:aB P f args res)(key:Nat):aU P B N:=.call key f args res λw _=>h w
end
def dp(w:h_)(v:i_)(n:Nat)(xs:ah):Prop:=
 (v=.slice none 0 0/\n=0/\xs=[])\/∃ b o c',v=.slice (some ⟨b,o,none⟩) n c'/\n<=c'/\b<w.heap.size/\∀ j u,xs[j]?=some u->w.cell? ⟨b,o+j,none⟩=some u
section
variable{P:j_}{B:aa}{N:Nat}
theorem dp.jO{v:i_}{n:Nat}(h:dp w v n xs)(hb:Below w.heap.size w w'):dp w' v n xs:=by
 rcases h with h|⟨b,o,c',h1,h2,h3,h4⟩
 ·exact .inl h
 ·exact .inr ⟨b,o,c',h1,h2,cF h3 hb.size,λj u hj=>by rw[hb.cell h3];exact h4 j u hj⟩
theorem dp.Zx{base:Nat}{v:i_}{n:Nat}(h:w.ownsRow base ty size v n xs):dp w v n xs:=by
 rcases h.2 with ⟨h1,h2⟩|⟨g,cap,cur,h1,h2,h3,h4,h5,h6,h7⟩
 ·have:=h.1;rw[h2,kS]at this;exact .inl ⟨h1,h2,kO this⟩
 ·refine .inr ⟨g,0,cap,h1,h4,(wY.1 h3).1,λj u hj=>?_⟩;rw[<-h7,uG]at hj;split at hj
  ·have:cur[j]?=some u:=by simpa using hj
   simp[World.cell?,h3,this]
  ·cases hj
theorem oS(hm:aM B ι c w){n:Nat}{x:Obj}{v:i_}(hk:c k=some x)(hx:x.reads=true)(cK:∀ u∈x.cells,flat u=true)
  (hlen:n=0->len=0) (hc:aK ι (.slice (some ⟨k,off,some 7⟩) n cc) v):dp w v n ((x.cells.drop off).take len):=by
 rcases hc.hZ rfl with ⟨hb,kz,qf,yM,he⟩|⟨b,oo,cap,c',hb,lJ,mL,he⟩
 ·exact .inl ⟨he,kz,by rw[hlen kz];rfl⟩
 ·dsimp only at hb he;obtain⟨l,h1,h2⟩:=hm.born k x hk;rw[hb]at h1;injection h1 with h1;subst h1;obtain⟨cg,fQ,lg⟩:=h2.at hx;have fQ:=nC fQ cK;subst fQ;refine .inr ⟨b,oo+off,c',he,lJ,?_,λj u hj=>?_⟩
  ·by_cases ho:x.owns=true
   ·exact(hm.own k x b oo cap hk ho hb).1
   ·have hv:x.jN=true:=by unfold Obj.reads at hx;rw[tE]at hx;exact hx.resolve_left ho
    exact(hm.seen k x b oo cap hk hv hb).1
  ·rw[uG]at hj;split at hj
   ·rw[EC]at hj;rw[uI];exact lg _ _ hj
   ·cases hj
theorem yV(hm:aM B ι c w){n:Nat}{v:i_}(hk:c k=none)(h:dp w v n xs)(cK:∀ u∈xs,flat u=true)
  (fT:∀ b o c',v=.slice (some ⟨b,o,none⟩) n c'->∀ j y o' bE,c j=some y->y.owns=true->ι j≠some (.at b o' bE)) :
  ∃ ay,Map.le ι ay/\aM B ay (bh c k (.view xs)) w/\aK ay (.slice (some ⟨k,0,some 7⟩) n 0) v:=by
 rcases h with ⟨h1,h2,h3⟩|⟨b,o,c',h1,h2,h3,h4⟩
 ·subst h1;subst h2;subst h3;exact⟨dR ι k .nil,gN (hm.dJ k hk),hm.add hk (.inl ⟨rfl,rfl⟩) n_ n_ n_,.slcN (fP _ _ _)⟩
 ·subst h1;refine⟨dR ι k (.at b o c'),gN (hm.dJ k hk),hm.add hk (.inr ⟨b,o,c',xs,rfl,kM cK,h4⟩) n_ n_ (λb1 o1 lG _ e=>?_),.slc (off:=0) (fP _ _ _) h2 o_⟩;injection e with e1 e2 e3;subst e1;exact⟨h3,λj y o' bE hj hy=>fT b o c' rfl j y o' bE hj hy⟩
theorem E2(hm:aM B ι c w)(hb:Below w.heap.size w w'){n:Nat}{v:i_}(hk:c k=none)(h:w'.ownsRow w.heap.size ty size v n xs)(cK:∀ u∈xs,flat u=true):
  ∃ ay,Map.le ι ay/\aM B ay (bh c k (.row xs ty size)) w'/\aK ay (.slice (some ⟨k,0,some 7⟩) n 0) v:=by
 have bF:=hm.call hb;rcases h.2 with ⟨h1,h2⟩|⟨g,cap,cur,h1,h2,h3,h4,h5,h6,h7⟩
 ·have hl:=h.1;rw[h2,kS]at hl;have hx:xs=[]:=kO hl;subst h1;subst h2;subst hx;exact⟨dR ι k .nil,gN (hm.dJ k hk),bF.add hk (.inl ⟨rfl,rfl⟩) n_ n_ n_,.slcN (fP _ _ _)⟩
 ·subst h1;refine⟨dR ι k (.at g 0 cap),gN (hm.dJ k hk),hm.new hb hk (.inr ⟨g,cap,cur,rfl,h3,h5,h6,?_⟩) (λb o cap _ e=>?_) n_ rfl,.slc (o:=0) (off:=0) (fP _ _ _) h4 o_⟩
  ·rw[h.1,h7];exact kM cK
  ·injection e with e1 e2 e3;subst e1;exact⟨h2,(wY.1 h3).1⟩
theorem Zy(hm:aM B ι c w)(hb:Below w.heap.size w w'){n:Nat}{v:i_}(hk:c k=none)(h:w'.ownsRow w.heap.size ty size v n xs)(cK:∀ u∈xs,flat u=true):
  ∃ ay,Map.le ι ay/\aM B ay (bh c k (.view xs)) w'/\aK ay (.slice (some ⟨k,0,some 7⟩) n 0) v:=by
 refine yV (hm.call hb) hk (.Zx h) cK λb o c' e j y o' bE hj hy he=>?_;have h1:=(hm.own j y b o' bE hj hy he).1;rcases h.2 with ⟨h2,_⟩|⟨g,cap,cur,h2,h3,_⟩
 ·rw[h2]at e;cases e
 ·rw[h2]at e;injection e with e1 e2;injection e1 with e1;injection e1 with e1;omega
theorem wZ(hm:aM (aa.at w) ι c w'){n:Nat}{cells:ah}{v:i_}(hk:c k=some (.row cells ty size))(hv:aK ι (.slice (some ⟨k,0,some 7⟩) n 0) v)
  (hn:n*size<=cells.length) (cK:∀ u∈cells,flat u=true):w'.ownsRow w.heap.size ty size v n (cells.take (n*size)):=by
 have hl:(cells.take (n*size)).length=n*size:=by rw[jr];omega
 refine⟨hl,?_⟩;rcases hv.hZ rfl with ⟨hb,kz,qf,yM,he⟩|⟨b,oo,cap,c',hb,lJ,mL,he⟩
 ·exact .inl ⟨he,kz⟩
 ·dsimp only at hb he;have kA:c'=cap:=by omega
  subst kA;obtain⟨l,h1,h2⟩:=hm.born k _ hk;rw[hb]at h1;injection h1 with h1;subst h1;have eW:=hm.own k _ b oo c' hk rfl hb;rcases h2 with h2|⟨b',bE,cur,e1,l4,dP,fQ,jt⟩
  ·cases h2.1
  ·injection e1 with e1 e2 e3;subst e1;subst e2;subst e3;refine .inr ⟨b,c',cur,by rw[he],?_,l4,lJ,dP,fQ,?_⟩
   ·rcases fm b w.heap.size with h|h
    ·exact absurd h eW.2
    ·exact h
   ·have:=nC jt cK;have h3:=cL (List.take (n*size)) this;rw[MP,nZ hn]at h3;exact h3
inductive cz where
 |plain (v:i_)
 |row (v:i_) (n:Nat) (xs:ah)
def cz.real:cz->Value
 |.plain v=>v
 |.row v _ _=>v
def cz.OK(w:h_):cz->Prop
 |.plain v=>flat v=true
 |.row v n xs=>dp w v n xs/\∀ u∈xs,flat u=true
def sn:Nat->List cz->ah
 |_,[]=>[]
 |k,.plain v::l=>v::sn k l
 |k,.row _ n _::l=>.slice (some ⟨k,0,some 7⟩) n 0::sn (k+1) l
def uP:Nat->List cz->aH
 |_,[]=>[]
 |k,.plain _::l=>uP k l
 |k,.row _ _ xs::l=>(k,.view xs)::uP (k+1) l
def tJ:Nat->List cz->Nat
 |k,[]=>k
 |k,.plain _::l=>tJ k l
 |k,.row _ _ _::l=>tJ (k+1) l
theorem SI{w:h_}:∀(l:List cz) (k:Nat) (ι:Map) (c:Nat->Option Obj),aM B ι c w->(∀ j x,c j=some x->x.owns=false)->eU c k->(∀ s∈l,cz.OK w s)->
  ∃ ay c',Map.le ι ay/\aM B ay c' w/\(∀ j x,c' j=some x->x.owns=false)/\eU c' (tJ k l)/\da c' (uP k l)/\(∀ j,j<k->c' j=c j)/\bW (aK ay) (sn k l) (l.map cz.real)/\k<=tJ k l
 |[],k,ι,c,hm,ho,hu,_=>⟨ι,c,Map.le.refl _,hm,ho,hu,λk x h=>(by cases h),λ_ _=>rfl,.nil,bA _⟩
 |.plain v::l,k,ι,c,hm,ho,hu,hl=>by obtain⟨ay,c',h1,h2,h3,h4,h5,h6,h7,h8⟩:=SI l k ι c hm ho hu λs hs=>hl s (bH _ hs);exact⟨ay,c',h1,h2,h3,h4,h5,h6,.cons (.same (hl _ (aP ..))) h7,h8⟩
 |.row v n xs::l,k,ι,c,hm,ho,hu,hl=>by
  obtain⟨hr,cK⟩:=hl _ (aP ..);obtain⟨bP,q1,q2,q3⟩:=yV hm (hu k (bA _)) hr cK λb o c' _ j y o' bE hj hy=>by rw[ho j y hj]at hy;cases hy
  obtain⟨ay,c',h1,h2,h3,h4,h5,h6,h7,h8⟩:=SI l (k+1) bP _ q2 (λj x hj=>by
   unfold bh at hj;split at hj
   ·injection hj with hj;subst hj;rfl
   ·exact ho j x hj) (λj hj=>by
   unfold bh;rw[ao o_];exact hu j o_) λs hs=>hl s (bH _ hs)
  refine⟨ay,c',q1.trans h1,h2,h3,h4,λj x hj=>?_,λj hj=>?_,.cons (q3.mono h1) h7,by show k<=tJ (k+1) l;omega⟩
  ·unfold uP ai at hj;split at hj
   ·rename_i hb;injection hj with hj;subst hj;rw[<-kt hb,h6 k o_];unfold bh;rw[ax rfl]
   ·exact h5 j x hj
  ·rw[h6 j o_];unfold bh;rw[ao o_]
theorem lN{v:i_}(iE:P.follows .mixedOrders=true)(hf:P.funcs[f]?=some fn)(l:List cz)(hl:∀ s∈l,cz.OK w s)(n:Nat){N:Nat}(hN:N=(sn 0 l).length+(fn.ntmps-(sn 0 l).length))
  {rs:bL P (aa.at w) N}
  (h:oQ (gO (P:=P) fn n (sn 0 l) (uP 0 l) (tJ 0 l) rs) ms=oR (gO fn n (sn 0 l) (uP 0 l) (tJ 0 l) rs) v ms)
  (hQ:∀ ay b9 v' w',aK ay v v'->aM (aa.at w) ay b9 w'->(∀ p∈ms,b9 p.1=some p.2)->bW (aK ay) (sn 0 l) (l.map cz.real)->Q (.returned v') w'):Calls P f (l.map cz.real).toArray w Q:=by
 obtain⟨ι,c,h1,h2,h3,h4,h5,h6,h7,h8⟩:=SI (B:=aa.at w) l 0 _ _ (tH w) n_ (λ_ _=>rfl) hl;exact uO iE hf hN n h h7 h2 h5 h4 λay b9 v' w' hle hc hm dQ=>hQ ay b9 v' w' hc hm dQ (h7.imp λ_ _ _ h=>h.mono hle)
def dC:Op->Option Operand
 |.call ⟨.value x,_,_⟩=>some x
 |_=>none
theorem j7{x:m_}{fi:ah}{val:i_}{cX:aH}(ho:dC o.op=some x)(eY:fN P f=true)
  (h:∀ ι c w,aM B ι c w->(∀ p∈need,c p.1=p.2)->∀ args',bW (aK ι) (fi++args++ca) args'->Calls P f args'.toArray w λe w'=>∃ ay v',e=.returned v'/\Map.le ι ay/\aK ay val v'/\aM B ay (lI c cX) w') :
  cA P B o (.func (.func f) fi.toArray ca.toArray::args) need val cX:=by
 intro R ι c a w hv hm hn K Q hK;obtain⟨dst,op,ty,pos,after,guard⟩:=o;dsimp only at ho hv;unfold dC at ho;split at ho
 ·rename_i x' lh wP;injection ho with ho;subst ho;have yK:(Op.operands (.call ⟨.value x',lh,wP⟩)).toList=x'::lh.toList:=by simp[Op.operands,Call.operands]
  rw[yK]at hv;cases hv with
  |cons hx rX=>
  obtain⟨j0,gM,he,h1,h2⟩:=hx.AH;have aY:=(h1.append rX).append h2;dsimp only at aY;have e3:execOp a.eval ⟨dst,.call ⟨.value x',lh,wP⟩,ty,pos,after,guard⟩=callFunc f (j0++lh.map a.eval++gM):=by have:execOp a.eval ⟨dst,.call ⟨.value x',lh,wP⟩,ty,pos,after,guard⟩=(do let d <-Deferred.ofValue (a.eval x') (lh.map a.eval);invoke d.target d.args):=rfl;rw[this,he];rfl
  have e4:(j0++lh.map a.eval++gM:p_)=(j0.toList++List.map a.eval lh.toList++gM.toList).toArray:=by apply EF;simp
  refine⟨λ_ _=>trivial,?_⟩;rw[MI _ _ _ n_,e3,e4,MW eY,Oper.uponIn_enter];refine⟨λe=>(by cases e),JC.2 ((h ι c w hm hn _ aY).mono ?_)⟩
  rintro e w' ⟨ay,v',rfl,q1,q2,q3⟩
  exact hK ay v' w' q1 q2 q3
 ·cases ho
end
def yW:Code->Nat->Option Oper
 |.region _ ops _,k=>ops.toList.find? λo=>Nat.beq (MV o) k
 |.seq x y,k=>match yW x k with|some o=>some o|none=>yW y k
 |.cond _ x y,k=>match yW x k with|some o=>some o|none=>yW y k
 |.block _ b,k=>yW b k
 |.loop b,k=>yW b k
 |.scope b,k=>yW b k
 |.rangeFunc _ _ x y,k=>match yW x k with|some o=>some o|none=>yW y k
 |_,_=>none
def aA(fn:Func)(k:Nat):Oper:=match fn.body with|some c=>(match yW c k with|some o=>o|none=>default)|none=>default
def yX:Code->Nat->Option Code
 |.seq x y,k=>match yX x k with|some o=>some o|none=>yX y k
 |.cond _ x y,k=>match yX x k with|some o=>some o|none=>yX y k
 |.block id b,k=>if Nat.beq id k then some b else yX b k
 |.loop b,k=>yX b k
 |.scope b,k=>yX b k
 |.rangeFunc _ _ x y,k=>match yX x k with|some o=>some o|none=>yX y k
 |_,_=>none
def ag(fn:Func)(k:Nat):Code:=match fn.body with|some c=>(match yX c k with|some o=>o|none=>.skip)|none=>.skip
def aF(c:Code):Code:=match c with|.loop b=>b|_=>.skip
section
variable{P:j_}{B:aa}{N:Nat}
def vI(n:Nat):Value:=.int .i64 n
def aU.sum(key i j s:Nat)(h:s=i+j)(hs:s<9223372036854775808):aU P B N:=
 .rw key (.int .i64 (IntKind.i64.wrap ((i:Int)+(j:Int)))) (vI s) (by
  have e:IntKind.i64.wrap ((i:Int)+(j:Int))=(s:Int):=by rw[dX];omega
  rw[e];rfl)
def aU.fh(key i j s:Nat)(h:i=s+j)(hs:i<9223372036854775808):aU P B N:=
 .rw key (.int .i64 (IntKind.i64.wrap ((i:Int)-(j:Int)))) (vI s) (by
  have e:IntKind.i64.wrap ((i:Int)-(j:Int))=(s:Int):=by rw[dX];omega
  rw[e];rfl)
def aU.lt(key i n:Nat)(b:Bool)(h:decide (i<n)=b):aU P B N:=
 .rw key (.bool (decide ((i:Int)<(n:Int)))) (.bool b) (by rw[<-h];congr 1;rw[pD];omega)
def aU.gt(key i n:Nat)(b:Bool)(h:decide (n<i)=b):aU P B N:=
 .rw key (.bool (decide ((i:Int)>(n:Int)))) (.bool b) (by rw[<-h];congr 1;rw[pD];omega)
def aU.ge(key i n:Nat)(b:Bool)(h:decide (n<=i)=b):aU P B N:=
 .rw key (.bool (decide ((i:Int)>=(n:Int)))) (.bool b) (by rw[<-h];congr 1;rw[pD];omega)
def aU.fZ(key i n:Nat)(b:Bool)(h:decide (i=n)=b):aU P B N:=
 .rw key (.bool ((i:Int)==(n:Int))) (.bool b) (by
  rw[<-h];congr 1
  by_cases hi:i=n
  ·subst hi;simp
  ·have:¬((i:Int)=(n:Int)):=by omega
   rw[aO hi];simpa using this)
def aU.wr(key:Nat)(k:IntKind)(m m':Int)(h:k.wrap m=m'):aU P B N:=.rw key (.int k (k.wrap m)) (.int k m') (by rw[h])
def aU.quo(key:Nat)(k:IntKind)(m m':Int)(h:m=m'):aU P B N:=.rw key (.int k m) (.int k m') (by rw[h])
def w6(P:j_)(o:Oper):Option Nat:=match o.op with
 |.indexAddr t _ _=>match P.underlying t with|some (.slice e)=>(match P.info? e with|some i=>some i.size|none=>none)|_=>none
 |_=>none
theorem Nn{s:Nat}(ho:w6 P o=some s){n:Nat}{kd:IntKind}(hi:i<n):
  cA P B o [.slice (some ⟨k,off,some 7⟩) n cc,.int kd i] [] (.pointer (some ⟨k,off+i*s,some 7⟩)) []:=by
 unfold w6 at ho;split at ho
 ·rename_i t x y bY;split at ho
  ·rename_i e ht;split at ho
   ·rename_i inf AN;injection ho with ho;have:=YC (P:=P) (B:=B) bY ht AN (kd:=kd) (n:=(i:Int)) (len:=n) (cc:=cc) o_ o_ k off;rw[Int.toNat_natCast,ho]at this;exact this.step
   ·cases ho
  ·cases ho
 ·cases ho
def aU.ix(fn:Func)(key k n i:Nat)(hi:i<n)(ho:w6 P (aA fn key)=some 1):aU P B N:=
 .step key (aA fn key) [.slice (some ⟨k,0,some 7⟩) n 0,vI i] [] (.pointer (some ⟨k,i,some 7⟩)) [] (by have:=Nn (B:=B) ho (k:=k) (off:=0) (cc:=0) (kd:=.i64) hi;rw[ko,gC]at this;exact this)
def aU.w7(fn:Func)(key k off n cc i:Nat)(hi:i<n)(ho:w6 P (aA fn key)=some 1):aU P B N:=
 .step key (aA fn key) [.slice (some ⟨k,off,some 7⟩) n cc,vI i] [] (.pointer (some ⟨k,off+i,some 7⟩)) [] (by have:=Nn (B:=B) ho (k:=k) (off:=off) (cc:=cc) (kd:=.i64) hi;rw[gC]at this;exact this)
def aU.cM(fn:Func)(key k n i s:Nat)(hi:i<n)(ho:w6 P (aA fn key)=some s):aU P B N:=
 .step key (aA fn key) [.slice (some ⟨k,0,some 7⟩) n 0,vI i] [] (.pointer (some ⟨k,i*s,some 7⟩)) [] (by have:=Nn (B:=B) ho (k:=k) (off:=0) (cc:=0) (kd:=.i64) hi;rw[ko]at this;exact this)
def SJ(o:Oper):Option TypeId:=match o.op with|.load t _=>some t|_=>none
theorem aH7{t:TypeId}(ho:SJ o=some t){x:Obj}{v:i_}(hx:x.reads=true)(hv:dO P t x.cells off=some v):cA P B o [.pointer (some ⟨k,off,some 7⟩)] [(k,some x)] v []:=by
 unfold SJ at ho;split at ho
 ·rename_i t' y bY;injection ho with ho;subst ho;exact(Yx bY hx hv).step
 ·cases ho
def aU.ld(fn:Func)(key t k off:Nat)(x:Obj)(v:i_)(hx:x.reads=true)(hv:dO P t x.cells off=some v)(ho:SJ (aA fn key)=some t):aU P B N:=
 .step key (aA fn key) [.pointer (some ⟨k,off,some 7⟩)] [(k,some x)] v [] (aH7 ho hx hv)
def Zz(o:Oper):Option TypeId:=match o.op with|.store t _ _=>some t|_=>none
def aU.st(fn:Func)(key t k off:Nat)(x:Obj)(v:i_)(y:Obj)(hx:x.owns=true)(hv:e9 P t x.cells off v=some y.cells)(hy:y=x.MH y.cells)(ho:Zz (aA fn key)=some t):aU P B N:=
 .step key (aA fn key) [.pointer (some ⟨k,off,some 7⟩),v] [(k,some x)] undef [(k,y)] (by
  unfold Zz at ho;split at ho
  ·rename_i t' a b bY;injection ho with ho;subst ho;rw[hy];exact(Yy bY hx hv).step
  ·cases ho)
def Np(P:j_)(o:Oper):Option (TypeId×Nat×Nat×Value):=match o.op with
 |.makeSlice t _ _=>match P.underlying t with
  |some (.slice e)=>(match P.info? e with|some i=>(match i.zero with|some z=>some (e,i.size,i.bytes,z)|none=>none)|none=>none)
  |_=>none
 |_=>none
def aU.qj(fn:Func)(key k n e bytes:Nat)(z:i_)(cells:ah)(hc:List.replicate n z=cells)(hf:flat z=true)(hz:z.cells=#[z])(hb:bytes*n<=281474976710656)(hn:n<=maxLen)(ho:Np P (aA fn key)=some (e,1,bytes,z)):aU P B N:=
 .step key (aA fn key) [vI n,vI n] [(k,none)] (.slice (some ⟨k,0,some 7⟩) n 0) [(k,.row cells e 1)] (by
  subst hc;unfold Np at ho;split at ho
  ·rename_i t a b bY;split at ho
   ·rename_i e' ht;split at ho
    ·rename_i i hi;split at ho
     ·rename_i z' nX;injection ho with ho;injection ho with h1 ho;injection ho with h2 ho;injection ho with h3 h4;subst h1;subst h4;have:=YE (P:=P) (B:=B) bY ht hi nX (kl:=.i64) (kc:=.i64) (l:=n) (cp:=n) (bA _) (by rw[h3];exact hb) hn (cells:=List.replicate n z') (by rw[h2,gC,hz,toList_madeCells_one,j8 s_]) (by rw[h2];simp) (λv hv=>by rw[List.eq_of_mem_replicate hv];exact hf) k
      rw[h2]at this;exact this.step
     ·cases ho
    ·cases ho
   ·cases ho
  ·cases ho)
def su(P:j_)(o:Oper):Option (Bool×Bool×Nat):=match o.op with
 |.slice t _ lo hi none=>match P.underlying t with
  |some (.slice e)=>(match P.info? e with|some i=>some (lo.isSome,hi.isSome,i.size)|none=>none)
  |_=>none
 |_=>none
theorem Hd{lo hi:Bool}{s:Nat}(ho:su P o=some (lo,hi,s)){n l h:Nat}(hl:lo=false->l=0)(hh:hi=false->h=n)(MK:l<=h)(YD:h<=n)(hz:l<h\/l=0):
  cA P B o (.slice (some ⟨k,off,some 7⟩) n cc::((if lo then[vI l]else[])++(if hi then[vI h]else[]))) [] (.slice (some ⟨k,off+l*s,some 7⟩) (h-l) (cc+l)) []:=by
 unfold su at ho;split at ho
 ·rename_i t x CH gy bY;split at ho
  ·rename_i e ht;split at ho
   ·rename_i i SK;injection ho with ho;injection ho with h1 ho;injection ho with h2 h3;have:=aHB (P:=P) (B:=B) bY ht SK (k:=k) (off:=off) (n:=n) (cc:=cc) (l:=l) (h:=h) (λe=>hl (by rw[<-h1,e];rfl)) (λe=>hh (by rw[<-h2,e];rfl)) MK YD hz;rw[h3]at this;have e1:bound CH l=if lo then[vI l]else[]:=by rw[<-h1];cases CH<;>rfl
    have e2:bound gy h=if hi then[vI h]else[]:=by rw[<-h2];cases gy<;>rfl
    rw[e1,e2]at this;exact this.step
   ·cases ho
  ·cases ho
 ·cases ho
def aU.upto(fn:Func)(key k n h s:Nat)(hh:h<=n)(ho:su P (aA fn key)=some (false,true,s)):aU P B N:=
 .step key (aA fn key) [.slice (some ⟨k,0,some 7⟩) n 0,vI h] [] (.slice (some ⟨k,0,some 7⟩) h 0) [] (by have:=Hd (B:=B) ho (k:=k) (off:=0) (n:=n) (cc:=0) (l:=0) (h:=h) (λ_=>rfl) n_ (jH _) hh (.inr rfl);simpa using this)
end
def ae(B n a:Nat):List Nat:=(List.range n).map λi=>a/B^i%B
def nd(B a:Nat):Nat:=if h:2<=B/\a≠0 then nd B (a/B)+1 else 0
termination_by a
decreasing_by exact ZA (tK h.2) h.1
section
variable{B:Nat}
theorem oT(n a:Nat):(ae B n a).length=n:=by simp[ae]
theorem eM{n:Nat}(h:i<n):(ae B n a)[i]?=some (a/B^i%B):=by simp[ae,h]
theorem JS{n:Nat}(h:m<=n):(ae B n a).take m=ae B m a:=by unfold ae;rw[<-CI,List.take_range,nZ h]
theorem od:nd B 0=0:=by unfold nd;simp
theorem SL(hB:2<=B)(ha:a≠0):nd B a=nd B (a/B)+1:=by rw[nd,dif_pos ⟨hB,ha⟩]
theorem ek(hB:2<=B):∀ a,a<B^nd B a:=by
 intro a;induction a using Nat.strongRecOn with
 |_ a ih=>
  by_cases ha:a=0
  ·subst ha;rw[od];simp
  ·rw[SL hB ha,dD];have:=ih (a/B) (ZA (tK ha) hB);exact(iG o_).1 this
theorem jv(hB:2<=B):∀{a n:Nat},a<B^n->nd B a<=n:=by
 intro a;induction a using Nat.strongRecOn with
 |_ a ih=>
  intro n h;by_cases ha:a=0
  ·subst ha;rw[od];omega
  ·cases n with
   |zero=>simp at h;omega
   |succ n=>
    rw[SL hB ha];rw[dD]at h;have:=ih (a/B) (ZA (tK ha) hB) (n:=n) ((iG o_).2 h);omega
theorem ZB(hB:2<=B){n:Nat}(h:n<nd B a):B^n<=a:=by
 rcases fm a (B^n)with h1|h1
 ·have:=jv hB h1;omega
 ·exact h1
theorem jw(hB:2<=B)(h:a<=b):nd B a<=nd B b:=jv hB (eV h (ek hB b))
theorem w9(hB:2<=B)(h:a≠0):0<nd B a:=by rw[SL hB h];omega
theorem E3{n:Nat}(h:a<B^(n+1)):a/B^n%B=a/B^n:=by
 refine dU ?_;have hp:0<B^n:=by
  rcases nF B with hB|hB
  ·subst hB;simp at h
  ·exact cI hB
 rw[iG hp,cP,<-dD];exact h
theorem He(hB:2<=B){n:Nat}(h:a<B^(n+1)):a/B^n%B=0↔a<B^n:=by
 rw[E3 h,Nat.div_eq_zero_iff];have:B^n≠0:=by have:=cI (n:=n) (show 0<B by omega);omega
 exact⟨λh=>h.resolve_left this,.inr⟩
def eZ(B a b i:Nat):Nat:=(a%B^i+b%B^i)/B^i
def eO(B n i a:Nat):List Nat:=(List.range n).map λj=>if j<i then a/B^j%B else 0
theorem Nq(n i a:Nat):(eO B n i a).length=n:=by simp[eO]
theorem SM(n a:Nat):eO B n 0 a=List.replicate n 0:=by apply xa<;>simp[eO]
theorem Hf(n a:Nat):eO B n n a=ae B n a:=by unfold eO ae;exact wU λj hj=>by rw[ax (j4.1 hj)]
theorem Nr{n:Nat}(h:i<n)(hd:d=a/B^i%B):(eO B n i a).set i d=eO B n (i+1) a:=by
 subst hd;apply xa
 ·simp[eO]
 ·intro j h1 h2;simp only[eO,dr,yY]at h2;rw[Hg];simp only[eO,CJ,CK];by_cases hj:i=j
  ·subst hj;simp
  ·rw[ao hj];by_cases h3:j<i
   ·rw[ax h3,ax o_]
   ·rw[ao h3,ao o_]
theorem pE(a i:Nat):a%B^(i+1)=a%B^i+a/B^i%B*B^i:=by rw[dD,Ns];rw[cP]
theorem Nt(a b:Nat):eZ B a b 0=0:=by simp[eZ,tL]
theorem E4(hB:0<B)(a b i:Nat):(a/B^i%B+b/B^i%B+eZ B a b i)/B=eZ B a b (i+1):=by
 unfold eZ;rw[pE a i,pE b i];have hp:0<B^i:=cI hB;have e:a%B^i+a/B^i%B*B^i+(b%B^i+b/B^i%B*B^i)=(a%B^i+b%B^i)+(a/B^i%B+b/B^i%B)*B^i:=by rw[fF];omega
 rw[e,dD,<-kT,pF _ _ hp,mR]
theorem Hh(hB:0<B)(a b i:Nat):(a/B^i%B+b/B^i%B+eZ B a b i)%B=(a+b)/B^i%B:=by
 unfold eZ;have hp:0<B^i:=cI hB;have e:(a+b)/B^i=a/B^i+b/B^i+(a%B^i+b%B^i)/B^i:=by
  have h1:=jx a (B^i);have h2:=jx b (B^i);have e2:a+b=(a%B^i+b%B^i)+(a/B^i+b/B^i)*B^i:=by rw[fF,cP (a/B^i),cP (b/B^i)];omega
  conv=>lhs;rw[e2]
  rw[pF _ _ hp];omega
 rw[e];rw[Nat.add_mod (a/B^i+b/B^i),Nat.add_mod (a/B^i%B+b/B^i%B),<-Nat.add_mod (a/B^i)]
theorem A3(hB:0<B)(a b i:Nat):eZ B a b i<=1:=by
 unfold eZ;have hp:0<B^i:=cI hB;have h1:=cJ a hp;have h2:=cJ b hp;have:(a%B^i+b%B^i)/B^i<2:=by rw[iG hp];omega
 omega
theorem gZ(hB:0<B)(a i:Nat):a/B^i%B<B:=cJ _ hB
theorem rf(h:a<B^m)(hi:m<=i)(hB:0<B):a/B^i%B=0:=by rw[mf (cF h (df hB hi))];simp
theorem SN{n:Nat}(ha:a<B^n)(hb:b<B^n):eZ B a b n=(a+b)/B^n:=by unfold eZ;rw[dU ha,dU hb]
def kU(B a b i:Nat):Nat:=if a%B^i<b%B^i then 1 else 0
theorem SO(a b:Nat):kU B a b 0=0:=by simp[kU,tL]
theorem Nu(a b i:Nat):kU B a b i<=1:=by unfold kU;split<;>omega
theorem SP(hB:0<B)(a b i:Nat):(if a/B^i%B<b/B^i%B+kU B a b i then 1 else 0)=kU B a b (i+1):=by
 unfold kU;rw[pE a i,pE b i];have hp:0<B^i:=cI hB;have h1:=cJ a hp;have h2:=cJ b hp;generalize a%B^i=r at *;generalize b%B^i=s at *;generalize a/B^i%B=x at *;generalize b/B^i%B=y at *;generalize B^i=p at *;have lt:∀ u v:Nat,u<v->u*p+p<=v*p:=λu v h=>by rw[<-sA];exact eh _ h
 have le:∀ u v:Nat,u<=v->u*p<=v*p:=λu v h=>eh _ h;by_cases JT:r<s
 ·rw[ax JT];by_cases kB:x<y+1
  ·have:=le x y o_;rw[ax kB,ax o_]
  ·have:=lt y x o_;rw[ao kB,ao o_]
 ·rw[ao JT];by_cases kB:x<y+0
  ·have:=lt x y o_;rw[ax kB,ax o_]
  ·have:=le y x o_;rw[ao kB,ao o_]
theorem SQ(hB:0<B)(bZ:b<=a)(i:Nat):(a/B^i%B+2*B-b/B^i%B-kU B a b i)%B=(a-b)/B^i%B:=by
 unfold kU;have hp:0<B^i:=cI hB;have h1:=cJ a hp;have h2:=cJ b hp;have ea:=jx a (B^i);have eb:=jx b (B^i);generalize hA:a/B^i=A at *;generalize hA':b/B^i=A' at *;generalize a%B^i=r at *;generalize b%B^i=s at *;generalize B^i=p at *;have lt:∀ u v:Nat,u<v->p*u+p<=p*v:=λu v h=>by rw[<-Nv];exact jJ _ h
 have hx:=cJ A hB;have hy:=cJ A' hB;have dA:=jx A B;have dA':=jx A' B
 -- the quotient of the aVO
 have key:∀ br:Nat,br=(if r<s then 1 else 0)->A'+br<=A/\(a-b)/p=A-A'-br:=by
  intro br JU;by_cases JT:r<s
  ·rw[ax JT]at JU;subst JU;have Nw:A'<A:=by
    rcases fm A' A with h|h
    ·exact h
    ·have:=jJ p h;omega
   refine⟨Nw,?_⟩;have e:a-b=(p+r-s)+p*(A-A'-1):=by
    have:=lt A' A Nw;have e2:p*A=p*A'+p+p*(A-A'-1):=by rw[<-Nv,<-oU];congr 1;omega
    omega
   rw[e,JV _ _ hp,mf o_,ko]
  ·rw[ao JT]at JU;subst JU;have Nw:A'<=A:=by
    rcases fm A A' with h|h
    ·have:=lt A A' h;omega
    ·exact h
   refine⟨Nw,?_⟩;have e:a-b=(r-s)+p*(A-A'):=by
    have e2:p*A=p*A'+p*(A-A'):=by rw[<-oU];congr 1;omega
    omega
   rw[e,JV _ _ hp,mf o_,ko];rfl
 have JU:(if r<s then 1 else 0)<=1:=by split<;>omega
 obtain⟨k1,k2⟩:=key _ rfl;rw[k2];generalize (if r<s then 1 else 0)=br at *;have e:A%B+2*B-A'%B-br+B*(A/B)=(A-A'-br)+B*(A'/B+2):=by rw[oU];omega
 have:=cL (·%B) e;simpa only[E5]using this
theorem yZ(p:Nat->Prop)[DecidablePred p]:∀ n,p n->∃ e,e<=n/\p e/\∀ j,j<e->¬p j
 |0,h=>⟨0,bA _,h,λj hj=>by omega⟩
 |n+1,h=>by
  by_cases h0:p 0
  ·exact⟨0,by omega,h0,λj hj=>by omega⟩
  ·obtain⟨e,h1,h2,h3⟩:=yZ (λj=>p (j+1)) n h;refine⟨e+1,by omega,h2,λj hj=>?_⟩;cases j with
   |zero=>exact h0
   |succ j=>exact h3 j o_
def dc(B n i s p:Nat):List Nat:=(List.range n).map λj=>if j<i then s/B^j%B else p/B^j%B
theorem xb(n i s p:Nat):(dc B n i s p).length=n:=by simp[dc]
theorem CL{n s p:Nat}(hj:j<n)(h:i<=j):(dc B n i s p)[j]?=some (p/B^j%B):=by simp[dc,hj];omega
theorem y0{n s p:Nat}(h:i<n)(hd:d=s/B^i%B):(dc B n i s p).set i d=dc B n (i+1) s p:=by
 subst hd;apply xa
 ·simp[dc]
 ·intro j h1 h2;simp only[dc,dr,yY]at h2;rw[Hg];simp only[dc,CJ,CK];by_cases hj:i=j
  ·subst hj;simp
  ·rw[ao hj];by_cases h3:j<i
   ·rw[ax h3,ax o_]
   ·rw[ao h3,ao o_]
theorem aH8(hB:0<B)(p t i:Nat):(p+t)/B^i=p/B^i+t/B^i+eZ B p t i:=by
 have hp:0<B^i:=cI hB;unfold eZ;have h1:=jx p (B^i);have h2:=jx t (B^i);have e2:p+t=(p%B^i+t%B^i)+(p/B^i+t/B^i)*B^i:=by rw[fF,cP (p/B^i),cP (t/B^i)];omega
 conv=>lhs;rw[e2]
 rw[pF _ _ hp];omega
theorem ZC(hB:0<B)(n at' p c:Nat):dc B n at' (p+c*B^at') p=ae B n p:=by
 unfold dc ae;refine wU λj _=>?_;by_cases h:j<at'
 ·rw[ax h];have e:B^at'=B^j*(B*B^(at'-j-1)):=by rw[<-Nat.pow_succ',<-eP];congr 1;omega
  rw[e,show c*(B^j*(B*B^(at'-j-1)))=B^j*(B*(c*B^(at'-j-1)))by rw[mS,mS c B],JV _ _ (cI hB),E5]
 ·rw[ao h]
theorem aH9(hB:0<B)(at' p c:Nat):eZ B p (c*B^at') at'=0:=by unfold eZ;rw[ZD,jd,mf (cJ _ (cI hB))]
theorem aIa(hB:0<B){n p t:Nat}(ht:t<B^i)(hc:eZ B p t i=0):dc B n i (p+t) p=ae B n (p+t):=by
 unfold dc ae;refine wU λj _=>?_;by_cases h:j<i
 ·rw[ax h]
 ·rw[ao h];have e:=aH8 hB p t i;rw[hc,mf ht,jd]at e;have e2:B^j=B^i*B^(j-i):=by rw[<-eP];congr 1;omega
  rw[e2,<-kT,<-kT,e]
theorem aIb(hB:0<B)(at' c:Nat):c*B^at'/B^at'%B=c%B:=by rw[SR _ (cI hB)]
theorem aIc(hB:0<B){at' c:Nat}(h:c<B*B):c*B^at'/B^(at'+1)%B=c/B:=by rw[dD,<-kT,SR _ (cI hB)];exact dU ((iG hB).2 h)
theorem aId(hB:0<B){at' c:Nat}(h:c<B*B):c*B^at'<B^(at'+2):=by rw[dD,dD,fU,cP];exact ZE h (cI hB)
def part(B a b i k:Nat):Nat:=(a%B^i)*b+a/B^i%B*(b%B^k)*B^i
theorem CM(a b i:Nat):part B a b i 0=(a%B^i)*b:=by simp[part,tL]
theorem ZF(a b i k:Nat):part B a b i (k+1)=part B a b i k+a/B^i%B*(b/B^k%B)*B^(i+k):=by
 unfold part;rw[pE b k,eP,oU,fF,uI]
 congr 2
 simp only[cP,mS]
theorem aIe(hb:b<B^m):part B a b i m=part B a b (i+1) 0:=by
 rw[CM,pE a i];unfold part;rw[dU hb,fF]
 congr 1
 simp only[cP,mS]
theorem ZG(hB:0<B)(a b i k:Nat):part B a b i k<=a*b:=by
 have h1:a%B^(i+1)<=a:=JW _ _;have h2:part B a b i k<=(a%B^(i+1))*b:=by
  rw[pE a i];unfold part;rw[fF];refine Nx ?_ _;have h3:b%B^k<=b:=JW _ _;have:=jJ (a/B^i%B) h3;have:=eh (B^i) this
  calc _<=_:=this
   _=_:=by simp only[cP,mS]
 exact di h2 (eh _ h1)
theorem ZH{n:Nat}(hB:0<B)(ha:a<B^n)(hb:b<B^m):a*b<B^(n+m+1):=by
 have h1:a*b<B^(n+m):=by rw[eP];exact qk ha hb
 exact cF h1 (df hB o_)
theorem ZI(hB:0<B)(hd:0<d)(mT:d<=B)(a j:Nat):(a/B^(j+1)%d*B+a/B^j%B)/d=(a/d)/B^j%B/\(a/B^(j+1)%d*B+a/B^j%B)%d=a/B^j%d:=by
 have e1:a/B^(j+1)=a/B^j/B:=by rw[dD,kT]
 have e2:a/d/B^j=a/B^j/d:=by rw[kT,kT,cP]
 rw[e1,e2];generalize a/B^j=c;have h1:=jx c B;have h2:=jx (c/B) d;have h3:c/B%d<d:=cJ _ hd;have h4:c%B<B:=cJ _ hB;have h5:c=(c/B%d*B+c%B)+d*(B*(c/B/d)):=by
  have:B*(c/B)=B*(d*(c/B/d)+c/B%d):=by rw[h2]
  rw[oU,mS]at this;rw[cP (c/B%d)];omega
 have h6:(c/B%d*B+c%B)/d<B:=by rw[iG hd];have:=eh B (show c/B%d+1<=d by omega);rw[fF,ql]at this;rw[cP B d];omega
 constructor
 ·conv=>rhs;rw[h5]
  rw[JV _ _ hd,E5,dU h6]
 ·conv=>rhs;rw[h5]
  rw[E5]
def gF(B n i a:Nat):List Nat:=(List.range n).map λj=>if j<i then 0 else a/B^j%B
theorem Ny(n i a:Nat):(gF B n i a).length=n:=by simp[gF]
theorem Nz(n a:Nat):gF B n n a=List.replicate n 0:=by
 apply xa
 ·simp[gF]
 ·intro j h1 h2;simp only[gF,dr,yY]at h1;simp[gF,h1]
theorem JX(n a:Nat):gF B n 0 a=ae B n a:=by unfold gF ae;exact wU λj _=>by rw[ao o_]
theorem NA{n:Nat}(h:j<n)(hd:d=a/B^j%B):(gF B n (j+1) a).set j d=gF B n j a:=by
 subst hd;apply xa
 ·simp[gF]
 ·intro i h1 h2;simp only[gF,dr,yY]at h2;rw[Hg];simp only[gF,CJ,CK];by_cases hi:j=i
  ·subst hi;simp
  ·rw[ao hi];by_cases h3:i<j
   ·rw[ax h3,ax o_]
   ·rw[ao h3,ao o_]
theorem xc(a j:Nat):a/B^j=a/B^(j+1)*B+a/B^j%B:=by have:=jx (a/B^j) B;rw[kT,<-dD,cP]at this;exact this.symm
theorem ZJ{n:Nat}(ha:a<B^n)(hb:b<B^n)(t:Nat)(ht:t<=n)(h:∀ s,s<t->a/B^(n-1-s)%B=b/B^(n-1-s)%B):a/B^(n-t)=b/B^(n-t):=by
 induction t with
 |zero=>rw[Hc,mf ha,mf hb]
 |succ t ih=>
  have ih:=ih o_ λs hs=>h s o_;have e:n-t=(n-(t+1))+1:=by omega
  rw[e]at ih;have h1:=h t o_;rw[show n-1-t=n-(t+1)by omega]at h1;rw[xc (B:=B) a,xc (B:=B) b,ih,h1]
theorem NB(h:a/B^(j+1)=b/B^(j+1))(ak:a/B^j%B<b/B^j%B):a<b:=by
 have h1:a/B^j<b/B^j:=by rw[xc (B:=B) a,xc (B:=B) b,h];omega
 rcases fm a b with h2|h2
 ·exact h2
 ·have:=Nat.div_le_div_right (c:=B^j) h2;omega
end
theorem mixed:prog.follows .mixedOrders=true:=by kernel_rfl
def aR(x:Nat):Value:=.int .u32 (x:Int)
def aj(l:l_):ah:=l.map aR
theorem fG(l:l_):∀ u∈aj l,flat u=true:=λu hu=>by obtain⟨x,_,rfl⟩:=dj.1 hu;rfl
theorem kV{l:l_}{x:Nat}(h:l[i]?=some x):(aj l)[i]?=some (aR x):=by simp[aj,h]
abbrev base:Nat:=4294967296
theorem fV(cells:ah)(i:Nat):dO prog 179 cells i=cells[i]?:=by kernel_rfl
theorem aC{c:Code}{next:Nat}(rs:bL prog B N){r:lK}(h:JQ (jg 100 c fr M next rs) r.fr r.M=JR (jg 100 c fr M next rs) r.ex r.fr r.M r.next:=by kernel_rfl):af prog B N c fr M next r:=fB mixed 100 rs h
theorem aIf{n:Nat}(hm:m+1<=n)(ha:a<base^m)(h63:n<=9223372036854775807):
  af prog Bs 21 (aF (ag f199 0)) [(0,.slice (some ⟨0,0,some 7⟩) (m+1) 0)] [(0,.view (aj (ae base n a)))] 1
   ⟨.normal,[(0,.slice (some ⟨0,0,some 7⟩) m 0)],[(0,.view (aj (ae base n a)))],1⟩:=by
 have hd:a/base^m%base=0:=(He d_ (cF ha (df d_ (yO m)))).2 ha;exact aC [
  .gt 5 (m+1) 0 true s_,
  .fh 10 (m+1) 1 m rfl o_,
  .ix f199 11 0 (m+1) m o_ k_,
  .ld f199 12 179 0 m (.view (aj (ae base n a))) (aR (a/base^m%base)) rfl (by rw[fV];exact kV (eM o_)) k_,
  .fZ 13 (a/base^m%base) 0 true (by simp[hd]),
  .fh 18 (m+1) 1 m rfl o_,
  .upto f199 19 0 (m+1) m 1 o_ k_]
theorem aIg{n:Nat}(hm:m<=n)(ha:a<base^m)(hl:m=nd base a)(h63:n<=9223372036854775807):
  af prog Bs 21 (aF (ag f199 0)) [(0,.slice (some ⟨0,0,some 7⟩) m 0)] [(0,.view (aj (ae base n a)))] 1
   ⟨.exit 0,[(0,.slice (some ⟨0,0,some 7⟩) m 0)],[(0,.view (aj (ae base n a)))],1⟩:=by
 cases m with
 |zero=>exact aC [.gt 5 0 0 false s_]
 |succ m=>
  have hd:a/base^m%base≠0:=λe=>by have:=jv (B:=base) d_ ((He d_ ha).1 e);omega
  exact aC [
   .gt 5 (m+1) 0 true s_,
   .fh 10 (m+1) 1 m rfl o_,
   .ix f199 11 0 (m+1) m o_ k_,
   .ld f199 12 179 0 m (.view (aj (ae base n a))) (aR (a/base^m%base)) rfl (by rw[fV];exact kV (eM o_)) k_,
   .fZ 13 (a/base^m%base) 0 false (by simp[hd])]
theorem aIh{n:Nat}(ha:a<base^n)(h63:n<=9223372036854775807):
  af prog Bs 21 (.block 0 (ag f199 0)) [(0,.slice (some ⟨0,0,some 7⟩) n 0)] [(0,.view (aj (ae base n a)))] 1
   ⟨.normal,[(0,.slice (some ⟨0,0,some 7⟩) (nd base a) 0)],[(0,.view (aj (ae base n a)))],1⟩:=by
 have hle:=jv (B:=base) d_ ha;have ak:=ek (B:=base) d_ a
 have:=ch (P:=prog) (B:=Bs) (N:=21) (b:=aF (ag f199 0)) (next:=1) (n-nd base a) (λi=>[(0,.slice (some ⟨0,0,some 7⟩) (n-i) 0)]) (λ_=>[(0,.view (aj (ae base n a)))])
  (r:=⟨.exit 0,[(0,.slice (some ⟨0,0,some 7⟩) (nd base a) 0)],[(0,.view (aj (ae base n a)))],1⟩) (λ_ _ _=>Iff.rfl)
  (λi hi=>by
   have e:n-i=(n-(i+1))+1:=by omega
   simp only[e];exact aIf o_ (cF ak (df d_ o_)) h63)
  (by
   have e:n-(n-nd base a)=nd base a:=by omega
   simp only[e];exact aIg hle ak rfl h63) n_
 exact bO this
def NC(v:i_)(m:Nat):Value:=match v with|.slice a _ c=>.slice a m c|v=>v
theorem ZK{v:i_}{n:Nat}(hv:dp w v n (aj (ae base n a)))(ha:a<base^n)(h63:n<=9223372036854775807):
  Calls prog 199 #[v] w λe w'=>e=.returned (NC v (nd base a))/\Below w.heap.size w w':=by
 refine lN (Q:=λe w'=>e=.returned (NC v (nd base a))/\Below w.heap.size w w') mixed func199 [.row v n (aj (ae base n a))] (λs hs=>by simp at hs;subst hs;exact⟨hv,fG _⟩) 100 (N:=21) k_
  (rs:=[.code 0 _ _ _ _ _ (aIh ha h63)]) (v:=.slice (some ⟨0,0,some 7⟩) (nd base a) 0) (ms:=[]) k_ λay b9 v' w' hc hm _ dK=>⟨?_,hm.base⟩
 cases dK with
 |cons h1 _=>
 congr 1
 rcases hc.hZ rfl with ⟨q1,q2,_,_,q5⟩|⟨b,o,cap,c',q1,q2,q3,q5⟩<;>rcases h1.hZ rfl with ⟨p1,p2,_,_,p5⟩|⟨b2,o2,qb,c2,p1,p2,p3,p5⟩
 ·have p5:v=.slice none 0 0:=p5;rw[q5,p5,q2];rfl
 ·rw[q1]at p1;cases p1
 ·rw[q1]at p1;cases p1
 ·rw[q1]at p1;injection p1 with p1;injection p1 with e1 e2 e3;subst e1;subst e2;subst e3;have p5:v=_:=p5;rw[q5,p5,show c'=c2 by omega];rfl
theorem bo{v:i_}(hf:prog.funcs[f]?=some fn)(rs:∀ w,bL prog (aa.at w) (args.length+(fn.ntmps-args.length)))(h:∀ w,oQ (gO (P:=prog) fn 100 args [] 0 (rs w)) []=oR (gO fn 100 args [] 0 (rs w)) v []:=by intro _;kernel_rfl)(dK:args.all flat=true:=by kernel_rfl)(hv:flat v=true:=by kernel_rfl):aB prog f args v:=eF mixed hf 100 rs h dK hv
theorem JY{x y c:Nat}(hx:x<base)(hy:y<base)(hc:c<base):
  aB prog 218 [aR x,aR y,aR c] (.tuple #[aR ((x+y+c)%base),aR ((x+y+c)/base)]):=
 bo func218 (λ_=>[
  .wr 10 .u64 x x (by rw[j9];unfold base at *;omega),.wr 12 .u64 y y (by rw[j9];unfold base at *;omega),
  .wr 13 .u64 (x+y) ((x+y:Nat):Int) (by rw[j9];unfold base at *;omega),.wr 15 .u64 c c (by rw[j9];unfold base at *;omega),
  .wr 16 .u64 (((x+y:Nat):Int)+c) ((x+y+c:Nat):Int) (by rw[j9];unfold base at *;omega),
  .wr 18 .u32 ((x+y+c:Nat):Int) (((x+y+c)%base:Nat):Int) (by rw[nG];unfold base at *;omega),
  .quo 20 .u64 (((x+y+c:Nat):Int).fdiv (2^32)) (((x+y+c)/base:Nat):Int) (by rw[sB _ d_];unfold base at *;omega),
  .wr 21 .u32 (((x+y+c)/base:Nat):Int) (((x+y+c)/base:Nat):Int) (by rw[nG];unfold base at *;omega)])
theorem E6(n:Nat):List.replicate n (aR 0)=aj (List.replicate n 0):=by simp[aj]
theorem y7(cells:ah)(i d:Nat)(h:i<cells.length):e9 prog 179 cells i (aR d)=some (cells.set i (aR d)):=by
 have e:e9 prog 179 cells i (aR d)=if(Nat.ble (i+1) cells.length&&true)then some (jc cells i [aR d])else none:=by kernel_rfl
 rw[e,Se h];rfl
theorem y8(l:l_)(i d:Nat):(aj l).set i (aR d)=aj (l.set i d):=by simp[aj,List.map_set]
theorem aIi{y:m_}(ho:dC o.op=some y){n:Nat}{x:Obj}(hx:x.reads=true)(hc:x.cells=aj (ae base n a))(ha:a<base^n)(h63:n<=9223372036854775807):
  cA prog Bs o [.func (.func 199) #[] #[],.slice (some ⟨k,0,some 7⟩) n 0] [(k,some x)] (.slice (some ⟨k,0,some 7⟩) (nd base a) 0) []:=by
 refine j7 (fi:=[]) (ca:=[]) ho k_ λι c w hm hn args' dK=>?_;obtain⟨v,rfl,h1⟩:=nB dK;have hk:c k=some x:=hn _ (aP ..);have hr:=oS (len:=n) hm hk hx (by rw[hc];exact fG _) (λh=>h) h1;rw[hc,mg,j8 (by simp[aj,oT])]at hr;refine(ZK hr ha h63).mono ?_
 rintro e w' ⟨rfl,hb⟩
 refine⟨ι,_,rfl,Map.le.refl _,?_,hm.call hb⟩;have jK:=jv (B:=base) d_ ha;rcases h1.hZ rfl with ⟨q1,q2,_,_,q5⟩|⟨b,oo,cap,c',q1,q2,q3,q5⟩
 ·rw[q5];have:nd base a=0:=by omega
  rw[this];exact .slcN q1
 ·rw[q5];exact .slc q1 o_ q3
def aU.trim(fn:Func)(key k n a:Nat)(x:Obj)(hx:x.reads=true)(hc:x.cells=aj (ae base n a))(ha:a<base^n)(h63:n<=9223372036854775807){y:m_}(ho:dC (aA fn key).op=some y):aU prog Bs N:=
 .step key (aA fn key) [.func (.func 199) #[] #[],.slice (some ⟨k,0,some 7⟩) n 0] [(k,some x)] (.slice (some ⟨k,0,some 7⟩) (nd base a) 0) [] (aIi ho hx hc ha h63)
section
variable{Bs:aa}{ka kb n m a b:Nat}
def sl(k n:Nat):Value:=.slice (some ⟨k,0,some 7⟩) n 0
def CN(ka kb n m a b i:Nat):aN:=[(23,vI i),(22,vI n),(21,sl ka n),(0,sl ka n),(1,sl kb m),(5,sl 2 (n+1)),(6,aR (eZ base a b i))]
def y9(ka kb n m a b i:Nat):aH:=[(ka,.view (aj (ae base n a))),(kb,.view (aj (ae base m b))),(2,.row (aj (eO base (n+1) i (a+b))) 179 1)]
theorem aIj(hk:(ka=0/\kb=1)\/(ka=1/\kb=0))(hi:i<n)(hb:b<base^m)(hm:m<=n)(h63:n<9223372036854775807):
  af prog Bs 54 (aF (ag f192 0)) (CN ka kb n m a b i) (y9 ka kb n m a b i) 3 ⟨.normal,CN ka kb n m a b (i+1),y9 ka kb n m a b (i+1),3⟩:=by
 have hx:=gZ (B:=base) d_ a i;have hy:=gZ (B:=base) d_ b i;have hc:=A3 (B:=base) d_ a b i;have zf:=JY (c:=eZ base a b i) hx hy (eV hc d_);rw[Hh d_,E4 d_]at zf;have bT:e9 prog 179 (aj (eO base (n+1) i (a+b))) i (aR ((a+b)/base^i%base))=some (aj (eO base (n+1) (i+1) (a+b))):=by rw[y7 _ i _ (by simp[aj,Nq];omega),y8,Nr o_ rfl]
 by_cases jS:i<m
 ·let S:Nat->Nat->bL prog Bs 54:=λka kb=>[.lt 24 i n true (by simp[hi]),.ix f192 26 ka n i hi k_,.ld f192 27 179 ka i (.view (aj (ae base n a))) (aR (a/base^i%base)) rfl (by rw[fV];exact kV (eM hi)) k_,.lt 31 i m true (by simp[jS]),.ix f192 34 kb m i jS k_,.ld f192 35 179 kb i (.view (aj (ae base m b))) (aR (b/base^i%base)) rfl (by rw[fV];exact kV (eM jS)) k_,zf.at 42,.ix f192 45 2 (n+1) i o_ k_,.st f192 100045 179 2 i (.row (aj (eO base (n+1) i (a+b))) 179 1) (aR ((a+b)/base^i%base)) (.row (aj (eO base (n+1) (i+1) (a+b))) 179 1) rfl bT rfl k_,.sum 46 i 1 (i+1) rfl o_]
  rcases hk with ⟨rfl,rfl⟩|⟨rfl,rfl⟩
  ·exact aC (S 0 1)
  ·exact aC (S 1 0)
 ·have xd:b/base^i%base=0:=rf hb o_ d_;rw[xd]at zf
  let S:Nat->Nat->bL prog Bs 54:=λka kb=>[.lt 24 i n true (by simp[hi]),.ix f192 26 ka n i hi k_,.ld f192 27 179 ka i (.view (aj (ae base n a))) (aR (a/base^i%base)) rfl (by rw[fV];exact kV (eM hi)) k_,.lt 31 i m false (by simp[jS]),zf.at 42,.ix f192 45 2 (n+1) i o_ k_,.st f192 100045 179 2 i (.row (aj (eO base (n+1) i (a+b))) 179 1) (aR ((a+b)/base^i%base)) (.row (aj (eO base (n+1) (i+1) (a+b))) 179 1) rfl bT rfl k_,.sum 46 i 1 (i+1) rfl o_]
  rcases hk with ⟨rfl,rfl⟩|⟨rfl,rfl⟩
  ·exact aC (S 0 1)
  ·exact aC (S 1 0)
theorem aIk(hk:(ka=0/\kb=1)\/(ka=1/\kb=0)):
  af prog Bs 54 (aF (ag f192 0)) (CN ka kb n m a b n) (y9 ka kb n m a b n) 3 ⟨.exit 0,CN ka kb n m a b n,y9 ka kb n m a b n,3⟩:=by
 rcases hk with ⟨rfl,rfl⟩|⟨rfl,rfl⟩
 all_goals exact aC [.lt 24 n n false s_]
theorem aIl(hk:(ka=0/\kb=1)\/(ka=1/\kb=0))(hb:b<base^m)(hm:m<=n)(h63:n<9223372036854775807):
  af prog Bs 54 (.block 0 (ag f192 0)) (CN ka kb n m a b 0) (y9 ka kb n m a b 0) 3 ⟨.normal,CN ka kb n m a b n,y9 ka kb n m a b n,3⟩:=
 bO (ch (b:=aF (ag f192 0)) (r:=⟨.exit 0,CN ka kb n m a b n,y9 ka kb n m a b n,3⟩) n (CN ka kb n m a b) (y9 ka kb n m a b) (λi k _=>j6 (l:=y9 ka kb n m a b i) (m:=y9 ka kb n m a b 0) rfl k) (λi hi=>aIj hk hi hb hm h63) (aIk hk) n_)
noncomputable def ZL(hk:(ka=0/\kb=1)\/(ka=1/\kb=0))(ha:a<base^n)(hb:b<base^m)(hm:m<=n)(h63:n<35184372088832)(hs:a+b<base^(n+1))
  (bT:e9 prog 179 (aj (eO base (n+1) n (a+b))) n (aR (eZ base a b n))=some (aj (ae base (n+1) (a+b)))):bL prog Bs 54:=
 [.sum 19 n 1 (n+1) rfl o_,.qj f192 20 2 (n+1) 179 4 (aR 0) (aj (eO base (n+1) 0 (a+b))) (by rw[SM,E6]) rfl rfl o_ (by simp[maxLen];omega) k_,.rw 6 (.int .u32 0) (aR (eZ base a b 0)) (by rw[Nt];rfl),.code 0 _ _ _ _ _ (aIl (ka:=ka) (kb:=kb) (a:=a) hk hb hm o_),.ix f192 51 2 (n+1) n o_ k_,.st f192 100051 179 2 n (.row (aj (eO base (n+1) n (a+b))) 179 1) (aR (eZ base a b n)) (.row (aj (ae base (n+1) (a+b))) 179 1) rfl bT rfl k_,.trim f192 53 2 (n+1) (a+b) (.row (aj (ae base (n+1) (a+b))) 179 1) rfl rfl hs o_ (y:=.func 199) k_]
end
def jT(w w':h_)(v:i_)(a:Nat):Prop:=w'.ownsRow w.heap.size 179 1 v (nd base a) (aj (ae base (nd base a) a))
def iH(w:h_)(v:i_)(a:Nat):Prop:=dp w v (nd base a) (aj (ae base (nd base a) a))
theorem xe(hm:aM (aa.at w) ι c w'){n:Nat}{v:i_}(hk:c k=some (.row (aj (ae base n a)) 179 1))(ha:a<base^n)(hv:aK ι (.slice (some ⟨k,0,some 7⟩) (nd base a) 0) v):jT w w' v a:=by
 have hle:=jv (B:=base) d_ ha;have:=wZ hm hk hv (by simp[aj,oT];exact hle) (fG _);have e:(aj (ae base n a)).take (nd base a*1)=aj (ae base (nd base a) a):=by rw[gC];unfold aj;rw[<-CI,JS hle]
 rw[e]at this;exact this
theorem JZ{n:Nat}(ha:a<base^n)(hb:b<base^n):e9 prog 179 (aj (eO base (n+1) n (a+b))) n (aR (eZ base a b n))=some (aj (ae base (n+1) (a+b))):=by have h1:=A3 (B:=base) d_ a b n;have h2:=SN ha hb;rw[y7 _ n _ (by simp[aj,Nq]),y8,Nr o_ (by rw[<-h2];exact(dU (eV h1 d_)).symm),Hf]
theorem J0{n:Nat}(ha:a<base^n)(hb:b<base^n):a+b<base^(n+1):=by have h1:base^n*2<=base^n*base:=jJ _ d_;rw[dD];omega
theorem aIm{vb:i_}(gm:iH w va a)(ll:iH w vb b)(h1:nd base a<35184372088832)(h2:nd base b<35184372088832):
  Calls prog 192 #[va,vb] w λe w'=>∃ v,e=.returned v/\jT w w' v (a+b)/\Below w.heap.size w w':=by
 have ha:=ek (B:=base) d_ a;have hb:=ek (B:=base) d_ b;have hl:∀ s∈[cz.row va (nd base a) (aj (ae base (nd base a) a)),cz.row vb (nd base b) (aj (ae base (nd base b) b))],s.OK w:=by
  intro s hs;simp at hs;rcases hs with rfl|rfl
  ·exact⟨gm,fG _⟩
  ·exact⟨ll,fG _⟩
 unfold iH at gm ll;generalize nd base a=n at *;generalize nd base b=m at *;by_cases lL:n<m
 ·have hs:=J0 hb (cF ha (df d_ o_))
  refine lN (Q:=λe w'=>∃ v,e=.returned v/\jT w w' v (a+b)/\Below w.heap.size w w') mixed func192 [cz.row va n (aj (ae base n a)),cz.row vb m (aj (ae base m b))] hl 100 (N:=54) k_
   (rs:=(aU.lt 14 n m true (by simp[lL]):aU prog (aa.at w) 54)::ZL (ka:=1) (kb:=0) (a:=b) (b:=a) (.inr ⟨rfl,rfl⟩) hb ha o_ o_ hs (JZ hb (cF ha (df d_ o_))))
   (v:=.slice (some ⟨2,0,some 7⟩) (nd base (b+a)) 0) (ms:=[(2,.row (aj (ae base (m+1) (b+a))) 179 1)]) k_ λay b9 v' w' hc bF dQ _=>⟨v',rfl,?_,bF.base⟩
  rw[mR a b];exact xe bF (dQ _ (aP ..)) hs hc
 ·have hs:=J0 ha (cF hb (df d_ (show m<=n by omega)))
  refine lN (Q:=λe w'=>∃ v,e=.returned v/\jT w w' v (a+b)/\Below w.heap.size w w') mixed func192 [cz.row va n (aj (ae base n a)),cz.row vb m (aj (ae base m b))] hl 100 (N:=54) k_
   (rs:=(aU.lt 14 n m false (by simp[lL]):aU prog (aa.at w) 54)::ZL (ka:=0) (kb:=1) (a:=a) (b:=b) (.inl ⟨rfl,rfl⟩) ha hb o_ o_ hs (JZ ha (cF hb (df d_ o_))))
   (v:=.slice (some ⟨2,0,some 7⟩) (nd base (a+b)) 0) (ms:=[(2,.row (aj (ae base (n+1) (a+b))) 179 1)]) k_ λay b9 v' w' hc bF dQ _=>⟨v',rfl,?_,bF.base⟩
  exact xe bF (dQ _ (aP ..)) hs hc
theorem CO{x:Nat}(h:x<base):x.testBit 31=decide (2147483648<=x):=by rw[Nat.testBit_eq_decide_div_mod_eq,pD];unfold base at h;omega
theorem aIn{x:Nat}(h:x<base):x/2147483648=if x.testBit 31 then 1 else 0:=by
 rw[CO h];unfold base at h;by_cases h1:2147483648<=x
 ·rw[aE h1,ax rfl];omega
 ·rw[aO h1,ao d_];omega
theorem aIo{x y:Nat}(hx:x<base)(hy:y<base)(hb:b<=1):
  (((base-1-x)&&& y)||| ((base-1-(x ^^^ y))&&& ((x+2*base-y-b)%base)))/2147483648=if x<y+b then 1 else 0:=by
 have kB:x ^^^ y<base:=ZM (n:=32) hx hy;have hd:(x+2*base-y-b)%base<base:=cJ _ d_;have h1:base-1-x<base:=by unfold base at *;omega
 have h2:base-1-(x ^^^ y)<base:=by unfold base at *;omega
 rw[aIn (ZN (n:=32) (ND _ hy) (ND _ hd))];rw[YZ,Nat.testBit_and,Nat.testBit_and,CO h1,CO h2,CO hy,CO hd];have h3:(decide (2147483648<=x ^^^ y))=((decide (2147483648<=x))!=(decide (2147483648<=y))):=by rw[<-CO kB,Nat.testBit_xor,CO hx,CO hy]
 have h4:decide (2147483648<=base-1-(x ^^^ y))=!(decide (2147483648<=x ^^^ y)):=by
  unfold base at *;by_cases h:2147483648<=x ^^^ y
  ·rw[aE h,aO o_];rfl
  ·rw[aO h,aE o_];rfl
 rw[h4,h3];unfold base at *;have e1:decide (2147483648<=4294967296-1-x)=!decide (2147483648<=x):=by
  by_cases h:2147483648<=x
  ·rw[aE h,aO o_];rfl
  ·rw[aO h,aE o_];rfl
 rw[e1];have fin:∀ p:Prop,[Decidable p]->(p↔x<y+b)->(if decide p=true then 1 else 0)=(if x<y+b then 1 else 0):=by
  intro p _ h;by_cases hp:p
  ·rw[ax (aE hp),ax (h.1 hp)]
  ·rw[ao (by simpa using hp),ao λh'=>hp (h.2 h')]
 by_cases c1:2147483648<=x<;>by_cases c2:2147483648<=y
 ·rw[aE c1,aE c2];simp only[J1,zg,xf,bne_self_eq_false,NF,jy];exact fin _ o_
 ·rw[aE c1,aO c2,ao (show ¬x<y+b by omega)];rfl
 ·rw[aO c1,aE c2,ax (show x<y+b by omega)];rfl
 ·rw[aO c1,aO c2];simp only[NF,jy,NG,xf,bne_self_eq_false];exact fin _ o_
theorem Hi{x:Nat}(h:x<base):(BitVec.ofInt 32 (x:Int))=BitVec.ofNat 32 x:=by simp
theorem E7{x:Nat}(h:x<base):(BitVec.ofNat 32 x).toNat=x:=by rw[BitVec.toNat_ofNat];exact dU h
theorem ZO{x y:Nat}(hx:x<base)(hy:y<base):IntKind.u32.wrap (((BitVec.ofInt IntKind.u32.bits (x:Int))&&& (BitVec.ofInt IntKind.u32.bits (y:Int))).toNat:Int)=((x&&& y:Nat):Int):=by show IntKind.u32.wrap (((BitVec.ofInt 32 (x:Int))&&& (BitVec.ofInt 32 (y:Int))).toNat:Int)=_;rw[Hi hx,Hi hy,BitVec.toNat_and,E7 hx,E7 hy,nG];have:x&&& y<base:=ND (n:=32) _ hy;unfold base at this;omega
theorem SS{x y:Nat}(hx:x<base)(hy:y<base):IntKind.u32.wrap (((BitVec.ofInt IntKind.u32.bits (x:Int))||| (BitVec.ofInt IntKind.u32.bits (y:Int))).toNat:Int)=((x||| y:Nat):Int):=by
 show IntKind.u32.wrap (((BitVec.ofInt 32 (x:Int))||| (BitVec.ofInt 32 (y:Int))).toNat:Int)=_;rw[Hi hx,Hi hy,BitVec.toNat_or,E7 hx,E7 hy,nG];have:x||| y<base:=ZN (n:=32) hx hy
 unfold base at this;omega
theorem ZP{x y:Nat}(hx:x<base)(hy:y<base):IntKind.u32.wrap (((BitVec.ofInt IntKind.u32.bits (x:Int)) ^^^ (BitVec.ofInt IntKind.u32.bits (y:Int))).toNat:Int)=((x ^^^ y:Nat):Int):=by show IntKind.u32.wrap (((BitVec.ofInt 32 (x:Int)) ^^^ (BitVec.ofInt 32 (y:Int))).toNat:Int)=_;rw[Hi hx,Hi hy,BitVec.toNat_xor,E7 hx,E7 hy,nG];have:x ^^^ y<base:=ZM (n:=32) hx hy;unfold base at this;omega
theorem ZQ{x:Nat}(hx:x<base):IntKind.u32.wrap (((BitVec.ofInt IntKind.u32.bits (if IntKind.u32.signed then -1 else IntKind.u32.max)) ^^^ (BitVec.ofInt IntKind.u32.bits (x:Int))).toNat:Int)=((base-1-x:Nat):Int):=by
 have h0:(if IntKind.u32.signed then -1 else IntKind.u32.max)=((base-1:Nat):Int):=by decide
 rw[h0,ZP d_ hx]
 congr 1
 have h1:=BitVec.toNat_not (x:=BitVec.ofNat 32 x);rw[show ~~~(BitVec.ofNat 32 x)=BitVec.allOnes 32 ^^^ BitVec.ofNat 32 x from rfl,BitVec.toNat_xor,E7 hx]at h1;have h2:(BitVec.allOnes 32).toNat=base-1:=by decide
 rw[h2]at h1;exact h1
theorem ZR{x y:Nat}(hx:x<base)(hy:y<base)(hb:b<=1):
  aB prog 219 [aR x,aR y,aR b] (.tuple #[aR ((x+2*base-y-b)%base),aR (if x<y+b then 1 else 0)]):=by
 have hd:(x+2*base-y-b)%base<base:=cJ _ d_;have kB:x ^^^ y<base:=ZM (n:=32) hx hy;have h1:base-1-x<base:=by unfold base at *;omega
 have h2:base-1-(x ^^^ y)<base:=by unfold base at *;omega
 have h3:(base-1-x)&&& y<base:=ND (n:=32) _ hy;have h4:(base-1-(x ^^^ y))&&& ((x+2*base-y-b)%base)<base:=ND (n:=32) _ hd;exact bo func219 (λ_=>[
  .wr 10 .u32 ((x:Int)-y) (((x+base-y)%base:Nat):Int) (by rw[nG];unfold base at *;omega),
  .wr 12 .u32 ((((x+base-y)%base:Nat):Int)-b) (((x+2*base-y-b)%base:Nat):Int) (by rw[nG];unfold base at *;omega),
  .quo 14 .u32 _ ((base-1-x:Nat):Int) (ZQ hx),
  .quo 16 .u32 _ (((base-1-x)&&& y:Nat):Int) (ZO h1 hy),
  .quo 19 .u32 _ ((x ^^^ y:Nat):Int) (ZP hx hy),
  .quo 20 .u32 _ ((base-1-(x ^^^ y):Nat):Int) (ZQ kB),
  .quo 22 .u32 _ (((base-1-(x ^^^ y))&&& ((x+2*base-y-b)%base):Nat):Int) (ZO h2 hd),
  .quo 23 .u32 _ ((((base-1-x)&&& y)||| ((base-1-(x ^^^ y))&&& ((x+2*base-y-b)%base)):Nat):Int) (SS h3 h4),
  .quo 24 .u32 (((((base-1-x)&&& y)||| ((base-1-(x ^^^ y))&&& ((x+2*base-y-b)%base)):Nat):Int).fdiv (2^31)) ((if x<y+b then 1 else 0:Nat):Int) (by rw[<-aIo hx hy hb,sB _ d_];rfl)])
section
variable{Bs:aa}{n m a b:Nat}
def Hj(n m a b i:Nat):aN:=[(15,vI i),(14,vI n),(13,sl 0 n),(1,sl 1 m),(5,sl 2 n),(6,aR (kU base a b i))]
def CP(n m a b i:Nat):aH:=[(0,.view (aj (ae base n a))),(1,.view (aj (ae base m b))),(2,.row (aj (eO base n i (a-b))) 179 1)]
theorem aIp(hi:i<n)(hb:b<base^m)(bZ:b<=a)(h63:n<9223372036854775807):
  af prog Bs 41 (aF (ag f194 0)) (Hj n m a b i) (CP n m a b i) 3 ⟨.normal,Hj n m a b (i+1),CP n m a b (i+1),3⟩:=by
 have hx:=gZ (B:=base) d_ a i;have hy:=gZ (B:=base) d_ b i;have hc:=Nu (B:=base) a b i;have xg:=ZR hx hy hc;rw[show a/base^i%base+2*base-b/base^i%base-kU base a b i=a/base^i%base+2*base-b/base^i%base-kU base a b i from rfl,SQ d_ bZ,SP d_]at xg;have bT:e9 prog 179 (aj (eO base n i (a-b))) i (aR ((a-b)/base^i%base))=some (aj (eO base n (i+1) (a-b))):=by rw[y7 _ i _ (by simp[aj,Nq];omega),y8,Nr hi rfl]
 by_cases jS:i<m
 ·exact aC [.lt 16 i n true (by simp[hi]),.ix f194 18 0 n i hi k_,.ld f194 19 179 0 i (.view (aj (ae base n a))) (aR (a/base^i%base)) rfl (by rw[fV];exact kV (eM hi)) k_,.lt 23 i m true (by simp[jS]),.ix f194 26 1 m i jS k_,.ld f194 27 179 1 i (.view (aj (ae base m b))) (aR (b/base^i%base)) rfl (by rw[fV];exact kV (eM jS)) k_,xg.at 34,.ix f194 37 2 n i hi k_,.st f194 100037 179 2 i (.row (aj (eO base n i (a-b))) 179 1) (aR ((a-b)/base^i%base)) (.row (aj (eO base n (i+1) (a-b))) 179 1) rfl bT rfl k_,.sum 38 i 1 (i+1) rfl o_]
 ·have xd:b/base^i%base=0:=rf hb o_ d_;rw[xd]at xg;exact aC [.lt 16 i n true (by simp[hi]),.ix f194 18 0 n i hi k_,.ld f194 19 179 0 i (.view (aj (ae base n a))) (aR (a/base^i%base)) rfl (by rw[fV];exact kV (eM hi)) k_,.lt 23 i m false (by simp[jS]),xg.at 34,.ix f194 37 2 n i hi k_,.st f194 100037 179 2 i (.row (aj (eO base n i (a-b))) 179 1) (aR ((a-b)/base^i%base)) (.row (aj (eO base n (i+1) (a-b))) 179 1) rfl bT rfl k_,.sum 38 i 1 (i+1) rfl o_]
theorem aIq(hb:b<base^m)(bZ:b<=a)(h63:n<9223372036854775807):
  af prog Bs 41 (.block 0 (ag f194 0)) (Hj n m a b 0) (CP n m a b 0) 3 ⟨.normal,Hj n m a b n,CP n m a b n,3⟩:=
 bO (ch (b:=aF (ag f194 0)) (r:=⟨.exit 0,Hj n m a b n,CP n m a b n,3⟩) n (Hj n m a b) (CP n m a b)
  (λi k _=>j6 (l:=CP n m a b i) (m:=CP n m a b 0) rfl k) (λi hi=>aIp hi hb bZ h63) (aC [.lt 16 n n false s_]) n_)
end
theorem aIr{vb:i_}(gm:iH w va a)(ll:iH w vb b)(bZ:b<=a)(h1:nd base a<35184372088832):
  Calls prog 194 #[va,vb] w λe w'=>∃ v,e=.returned v/\jT w w' v (a-b)/\Below w.heap.size w w':=by
 have ha:=ek (B:=base) d_ a;have hb:=ek (B:=base) d_ b;have hl:∀ s∈[cz.row va (nd base a) (aj (ae base (nd base a) a)),cz.row vb (nd base b) (aj (ae base (nd base b) b))],s.OK w:=by
  intro s hs;simp at hs;rcases hs with rfl|rfl
  ·exact⟨gm,fG _⟩
  ·exact⟨ll,fG _⟩
 unfold iH at gm ll;generalize nd base a=n at *;generalize nd base b=m at *;have hs:a-b<base^n:=by omega
 refine lN (Q:=λe w'=>∃ v,e=.returned v/\jT w w' v (a-b)/\Below w.heap.size w w') mixed func194 [cz.row va n (aj (ae base n a)),cz.row vb m (aj (ae base m b))] hl 100 (N:=41) k_
  (rs:=[(aU.qj f194 12 2 n 179 4 (aR 0) (aj (eO base n 0 (a-b))) (by rw[SM,E6]) rfl rfl o_ (by simp[maxLen];omega) k_:aU prog (aa.at w) 41),.rw 6 (.int .u32 0) (aR (kU base a b 0)) (by rw[SO];rfl),.code 0 _ _ _ _ _ (aIq (n:=n) hb bZ o_),.trim f194 40 2 n (a-b) (.row (aj (eO base n n (a-b))) 179 1) rfl (by rw[<-Hf];rfl) hs o_ (y:=.func 199) k_])
  (v:=.slice (some ⟨2,0,some 7⟩) (nd base (a-b)) 0) (ms:=[(2,.row (aj (eO base n n (a-b))) 179 1)]) k_ λay b9 v' w' hc bF dQ _=>⟨v',rfl,?_,bF.base⟩
 have hk:=dQ _ (aP ..);rw[Hf]at hk;exact xe bF hk hs hc
structure A4(g:Nat)(w w':h_):Prop where
 os:tz w w'
 tape:w'.tape=w.tape
 output:w'.output=w.output
 size:w.heap.size<=w'.heap.size
 block:∀ k,k<w.heap.size->k≠g->w'.heap[k]?=w.heap[k]?
def aa.vJ(w0:h_)(g:Nat):aa where
 G w:=A4 g w0 w
 cS k:=k<w0.heap.size/\k≠g
 lt w k h hk:=cF hk.1 h.size
 dep w w' h h1 h2 h3 h4 h5:=⟨h1.trans h.os,h2.trans h.tape,h3.trans h.output,di h.size h4,λk hk hg=>(h5 k ⟨hk,hg⟩).trans (h.block k hk hg)⟩
section
variable{P:j_}{B:aa}{N:Nat}
theorem SV{g:Nat}{cells:ah}(hg:w.heap[g]?=some (.cells cur ty (0,0)))(jP:cap<=maxLen)(bC:cur.size=cap*size)(hc:cur.toList.take cells.length=cells)(cK:∀ v∈cells,flat v=true):
  aM (aa.vJ w g) (dR (λ_=>none) 0 (.at g 0 cap)) (bh (λ_=>none) 0 (.row cells ty size)) w:=by
 have h0:aM (aa.vJ w g) (λ_=>none) (λ_=>none) w:=
  ⟨⟨.refl w,rfl,rfl,bA _,λ_ _ _=>rfl⟩,λ_ _=>rfl,λk x h=>(by cases h),λk x b o cap h=>(by cases h),λk j x y b o cap o' bE h=>(by cases h),λk j x F b o cap v h=>(by cases h),λk x b o cap h=>(by cases h),λj F h=>(by cases h),λj k F F' h=>(by cases h),λ_ _ h=>(by cases h)⟩
 refine h0.add rfl (.inr ⟨g,cap,cur,rfl,hg,jP,bC,by rw[hc];exact kM cK⟩) (λb o cp _ e=>?_) n_ n_;injection e with e1 e2 e3;subst e1;exact⟨(wY.1 hg).1,λh=>h.2 rfl,λj y o' bE h=>(by cases h),λj F v h=>(by cases h),λj y o' bE h=>(by cases h)⟩
theorem SX{g:Nat}{cells:ah}(hm:aM (aa.vJ w g) ι c w')(uE:ι 0=some (.at g 0 cap))(hk:c 0=some (.row cells ty size))(cK:∀ v∈cells,flat v=true):
  A4 g w w'/\∃ cur,w'.heap[g]?=some (.cells cur ty (0,0))/\cur.size=cap*size/\cur.toList.take cells.length=cells:=by
 refine⟨hm.base,?_⟩;obtain⟨l,h1,h2⟩:=hm.born 0 _ hk;rw[uE]at h1;injection h1 with h1;subst h1;rcases h2 with h2|⟨b,bE,cur,e1,e2,e3,e4,e5⟩
 ·cases h2.1
 ·injection e1 with e1 CQ CS;subst e1;subst CS;exact⟨cur,e2,e4,nC e5 cK⟩
theorem ZS(c:Nat->Option Obj)(k:Nat)(x:Obj):da (bh c k x) [(k,x)]:=by
 intro j y hj;by_cases h:k=j
 ·subst h;have:ai [(k,x)] k=some x:=by simp[ai]
  rw[this]at hj;rw[<-hj];unfold bh;rw[ax rfl]
 ·have:ai [(k,x)] j=none:=by show(if Nat.beq k j then _ else _)=_;rw[oO h];rfl
  rw[this]at hj;cases hj
theorem aIs{v:i_}(h1:∀ u∈pre,flat u=true)(h2:∀ u∈post,flat u=true):∀{l:ah},bW (aK ι) (pre++v::post) l->∃ v',aK ι v v'/\l=pre++v'::post:=by
 induction pre with
 |nil=>
  intro l h;cases h with
  |cons hv t=>exact⟨_,hv,by rw[nC t h2];rfl⟩
 |cons u pre ih=>
  intro l h;cases h with
  |cons hu t=>
   obtain⟨v',q1,q2⟩:=ih (λx hx=>h1 x (bH _ hx)) t;exact⟨v',q1,by rw[q2,hu.fk (h1 _ (aP ..))];rfl⟩
theorem aIt{x:m_}{fi:ah}{n:Nat}{cells:ah}{val:i_}(ho:dC o.op=some x)(eY:fN P f=true)
  (dK:fi++args++ca=pre++.slice (some ⟨k,0,some 7⟩) n 0::post) (MO:∀ u∈pre,flat u=true) (SY:∀ u∈post,flat u=true) (hn:0<n) (cK:∀ v∈cells,flat v=true) (A5:∀ v∈cells',flat v=true) (gP:flat val=true)
  (h:∀ w g cap cur,w.heap[g]?=some (.cells cur ty (0,0))->n<=cap->cap<=maxLen->cur.size=cap*size->cur.toList.take cells.length=cells->Calls P f (pre++.slice (some ⟨g,0,none⟩) n cap::post).toArray w λe w'=>e=.returned val/\A4 g w w'/\∃ fX,w'.heap[g]?=some (.cells fX ty (0,0))/\fX.size=cap*size/\fX.toList.take cells'.length=cells') :
  cA P B o (.func (.func f) fi.toArray ca.toArray::args) [(k,some (.row cells ty size))] val [(k,.row cells' ty size)]:=by
 refine j7 ho eY λι c w hm jK args' aY=>?_;rw[dK]at aY;have hk:c k=some (.row cells ty size):=jK _ (aP ..);obtain⟨v,hv,rfl⟩:=aIs MO SY aY;rcases hv.hZ rfl with ⟨_,h0,_⟩|⟨g,oo,cap,c',hb,lJ,mL,he⟩
 ·omega
 ·dsimp only at hb he;have kA:c'=cap:=by omega
  subst kA;obtain⟨l,q1,q2⟩:=hm.born k _ hk;rw[hb]at q1;injection q1 with q1;subst q1;rcases q2 with q2|⟨b,bE,cur,e1,l4,dP,fQ,jt⟩
  ·cases q2.1
  ·injection e1 with e1 e2 e3;subst e1;subst e2;subst e3;rw[he];refine(h w g c' cur l4 lJ dP fQ (nC jt cK)).mono ?_
   rintro e w' ⟨rfl,qm,fX,p1,p2,p3⟩
   refine⟨ι,val,rfl,Map.le.refl _,.same gP,hm.write hk rfl hb qm.os qm.tape qm.output qm.size (λj hj E8=>qm.block j hj E8) (.inr ⟨g,c',fX,rfl,p1,dP,p2,?_⟩) n_ rfl⟩;rw[p3];exact kM A5
end
theorem aIu{x y:Nat}(hx:x<base)(hy:y<base):aB prog 240 [aR x,aR y] (.tuple #[aR (x*y/base),aR (x*y%base)]):=by
 have h:x*y<base*base:=qk hx hy;exact bo func240 (λ_=>[
  .wr 8 .u64 x x (by rw[j9];unfold base at *;omega),.wr 10 .u64 y y (by rw[j9];unfold base at *;omega),
  .wr 11 .u64 ((x:Int)*y) ((x*y:Nat):Int) (by rw[j9,<-nY];unfold base at *;omega),
  .quo 13 .u64 (((x*y:Nat):Int).fdiv (2^32)) ((x*y/base:Nat):Int) (by rw[sB _ d_];rfl),
  .wr 14 .u32 ((x*y/base:Nat):Int) ((x*y/base:Nat):Int) (by rw[nG];have:x*y/base<base:=(iG d_).2 h;unfold base at *;omega),
  .wr 16 .u32 ((x*y:Nat):Int) ((x*y%base:Nat):Int) (by rw[nG];unfold base at *;omega)])
section
variable{Bs:aa}{n p t:Nat}
def zi(n i p t:Nat):aH:=[(0,.row (aj (dc base n i (p+t) p)) 179 1)]
def J2(n i p t:Nat):aN:=[(0,sl 0 n),(11,vI i),(10,aR (eZ base p t i))]
theorem SZ(hi:i<n):e9 prog 179 (aj (dc base n i (p+t) p)) i (aR ((p+t)/base^i%base))=some (aj (dc base n (i+1) (p+t) p)):=by rw[y7 _ i _ (by simp[aj,xb];omega),y8,y0 hi rfl]
theorem aIv(hi:i<n)(ht:t<base^i)(hc:eZ base p t i≠0)(h63:n<9223372036854775807):
  af prog Bs 63 (aF (ag f220 0)) (J2 n i p t) (zi n i p t) 1 ⟨.normal,J2 n (i+1) p t,zi n (i+1) p t,1⟩:=by
 have gw:=A3 (B:=base) d_ p t i;have zf:=JY (x:=p/base^i%base) (y:=t/base^i%base) (c:=eZ base p t i) (gZ d_ _ _) (gZ d_ _ _) (eV gw d_);rw[Hh d_,E4 d_,rf ht (bA _) d_]at zf;exact aC [.rw 48 (.bool (((eZ base p t i:Nat):Int)!=0)) b_ (by congr 1;rw[rh];omega),.ix f220 56 0 n i hi k_,.ld f220 57 179 0 i (.row (aj (dc base n i (p+t) p)) 179 1) (aR (p/base^i%base)) rfl (by rw[fV];exact kV (CL hi (bA _))) k_,zf.at 59,.ix f220 62 0 n i hi k_,.st f220 100062 179 0 i (.row (aj (dc base n i (p+t) p)) 179 1) (aR ((p+t)/base^i%base)) (.row (aj (dc base n (i+1) (p+t) p)) 179 1) rfl (SZ hi) rfl k_,.sum 50 i 1 (i+1) rfl o_]
theorem aIw(hc:eZ base p t i=0):af prog Bs 63 (aF (ag f220 0)) (J2 n i p t) (zi n i p t) 1 ⟨.exit 0,[],zi n i p t,1⟩:=
 aC [.rw 48 (.bool (((eZ base p t i:Nat):Int)!=0)) a_ (by rw[hc];rfl)]
theorem aIx(hi:i<=n)(ht:t<base^i)(hp:p<base^n)(hs:p+t<base^n)(h63:n<9223372036854775807):
  af prog Bs 63 (.block 0 (ag f220 0)) (J2 n i p t) (zi n i p t) 1 ⟨.normal,[],[(0,.row (aj (ae base n (p+t))) 179 1)],1⟩:=by
 have h0:eZ base p t (i+(n-i))=0:=by rw[show i+(n-i)=n by omega,SN hp o_,mf hs]
 obtain⟨e,h1,h2,h3⟩:=yZ (λj=>eZ base p t (i+j)=0) (n-i) h0;have NH:t<base^(i+e):=cF ht (df d_ o_)
 have:=ch (P:=prog) (B:=Bs) (N:=63) (b:=aF (ag f220 0)) (next:=1) (r:=⟨.exit 0,[],zi n (i+e) p t,1⟩) e (λj=>J2 n (i+j) p t) (λj=>zi n (i+j) p t)
  (λj k _=>j6 (l:=zi n (i+j) p t) (m:=zi n (i+0) p t) rfl k)
  (λj hj=>aIv o_ (cF ht (df d_ o_)) (h3 j hj) h63) (aIw h2) n_
 have:=bO (id:=0) this;unfold zi at this;rw[aIa d_ NH h2]at this;exact this
end
theorem aIy{g n at' p x y:Nat}(hg:w.heap[g]?=some (.cells cur 179 (0,0)))(lJ:n<=cap)(jP:cap<=maxLen)(bC:cur.size=cap*1)(hc:cur.toList.take (aj (ae base n p)).length=aj (ae base n p))
  (hx:x<base) (hy:y<base) (mO:at'+1<n) (hp:p<base^n) (hs:p+x*y*base^at'<base^n) (h63:n<35184372088832) :
  Calls prog 220 #[.slice (some ⟨g,0,none⟩) n cap,vI at',aR x,aR y] w λe w'=>e=.returned (.tuple #[])/\A4 g w w'/\∃ fX,w'.heap[g]?=some (.cells fX 179 (0,0))/\fX.size=cap*1/\
   fX.toList.take (aj (ae base n (p+x*y*base^at'))).length=aj (ae base n (p+x*y*base^at')):=by
 have hm:=SV hg jP bC hc (fG _);have kB:x*y<base*base:=qk hx hy;have ht:=aId (B:=base) d_ (at':=at') kB;have d0:=aIb (B:=base) d_ at' (x*y);have d1:=aIc (B:=base) d_ (at':=at') kB;have c0:=aH9 (B:=base) d_ at' p (x*y);have m0:=ZC (B:=base) d_ n at' p (x*y);have s1:e9 prog 179 (aj (dc base n at' (p+x*y*base^at') p)) at' (aR ((p+x*y*base^at')/base^at'%base))=some (aj (dc base n (at'+1) (p+x*y*base^at') p)):=SZ o_;have s2:e9 prog 179 (aj (dc base n (at'+1) (p+x*y*base^at') p)) (at'+1) (aR ((p+x*y*base^at')/base^(at'+1)%base))=some (aj (dc base n (at'+2) (p+x*y*base^at') p)):=SZ mO;have lo:=aIx (Bs:=aa.vJ w g) (i:=at'+2) o_ ht hp hs o_;generalize x*y*base^at'=t at *;have ZT:=JY (x:=p/base^at'%base) (y:=t/base^at'%base) (c:=eZ base p t at') (gZ d_ _ _) (gZ d_ _ _) (by rw[c0];decide);rw[Hh d_,E4 d_,d0,c0]at ZT;have gw:=A3 (B:=base) d_ p t (at'+1);have ZU:=JY (x:=p/base^(at'+1)%base) (y:=t/base^(at'+1)%base) (c:=eZ base p t (at'+1)) (gZ d_ _ _) (gZ d_ _ _) (eV gw d_);rw[Hh d_,E4 d_,d1]at ZU
 refine uO (M:=[(0,.row (aj (ae base n p)) 179 1)]) (next:=1) (args:=[sl 0 n,vI at',aR x,aR y]) (args':=[.slice (some ⟨g,0,none⟩) n cap,vI at',aR x,aR y]) (v:=.tuple #[])
  (ms:=[(0,.row (aj (ae base n (p+t))) 179 1)]) (N:=63) mixed func220 k_ 100
  (rs:=[((aIu hx hy).at 15:aU prog (aa.vJ w g) 63),.ix f220 23 0 n at' o_ k_,.ld f220 24 179 0 at' (.row (aj (ae base n p)) 179 1) (aR (p/base^at'%base)) rfl (by rw[fV];exact kV (eM o_)) k_,ZT.at 26,.ix f220 29 0 n at' o_ k_,.st f220 100029 179 0 at' (.row (aj (ae base n p)) 179 1) (aR ((p+t)/base^at'%base)) (.row (aj (dc base n (at'+1) (p+t) p)) 179 1) rfl (by rw[<-m0];exact s1) rfl k_,.sum 33 at' 1 (at'+1) rfl o_,.sum 36 at' 1 (at'+1) rfl o_,.ix f220 37 0 n (at'+1) mO k_,.ld f220 38 179 0 (at'+1) (.row (aj (dc base n (at'+1) (p+t) p)) 179 1) (aR (p/base^(at'+1)%base)) rfl (by rw[fV];exact kV (CL mO (bA _))) k_,ZU.at 41,.ix f220 44 0 n (at'+1) mO k_,.st f220 100044 179 0 (at'+1) (.row (aj (dc base n (at'+1) (p+t) p)) 179 1) (aR ((p+t)/base^(at'+1)%base)) (.row (aj (dc base n (at'+2) (p+t) p)) 179 1) rfl s2 rfl k_,.sum 46 at' 2 (at'+2) rfl o_,.code 0 _ _ _ _ _ lo]) k_ ?_ hm ?_ ?_ ?_
 ·exact .cons (.slc (off:=0) (fP _ _ _) lJ o_) (.cons (.same rfl) (.cons (.same rfl) (.cons (.same rfl) .nil)))
 ·exact ZS _ _ _
 ·intro k hk;unfold bh;rw[ao o_]
 ·intro ay b9 v' w' hle tA bF dQ;obtain⟨q1,q2⟩:=SX bF (hle 0 _ (fP _ _ _)) (dQ _ (aP ..)) (fG _);exact⟨by rw[tA.fk rfl],q1,q2⟩
section
variable{Bs:aa}{n m a b:Nat}
def zj(n m a b i k:Nat):Obj:=.row (aj (ae base (n+m+1) (part base a b i k))) 179 1
def S0(N:Nat):Value:=.func (.func 220) #[sl 2 N] #[]
theorem aIz{x:m_}(ho:dC o.op=some x)(hi:i<n)(hk:k<m)(ha:a<base^n)(hb:b<base^m)(h63:n+m+1<35184372088832):
  cA prog Bs o [S0 (n+m+1),vI (i+k),aR (a/base^i%base),aR (b/base^k%base)] [(2,some (zj n m a b i k))] (.tuple #[]) [(2,zj n m a b i (k+1))]:=by
 refine aIt (fi:=[sl 2 (n+m+1)]) (args:=[vI (i+k),aR (a/base^i%base),aR (b/base^k%base)]) (ca:=[]) (pre:=[]) (post:=[vI (i+k),aR (a/base^i%base),aR (b/base^k%base)]) ho k_ rfl n_
  (λu hu=>by simp at hu;rcases hu with rfl|rfl|rfl<;>rfl) o_ (fG _) (fG _) rfl λw g cap cur h1 h2 h3 h4 h5=>?_
 have ak:=ZH (B:=base) d_ ha hb;rw[ZF]
 exact aIy h1 h2 h3 h4 h5 (gZ d_ _ _) (gZ d_ _ _) o_ (eV (ZG d_ _ _ _ _) ak)
  (by rw[<-ZF];exact eV (ZG d_ _ _ _ _) ak) h63
def Hk(n m a b i k:Nat):aN:=[(29,vI k),(28,vI m),(27,sl 1 m),(6,S0 (n+m+1)),(7,vI i),(8,aR (a/base^i%base))]
def CT(n m a b i k:Nat):aH:=[(1,.view (aj (ae base m b))),(2,zj n m a b i k)]
theorem aIA(hi:i<n)(hk:k<m)(ha:a<base^n)(hb:b<base^m)(h63:n+m+1<35184372088832):
  af prog Bs 45 (aF (ag f195 2)) (Hk n m a b i k) (CT n m a b i k) 3 ⟨.normal,Hk n m a b i (k+1),CT n m a b i (k+1),3⟩:=
 aC [.lt 30 k m true (by simp[hk]),.ix f195 32 1 m k hk k_,.ld f195 33 179 1 k (.view (aj (ae base m b))) (aR (b/base^k%base)) rfl (by rw[fV];exact kV (eM hk)) k_,.sum 37 i k (i+k) rfl o_,.step 40 (aA f195 40) _ _ _ _ (aIz (x:=.tmp 34) k_ hi hk ha hb h63),.sum 41 k 1 (k+1) rfl o_]
theorem aIB(hi:i<n)(ha:a<base^n)(hb:b<base^m)(h63:n+m+1<35184372088832):
  af prog Bs 45 (.block 2 (ag f195 2)) (Hk n m a b i 0) (CT n m a b i 0) 3 ⟨.normal,Hk n m a b i m,[(1,.view (aj (ae base m b))),(2,zj n m a b (i+1) 0)],3⟩:=by
 have:=ch (P:=prog) (B:=Bs) (N:=45) (b:=aF (ag f195 2)) (r:=⟨.exit 2,Hk n m a b i m,CT n m a b i m,3⟩) m (Hk n m a b i) (CT n m a b i)
  (λk j _=>j6 (l:=CT n m a b i k) (m:=CT n m a b i 0) rfl j) (λk hk=>aIA hi hk ha hb h63) (aC [.lt 30 m m false s_]) n_
 have:=bO (id:=2) this;unfold CT zj at this;rw[aIe hb]at this;exact this
def Hl(n m i:Nat):aN:=[(22,vI i),(21,vI n),(20,sl 0 n),(1,sl 1 m),(5,sl 2 (n+m+1)),(6,S0 (n+m+1))]
def CU(n m a b i:Nat):aH:=[(0,.view (aj (ae base n a))),(1,.view (aj (ae base m b))),(2,zj n m a b i 0)]
theorem aIC(hi:i<n)(ha:a<base^n)(hb:b<base^m)(h63:n+m+1<35184372088832):
  af prog Bs 45 (aF (ag f195 0)) (Hl n m i) (CU n m a b i) 3 ⟨.normal,Hl n m (i+1),CU n m a b (i+1),3⟩:=
 aC [.lt 23 i n true (by simp[hi]),.ix f195 25 0 n i hi k_,.ld f195 26 179 0 i (.view (aj (ae base n a))) (aR (a/base^i%base)) rfl (by rw[fV];exact kV (eM hi)) k_,.code 2 _ _ _ _ _ (aIB hi ha hb h63),.sum 42 i 1 (i+1) rfl o_]
theorem aID(ha:a<base^n)(hb:b<base^m)(h63:n+m+1<35184372088832):
  af prog Bs 45 (.block 0 (ag f195 0)) (Hl n m 0) (CU n m a b 0) 3 ⟨.normal,Hl n m n,CU n m a b n,3⟩:=
 bO (ch (b:=aF (ag f195 0)) (r:=⟨.exit 0,Hl n m n,CU n m a b n,3⟩) n (Hl n m) (CU n m a b)
  (λi k _=>j6 (l:=CU n m a b i) (m:=CU n m a b 0) rfl k) (λi hi=>aIC hi ha hb h63) (aC [.lt 23 n n false s_]) n_)
end
theorem S1(B n:Nat):ae B n 0=List.replicate n 0:=by apply xa<;>simp[ae]
theorem aIE{vb:i_}(gm:iH w va a)(ll:iH w vb b)(h63:nd base a+nd base b+1<35184372088832):
  Calls prog 195 #[va,vb] w λe w'=>∃ v,e=.returned v/\jT w w' v (a*b)/\Below w.heap.size w w':=by
 have ha:=ek (B:=base) d_ a;have hb:=ek (B:=base) d_ b;have hl:∀ s∈[cz.row va (nd base a) (aj (ae base (nd base a) a)),cz.row vb (nd base b) (aj (ae base (nd base b) b))],s.OK w:=by
  intro s hs;simp at hs;rcases hs with rfl|rfl
  ·exact⟨gm,fG _⟩
  ·exact⟨ll,fG _⟩
 unfold iH at gm ll;generalize nd base a=n at *;generalize nd base b=m at *;have hs:=ZH (B:=base) d_ ha hb;have aY:part base a b n 0=a*b:=by rw[CM,dU ha]
 refine lN (Q:=λe w'=>∃ v,e=.returned v/\jT w w' v (a*b)/\Below w.heap.size w w') mixed func195 [cz.row va n (aj (ae base n a)),cz.row vb m (aj (ae base m b))] hl 100 (N:=45) k_
  (rs:=[(aU.sum 15 n m (n+m) rfl o_:aU prog (aa.at w) 45),.sum 16 (n+m) 1 (n+m+1) rfl o_,.qj f195 17 2 (n+m+1) 179 4 (aR 0) (zj n m a b 0 0).cells (by show _=aj (ae base (n+m+1) (part base a b 0 0));rw[CM,sC,tL,kS,S1,E6]) rfl rfl o_ (by simp[maxLen];omega) k_,.code 0 _ _ _ _ _ (aID (n:=n) (m:=m) ha hb h63),.trim f195 44 2 (n+m+1) (a*b) (zj n m a b n 0) rfl (by rw[<-aY];rfl) hs o_ (y:=.func 199) k_])
  (v:=.slice (some ⟨2,0,some 7⟩) (nd base (a*b)) 0) (ms:=[(2,zj n m a b n 0)]) k_ λay b9 v' w' hc bF dQ _=>⟨v',rfl,?_,bF.base⟩
 have hk:=dQ _ (aP ..);unfold zj at hk;rw[aY]at hk;exact xe bF hk hs hc
section
variable{P:j_}{B:aa}{N:Nat}
def Hm(o:Oper):Option BinOp:=match o.op with|.binOp b _ _ _ _=>some b|_=>none
theorem NI{b:BinOp}(ho:Hm o=some b)(hb:b≠.eql/\b≠.neq){x y v:i_}(hx:flat x=true)(hy:flat y=true)(hv:flat v=true)(h:∀ t w,(binOp b t x y).run P w=.ok v w):
  cA P B o [x,y] [] v []:=by
 unfold Hm at ho;split at ho
 ·rename_i b' t p q t2 bY;injection ho with ho;subst ho;refine(Cu (λu hu=>by simp at hu;rcases hu with rfl|rfl<;>assumption) hv λρ fY w _=>?_).step;rw[bY]at fY;simp[Op.operands]at fY;have hg:(eqGuard b' t p q (ρ p) (ρ q)).run P w=.ok () w:=by unfold eqGuard;cases b'<;>first|rfl|exact absurd rfl hb.1|exact absurd rfl hb.2
  simp only[execOp,bY,fY.1,fY.2];rw[fY.1,fY.2]at hg;simp[hg,h]
 ·cases ho
def aU.shl(fn:Func)(key:Nat)(k:IntKind)(x r:Int)(n:Nat)(hr:k.wrap (x*2^(min n k.bits))=r)(ho:Hm (aA fn key)=some .shl):aU P B N:=
 .step key (aA fn key) [.int k x,vI n] [] (.int k r) [] (NI ho ⟨λe=>(by cases e),λe=>(by cases e)⟩ rfl rfl rfl λt w=>by
  have h0:¬((n:Int)<0):=by omega
  simp[binOp,Op.shift,vI,h0,hr])
def aU.shr(fn:Func)(key:Nat)(k:IntKind)(x r:Int)(n:Nat)(hr:x.fdiv (2^(min n k.bits))=r)(ho:Hm (aA fn key)=some .shr):aU P B N:=
 .step key (aA fn key) [.int k x,vI n] [] (.int k r) [] (NI ho ⟨λe=>(by cases e),λe=>(by cases e)⟩ rfl rfl rfl λt w=>by
  have h0:¬((n:Int)<0):=by omega
  simp[binOp,Op.shift,vI,h0,hr])
def aU.vK(fn:Func)(key:Nat)(k:IntKind)(x y r:Int)(hy:y≠0)(hr:k.wrap (x.tdiv y)=r)(ho:Hm (aA fn key)=some .quo):aU P B N:=
 .step key (aA fn key) [.int k x,.int k y] [] (.int k r) [] (NI ho ⟨λe=>(by cases e),λe=>(by cases e)⟩ rfl rfl rfl λt w=>by simp[binOp,Op.intDiv,hy,hr])
def aU.E9(fn:Func)(key:Nat)(k:IntKind)(x y r:Int)(hy:y≠0)(hr:x.tmod y=r)(ho:Hm (aA fn key)=some .rem):aU P B N:=
 .step key (aA fn key) [.int k x,.int k y] [] (.int k r) [] (NI ho ⟨λe=>(by cases e),λe=>(by cases e)⟩ rfl rfl rfl λt w=>by simp[binOp,Op.intDiv,hy,hr])
def Hn(P:j_)(o:Oper):Bool:=match o.op with
 |.index t _ _=>match P.underlying t with|some .string=>true|_=>false
 |_=>false
theorem aIF(ho:Hn P o=true){s:ByteArray}{c:UInt8}(hc:s[i]?=some c):cA P B o [.string s,vI i] [] (.int .u8 (c.toNat:Int)) []:=by
 unfold Hn at ho;split at ho
 ·rename_i t p q bY;split at ho
  ·rename_i ht;refine(Cu (λu hu=>by simp at hu;rcases hu with rfl|rfl<;>rfl) rfl λρ fY w _=>?_).step;rw[bY]at fY;simp[Op.operands]at fY;have h0:(0:Int)<=(i:Int):=by omega
   simp[execOp,bY,fY.1,fY.2,Instr.index,vI,asIntOf,jF ht,h0,hc]
  ·cases ho
 ·cases ho
def aU.sx(fn:Func)(key:Nat)(s:ByteArray)(i:Nat)(c:UInt8)(hc:s[i]?=some c)(ho:Hn P (aA fn key)=true):aU P B N:=
 .step key (aA fn key) [.string s,vI i] [] (.int .u8 (c.toNat:Int)) [] (aIF ho hc)
def S2(P:j_)(o:Oper):Bool:=match o.op with
 |.slice t _ (some _) none none=>match P.underlying t with|some .string=>true|_=>false
 |_=>false
theorem aIG(ho:S2 P o=true){s:ByteArray}(hi:i<=s.size):cA P B o [.string s,vI i] [] (.string (s.extract i s.size)) []:=by
 unfold S2 at ho;split at ho
 ·rename_i t p q bY;split at ho
  ·rename_i ht;refine(Cu (λu hu=>by simp at hu;rcases hu with rfl|rfl<;>rfl) rfl λρ fY w _=>?_).step;rw[bY]at fY;simp[Op.operands]at fY;have h0:(0:Int)<=(i:Int):=by omega
   have h1:(i:Int)<=(s.size:Int):=by omega
   simp[execOp,bY,fY.1,fY.2,Instr.sliceAt,Instr.slice,Instr.sliceBounds,Instr.sliceBound,vI,asIntOf,jF ht,h0,hi]
  ·cases ho
 ·cases ho
def aU.sf(fn:Func)(key:Nat)(s:ByteArray)(i:Nat)(hi:i<=s.size)(ho:S2 P (aA fn key)=true):aU P B N:=
 .step key (aA fn key) [.string s,vI i] [] (.string (s.extract i s.size)) [] (aIG ho hi)
end
def ga(l:List UInt8):Nat:=l.foldl (λa c=>a*256+c.toNat) 0
theorem S3:∀(l:List UInt8) (a:Nat),l.foldl (λa c=>a*256+c.toNat) a=a*256^l.length+ga l
 |[],a=>by simp[ga]
 |c::l,a=>by have e:ga (c::l)=(0*256+c.toNat)*256^l.length+ga l:=S3 l (0*256+c.toNat);rw[vH,S3 l,e,oL,dD,fF,kS,ko,fU,cP 256];omega
theorem J3(c:UInt8)(l:List UInt8):ga (c::l)=c.toNat*256^l.length+ga l:=by have:=S3 l (0*256+c.toNat);have e:ga (c::l)=List.foldl (λa c=>a*256+c.toNat) (0*256+c.toNat) l:=rfl;rw[e,this,kS,ko]
theorem A6:∀(l:List UInt8),ga l<256^l.length
 |[]=>by simp[ga]
 |c::l=>by
  have h1:=A6 l;have h2:c.toNat<256:=c.toNat_lt;rw[J3,oL,dD];have:c.toNat*256^l.length+256^l.length<=256^l.length*256:=by rw[<-sA,cP];exact jJ _ o_
  omega
theorem ZV:∀(l:List UInt8) (i:Nat),i<l.length->∃ c,l[l.length-1-i]?=some c/\c.toNat=ga l/256^i%256
 |[],i,h=>by simp at h
 |c::l,i,h=>by
  rw[oL]at h;rw[J3];rcases fm i l.length with hi|hi
  ·obtain⟨d,h1,h2⟩:=ZV l i hi;refine⟨d,?_,?_⟩
   ·rw[oL,show l.length+1-1-i=(l.length-1-i)+1 by omega,List.getElem?_cons_succ];exact h1
   ·rw[h2];have e:256^l.length=256^i*(256*256^(l.length-i-1)):=by rw[<-Nat.pow_succ',<-eP];congr 1;omega
    rw[e,show c.toNat*(256^i*(256*256^(l.length-i-1)))=256^i*(256*(c.toNat*256^(l.length-i-1)))by rw[mS,mS c.toNat],mR,JV _ _ (cI d_),E5]
  ·have e:i=l.length:=by omega
   subst e;refine⟨c,by simp,?_⟩;have h1:=A6 l;have h2:c.toNat<256:=c.toNat_lt;rw[cP,mR,JV _ _ (cI d_),mf h1,ko,dU h2]
def kC(s:ByteArray):Nat:=ga s.data.toList
theorem ZW(s:ByteArray)(i:Nat):s[i]?=s.data.toList[i]?:=by
 by_cases h:i<s.size
 ·rw[getElem?_pos s i h,aT (by simpa using h)];rfl
 ·rw[getElem?_neg s i h,AM (by simpa using h)]
theorem ZX(s:ByteArray):kC s<256^s.size:=A6 _
theorem S4(s:ByteArray)(h:i<s.size):∃ c,s[s.size-1-i]?=some c/\c.toNat=kC s/256^i%256:=by rw[ZW];exact ZV s.data.toList i (by simpa using h)
theorem aIH:(a%256^i/4294967296^(i/4)%4294967296)||| (a/256^i%256*2^(8*(i%4)))=a%256^(i+1)/4294967296^(i/4)%4294967296:=by
 have hB:(4294967296:Nat)=256^4:=by decide
 have e1:(4294967296:Nat)^(i/4)=256^(4*(i/4)):=by rw[hB,<-sD]
 have e2:(2:Nat)^(8*(i%4))=256^(i%4):=by rw[sD]
 have e3:256^i=256^(4*(i/4))*256^(i%4):=by rw[<-eP];congr 1;omega
 have hq:0<256^(4*(i/4)):=cI d_;have hr:256^(i%4)*256<=4294967296:=by rw[hB,<-dD];exact df d_ o_
 rw[e1,e2];have m1:a%256^i/256^(4*(i/4))=a/256^(4*(i/4))%256^(i%4):=by rw[e3,A7]
 have m2:a%256^(i+1)/256^(4*(i/4))=a/256^(4*(i/4))%(256^(i%4)*256):=by rw[dD,e3,fU,A7]
 have m3:a/256^i%256=a/256^(4*(i/4))/256^(i%4)%256:=by rw[e3,kT]
 rw[m1,m2,m3];generalize a/256^(4*(i/4))=c;have hp:0<256^(i%4):=cI d_;have h1:=cJ c hp;have h2:c/256^(i%4)%256<256:=cJ _ d_;have h3:c%(256^(i%4)*256)=c%256^(i%4)+256^(i%4)*(c/256^(i%4)%256):=Ns;have h4:c%(256^(i%4)*256)<256^(i%4)*256:=cJ _ o_;rw[dU (show c%256^(i%4)<4294967296 by omega),dU (show c%(256^(i%4)*256)<4294967296 by omega),h3];have e4:(256:Nat)^(i%4)=2^(8*(i%4)):=by rw[sD]
 rw[e4]at h1 ⊢;rw[Nat.or_comm,cP,<-NJ h1,mR]
theorem aII(h:j≠i/4):a%256^i/4294967296^j%4294967296=a%256^(i+1)/4294967296^j%4294967296:=by
 have hB:(4294967296:Nat)=256^4:=by decide
 have e1:(4294967296:Nat)^j=256^(4*j):=by rw[hB,<-sD]
 rw[e1];rcases EO h with h1|h1
 ·-- lower digits
  have k:∀ i,4*j+4<=i->a%256^i/256^(4*j)%4294967296=a/256^(4*j)%4294967296:=by
   intro i hi;have e3:256^i=256^(4*j)*(4294967296*256^(i-4*j-4)):=by rw[hB,<-eP,<-eP];congr 1;omega
   rw[e3,A7,J4]
  rw[k i o_,k (i+1) o_]
 ·have hp:∀ i,i<=4*j->a%256^i/256^(4*j)=0:=by intro i hi;exact mf (cF (cJ _ (cI d_)) (df d_ hi))
  rw[hp i o_,hp (i+1) o_]
theorem aIJ{n:Nat}(hi:i/4<n):(ae 4294967296 n (a%256^i)).set (i/4) (a%256^(i+1)/4294967296^(i/4)%4294967296)=ae 4294967296 n (a%256^(i+1)):=by
 apply xa
 ·simp[ae]
 ·intro j h1 h2;simp only[ae,dr,yY]at h2;rw[Hg];simp only[ae,CJ,CK];by_cases hj:i/4=j
  ·rw[ax hj,hj]
  ·rw[ao hj];exact aII (mN hj)
def BA(l:List UInt8):ByteArray:=⟨l.toArray⟩
theorem oV(l:List UInt8):(BA l).size=l.length:=rfl
theorem J5(l:List UInt8)(i:Nat):(BA l)[i]?=l[i]?:=by rw[ZW];rfl
theorem aIK(l:List UInt8)(i:Nat):(BA l).extract i (BA l).size=BA (l.drop i):=by apply ByteArray.ext;rw[ByteArray.data_extract];show(l.toArray).extract i l.length=(l.drop i).toArray;apply EF;simp[j8]
def jU:List UInt8->Nat
 |[]=>0
 |c::l=>if c=0 then jU l+1 else 0
theorem ZY:∀ l:List UInt8,jU l<=l.length
 |[]=>bA _
 |c::l=>by unfold jU;have:=ZY l;split<;>simp<;>omega
theorem ZZ:∀(l:List UInt8) (i:Nat),i<jU l->l[i]?=some 0
 |[],i,h=>by simp[jU]at h
 |c::l,i,h=>by
  unfold jU at h;split at h
  ·rename_i hc;cases i with
   |zero=>rw[hc];rfl
   |succ i=>exact ZZ l i o_
  ·omega
theorem Z0:∀(l:List UInt8),jU l<l.length->∃ c,l[jU l]?=some c/\c≠0
 |[],h=>by simp at h
 |c::l,h=>by
  unfold jU at h ⊢;split at h
  ·rename_i hc;rw[ax hc];obtain⟨d,h1,h2⟩:=Z0 l (by simpa using h);exact⟨d,h1,h2⟩
  ·rename_i hc;rw[ao hc];exact⟨c,rfl,hc⟩
def J6(l:List UInt8):List UInt8:=l.drop (jU l)
theorem aIL{x n:Nat}(hn:n<=32)(h:x*2^n<base):IntKind.u32.wrap ((x:Int)*2^(min n IntKind.u32.bits))=((x*2^n:Nat):Int):=by
 have e:(x:Int)*2^n=((x*2^n:Nat):Int):=by simp
 rw[show min n IntKind.u32.bits=n from nZ hn,nG,e];unfold base at h;omega
section
variable{Bs:aa}{n N a:Nat}{s:ByteArray}
def Ho(s:ByteArray)(n N i:Nat):aN:=[(13,vI i),(12,vI n),(0,.string s),(3,sl 0 N)]
def CV(N a i:Nat):aH:=[(0,.row (aj (ae base N (a%256^i))) 179 1)]
theorem aIM(hn:n=s.size)(hN:N=(n+3)/4)(ha:a=kC s)(hi:i<n)(h63:n<35184372088832):
  af prog Bs 39 (aF (ag f191 0)) (Ho s n N i) (CV N a i) 1 ⟨.normal,Ho s n N (i+1),CV N a (i+1),1⟩:=by
 obtain⟨c,gw,dq⟩:=S4 s (show i<s.size by omega);rw[<-hn]at gw;rw[<-ha]at dq;have xh:i/4<N:=by omega
 have hb:=aIH (a:=a) (i:=i);have h1:a%256^i/base^(i/4)%base<base:=gZ d_ _ _;have h2:c.toNat*2^(8*(i%4))<base:=by have:c.toNat<256:=c.toNat_lt;have h3:2^(8*(i%4))<=2^24:=df d_ o_;have:=xi (show c.toNat<=255 by omega) h3;unfold base;omega
 have bT:e9 prog 179 (aj (ae base N (a%256^i))) (i/4) (aR (a%256^(i+1)/base^(i/4)%base))=some (aj (ae base N (a%256^(i+1)))):=by rw[y7 _ _ _ (by simp[aj,oT];exact xh),y8,aIJ xh]
 have lj:((a%256^i/base^(i/4)%base||| c.toNat*2^(8*(i%4)):Nat):Int)=((a%256^(i+1)/base^(i/4)%base:Nat):Int):=by rw[dq];exact cL _ hb
 have hlen:(s.size:Int)=((n:Nat):Int):=by rw[hn]
 exact aC [.lt 14 i n true (by simp[hi]),.rw 17 (.int .i64 (s.size:Int)) (vI n) (by rw[hlen];rfl),.fh 18 n 1 (n-1) o_ o_,.fh 20 (n-1) i (n-1-i) o_ o_,.wr 23 .i64 (Int.tdiv (i:Int) 4) ((i/4:Nat):Int) (by rw[dX,A8 o_];omega),.ix f191 24 0 N (i/4) xh k_,.ld f191 25 179 0 (i/4) (.row (aj (ae base N (a%256^i))) 179 1) (aR (a%256^i/base^(i/4)%base)) rfl (by rw[fV];exact kV (eM xh)) k_,.sx f191 28 s (n-1-i) c gw k_,.wr 29 .u32 (c.toNat:Int) (c.toNat:Int) (by rw[nG];have:=c.toNat_lt;omega),.quo 31 .i64 (Int.tmod (i:Int) 4) ((i%4:Nat):Int) (by rw[zk o_];omega),.wr 32 .i64 (8*((i%4:Nat):Int)) ((8*(i%4):Nat):Int) (by rw[dX];omega),.shl f191 33 .u32 (c.toNat:Int) ((c.toNat*2^(8*(i%4)):Nat):Int) (8*(i%4)) (aIL o_ h2) k_,.quo 34 .u32 _ _ ((SS h1 h2).trans lj),.ix f191 35 0 N (i/4) xh k_,.st f191 100035 179 0 (i/4) (.row (aj (ae base N (a%256^i))) 179 1) (aR (a%256^(i+1)/base^(i/4)%base)) (.row (aj (ae base N (a%256^(i+1)))) 179 1) rfl bT rfl k_,.sum 36 i 1 (i+1) rfl o_]
theorem aIN(hn:n=s.size)(hN:N=(n+3)/4)(ha:a=kC s)(h63:n<35184372088832):
  af prog Bs 39 (.block 0 (ag f191 0)) (Ho s n N 0) (CV N a 0) 1 ⟨.normal,Ho s n N n,CV N a n,1⟩:=
 bO (ch (b:=aF (ag f191 0)) (r:=⟨.exit 0,Ho s n N n,CV N a n,1⟩) n (Ho s n N) (CV N a)
  (λi k _=>j6 (l:=CV N a i) (m:=CV N a 0) rfl k) (λi hi=>aIM hn hN ha hi h63) (aC [.lt 14 n n false s_]) n_)
end
theorem aIO{s:ByteArray}(h63:s.size<35184372088832):
  Calls prog 191 #[.string s] w λe w'=>∃ v,e=.returned v/\jT w w' v (kC s)/\Below w.heap.size w w':=by
 have ak:=ZX s;have hs:kC s<base^((s.size+3)/4):=by
  have:(base:Nat)=256^4:=by decide
  rw[this,<-sD];exact cF ak (df d_ o_)
 have aY:kC s%256^s.size=kC s:=dU ak
 refine lN (Q:=λe w'=>∃ v,e=.returned v/\jT w w' v (kC s)/\Below w.heap.size w w') mixed func191 [cz.plain (.string s)] (λx hx=>by simp at hx;subst hx;rfl) 100 (N:=39) k_
  (rs:=[(aU.sum 8 s.size 3 (s.size+3) rfl o_:aU prog (aa.at w) 39),.wr 9 .i64 (Int.tdiv ((s.size+3:Nat):Int) 4) (((s.size+3)/4:Nat):Int) (by rw[dX,A8 o_];omega),.qj f191 10 0 ((s.size+3)/4) 179 4 (aR 0) (aj (ae base ((s.size+3)/4) (kC s%256^0))) (by rw[sC,tL,S1,E6]) rfl rfl o_ (by simp[maxLen];omega) k_,.code 0 _ _ _ _ _ (aIN (n:=s.size) (N:=(s.size+3)/4) (a:=kC s) rfl rfl rfl h63),.trim f191 38 0 ((s.size+3)/4) (kC s) (.row (aj (ae base ((s.size+3)/4) (kC s%256^s.size))) 179 1) rfl (by rw[aY];rfl) hs o_ (y:=.func 199) k_])
  (v:=.slice (some ⟨0,0,some 7⟩) (nd base (kC s)) 0) (ms:=[(0,.row (aj (ae base ((s.size+3)/4) (kC s%256^s.size))) 179 1)]) k_ λay b9 v' w' hc bF dQ _=>⟨v',rfl,?_,bF.base⟩
 have hk:=dQ _ (aP ..);rw[aY]at hk;exact xe bF hk hs hc
section
variable{Bs:aa}{l:List UInt8}
def CW(l:List UInt8)(i:Nat):aN:=[(0,.string (BA (l.drop i))),(1,.int .u8 0)]
theorem S5:(((BA (l.drop i)).size:Nat):Int)=((l.length-i:Nat):Int):=by rw[oV,vE]
theorem aIP(hi:i<jU l):af prog Bs 17 (aF (ag f242 0)) (CW l i) [] 0 ⟨.normal,CW l (i+1),[],0⟩:=by
 have hz:=ZZ l i hi;have hle:=ZY l;have e:(BA (l.drop i)).extract 1 (BA (l.drop i)).size=BA (l.drop (i+1)):=by rw[aIK,NK]
 have h1:1<=(BA (l.drop i)).size:=by rw[oV,vE];omega
 exact aC [.rw 6 (.int .i64 (((BA (l.drop i)).size:Nat):Int)) (vI (l.length-i)) (by rw[S5];rfl),.gt 7 (l.length-i) 0 true (by simp;omega),.sx f242 10 (BA (l.drop i)) 0 0 (by rw[J5,EC];exact hz) k_,.sf f242 15 (BA (l.drop i)) 1 h1 k_,.rw 0 (.string ((BA (l.drop i)).extract 1 (BA (l.drop i)).size)) (.string (BA (l.drop (i+1)))) (by rw[e])]
theorem aIQ:af prog Bs 17 (aF (ag f242 0)) (CW l (jU l)) [] 0 ⟨.exit 0,CW l (jU l),[],0⟩:=by
 by_cases h:jU l<l.length
 ·obtain⟨c,h1,h2⟩:=Z0 l h;have h3:c.toNat≠0:=λe=>h2 (NL.1 (by rw[e];rfl));exact aC [.rw 6 (.int .i64 (((BA (l.drop (jU l))).size:Nat):Int)) (vI (l.length-jU l)) (by rw[S5];rfl),.gt 7 (l.length-jU l) 0 true (by simp;omega),.sx f242 10 (BA (l.drop (jU l))) 0 c (by rw[J5,EC];exact h1) k_,.fZ 12 c.toNat 0 false (by simp[h3])]
 ·exact aC [.rw 6 (.int .i64 (((BA (l.drop (jU l))).size:Nat):Int)) (vI (l.length-jU l)) (by rw[S5];rfl),.gt 7 (l.length-jU l) 0 false (by simp;omega)]
theorem aIR:af prog Bs 17 (.block 0 (ag f242 0)) (CW l 0) [] 0 ⟨.normal,CW l (jU l),[],0⟩:=
 bO (ch (b:=aF (ag f242 0)) (r:=⟨.exit 0,CW l (jU l),[],0⟩) (jU l) (CW l) (λ_=>[]) (λi k _=>Iff.rfl) (λi hi=>aIP hi) aIQ n_)
end
theorem aIS(l:List UInt8):aB prog 242 [.string (BA l),.int .u8 0] (.string (BA (J6 l))):=
 bo func242 (λ_=>[.code 0 _ _ _ _ _ (aIR (l:=l))])
theorem Z1(l:List UInt8):(BA l).toList=l:=by rw[ByteArray.toList_eq];rfl
theorem Fb(l:List UInt8):((BA l).toList==(ByteArray.mk #[]).toList)=decide (l=[]):=by rw[Z1,show(ByteArray.mk #[]).toList=[]from Z1 []];cases l<;>rfl
theorem aIT(l:List UInt8):aB prog 225 [.string (BA l),.string ⟨#[0]⟩] (.string (BA (J6 l))):=by
 by_cases h:l=[]
 ·subst h;exact bo func225 (λ_=>[.rw 8 (.bool ((BA []).toList==(ByteArray.mk #[]).toList)) b_ (by rw[Fb];rfl)])
 ·exact bo func225 (λ_=>[.rw 8 (.bool ((BA l).toList==(ByteArray.mk #[]).toList)) a_ (by rw[Fb,aO h]),(aIS l).at 25])
theorem S6{x y:Nat}(hx:x<18446744073709551616)(hy:y<18446744073709551616):IntKind.u64.wrap (((BitVec.ofInt IntKind.u64.bits (x:Int))||| (BitVec.ofInt IntKind.u64.bits (y:Int))).toNat:Int)=((x||| y:Nat):Int):=by
 show IntKind.u64.wrap (((BitVec.ofInt 64 (x:Int))||| (BitVec.ofInt 64 (y:Int))).toNat:Int)=_;have e:∀ x:Nat,(BitVec.ofInt 64 (x:Int))=BitVec.ofNat 64 x:=λx=>by simp
 have t:∀ x:Nat,x<18446744073709551616->(BitVec.ofNat 64 x).toNat=x:=λx h=>by rw[BitVec.toNat_ofNat];exact dU h
 rw[e,e,BitVec.toNat_or,t x hx,t y hy,j9];have:x||| y<18446744073709551616:=ZN (n:=64) hx hy
 omega
theorem aIU{hi lo y:Nat}(hh:hi<y)(hl:lo<base)(hy:y<base):
  aB prog 241 [aR hi,aR lo,aR y] (.tuple #[aR ((hi*base+lo)/y),aR ((hi*base+lo)%y)]):=by
 have lj:hi*base||| lo=hi*base+lo:=by have:=NJ (i:=32) hl hi;rw[cP];exact this.symm
 have hs:hi*base+lo<18446744073709551616:=by clear lj;unfold base at *;omega
 have hq:(hi*base+lo)/y<base:=by rw[iG o_];have:=eh base (show hi+1<=y by omega);rw[cP base y];clear lj;unfold base at *;omega
 have hr:(hi*base+lo)%y<base:=lO (cJ _ o_) hy;have xd:(y:Int)≠0:=by omega
 have h64:base=4294967296:=rfl;have hA:hi*base<18446744073709551616:=eV (J7 _ _) hs;have Hp:IntKind.u64.wrap ((hi:Int)*2^32)=((hi*base:Nat):Int):=by
  have e:(hi:Int)*2^32=((hi*base:Nat):Int):=by rw[nY];rfl
  rw[e,j9];generalize hi*base=H at hA ⊢;omega
 have hB:lo<18446744073709551616:=lO hl d_;have key:∀ H:Nat,H=hi*base->IntKind.u64.wrap (((BitVec.ofInt IntKind.u64.bits (H:Int))||| (BitVec.ofInt IntKind.u64.bits (lo:Int))).toNat:Int)=((hi*base+lo:Nat):Int):=by intro H hH;rw[S6 (by rw[hH];exact hA) hB,hH,lj]
 obtain⟨H,hH⟩:∃ H,H=hi*base:=⟨_,rfl⟩;have Z2:=key H hH;rw[<-hH]at Hp;generalize hi*base+lo=S at *;have u64:∀{z:Nat},z<base->IntKind.u64.wrap (z:Int)=z:=λ{z} h=>by rw[j9];unfold base at h;omega
 have u32:∀{z:Nat},z<base->IntKind.u32.wrap (z:Int)=z:=λ{z} h=>by rw[nG];unfold base at h;omega
 have qi:IntKind.u64.wrap (Int.tdiv (S:Int) y)=((S/y:Nat):Int):=by rw[A8 o_,<-tO];exact u64 hq
 have nH:Int.tmod (S:Int) y=((S%y:Nat):Int):=by rw[zk o_];rfl
 exact bo func241 (λ_=>[
  .rw 10 (.bool ((y:Int)!=0)) b_ (by congr 1;rw[rh];exact xd),
  .rw 14 (.bool (decide ((y:Int)<=(hi:Int)))) a_ (by congr 1;rw[Z3];omega),
  .wr 18 .u64 hi hi (u64 o_),.wr 19 .u64 ((hi:Int)*2^32) (H:Int) Hp,.wr 21 .u64 lo lo (u64 hl),
  .quo 22 .u64 _ (S:Int) Z2,.wr 25 .u64 y y (u64 hy),
  .vK f241 26 .u64 (S:Int) y ((S/y:Nat):Int) xd qi k_,.wr 27 .u32 ((S/y:Nat):Int) ((S/y:Nat):Int) (u32 hq),
  .wr 30 .u64 y y (u64 hy),
  .E9 f241 31 .u64 (S:Int) y ((S%y:Nat):Int) xd nH k_,.wr 32 .u32 ((S%y:Nat):Int) ((S%y:Nat):Int) (u32 hr)])
def du(i:Nat):Value:=.int .i64 ((i:Int)-1)
theorem ew(j:Nat):du (j+1)=vI j:=by
 unfold du vI;have e:((j+1:Nat):Int)-1=(j:Int):=by omega
 rw[e]
theorem oW(h:j<9223372036854775807):IntKind.i64.wrap ((j:Int)-1)=(j:Int)-1:=by rw[dX];omega
section
variable{Bs:aa}{n a d:Nat}
def sE(n a d i:Nat):aN:=[(8,du i),(6,sl 1 n),(7,aR (a/base^i%d)),(0,sl 0 n),(1,aR d)]
def CX(n a d i:Nat):aH:=[(0,.view (aj (ae base n a))),(1,.row (aj (gF base n i (a/d))) 179 1)]
theorem NM(hj:j<n)(hd:0<d)(mT:d<base)(h63:n<35184372088832):
  af prog Bs 35 (aF (ag f221 0)) (sE n a d (j+1)) (CX n a d (j+1)) 2 ⟨.normal,sE n a d j,CX n a d j,2⟩:=by
 have bT:e9 prog 179 (aj (gF base n (j+1) (a/d))) j (aR (a/d/base^j%base))=some (aj (gF base n j (a/d))):=by rw[y7 _ _ _ (by simp[aj,Ny];exact hj),y8,NA hj rfl]
 have hdiv:=aIU (hi:=a/base^(j+1)%d) (lo:=a/base^j%base) (y:=d) (cJ _ hd) (gZ d_ _ _) mT;obtain⟨q1,q2⟩:=ZI (B:=base) d_ hd (jV mT) a j;rw[q1,q2]at hdiv;exact aC [.rw 15 (du (j+1)) (vI j) (ew j),.ge 16 j 0 true s_,.rw 21 (du (j+1)) (vI j) (ew j),.rw 24 (du (j+1)) (vI j) (ew j),.ix f221 25 0 n j hj k_,.ld f221 26 179 0 j (.view (aj (ae base n a))) (aR (a/base^j%base)) rfl (by rw[fV];exact kV (eM hj)) k_,hdiv.at 28,.ix f221 31 1 n j hj k_,.st f221 100031 179 1 j (.row (aj (gF base n (j+1) (a/d))) 179 1) (aR (a/d/base^j%base)) (.row (aj (gF base n j (a/d))) 179 1) rfl bT rfl k_,.rw 17 (du (j+1)) (vI j) (ew j),.wr 18 .i64 ((j:Int)-1) ((j:Int)-1) (oW o_)]
theorem aIV(hd:0<d)(mT:d<base)(h63:n<35184372088832):
  af prog Bs 35 (.block 0 (ag f221 0)) (sE n a d n) (CX n a d n) 2 ⟨.normal,sE n a d 0,CX n a d 0,2⟩:=by
 have:=ch (P:=prog) (B:=Bs) (N:=35) (b:=aF (ag f221 0)) (next:=2) (r:=⟨.exit 0,sE n a d 0,CX n a d 0,2⟩) n (λi=>sE n a d (n-i)) (λi=>CX n a d (n-i))
  (λi k _=>j6 (l:=CX n a d (n-i)) (m:=CX n a d (n-0)) rfl k)
  (λi hi=>by
   have e:n-i=(n-(i+1))+1:=by omega
   simp only[e];exact NM o_ hd mT h63)
  (by
   have e:n-n=0:=by omega
   simp only[e];exact aC [.rw 16 (.bool (decide (((0:Nat):Int)-1>=0))) a_ rfl]) n_
 exact bO this
end
theorem aIW(gm:iH w va a)(hd:0<d)(mT:d<base)(h1:nd base a<35184372088832):
  Calls prog 221 #[va,aR d] w λe w'=>∃ v,e=.returned (.tuple #[v,aR (a%d)])/\jT w w' v (a/d)/\Below w.heap.size w w':=by
 have ha:=ek (B:=base) d_ a;have hl:∀ s∈[cz.row va (nd base a) (aj (ae base (nd base a) a)),cz.plain (aR d)],s.OK w:=by
  intro s hs;simp at hs;rcases hs with rfl|rfl
  ·exact⟨gm,fG _⟩
  ·rfl
 unfold iH at gm;generalize nd base a=n at *;have hs:a/d<base^n:=eV (tP _ _) ha;have e0:a/base^n%d=0:=by rw[mf ha];exact Nat.zero_mod _
 have e1:a/base^0%d=a%d:=by simp
 refine lN (Q:=λe w'=>∃ v,e=.returned (.tuple #[v,aR (a%d)])/\jT w w' v (a/d)/\Below w.heap.size w w') mixed func221 [cz.row va n (aj (ae base n a)),cz.plain (aR d)] hl 100 (N:=35) k_
  (rs:=[(aU.qj f221 11 1 n 179 4 (aR 0) (aj (gF base n n (a/d))) (by rw[Nz,E6]) rfl rfl o_ (by simp[maxLen];omega) k_:aU prog (aa.at w) 35),.rw 7 (.int .u32 0) (aR (a/base^n%d)) (by rw[e0];rfl),.wr 14 .i64 ((n:Int)-1) ((n:Int)-1) (oW o_),.code 0 _ _ _ _ _ (aIV (n:=n) (a:=a) hd mT h1),.trim f221 33 1 n (a/d) (.row (aj (gF base n 0 (a/d))) 179 1) rfl (by rw[<-JX];rfl) hs o_ (y:=.func 199) k_])
  (v:=.tuple #[.slice (some ⟨1,0,some 7⟩) (nd base (a/d)) 0,aR (a/base^0%d)]) (ms:=[(1,.row (aj (gF base n 0 (a/d))) 179 1)]) k_ λay b9 v' w' hc bF dQ _=>?_
 obtain⟨vs,he,aY⟩:=hc.uD;obtain⟨v1,v2,aQ,c1,c2⟩:=js aY;have hk:=dQ _ (aP ..);rw[JX]at hk;refine⟨v1,?_,xe bF hk hs c1,bF.base⟩;rw[he,show vs=#[v1,v2]from vF.1 aQ,c2.fk rfl,e1]
def hJ(a b:Nat):Int:=if a<b then -1 else if b<a then 1 else 0
section
variable{Bs:aa}{n a b:Nat}
def A9(n i:Nat):aN:=[(5,du i),(0,sl 0 n),(1,sl 1 n)]
def sF(n a b:Nat):aH:=[(0,.view (aj (ae base n a))),(1,.view (aj (ae base n b)))]
noncomputable def S7(n a b j:Nat)(hj:j<n)(t1 t2:Bool)(h1:decide (a/base^j%base<b/base^j%base)=t1)(h2:decide (b/base^j%base<a/base^j%base)=t2)(more:bL prog Bs 43):bL prog Bs 43:=
 .rw 19 (du (j+1)) (vI j) (ew j)::.ge 20 j 0 true s_::.rw 25 (du (j+1)) (vI j) (ew j)::.ix f193 26 0 n j hj k_::
  .ld f193 27 179 0 j (.view (aj (ae base n a))) (aR (a/base^j%base)) rfl (by rw[fV];exact kV (eM hj)) k_::
  .rw 29 (du (j+1)) (vI j) (ew j)::.ix f193 30 1 n j hj k_::
  .ld f193 31 179 1 j (.view (aj (ae base n b))) (aR (b/base^j%base)) rfl (by rw[fV];exact kV (eM hj)) k_::
  .lt 32 (a/base^j%base) (b/base^j%base) t1 h1::(if t1 then[]else
  .rw 35 (du (j+1)) (vI j) (ew j)::.ix f193 36 0 n j hj k_::
  .ld f193 37 179 0 j (.view (aj (ae base n a))) (aR (a/base^j%base)) rfl (by rw[fV];exact kV (eM hj)) k_::
  .rw 39 (du (j+1)) (vI j) (ew j)::.ix f193 40 1 n j hj k_::
  .ld f193 41 179 1 j (.view (aj (ae base n b))) (aR (b/base^j%base)) rfl (by rw[fV];exact kV (eM hj)) k_::
  .gt 42 (a/base^j%base) (b/base^j%base) t2 h2::more)
theorem aIX(hj:j<n)(he:a/base^j%base=b/base^j%base)(h63:n<35184372088832):
  af prog Bs 43 (aF (ag f193 0)) (A9 n (j+1)) (sF n a b) 2 ⟨.normal,A9 n j,sF n a b,2⟩:=
 aC (S7 n a b j hj false false (by simp[he]) (by simp[he]) [.rw 21 (du (j+1)) (vI j) (ew j),.wr 22 .i64 ((j:Int)-1) ((j:Int)-1) (oW o_)])
theorem aIY(hj:j<n)(ak:a/base^j%base<b/base^j%base):
  af prog Bs 43 (aF (ag f193 0)) (A9 n (j+1)) (sF n a b) 2 ⟨.ret,[(4,.int .i64 (-1))],sF n a b,2⟩:=
 aC (S7 n a b j hj true false (by simp[ak]) (by simp;omega) [])
theorem aIZ(hj:j<n)(ak:b/base^j%base<a/base^j%base):
  af prog Bs 43 (aF (ag f193 0)) (A9 n (j+1)) (sF n a b) 2 ⟨.ret,[(4,.int .i64 1)],sF n a b,2⟩:=
 aC (S7 n a b j hj false true (by simp;omega) (by simp[ak]) [])
theorem aI0:af prog Bs 43 (aF (ag f193 0)) (A9 n 0) (sF n a b) 2 ⟨.exit 0,[],sF n a b,2⟩:=
 aC [.rw 20 (.bool (decide (((0:Nat):Int)-1>=0))) a_ rfl]
theorem aI1(ha:a<base^n)(hb:b<base^n)(h63:n<35184372088832):
  af prog Bs 43 (.block 0 (ag f193 0)) (A9 n n) (sF n a b) 2 (if a=b then⟨.normal,[],sF n a b,2⟩else⟨.ret,[(4,.int .i64 (hJ a b))],sF n a b,2⟩):=by
 obtain⟨e,h1,h2,h3⟩:=yZ (λt=>¬(t<n/\a/base^(n-1-t)%base=b/base^(n-1-t)%base)) n o_;have xj:=ZJ ha hb e h1 λs hs=>(Fc.1 (h3 s hs)).2;have go:∀(r:lK),r.ex≠.normal->af prog Bs 43 (aF (ag f193 0)) (A9 n (n-e)) (sF n a b) 2 r->af prog Bs 43 (.loop (aF (ag f193 0))) (A9 n n) (sF n a b) 2 r:=by
  intro r hr mU
  exact ch (P:=prog) (B:=Bs) (N:=43) (b:=aF (ag f193 0)) (next:=2) (r:=r) e (λi=>A9 n (n-i)) (λ_=>sF n a b) (λi k _=>Iff.rfl)
   (λi hi=>by
    have q:=Fc.1 (h3 i hi);have e1:n-i=(n-(i+1))+1:=by omega
    have e2:n-1-i=n-(i+1):=by omega
    simp only[e1];exact aIX o_ (by rw[<-e2];exact q.2) h63) mU hr
 by_cases CY:e=n
 ·have bZ:a=b:=by rw[CY,vL,sC,Fe,Fe]at xj;exact xj
  rw[ax bZ];have:=go ⟨.exit 0,[],sF n a b,2⟩ n_ (by rw[CY,vL];exact aI0);exact bO (id:=0) this
 ·have hj:n-e=(n-1-e)+1:=by omega
  have bj:a/base^(n-1-e)%base≠b/base^(n-1-e)%base:=λh=>h2 ⟨by omega,h⟩;rw[hj]at xj go;have bZ:a≠b:=λh=>bj (by rw[h]);rw[ao bZ];rcases EO bj with ak|tG
  ·have hl:=NB xj ak;have e1:hJ a b=-1:=by unfold hJ;rw[ax hl]
   rw[e1];exact bO (id:=0) (go _ n_ (aIY o_ ak))
  ·have hl:=NB xj.symm tG;have e1:hJ a b=1:=by unfold hJ;rw[ao o_,ax hl]
   rw[e1];exact bO (id:=0) (go _ n_ (aIZ o_ tG))
end
def qp(a b:Nat):Int:=if nd base a=nd base b then hJ a b else(nd base a:Int)-nd base b
theorem NN{a b:Nat}:0<=qp a b↔b<=a:=by
 unfold qp;by_cases h:nd base a=nd base b
 ·rw[ax h];unfold hJ;by_cases h1:a<b
  ·rw[ax h1];omega
  ·rw[ao h1];by_cases h2:b<a
   ·rw[ax h2];omega
   ·rw[ao h2];omega
 ·rw[ao h];rcases fm a b with h1|h1
  ·have:=jw (B:=base) d_ (jV h1);omega
  ·have:=jw (B:=base) d_ h1;omega
theorem NO{vb:i_}(gm:iH w va a)(ll:iH w vb b)(h1:nd base a<35184372088832)(h2:nd base b<35184372088832):
  Calls prog 193 #[va,vb] w λe w'=>e=.returned (.int .i64 (qp a b))/\Below w.heap.size w w':=by
 have ha:=ek (B:=base) d_ a;have hb:=ek (B:=base) d_ b;have hl:∀ s∈[cz.row va (nd base a) (aj (ae base (nd base a) a)),cz.row vb (nd base b) (aj (ae base (nd base b) b))],s.OK w:=by
  intro s hs;simp at hs;rcases hs with rfl|rfl
  ·exact⟨gm,fG _⟩
  ·exact⟨ll,fG _⟩
 unfold iH at gm ll;unfold qp;generalize nd base a=n at *;generalize nd base b=m at *;have fin:∀{ay:Map} {b9:Nat->Option Obj} {v':i_} {w':h_} {z:Int},aK ay (.int .i64 z) v'->aM (aa.at w) ay b9 w'->Ending.returned v'=.returned (.int .i64 z)/\Below w.heap.size w w':=λhc hm=>⟨by rw[hc.fk rfl],hm.base⟩;have bj:∀ t:Bool,decide (n=m)=!t->(Value.bool (((n:Nat):Int)!=((m:Nat):Int)))=.bool t:=by
  intro t h
  congr 1
  by_cases lL:n=m
  ·subst lL;simp at h;subst h;simp
  ·rw[aO lL]at h;have:t=true:=by cases t<;>simp at h ⊢
   subst this;rw[rh];omega
 by_cases lL:n=m
 ·subst lL;rw[ax rfl];have lo:=aI1 (Bs:=aa.at w) ha hb h1;by_cases bZ:a=b
  ·rw[ax bZ]at lo;have ho:hJ a b=0:=by unfold hJ;rw[ao o_,ao o_]
   rw[ho]
   exact lN (Q:=λe w'=>e=.returned (.int .i64 0)/\Below w.heap.size w w') mixed func193 [cz.row va n (aj (ae base n a)),cz.row vb n (aj (ae base n b))] hl 100 (N:=43) k_
    (rs:=[(aU.rw 10 (.bool (((n:Nat):Int)!=((n:Nat):Int))) a_ (bj false s_):aU prog (aa.at w) 43),.wr 18 .i64 ((n:Int)-1) ((n:Int)-1) (oW o_),.code 0 _ _ _ _ _ lo])
    (v:=.int .i64 0) (ms:=[]) k_ λay b9 v' w' hc bF _ _=>fin hc bF
  ·rw[ao bZ]at lo
   exact lN (Q:=λe w'=>e=.returned (.int .i64 (hJ a b))/\Below w.heap.size w w') mixed func193 [cz.row va n (aj (ae base n a)),cz.row vb n (aj (ae base n b))] hl 100 (N:=43) k_
    (rs:=[(aU.rw 10 (.bool (((n:Nat):Int)!=((n:Nat):Int))) a_ (bj false s_):aU prog (aa.at w) 43),.wr 18 .i64 ((n:Int)-1) ((n:Int)-1) (oW o_),.code 0 _ _ _ _ _ lo])
    (v:=.int .i64 (hJ a b)) (ms:=[]) k_ λay b9 v' w' hc bF _ _=>fin hc bF
 ·rw[ao lL]
  exact lN (Q:=λe w'=>e=.returned (.int .i64 ((n:Int)-m))/\Below w.heap.size w w') mixed func193 [cz.row va n (aj (ae base n a)),cz.row vb m (aj (ae base m b))] hl 100 (N:=43) k_
   (rs:=[(aU.rw 10 (.bool (((n:Nat):Int)!=((m:Nat):Int))) b_ (bj true (by simp[lL])):aU prog (aa.at w) 43),.wr 15 .i64 ((n:Int)-(m:Int)) ((n:Int)-m) (by rw[dX];omega)])
   (v:=.int .i64 ((n:Int)-m)) (ms:=[]) k_ λay b9 v' w' hc bF _ _=>fin hc bF
section
variable{P:j_}{B:aa}{N:Nat}
def Ba(P:j_)(o:Oper):Option (Nat×List Nat×TypeId×Nat×Value):=match o.op with
 |.buildSlice t len parts=>match P.underlying t with
  |some (.slice e)=>(match P.info? e with|some i=>(match i.zero with|some z=>some (len,parts.toList.map (·.1),e,i.size,z)|none=>none)|none=>none)
  |_=>none
 |_=>none
def J8(size len:Nat)(z:i_)(ps:aN):Option (Array Value):=
 Instr.fill (λi=>some (i*size,size)) ((Array.range (len*size)).map (z.cells[·%z.cells.size]!)) ps
theorem NP{ρ:Operand->Value}:∀(l:List (Nat×Operand)) {vs:ah},(l.map (·.2)).map ρ=vs->(l.map λp=>(p.1,ρ p.2))=(l.map (·.1)).zip vs
 |[],vs,h=>by subst h;rfl
 |p::l,vs,h=>by subst h;simp only[sk,List.zip_cons_cons];rw[NP l rfl]
theorem aI2{idx:l_}{z:i_}(ho:Ba P o=some (len,idx,e,size,z)){cells:p_}(cK:∀ v∈vs,flat v=true)(S8:∀ v∈cells.toList,flat v=true)
  (CZ:J8 size len z (idx.zip vs)=some cells) (bC:cells.size=len*size) (zn:0<len*size) (hle:len*size<=16777216) (k:Nat) :
  cA P B o vs [(k,none)] (.slice (some ⟨k,0,some 7⟩) len 0) [(k,.row cells.toList e size)]:=by
 unfold Ba at ho;split at ho
 ·rename_i t lP parts bY;split at ho
  ·rename_i e' ht;split at ho
   ·rename_i i hi;split at ho
    ·rename_i z' hz;injection ho with ho;injection ho with h1 ho;injection ho with h2 ho;injection ho with h3 ho;injection ho with h4 h5;subst h1;subst h2;subst h3;subst h4;subst h5;refine iC.step λι c ρ w aQ hm hn=>?_;have hk:c k=none:=hn _ (aP ..);rw[bY]at aQ;have aQ:=nC aQ cK;have cd:List.map (λx=>(x.fst,ρ x.snd)) parts.toList=(parts.toList.map (·.1)).zip vs:=
      NP parts.toList (by simpa[Op.operands]using aQ)
     have NQ:lP<=maxLen:=by have:lP<=lP*i.size:=Ff _ (Nat.pos_of_mul_pos_left zn);simp[maxLen];omega
     have uH:Map.le ι _:=gN (l:=.at w.heap.size 0 lP) (hm.dJ k hk);have je:=G3 (ty:=e') (size:=i.size) (cap:=lP) (rest:=#[]) hm hk (kM S8:bW (aK ι) cells.toList cells.toList) NQ (by simpa using bC);refine⟨_,.slice (some ⟨w.heap.size,0,none⟩) lP lP,_,uH,.slc (o:=0) (off:=0) (fP _ _ _) (bA _) o_,je,.inl ?_⟩;have h0:¬(lP*i.size=0):=by omega
     have h1:¬(16777216<lP*i.size):=by omega
     unfold J8 at CZ;simp only[execOp,bY];simp[Instr.buildSlice,jF ht,sizeOf,typeInfo,hi,zeroValue,hz,h0,h1,newRow];rw[cd,CZ];simp[newObj,Sem.run]
    ·cases ho
   ·cases ho
  ·cases ho
 ·cases ho
def Fg(P:j_)(o:Oper):Option (TypeId×Nat×Nat×Nat×Bool):=match o.op with
 |.call c=>match c.callee,c.args.toList,c.argTypes.toList with
  |.builtin .append,[_,_],[t,t']=>if Nat.beq t t' then(match P.underlying t with
   |some (.slice e)=>(match P.info? e with|some i=>(match i.zero with|some z=>some (e,i.size,i.bytes,z.cells.size,true)|none=>none)|none=>none)
   |_=>none)else none
  |_,_,_=>none
 |_=>none
theorem Z4(ho:Fg P o=some (e,size,n2,A,true)):∃ s x t i z,o.op=.call { callee:=.builtin .append,args:=#[s,x],argTypes:=#[t,t]}/\P.underlying t=some (.slice e)/\P.info? e=some i/\i.zero=some z/\i.size=size/\i.bytes=n2/\z.cells.size=A:=by
 unfold Fg at ho;split at ho
 ·rename_i c bY;split at ho
  ·rename_i s x t t' hc ha mO;split at ho
   ·rename_i htt;split at ho
    ·rename_i e' ht;split at ho
     ·rename_i i hi;split at ho
      ·rename_i z hz;injection ho with ho;injection ho with h1 ho;injection ho with h2 ho;injection ho with h3 ho;injection ho with h4 h5;subst h1;have:=kt htt;subst this;refine⟨s,x,t,i,z,?_,ht,hi,hz,h2,h3,h4⟩;rw[bY];obtain⟨c1,c2,c3⟩:=c;dsimp only at hc ha mO;subst hc
       congr 2
       ·exact vF.1 ha
       ·exact vF.1 mO
      ·cases ho
     ·cases ho
    ·cases ho
   ·cases ho
  ·cases ho
 ·cases ho
theorem Z5(ho:Fg P o=some (e,size,n2,size,true))(bC:0<size){sv:i_}(yN:Cw B sv m eT need)(hl:eT.length=m*size)(R5:∀ v∈eT,v.oneCell'=true)
  {j n:Nat} {cells:ah} (oN:n*size<=cells.length) (h63:n+m<=maxLen) (Cv:(n+m)*n2<=140737488355328) (k:Nat) :
  cA P B o [.slice (some ⟨j,0,some 7⟩) n 0,sv] ((k,none)::(j,some (.row cells e size))::need) (.slice (some ⟨k,0,some 7⟩) (n+m) 0) [(k,.row (cells.take (n*size)++eT) e size),(j,.dead)]:=by
 obtain⟨s,x,t,i,z,bY,ht,hi,hz,h1,h2,h3⟩:=Z4 ho;subst h1;subst h2;exact(aHE bY ht hi hz h3 bC yN hl R5 oN h63 Cv k).step
theorem aI3(ho:Fg P o=some (e,size,n2,size,true))(bC:0<size){sv:i_}(yN:Cw B sv m eT need)(hl:eT.length=m*size)
  (h63:m<=maxLen) (Cv:m*n2<=140737488355328) (k:Nat) :
  cA P B o [.slice none 0 0,sv] ((k,none)::need) (.slice (some ⟨k,0,some 7⟩) m 0) [(k,.row eT e size)]:=by
 obtain⟨s,x,t,i,z,bY,ht,hi,hz,h1,h2,h3⟩:=Z4 ho;subst h1;subst h2;exact(aHD bY ht hi hz h3 bC yN hl h63 Cv k).step
def aU.bs(fn:Func)(key k len e size:Nat)(idx:l_)(z:i_)(vs:ah)(cells:p_)(x:Obj)(hx:Obj.row cells.toList e size=x)(cK:∀ v∈vs,flat v=true)(S8:∀ v∈cells.toList,flat v=true)
  (CZ:J8 size len z (idx.zip vs)=some cells) (bC:cells.size=len*size) (zn:0<len*size) (hle:len*size<=16777216) (ho:Ba P (aA fn key)=some (len,idx,e,size,z)):aU P B N:=
 .step key (aA fn key) vs [(k,none)] (.slice (some ⟨k,0,some 7⟩) len 0) [(k,x)] (by subst hx;exact aI2 ho cK S8 CZ bC zn hle k)
end
theorem S9{n:Nat}(hn:n<18446744073709551616):
  Calls prog 157 #[.int .u64 n] w λe w'=>∃ v,e=.returned v/\jT w w' v n/\Below w.heap.size w w':=by
 have hs:n<base^2:=by unfold base;omega
 have e0:n/base^0%base=n%base:=by simp
 have e1:n/base^1%base=n/base:=by rw[Bb];exact dU (by rw[iG d_];unfold base;omega)
 refine lN (Q:=λe w'=>∃ v,e=.returned v/\jT w w' v n/\Below w.heap.size w w') mixed func157 [cz.plain (.int .u64 n)] (λx hx=>by simp at hx;subst hx;rfl) 100 (N:=10) k_
  (rs:=[(aU.wr 4 .u32 (n:Int) ((n/base^0%base:Nat):Int) (by rw[nG,e0];unfold base;omega):aU prog (aa.at w) 10),.quo 6 .u64 ((n:Int).fdiv (2^32)) ((n/base:Nat):Int) (by rw[sB _ d_];unfold base;omega),.wr 7 .u32 ((n/base:Nat):Int) ((n/base^1%base:Nat):Int) (by rw[nG,e1];unfold base;omega),.bs f157 8 0 2 179 1 [0,1] (aR 0) [aR (n/base^0%base),aR (n/base^1%base)] #[aR (n/base^0%base),aR (n/base^1%base)] (.row (aj (ae base 2 n)) 179 1) rfl
    (λv hv=>by simp at hv;rcases hv with rfl|rfl<;>rfl) (λv hv=>by simp at hv;rcases hv with rfl|rfl<;>rfl) k_ rfl o_ o_ k_,
   .trim f157 9 0 2 n (.row (aj (ae base 2 n)) 179 1) rfl rfl hs d_ (y:=.func 199) k_])
  (v:=.slice (some ⟨0,0,some 7⟩) (nd base n) 0) (ms:=[(0,.row (aj (ae base 2 n)) 179 1)]) k_ λay b9 v' w' hc bF dQ _=>⟨v',rfl,?_,bF.base⟩
 exact xe bF (dQ _ (aP ..)) hs hc
section
variable{Bs:aa}{n a:Nat}
def Bc(n a i:Nat):aN:=[(4,du i),(0,sl 0 n),(3,.int .u64 ((a/base^i:Nat):Int))]
def C0(n a:Nat):aH:=[(0,.view (aj (ae base n a)))]
theorem aI4(hj:j<n)(ha:a<18446744073709551616)(h63:n<35184372088832):
  af prog Bs 21 (aF (ag f198 0)) (Bc n a (j+1)) (C0 n a) 1 ⟨.normal,Bc n a j,C0 n a,1⟩:=by
 have hd:=gZ (B:=base) d_ a j;have he:=xc (B:=base) a j;have hle:a/base^j<18446744073709551616:=eV (tP _ _) ha;generalize hA:a/base^(j+1)=A at *;generalize hx:a/base^j%base=x at *;have Z6:A*base<18446744073709551616:=by omega
 have lj:A*base||| x=a/base^j:=by have:=NJ (i:=32) hd A;rw[he,cP];exact this.symm
 have Ta:IntKind.u64.wrap ((A:Int)*2^32)=((A*base:Nat):Int):=by
  have e:(A:Int)*2^32=((A*base:Nat):Int):=by rw[nY];rfl
  rw[e,j9];generalize A*base=H at Z6 ⊢;omega
 have Hp:∀ H:Nat,H=A*base->IntKind.u64.wrap (((BitVec.ofInt IntKind.u64.bits (H:Int))||| (BitVec.ofInt IntKind.u64.bits (x:Int))).toNat:Int)=((a/base^j:Nat):Int):=by intro H hH;rw[S6 (by rw[hH];exact Z6) (lO hd d_),hH,lj]
 obtain⟨H,hH⟩:∃ H,H=A*base:=⟨_,rfl⟩;have Hp:=Hp H hH;rw[<-hH]at Ta
 have:=fB (P:=prog) (B:=Bs) (N:=21) mixed (c:=aF (ag f198 0)) (fr:=[(4,du (j+1)),(0,sl 0 n),(3,.int .u64 (A:Int))]) (M:=C0 n a) (next:=1) (r:=⟨.normal,Bc n a j,C0 n a,1⟩) 100
  [.rw 8 (du (j+1)) (vI j) (ew j),.ge 9 j 0 true s_,.wr 13 .u64 ((A:Int)*2^32) (H:Int) Ta,.rw 15 (du (j+1)) (vI j) (ew j),.ix f198 16 0 n j hj k_,.ld f198 17 179 0 j (.view (aj (ae base n a))) (aR x) rfl (by rw[fV,<-hx];exact kV (eM hj)) k_,.wr 18 .u64 (x:Int) (x:Int) (by rw[j9];unfold base at hd;omega),.quo 19 .u64 _ ((a/base^j:Nat):Int) Hp,.rw 10 (du (j+1)) (vI j) (ew j),.wr 11 .i64 ((j:Int)-1) ((j:Int)-1) (oW o_)] k_
 have e:Bc n a (j+1)=[(4,du (j+1)),(0,sl 0 n),(3,.int .u64 (A:Int))]:=by unfold Bc;rw[hA]
 rw[e];exact this
theorem aI5(ha:a<18446744073709551616)(h63:n<35184372088832):
  af prog Bs 21 (.block 0 (ag f198 0)) (Bc n a n) (C0 n a) 1 ⟨.normal,Bc n a 0,C0 n a,1⟩:=by
 have:=ch (P:=prog) (B:=Bs) (N:=21) (b:=aF (ag f198 0)) (next:=1) (r:=⟨.exit 0,Bc n a 0,C0 n a,1⟩) n (λi=>Bc n a (n-i)) (λ_=>C0 n a) (λi k _=>Iff.rfl)
  (λi hi=>by
   have e:n-i=(n-(i+1))+1:=by omega
   simp only[e];exact aI4 o_ ha h63)
  (by
   have e:n-n=0:=by omega
   simp only[e];exact aC [.rw 9 (.bool (decide (((0:Nat):Int)-1>=0))) a_ rfl]) n_
 exact bO this
end
theorem Z7(gm:iH w va a)(ha:a<18446744073709551616)(h1:nd base a<35184372088832):
  Calls prog 198 #[va] w λe w'=>e=.returned (.int .u64 (a:Int))/\Below w.heap.size w w':=by
 have ak:=ek (B:=base) d_ a;have hl:∀ s∈[cz.row va (nd base a) (aj (ae base (nd base a) a))],s.OK w:=by intro s hs;simp at hs;subst hs;exact⟨gm,fG _⟩
 unfold iH at gm;generalize nd base a=n at *;have e0:a/base^n=0:=mf ak;have e1:a/base^0=a:=by simp
 refine lN (Q:=λe w'=>e=.returned (.int .u64 (a:Int))/\Below w.heap.size w w') mixed func198 [cz.row va n (aj (ae base n a))] hl 100 (N:=21) k_
  (rs:=[(aU.rw 3 (.int .u64 0) (.int .u64 ((a/base^n:Nat):Int)) (by rw[e0];rfl):aU prog (aa.at w) 21),.wr 7 .i64 ((n:Int)-1) ((n:Int)-1) (oW o_),.code 0 _ _ _ _ _ (aI5 (n:=n) (a:=a) ha h1)])
  (v:=.int .u64 ((a/base^0:Nat):Int)) (ms:=[]) k_ λay b9 v' w' hc bF _ _=>⟨?_,bF.base⟩
 rw[hc.fk rfl,e1]
end Go.Proofs.YthjhinbiabcfiaaGreatDoor
