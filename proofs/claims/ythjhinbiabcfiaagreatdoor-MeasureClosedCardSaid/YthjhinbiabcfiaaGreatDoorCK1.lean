/- Area vectors of a solid's faces: the proof of MeasureClosedCardSaid (the law's function answers true at every record it can be given; theorem measureClosed_card, last part), part 1 of 7; no condition. -/
import Derived.WalkKit
import Derived.Orders
import Derived.KernelRfl
import Derived.Deep.MidRow
import Derived.Below
import Derived.OwnWalk
import Derived.OwnWalkIn
import Derived.OrdersIn
import Derived.LoopNIn
import Derived.TacticsIn
import Derived.LoopN
import Derived.DeepKeys
import Derived.RangeFuncLeaves
import Derived.RangeFuncSeq
import Derived.Lib.SliceRun
import Derived.Shelf.SlSortCmp.WholeK
import Derived.OpenShut
import Derived.ProofKit
import Derived.Carry
import Derived.ChangeOld
import Derived.Deep.DeepHandedRow
import Derived.Test.YthjhinbiabcfiaaGreatDoorProg
namespace Go.Proofs.YthjhinbiabcfiaaGreatDoor
open Go Go.RowKit Tryz
abbrev p_:=Array Value
abbrev m_:=Operand
abbrev l_:=List Nat
abbrev j_:=Program
abbrev i_:=Value
abbrev h_:=World
abbrev f_:=List (Int×List Int)
abbrev b_:=Value.bool true
abbrev a_:=Value.bool false
variable{i j size e d cc N len n2 A n1:Nat}{w w':h_}{ty:TypeId}{α β:Type}{fn:Func}{u v' va res:i_}{P:j_}{look:Nat->Value}{Q:Ending->World->Prop}{cur:p_}
theorem k_{p:Prop}(h:p:=by kernel_rfl):p:=h
theorem o_{p:Prop}(h:p:=by omega):p:=h
theorem d_{p:Prop}(h:p:=by decide):p:=h
theorem n_{p:Prop}(h:p:=by nofun):p:=h
theorem s_{p:Prop}(h:p:=by simp):p:=h
abbrev zg:=@Go.Addr.add_mid
abbrev EW:=@Array.ext'
abbrev aBG:=@Array.foldl_toList
abbrev qv:=@Array.getD_eq_getD_getElem?
abbrev aDa:=@Array.getElem?_append_left
abbrev zo:=@Array.getElem?_eq_getElem
abbrev Y2:=@Array.getElem?_eq_none
abbrev zt:=@Array.getElem?_eq_some_iff
abbrev Yx:=@Array.getElem?_modify
abbrev Sp:=@Array.getElem?_setIfInBounds_ne
abbrev y9:=@Array.length_toList
abbrev Nj:=@Array.mem_toList_iff
abbrev Ai:=@Array.toArray_toList
abbrev IF:=@Array.toList_eq_nil_iff
abbrev vW:=@Array.toList_inj
abbrev aHS:=@Array.toList_setIfInBounds
abbrev de:=@Bool.and_eq_true
abbrev NY:=@Bool.and_false
abbrev Au:=@Bool.and_self
abbrev iA:=@Bool.and_true
abbrev aDS:=@Bool.eq_false_iff
abbrev zG:=@Bool.false_and
abbrev OA:=@Bool.false_bne
abbrev vj:=@Bool.false_eq_true
abbrev zH:=@Bool.false_or
abbrev P0:=@Bool.not_eq_true
abbrev zn:=@Bool.not_eq_true'
abbrev NX:=@Bool.not_false
abbrev Km:=@Bool.not_true
abbrev Np:=@Bool.or_eq_false_iff
abbrev u5:=@Bool.or_eq_true
abbrev kS:=@Bool.true_and
abbrev OB:=@Bool.true_bne
abbrev Ht:=@Bool.true_or
abbrev iP:=@Classical.byContradiction
abbrev Fu:=@Classical.not_not
abbrev aGx:=@Go.DataW.trod_struct
abbrev R9:=@Go.RowKit.Below.heap_alloc
abbrev V2:=@Go.Sort.size_flatK
abbrev aAY:=@Int.add_mul_ediv_right
abbrev aOT:=@Int.add_mul_emod_self_left
abbrev OV:=@Int.ediv_mul_cancel
abbrev Us:=@Int.eq_of_mul_eq_mul_right
abbrev sR:=@Int.fdiv_eq_ediv_of_nonneg
abbrev OP:=@Int.lt_trichotomy
abbrev Ma:=@Int.mul_assoc
abbrev T6:=@Int.mul_comm
abbrev DO:=@Int.mul_ne_zero
abbrev H9:=@Int.mul_neg
abbrev UB:=@Int.mul_pos
abbrev aBj:=@Int.natAbs_add_le
abbrev aKG:=@Int.natAbs_ediv_le_natAbs
abbrev xO:=@Int.natAbs_mul
abbrev zY:=@Int.natAbs_natCast
abbrev KG:=@Int.natAbs_neg
abbrev wj:=@Int.natCast_add
abbrev ug:=@Int.natCast_ediv
abbrev Wn:=@Int.natCast_emod
abbrev oy:=@Int.natCast_mul
abbrev HT:=@Int.natCast_pow
abbrev H8:=@Int.neg_mul
abbrev KH:=@Int.neg_neg
abbrev OC:=@Int.one_mul
abbrev HR:=@Int.pow_nonneg
abbrev aKz:=@Int.sign_eq_neg_one_iff_neg
abbrev FG:=@Int.sign_eq_neg_one_of_neg
abbrev BZ:=@Int.sign_eq_one_of_pos
abbrev aKA:=@Int.sign_eq_zero_iff_zero
abbrev BD:=@Int.tdiv_eq_ediv_of_nonneg
abbrev zL:=@Int.tmod_eq_emod_of_nonneg
abbrev eh:=@Go.IntKind.wrap_i64
abbrev nV:=@Go.IntKind.wrap_u32
abbrev ko:=@Go.IntKind.wrap_u64
abbrev aAr:=@Go.IntKind.wrap_u8
abbrev aCz:=@List.Pairwise.nil
abbrev eC:=@List.all_cons
abbrev Jt:=@List.all_eq_false
abbrev bB:=@List.all_eq_true
abbrev e7:=@List.all_nil
abbrev J4:=@List.any_eq_false
abbrev sJ:=@List.any_eq_true
abbrev E9:=@List.append_assoc
abbrev jO:=@List.append_nil
abbrev Dt:=@List.cons_append
abbrev N2:=@List.drop_drop
abbrev aMu:=@List.drop_eq_getElem_cons
abbrev Sb:=@List.drop_left'
abbrev mI:=@List.drop_zero
abbrev k8:=@List.eq_nil_of_length_eq_zero
abbrev xt:=@List.ext_getElem
abbrev TE:=@List.ext_getElem?
abbrev SI:=@List.filter_cons
abbrev VK:=@List.flatMap_append
abbrev aCS:=@List.foldl_append
abbrev v8:=@List.foldl_cons
abbrev aCq:=@List.foldl_nil
abbrev Ud:=@List.foldr_cons
abbrev Uc:=@List.foldr_nil
abbrev E1:=@List.getD_eq_getElem?_getD
abbrev J3:=@List.getElem?_append_left
abbrev E2:=@List.getElem?_append_right
abbrev Hl:=@List.getElem?_drop
abbrev aW:=@List.getElem?_eq_getElem
abbrev Bf:=@List.getElem?_eq_none
abbrev aAf:=@List.getElem?_eq_none_iff
abbrev dZ:=@List.getElem?_eq_some_iff
abbrev sH:=@List.getElem?_map
abbrev YE:=@List.getElem?_of_mem
abbrev LH:=@List.getElem?_range
abbrev uU:=@List.getElem?_take
abbrev C9:=@List.getElem_map
abbrev df:=@List.getElem_mem
abbrev lS:=@List.getElem_of_mem
abbrev Da:=@List.getElem_range
abbrev HA:=@List.getElem_set
abbrev Xl:=@List.getElem_take
abbrev PD:=@List.getLast?_cons_cons
abbrev lF:=@List.length_append
abbrev qm:=@List.length_cons
abbrev vV:=@List.length_drop
abbrev dQ:=@List.length_map
abbrev zx:=@List.length_range
abbrev I2:=@List.length_replicate
abbrev GS:=@List.length_reverse
abbrev Wt:=@List.length_set
abbrev PW:=@List.length_singleton
abbrev jK:=@List.length_take
abbrev Kb:=@List.mapM_cons
abbrev UC:=@List.mapM_nil
abbrev sF:=@List.map_append
abbrev xj:=@List.map_congr_left
abbrev oZ:=@List.map_cons
abbrev Tt:=@List.map_map
abbrev Tv:=@List.map_nil
abbrev C8:=@List.map_take
abbrev eX:=@List.mem_append
abbrev tS:=@List.mem_append_left
abbrev A1:=@List.mem_append_right
abbrev cD:=@List.mem_cons
abbrev bI:=@List.mem_cons_of_mem
abbrev aR:=@List.mem_cons_self
abbrev YV:=@List.mem_filterMap
abbrev wI:=@List.mem_flatMap
abbrev db:=@List.mem_map
abbrev cL:=@List.mem_of_getElem?
abbrev Xd:=@List.mem_of_mem_drop
abbrev IM:=@List.mem_of_mem_take
abbrev ki:=@List.mem_range
abbrev Lo:=@List.mem_reverse
abbrev Cm:=@List.mem_singleton
abbrev ju:=@List.nil_append
abbrev XL:=@List.nodup_cons
abbrev jE:=@List.not_mem_nil
abbrev tn:=@List.pairwise_cons
abbrev W8:=@List.pairwise_iff_getElem
abbrev aCe:=@List.pairwise_reverse
abbrev Vn:=@List.pairwise_singleton
abbrev aS3:=@List.perm_ext_iff_of_nodup
abbrev K0:=@List.range_succ
abbrev wG:=@List.reverse_cons
abbrev aCd:=@List.reverse_eq_nil_iff
abbrev VN:=@List.set_append_right
abbrev Ng:=@List.size_toArray
abbrev tA:=@List.take_add_one
abbrev aCE:=@List.take_append
abbrev Qq:=@List.take_append_drop
abbrev Se:=@List.take_left
abbrev Sa:=@List.take_left'
abbrev n9:=@List.take_length
abbrev kG:=@List.take_of_length_le
abbrev Nd:=@List.take_take
abbrev aAl:=@List.take_zero
abbrev uW:=@Nat.add_assoc
abbrev nr:=@Nat.add_comm
abbrev K5:=@Nat.add_le_add
abbrev S6:=@Nat.add_le_add_left
abbrev Ji:=@Nat.add_le_add_right
abbrev KA:=@Nat.add_mod_right
abbrev fP:=@Nat.add_mul
abbrev Kg:=@Nat.add_mul_div_left
abbrev pN:=@Nat.add_mul_div_right
abbrev Fl:=@Nat.add_mul_mod_self_left
abbrev Dv:=@Nat.add_mul_mod_self_right
abbrev Oe:=@Nat.add_sub_cancel
abbrev Fy:=@Nat.add_sub_cancel_left
abbrev jg:=@Nat.add_zero
abbrev NW:=@Nat.and_lt_two_pow
abbrev Hu:=@Nat.beq_refl
abbrev Sr:=@Nat.ble_eq_true_of_le
abbrev Bm:=@Nat.blt_eq
abbrev jy:=@Nat.div_add_mod
abbrev lg:=@Nat.div_div_eq_div_mul
abbrev mH:=@Nat.div_eq_of_lt
abbrev uh:=@Nat.div_le_self
abbrev iQ:=@Nat.div_lt_iff_lt_mul
abbrev ZF:=@Nat.div_lt_self
abbrev DA:=@Nat.div_mul_le_self
abbrev Fv:=@Nat.div_one
abbrev Oi:=@Nat.div_pos
abbrev Iw:=@Nat.dvd_gcd
abbrev KW:=@Nat.dvd_of_mod_eq_zero
abbrev DM:=@Nat.dvd_trans
abbrev R2:=@Nat.eq_of_beq_eq_true
abbrev aKF:=@Nat.eq_of_mul_eq_mul_right
abbrev nU:=@Nat.eq_zero_or_pos
abbrev Ia:=@Nat.gcd_comm
abbrev B5:=@Nat.gcd_dvd_left
abbrev Ur:=@Nat.gcd_dvd_right
abbrev aBq:=@Nat.gcd_le_left
abbrev UF:=@Nat.gcd_zero_left
abbrev T4:=@Nat.gcd_zero_right
abbrev Ks:=@Nat.le_add_right
abbrev aAk:=@Nat.le_antisymm
abbrev Dz:=@Nat.le_div_iff_mul_le
abbrev VX:=@Nat.le_mul_of_pos_left
abbrev Fw:=@Nat.le_mul_of_pos_right
abbrev sE:=@Nat.le_of_ble_eq_true
abbrev vT:=@Nat.le_of_eq
abbrev j5:=@Nat.le_of_lt
abbrev Pm:=@Nat.le_of_not_lt
abbrev bF:=@Nat.le_refl
abbrev zk:=@Nat.le_succ
abbrev Ow:=@Nat.le_total
abbrev dh:=@Nat.le_trans
abbrev aAL:=@Nat.log2_self_le
abbrev eZ:=@Nat.lt_of_le_of_lt
abbrev cF:=@Nat.lt_of_lt_of_le
abbrev aJz:=@Nat.lt_of_mul_lt_mul_right
abbrev e9:=@Nat.lt_or_ge
abbrev E5:=@Nat.lt_or_gt_of_ne
abbrev aBH:=@Nat.lt_succ_of_lt
abbrev BO:=@Nat.lt_succ_self
abbrev mJ:=@Nat.lt_trans
abbrev tO:=@Nat.lt_trichotomy
abbrev aD6:=@Nat.max_eq_left
abbrev aD5:=@Nat.max_eq_right
abbrev oz:=@Nat.min_eq_left
abbrev Wq:=@Nat.min_eq_right
abbrev dW:=@Nat.mod_eq_of_lt
abbrev Kh:=@Nat.mod_le
abbrev cP:=@Nat.mod_lt
abbrev NM:=@Nat.mod_mul
abbrev BC:=@Nat.mod_mul_right_div_self
abbrev Kp:=@Nat.mod_mul_right_mod
abbrev uf:=@Nat.mod_one
abbrev Up:=@Nat.mod_two_eq_zero_or_one
abbrev o9:=@Nat.mul_add
abbrev gh:=@Nat.mul_assoc
abbrev cX:=@Nat.mul_comm
abbrev S5:=@Nat.mul_div_cancel
abbrev aAI:=@Nat.mul_div_mul_right
abbrev xB:=@Nat.mul_le_mul
abbrev jN:=@Nat.mul_le_mul_left
abbrev eE:=@Nat.mul_le_mul_right
abbrev nt:=@Nat.mul_left_comm
abbrev qA:=@Nat.mul_lt_mul''
abbrev aAJ:=@Nat.mul_lt_mul_of_lt_of_le
abbrev ZJ:=@Nat.mul_lt_mul_of_pos_left
abbrev BN:=@Nat.mul_lt_mul_of_pos_right
abbrev KV:=@Nat.mul_mod
abbrev ZI:=@Nat.mul_mod_left
abbrev aAH:=@Nat.mul_mod_mul_right
abbrev gP:=@Nat.mul_one
abbrev rL:=@Nat.mul_pos
abbrev BR:=@Nat.mul_right_comm
abbrev NP:=@Nat.mul_succ
abbrev Kz:=@Nat.not_lt
abbrev qB:=@Nat.one_mul
abbrev ZS:=@Nat.or_lt_two_pow
abbrev ue:=@Nat.pos_of_ne_zero
abbrev eU:=@Nat.pow_add
abbrev aAT:=@Nat.pow_le_pow_left
abbrev di:=@Nat.pow_le_pow_right
abbrev sT:=@Nat.pow_mul
abbrev BG:=@Nat.pow_one
abbrev cO:=@Nat.pow_pos
abbrev dH:=@Nat.pow_succ
abbrev sS:=@Nat.pow_zero
abbrev FH:=@Nat.sub_le
abbrev wi:=@Nat.sub_self
abbrev Hw:=@Nat.sub_zero
abbrev rI:=@Nat.succ_mul
abbrev TR:=@Nat.succ_pos
abbrev Y4:=@Nat.testBit_or
abbrev N1:=@Nat.two_pow_add_eq_or_of_lt
abbrev ZR:=@Nat.xor_lt_two_pow
abbrev kB:=@Nat.zero_add
abbrev lG:=@Nat.zero_le
abbrev kQ:=@Nat.zero_mul
abbrev kO:=@Ne.symm
abbrev M6:=@Go.Oper.semAt_eq
abbrev aGB:=@Option.bind_eq_some_iff
abbrev YX:=@Option.bind_some
abbrev aBM:=@Option.map_none
abbrev R6:=@Option.map_some
abbrev Uv:=@Rat.divInt_add_divInt
abbrev B6:=@Rat.divInt_eq_div
abbrev FV:=@Rat.div_def
abbrev aBb:=@Rat.div_mul_cancel
abbrev OZ:=@Rat.intCast_add
abbrev DL:=@Rat.intCast_mul
abbrev aBm:=@Rat.intCast_sub
abbrev Iv:=@Rat.mul_inv_cancel
abbrev Uo:=@Rat.mul_pos
abbrev aBi:=@Rat.num_divInt_den
abbrev JS:=@Go.Sem.run_bind
abbrev N3:=@UInt8.toNat_inj
abbrev Oa:=@UInt8.toNat_ofNat'
abbrev aBB:=@Go.World.putObj_heap_other
abbrev vt:=@Go.World.putObj_size
abbrev rJ:=@bne_iff_ne
abbrev cS:=@congrArg
abbrev qx:=@decide_eq_decide
abbrev bd:=@decide_eq_false
abbrev Z8:=@decide_eq_false_iff_not
abbrev aJ:=@decide_eq_true
abbrev u7:=@decide_eq_true_eq
abbrev Cs:=@decide_eq_true_iff
abbrev Cy:=@getElem!_pos
abbrev YK:=@Go.grownCap_le_maxLen
abbrev vk:=@if_false
abbrev az:=@if_neg
abbrev aB:=@if_pos
abbrev rz:=@if_true
abbrev DJ:=@of_decide_eq_false
abbrev kp:=@of_decide_eq_true
abbrev jF:=@or_false
abbrev Fc:=@Go.roundsIn_succ
abbrev jM:=@Go.run_underlying
abbrev Nb:=@Go.size_zeroCells
abbrev J7:=@Go.wpIn_block
abbrev SN:=@Go.wpIn_loop_rounds
abbrev mG:=@Go.wpIn_seq
def mX(a:Addr):Bool:=match a.spot with|some _=>false|none=>true
def pG:Value->Bool
 |.pointer (some a)=>mX a
 |.slice (some a) _ _=>mX a
 |.agg _=>false
 |.tuple _=>false
 |.func _ _ _=>false
 |_=>true
def pH:Value->Bool
 |.func _ fi ca=>fi.toList.all pG&&ca.toList.all pG
 |v=>pG v
def rq:Value->Bool
 |.agg cs=>cs.toList.all pH
 |v=>pH v
def flat:Value->Bool
 |.tuple vs=>vs.toList.all rq
 |v=>rq v
inductive bY{α β:Type}(R:α->β->Prop):List α->List β->Prop
 |nil:bY R [] []
 |cons {a b l m}:R a b->bY R l m->bY R (a::l) (b::m)
inductive pI where
 |at (b o cap:Nat)
 |nil
 |val (v:i_)
variable{m a:Nat}
abbrev Map:=Nat->Option pI
variable{ι κ aA:Map}
def Map.le(ι κ:Map):Prop:=∀ k l,ι k=some l->κ k=some l
theorem Map.le.refl(ι:Map):Map.le ι ι:=λ_ _ h=>h
theorem Map.le.trans{a b c:Map}(h:Map.le a b)(k:Map.le b c):Map.le a c:=λi l e=>k i l (h i l e)
inductive aL(ι:Map):Value->Value->Prop
 |same {v}:flat v=true->aL ι v v
 |ptr {k off b o cap}:ι k=some (.at b o cap)->aL ι (.pointer (some ⟨k,off,some 7⟩)) (.pointer (some ⟨b,o+off,none⟩))
 |slc {k off b o n c c' cap}:ι k=some (.at b o cap)->n<=c'->c+c'=cap->aL ι (.slice (some ⟨k,off,some 7⟩) n c) (.slice (some ⟨b,o+off,none⟩) n c')
 |slcN {k}:ι k=some .nil->aL ι (.slice (some ⟨k,0,some 7⟩) 0 0) (.slice none 0 0)
 |opq {k v}:ι k=some (.val v)->v.cells=#[v]->v.oneCell'=true->aL ι (.pointer (some ⟨k,0,some 9⟩)) v
 |fn {f fi kg ca eg}:bY (aL ι) fi kg->bY (aL ι) ca eg->aL ι (.func f fi.toArray ca.toArray) (.func f kg.toArray eg.toArray)
 |agg {cs cr}:bY (aL ι) cs cr->aL ι (.agg cs.toArray) (.agg cr.toArray)
 |tup {vs cV}:bY (aL ι) vs cV->aL ι (.tuple vs.toArray) (.tuple cV.toArray)
theorem bY.imp{R R':α->β->Prop}:∀{l:List α} {m:List β},bY R l m->(∀ a∈l,∀ b,R a b->R' a b)->bY R' l m
 |_,_,.nil,_=>.nil
 |_,_,.cons h t,k=>.cons (k _ (aR ..) _ h) (t.imp λa ha=>k a (bI _ ha))
variable{k b off cap:Nat}{o:Oper}{f:FuncId}
theorem bY.length{R:α->β->Prop}:∀{l:List α} {m:List β},bY R l m->l.length=m.length
 |_,_,.nil=>rfl
 |_,_,.cons _ t=>by simp[t.length]
theorem bY.get{R:α->β->Prop}:∀{l:List α} {m:List β},bY R l m->∀(i:Nat) a,l[i]?=some a->∃ b,m[i]?=some b/\R a b
 |_,_,.nil,i,a,h=>by simp at h
 |_,_,.cons h t,0,a,e=>⟨_,rfl,by simp at e;exact e▸h⟩
 |_,_,.cons _ t,i+1,a,e=>by simpa using t.get i a (by simpa using e)
theorem bY.get'{R:α->β->Prop}:∀{l:List α} {m:List β},bY R l m->∀(i:Nat) b,m[i]?=some b->∃ a,l[i]?=some a/\R a b
 |_,_,.nil,i,a,h=>by simp at h
 |_,_,.cons h t,0,a,e=>⟨_,rfl,by simp at e;exact e▸h⟩
 |_,_,.cons _ t,i+1,a,e=>by simpa using t.get' i a (by simpa using e)
theorem bY.set{R:α->β->Prop}{a:α}{b:β}(h:R a b):∀{l:List α} {m:List β},bY R l m->∀(i:Nat),bY R (l.set i a) (m.set i b)
 |_,_,.nil,i=>by simpa using .nil
 |_,_,.cons _ t,0=>.cons h t
 |_,_,.cons k t,i+1=>.cons k (t.set h i)
theorem bY.append{R:α->β->Prop}:∀{l:List α} {m:List β},bY R l m->∀{l' m'},bY R l' m'->bY R (l++l') (m++m')
 |_,_,.nil,_,_,h=>h
 |_,_,.cons k t,_,_,h=>.cons k (t.append h)
theorem bY.take{R:α->β->Prop}:∀{l:List α} {m:List β},bY R l m->∀(n:Nat),bY R (l.take n) (m.take n)
 |_,_,.nil,n=>by simpa using .nil
 |_,_,.cons k t,0=>.nil
 |_,_,.cons k t,n+1=>.cons k (t.take n)
theorem bY.drop{R:α->β->Prop}:∀{l:List α} {m:List β},bY R l m->∀(n:Nat),bY R (l.drop n) (m.drop n)
 |_,_,.nil,n=>by simpa using .nil
 |_,_,.cons k t,0=>.cons k t
 |_,_,.cons k t,n+1=>t.drop n
theorem R1{v:i_}(h:pH v=true):flat v=true:=by cases v<;>first|exact h|(simp[pH,pG]at h)
theorem Yq{v:i_}(h:pG v=true):pH v=true:=by cases v<;>first|exact h|(simp[pG]at h)
theorem aHr{v:i_}(h:rq v=true):flat v=true:=by cases v<;>first|exact h|(simp[rq,pH,pG]at h)
theorem Yr{cs:p_}(h:flat (.agg cs)=true):∀ c∈cs.toList,flat c=true:=by simp only[flat,rq,bB]at h;exact λc hc=>R1 (h c hc)
theorem aHs{cs:p_}(h:flat (.tuple cs)=true):∀ c∈cs.toList,flat c=true:=by simp only[flat,bB]at h;exact λc hc=>aHr (h c hc)
theorem Ys{f:Fn}{fi ca:p_}(h:flat (.func f fi ca)=true):(∀ c∈fi.toList,flat c=true)/\(∀ c∈ca.toList,flat c=true):=by simp only[flat,rq,pH,de,bB]at h;exact⟨λc hc=>R1 (Yq (h.1 c hc)),λc hc=>R1 (Yq (h.2 c hc))⟩
abbrev ak:=List Value
variable{xs args ca cells' args' eW pre post:ak}
theorem k6{ι:Map}:∀{l:ak},(∀ c∈l,flat c=true)->bY (aL ι) l l
 |[],_=>.nil
 |c::l,h=>.cons (.same (h c (aR ..))) (k6 λc hc=>h c (bI _ hc))
theorem aL.fD{v:i_}(h:aL ι v v')(hf:flat v=true):v'=v:=by
 suffices H:∀ v v',aL ι v v'->flat v=true->v'=v from H v v' h hf
 have hP:∀ v v',aL ι v v'->pG v=true->v'=v:=by
  intro v v' h hf;cases h with
  |same _=>rfl
  |_=>simp[pG,mX]at hf
 have uQ:∀(Q:Value->Bool),(∀ v v',aL ι v v'->Q v=true->v'=v)->∀ l l',bY (aL ι) l l'->(∀ c∈l,Q c=true)->l'=l:=by
  intro Q hQ l l' h;induction h with
  |nil=>intro _;rfl
  |cons h t ih=>
   intro hl;rw[hQ _ _ h (hl _ (aR ..)),ih λc hc=>hl c (bI _ hc)]
 have h0:∀ v v',aL ι v v'->pH v=true->v'=v:=by
  intro v v' h hf;cases h with
  |same _=>rfl
  |fn h1 h2=>
   simp only[pH,de,bB]at hf;rw[uQ pG hP _ _ h1 hf.1,uQ pG hP _ _ h2 hf.2]
  |_=>simp[pH,pG,mX]at hf
 have h1:∀ v v',aL ι v v'->rq v=true->v'=v:=by
  intro v v' h hf;cases h with
  |same _=>rfl
  |fn a b=>exact h0 _ _ (.fn a b) hf
  |agg h1=>
   simp only[rq,bB]at hf;rw[uQ pH h0 _ _ h1 hf]
  |_=>simp[rq,pH,pG,mX]at hf
 intro v v' h hf;cases h with
 |same _=>rfl
 |fn a b=>exact h0 _ _ (.fn a b) hf
 |agg a=>exact h1 _ _ (.agg a) hf
 |tup a=>
  simp only[flat,bB]at hf;rw[uQ rq h1 _ _ a hf]
 |_=>simp[flat,rq,pH,pG,mX]at hf
theorem aL.mono(hle:Map.le ι κ){v:i_}(h:aL ι v v'):aL κ v v':=by
 apply aL.rec (motive_1:=λv v' _=>aL κ v v') (motive_2:=λl l' _=>bY (aL κ) l l') (t:=h)
 case same=>intro v h;exact .same h
 case ptr=>intro k off b o cap h;exact .ptr (hle _ _ h)
 case slc=>intro k off b o n c c' cap h h1 h2;exact .slc (hle _ _ h) h1 h2
 case slcN=>intro k h;exact .slcN (hle _ _ h)
 case opq=>intro k v h h1 h2;exact .opq (hle _ _ h) h1 h2
 case fn=>intro f fi kg ca eg _ _ h1 h2;exact .fn h1 h2
 case agg=>intro cs cr _ h;exact .agg h
 case tup=>intro cs cr _ h;exact .tup h
 case nil=>exact .nil
 case cons=>intro a b l m _ _ h1 h2;exact .cons h1 h2
theorem ow(hle:Map.le ι κ){l l':ak}(h:bY (aL ι) l l'):bY (aL κ) l l':=h.imp λ_ _ _ h=>h.mono hle
def mY(a:Addr):Bool:=match a.spot with|some s=>Nat.beq s 7|none=>false
theorem Hi{a:Addr}(h:mY a=true):a.spot=some 7:=by
 unfold mY at h;split at h
 ·rename_i s hs;rw[hs,R2 h]
 ·cases h
theorem R3{a:Addr}(h:mY a=true):mX a=false:=by unfold mX;rw[Hi h]
theorem aL.xa{a:Addr}(h:aL ι (.pointer (some a)) v')(ho:mY a=true):∃ b o cap,ι a.block=some (.at b o cap)/\v'=.pointer (some ⟨b,o+a.off,none⟩):=by
 cases h with
 |same hf=>simp[flat,rq,pH,pG,R3 ho]at hf
 |ptr hb=>exact⟨_,_,_,hb,rfl⟩
 |opq _ _ _=>cases ho
theorem aL.iC{a:Addr}{n c:Nat}(h:aL ι (.slice (some a) n c) v')(ho:mY a=true):
  (ι a.block=some .nil/\n=0/\c=0/\a.off=0/\v'=.slice none 0 0)\/∃ b o cap c',ι a.block=some (.at b o cap)/\n<=c'/\c+c'=cap/\v'=.slice (some ⟨b,o+a.off,none⟩) n c':=by
 cases h with
 |same hf=>simp[flat,rq,pH,pG,R3 ho]at hf
 |slc hb h1 h2=>exact .inr ⟨_,_,_,_,hb,h1,h2,rfl⟩
 |slcN hb=>exact .inl ⟨hb,rfl,rfl,rfl,rfl⟩
theorem aL.bool{b:Bool}(h:aL ι (.bool b) v'):v'=.bool b:=h.fD rfl
theorem aL.uR{vs:p_}(h:aL ι (.tuple vs) v'):∃ cV,v'=.tuple cV/\bY (aL ι) vs.toList cV.toList:=by
 cases h with
 |same hf=>exact⟨vs,rfl,k6 (aHs hf)⟩
 |tup h=>exact⟨_,rfl,by simpa using h⟩
theorem aL.Hj{vs:p_}(h:aL ι (.agg vs) v'):∃ cV,v'=.agg cV/\bY (aL ι) vs.toList cV.toList:=by
 cases h with
 |same hf=>exact⟨vs,rfl,k6 (Yr hf)⟩
 |agg h=>exact⟨_,rfl,by simpa using h⟩
theorem aL.Bb{f:Fn}{fi ca:p_}(h:aL ι (.func f fi ca) v'):∃ kg eg,v'=.func f kg eg/\bY (aL ι) fi.toList kg.toList/\bY (aL ι) ca.toList eg.toList:=by
 cases h with
 |same hf=>exact⟨fi,ca,rfl,k6 (Ys hf).1,k6 (Ys hf).2⟩
 |fn h1 h2=>exact⟨_,_,rfl,by simpa using h1,by simpa using h2⟩
theorem aL.cells{ι:Map}{v v':i_}(h:aL ι v v'):bY (aL ι) v.cells.toList v'.cells.toList:=by
 cases h with
 |same hf=>
  apply k6;cases v<;>first|(intro c hc;simp[Value.cells]at hc;subst hc;exact hf)|exact Yr hf
 |ptr hb=>exact .cons (.ptr hb) .nil
 |slc hb h1 h2=>exact .cons (.slc hb h1 h2) .nil
 |slcN hb=>exact .cons (.slcN hb) .nil
 |opq hb h1 h2=>rw[h1];exact .cons (.opq hb h1 h2) .nil
 |fn a b=>exact .cons (.fn a b) .nil
 |agg h=>simpa[Value.cells]using h
 |tup h=>exact .cons (.tup h) .nil
theorem aL.Yt{v:i_}(h:aL ι v v'):v'.oneCell'=v.oneCell':=by
 cases h with
 |opq _ _ h=>rw[h];rfl
 |_=>rfl
def Hk:Value:=.tuple #[.tuple #[]]
def mZ:Value->Bool
 |.tuple vs=>match vs.toList with|[.tuple us]=>Nat.beq us.size 0|_=>false
 |_=>false
def nO(ι:Map)(v v':i_):Prop:=mZ v=true\/aL ι v v'
theorem nO.Bc{v:i_}(h:nO ι v v')(hn:mZ v=false):aL ι v v':=by
 rcases h with h|h
 ·rw[hn]at h;cases h
 ·exact h
theorem nO.mono(hle:Map.le ι κ){v:i_}(h:nO ι v v'):nO κ v v':=h.imp id (aL.mono hle)
def tT(w w':h_):Prop:=w'.os=w.os/\w.drawn<=w'.drawn
theorem tT.refl(w:h_):tT w w:=⟨rfl,bF _⟩
theorem tT.trans{a b c:h_}(h:tT b c)(k:tT a b):tT a c:=⟨h.1.trans k.1,dh k.2 h.2⟩
structure Below(B:Nat)(w w':h_):Prop where
 os:tT w w'
 tape:w'.tape=w.tape
 output:w'.output=w.output
 size:w.heap.size<=w'.heap.size
 block:∀ k,k<B->w'.heap[k]?=w.heap[k]?
theorem Below.M4{B:Nat}(h:Below B w w'):Go.RowKit.Below B w w':=⟨h.os.1,h.tape,h.output,h.size,h.block⟩
theorem Below.refl(B:Nat)(w:h_):Below B w w:=⟨.refl w,rfl,rfl,bF _,λ_ _=>rfl⟩
theorem Below.cell{B:Nat}(h:Below B w w'){p:Addr}(hp:p.block<B):w'.cell? p=w.cell? p:=h.M4.cell hp
theorem Below.alloc{B:Nat}{a:h_}(h:Below B a w)(hB:B<=w.heap.size)(o:Go.Obj):Below B a (w.alloc o):=
 have k:=h.M4.alloc hB o
 ⟨⟨k.os,h.os.2⟩,k.tape,k.output,k.size,k.block⟩
structure Fact where
 G:Value->World->Prop
 cW:Value->World->Nat->Prop
 lt:∀ v w k,G v w->cW v w k->k<w.heap.size
 dep:∀ v w w',G v w->w.heap.size<=w'.heap.size->(∀ k,cW v w k->w'.heap[k]?=w.heap[k]?)->G v w'/\∀ k,cW v w' k->cW v w k
 rc:Bool:=false
 soft:rc=false->∀ v w w',G v w->w.heap.size<=w'.heap.size->(∀ k,cW v w k->∀ cs ty f,w.heap[k]?=some (Go.Obj.cells cs ty f)->w'.heap[k]?=some (Go.Obj.cells cs ty f))->G v w'/\∀ k,cW v w' k->cW v w k
structure aa where
 G:World->Prop
 cW:Nat->Prop
 ds:List Deferred:=[]
 Fa:Fact->Prop:=λ_=>False
 mp:Map:=λ_=>none
 lt:∀ w k,G w->cW k->k<w.heap.size
 dep:∀ w w',G w->tT w w'->w'.tape=w.tape->w'.output=w.output->w.heap.size<=w'.heap.size->(∀ k,cW k->w'.heap[k]?=w.heap[k]?)->G w'
variable{B Bs:aa}
def aa.at(w0:h_):aa where
 G w:=Below w0.heap.size w0 w
 cW k:=k<w0.heap.size
 lt w k h hk:=cF hk h.size
 dep w w' h h1 h2 h3 h4 h5:=⟨h1.trans h.os,h2.trans h.tape,h3.trans h.output,dh h.size h4,λk hk=>(h5 k hk).trans (h.block k hk)⟩
inductive Obj where
 |aK (cells:ak) (ty:TypeId)
 |row (cells:ak) (ty:TypeId) (size:Nat)
 |view (cells:ak)
 |fact (F:Fact)
 |dead
variable{c:Nat->Option Obj}{need:List (Nat×Option Obj)}
def Obj.owns:Obj->Bool
 |.aK _ _=>true
 |.row _ _ _=>true
 |_=>false
def jV(ι:Map)(w:h_)(l:pI):Obj->Prop
 |.aK cells ty=>∃ b cr,l=.at b 0 0/\bY (aL ι) cells cr/\w.heap[b]?=some (.cells cr.toArray ty (0,0))
 |.row cells ty size=>(l=.nil/\cells=[])\/∃ b cap cur,l=.at b 0 cap/\w.heap[b]?=some (.cells cur ty (0,0))/\cap<=maxLen/\cur.size=cap*size/\bY (aL ι) cells (cur.toList.take cells.length)
 |.view cells=>(l=.nil/\cells=[])\/∃ b o cap cr,l=.at b o cap/\bY (aL ι) cells cr/\∀ j u,cr[j]?=some u->w.cell? ⟨b,o+j,none⟩=some u
 |.fact F=>∃ v,l=.val v/\F.G v w
 |.dead=>True
def Obj.kh:Obj->Bool
 |.view _=>true
 |_=>false
structure aO(B:aa)(ι:Map)(c:Nat->Option Obj)(w:h_):Prop where
 base:B.G w
 dE:∀ k,c k=none->ι k=none
 born:∀ k x,c k=some x->∃ l,ι k=some l/\jV ι w l x
 own:∀ k x b o cap,c k=some x->x.owns=true->ι k=some (.at b o cap)->b<w.heap.size/\¬B.cW b
 inj:∀ k j x y b o cap o' aQ,c k=some x->x.owns=true->c j=some y->y.owns=true->ι k=some (.at b o cap)->ι j=some (.at b o' aQ)->k=j
 apart:∀ k j x F b o cap v,c k=some x->x.owns=true->ι k=some (.at b o cap)->c j=some (.fact F)->ι j=some (.val v)->¬F.cW v w b
 seen:∀ k x b o cap,c k=some x->x.kh=true->ι k=some (.at b o cap)->b<w.heap.size/\∀ j y o' aQ,c j=some y->y.owns=true->ι j≠some (.at b o' aQ)
 fa:∀ j F,c j=some (.fact F)->F.rc=true->B.Fa F
 one:∀ j k F F',c j=some (.fact F)->c k=some (.fact F')->F.rc=true->F'.rc=true->j=k
 oT:Map.le B.mp ι
theorem jV.mono(hle:Map.le ι κ){l:pI}{x:Obj}(h:jV ι w l x):jV κ w l x:=by
 cases x with
 |aK cells ty=>obtain⟨b,cr,h1,h2,h3⟩:=h;exact⟨b,cr,h1,ow hle h2,h3⟩
 |row cells ty size=>
  rcases h with h|⟨b,cap,cur,h1,h2,h3,h4,h5⟩
  ·exact .inl h
  ·exact .inr ⟨b,cap,cur,h1,h2,h3,h4,ow hle h5⟩
 |view cells=>
  rcases h with h|⟨b,o,cap,cr,h1,h2,h3⟩
  ·exact .inl h
  ·exact .inr ⟨b,o,cap,cr,h1,ow hle h2,h3⟩
 |fact F=>exact h
 |dead=>trivial
theorem jV.jJ{l:pI}{x:Obj}(h:jV ι w l x)(hs:w.heap.size<=w'.heap.size)
  (hb:∀ b o cap,x.owns=true\/x.kh=true->l=.at b o cap->w'.heap[b]?=w.heap[b]?) (hf:∀ F v b,x=.fact F->l=.val v->F.cW v w b->w'.heap[b]?=w.heap[b]?):jV ι w' l x:=by
 cases x with
 |aK cells ty=>obtain⟨b,cr,h1,h2,h3⟩:=h;exact⟨b,cr,h1,h2,by rw[hb b 0 0 (.inl rfl) h1];exact h3⟩
 |row cells ty size=>
  rcases h with h|⟨b,cap,cur,h1,h2,h3,h4,h5⟩
  ·exact .inl h
  ·exact .inr ⟨b,cap,cur,h1,by rw[hb b 0 cap (.inl rfl) h1];exact h2,h3,h4,h5⟩
 |view cells=>
  rcases h with h|⟨b,o,cap,cr,h1,h2,h3⟩
  ·exact .inl h
  ·exact .inr ⟨b,o,cap,cr,h1,h2,λj u hj=>by rw[World.cell?_of_block (w:=w) (w':=w') (a:=⟨b,o+j,none⟩) (hb b o cap (.inr rfl) h1)];exact h3 j u hj⟩
 |fact F=>obtain⟨v,h1,h2⟩:=h;exact⟨v,h1,(F.dep v w w' h2 hs λk hk=>hf F v k rfl h1 hk).1⟩
 |dead=>trivial
theorem jV.xb{l:pI}{F:Fact}{v:i_}(h:jV ι w l (.fact F))(hl:l=.val v)(hb:F.cW v w b):b<w.heap.size:=by obtain⟨v',h1,h2⟩:=h;rw[hl]at h1;injection h1 with h1;subst h1;exact F.lt _ w b h2 hb
theorem aO.CU(h:aO B ι c w){F:Fact}{v:i_}(hj:c j=some (.fact F))(hv:ι j=some (.val v))(hs:w.heap.size<=w'.heap.size)
  (Bd:∀ k,k<w.heap.size->F.cW v w k->w'.heap[k]?=w.heap[k]?) {b:Nat} (hF:F.cW v w' b):F.cW v w b:=by
 obtain⟨l,q1,v',q2,q3⟩:=h.born j _ hj;rw[hv]at q1;injection q1 with q1;subst q1;injection q2 with q2;subst q2;exact(F.dep v w w' q3 hs λk hk=>Bd k (F.lt v w k q3 hk) hk).2 b hF
theorem aO.call(h:aO B ι c w)(hb:Below w.heap.size w w'):aO B ι c w' where
 base:=B.dep w w' h.base hb.os hb.tape hb.output hb.size λk hk=>hb.block k (B.lt w k h.base hk)
 dE:=h.dE
 born k x hk:=by
  obtain⟨l,h1,h2⟩:=h.born k x hk;refine⟨l,h1,h2.jJ hb.size (λb o cap hx hl=>?_) λF v b hx hl hf=>?_⟩
  ·rcases hx with hx|hx
   ·exact hb.block b (h.own k x b o cap hk hx (by rw[h1,hl])).1
   ·exact hb.block b (h.seen k x b o cap hk hx (by rw[h1,hl])).1
  ·subst hx;exact hb.block b (h2.xb hl hf)
 own k x b o cap hk hx hl:=⟨cF (h.own k x b o cap hk hx hl).1 hb.size,(h.own k x b o cap hk hx hl).2⟩
 inj:=h.inj
 apart k j x F b o cap v hk hx hl hj hv hF:=h.apart k j x F b o cap v hk hx hl hj hv (h.CU hj hv hb.size (λk hk _=>hb.block k hk) hF)
 seen k x b o cap hk hx hl:=⟨cF (h.seen k x b o cap hk hx hl).1 hb.size,(h.seen k x b o cap hk hx hl).2⟩
 fa:=h.fa
 one:=h.one
 oT:=h.oT
def bt(c:Nat->Option Obj)(k:Nat)(x:Obj):Nat->Option Obj:=λj=>if j=k then some x else c j
def dR(ι:Map)(k:Nat)(l:pI):Map:=λj=>if j=k then some l else ι j
theorem gZ{l:pI}(h:ι k=none):Map.le ι (dR ι k l):=λj m e=>by
 unfold dR;by_cases hj:j=k
 ·subst hj;rw[h]at e;cases e
 ·rw[az hj];exact e
theorem fX(ι:Map)(k:Nat)(l:pI):dR ι k l k=some l:=by simp[dR]
theorem aO.add(h:aO B ι c w)(hk:c k=none){x:Obj}{l:pI}(hx:jV (dR ι k l) w l x)
  (dY:∀ b o cap,x.owns=true->l=.at b o cap->b<w.heap.size/\¬B.cW b/\(∀ j y o' aQ,c j=some y->y.owns=true->ι j≠some (.at b o' aQ))/\(∀ j F v,c j=some (.fact F)->ι j=some (.val v)->¬F.cW v w b)/\(∀ j y o' aQ,c j=some y->y.kh=true->ι j≠some (.at b o' aQ)))
  (JO:∀ F v b,x=.fact F->l=.val v->F.cW v w b->∀ j y o' aQ,c j=some y->y.owns=true->ι j≠some (.at b o' aQ))
  (aHt:∀ b o cap,x.kh=true->l=.at b o cap->b<w.heap.size/\∀ j y o' aQ,c j=some y->y.owns=true->ι j≠some (.at b o' aQ)) (qj:∀ F,x=.fact F->F.rc=true->(B.Fa F/\∀ j F',c j=some (.fact F')->F'.rc=false):=by intro F e;cases e):aO B (dR ι k l) (bt c k x) w:=by
 have ry:=h.dE k hk;have hle:=gZ (l:=l) ry;have da:∀ j y,j≠k->bt c k x j=some y->c j=some y:=λj y hj e=>by unfold bt at e;rw[az hj]at e;exact e
 have uT:∀ j m,j≠k->dR ι k l j=some m->ι j=some m:=λj m hj e=>by unfold dR at e;rw[az hj]at e;exact e
 have new:∀ y,bt c k x k=some y->y=x:=λy e=>by unfold bt at e;rw[aB rfl]at e;injection e with e;exact e.symm
 have mC:∀ m,dR ι k l k=some m->m=l:=λm e=>by rw[fX]at e;injection e with e;exact e.symm
 refine⟨h.base,?_,?_,?_,?_,?_,?_,?_,?_,h.oT.trans hle⟩
 ·intro j hj;unfold bt at hj;unfold dR;by_cases cg:j=k
  ·rw[aB cg]at hj;cases hj
  ·rw[az cg]at hj ⊢;exact h.dE j hj
 ·intro j y hj;by_cases cg:j=k
  ·subst cg;rw[new y hj];exact⟨l,fX _ _ _,hx⟩
  ·obtain⟨m,h1,h2⟩:=h.born j y (da j y cg hj);exact⟨m,hle _ _ h1,h2.mono hle⟩
 ·intro j y b o cap hj hy hl;by_cases cg:j=k
  ·subst cg;rw[new y hj]at hy;have:=dY b o cap hy (mC _ hl).symm;exact⟨this.1,this.2.1⟩
  ·exact h.own j y b o cap (da j y cg hj) hy (uT _ _ cg hl)
 ·intro i j y z b o cap o' aQ hi hy hj hz hl hm;by_cases fo:i=k<;>by_cases cg:j=k
  ·rw[fo,cg]
  ·exfalso;subst fo;rw[new y hi]at hy;exact(dY b o cap hy (mC _ hl).symm).2.2.1 j z o' aQ (da j z cg hj) hz (uT _ _ cg hm)
  ·exfalso;subst cg;rw[new z hj]at hz;exact(dY b o' aQ hz (mC _ hm).symm).2.2.1 i y o cap (da i y fo hi) hy (uT _ _ fo hl)
  ·exact h.inj i j y z b o cap o' aQ (da i y fo hi) hy (da j z cg hj) hz (uT _ _ fo hl) (uT _ _ cg hm)
 ·intro i j y F b o cap v hi hy hl hj hv hF;by_cases fo:i=k<;>by_cases cg:j=k
  ·subst fo;subst cg;have e:y=.fact F:=(new y hi).trans (new _ hj).symm;rw[e]at hy;cases hy
  ·subst fo;rw[new y hi]at hy;exact(dY b o cap hy (mC _ hl).symm).2.2.2.1 j F v (da j _ cg hj) (uT _ _ cg hv) hF
  ·subst cg;exact JO F v b (new _ hj).symm (mC _ hv).symm hF i y o cap (da i y fo hi) hy (uT _ _ fo hl)
  ·exact h.apart i j y F b o cap v (da i y fo hi) hy (uT _ _ fo hl) (da j _ cg hj) (uT _ _ cg hv) hF
 ·intro j y b o cap hj hy hl;by_cases cg:j=k
  ·subst cg;rw[new y hj]at hy;obtain⟨q1,q2⟩:=aHt b o cap hy (mC _ hl).symm;refine⟨q1,λi z o' aQ hi hz hm=>?_⟩;by_cases nh:i=j
   ·subst nh;rw[new z hi]at hz;cases x<;>simp[Obj.owns,Obj.kh]at hy hz
   ·exact q2 i z o' aQ (da i z nh hi) hz (uT _ _ nh hm)
  ·obtain⟨q1,q2⟩:=h.seen j y b o cap (da j y cg hj) hy (uT _ _ cg hl);refine⟨q1,λi z o' aQ hi hz hm=>?_⟩;by_cases fo:i=k
   ·subst fo;rw[new z hi]at hz;exact(dY b o' aQ hz (mC _ hm).symm).2.2.2.2 j y o cap (da j y cg hj) hy (uT _ _ cg hl)
   ·exact q2 i z o' aQ (da i z fo hi) hz (uT _ _ fo hm)
 ·intro j F hj;by_cases cg:j=k
  ·subst cg;exact λxc=>(qj F (new _ hj).symm xc).1
  ·exact h.fa j F (da j _ cg hj)
 ·intro i j F F' hi hj hr sD;by_cases fo:i=k<;>by_cases cg:j=k
  ·rw[fo,cg]
  ·subst fo;have:=(qj F (new _ hi).symm hr).2 j F' (da j _ cg hj);rw[sD]at this;cases this
  ·subst cg;have:=(qj F' (new _ hj).symm sD).2 i F (da i _ fo hi);rw[hr]at this;cases this
  ·exact h.one i j F F' (da i _ fo hi) (da j _ cg hj) hr sD
theorem aO.new(h:aO B ι c w)(hb:Below w.heap.size w w')(hk:c k=none){x:Obj}{l:pI}
  (hx:jV (dR ι k l) w' l x) (dY:∀ b o cap,x.owns=true->l=.at b o cap->w.heap.size<=b/\b<w'.heap.size)
  (JO:∀ F v b,x=.fact F->l=.val v->F.cW v w' b->w.heap.size<=b\/B.cW b) (qk:x.kh=false) (qj:∀ F,x=.fact F->F.rc=true->(B.Fa F/\∀ j F',c j=some (.fact F')->F'.rc=false):=by intro F e;cases e):aO B (dR ι k l) (bt c k x) w':=by
 refine(h.call hb).add hk hx (λb o cap ES hl=>?_) (λF v b Yu hl hF j y o' aQ hj hy he=>?_) (λb o cap hv=>by rw[qk]at hv;cases hv) qj
 ·obtain⟨h1,h2⟩:=dY b o cap ES hl;refine⟨h2,λhF=>by have:=B.lt w b h.base hF;omega,λj y o' aQ hj hy he=>?_,λj F v hj he hF=>?_,λj y o' aQ hj hy he=>?_⟩
  ·have:=(h.own j y b o' aQ hj hy he).1;omega
  ·have hF:=h.CU hj he hb.size (λk hk _=>hb.block k hk) hF;obtain⟨m,q1,q2⟩:=h.born j _ hj;rw[he]at q1;injection q1 with q1;have:=q2.xb q1.symm hF;omega
  ·have:=(h.seen j y b o' aQ hj hy he).1;omega
 ·have h1:=h.own j y b o' aQ hj hy he;rcases JO F v b Yu hl hF with h2|h2
  ·omega
  ·exact h1.2 h2
theorem aO.write(h:aO B ι c w){o:Nat}{x y:Obj}(hk:c k=some x)(hx:x.owns=true)(hl:ι k=some (.at b o cap))
  (hos:tT w w') (aHu:w'.tape=w.tape) (aHv:w'.output=w.output) (y8:w.heap.size<=w'.heap.size) (JP:∀ j,j<w.heap.size->j≠b->w'.heap[j]?=w.heap[j]?)
  (hy:jV ι w' (.at b o cap) y) (JQ:∀ F,y≠.fact F) (JR:y.kh=false):aO B ι (bt c k y) w':=by
 obtain⟨gn,Yv⟩:=h.own k x b o cap hk hx hl;have da:∀ j z,j≠k->bt c k y j=some z->c j=some z:=λj z hj e=>by unfold bt at e;rw[az hj]at e;exact e
 have new:∀ z,bt c k y k=some z->z=y:=λz e=>by unfold bt at e;rw[aB rfl]at e;injection e with e;exact e.symm
 refine⟨B.dep w w' h.base hos aHu aHv y8 λj hj=>JP j (B.lt w j h.base hj) λe=>Yv (e▸hj),?_,?_,?_,?_,?_,?_,?_,?_,h.oT⟩
 ·intro j hj;unfold bt at hj;by_cases cg:j=k
  ·rw[aB cg]at hj;cases hj
  ·rw[az cg]at hj;exact h.dE j hj
 ·intro j z hj;by_cases cg:j=k
  ·subst cg;rw[new z hj];exact⟨_,hl,hy⟩
  ·have fY:=da j z cg hj;obtain⟨m,h1,h2⟩:=h.born j z fY;refine⟨m,h1,h2.jJ y8 (λb' o' aQ hz hm=>?_) λF v b' hz hm hF=>?_⟩
   ·subst hm;rcases hz with hz|hz
    ·exact JP b' (h.own j z b' o' aQ fY hz h1).1 λe=>cg (h.inj j k z x b o' aQ o cap fY hz hk hx (e▸h1) hl)
    ·obtain⟨q1,q2⟩:=h.seen j z b' o' aQ fY hz h1;exact JP b' q1 λe=>q2 k x o cap hk hx (e▸hl)
   ·subst hz;subst hm;exact JP b' (h2.xb rfl hF) λe=>h.apart k j x F b o cap v hk hx hl fY h1 (e▸hF)
 ·intro j z b' o' aQ hj hz hm;by_cases cg:j=k
  ·subst cg;rw[hl]at hm;injection hm with hm;injection hm with c7 dI vR;subst c7;exact⟨cF gn y8,Yv⟩
  ·have:=h.own j z b' o' aQ (da j z cg hj) hz hm;exact⟨cF this.1 y8,this.2⟩
 ·intro i j z z' b' o1 lY o2 ql hi hz hj ox vS jr;by_cases fo:i=k<;>by_cases cg:j=k
  ·rw[fo,cg]
  ·subst fo;exact h.inj i j x z' b' o1 lY o2 ql hk hx (da j z' cg hj) ox vS jr
  ·subst cg;exact h.inj i j z x b' o1 lY o2 ql (da i z fo hi) hz hk hx vS jr
  ·exact h.inj i j z z' b' o1 lY o2 ql (da i z fo hi) hz (da j z' cg hj) ox vS jr
 ·intro i j z F b' o' aQ v hi hz hm hj hv hF;by_cases cg:j=k
  ·subst cg;exact absurd (new _ hj).symm (JQ F)
  ·have fY:=da j _ cg hj;have hF:=h.CU fY hv y8 (λk2 fO je=>JP k2 fO λe=>h.apart k j x F b o cap v hk hx hl fY hv (e▸je)) hF;by_cases fo:i=k
   ·subst fo;exact h.apart i j x F b' o' aQ v hk hx hm fY hv hF
   ·exact h.apart i j z F b' o' aQ v (da i z fo hi) hz hm fY hv hF
 ·intro j z b' o' aQ hj hz hm;by_cases cg:j=k
  ·subst cg;rw[new z hj,JR]at hz;cases hz
  ·obtain⟨q1,q2⟩:=h.seen j z b' o' aQ (da j z cg hj) hz hm;refine⟨cF q1 y8,λi z' o2 ql hi ox bJ=>?_⟩;by_cases fo:i=k
   ·subst fo;exact q2 i x o2 ql hk hx bJ
   ·exact q2 i z' o2 ql (da i z' fo hi) ox bJ
 ·intro j F hj;by_cases cg:j=k
  ·subst cg;exact absurd (new _ hj).symm (JQ F)
  ·exact h.fa j F (da j _ cg hj)
 ·intro i j F F' hi hj;by_cases fo:i=k
  ·subst fo;exact absurd (new _ hi).symm (JQ F)
  ·by_cases cg:j=k
   ·subst cg;exact absurd (new _ hj).symm (JQ F')
   ·exact h.one i j F F' (da i _ fo hi) (da j _ cg hj)
theorem aO.kill(h:aO B ι c w)(k:Nat)(hk:c k≠none):aO B ι (bt c k .dead) w:=by
 have da:∀ j z,j≠k->bt c k .dead j=some z->c j=some z:=λj z hj e=>by unfold bt at e;rw[az hj]at e;exact e
 have new:∀ z,bt c k .dead k=some z->z=.dead:=λz e=>by unfold bt at e;rw[aB rfl]at e;injection e with e;exact e.symm
 refine⟨h.base,?_,?_,?_,?_,?_,?_,?_,?_,h.oT⟩
 ·intro j hj;unfold bt at hj;by_cases cg:j=k
  ·rw[aB cg]at hj;cases hj
  ·rw[az cg]at hj;exact h.dE j hj
 ·intro j z hj;by_cases cg:j=k
  ·subst cg;rw[new z hj];cases hc:c j with
   |none=>exact absurd hc hk
   |some x=>obtain⟨l,h1,_⟩:=h.born j x hc;exact⟨l,h1,trivial⟩
  ·exact h.born j z (da j z cg hj)
 ·intro j z b o cap hj hz;by_cases cg:j=k
  ·subst cg;rw[new z hj]at hz;cases hz
  ·exact h.own j z b o cap (da j z cg hj) hz
 ·intro i j z z' b o1 c1 o2 c2 hi hz hj ox;by_cases fo:i=k
  ·subst fo;rw[new z hi]at hz;cases hz
  ·by_cases cg:j=k
   ·subst cg;rw[new z' hj]at ox;cases ox
   ·exact h.inj i j z z' b o1 c1 o2 c2 (da i z fo hi) hz (da j z' cg hj) ox
 ·intro i j z F b o cap v hi hz hl hj;by_cases fo:i=k
  ·subst fo;rw[new z hi]at hz;cases hz
  ·by_cases cg:j=k
   ·subst cg;cases new _ hj
   ·exact h.apart i j z F b o cap v (da i z fo hi) hz hl (da j _ cg hj)
 ·intro j z b o cap hj hz;by_cases cg:j=k
  ·subst cg;rw[new z hj]at hz;cases hz
  ·intro hl;obtain⟨q1,q2⟩:=h.seen j z b o cap (da j z cg hj) hz hl;refine⟨q1,λi z' o' aQ hi ox hm=>?_⟩;by_cases fo:i=k
   ·subst fo;rw[new z' hi]at ox;cases ox
   ·exact q2 i z' o' aQ (da i z' fo hi) ox hm
 ·intro j F hj;by_cases cg:j=k
  ·subst cg;cases new _ hj
  ·exact h.fa j F (da j _ cg hj)
 ·intro i j F F' hi hj;by_cases fo:i=k
  ·subst fo;cases new _ hi
  ·by_cases cg:j=k
   ·subst cg;cases new _ hj
   ·exact h.one i j F F' (da i _ fo hi) (da j _ cg hj)
theorem aO.ext{c':Nat->Option Obj}(h:aO B ι c w)(e:∀ k,c' k=c k):aO B ι c' w:=by have:c'=c:=funext e;rw[this];exact h
theorem aO.drew(h:aO B ι c w)(n:Nat)(hn:w.drawn<=n):aO B ι c { w with drawn:=n }:=
 h.call ⟨⟨rfl,hn⟩,rfl,rfl,bF _,λ_ _=>rfl⟩
def jf:ak->Nat->ak->ak
 |l,_,[]=>l
 |l,o,v::r=>jf (l.set o v) (o+1) r
theorem R4:∀(vs l:ak) (o:Nat),(jf l o vs).length=l.length
 |[],_,_=>rfl
 |v::r,l,o=>by rw[jf,R4 r];simp
theorem bY.jf{ι:Map}:∀{vs cV:ak},bY (aL ι) vs cV->∀{l l':ak},bY (aL ι) l l'->∀ o,bY (aL ι) (jf l o vs) (jf l' o cV)
 |_,_,.nil,_,_,h,_=>h
 |_,_,.cons hv hr,_,_,h,o=>hr.jf (h.set hv o) (o+1)
theorem Yw:∀(vs l:ak) (o n:Nat),o+vs.length<=n->(jf l o vs).take n=jf (l.take n) o vs
 |[],_,_,_,_=>rfl
 |v::r,l,o,n,h=>by simp only[qm]at h;rw[jf,jf,Yw r (l.set o v) (o+1) n o_,List.take_set]
theorem R5(b:Nat)(ty:TypeId)(fr:Nat×Nat):∀(vs cs:ak) (o:Nat) (w:h_),w.heap[b]?=some (.cells cs.toArray ty fr)->
  (w.setCells b o vs).heap[b]?=some (.cells (jf cs o vs).toArray ty fr)/\(∀ k,k≠b->(w.setCells b o vs).heap[k]?=w.heap[k]?)/\(w.setCells b o vs).heap.size=w.heap.size/\
   tT w (w.setCells b o vs)/\(w.setCells b o vs).tape=w.tape/\(w.setCells b o vs).output=w.output
 |[],cs,o,w,h=>⟨h,λ_ _=>rfl,rfl,.refl w,rfl,rfl⟩
 |v::r,cs,o,w,h=>by
  have h1:(w.setCell ⟨b,o,none⟩ v).heap[b]?=some (.cells (cs.set o v).toArray ty fr):=by simp only[World.setCell,Yx,rz,h,R6];simp
  obtain⟨a1,a2,a3,a4,a5,a6⟩:=R5 b ty fr r (cs.set o v) (o+1) _ h1;refine⟨a1,λk hk=>?_,?_,a4,a5,a6⟩
  ·rw[World.setCells,a2 k hk,Go.RowKit.Below.heap_setCell _ _ _ _ hk]
  ·rw[World.setCells,a3];simp[World.setCell]
def Obj.cells:Obj->ak
 |.aK cs _=>cs
 |.row cs _ _=>cs
 |.view cs=>cs
 |_=>[]
def Obj.M5:Obj->ak->Obj
 |.aK _ ty,cs=>.aK cs ty
 |.row _ ty s,cs=>.row cs ty s
 |x,_=>x
def Obj.reads(x:Obj):Bool:=x.owns||x.kh
theorem jV.at{ι:Map}{w:h_}{b o cap:Nat}{x:Obj}(h:jV ι w (.at b o cap) x)(hx:x.reads=true):
  ∃ cr:ak,bY (aL ι) x.cells cr/\∀ j u,cr[j]?=some u->w.cell? ⟨b,o+j,none⟩=some u:=by
 cases x with
 |aK cells ty=>
  obtain⟨b',cr,h1,h2,h3⟩:=h;injection h1 with h1 oU Yy;subst h1;subst oU;exact⟨cr,h2,λj u hj=>by simp[World.cell?,h3,hj]⟩
 |row cells ty size=>
  rcases h with h|⟨b',aQ,cur,h1,h2,h3,h4,h5⟩
  ·cases h.1
  ·injection h1 with h1 oU Yy;subst h1;subst oU;refine⟨_,h5,λj u hj=>?_⟩;rw[uU]at hj;split at hj
   ·have fY:cur[j]?=some u:=by simpa using hj
    simp[World.cell?,h2,fY]
   ·cases hj
 |view cells=>
  rcases h with h|⟨b',o',aQ,cr,h1,h2,h3⟩
  ·cases h.1
  ·injection h1 with h1 oU Yy;subst h1;subst oU;exact⟨cr,h2,h3⟩
 |fact F=>cases hx
 |dead=>cases hx
theorem aO.store(h:aO B ι c w){o:Nat}{x:Obj}{vs:ak}(hk:c k=some x)(hx:x.owns=true)(hb:ι k=some (.at b n2 cap))
  (hv:bY (aL ι) vs eW) (hle:o+vs.length<=x.cells.length) :
  n2=0/\aO B ι (bt c k (x.M5 (jf x.cells o vs))) (w.setCells b o eW)/\∃(cr:ak) (ty:TypeId),w.heap[b]?=some (.cells cr.toArray ty (0,0))/\o+vs.length<=cr.length:=by
 obtain⟨l,h1,h2⟩:=h.born k x hk;rw[hb]at h1;injection h1 with h1;subst h1;cases x with
 |aK cells ty=>
  obtain⟨b',cr,q1,q2,q3⟩:=h2;injection q1 with q1 Be R7;subst q1;subst Be;subst R7;obtain⟨a1,a2,a3,a4,a5,a6⟩:=R5 b ty (0,0) eW cr o w q3;exact⟨rfl,h.write hk hx hb a4 a5 a6 (vT a3.symm) (λj _ hj=>a2 j hj) ⟨b,_,rfl,hv.jf q2 o,a1⟩ n_ rfl,cr,ty,q3,by rw[<-q2.length];exact hle⟩
 |row cells ty size=>
  rcases h2 with h2|⟨b',aQ,cur,q1,q2,q3,q4,q5⟩
  ·cases h2.1
  ·injection q1 with q1 Be R7;subst q1;subst Be;subst R7;obtain⟨a1,a2,a3,a4,a5,a6⟩:=R5 b ty (0,0) eW cur.toList o w (by simpa using q2);have uV:o+eW.length<=cells.length:=by rw[<-hv.length];exact hle
   have iD:cells.length<=cur.toList.length:=by have:=q5.length;rw[jK]at this;omega
   refine⟨rfl,h.write hk hx hb a4 a5 a6 (vT a3.symm) (λj _ hj=>a2 j hj) (.inr ⟨b,cap,_,rfl,a1,q3,by simp[R4,q4],?_⟩) n_ rfl,cur.toList,ty,by simpa using q2,?_⟩
   ·rw[R4];show bY (aL ι) (jf cells o vs) (List.take cells.length (jf cur.toList o eW));rw[Yw _ _ _ _ uV];exact hv.jf q5 o
   ·rw[hv.length];omega
 |view cells=>cases hx
 |fact F=>cases hx
 |dead=>cases hx
abbrev aM:=List (Nat×Obj)
variable{M ms:aM}
def lZ(c:Nat->Option Obj):aM->Nat->Option Obj
 |[]=>c
 |(k,x)::l=>bt (lZ c l) k x
def iM(P:j_)(B:aa)(o:Oper)(eW:ak)(need:List (Nat×Option Obj))(val:i_)(cZ:aM):Prop:=
 ∀(ι:Map) (c:Nat->Option Obj) (ρ:Operand->Value) (w:h_),bY (aL ι) eW (o.op.operands.toList.map ρ)->aO B ι c w->(∀ p∈need,c p.1=p.2)->
  ∃ aA v' w',Map.le ι aA/\aL aA val v'/\aO B aA (lZ c cZ) w'/\((execOp ρ o).run P w=.ok (.value v') w'\/(v'=undef/\(execOp ρ o).run P w=.ok .skip w'))
def FW(R:Option Nat):Fence:={ fn:=λ_=>True,depth:=none,alive:=false,round:=R }
theorem Yz{ρ:Operand->Value}{n:Next}(h:(execOp ρ o).run P w=.ok n w')(hn:∀ d,n≠.defer d):∀ c,o.op≠.defer c:=by
 intro c hc;have e:execOp ρ o=(do let d <-resolve ρ c o.type;pure (.defer d)):=by unfold execOp;rw[hc]
 rw[e,JS]at h;cases hr:(resolve ρ c o.type).run P w with
 |ok d w1=>rw[hr]at h;injection h with h _;exact hn d h.symm
 |halt x w1=>rw[hr]at h;cases h
def cI(P:j_)(B:aa)(o:Oper)(eW:ak)(need:List (Nat×Option Obj))(val:i_)(cZ:aM):Prop:=
 ∀(R:Option Nat) (ι:Map) (c:Nat->Option Obj) (a:Act) (w:h_),bY (aL ι) eW (o.op.operands.toList.map a.eval)->aO B ι c w->(∀ p∈need,c p.1=p.2)->
  ∀(K:Act->World->Prop) (Q:Exit->Act->World->Prop),(∀ aA v' w',Map.le ι aA->aL aA val v'->aO B aA (lZ c cZ) w'->K (a.put o.dst v') w')->o.wpIn (FW R) 0 P a w K Q
theorem iM.step{val:i_}{cZ:aM}(h:iM P B o eW need val cZ):cI P B o eW need val cZ:=by
 intro R ι c a w hv hm hn K Q hK;refine⟨λ_ _=>trivial,?_⟩;obtain⟨aA,v',w',h1,h2,h3,h4|⟨h4,h5⟩⟩:=h ι c a.eval w hv hm hn
 ·rw[M6 _ _ _ (Yz h4 n_),h4,Oper.uponIn_value];exact hK aA v' w' h1 h2 h3
 ·rw[M6 _ _ _ (Yz h5 n_),h5,Oper.uponIn_skip];subst h4;exact hK aA undef w' h1 h2 h3
section
variable{P:j_}{B:aa}{o:Oper}
theorem nP{R:α->β->Prop}{a:α}{m:List β}(h:bY R [a] m):∃ b,m=[b]/\R a b:=by cases h with|cons h t=>cases t;exact⟨_,rfl,h⟩
theorem js{R:α->β->Prop}{a a2:α}{m:List β}(h:bY R [a,a2] m):∃ b b2,m=[b,b2]/\R a b/\R a2 b2:=by cases h with|cons h t=>obtain⟨b2,rfl,h2⟩:=nP t;exact⟨_,_,rfl,h,h2⟩
def dM(P:j_)(t:TypeId)(cells:ak)(off:Nat):Option Value:=
 match P.underlying t,P.info? t with
 |some d,some i=>
  if d.isRow then(if Nat.ble (off+i.size) cells.length then some (.agg ((cells.drop off).take i.size).toArray)else none)
  else cells[off]?
 |_,_=>none
def fp(P:j_)(t:TypeId)(cells:ak)(off:Nat)(v:i_):Option ak:=
 match P.info? t with
 |some i=>if Nat.beq i.size v.cells.size&&Nat.ble (off+v.cells.size) cells.length&&v.cells.toList.all (·.oneCell')then some (jf cells off v.cells.toList)else none
 |none=>none
theorem YA(hm:aO B ι c w){x:Obj}{t:TypeId}{v:i_}
  (hk:c k=some x) (hx:x.reads=true) (hv:dM P t x.cells off=some v) (hc:aL ι (.pointer (some ⟨k,off,some 7⟩)) u) :
  ∃ v' a',u=.pointer (some a')/\aL ι v v'/\(loadVar t a').run P w=.ok v' w:=by
 obtain⟨b,o,cap,hb,he⟩:=hc.xa rfl;dsimp only at hb he;obtain⟨l,h1,h2⟩:=hm.born k x hk;rw[hb]at h1;injection h1 with h1;subst h1;obtain⟨cr,fZ,lD⟩:=h2.at hx;unfold dM at hv;split at hv
 ·rename_i d i hd hi;split at hv
  ·rename_i jL;split at hv
   ·rename_i YB;have YB:=sE YB;have hlen:=fZ.length;injection hv with hv;refine⟨.agg ((cr.drop off).take i.size).toArray,⟨b,o+off,none⟩,he,by rw[<-hv];exact .agg ((fZ.drop _).take _),?_⟩;exact run_loadVar_mid (P:=P) w b (o+off) t ((cr.drop off).take i.size) d (λj u hj=>by
      rw[uU]at hj;split at hj
      ·rw[Hl]at hj;rw[uW];exact lD _ _ hj
      ·cases hj) hd jL (by rw[hi];simp;omega)
   ·cases hv
  ·rename_i jL;obtain⟨u',pJ,R8⟩:=fZ.get _ _ hv;refine⟨u',⟨b,o+off,none⟩,he,R8,?_⟩;have aHw:(isAgg t).run P w=.ok false w:=by unfold isAgg;rw[JS,jM hd w];cases d<;>first|rfl|(simp[TypeDesc.isRow]at jL)
   simp[loadVar,JS,aHw,load,Sem.run,lD _ _ pJ]
 ·cases hv
theorem YC{t:TypeId}{x:m_}(ho:o.op=.load t x){y:Obj}{v:i_}(hx:y.reads=true)(hv:dM P t y.cells off=some v):
  iM P B o [.pointer (some ⟨k,off,some 7⟩)] [(k,some y)] v []:=by
 intro ι c ρ w aU hm hn;rw[ho]at aU;obtain⟨u,hu,hc⟩:=nP aU;have hu:ρ x=u:=by simpa[Op.operands]using hu
 obtain⟨v',a',e,kA,qo⟩:=YA hm (hn _ (aR ..)) hx hv hc;refine⟨ι,v',w,Map.le.refl _,kA,hm,.inl ?_⟩;simp only[execOp,ho,hu,e,Instr.loadAt,Instr.sureAddr];simp[qo]
theorem YD{t:TypeId}{x y:m_}(ho:o.op=.store t x y){z:Obj}{v:i_}{cs:ak}(hx:z.owns=true)(hv:fp P t z.cells off v=some cs):
  iM P B o [.pointer (some ⟨k,off,some 7⟩),v] [(k,some z)] undef [(k,z.M5 cs)]:=by
 intro ι c ρ w aU hm hn;rw[ho]at aU;obtain⟨u,u2,hu,hc,hy⟩:=js aU;have dS:ρ x=u:=by simp[Op.operands]at hu;exact hu.1
 have e8:ρ y=u2:=by simp[Op.operands]at hu;exact hu.2
 have hk:c k=some z:=hn _ (aR ..);obtain⟨b,oo,cap,hb,he⟩:=hc.xa rfl;dsimp only at hb he;unfold fp at hv;split at hv
 ·rename_i i hi;split at hv
  ·rename_i qp;injection hv with hv;simp only[de,bB]at qp;obtain⟨⟨bH,hle⟩,ET⟩:=qp;have bH:=R2 bH;have hle:=sE hle;have Hm:=hy.cells.length;simp only[y9]at Hm;obtain⟨h0,bT,cr,ty,mD,uV⟩:=hm.store hk hx hb hy.cells (o:=off) (by simpa using hle);subst h0;rw[kB]at he;refine⟨ι,undef,w.setCells b off u2.cells.toList,Map.le.refl _,.same rfl,by rw[<-hv];exact bT,.inr ⟨rfl,?_⟩⟩
   have run:=run_storeCells_cells (P:=P) b off u2.cells.toList 0 w
     (λj hj=>by
      simp at hj;simp only[y9]at uV;have:j+off<cr.length:=by omega
      simp[World.cell?,mD];omega)
     (λj hj=>by simp[World.frozen?,mD])
     (λv1 kC=>by
      obtain⟨j,hj⟩:=YE kC;have al:j<v.cells.toList.length:=by
       have:j<u2.cells.toList.length:=by
        rcases e9 j u2.cells.toList.length with h|h
        ·exact h
        ·rw[Bf h]at hj;cases hj
       rw[hy.cells.length];exact this
      obtain⟨v',rC,tU⟩:=hy.cells.get j _ (aW al);rw[hj]at rC;injection rC with rC;rw[rC,tU.Yt];exact ET _ (df al))
   simp only[jg]at run;simp only[execOp,ho,dS,he,e8,Instr.storeAt,Instr.sureAddr];simp[storeVar,sizeOf,typeInfo,hi,bH,<-Hm,run]
  ·cases hv
 ·cases hv
theorem YF{x:m_}(ho:o.op=.move x\/o.op=.assign x){v:i_}:iM P B o [v] [] v []:=by
 intro ι c ρ w aU hm hn;have zf:o.op.operands=#[x]:=by rcases ho with ho|ho<;>rw[ho]<;>rfl
 rw[zf]at aU;obtain⟨u,hu,hc⟩:=nP aU;have hu:ρ x=u:=by simpa using hu
 refine⟨ι,u,w,Map.le.refl _,hc,hm,.inl ?_⟩;rcases ho with ho|ho<;>simp[execOp,ho,hu]
theorem JT{R:α->β->Prop}{a a2 a3:α}{m:List β}(h:bY R [a,a2,a3] m):∃ b b2 b3,m=[b,b2,b3]/\R a b/\R a2 b2/\R a3 b3:=by cases h with|cons h t=>obtain⟨b2,b3,rfl,h2,h3⟩:=js t;exact⟨_,_,_,rfl,h,h2,h3⟩
theorem aHx{x y z:m_}(ho:o.op=.pick x y z){b:Bool}{v1 v2:i_}:iM P B o [.bool b,v1,v2] [] (if b then v1 else v2) []:=by
 intro ι c ρ w aU hm hn;rw[ho]at aU;obtain⟨u0,u1,u2,hu,h0,h1,h2⟩:=JT aU;simp[Op.operands]at hu;obtain⟨e0,e1,e2⟩:=hu;have h0:=h0.bool;cases b
 ·exact⟨ι,u2,w,Map.le.refl _,h2,hm,.inl (by simp[execOp,ho,e0,e1,e2,h0,asBool])⟩
 ·exact⟨ι,u1,w,Map.le.refl _,h1,hm,.inl (by simp[execOp,ho,e0,e1,e2,h0,asBool])⟩
theorem YG(hm:aO B ι c w)(hk:c k=none)(cs cr:ak)(ty:TypeId)(hc:bY (aL ι) cs cr):
  aO B (dR ι k (.at w.heap.size 0 0)) (bt c k (.aK cs ty)) (w.alloc (.cells cr.toArray ty (0,0))):=by
 have hle:=gZ (l:=.at w.heap.size 0 0) (hm.dE k hk)
 exact hm.new (w':=w.alloc (.cells cr.toArray ty (0,0))) (x:=.aK cs ty) (l:=.at w.heap.size 0 0) ⟨⟨rfl,bF _⟩,rfl,rfl,by simp,λj hj=>R9 _ _ _ hj⟩ hk
  ⟨_,cr,rfl,ow hle hc,by show(w.heap.push _)[w.heap.size]?=_;simp⟩ (λb o cap _ e=>by injection e with e1 e2;subst e1;simp) n_ rfl
theorem aHy{t:TypeId}(ho:o.op=.alloc t){i:TypeInfo}{z:i_}(hi:P.info? t=some i)(hz:i.zero=some z)(hf:flat z=true)(k:Nat):
  iM P B o [] [(k,none)] (.pointer (some ⟨k,0,some 7⟩)) [(k,.aK z.cells.toList t)]:=by
 intro ι c ρ w aU hm hn;have hk:c k=none:=hn _ (aR ..);refine⟨_,.pointer (some ⟨w.heap.size,0,none⟩),_,gZ (hm.dE k hk),.ptr (o:=0) (off:=0) (fX _ _ _),YG hm hk z.cells.toList z.cells.toList t ((aL.same hf:aL ι z z).cells),.inl ?_⟩;simp[execOp,ho,Instr.alloc,zeroValue,typeInfo,hi,hz,newVar,newRow,newObj,Sem.run]
theorem aHz{t:TypeId}{x:m_}(ho:o.op=.box t x)(v:i_)(k:Nat):
  iM P B o [v] [(k,none)] (.pointer (some ⟨k,0,some 7⟩)) [(k,.aK v.cells.toList t)]:=by
 intro ι c ρ w aU hm hn;have hk:c k=none:=hn _ (aR ..);rw[ho]at aU;obtain⟨u,hu,hc⟩:=nP aU;have hu:ρ x=u:=by simpa[Op.operands]using hu
 refine⟨_,.pointer (some ⟨w.heap.size,0,none⟩),_,gZ (hm.dE k hk),.ptr (o:=0) (off:=0) (fX _ _ _),YG hm hk v.cells.toList u.cells.toList t hc.cells,.inl ?_⟩;simp[execOp,ho,hu,Instr.box,newVar,newRow,newObj,Sem.run]
theorem aHA{s:TypeId}{x:m_}{f:Nat}(ho:o.op=.fieldAddr s x f){fs:Array Field}{fd:Field}{i:TypeInfo}(hs:P.underlying s=some (.struct fs))(vU:fs[f]?=some fd)
  (hi:P.info? fd.type=some i) (bH:1<=i.size) (k off:Nat) :
  iM P B o [.pointer (some ⟨k,off,some 7⟩)] [] (.pointer (some ⟨k,off+fd.offset,some 7⟩)) []:=by
 intro ι c ρ w aU hm hn;rw[ho]at aU;obtain⟨u,hu,hc⟩:=nP aU;have hu:ρ x=u:=by simpa[Op.operands]using hu
 obtain⟨b,oo,cap,hb,he⟩:=hc.xa rfl;have bw:i.size≠0:=by omega
 refine⟨ι,.pointer (some ⟨b,oo+(off+fd.offset),none⟩),w,Map.le.refl _,.ptr hb,hm,.inl ?_⟩;simp only[execOp,ho,hu,he];simp[Instr.fieldAt,Instr.sureAddr,jM hs,vU,fieldPlace,sizeOf,typeInfo,hi,bw,zg,uW]
theorem aHB{t:TypeId}{x ix:m_}(ho:o.op=.indexAddr t x ix){e:TypeId}{i:TypeInfo}(ht:P.underlying t=some (.array len e))(hi:P.info? e=some i)
  {kd:IntKind} {n:Int} (h0:0<=n) (h1:n<len) (k off:Nat) :
  iM P B o [.pointer (some ⟨k,off,some 7⟩),.int kd n] [] (.pointer (some ⟨k,off+n.toNat*i.size,some 7⟩)) []:=by
 intro ι c ρ w aU hm hn;rw[ho]at aU;obtain⟨u,u2,hu,hc,hx⟩:=js aU;have dS:ρ x=u:=by simp[Op.operands]at hu;exact hu.1
 have e8:ρ ix=u2:=by simp[Op.operands]at hu;exact hu.2
 have hx:=hx.fD rfl;obtain⟨b,oo,cap,hb,he⟩:=hc.xa rfl;refine⟨ι,.pointer (some ⟨b,oo+(off+n.toNat*i.size),none⟩),w,Map.le.refl _,.ptr hb,hm,.inl ?_⟩;simp only[execOp,ho,dS,he,e8,hx];simp[Instr.indexAt,Instr.sureAddr,asIntOf,jM ht,sizeOf,typeInfo,hi,h0,h1,zg,uW]
theorem YH{t:TypeId}{x ix:m_}(ho:o.op=.indexAddr t x ix){e:TypeId}{i:TypeInfo}(ht:P.underlying t=some (.slice e))(hi:P.info? e=some i)
  {kd:IntKind} {n:Int} {len cc:Nat} (h0:0<=n) (h1:n<len) (k off:Nat) :
  iM P B o [.slice (some ⟨k,off,some 7⟩) len cc,.int kd n] [] (.pointer (some ⟨k,off+n.toNat*i.size,some 7⟩)) []:=by
 intro ι c ρ w aU hm hn;rw[ho]at aU;obtain⟨u,u2,hu,hc,hx⟩:=js aU;have dS:ρ x=u:=by simp[Op.operands]at hu;exact hu.1
 have e8:ρ ix=u2:=by simp[Op.operands]at hu;exact hu.2
 have hx:=hx.fD rfl;rcases hc.iC rfl with ⟨_,h,_⟩|⟨b,oo,cap,c',hb,_,_,he⟩
 ·omega
 ·refine⟨ι,.pointer (some ⟨b,oo+(off+n.toNat*i.size),none⟩),w,Map.le.refl _,.ptr hb,hm,.inl ?_⟩;simp only[execOp,ho,dS,he,e8,hx];simp[Instr.indexAt,asIntOf,jM ht,sizeOf,typeInfo,hi,h0,h1,zg,uW]
theorem aHC{x:m_}(ho:o.op=.extract x i){vs:p_}{v:i_}(hv:vs[i]?=some v):iM P B o [.tuple vs] [] v []:=by
 intro ι c ρ w aU hm hn;rw[ho]at aU;obtain⟨u,hu,hc⟩:=nP aU;have hu:ρ x=u:=by simpa[Op.operands]using hu
 obtain⟨cV,he,bh⟩:=hc.uR;obtain⟨v',rC,tU⟩:=bh.get i v (by simpa using hv);refine⟨ι,v',w,Map.le.refl _,tU,hm,.inl ?_⟩;have aHD:cV[i]?=some v':=by simpa using rC
 simp only[execOp,ho,hu,he];simp[Instr.extract,aHD]
theorem aHE{f:Fn}{fi ca:Array Operand}(ho:o.op=.makeFunc f fi ca){vs:ak}:iM P B o vs [] (.func f (vs.take fi.size).toArray (vs.drop fi.size).toArray) []:=by intro ι c ρ w aU hm hn;rw[ho]at aU;simp only[Op.operands,Array.toList_append,sF]at aU;have h1:=aU.take fi.size;have h2:=aU.drop fi.size;rw[Sa s_]at h1;rw[Sb s_]at h2;refine⟨ι,_,w,Map.le.refl _,.fn h1 h2,hm,.inl ?_⟩;simp[execOp,ho,Instr.makeFunc,<-Array.toList_map]
theorem aHF{t:TypeId}{x:m_}{e:TypeId}(ho:o.op=.call { callee:=.builtin .len,args:=#[x],argTypes:=#[t]})(ht:P.underlying t=some (.slice e))(k off n cc:Nat):
  iM P B o [.slice (some ⟨k,off,some 7⟩) n cc] [] (.int .i64 n) []:=by
 intro ι c ρ w aU hm hn;rw[ho]at aU;obtain⟨u,hu,hc⟩:=nP aU;have hu:ρ x=u:=by simpa[Op.operands,Call.operands]using hu
 refine⟨ι,.int .i64 n,w,Map.le.refl _,.same rfl,hm,.inl ?_⟩;rcases hc.iC rfl with ⟨_,h,_,_,he⟩|⟨b,oo,cap,c',hb,_,_,he⟩
 ·subst h;simp[execOp,ho,resolve,invoke,builtin,Builtin.len_,hu,he,jM ht,goInt]
 ·simp[execOp,ho,resolve,invoke,builtin,Builtin.len_,hu,he,jM ht,goInt]
def M7{α:Type}(P:j_):Sem α->Option α
 |.pure a=>some a
 |.program k=>M7 P (k P)
 |.mark _ k=>M7 P k
 |_=>none
theorem Sc{α:Type}{P:j_}:∀{e:Sem α} {a:α},M7 P e=some a->∀ w,e.run P w=.ok a w
 |.pure _,a,h,w=>by injection h with h;subst h;rfl
 |.program k,a,h,w=>by rw[Sem.run];exact Sc (e:=k P) h w
 |.mark _ k,a,h,w=>by rw[Sem.run];exact Sc (e:=k) h w
 |.load _ _ _,_,h,_=>by cases h
 |.store _ _ _ _,_,h,_=>by cases h
 |.new _ _,_,h,_=>by cases h
 |.shape _ _,_,h,_=>by cases h
 |.freeze _ _ _,_,h,_=>by cases h
 |.frozen _ _,_,h,_=>by cases h
 |.getObj _ _,_,h,_=>by cases h
 |.setObj _ _ _,_,h,_=>by cases h
 |.choose _ _,_,h,_=>by cases h
 |.sys _ _,_,h,_=>by cases h
 |.halt _,_,h,_=>by cases h
theorem nQ{l l':ak}(h:bY (aL ι) l l')(hf:∀ v∈l,flat v=true):l'=l:=by
 induction h with
 |nil=>rfl
 |cons h t ih=>rw[h.fD (hf _ (aR ..)),ih λv hv=>hf v (bI _ hv)]
theorem CV{val:i_}(Sd:∀ v∈eW,flat v=true)(hf:flat val=true)
  (h:∀ ρ:Operand->Value,o.op.operands.toList.map ρ=eW->∀ w,B.G w->(execOp ρ o).run P w=.ok (.value val) w):iM P B o eW [] val []:=by
 intro ι c ρ w aU hm hn;exact⟨ι,val,w,Map.le.refl _,.same hf,hm,.inl (h ρ (nQ aU Sd) w hm.base)⟩
end
section
variable{P:j_}{B:aa}{o:Oper}
def bound(x:Option Operand)(n:Nat):ak:=match x with|some _=>[.int .i64 n]|none=>[]
theorem aHG{t:TypeId}{x:m_}{lo hi:Option Operand}(ho:o.op=.slice t x lo hi none){e:TypeId}{i:TypeInfo}(ht:P.underlying t=some (.slice e))(Bg:P.info? e=some i)
  {k off n cc l h:Nat} (hl:lo=none->l=0) (hh:hi=none->h=n) (M8:l<=h) (YI:h<=n) (hz:l<h\/l=0) :
  iM P B o (.slice (some ⟨k,off,some 7⟩) n cc::(bound lo l++bound hi h)) [] (.slice (some ⟨k,off+l*i.size,some 7⟩) (h-l) (cc+l)) []:=by
 intro ι c ρ w aU hm hn;rw[ho]at aU;have hb:∀(x:Option Operand) (q:Nat),bY (aL ι) (bound x q) ((x.toArray).toList.map ρ)->∀ y,x=some y->ρ y=.int .i64 q:=by
  intro x q h y hy;subst hy;obtain⟨u,hu,hc⟩:=nP h;have hu:ρ y=u:=by simpa using hu
  rw[hu];exact hc.fD rfl
 have zf:(Op.operands (.slice t x lo hi none)).toList.map ρ=ρ x::(lo.toArray.toList.map ρ++hi.toArray.toList.map ρ):=by simp[Op.operands]
 rw[zf]at aU;cases aU with
 |cons hc sG=>
 have hlen:(bound lo l).length=(lo.toArray.toList.map ρ).length:=by cases lo<;>rfl
 have h1:bY (aL ι) (bound lo l) (lo.toArray.toList.map ρ):=by have:=sG.take (bound lo l).length;rwa[Se,hlen,Se]at this
 have h2:bY (aL ι) (bound hi h) (hi.toArray.toList.map ρ):=by have:=sG.drop (bound lo l).length;rwa[List.drop_left,hlen,List.drop_left]at this
 have eQ:∀ y,lo=some y->ρ y=.int .i64 l:=hb lo l h1;have iN:∀ y,hi=some y->ρ y=.int .i64 h:=hb hi h h2;have tV:∀(y:Nat) (q:Nat) (code:BoundsCode),q<=y->(Instr.sliceBound (.int .i64 q) y code).run P w=.ok q w:=by intro y q code hq;have:(0:Int)<=q/\(q:Int)<=y:=⟨by omega,by omega⟩;simp[Instr.sliceBound,asIntOf,this]
 have Sf:∀ cap,n<=cap->(Instr.sliceBounds true n cap (lo.map ρ) (hi.map ρ) none).run P w=.ok (l,h,cap) w:=by
  intro cap jW;cases lo with
  |none=>
   have:=hl rfl;subst this;cases hi with
   |none=>have:=hh rfl;subst this;simp[Instr.sliceBounds]
   |some y=>simp[Instr.sliceBounds,iN y rfl,tV cap h _ o_]
  |some x=>
   cases hi with
   |none=>have:=hh rfl;subst this;simp[Instr.sliceBounds,eQ x rfl,tV h l _ M8]
   |some y=>simp[Instr.sliceBounds,iN y rfl,eQ x rfl,tV cap h _ o_,tV h l _ M8]
 rcases hc.iC rfl with ⟨hb,kN,qt,zi,he⟩|⟨b,oo,cap,c',hb,k7,ni,he⟩
 ·dsimp only at zi;have hh0:h=0:=by omega
  have tW:l=0:=by omega
  subst kN;subst qt;subst zi;subst hh0;subst tW;refine⟨ι,.slice none 0 0,w,Map.le.refl _,by simpa using aL.slcN hb,hm,.inl ?_⟩;simp only[execOp,ho];simp[Instr.sliceAt,jM ht,Instr.slice,he,Sf 0 (bF _),sizeOf,typeInfo,Bg]
 ·refine⟨ι,.slice (some ⟨b,oo+(off+l*i.size),none⟩) (h-l) (c'-l),w,Map.le.refl _,.slc hb o_ o_,hm,.inl ?_⟩;simp only[execOp,ho];by_cases iD:c'=l
  ·have tW:l=0:=by omega
   simp[Instr.sliceAt,jM ht,Instr.slice,he,Sf c' k7,sizeOf,typeInfo,Bg,tW,zg,uW]
  ·simp[Instr.sliceAt,jM ht,Instr.slice,he,Sf c' k7,sizeOf,typeInfo,Bg,iD,zg,uW]
theorem YJ{t:TypeId}{x y:m_}(ho:o.op=.makeSlice t x y){e:TypeId}{i:TypeInfo}{z:i_}(ht:P.underlying t=some (.slice e))(hi:P.info? e=some i)(hz:i.zero=some z)
  {kl kc:IntKind} {l cp:Nat} (hlc:l<=cp) (CW:i.bytes*cp<=281474976710656) (h63:cp<=maxLen) {cells:ak} (jt:(madeCells z.cells (cp*i.size)).toList.take (l*i.size)=cells)
  (hlen:cells.length=l*i.size) (cR:∀ v∈cells,flat v=true) (k:Nat) :
  iM P B o [.int kl l,.int kc cp] [(k,none)] (.slice (some ⟨k,0,some 7⟩) l 0) [(k,.row cells e i.size)]:=by
 intro ι c ρ w aU hm hn;have hk:c k=none:=hn _ (aR ..);rw[ho]at aU;obtain⟨u,u2,hu,hc,hx⟩:=js aU;have dS:ρ x=u:=by simp[Op.operands]at hu;exact hu.1
 have e8:ρ y=u2:=by simp[Op.operands]at hu;exact hu.2
 have hc:=hc.fD rfl;have hx:=hx.fD rfl;have hle:=gZ (l:=.at w.heap.size 0 cp) (hm.dE k hk);have hr:=run_make (P:=P) w t e i z ht hi hz kl kc l cp o_ o_ (by
  have h:((i.bytes*cp:Nat):Int)<=281474976710656:=by omega
  rwa[oy]at h) (by have h:=h63;simp[maxLen]at h;omega)
 simp only[Int.toNat_natCast]at hr;refine⟨dR ι k (.at w.heap.size 0 cp),.slice (some ⟨w.heap.size,0,none⟩) l cp,w.alloc (.cells (madeCells z.cells (cp*i.size)) e),hle,.slc (o:=0) (off:=0) (fX _ _ _) hlc o_,?_,.inl ?_⟩
 ·refine hm.new (w':=w.alloc (.cells (madeCells z.cells (cp*i.size)) e)) (x:=.row cells e i.size) ⟨⟨rfl,bF _⟩,rfl,rfl,by simp,λj hj=>R9 _ _ _ hj⟩ hk
   (.inr ⟨w.heap.size,cp,_,rfl,by show(w.heap.push _)[w.heap.size]?=_;simp;rfl,h63,size_madeCells _ _,?_⟩) (λb o cap _ e=>by injection e with e1 e2;subst e1;simp) n_ rfl
  rw[hlen,jt];exact k6 cR
 ·simp only[execOp,ho,dS,e8,hc,hx];simp[hr]
def CX(B:aa)(sv:i_)(m:Nat)(news:ak)(need:List (Nat×Option Obj)):Prop:=
 ∀(ι:Map) (c:Nat->Option Obj) (w:h_) (u:i_),aO B ι c w->(∀ p∈need,c p.1=p.2)->aL ι sv u->
  (m=0/\news=[]/\u=.slice none 0 0)\/∃ ad c' mE,u=.slice (some ad) m c'/\bY (aL ι) news mE/\∀ j v,mE[j]?=some v->w.cell? (ad.add j)=some v
theorem M9{x:Obj}(hx:x.reads=true)(h0:m=0->len=0):CX B (.slice (some ⟨k,off,some 7⟩) m cc) m ((x.cells.drop off).take len) [(k,some x)]:=by
 intro ι c w u hm hn hc;have hk:c k=some x:=hn _ (aR ..);rcases hc.iC rfl with ⟨hb,kN,qt,zi,he⟩|⟨b,oo,cap,c',hb,k7,ni,he⟩
 ·refine .inl ⟨kN,?_,he⟩;rw[h0 kN];rfl
 ·dsimp only at hb he;obtain⟨l,h1,h2⟩:=hm.born k x hk;rw[hb]at h1;injection h1 with h1;subst h1;obtain⟨cr,fZ,lD⟩:=h2.at hx;refine .inr ⟨⟨b,oo+off,none⟩,c',_,he,(fZ.drop off).take len,λj v hj=>?_⟩;rw[uU]at hj;split at hj
  ·rw[Hl]at hj;rw[zg,uW];exact lD _ _ hj
  ·cases hj
theorem Hn(hm:aO B ι c w)(hk:c k=none){cells:ak}{rest:p_}(hc:bY (aL ι) cells cells')
  (jW:cap<=maxLen) (bH:cells'.length+rest.size=cap*size) :
  aO B (dR ι k (.at w.heap.size 0 cap)) (bt c k (.row cells ty size)) (w.alloc (.cells (cells'.toArray++rest) ty)):=by
 have hle:=gZ (l:=.at w.heap.size 0 cap) (hm.dE k hk)
 refine hm.new (w':=w.alloc (.cells (cells'.toArray++rest) ty)) (x:=.row cells ty size) ⟨⟨rfl,bF _⟩,rfl,rfl,by simp,λj hj=>R9 _ _ _ hj⟩ hk
  (.inr ⟨w.heap.size,cap,cells'.toArray++rest,rfl,by show(w.heap.push _)[w.heap.size]?=_;simp,jW,by simpa using bH,?_⟩) (λb o cap _ e=>by injection e with e1 e2;subst e1;simp) n_ rfl
 rw[hc.length,Array.toList_append];show bY _ _ (List.take cells'.length (cells'++rest.toList));rw[Se];exact ow hle hc
theorem aHH{l l':ak}(h:bY (aL ι) l l')(h1:∀ v∈l,v.oneCell'=true):∀ v∈l',v.oneCell'=true:=by intro v hv;obtain⟨j,hj⟩:=YE hv;obtain⟨u,hu,hc⟩:=h.get' j v hj;rw[hc.Yt];exact h1 u (cL hu)
theorem aHI{s x:m_}{t:TypeId}(ho:o.op=.call { callee:=.builtin .append,args:=#[s,x],argTypes:=#[t,t]})
  {e:TypeId} {i:TypeInfo} {z:i_} (ht:P.underlying t=some (.slice e)) (hi:P.info? e=some i) (hz:i.zero=some z) (Na:z.cells.size=i.size) (bH:0<i.size)
  {sv:i_} {m:Nat} {news:ak} {need:List (Nat×Option Obj)} (zj:CX B sv m news need) (hl:news.length=m*i.size)
  (h63:m<=maxLen) (CW:m*i.bytes<=140737488355328) (k:Nat) :
  iM P B o [.slice none 0 0,sv] ((k,none)::need) (.slice (some ⟨k,0,some 7⟩) m 0) [(k,.row news e i.size)]:=by
 intro ι c ρ w aU hm hn;have hk:c k=none:=hn _ (aR ..);rw[ho]at aU;obtain⟨u,u2,hu,hc,hx⟩:=js aU;have dS:ρ s=u:=by simp[Op.operands,Call.operands]at hu;exact hu.1
 have e8:ρ x=u2:=by simp[Op.operands,Call.operands]at hu;exact hu.2
 have hc:=hc.fD rfl;have JU:m=0->(Builtin.append_ #[t,t] o.type #[u,u2]).run P w=.ok (.slice none 0 0) w->
   ∃ aA v' w',Map.le ι aA/\aL aA (.slice (some ⟨k,0,some 7⟩) m 0) v'/\aO B aA (lZ c [(k,.row news e i.size)]) w'/\((execOp ρ o).run P w=.ok (.value v') w'\/(v'=undef/\(execOp ρ o).run P w=.ok .skip w')):=by
  intro kD hr;subst kD;have kN:news=[]:=k8 (by simpa using hl);subst kN;refine⟨dR ι k .nil,.slice none 0 0,w,gZ (hm.dE k hk),.slcN (fX _ _ _),hm.add hk (.inl ⟨rfl,rfl⟩) n_ n_ n_,.inl ?_⟩;simp[execOp,ho,resolve,invoke,builtin,dS,e8,hr]
 rcases zj ι c w u2 hm (λp hp=>hn p (bI _ hp)) hx with ⟨h1,h2,h3⟩|⟨ad,c',mE,h1,h2,h3⟩
 ·refine JU h1 ?_;rw[hc,h3];simp[Builtin.append_,jM ht,sizeOf,typeInfo,hi,Builtin.lenOf,Builtin.firstCells]
 ·have cA:mE.length=m*i.size:=by rw[<-h2.length];exact hl
  by_cases kD:m=0
  ·refine JU kD ?_;rw[hc,h1,kD];simp[Builtin.append_,jM ht,sizeOf,typeInfo,hi,Builtin.lenOf,Builtin.firstCells,loadCells,loadCellsFrom]
  ·have hr:=run_append_nil (P:=P) w t o.type e i z ht hi hz ad m c' mE cA h3 o_ (by have h:=h63;simp[maxLen]at h;omega) o_;have ga:=grownCap_ge w m 0 e;have dN:=YK w m 0 e h63;have bJ:aO B ι c w.drew:=hm.call ⟨⟨rfl,zk _⟩,rfl,rfl,bF _,λ_ _=>rfl⟩;have lE:=Hn (ty:=e) (size:=i.size) (cap:=grownCap w m 0 e) (rest:=Builtin.zeroCells z.cells (grownCap w m 0 e-m)) bJ hk h2 dN (by
    have h:=Nb z.cells (grownCap w m 0 e-m);rw[cA,h,Na,<-fP]
    congr 1;omega)
   refine⟨_,_,_,gZ (hm.dE k hk),.slc (o:=0) (off:=0) (fX _ _ _) ga o_,lE,.inl ?_⟩;rw[<-hc,<-h1]at hr;simp[execOp,ho,resolve,invoke,builtin,dS,e8,hr]
theorem aHJ{s x:m_}{t:TypeId}(ho:o.op=.call { callee:=.builtin .append,args:=#[s,x],argTypes:=#[t,t]})
  {e:TypeId} {i:TypeInfo} {z:i_} (ht:P.underlying t=some (.slice e)) (hi:P.info? e=some i) (hz:i.zero=some z) (Na:z.cells.size=i.size) (bH:0<i.size)
  {sv:i_} {m:Nat} {news:ak} {need:List (Nat×Option Obj)} (zj:CX B sv m news need) (hl:news.length=m*i.size) (Sg:∀ v∈news,v.oneCell'=true)
  {j n:Nat} {cells:ak} (oV:n*i.size<=cells.length) (h63:n+m<=maxLen) (CW:(n+m)*i.bytes<=140737488355328) (k:Nat) :
  iM P B o [.slice (some ⟨j,0,some 7⟩) n 0,sv] ((k,none)::(j,some (.row cells e i.size))::need) (.slice (some ⟨k,0,some 7⟩) (n+m) 0)
   [(k,.row (cells.take (n*i.size)++news) e i.size),(j,.dead)]:=by
 intro ι c ρ w aU hm hn;have hk:c k=none:=hn _ (aR ..);have hj:c j=some (.row cells e i.size):=hn _ (bI _ (aR ..));have hkj:j≠k:=λe=>by rw[e,hk]at hj;cases hj
 have gL:bt c j .dead k=none:=by unfold bt;rw[az (kO hkj)];exact hk
 rw[ho]at aU;obtain⟨u,u2,hu,hc,hx⟩:=js aU;have dS:ρ s=u:=by simp[Op.operands,Call.operands]at hu;exact hu.1
 have e8:ρ x=u2:=by simp[Op.operands,Call.operands]at hu;exact hu.2
 have ex:∀ v' w',(Builtin.append_ #[t,t] o.type #[u,u2]).run P w=.ok v' w'->(execOp ρ o).run P w=.ok (.value v') w':=by intro v' w' hr;simp[execOp,ho,resolve,invoke,builtin,dS,e8,hr]
 have Ho:aO B ι (bt c j .dead) w:=hm.kill j (by rw[hj];exact n_);rcases hc.iC rfl with ⟨hb,kN,_,_,he⟩|⟨b,oo,cap,c',hb,k7,ni,he⟩
 ·-- nothing is there yet
  subst kN;subst he;have Sh:=zj ι c w u2 hm (λp hp=>hn p (bI _ (bI _ hp))) hx;have uX:cells.take (0*i.size)=[]:=by simp
  rw[uX,ju,kB];simp only[kB]at h63 CW;have JU:m=0->(Builtin.append_ #[t,t] o.type #[.slice none 0 0,u2]).run P w=.ok (.slice none 0 0) w->
    ∃ aA v' w',Map.le ι aA/\aL aA (.slice (some ⟨k,0,some 7⟩) m 0) v'/\aO B aA (lZ c [(k,.row news e i.size),(j,.dead)]) w'/\((execOp ρ o).run P w=.ok (.value v') w'\/(v'=undef/\(execOp ρ o).run P w=.ok .skip w')):=by
   intro kD hr;subst kD;have kN:news=[]:=k8 (by simpa using hl);subst kN;exact⟨dR ι k .nil,.slice none 0 0,w,gZ (hm.dE k hk),.slcN (fX _ _ _),Ho.add gL (.inl ⟨rfl,rfl⟩) n_ n_ n_,.inl (ex _ _ hr)⟩
  rcases Sh with ⟨h1,h2,h3⟩|⟨ad,c',mE,h1,h2,h3⟩
  ·refine JU h1 ?_;rw[h3];simp[Builtin.append_,jM ht,sizeOf,typeInfo,hi,Builtin.lenOf,Builtin.firstCells]
  ·have cA:mE.length=m*i.size:=by rw[<-h2.length];exact hl
   by_cases kD:m=0
   ·refine JU kD ?_;rw[h1,kD];simp[Builtin.append_,jM ht,sizeOf,typeInfo,hi,Builtin.lenOf,Builtin.firstCells,loadCells,loadCellsFrom]
   ·have hr:=run_append_nil (P:=P) w t o.type e i z ht hi hz ad m c' mE cA h3 o_ (by have h:=h63;simp[maxLen]at h;omega) o_;have ga:=grownCap_ge w m 0 e;have dN:=YK w m 0 e h63;have bJ:aO B ι (bt c j .dead) w.drew:=Ho.call ⟨⟨rfl,zk _⟩,rfl,rfl,bF _,λ_ _=>rfl⟩;have lE:=Hn (ty:=e) (size:=i.size) (cap:=grownCap w m 0 e) (rest:=Builtin.zeroCells z.cells (grownCap w m 0 e-m)) bJ gL h2 dN (by
     have h:=Nb z.cells (grownCap w m 0 e-m);rw[cA,h,Na,<-fP]
     congr 1;omega)
    refine⟨_,_,_,gZ (hm.dE k hk),.slc (o:=0) (off:=0) (fX _ _ _) ga o_,lE,.inl (ex _ _ ?_)⟩;rw[h1,hr];rfl
 ·-- a row
  dsimp only at hb he;subst he;have kP:c'=cap:=by omega
  subst kP;obtain⟨l,q1,q2⟩:=hm.born j _ hj;rw[hb]at q1;injection q1 with q1;subst q1;rcases q2 with q2|⟨b',aQ,cur,e1,mD,dN,fZ,jt⟩
  ·cases q2.1
  injection e1 with e1 e2 e3;subst e1;subst e2;subst e3;have iD:cells.length<=cur.size:=by have:=jt.length;rw[jK,y9]at this;change cells.length=min cells.length cur.size at this;omega
  have Nc:bY (aL ι) (cells.take (n*i.size)) (cur.toList.take (n*i.size)):=by have:=jt.take (n*i.size);rwa[Nd,oz oV]at this
  have holds:∀(jj:Nat) (v:i_),(cur.toList.take (n*i.size))[jj]?=some v->w.cell? ((⟨b,0,none⟩:Addr).add jj)=some v:=by
   intro jj v hv;rw[uU]at hv;split at hv
   ·have rC:cur[jj]?=some v:=by simpa using hv
    simp[World.cell?,zg,mD,rC]
   ·cases hv
  have eQ:(cur.toList.take (n*i.size)).length=n*i.size:=by rw[jK,y9];omega
  -- the source
  have Sh:∃ ad c' mE,u2=.slice ad m c'/\bY (aL ι) news mE/\(ad=none->m=0/\c'=0)/\∀ a,ad=some a->∀ j v,mE[j]?=some v->w.cell? (a.add j)=some v:=by
   rcases zj ι c w u2 hm (λp hp=>hn p (bI _ (bI _ hp))) hx with ⟨h1,h2,h3⟩|⟨ad,c',mE,h1,h2,h3⟩
   ·subst h1;subst h2;exact⟨none,0,[],h3,.nil,λ_=>⟨rfl,rfl⟩,λa e=>by cases e⟩
   ·exact⟨some ad,c',mE,h1,h2,λe=>(by cases e),λa e=>by injection e with e;subst e;exact h3⟩
  obtain⟨ad,c2,mE,Si,JV,Nf,lD⟩:=Sh;have cA:mE.length=m*i.size:=by rw[<-JV.length];exact hl
  have dY:=hm.own j _ b 0 c' hj rfl hb
  -- where the block is kept
  have jJ:∀ w' (gp:p_),tT w w'->w'.tape=w.tape->w'.output=w.output->w.heap.size<=w'.heap.size->(∀ q,q≠b->w'.heap[q]?=w.heap[q]?)->w'.heap[b]?=some (.cells gp e (0,0))->
    gp.size=c'*i.size->gp.toList.take (n*i.size+m*i.size)=cur.toList.take (n*i.size)++mE->n+m<=c'->(Builtin.append_ #[t,t] o.type #[.slice (some ⟨b,0,none⟩) n c',u2]).run P w=.ok (.slice (some ⟨b,0,none⟩) (n+m) c') w'->
    ∃ aA v' w',Map.le ι aA/\aL aA (.slice (some ⟨k,0,some 7⟩) (n+m) 0) v'/\aO B aA (lZ c [(k,.row (cells.take (n*i.size)++news) e i.size),(j,.dead)]) w'/\((execOp ρ o).run P w=.ok (.value v') w'\/(v'=undef/\(execOp ρ o).run P w=.ok .skip w')):=by
   intro w' gp p1 p2 p3 p4 p5 p6 p7 p8 p9 hr;have hle:=gZ (l:=.at b 0 c') (hm.dE k hk);have c7:aO B ι (bt c j .dead) w':=hm.write hj rfl hb p1 p2 p3 p4 (λq _ hq=>p5 q hq) trivial n_ rfl;refine⟨dR ι k (.at b 0 c'),_,w',hle,.slc (o:=0) (off:=0) (fX _ _ _) p9 o_,c7.add gL (.inr ⟨b,c',gp,rfl,p6,dN,p7,?_⟩) (λb1 o1 lY _ e1=>?_) n_ n_,.inl (ex _ _ hr)⟩
   ·have e1:(cells.take (n*i.size)++news).length=n*i.size+m*i.size:=by rw[lF,jK,hl];omega
    rw[e1,p8];exact(ow hle Nc).append (ow hle JV)
   ·injection e1 with e1 e2;subst e1;refine⟨cF dY.1 p4,dY.2,λq y o' aQ hq hy Bh=>?_,λq F v hq Bh=>?_,λq y o' aQ hq hy Bh=>?_⟩
    ·unfold bt at hq;by_cases xd:q=j
     ·rw[aB xd]at hq;injection hq with hq;subst hq;cases hy
     ·rw[az xd]at hq;exact xd (hm.inj q j y _ b o' aQ 0 c' hq hy hj rfl Bh hb)
    ·unfold bt at hq;by_cases xd:q=j
     ·rw[aB xd]at hq;cases hq
     ·rw[az xd]at hq;exact λhF=>hm.apart j q _ F b 0 c' v hj rfl hb hq Bh (hm.CU hq Bh p4 (λk2 fO je=>p5 k2 λe=>hm.apart j q _ F b 0 c' v hj rfl hb hq Bh (e▸je)) hF)
    ·unfold bt at hq;by_cases xd:q=j
     ·rw[aB xd]at hq;injection hq with hq;subst hq;cases hy
     ·rw[az xd]at hq;exact(hm.seen q y b o' aQ hq hy Bh).2 j _ 0 c' hj rfl hb
  by_cases JW:n+m<=c'
  ·cases ad with
   |none=>
    obtain⟨kD,qt⟩:=Nf rfl;subst kD;subst qt;have kN:mE=[]:=k8 (by simpa using cA);subst kN;refine jJ w cur (.refl w) rfl rfl (bF _) (λ_ _=>rfl) mD fZ s_ JW ?_;rw[Si];have hr:=run_append_owned_none (P:=P) (w:=w) 0 t o.type e i i.size ht hi (.slice (some ⟨b,0,none⟩) n c') n (cur.toList.take (n*i.size)) ⟨eQ,.inr ⟨b,c',cur,rfl,lG _,mD,by omega,dN,fZ,rfl⟩⟩;simpa using hr
   |some a=>
    have hr:=run_append_room (P:=P) w t o.type e i ht hi b n c' cur mD a m c2 mE cA (lD a rfl) (aHH JV Sg) JW (by rw[cA,fZ,<-fP];exact eE _ JW);refine jJ (w.setRow b (cur.toList.take (n*i.size)++mE++cur.toList.drop (n*i.size+mE.length)).toArray) _ ⟨rfl,bF _⟩ rfl rfl s_ (λq hq=>setRow_other w b q _ hq) (setRow_heap w b cur _ e _ mD) ?_ ?_ JW (by rw[Si];exact hr)
    ·have:=eE i.size JW;rw[fP]at this;simp only[Ng,lF,eQ,vV,y9,cA];omega
    ·have e1:(cur.toList.take (n*i.size)++mE).length=n*i.size+m*i.size:=by rw[lF,eQ,cA]
     rw[<-e1];exact Se
  ·cases ad with
   |none=>
    obtain⟨kD,_⟩:=Nf rfl;omega
   |some a=>
    have hr:=run_append_grow (P:=P) w t o.type e i z ht hi hz ⟨b,0,none⟩ n c' _ eQ holds a m c2 mE cA (lD a rfl) o_ (by have h:=h63;simp[maxLen]at h;omega) (growslice_fits o_ CW);have ga:=grownCap_ge w (n+m) c' e;have aHK:=YK w (n+m) c' e h63;have bJ:aO B ι (bt c j .dead) w.drew:=Ho.call ⟨⟨rfl,zk _⟩,rfl,rfl,bF _,λ_ _=>rfl⟩;have lE:=Hn (ty:=e) (size:=i.size) (cap:=grownCap w (n+m) c' e) (rest:=Builtin.zeroCells z.cells (grownCap w (n+m) c' e-(n+m))) bJ gL (Nc.append JV) aHK (by
     have h:=Nb z.cells (grownCap w (n+m) c' e-(n+m));rw[lF,eQ,cA,h,Na,<-fP,<-fP]
     congr 1;omega)
    refine⟨_,_,_,gZ (hm.dE k hk),.slc (o:=0) (off:=0) (fX _ _ _) ga o_,lE,.inl (ex _ _ ?_)⟩;rw[Si,hr];simp
theorem YL{src dst e:TypeId}{x:m_}(ho:o.op=.convert src dst x)(hs:P.underlying src=some (.slice e))(he:P.underlying e=some (.int .u8))(hd:P.underlying dst=some .string)
  {k off n cc:Nat} {y:Obj} {ns:List Int} (hy:y.reads=true) (EU:(y.cells.drop off).take n=ns.map (Value.int .u8)) (hlen:ns.length=n) :
  iM P B o [.slice (some ⟨k,off,some 7⟩) n cc] [(k,some y)] (.string (ns.foldl (λr n=>r.push (UInt8.ofNat n.toNat)) ByteArray.empty)) []:=by
 intro ι c ρ w aU hm hn;rw[ho]at aU;obtain⟨u,hu,hc⟩:=nP aU;have hu:ρ x=u:=by simpa[Op.operands]using hu
 refine⟨ι,_,w,Map.le.refl _,.same rfl,hm,.inl ?_⟩;have kA:=λa l c=>run_convert_bytes_string (P:=P) w src dst e a l c hs he hd;rcases M9 (B:=B) (k:=k) (off:=off) (m:=n) (cc:=cc) hy (len:=n) (λh=>h) ι c w u hm hn hc with ⟨h1,h2,h3⟩|⟨ad,c',mE,h1,h2,h3⟩
 ·subst h1;have:ns=[]:=k8 hlen;subst this;simp only[execOp,ho,hu,h3];simp[kA,Conv.bytesToString]
 ·rw[EU]at h2;have h2:=nQ h2 (λv hv=>by obtain⟨q,_,rfl⟩:=db.1 hv;rfl);subst h2;have aHL:(loadCells ad n).run P w=.ok (ns.map (Value.int .u8)).toArray w:=by have:=run_loadCells_list (P:=P) (w:=w) ad (ns.map (Value.int .u8)) h3;simpa[hlen]using this
  simp only[execOp,ho,hu,h1];simp[kA,run_bytesToString w ad n c' ns aHL]
end
def gD(look:Nat->Value):Operand->Value
 |.tmp t=>look t
 |.const v=>v
 |.global g=>.pointer (some ⟨g,0,none⟩)
 |.func f=>.func (.func f) #[] #[]
def Nh:Operand->Bool
 |.const v=>flat v
 |_=>true
structure fQ(B:aa)(ι:Map)(look:Nat->Value)(N:Nat)(a:Act):Prop where
 defers:a.defers=B.ds
 size:a.tmps.size=N
 slot:∀ t,nO ι (look t) (a.tmps.getD t undef)
theorem YM{a:Act}(hf:fQ B ι look N a){x:m_}(hx:Nh x=true)(hn:mZ (gD look x)=false):aL ι (gD look x) (a.eval x):=by
 cases x with
 |tmp t=>exact(hf.slot t).Bc hn
 |const v=>exact .same hx
 |global g=>exact .same rfl
 |func f=>exact .same rfl
theorem Sj{B:aa}{ι:Map}{look:Nat->Value}{N:Nat}{a:Act}(hf:fQ B ι look N a):∀(l:List Operand),(∀ x∈l,Nh x=true/\mZ (gD look x)=false)->bY (aL ι) (l.map (gD look)) (l.map a.eval)
 |[],_=>.nil
 |x::l,h=>(.cons (YM hf (h x (aR ..)).1 (h x (aR ..)).2) (Sj hf l λy hy=>h y (bI _ hy)))
structure rD where
 val:Value
 cZ:aM
 need:List (Nat×Option Obj)
variable{es:Nat->rD}
def Ni(P:j_)(look:Nat->Value)(o:Oper):Option rD:=
 if o.op.operands.toList.all (λx=>flat (gD look x))then(match M7 P (execOp (gD look) o)with
   |some (.value v)=>if flat v then some ⟨v,[],[]⟩else none
   |_=>none)else none
def YN(look:Nat->Value)(c:Call):Option (Nat×TypeId×Operand×Addr×Nat):=
 match c.callee,c.args.toList,c.argTypes.toList with
 |.builtin .len,[x],[t]=>match gD look x with
  |.slice (some ad) n cc=>if mY ad then some (n,t,x,ad,cc)else none
  |_=>none
 |_,_,_=>none
def rE(P:j_)(look:Nat->Value)(g:Nat->Option Obj)(next:Nat)(o:Oper):Option rD:=
 match o.op with
 |.move x=>some ⟨gD look x,[],[]⟩
 |.assign x=>some ⟨gD look x,[],[]⟩
 |.pick c x y=>match gD look c with
  |.bool b=>some ⟨if b then gD look x else gD look y,[],[]⟩
  |_=>none
 |.alloc t=>match P.info? t with
  |some i=>match i.zero with
   |some z=>if flat z then some ⟨.pointer (some ⟨next,0,some 7⟩),[(next,.aK z.cells.toList t)],[(next,none)]⟩else none
   |none=>none
  |none=>none
 |.box t x=>some ⟨.pointer (some ⟨next,0,some 7⟩),[(next,.aK (gD look x).cells.toList t)],[(next,none)]⟩
 |.load t x=>match gD look x with
  |.pointer (some ad)=>if mY ad then(match g ad.block with
   |some y=>if y.reads then(match dM P t y.cells ad.off with|some v=>some ⟨v,[],[(ad.block,some y)]⟩|none=>none)else none
   |none=>none)else none
  |_=>none
 |.store t x y=>match gD look x with
  |.pointer (some ad)=>if mY ad then(match g ad.block with
   |some z=>if z.owns then(match fp P t z.cells ad.off (gD look y)with|some cs=>some ⟨undef,[(ad.block,z.M5 cs)],[(ad.block,some z)]⟩|none=>none)else none
   |none=>none)else none
  |_=>none
 |.fieldAddr s x f=>match gD look x with
  |.pointer (some ad)=>if mY ad then(match P.underlying s with
   |some (.struct fs)=>(match fs[f]? with
    |some fd=>(match P.info? fd.type with
     |some i=>if Nat.ble 1 i.size then some ⟨.pointer (some ⟨ad.block,ad.off+fd.offset,some 7⟩),[],[]⟩else none
     |none=>none)
    |none=>none)
   |_=>none)else none
  |_=>none
 |.indexAddr t x ix=>match gD look x,gD look ix with
  |.pointer (some ad),.int _ n=>if mY ad then(match P.underlying t with
   |some (.array len e)=>(match P.info? e with
    |some i=>if 0<=n/\n<len then some ⟨.pointer (some ⟨ad.block,ad.off+n.toNat*i.size,some 7⟩),[],[]⟩else none
    |none=>none)
   |_=>none)else none
  |.slice (some ad) len _,.int _ n=>if mY ad then(match P.underlying t with
   |some (.slice e)=>(match P.info? e with
    |some i=>if 0<=n/\n<len then some ⟨.pointer (some ⟨ad.block,ad.off+n.toNat*i.size,some 7⟩),[],[]⟩else none
    |none=>none)
   |_=>none)else none
  |_,_=>none
 |.extract x i=>match gD look x with
  |.tuple vs=>(match vs[i]? with|some v=>some ⟨v,[],[]⟩|none=>none)
  |_=>none
 |.makeFunc f fi ca=>some ⟨.func f (((fi++ca).toList.map (gD look)).take fi.size).toArray (((fi++ca).toList.map (gD look)).drop fi.size).toArray,[],[]⟩
 |.call c=>match YN look c with
  |some (n,t,_)=>(match P.underlying t with|some (.slice _)=>some ⟨.int .i64 n,[],[]⟩|_=>none)
  |none=>Ni P look o
 |_=>Ni P look o
def Bi(look:Nat->Value)(o:Oper):Bool:=o.op.operands.toList.all (λx=>Nh x&&!mZ (gD look x))&&(match o.op with|.select _ _=>false|_=>true)
def CY(g:Nat->Option Obj)(next:Nat)(e:rD):Prop:=(∀ p∈e.need,(∃ x,p.2=some x/\g p.1=some x)\/(p.2=none/\next<=p.1))/\∀ p∈e.cZ,∃ q∈e.need,q.1=p.1
theorem CZ{a:Addr}(h:mY a=true):a=⟨a.block,a.off,some 7⟩:=by obtain⟨b,o,s⟩:=a;have:=Hi h;dsimp only at this;subst this;rfl
theorem YO{g:Nat->Option Obj}{next:Nat}{e:rD}(aC:Bi look o=true)(h:rE P look g next o=some e):
  iM P B o (o.op.operands.toList.map (gD look)) e.need e.val e.cZ/\CY g next e:=by
 simp only[Bi,de,bB]at aC;obtain⟨zf,YP⟩:=aC;have uY:CY g next ⟨e.val,[],[]⟩:=⟨λp hp=>(by cases hp),λp hp=>(by cases hp)⟩;have YQ:Ni P look o=some e->iM P B o (o.op.operands.toList.map (gD look)) e.need e.val e.cZ/\CY g next e:=by
  intro h;unfold Ni at h;split at h
  ·rename_i cR;rw[bB]at cR;split at h
   ·rename_i v hp;split at h
    ·rename_i Sd;injection h with h;subst h;refine⟨CV (λv hv=>by obtain⟨x,hx,rfl⟩:=db.1 hv;exact cR x hx) Sd λρ gu w _=>?_,uY⟩;rw[execOp_congr (ρ:=ρ) (ρ':=gD look) o (λcs b e=>by rw[e]at YP;cases YP) (λx hx=>by obtain⟨j,hj⟩:=YE (Nj.2 hx);have:=cS (λl=>l[j]?) gu;simp only[sH,hj,R6]at this;injection this)]
     exact Sc hp w
    ·cases h
   ·cases h
  ·cases h
 cases ck:o.op with
 |move x=>
  simp only[rE,ck]at h;injection h with h;subst h;exact⟨YF (.inl ck),uY⟩
 |assign x=>
  simp only[rE,ck]at h;injection h with h;subst h;exact⟨YF (.inr ck),uY⟩
 |pick c x y=>
  simp only[rE,ck]at h;split at h
  ·rename_i b hb;injection h with h;subst h;refine⟨?_,uY⟩;have:=aHx (P:=P) (B:=B) ck (b:=b) (v1:=gD look x) (v2:=gD look y);rw[<-hb]at this;exact this
  ·cases h
 |alloc t=>
  simp only[rE,ck]at h;split at h
  ·rename_i i hi;split at h
   ·rename_i z hz;split at h
    ·rename_i YR;injection h with h;subst h;exact⟨aHy ck hi hz YR next,λp hp=>.inr (by simp at hp;subst hp;exact⟨rfl,bF _⟩),λp hp=>⟨_,aR ..,by simp at hp;subst hp;rfl⟩⟩
    ·cases h
   ·cases h
  ·cases h
 |box t x=>
  simp only[rE,ck]at h;injection h with h;subst h;exact⟨aHz ck _ next,λp hp=>.inr (by simp at hp;subst hp;exact⟨rfl,bF _⟩),λp hp=>⟨_,aR ..,by simp at hp;subst hp;rfl⟩⟩
 |load t x=>
  simp only[rE,ck]at h;split at h
  ·rename_i ad hx;split at h
   ·rename_i dY;split at h
    ·rename_i y hy;split at h
     ·rename_i EV;split at h
      ·rename_i v hv;injection h with h;subst h;refine⟨?_,λp hp=>.inl ⟨y,by simp at hp;subst hp;exact⟨rfl,hy⟩⟩,λp hp=>(by cases hp)⟩;have:=YC (P:=P) (B:=B) ck (k:=ad.block) EV hv;rw[<-CZ dY,<-hx]at this;exact this
      ·cases h
     ·cases h
    ·cases h
   ·cases h
  ·cases h
 |store t x y=>
  simp only[rE,ck]at h;split at h
  ·rename_i ad hx;split at h
   ·rename_i dY;split at h
    ·rename_i z hz;split at h
     ·rename_i hzo;split at h
      ·rename_i cs fZ;injection h with h;subst h;refine⟨?_,λp hp=>.inl ⟨z,by simp at hp;subst hp;exact⟨rfl,hz⟩⟩,λp hp=>⟨_,aR ..,by simp at hp;subst hp;rfl⟩⟩;have:=YD (P:=P) (B:=B) ck (k:=ad.block) hzo fZ;rw[<-CZ dY,<-hx]at this;exact this
      ·cases h
     ·cases h
    ·cases h
   ·cases h
  ·cases h
 |fieldAddr s x f=>
  simp only[rE,ck]at h;split at h
  ·rename_i ad hx;split at h
   ·rename_i dY;split at h
    ·rename_i fs hs;split at h
     ·rename_i fd vU;split at h
      ·rename_i i hi;split at h
       ·rename_i bH;injection h with h;subst h;refine⟨?_,uY⟩;have:=aHA (P:=P) (B:=B) ck hs vU hi (sE bH) ad.block ad.off;rw[<-CZ dY,<-hx]at this;exact this
       ·cases h
      ·cases h
     ·cases h
    ·cases h
   ·cases h
  ·cases h
 |indexAddr t x ix=>
  simp only[rE,ck]at h;split at h
  ·rename_i ad kd n hx Bj;split at h
   ·rename_i dY;split at h
    ·rename_i len el ht;split at h
     ·rename_i i hi;split at h
      ·rename_i hr;injection h with h;subst h;refine⟨?_,uY⟩;have:=aHB (P:=P) (B:=B) ck ht hi (kd:=kd) hr.1 hr.2 ad.block ad.off;rw[<-CZ dY,<-hx,<-Bj]at this;exact this
      ·cases h
     ·cases h
    ·cases h
   ·cases h
  ·rename_i ad len cc kd n hx Bj;split at h
   ·rename_i dY;split at h
    ·rename_i el ht;split at h
     ·rename_i i hi;split at h
      ·rename_i hr;injection h with h;subst h;refine⟨?_,uY⟩;have:=YH (P:=P) (B:=B) ck ht hi (kd:=kd) (cc:=cc) hr.1 hr.2 ad.block ad.off;rw[<-CZ dY,<-hx,<-Bj]at this;exact this
      ·cases h
     ·cases h
    ·cases h
   ·cases h
  ·cases h
 |extract x i=>
  simp only[rE,ck]at h;split at h
  ·rename_i vs hx;split at h
   ·rename_i v hv;injection h with h;subst h;refine⟨?_,uY⟩;have:=aHC (P:=P) (B:=B) ck hv;rw[<-hx]at this;exact this
   ·cases h
  ·cases h
 |makeFunc f fi ca=>
  simp only[rE,ck]at h;injection h with h;subst h;exact⟨aHE ck,uY⟩
 |call c=>
  simp only[rE,ck]at h;split at h
  ·rename_i n t rest hl;obtain⟨x,ad,cc⟩:=rest;split at h
   ·rename_i el ht;injection h with h;subst h;refine⟨?_,uY⟩;unfold YN at hl;split at hl
    ·rename_i x' t' hc ha l4;split at hl
     ·rename_i YS n' ct hx;split at hl
      ·rename_i dY;injection hl with hl;injection hl with h1 hl;injection hl with h2 hl;injection hl with h3 hl;injection hl with h4 h5;subst h1;subst h2;subst h3;subst h4;subst h5;have kP:c={ callee:=.builtin .len,args:=#[x'],argTypes:=#[t']}:=by
        obtain⟨c1,c2,c3⟩:=c;dsimp only at hc ha l4;subst hc
        congr 1
        ·exact vW.1 ha
        ·exact vW.1 l4
       rw[kP]at ck ⊢;have:=aHF (P:=P) (B:=B) ck ht YS.block YS.off n' ct;rw[<-CZ dY,<-hx]at this;exact this
      ·cases hl
     ·cases hl
    ·cases hl
   ·cases h
  ·rw[<-ck];exact YQ h
 |_=>rw[<-ck];refine YQ ?_;simp only[rE,ck]at h;exact h
abbrev aT:=List (Nat×Value)
variable{fr:aT}
def bK:aT->Nat->Value
 |[],_=>Hk
 |(t,v)::l,s=>if Nat.beq t s then v else bK l s
def ai:aM->Nat->Option Obj
 |[],_=>none
 |(k,x)::l,j=>if Nat.beq k j then some x else ai l j
theorem k9(h:Nat.beq a b=true):a=b:=R2 h
theorem oA(h:a≠b):Nat.beq a b=false:=by
 cases hb:Nat.beq a b with
 |false=>rfl
 |true=>exact absurd (k9 hb) h
theorem vX(c:Nat->Option Obj):∀(l:aM) (k:Nat),lZ c l k=match ai l k with|some x=>some x|none=>c k
 |[],k=>rfl
 |(j,x)::l,k=>by
  show(if k=j then some x else lZ c l k)=match (if Nat.beq j k then some x else ai l k)with|some x=>some x|none=>c k
  by_cases h:k=j
  ·subst h;simp
  ·rw[az h,oA (kO h)];exact vX c l k
theorem iE:∀(l m:aM) (k:Nat),ai (l++m) k=match ai l k with|some x=>some x|none=>ai m k
 |[],m,k=>rfl
 |(j,x)::l,m,k=>by
  show(if Nat.beq j k then some x else ai (l++m) k)=match (if Nat.beq j k then some x else ai l k)with|some x=>some x|none=>ai m k
  by_cases h:Nat.beq j k=true
  ·simp only[aB h]
  ·simp only[az h];exact iE l m k
theorem kE:∀{l:aM} {k:Nat} {x:Obj},ai l k=some x->(k,x)∈l
 |(j,y)::l,k,x,h=>by
  unfold ai at h;split at h
  ·rename_i hb;injection h with h;rw[k9 hb,h];exact aR ..
  ·exact bI _ (kE h)
def cY(c:Nat->Option Obj)(M:aM):Prop:=∀ k x,ai M k=some x->c k=some x
def eK(c:Nat->Option Obj)(next:Nat):Prop:=∀ k,next<=k->c k=none
inductive Ex where
 |normal
 |exit (id:Nat)
 |ret
def Ex.Bk:Ex->Exit
 |.normal=>.normal
 |.exit id=>.exit id
 |.ret=>.ret
def wl:Code->List Nat
 |.region _ ops _=>ops.toList.filterMap (·.dst)
 |.seq x y=>wl x++wl y
 |.cond _ x y=>wl x++wl y
 |.block _ b=>wl b
 |.loop b=>wl b
 |.scope b=>wl b
 |.rangeFunc _ ps x y=>ps.toList++(wl x++wl y)
 |_=>[]
def uZ(c:Code)(t:Nat):Bool:=(wl c).any λd=>Nat.beq d t
structure mF where
 ex:Ex
 fr:aT
 M:aM
 next:Nat
variable{r1:mF}
def ah(P:j_)(B:aa)(N:Nat)(c:Code)(fr:aT)(M:aM)(next:Nat)(r:mF):Prop:=
 ∀(R:Option Nat) (ι:Map) (cc:Nat->Option Obj) (a:Act) (w:h_) (Q:Exit->Act->World->Prop),fQ B ι (bK fr) N a->aO B ι cc w->cY cc M->eK cc next->
  (∀ aA ct a' w',Map.le ι aA->fQ B aA (bK r.fr) N a'->aO B aA ct w'->cY ct r.M->eK ct r.next->(∀ k,k<next->ai M k=none->ct k=cc k)->(∀ t,uZ c t=false->a'.tmps.getD t undef=a.tmps.getD t undef)->Q r.ex.Bk a' w')->c.wpIn (FW R) 0 P Q a w
inductive aY(P:j_)(B:aa)(N:Nat) where
 |step (key:Nat) (o:Oper) (eW:ak) (need:List (Nat×Option Obj)) (val:i_) (cZ:aM) (ok:cI P B o eW need val cZ)
 |call (key:Nat) (f:FuncId) (args:ak) (res:i_) (ok:∀ w,B.G w->Calls P f args.toArray w λe w'=>e=.returned res/\Below w.heap.size w w')
 |rw(key:Nat) (v v':i_) (ok:v=v')
 |code (key:Nat) (c:Code) (fr:aT) (M:aM) (next:Nat) (r:mF) (ok:ah P B N c fr M next r)
inductive oB where
 |eW (l:ak)
 |obj (x:Option Obj)
 |op (o:Oper)
 |code (c:Code)
 |nat (n:Nat)
def callee(look:Nat->Value)(o:Oper):Option (FuncId×ak):=
 match o.op with
 |.call c=>match c.callee with
  |.value x=>match gD look x with
   |.func (.func f) fi ca=>some (f,fi.toList++c.args.toList.map (gD look)++ca.toList)
   |_=>none
  |_=>none
 |_=>none
def gg(P:j_)(f:FuncId):Bool:=
 match P.funcs[f]? with
 | some fn => fn.body.isSome && !(fn.name == "runtime.NumGoroutine")
 |none=>false
def Nk(o:Oper):Nat:=match o.dst with
 |some t=>t
 |none=>match o.op with
  |.store _ (.tmp t) _=>100000+t
  |_=>99999
abbrev bM(P:j_)(B:aa)(N:Nat):=List (aY P B N)
abbrev vY:=List (oB×oB)
def YT(next:Nat)(need:List (Nat×Option Obj)):Bool:=need.all λp=>match p.2 with|some _=>true|none=>Nat.ble next p.1
def YU(cZ:aM)(need:List (Nat×Option Obj)):Bool:=cZ.all λp=>need.any λq=>Nat.beq q.1 p.1
def Hp(look:Nat->Value)(g:Nat->Option Obj)(next:Nat)(o:Oper)(rs:bM P B N):Option (rD×bM P B N×vY):=
 match rE P look g next o with
 |some e=>some (e,rs,[])
 |none=>none
def Sk(look:Nat->Value)(g:Nat->Option Obj)(next:Nat)(o:Oper)(rs:bM P B N):Option (rD×bM P B N×vY):=
 if Bi look o then
  match rs with
  |.step key o' eW need val cZ _::xe=>
   if Nat.beq key (Nk o)then
    (if YT next need&&YU cZ need then
     some (⟨val,cZ,need⟩,xe,(.op o,.op o')::(.eW (o.op.operands.toList.map (gD look)),.eW eW)::need.filterMap λp=>match p.2 with|some x=>some (.obj (g p.1),.obj (some x))|none=>none)
    else none)
   else Hp look g next o rs
  |.call key f args res _::xe=>
   if Nat.beq key (Nk o)then
    (match callee look o with
    |some (f',args')=>if gg P f&&args.all flat&&flat res then some (⟨res,[],[]⟩,xe,[(.nat f',.nat f),(.eW args',.eW args)])else none
    |none=>none)
   else Hp look g next o rs
  |.rw key v v' _::xe=>
   if Nat.beq key (Nk o)then
    (match rE P look g next o with
    |some e=>some (⟨v',e.cZ,e.need⟩,xe,[(.eW [e.val],.eW [v])])
    |none=>none)
   else Hp look g next o rs
  |_=>Hp look g next o rs
 else none
theorem Nl(h:gg P f=true)(args:p_)(w:h_):(callFunc f args).run P w=.ok (.enter f args) w:=by
 unfold gg at h;split at h
 ·rename_i fn hf;simp only[de,zn]at h;obtain⟨c,hb⟩:=Option.isSome_iff_exists.1 h.1
  have h1 : fn.name ≠ "runtime.NumGoroutine" := by simpa using h.2
  simp[callFunc,hf,h1,hb]
 ·cases h
def sI(tr:vY):Prop:=∀ p∈tr,p.1=p.2
theorem JX{R:Option Nat}{args:p_}{Rs:Ending->World->Prop}{n:Nat}:CallsIn (FW R) n P f args w Rs↔Calls P f args w Rs:=
 (callsIn_wide (n:=n):CallsIn Fence.wide n P f args w Rs↔Calls P f args w Rs)
theorem aHM(aC:Bi look o=true)(hc:callee look o=some (f,args))(fe:gg P f=true)
  (dL:∀ v∈args,flat v=true) (Bl:flat res=true) (h:∀ w,B.G w->Calls P f args.toArray w λe w'=>e=.returned res/\Below w.heap.size w w') :
  cI P B o (o.op.operands.toList.map (gD look)) [] res []:=by
 intro R ι c a w hv hm hn K Q hK;obtain⟨dst,op,ty,pos,after,guard⟩:=o;unfold callee at hc;split at hc
 ·rename_i cl ho;dsimp only at ho;subst ho;split at hc
  ·rename_i x hx;split at hc
   ·rename_i f' fi ca ij;injection hc with hc;injection hc with gM dq;subst gM;obtain⟨cal,lH,xf⟩:=cl;dsimp only at hx dq;subst hx;have zf:(Op.operands (.call ⟨.value x,lH,xf⟩)).toList=x::lH.toList:=by simp[Op.operands,Call.operands]
    dsimp only at hv;rw[zf]at hv;cases hv with
    |cons hx sG=>
    rw[ij]at hx;obtain⟨kg,eg,he,h1,h2⟩:=hx.Bb;have bh:=(h1.append sG).append h2;rw[dq]at bh;have e2:=nQ bh dL;have e3:execOp a.eval ⟨dst,.call ⟨.value x,lH,xf⟩,ty,pos,after,guard⟩=callFunc f' (kg++lH.map a.eval++eg):=by have:execOp a.eval ⟨dst,.call ⟨.value x,lH,xf⟩,ty,pos,after,guard⟩=(do let d <-Deferred.ofValue (a.eval x) (lH.map a.eval);invoke d.target d.args):=rfl;rw[this,he];rfl
    have e4:(kg++lH.map a.eval++eg:p_)=args.toArray:=by rw[<-e2];apply EW;simp
    refine⟨λ_ _=>trivial,?_⟩;rw[M6 _ _ _ n_,e3,e4,Nl fe,Oper.uponIn_enter];refine⟨λe=>(by cases e),JX.2 ((h w hm.base).mono ?_)⟩
    rintro e w' ⟨rfl,hb⟩
    exact hK ι res w' (Map.le.refl _) (.same Bl) (hm.call hb)
   ·cases hc
  ·cases hc
 ·cases hc
theorem Sl{g:Nat->Option Obj}{next:Nat}{rs xe:bM P B N}{e:rD}{tr:vY}
  (h:Sk look g next o rs=some (e,xe,tr)) (hs:sI tr):Bi look o=true/\cI P B o (o.op.operands.toList.map (gD look)) e.need e.val e.cZ/\CY g next e:=by
 unfold Sk at h;split at h
 ·rename_i aC;refine⟨aC,?_⟩;have auto:∀{rs:bM P B N},Hp look g next o rs=some (e,xe,tr)->cI P B o (o.op.operands.toList.map (gD look)) e.need e.val e.cZ/\CY g next e:=by
   intro rs h;unfold Hp at h;split at h
   ·rename_i e' he;injection h with h;injection h with h1 h2;subst h1;obtain⟨q1,q2⟩:=YO (B:=B) aC he;exact⟨q1.step,q2⟩
   ·cases h
  split at h
  ·rename_i key o' eW need val cZ ok EX;split at h
   ·split at h
    ·rename_i qp;injection h with h;injection h with h1 h;injection h with h2 h3;subst h1;subst h3;simp only[de]at qp;have e1:oB.op o=.op o':=hs _ (aR ..);have e2:oB.eW _=.eW eW:=hs _ (bI _ (aR ..));injection e1 with e1;injection e2 with e2;subst e1;rw[e2];refine⟨ok,λp hp=>?_,λp hp=>?_⟩
     ·have gM:=qp.1;unfold YT at gM;rw[bB]at gM;have iY:=gM p hp;cases EY:p.2 with
      |none=>rw[EY]at iY;exact .inr ⟨rfl,sE iY⟩
      |some x=>
       left;refine⟨x,rfl,?_⟩;have:oB.obj (g p.1)=.obj (some x):=hs _ (bI _ (bI _ (YV.2 ⟨p,hp,by rw[EY]⟩)));injection this
     ·have dq:=qp.2;unfold YU at dq;rw[bB]at dq;have:=dq p hp;rw[sJ]at this;obtain⟨q,hq,hb⟩:=this;exact⟨q,hq,k9 hb⟩
    ·cases h
   ·exact auto h
  ·rename_i key f args res ok EX;split at h
   ·split at h
    ·rename_i f' args' hc;split at h
     ·rename_i qp;injection h with h;injection h with h1 h;injection h with h2 h3;subst h1;subst h3;simp only[de,bB]at qp;have e1:oB.nat f'=.nat f:=hs _ (aR ..);have e2:oB.eW args'=.eW args:=hs _ (bI _ (aR ..));injection e1 with e1;injection e2 with e2;subst e1;subst e2;exact⟨aHM aC hc qp.1.1 qp.1.2 qp.2 ok,λp hp=>(by cases hp),λp hp=>(by cases hp)⟩
     ·cases h
    ·cases h
   ·exact auto h
  ·rename_i key v v' ok EX;split at h
   ·split at h
    ·rename_i e' he;injection h with h;injection h with h1 h;injection h with h2 h3;subst h1;subst h3;have e1:oB.eW [e'.val]=.eW [v]:=hs _ (aR ..);injection e1 with e1;injection e1 with e1 _;obtain⟨q1,q2⟩:=YO (B:=B) aC he;rw[e1,ok]at q1;exact⟨q1.step,q2⟩
    ·cases h
   ·exact auto h
  ·exact auto h
 ·cases h
def JY(fr:aT)(d:Option Nat)(v:i_):aT:=match d with|some t=>(t,v)::fr|none=>fr
def Nn(fr:aT)(ops:Array Oper)(j:Nat):Option Bool:=
 match (ops[j]?).bind (·.dst)with
 |some t=>match bK fr t with|.bool b=>some b|_=>none
 |none=>none
def C0(fr:aT)(ops:Array Oper)(o:Oper):Bool:=
 match o.guard with
 |none=>true
 |some (j,want)=>match Nn fr ops j with|some b=>b==want|none=>false
def C1(N:Nat)(fr:aT)(ops:Array Oper)(o:Oper):Bool:=
 (match o.guard with
 |none=>true
 |some (j,_)=>match (ops[j]?).bind (·.dst)with|some t=>flat (bK fr t)&&!mZ (bK fr t)&&Nat.blt t N|none=>true)&&
 (match o.dst with|some d=>Nat.blt d N|none=>true)
theorem Sn(fr:aT)(d:Option Nat)(v:i_)(t:Nat):bK (JY fr d v) t=if d=some t then v else bK fr t:=by
 cases d with
 |none=>rfl
 |some s=>
  show(if Nat.beq s t then v else bK fr t)=_;by_cases h:s=t
  ·subst h;simp
  ·rw[oA h];simp[h]
theorem fQ.put(hle:Map.le ι κ){YW:Nat->Value}{a:Act}(h:fQ B ι look N a){v:i_}(hv:nO κ v v')(d:Option Nat)(hd:∀ t,d=some t->t<N)
  (hl:∀ t,YW t=if d=some t then v else look t):fQ B κ YW N (a.put d v'):=by
 refine⟨by cases d<;>exact h.defers,by cases d<;>simp[Act.put,h.size],λt=>?_⟩;rw[hl t];by_cases EZ:d=some t
 ·rw[aB EZ];subst EZ;have:t<a.tmps.size:=by rw[h.size];exact hd t rfl
  have e:(a.put (some t) v').tmps.getD t undef=v':=by simp[Act.put,qv,this]
  rw[e];exact hv
 ·rw[az EZ];have e:(a.put d v').tmps.getD t undef=a.tmps.getD t undef:=by
   cases d with
   |none=>rfl
   |some s=>
    have:s≠t:=λe=>EZ (by rw[e]);simp[Act.put,qv,Sp this]
  rw[e];exact(h.slot t).mono hle
theorem Sq(a:Act)(d:Option Nat)(v:i_){t:Nat}(h:d≠some t):(a.put d v).tmps.getD t undef=a.tmps.getD t undef:=by
 cases d with
 |none=>rfl
 |some s=>
  have:s≠t:=λe=>h (by rw[e]);simp[Act.put,qv,Sp this]
theorem aHN{a:Act}(h:fQ B ι look N a)(ops:Array Oper)(j:Nat)
  (hn:∀ t,(ops[j]?).bind (·.dst)=some t->look t=bK fr t/\flat (bK fr t)=true/\mZ (bK fr t)=false/\t<N):yielded ops a.tmps j=Nn fr ops j:=by
 unfold yielded Nn;cases hd:(ops[j]?).bind (·.dst)with
 |none=>rfl
 |some t=>
  simp only[YX];obtain⟨h1,cR,h2,h3⟩:=hn t hd;have al:t<a.tmps.size:=by rw[h.size];exact h3
  have hs:=h.slot t;rw[h1]at hs;have hs:=(hs.Bc h2).fD cR;rw[show a.tmps.getD t undef=a.tmps[t]by simp[qv,al]]at hs;rw[zo al,hs];cases bK fr t<;>rfl
theorem YY{a:Act}(h:fQ B ι look N a)(ops:Array Oper)(o:Oper)(hg:C1 N fr ops o=true)
  (hl:∀ j b,o.guard=some (j,b)->∀ t,(ops[j]?).bind (·.dst)=some t->look t=bK fr t):Region.wanted o (yielded ops a.tmps)=C0 fr ops o:=by
 unfold Region.wanted C0;unfold C1 at hg;simp only[de]at hg;have hg:=hg.1;cases oC:o.guard with
 |none=>rfl
 |some gd=>
  obtain⟨j,want⟩:=gd;rw[oC]at hg;dsimp only at hg ⊢;rw[aHN h ops j λt ht=>by rw[ht]at hg;simp only[de,zn]at hg;exact⟨hl j want oC t ht,hg.1.1,hg.1.2,by simpa[Bm]using hg.2⟩]
  cases Nn fr ops j with
  |none=>rfl
  |some b=>cases b<;>cases want<;>rfl
theorem YZ{ops:Array Oper}(hg:C1 N fr ops o=true):∀ t,o.dst=some t->t<N:=by intro t ht;unfold C1 at hg;simp only[de]at hg;have:=hg.2;rw[ht]at this;simpa[Bm]using this
def Bn(next:Nat)(cZ:aM):Nat:=cZ.foldl (λn p=>if Nat.ble n p.1 then p.1+1 else n) next
theorem Hq:∀(cZ:aM) (next:Nat),next<=Bn next cZ
 |[],next=>bF _
 |p::l,next=>by
  show next<=Bn (if Nat.ble next p.1 then p.1+1 else next) l;refine dh ?_ (Hq l _);split
  ·rename_i h;have:=sE h;omega
  ·exact bF _
theorem Y0:∀(cZ:aM) (next:Nat),∀ p∈cZ,p.1<Bn next cZ
 |q::l,next,p,hp=>by
  show p.1<Bn (if Nat.ble next q.1 then q.1+1 else next) l;rcases cD.1 hp with rfl|hp
  ·refine cF ?_ (Hq l _);split
   ·omega
   ·rename_i h;rcases e9 p.1 next with h1|h1
    ·exact h1
    ·exact absurd (Sr h1) h
  ·exact Y0 l _ p hp
theorem Ss{cc:Nat->Option Obj}{next:Nat}{e:rD}(hn:CY (ai M) next e)(ha:cY cc M)(hu:eK cc next):
  (∀ p∈e.need,cc p.1=p.2)/\cY (lZ cc e.cZ) (e.cZ++M)/\eK (lZ cc e.cZ) (Bn next e.cZ)/\(∀ k,k<next->ai M k=none->ai (e.cZ++M) k=none/\lZ cc e.cZ k=cc k):=by
 refine⟨λp hp=>?_,λk x hk=>?_,λk hk=>?_,λk hk hM=>?_⟩
 ·rcases hn.1 p hp with ⟨x,h1,h2⟩|⟨h1,h2⟩
  ·rw[h1];exact ha _ _ h2
  ·rw[h1];exact hu _ h2
 ·rw[iE]at hk;rw[vX];cases h:ai e.cZ k with
  |some y=>rw[h]at hk;exact hk
  |none=>rw[h]at hk;exact ha k x hk
 ·rw[vX];cases h:ai e.cZ k with
  |some y=>have:=Y0 e.cZ next _ (kE h);dsimp only at this;omega
  |none=>exact hu k (dh (Hq _ _) hk)
 ·have:ai e.cZ k=none:=by
   cases h:ai e.cZ k with
   |none=>rfl
   |some y=>
    exfalso;obtain⟨q,hq,xg⟩:=hn.2 _ (kE h);dsimp only at xg;rcases hn.1 q hq with ⟨x,h1,h2⟩|⟨h1,h2⟩
    ·rw[xg,hM]at h2;cases h2
    ·omega
  exact⟨by rw[iE,this];exact hM,by rw[vX,this]⟩
structure rF(P:j_)(B:aa)(N:Nat) where
 fr:aT
 M:aM
 next:Nat
 rs:bM P B N
 tr:vY
 nR:List (List Nat×List Nat)
def keys(l:List (Nat×α)):List Nat:=l.map (·.1)
def rF.more(r:rF P B N)(tr:vY)(e:List Nat×List Nat):rF P B N:=⟨r.fr,r.M,r.next,r.rs,tr++r.tr,e::r.nR⟩
def zp{P:j_}{B:aa}{N:Nat}(ops:Array Oper):List Oper->aT->aM->Nat->bM P B N->Option (rF P B N)
 |[],fr,M,next,rs=>some ⟨fr,M,next,rs,[],[]⟩
 |o::l,fr,M,next,rs=>
  if C1 N fr ops o then
   if C0 fr ops o then
    match Sk (P:=P) (bK fr) (ai M) next o rs with
    |some (e,EX,E0)=>match zp ops l (JY fr o.dst e.val) (e.cZ++M) (Bn next e.cZ) EX with
     |some r=>some (r.more E0 (keys e.need,keys e.cZ))
     |none=>none
    |none=>none
   else match zp ops l (JY fr o.dst undef) M next rs with
    |some r=>some (r.more [] ([],[]))
    |none=>none
  else none
def xh(l:List Oper)(t:Nat):Bool:=l.any λo=>match o.dst with|some d=>Nat.beq d t|none=>false
theorem Y1{l:List Oper}{t:Nat}(h:xh (o::l) t=false):o.dst≠some t/\xh l t=false:=by unfold xh at h;rw[List.any_cons,Np]at h;refine⟨λe=>?_,h.2⟩;rw[e]at h;simp at h
def Su(B:aa)(N:Nat)(cc:Nat->Option Obj)(M:aM)(next:Nat)(ι:Map)(a:Act)(wr:Nat->Bool)(r:rF P B N)(K:Act->World->Prop):Prop:=
 ∀ aA ct a' w',Map.le ι aA->fQ B aA (bK r.fr) N a'->aO B aA ct w'->cY ct r.M->eK ct r.next->(∀ k,k<next->ai M k=none->ct k=cc k)->
  (∀ t,wr t=false->a'.tmps.getD t undef=a.tmps.getD t undef)->K a' w'
theorem Sv{R:Option Nat}{P:j_}{B:aa}{N:Nat}{ops:Array Oper}{Q:Exit->Act->World->Prop}:∀(l:List Oper) {fr:aT} {M:aM} {next:Nat} {rs:bM P B N} {r:rF P B N} {ι:Map} {cc:Nat->Option Obj} {a:Act} {w:h_},
  zp ops l fr M next rs=some r->sI r.tr->fQ B ι (bK fr) N a->aO B ι cc w->cY cc M->eK cc next->
  Su B N cc M next ι a (xh l) r (Q .normal)->wpListIn (FW R) 0 P ops Q l a w
 |[],fr,M,next,rs,r,ι,cc,a,w,h,_,hf,hm,ha,hu,hQ=>by injection h with h;subst h;exact hQ ι cc a w (Map.le.refl _) hf hm ha hu (λ_ _ _=>rfl) (λ_ _=>rfl)
 |o::l,fr,M,next,rs,r,ι,cc,a,w,h,hs,hf,hm,ha,hu,hQ=>by
  unfold zp at h;unfold wpListIn;by_cases oC:C1 N fr ops o=true
  case neg=>rw[az oC]at h;cases h
  rw[aB oC]at h;have C2:=YZ oC;rw[YY hf ops o oC λ_ _ _ _ _=>rfl];split at h
  ·rename_i hw;rw[aB hw];split at h
   ·rename_i e EX E0 bT;split at h
    ·rename_i r2 u4;injection h with h;subst h;have tX:sI E0:=λp hp=>hs p (eX.2 (.inl hp));have JZ:sI r2.tr:=λp hp=>hs p (eX.2 (.inr hp));obtain⟨aC,v7,oW⟩:=Sl (B:=B) bT tX;simp only[Bi,de,bB,zn]at aC;obtain⟨q1,q2,q3,q4⟩:=Ss oW ha hu;refine(v7 R ι cc a w (Sj hf _ λx hx=>aC.1 x hx) hm q1 _ _ λaA v' w' hle hv bJ=>?_);refine Sv l u4 JZ (hf.put hle (.inr hv) o.dst C2 λt=>Sn _ _ _ _) bJ q2 q3 λdO rG a2 w2 lf je dI gR e8 fO oD=>?_;refine hQ dO rG a2 w2 (hle.trans lf) je dI gR e8 (λk hk hM=>?_) λt ht=>?_
     ·obtain⟨q5,q6⟩:=q4 k hk hM;rw[fO k (cF hk (Hq _ _)) q5,q6]
     ·obtain⟨t1,t2⟩:=Y1 ht;rw[oD t t2,Sq _ _ _ t1]
    ·cases h
   ·cases h
  ·rename_i hw;rw[az hw];split at h
   ·rename_i r2 u4;injection h with h;subst h;refine⟨λ_ _=>trivial,?_⟩;refine Sv l u4 (λp hp=>hs p (eX.2 (.inr hp))) (hf.put (Map.le.refl _) (v:=undef) (v':=undef) (.inr (.same rfl)) o.dst C2 λt=>Sn _ _ _ _) hm ha hu λdO rG a2 w2 lf je dI gR e8 fO oD=>?_;refine hQ dO rG a2 w2 lf je dI gR e8 fO λt ht=>?_;obtain⟨t1,t2⟩:=Y1 ht;rw[oD t t2,Sq _ _ _ t1]
   ·cases h
theorem aHO{R:Option Nat}{ops:Array Oper}{Q:Exit->Act->World->Prop}(Inv:(Nat->Bool)->Act->World->Prop)
  (aHP:∀ i o,ops[i]?=some o->∀ e∈o.after,Region.binds .any e=true->e.on<i)
  (step:∀ L a w i o,Inv L a w->ops[i]?=some o->L i=false->(∀ e∈o.after,Region.binds .any e=true->L e.on=true)->wpOpIn (FW R) 0 P ops Q i (λa' w'=>Inv (λj=>L j||j==i) a' w') a w)
  (fin:∀ L a w,(∀ i,i<ops.size->L i=true)->Inv L a w->Q .normal a w)
  (aHQ:∀ L L' a w,(∀ j,L j=L' j)->Inv L a w->Inv L' a w) :
  ∀(fuel:Nat) (listed:Array Bool) (a:Act) (w:h_),listed.size=ops.size->(listed.toList.countP (λb=>b=false))=fuel->Inv (λj=>listed.getD j false) a w->
   wpAnyIn (FW R) 0 P .any ops Q fuel listed a w:=by
 have aHR:∀ listed:Array Bool,listed.size=ops.size->Region.ready .any ops listed=[]->∀ i,i<ops.size->listed.getD i false=true:=by
  intro listed bH hr i;induction i using Nat.strongRecOn with
  |_ i ih=>
   intro hi;cases h:listed.getD i false with
   |true=>rfl
   |false=>
    exfalso;have:i∈Region.ready .any ops listed:=by
     rw[mem_ready];refine⟨?_,ops[i],zo hi,λe he hb=>?_⟩
     ·have iF:i<listed.size:=by omega
      simp[qv,iF]at h ⊢;exact h
     ·have:=aHP i ops[i] (zo hi) e he hb;exact ih e.on this o_
    rw[hr]at this;cases this
 intro fuel;induction fuel with
 |zero=>
  intro listed a w bH hc hI;have bh:∀ i,i<ops.size->listed.getD i false=true:=by
   intro i hi;have iF:i<listed.size:=by omega
   have h0:=List.countP_eq_zero.1 hc listed[i] s_;simp[qv,iF];simpa using h0
  refine⟨?_,fin _ a w bh hI⟩;cases hr:Region.ready .any ops listed with
  |nil=>rfl
  |cons i l=>
   have:i∈Region.ready .any ops listed:=by rw[hr];exact aR ..
   rw[mem_ready]at this;obtain⟨h1,o,ho,_⟩:=this;have hi:i<ops.size:=by
    rcases e9 i ops.size with h|h
    ·exact h
    ·rw[Y2 h]at ho;cases ho
   have h2:=bh i hi;have iF:i<listed.size:=by omega
   simp[qv,iF]at h1 h2;rw[h1]at h2;cases h2
 |succ fuel ih=>
  intro listed a w bH hc hI;refine⟨λhr=>fin _ a w (aHR listed bH hr) hI,λi hi=>?_⟩;rw[mem_ready]at hi;obtain⟨h1,o,ho,bh⟩:=hi;have hi:i<ops.size:=by
   rcases e9 i ops.size with h|h
   ·exact h
   ·rw[Y2 h]at ho;cases ho
  have iF:i<listed.size:=by omega
  have oU:listed.getD i false=false:=by simp[qv,iF]at h1 ⊢;exact h1
  refine wpOpIn_mono (λa' w' h=>?_) (step _ a w i o hI ho oU bh);refine ih (listed.setIfInBounds i true) a' w' (by simp[bH]) ?_ (aHQ _ _ a' w' (λj=>?_) h)
  ·have al:i<listed.toList.length:=by simpa using iF
   have J0:listed.toList[i]=false:=by simp[qv,iF]at oU;simpa using oU
   rw[aHS];have key:∀(l:List Bool) (i:Nat) (h:i<l.length),l[i]=false->(l.set i true).countP (λb=>b=false)+1=l.countP (λb=>b=false):=by
    intro l;induction l with
    |nil=>intro i h;simp at h
    |cons b l ih=>
     intro i h hb;cases i with
     |zero=>simp at hb;subst hb;simp
     |succ i=>
      simp at hb h;have:=ih i h hb;simp only[List.set_cons_succ,List.countP_cons];omega
   have:=key listed.toList i al J0;omega
  ·by_cases oE:j=i
   ·subst oE;simp[qv,iF]
   ·have:(listed.setIfInBounds i true).getD j false=listed.getD j false:=by simp[qv,Sp (kO oE)]
    rw[this];simp[oE]
def J1(acc:l_)(o:Oper):Nat:=o.after.toList.foldl (λs e=>if Region.binds .any e then s||| (2^e.on||| acc.getD e.on 0)else s) 0
def C3:List Oper->List Nat->List Nat
 |[],acc=>acc
 |o::l,acc=>C3 l (acc++[J1 acc o])
def J2(o:Oper):List Nat:=o.op.operands.toList.filterMap λ| .tmp t=>some t|_=>none
theorem Y3(acc:l_):∀(es:List Edge) (s j:Nat),(es.foldl (λs e=>if Region.binds .any e then s||| (2^e.on||| acc.getD e.on 0)else s) s).testBit j=true->
  s.testBit j=true\/∃ e∈es,Region.binds .any e=true/\(e.on=j\/(acc.getD e.on 0).testBit j=true)
 |[],s,j,h=>.inl h
 |e::es,s,j,h=>by
  rw[v8]at h;rcases Y3 acc es _ j h with h|⟨e',pK,h⟩
  ·by_cases hb:Region.binds .any e=true
   ·rw[aB hb,Y4,Y4,Nat.testBit_two_pow]at h;simp only[u5,u7]at h;rcases h with h|h|h
    ·exact .inl h
    ·exact .inr ⟨e,aR ..,hb,.inl h⟩
    ·exact .inr ⟨e,aR ..,hb,.inr h⟩
   ·rw[az hb]at h;exact .inl h
  ·exact .inr ⟨e',bI _ pK,h⟩
def Y5(ops:List Oper)(acc:l_):Prop:=
 ∀ k,k<acc.length->∀ j,(acc.getD k 0).testBit j=true->∃ o,ops[k]?=some o/\∃ e∈o.after,Region.binds .any e=true/\(e.on=j\/(acc.getD e.on 0).testBit j=true)
theorem Y6:∀(l pre:List Oper) (acc:l_),acc.length=pre.length->Y5 (pre++l) acc->
  (∀ i o,(pre++l)[i]?=some o->∀ e∈o.after,Region.binds .any e=true->e.on<i)->Y5 (pre++l) (C3 l acc)/\(C3 l acc).length=(pre++l).length
 |[],pre,acc,hl,hg,_=>⟨hg,by simp[C3,hl]⟩
 |o::l,pre,acc,hl,hg,hd=>by
  have e:pre++o::l=(pre++[o])++l:=by simp
  rw[e]at hg hd ⊢;refine Y6 l (pre++[o]) (acc++[J1 acc o]) (by simp[hl]) ?_ hd;have da:∀ k,k<acc.length->(acc++[J1 acc o]).getD k 0=acc.getD k 0:=λk hk=>by rw[E1,E1,J3 hk]
  intro k hk j hj;rcases e9 k acc.length with al|ga
  ·rw[da k al]at hj;obtain⟨o',sK,e',pK,hb,h⟩:=hg k al j hj;refine⟨o',sK,e',pK,hb,?_⟩;rcases h with h|h
   ·exact .inl h
   ·right;have:e'.on<k:=hd k o' sK e' pK hb;rw[da _ o_];exact h
  ·have gL:k=acc.length:=by simp at hk;omega
   subst gL;have ho:((pre++[o])++l)[acc.length]?=some o:=by rw[hl];simp
   have hm:(acc++[J1 acc o]).getD acc.length 0=J1 acc o:=by rw[E1,E2 (bF _)];simp
   rw[hm]at hj;rcases Y3 acc o.after.toList 0 j hj with h|⟨e',pK,hb,h⟩
   ·simp at h
   ·have pK:e'∈o.after:=Nj.1 pK;refine⟨o,ho,e',pK,hb,?_⟩;rcases h with h|h
    ·exact .inl h
    ·right;have:e'.on<acc.length:=hd acc.length o ho e' pK hb;rw[da _ this];exact h
def ik{α:Type}(u:Nat->Nat->Option α)(c0:Nat->α)(L:Nat->Bool):Nat->Nat->α
 |0,k=>c0 k
 |i+1,k=>if L i then(match u i k with|some x=>x|none=>ik u c0 L i k)else ik u c0 L i k
theorem Y7(u:Nat->Nat->Option α)(c0:Nat->α)(L:Nat->Bool)(i k:Nat):ik u c0 L (i+1) k=if L i then(match u i k with|some x=>x|none=>ik u c0 L i k)else ik u c0 L i k:=rfl
theorem Sw{u:Nat->Nat->Option α}{c0:Nat->α}{L:Nat->Bool}:∀(n:Nat),i<=n->(∀ j,j<n->u j k≠none->(L j=true↔j<i))->ik u c0 L n k=ik u c0 (λ_=>true) i k:=by
 have below:∀ m,m<=i->(∀ j,j<m->u j k≠none->L j=true)->ik u c0 L m k=ik u c0 (λ_=>true) m k:=by
  intro m;induction m with
  |zero=>intro _ _;rfl
  |succ m ih=>
   intro hm h;show(if L m then _ else _)=(if true then _ else _);have ih:=ih o_ λj hj=>h j o_;cases hu:u m k with
   |none=>simp only[ih];simp
   |some x=>rw[h m o_ (by rw[hu];exact n_)];rfl
 intro n;induction n with
 |zero=>
  intro hi _;have:i=0:=by omega
  subst this;rfl
 |succ n ih=>
  intro hi h;rcases e9 n i with al|ga
  ·have:i=n+1:=by omega
   subst this;exact below (n+1) (bF _) λj hj hu=>(h j hj hu).2 hj
  ·have ih:=ih ga λj hj=>h j o_;show(if L n then _ else _)=_;cases hu:u n k with
   |none=>simp only[ih];simp
   |some x=>
    have:L n=false:=by
     cases hL:L n with
     |false=>rfl
     |true=>have:=(h n o_ (by rw[hu];exact n_)).1 hL;omega
    rw[this,ih];rfl
theorem Y8{u:Nat->Nat->Option α}{c0:Nat->α}{L:Nat->Bool}(hi:L i=false)(hk:∀ j,j<m->i<j->L j=true->u i k≠none->u j k=none):
  ∀(n:Nat),n<=m->i<n->ik u c0 (λj=>L j||j==i) n k=match u i k with|some x=>x|none=>ik u c0 L n k:=by
 have before:∀ m,m<=i->ik u c0 (λj=>L j||j==i) m k=ik u c0 L m k:=by
  intro m;induction m with
  |zero=>intro _;rfl
  |succ m ih=>
   intro hm;show(if(L m||m==i)then _ else _)=(if L m then _ else _);rw[ih o_];have:(m==i)=false:=by simp;omega
   rw[this,Bool.or_false]
 intro n;induction n with
 |zero=>intro _ h;omega
 |succ n ih=>
  intro kF h;show(if(L n||n==i)then(match u n k with|some x=>x|none=>ik u c0 (λj=>L j||j==i) n k)else ik u c0 (λj=>L j||j==i) n k)=match u i k with|some x=>x|none=>(if L n then(match u n k with|some x=>x|none=>ik u c0 L n k)else ik u c0 L n k)
  rcases e9 i n with al|ga
  ·rw[ih o_ al];have e:(n==i)=false:=by simp;omega
   rw[e,Bool.or_false];cases hL:L n with
   |false=>simp
   |true=>
    cases hu:u i k with
    |none=>rfl
    |some x=>rw[hk n o_ al hL (by rw[hu];exact n_)];rfl
  ·have:i=n:=by omega
   subst this;rw[before i (bF _),hi];simp
def Nq(ops:List Oper)(o:Oper):List Nat:=match o.guard with
 |some (j,_)=>match (ops[j]?).bind (·.dst)with|some t=>[t]|none=>[]
 |none=>[]
def Sx(ops:List Oper)(o:Oper)(t:Nat):Bool:=(J2 o++Nq ops o).any λs=>Nat.beq s t
def Nr(l m:l_):Bool:=l.any λa=>m.any λb=>Nat.beq a b
def xi(ops:List Oper)(o:Oper)(e:List Nat×List Nat)(p:Oper)(f:List Nat×List Nat):Bool:=
 (match p.dst with|some t=>Sx ops o t||(match o.dst with|some d=>Nat.beq d t|none=>false)|none=>false)||Nr f.2 e.1
def E3(ops:List Oper)(nR:List (List Nat×List Nat)):Bool:=
 (List.range ops.length).all λi=>match ops[i]?,nR[i]? with
  |some o,some e=>(o.after.toList.all λg=>!Region.binds .any g||Nat.blt g.on i)&&
   (List.range i).all λj=>Nat.testBit ((C3 ops []).getD i 0) j||(match ops[j]?,nR[j]? with|some p,some f=>!xi ops o e p f&&!xi ops p f o e|_,_=>false)
  |_,_=>false
section
variable{P:j_}{B:aa}{N:Nat}{ops:Array Oper}
structure Sy(P:j_)(B:aa)(N:Nat)(ops:Array Oper)(l:List Oper)(fr:aT)(M:aM)(next:Nat)(r:rF P B N) where
 sL:Nat->aT
 Ms:Nat->aM
 Bo:Nat->Nat
 es:Nat->rD
 Y9:sL 0=fr
 SA:Ms 0=M
 SB:Bo 0=next
 Za:sL l.length=r.fr
 Zb:Ms l.length=r.M
 Zc:Bo l.length=r.next
 nR:∀ i,i<l.length->r.nR[i]?=some (keys (es i).need,keys (es i).cZ)
 step:∀ i o,l[i]?=some o->C1 N (sL i) ops o=true/\sL (i+1)=JY (sL i) o.dst (es i).val/\Ms (i+1)=(es i).cZ++Ms i/\Bo (i+1)=Bn (Bo i) (es i).cZ/\CY (ai (Ms i)) (Bo i) (es i)/\
  ((C0 (sL i) ops o=true/\Bi (bK (sL i)) o=true/\cI P B o (o.op.operands.toList.map (gD (bK (sL i)))) (es i).need (es i).val (es i).cZ)\/(C0 (sL i) ops o=false/\es i=⟨undef,[],[]⟩))
theorem SC:∀(l:List Oper) {fr:aT} {M:aM} {next:Nat} {rs:bM P B N} {r:rF P B N},zp ops l fr M next rs=some r->sI r.tr->Nonempty (Sy P B N ops l fr M next r)
 |[],fr,M,next,rs,r,h,_=>by injection h with h;subst h;exact⟨⟨λ_=>fr,λ_=>M,λ_=>next,λ_=>⟨undef,[],[]⟩,rfl,rfl,rfl,rfl,rfl,rfl,λi hi=>by simp at hi,λi o h=>by simp at h⟩⟩
 |o::l,fr,M,next,rs,r,h,hs=>by
  unfold zp at h;by_cases oC:C1 N fr ops o=true
  case neg=>rw[az oC]at h;cases h
  rw[aB oC]at h;have build:∀(e:rD) (r2:rF P B N) (tr:vY),r=r2.more tr (keys e.need,keys e.cZ)->CY (ai M) next e->Nonempty (Sy P B N ops l (JY fr o.dst e.val) (e.cZ++M) (Bn next e.cZ) r2)->
    ((C0 fr ops o=true/\Bi (bK fr) o=true/\cI P B o (o.op.operands.toList.map (gD (bK fr))) e.need e.val e.cZ)\/(C0 fr ops o=false/\e=⟨undef,[],[]⟩))->Nonempty (Sy P B N ops (o::l) fr M next r):=by
   rintro e r2 tr rfl bw ⟨T⟩ bT
   refine⟨⟨λi=>match i with|0=>fr|i+1=>T.sL i,λi=>match i with|0=>M|i+1=>T.Ms i,λi=>match i with|0=>next|i+1=>T.Bo i,λi=>match i with|0=>e|i+1=>T.es i,rfl,rfl,rfl,T.Za,T.Zb,T.Zc,λi hi=>?_,λi o' ho=>?_⟩⟩
   ·cases i with
    |zero=>rfl
    |succ i=>exact T.nR i (by simpa using hi)
   ·cases i with
    |zero=>
     simp at ho;subst ho;exact⟨oC,T.Y9,T.SA,T.SB,bw,bT⟩
    |succ i=>exact T.step i o' (by simpa using ho)
  split at h
  ·rename_i hw;split at h
   ·rename_i e EX E0 bT;split at h
    ·rename_i r2 u4;injection h with h;have pL:sI E0/\sI r2.tr:=by subst h;exact⟨λp hp=>hs p (eX.2 (.inl hp)),λp hp=>hs p (eX.2 (.inr hp))⟩
     obtain⟨aC,v7,oW⟩:=Sl (B:=B) bT pL.1;exact build e r2 E0 h.symm oW (SC l u4 pL.2) (.inl ⟨hw,aC,v7⟩)
    ·cases h
   ·cases h
  ·rename_i hw;split at h
   ·rename_i r2 u4;injection h with h;have pL:sI r2.tr:=by subst h;exact λp hp=>hs p (eX.2 (.inr hp))
    exact build ⟨undef,[],[]⟩ r2 [] h.symm ⟨λp hp=>(by cases hp),λp hp=>(by cases hp)⟩ (SC l u4 pL) (.inr ⟨by simpa using hw,rfl⟩)
   ·cases h
def Ns(ops:List Oper)(L:Nat->Bool):Prop:=∀ i o,ops[i]?=some o->L i=true->∀ e∈o.after,Region.binds .any e=true->L e.on=true
theorem Hr{l:List α}{x:α}(h:l[i]?=some x):i<l.length:=by
 rcases e9 i l.length with h1|h1
 ·exact h1
 ·rw[Bf h1]at h;cases h
theorem SD{l:List Oper}{nR:List (List Nat×List Nat)}(h:E3 l nR=true)(ho:l[i]?=some o):∀ e∈o.after,Region.binds .any e=true->e.on<i:=by
 intro e he hb;unfold E3 at h;rw[bB]at h;have:=h i (ki.2 (Hr ho));rw[ho]at this;split at this
 ·rename_i o' e' h1 h2;injection h1 with h1;subst h1;simp only[de,bB]at this;have:=this.1 e (Nj.2 he);rw[hb]at this;simpa[Bm]using this
 ·cases this
theorem Zd{l:List Oper}{nR:List (List Nat×List Nat)}(h:E3 l nR=true){p:Oper}{e f:List Nat×List Nat}(ho:l[i]?=some o)(he:nR[i]?=some e)(hp:l[j]?=some p)(hf:nR[j]?=some f)(hj:j<i):
  ((C3 l []).getD i 0).testBit j=true\/(xi l o e p f=false/\xi l p f o e=false):=by
 unfold E3 at h;rw[bB]at h;have:=h i (ki.2 (Hr ho));rw[ho,he]at this;dsimp only at this;simp only[de,bB]at this;have:=this.2 j (ki.2 hj);rw[hp,hf]at this;simpa using this
theorem Ze{l:List Oper}{nR:List (List Nat×List Nat)}(h:E3 l nR=true){L:Nat->Bool}(hL:Ns l L):∀(i:Nat) (o:Oper),l[i]?=some o->(∀ e∈o.after,Region.binds .any e=true->L e.on=true)->
  ∀ j,((C3 l []).getD i 0).testBit j=true->L j=true/\j<i:=by
 obtain⟨hg,hlen⟩:=Y6 l [] [] rfl (λk hk=>by simp at hk) (λi o ho e he hb=>SD h (by simpa using ho) e he hb);simp only[ju]at hg hlen;intro i;induction i using Nat.strongRecOn with
 |_ i ih=>
  intro o ho hd j hj;have hi:i<(C3 l []).length:=by rw[hlen];exact Hr ho
  obtain⟨o',sK,e,he,hb,lI⟩:=hg i hi j hj;rw[ho]at sK;injection sK with sK;subst sK;have al:=SD h ho e he hb;have Zf:=hd e he hb;rcases lI with rfl|lI
  ·exact⟨Zf,al⟩
  ·have aHT:e.on<l.length:=by
    have:i<l.length:=by rw[<-hlen];exact hi
    omega
   have Zg:=aW aHT;obtain⟨h1,h2⟩:=ih e.on al _ Zg (λe' pK jX=>hL e.on _ Zg Zf e' pK jX) j lI;exact⟨h1,by omega⟩
theorem Zh{l m:l_}(h1:a∈l)(h2:a∈m):Nr l m=true:=by unfold Nr;rw[sJ];refine⟨a,h1,?_⟩;rw[sJ];exact⟨a,h2,by simp⟩
theorem aHU{l:List Oper}{t:Nat}(h:t∈J2 o++Nq l o):Sx l o t=true:=by unfold Sx;rw[sJ];exact⟨t,h,by simp⟩
theorem SE{l:List (Nat×α)}{p:Nat×α}(h:p∈l):p.1∈keys l:=db.2 ⟨p,h,rfl⟩
theorem aHV{t:Nat}(h:Operand.tmp t∈o.op.operands):t∈J2 o:=by unfold J2;exact YV.2 ⟨.tmp t,Nj.2 h,rfl⟩
def uS(ops:List Oper)(es:Nat->rD)(j t:Nat):Option Value:=match (ops[j]?).bind (·.dst)with|some d=>if d=t then some (es j).val else none|none=>none
def uM(es:Nat->rD)(j k:Nat):Option (Option Obj):=match ai (es j).cZ k with|some x=>some (some x)|none=>none
theorem Zi(k:Nat):lZ c (es i).cZ k=match uM es i k with|some x=>x|none=>c k:=by rw[vX];unfold uM;cases ai (es i).cZ k<;>rfl
theorem SF(h:uM es i k≠none):k∈keys (es i).cZ:=by
 unfold uM at h;cases hk:ai (es i).cZ k with
 |none=>rw[hk]at h;exact absurd rfl h
 |some x=>exact SE (kE hk)
theorem SG{l:List Oper}{t:Nat}(h:uS l es j t≠none):∃ p,l[j]?=some p/\p.dst=some t:=by
 unfold uS at h;cases hp:l[j]? with
 |none=>rw[hp]at h;exact absurd rfl h
 |some p=>
  rw[hp]at h;simp only[YX]at h;cases hd:p.dst with
  |none=>rw[hd]at h;exact absurd rfl h
  |some d=>
   rw[hd]at h;dsimp only at h;by_cases EZ:d=t
   ·exact⟨p,rfl,by rw[hd,EZ]⟩
   ·rw[az EZ]at h;exact absurd rfl h
theorem Zj{l:List Oper}{t:Nat}{p:Oper}(hp:l[j]?=some p):uS l es j t=if p.dst=some t then some (es j).val else none:=by
 unfold uS;rw[hp];simp only[YX];cases p.dst with
 |none=>rfl
 |some d=>by_cases h:d=t<;>simp[h]
theorem aHW{R:Option Nat}{next:Nat}{rs:bM P B N}{r:rF P B N}{cc:Nat->Option Obj}{Q:Exit->Act->World->Prop}{a:Act}{id:Nat}(iO:P.follows .mixedOrders=true)
  (hs:zp ops ops.toList fr M next rs=some r) (Bd:sI r.tr) (h:E3 ops.toList r.nR=true) (hf:fQ B ι (bK fr) N a) (hm:aO B ι cc w) (ha:cY cc M) (hu:eK cc next)
  (hQ:Su B N cc M next ι a (xh ops.toList) r (Q .normal)):(Code.region id ops true).wpIn (FW R) 0 P Q a w:=by
 obtain⟨T⟩:=SC _ hs Bd;have y8:ops.size=ops.toList.length:=by simp
 have J0:∀(i:Nat),ops[i]?=ops.toList[i]?:=λi=>by simp
 generalize hn:ops.toList.length=n at *
 -- the order of the text
 have text:∀ i,i<=n->(∀ t,bK (T.sL i) t=ik (uS ops.toList T.es) (bK fr) (λ_=>true) i t)/\cY (ik (uM T.es) cc (λ_=>true) i) (T.Ms i)/\eK (ik (uM T.es) cc (λ_=>true) i) (T.Bo i)/\next<=T.Bo i/\
   (∀ k,k<next->ai M k=none->ai (T.Ms i) k=none/\ik (uM T.es) cc (λ_=>true) i k=cc k):=by
  intro i;induction i with
  |zero=>intro _;exact⟨λt=>by rw[T.Y9];rfl,by rw[T.SA];exact ha,by rw[T.SB];exact hu,by rw[T.SB];exact bF _,λk _ hk=>⟨by rw[T.SA];exact hk,rfl⟩⟩
  |succ i ih=>
   intro hi;obtain⟨h1,h2,h3,h4,h5⟩:=ih o_;have ho:=aW (l:=ops.toList) (i:=i) o_;obtain⟨_,s2,s3,s4,s5,_⟩:=T.step i _ ho;obtain⟨q1,q2,q3,q4⟩:=Ss s5 h2 h3;have e:ik (uM T.es) cc (λ_=>true) (i+1)=lZ (ik (uM T.es) cc (λ_=>true) i) (T.es i).cZ:=funext λk=>by rw[Zi,Y7];cases uM T.es i k<;>rfl
   refine⟨λt=>?_,by rw[s3,e];exact q2,by rw[s4,e];exact q3,by rw[s4];exact dh h4 (Hq _ _),λk hk hM=>?_⟩
   ·rw[s2,Sn];rw[Y7,Zj ho,h1 t];by_cases hd:(ops.toList[i]).dst=some t
    ·rw[aB hd,aB hd];rfl
    ·rw[az hd,az hd];rfl
   ·obtain⟨p1,p2⟩:=h5 k hk hM;obtain⟨p3,p4⟩:=q4 k o_ p1;exact⟨by rw[s3];exact p3,by rw[e,p4,p2]⟩
 -- which of two that xi has Zk up
 have ordered:∀{L:Nat->Bool} (hL:Ns ops.toList L) {i:Nat} {o:Oper},ops.toList[i]?=some o->L i=false->(∀ e∈o.after,Region.binds .any e=true->L e.on=true)->∀{j:Nat} {p:Oper},ops.toList[j]?=some p->j≠i->
   xi ops.toList o (keys (T.es i).need,keys (T.es i).cZ) p (keys (T.es j).need,keys (T.es j).cZ)=true\/xi ops.toList p (keys (T.es j).need,keys (T.es j).cZ) o (keys (T.es i).need,keys (T.es i).cZ)=true->(L j=true↔j<i):=by
  intro L hL i o ho E4 Nt j p hp oE tY;have ei:=T.nR i (Hr ho);have ej:=T.nR j (Hr hp);rcases E5 oE with al|tZ
  ·rcases Zd h ho ei hp ej al with hb|⟨nj,gE⟩
   ·have:=(Ze h hL i o ho Nt j hb).1;exact⟨λ_=>al,λ_=>this⟩
   ·rcases tY with tY|tY
    ·rw[nj]at tY;cases tY
    ·rw[gE]at tY;cases tY
  ·rcases Zd h hp ej ho ei tZ with hb|⟨nj,gE⟩
   ·refine⟨λBp=>?_,λal=>by omega⟩;have:=(Ze h hL j p hp (λe he E6=>hL j p hp Bp e he E6) i hb).1;rw[E4]at this;cases this
   ·rcases tY with tY|tY
    ·rw[gE]at tY;cases tY
    ·rw[nj]at tY;cases tY
 have Zl:∀{α:Type} (u:Nat->Nat->Option α) (c0:Nat->α) (L:Nat->Bool) (k:Nat),(∀ j,L j=false)->∀ m,ik u c0 L m k=c0 k:=by
  intro α u c0 L k hL m;induction m with
  |zero=>rfl
  |succ m ih=>show(if L m then _ else _)=_;rw[hL m,ih];rfl
 have aVO:∀{α:Type} (u:Nat->Nat->Option α) (c0:Nat->α) (L L':Nat->Bool) (k:Nat),(∀ j,L j=L' j)->∀ m,ik u c0 L m k=ik u c0 L' m k:=by intro α u c0 L L' k hL m;rw[show L=L' from funext hL]
 refine wpIn_region_any iO (aHO (λL a' w'=>∃ aA,Map.le ι aA/\fQ B aA (ik (uS ops.toList T.es) (bK fr) L n) N a'/\Ns ops.toList L/\aO B aA (ik (uM T.es) cc L n) w'/\(∀ t,xh ops.toList t=false->a'.tmps.getD t undef=a.tmps.getD t undef))
  (λi o ho e he hb=>SD h (by rw[<-J0];exact ho) e he hb) ?_ ?_ ?_ ops.size _ a _ s_ (by simp[List.countP_replicate]) ?_)
 ·-- one operation
  rintro L a' w' i o ⟨aA,hle,nk,iD,nS,zq⟩ ho E4 Nt
  have sK:ops.toList[i]?=some o:=by rw[<-J0];exact ho
  have cC:i<n:=by rw[<-hn];exact Hr sK
  obtain⟨t1,t2,t3,t4,t5⟩:=text i o_;obtain⟨s1,s2,s3,s4,s5,s6⟩:=T.step i o sK;have ord:=λ{j:Nat} {p:Oper}=>ordered iD sK E4 Nt (j:=j) (p:=p)
  -- the jh that it looks at
  have slot:∀ t,t∈J2 o++Nq ops.toList o->ik (uS ops.toList T.es) (bK fr) L n t=bK (T.sL i) t:=by
   intro t ht;rw[t1 t];refine Sw n o_ λj hj hu=>?_;obtain⟨p,hp,Hs⟩:=SG hu;by_cases oE:j=i
   ·subst oE;rw[E4];exact⟨λe=>(by cases e),λe=>o_⟩
   ·refine ord hp oE (.inl ?_);unfold xi;rw[Hs];simp only[aHU ht,Ht]
  have marks:∀ p∈(T.es i).need,ik (uM T.es) cc L n p.1=p.2:=by
   intro q hq;rw[<-(Ss s5 t2 t3).1 q hq];refine Sw n o_ λj hj hu=>?_;have hk:=SF hu;by_cases oE:j=i
   ·subst oE;rw[E4];exact⟨λe=>(by cases e),λe=>o_⟩
   ·have hp:=aW (l:=ops.toList) (i:=j) o_;refine ord hp oE (.inl ?_);unfold xi;rw[Zh hk (SE hq),Bool.or_true]
  -- what stands behind it
  have Zm:Ns ops.toList (λj=>L j||j==i):=by
   intro k p hp wb e he hb;simp only[u5,beq_iff_eq]at wb ⊢;rcases wb with wb|rfl
   ·exact .inl (iD k p hp wb e he hb)
   ·rw[sK]at hp;injection hp with hp;subst hp;exact .inl (Nt e he hb)
  have Zn:∀ t,ik (uS ops.toList T.es) (bK fr) (λj=>L j||j==i) n t=if o.dst=some t then(T.es i).val else ik (uS ops.toList T.es) (bK fr) L n t:=by
   intro t;rw[Y8 (i:=i) (m:=n) E4 (λj hjn hj Bp hu=>?_) n (bF _) cC,Zj sK]
   ·by_cases hd:o.dst=some t<;>simp[hd]
   ·obtain⟨q,hq,hqd⟩:=SG hu;rw[sK]at hq;injection hq with hq;subst hq;apply iP;intro bw;obtain⟨p,hp,Hs⟩:=SG bw;have:=(ord hp o_ (.inl (by unfold xi;rw[Hs,hqd];simp))).1 Bp;omega
  have Zo:ik (uM T.es) cc (λj=>L j||j==i) n=lZ (ik (uM T.es) cc L n) (T.es i).cZ:=by
   funext k
   rw[Y8 (i:=i) (m:=n) E4 (λj hjn hj Bp hu=>?_) n (bF _) cC,Zi]
   ·cases uM T.es i k<;>rfl
   ·apply iP;intro bw;have hp:=aW (l:=ops.toList) (i:=j) o_;have hk:=SF bw;have fO:=SF hu;obtain⟨q,hq,xg⟩:=db.1 fO;obtain⟨q2,qw,aHX⟩:=s5.2 q hq;have:=(ord hp o_ (.inl (by unfold xi;rw[Zh hk (by rw[<-xg,<-aHX];exact SE qw),Bool.or_true]))).1 Bp;omega
  have other:∀ v,∀ t,xh ops.toList t=false->(a'.put o.dst v).tmps.getD t undef=a.tmps.getD t undef:=by intro v t ht;rw[Sq _ _ _ λhd=>?_,zq t ht];unfold xh at ht;rw[J4]at ht;have:=ht o (cL sK);rw[hd]at this;simp at this
  have C2:=YZ s1;have aHY:Region.wanted o (yielded ops a'.tmps)=C0 (T.sL i) ops o:=by refine YY nk ops o s1 λj b hg t ht=>slot t (eX.2 (.inr ?_));unfold Nq;rw[hg];dsimp only;rw[<-J0,ht];exact aR ..
  unfold wpOpIn;rw[ho];dsimp only;rw[aHY];rcases s6 with ⟨hw,aC,v7⟩|⟨hw,he⟩
  ·rw[aB hw];simp only[Bi,de,bB,zn]at aC;have E7:∀ x∈o.op.operands.toList,gD (ik (uS ops.toList T.es) (bK fr) L n) x=gD (bK (T.sL i)) x:=by
    intro x hx;cases x with
    |tmp t=>exact slot t (eX.2 (.inl (aHV (Nj.1 hx))))
    |_=>rfl
   have Zp:=Sj nk o.op.operands.toList (λx hx=>by rw[E7 x hx];exact aC.1 x hx);rw[xj E7]at Zp;refine v7 R aA _ a' w' Zp nS marks _ _ λdO v2 w2 lf il dI=>?_;exact⟨dO,hle.trans lf,nk.put lf (.inr il) o.dst C2 Zn,Zm,by rw[Zo];exact dI,other v2⟩
  ·rw[az (by rw[hw];decide)];refine⟨λ_ _=>trivial,?_⟩;refine⟨aA,hle,nk.put (Map.le.refl _) (v':=undef) (.inr (by rw[he];exact .same rfl)) o.dst C2 Zn,Zm,by rw[Zo,he];exact nS,other undef⟩
 ·-- all have Zk up
  rintro L a' w' bh ⟨aA,hle,nk,iD,nS,zq⟩
  obtain⟨t1,t2,t3,t4,t5⟩:=text n (bF _);have eN:∀{α:Type} (u:Nat->Nat->Option α) (c0:Nat->α),ik u c0 L n=ik u c0 (λ_=>true) n:=λu c0=>funext λk=>
   Sw n (bF _) λj hj _=>⟨λ_=>hj,λ_=>bh j o_⟩
  have e1:T.sL n=r.fr:=by rw[<-hn];exact T.Za
  have e2:T.Ms n=r.M:=by rw[<-hn];exact T.Zb
  have e3:T.Bo n=r.next:=by rw[<-hn];exact T.Zc
  rw[eN]at nS;refine hQ aA _ a' w' hle ⟨nk.defers,nk.size,λt=>?_⟩ nS (by rw[<-e2];exact t2) (by rw[<-e3];exact t3) (λk hk hM=>(t5 k hk hM).2) zq;rw[<-e1,t1 t,<-eN];exact nk.slot t
 ·-- the numbers alone
  rintro L L' a' w' Zq ⟨aA,hle,nk,iD,nS,zq⟩
  have e:L=L':=funext Zq;subst e;exact⟨aA,hle,nk,iD,nS,zq⟩
 ·-- none has Zk up
  have hL:∀ j,(Array.replicate ops.size false).getD j false=false:=λj=>by simp[qv,Array.getElem?_replicate];split<;>rfl
  refine⟨ι,Map.le.refl _,⟨hf.defers,hf.size,λt=>?_⟩,λi o _ hi=>?_,?_,λ_ _=>rfl⟩
  ·rw[Zl _ _ _ _ hL];exact hf.slot t
  ·have:=(hL i).symm.trans hi;cases this
  ·exact(hm.drew _ (zk _)).ext λk=>Zl _ _ _ _ hL n
end
def E8(M:aM)(ks:aM):aM:=M.filter λp=>match ai ks p.1 with|some _=>false|none=>true
theorem SH{ks:aM}:∀(M:aM) (k:Nat),ai (E8 M ks) k=match ai ks k with|some _=>none|none=>ai M k
 |[],k=>by cases h:ai ks k<;>simp[E8,ai]
 |(j,x)::M,k=>by
  have ih:=SH (ks:=ks) M k;unfold E8 at ih ⊢;by_cases hj:j=k
  ·subst hj;cases h:ai ks j with
   |some y=>rw[h]at ih;rw[SI,az (by simp[h])];exact ih
   |none=>rw[SI,aB (by simp[h])];simp[ai]
  ·have e:∀ M,ai ((j,x)::M) k=ai M k:=λM=>by show(if Nat.beq j k then _ else _)=_;rw[oA hj];rfl
   rw[e,<-ih];cases h:ai ks j with
   |some y=>rw[SI,az (by simp[h])]
   |none=>rw[SI,aB (by simp[h]),e]
theorem aHZ{cc ct:Nat->Option Obj}{M0 M1:aM}{next:Nat}(ha:cY cc M)(hu:eK cc next)(h1:cY ct M1)(hk:∀ k,k<next->ai M0 k=none->ct k=cc k):cY ct (M1++E8 M M0):=by
 intro k x hx;rw[iE]at hx;cases h:ai M1 k with
 |some y=>rw[h]at hx;exact h1 k x (by rw[h];exact hx)
 |none=>
  rw[h]at hx;dsimp only at hx;rw[SH]at hx;cases h0:ai M0 k with
  |some y=>rw[h0]at hx;cases hx
  |none=>
   rw[h0]at hx;have hc:=ha k x hx;have:k<next:=by
    rcases e9 k next with h|h
    ·exact h
    ·rw[hu k h]at hc;cases hc
   rw[hk k this h0];exact hc
structure kj(P:j_)(B:aa)(N:Nat) where
 ex:Ex
 fr:aT
 M:aM
 next:Nat
 rs:bM P B N
 tr:vY
section
variable{P:j_}{B:aa}{N:Nat}
def kj.more(r:kj P B N)(tr:vY):kj P B N:=⟨r.ex,r.fr,r.M,r.next,r.rs,tr++r.tr⟩
def kj.after(o:Option (kj P B N))(tr:vY):Option (kj P B N):=match o with|some r=>some (r.more tr)|none=>none
def kj.aH0(r:kj P B N)(e:Ex):kj P B N:=⟨e,r.fr,r.M,r.next,r.rs,r.tr⟩
def kj.out(r:kj P B N):mF:=⟨r.ex,r.fr,r.M,r.next⟩
def Keys(M:aM)(next:Nat)(M':aM)(next':Nat):Prop:=next<=next'/\∀ k,k<next->ai M k=none->ai M' k=none
theorem Keys.refl(M:aM)(next:Nat):Keys M next M next:=⟨bF _,λ_ _ h=>h⟩
theorem Keys.trans{M1 M2:aM}{n:Nat}(h:Keys M n M1 n1)(k:Keys M1 n1 M2 n2):Keys M n M2 n2:=⟨dh h.1 k.1,λj hj hM=>k.2 j (cF hj h.1) (h.2 j hj hM)⟩
def Nu(fr:aT)(M:aM)(next:Nat)(c:Code)(key:Nat)(rs:bM P B N):Option (kj P B N):=
 match rs with
 |.code Zr c' J5 M0 SJ r _::xe=>
  if Nat.beq Zr key&&(Nat.ble next r.next&&r.M.all λp=>Nat.ble next p.1||(match ai M0 p.1 with|some _=>true|none=>false))then
   some ⟨r.ex,r.fr++((wl c).map λt=>(t,Hk))++fr,r.M++E8 M M0,r.next,xe,(.code c,.code c')::(.nat next,.nat SJ)::(J5.map λp=>(oB.eW [bK fr p.1],oB.eW [p.2]))++M0.map λp=>(oB.obj (ai M p.1),oB.obj (some p.2))⟩
  else none
 |_=>none
def aH1:Bool->List Oper->List (List Nat×List Nat)->Bool
 |true,ops,nR=>E3 ops nR
 |false,_,_=>true
def ji:Nat->Code->aT->aM->Nat->bM P B N->Option (kj P B N)
 |0,_,_,_,_,_=>none
 |n+1,c,fr,M,next,rs=>
  match c with
  |.skip=>some ⟨.normal,fr,M,next,rs,[]⟩
  |.exit id=>some ⟨.exit id,fr,M,next,rs,[]⟩
  |.ret=>some ⟨.ret,fr,M,next,rs,[]⟩
  |.region id ops draw=>
   match Nu fr M next (.region id ops draw) (200000+id) rs with
   |some r=>some r
   |none=>
    match zp ops ops.toList fr M next rs with
    |some r=>if aH1 draw ops.toList r.nR then some ⟨.normal,r.fr,r.M,r.next,r.rs,r.tr⟩else none
    |none=>none
  |.seq x y=>match ji n x fr M next rs with
   |some r=>match r.ex with
    |.normal=>kj.after (ji n y r.fr r.M r.next r.rs) r.tr
    |_=>some r
   |none=>none
  |.cond c x y=>match gD (bK fr) c with
   |.bool b=>if b then ji n x fr M next rs else ji n y fr M next rs
   |_=>none
  |.block id b=>
   match Nu fr M next (.block id b) id rs with
   |some r=>some r
   |none=>match ji n b fr M next rs with
    |some r=>match r.ex with
     |.exit k=>some (r.aH0 (if Nat.beq k id then .normal else .exit k))
     |_=>some r
    |none=>none
  |.loop b=>match ji n b fr M next rs with
   |some r=>match r.ex with
    |.normal=>kj.after (ji n (.loop b) r.fr r.M r.next r.rs) r.tr
    |_=>some r
   |none=>none
  |_=>none
theorem Zs{o:Option (kj P B N)}{tr:vY}{r:kj P B N}(h:kj.after o tr=some r):∃ r',o=some r'/\r=r'.more tr:=by
 cases o with
 |none=>cases h
 |some r'=>injection h with h;exact⟨r',rfl,h.symm⟩
theorem SK:∀(l m:aT) (t:Nat),(∃ v,(t,v)∈l/\bK (l++m) t=v/\bK l t=v)\/((∀ v,(t,v)∉l)/\bK (l++m) t=bK m t)
 |[],m,t=>.inr ⟨λv h=>(by cases h),rfl⟩
 |(s,v)::l,m,t=>by
  by_cases h:s=t
  ·subst h;exact .inl ⟨v,aR ..,by simp[bK],by simp[bK]⟩
  ·have e1:bK ((s,v)::l++m) t=bK (l++m) t:=by show(if Nat.beq s t then _ else _)=_;rw[oA h];rfl
   have e2:bK ((s,v)::l) t=bK l t:=by show(if Nat.beq s t then _ else _)=_;rw[oA h];rfl
   rcases SK l m t with ⟨u,h1,h2,h3⟩|⟨h1,h2⟩
   ·exact .inl ⟨u,bI _ h1,by rw[e1,h2],by rw[e2,h3]⟩
   ·refine .inr ⟨λu hu=>?_,by rw[e1,h2]⟩;rcases cD.1 hu with hu|hu
    ·injection hu with dS e8;exact h dS.symm
    ·exact h1 u hu
theorem aH2{c:Code}{t:Nat}(h:t∈wl c):uZ c t=true:=by unfold uZ;rw[sJ];exact⟨t,h,by simp⟩
theorem Nv{c:Code}{t:Nat}(h:uZ c t=false):t∉wl c:=λhm=>by rw[aH2 hm]at h;cases h
theorem J6{c:Code}{t:Nat}(h:t∉wl c):uZ c t=false:=by
 cases hb:uZ c t with
 |false=>rfl
 |true=>
  unfold uZ at hb;rw[sJ]at hb;obtain⟨d,hd,he⟩:=hb;exact absurd (k9 he▸hd) h
theorem aH3{c:Code}{Bq:aT}{a a':Act}(hle:Map.le ι aA)(hf:fQ B ι (bK fr) N a)(h1:fQ B aA (bK Bq) N a')(ht:∀ t,uZ c t=false->a'.tmps.getD t undef=a.tmps.getD t undef):
  fQ B aA (bK (Bq++((wl c).map λt=>(t,Hk))++fr)) N a':=by
 refine⟨h1.defers,h1.size,λt=>?_⟩;rw[E9];rcases SK Bq (((wl c).map λt=>(t,Hk))++fr) t with ⟨v,_,h2,h3⟩|⟨_,h2⟩
 ·rw[h2,<-h3];exact h1.slot t
 ·rw[h2];rcases SK ((wl c).map λt=>(t,Hk)) fr t with ⟨v,hv,h3,_⟩|⟨hn,h3⟩
  ·obtain⟨s,_,he⟩:=db.1 hv;injection he with _ he;rw[h3,<-he];exact .inl rfl
  ·rw[h3,ht t (J6 λhm=>hn Hk (db.2 ⟨t,hm,rfl⟩))];exact(hf.slot t).mono hle
theorem Zt{next:Nat}{c:Code}{rs:bM P B N}{r:kj P B N}(h:Nu fr M next c n2 rs=some r)(hs:sI r.tr):ah P B N c fr M next r.out/\Keys M next r.M r.next:=by
 unfold Nu at h;split at h
 ·rename_i Zr c' J5 M0 SJ r0 ok xe;split at h
  ·rename_i qp;injection h with h;subst h;simp only[de,bB,u5]at qp;have e1:oB.code c=.code c':=hs _ (aR ..);have e2:oB.nat next=.nat SJ:=hs _ (bI _ (aR ..));injection e1 with e1;injection e2 with e2;subst e1;subst e2;have e3:∀ p∈J5,bK fr p.1=p.2:=λp hp=>by have:oB.eW [bK fr p.1]=.eW [p.2]:=hs _ (eX.2 (.inl (bI _ (bI _ (db.2 ⟨p,hp,rfl⟩)))));injection this with this;injection this
   have e4:∀ p∈M0,ai M p.1=some p.2:=λp hp=>by have:oB.obj (ai M p.1)=.obj (some p.2):=hs _ (eX.2 (.inr (db.2 ⟨p,hp,rfl⟩)));injection this
   refine⟨?_,sE qp.2.1,λk hk hM=>?_⟩;rotate_left
   ·show ai (r0.M++E8 M M0) k=none;rw[iE];have h1:ai r0.M k=none:=by
     cases h1:ai r0.M k with
     |none=>rfl
     |some x=>
      rcases qp.2.2 _ (kE h1)with h2|h2
      ·have:=sE h2;dsimp only at this;omega
      ·dsimp only at h2;cases h0:ai M0 k with
       |none=>rw[h0]at h2;cases h2
       |some y=>have:=e4 _ (kE h0);dsimp only at this;rw[hM]at this;cases this
    rw[h1];show ai (E8 M M0) k=none;rw[SH,hM];cases ai M0 k<;>rfl
   intro R ι cc a w Q hf hm ha hu hQ;have Br:fQ B ι (bK J5) N a:=⟨hf.defers,hf.size,λt=>by
    have:∀(l:aT),(∀ p∈l,bK fr p.1=p.2)->nO ι (bK l t) (a.tmps.getD t undef):=by
     intro l;induction l with
     |nil=>intro _;exact .inl rfl
     |cons p l ih=>
      intro hl;obtain⟨s,v⟩:=p;by_cases bT:s=t
      ·subst bT;have this:bK fr s=v:=hl _ (aR ..);have e:bK ((s,v)::l) s=v:=by simp[bK]
       rw[e,<-this];exact hf.slot s
      ·have e:bK ((s,v)::l) t=bK l t:=by show(if Nat.beq s t then _ else _)=_;rw[oA bT];rfl
       rw[e];exact ih λp hp=>hl p (bI _ hp)
    exact this J5 e3⟩
   have nT:cY cc M0:=λk x hk=>ha k x (by have:=e4 _ (kE hk);exact this);refine ok R ι cc a w Q Br hm nT hu λaA ct a' w' hle xk bJ jk pJ gL Fb=>?_;refine hQ aA ct a' w' hle (aH3 hle hf xk Fb) bJ (aHZ ha hu jk gL) pJ (λk hk hM=>gL k hk ?_) Fb;cases h0:ai M0 k with
   |none=>rfl
   |some x=>have:=e4 _ (kE h0);dsimp only at this;rw[hM]at this;cases this
  ·cases h
 ·cases h
theorem SL{ops:Array Oper}:∀(l:List Oper) {fr:aT} {M:aM} {next:Nat} {rs:bM P B N} {r:rF P B N},zp ops l fr M next rs=some r->sI r.tr->Keys M next r.M r.next
 |[],fr,M,next,rs,r,h,_=>by injection h with h;subst h;exact Keys.refl _ _
 |o::l,fr,M,next,rs,r,h,hs=>by
  unfold zp at h;split at h
  ·split at h
   ·split at h
    ·rename_i e EX E0 bT;split at h
     ·rename_i r2 u4;injection h with h;subst h;obtain⟨_,_,oW⟩:=Sl (B:=B) bT (λp hp=>hs p (eX.2 (.inl hp)));have k2:=SL l u4 λp hp=>hs p (eX.2 (.inr hp));refine Keys.trans (M1:=e.cZ++M) (n1:=Bn next e.cZ) ⟨Hq _ _,λk hk hM=>?_⟩ k2;rw[iE];cases h1:ai e.cZ k with
      |none=>exact hM
      |some x=>
       exfalso;obtain⟨q,hq,xg⟩:=oW.2 _ (kE h1);dsimp only at xg;rcases oW.1 q hq with ⟨y,h2,h3⟩|⟨h2,h3⟩
       ·rw[xg,hM]at h3;cases h3
       ·omega
     ·cases h
    ·cases h
   ·split at h
    ·rename_i r2 u4;injection h with h;subst h;have k2:=SL l u4 λp hp=>hs p (eX.2 (.inr hp));exact k2
    ·cases h
  ·cases h
theorem aH4{x y:Code}{next:Nat}{r2:mF}(h1:ah P B N x fr M next r1)(hn:r1.ex=.normal)(hk:Keys M next r1.M r1.next)(h2:ah P B N y r1.fr r1.M r1.next r2):ah P B N (.seq x y) fr M next r2:=by intro R ι cc a w Q hf hm ha hu hQ;refine mG (h1 R ι cc a w _ hf hm ha hu λbZ gF a1 w1 jv iG c7 eL dS iq iZ=>?_);rw[hn];refine h2 R bZ gF a1 w1 Q iG c7 eL dS λdO rG a2 w2 lf je dI gR e8 fO oD=>?_;refine hQ dO rG a2 w2 (jv.trans lf) je dI gR e8 (λk oF hM=>by rw[fO k (cF oF hk.1) (hk.2 k oF hM),iq k oF hM]) λt ht=>?_;have C4:t∉wl x++wl y:=Nv ht;rw[oD t (J6 λh=>C4 (eX.2 (.inr h))),iZ t (J6 λh=>C4 (eX.2 (.inl h)))]
theorem Zu{x y:Code}{next:Nat}(h1:ah P B N x fr M next r1)(hn:r1.ex≠.normal):ah P B N (.seq x y) fr M next r1:=by
 intro R ι cc a w Q hf hm ha hu hQ;refine mG (h1 R ι cc a w _ hf hm ha hu λbZ gF a1 w1 jv iG c7 eL dS iq iZ=>?_);have:=hQ bZ gF a1 w1 jv iG c7 eL dS iq λt ht=>iZ t (J6 λh=>(Nv ht:t∉wl x++wl y) (eX.2 (.inl h)));cases hx:r1.ex with
 |normal=>exact absurd hx hn
 |exit id=>rw[hx]at this;exact this
 |ret=>rw[hx]at this;exact this
theorem cd{b:Code}{id:Nat}{next:Nat}(h1:ah P B N b fr M next r1):
  ah P B N (.block id b) fr M next ⟨(match r1.ex with|.exit k=>if Nat.beq k id then .normal else .exit k|e=>e),r1.fr,r1.M,r1.next⟩:=by
 intro R ι cc a w Q hf hm ha hu hQ;refine J7 (h1 R ι cc a w _ hf hm ha hu λbZ gF a1 w1 jv iG c7 eL dS iq iZ=>?_);have:=hQ bZ gF a1 w1 jv iG c7 eL dS iq iZ;cases hx:r1.ex with
 |normal=>rw[hx]at this;exact this
 |ret=>rw[hx]at this;exact this
 |exit k=>
  rw[hx]at this;dsimp only at this;show(if k=id then Q .normal a1 w1 else Q (.exit k) a1 w1);by_cases hk:k=id
  ·rw[aB hk];subst hk;rw[show Nat.beq k k=true from Hu k]at this;exact this
  ·rw[az hk];rw[oA hk]at this;exact this
theorem SM(iO:P.follows .mixedOrders=true):∀(n:Nat),
  (∀(c:Code) (fr:aT) (M:aM) (next:Nat) (rs:bM P B N) (r:kj P B N),ji n c fr M next rs=some r->sI r.tr->ah P B N c fr M next r.out/\Keys M next r.M r.next)/\
  (∀(b:Code) (fr:aT) (M:aM) (next:Nat) (rs:bM P B N) (r:kj P B N),ji n (.loop b) fr M next rs=some r->sI r.tr->Keys M next r.M r.next/\∀(R:Option Nat) (ι:Map) (cc:Nat->Option Obj) (a:Act) (w:h_) (Q:Exit->Act->World->Prop),fQ B ι (bK fr) N a->aO B ι cc w->cY cc M->eK cc next->(∀ aA ct a' w',Map.le ι aA->fQ B aA (bK r.fr) N a'->aO B aA ct w'->cY ct r.M->eK ct r.next->(∀ k,k<next->ai M k=none->ct k=cc k)->(∀ t,uZ b t=false->a'.tmps.getD t undef=a.tmps.getD t undef)->Q r.ex.Bk a' w')->Code.roundsIn (FW R) 0 P b Q n a w):=by
 intro n;induction n with
 |zero=>exact⟨λc fr M next rs r h=>by simp[ji]at h,λb fr M next rs r h=>by simp[ji]at h⟩
 |succ n ih=>
  obtain⟨xl,ihl⟩:=ih;have loop:∀(b:Code) (fr:aT) (M:aM) (next:Nat) (rs:bM P B N) (r:kj P B N),ji (n+1) (.loop b) fr M next rs=some r->sI r.tr->
   Keys M next r.M r.next/\∀(R:Option Nat) (ι:Map) (cc:Nat->Option Obj) (a:Act) (w:h_) (Q:Exit->Act->World->Prop),fQ B ι (bK fr) N a->aO B ι cc w->cY cc M->eK cc next->
  (∀ aA ct a' w',Map.le ι aA->fQ B aA (bK r.fr) N a'->aO B aA ct w'->cY ct r.M->eK ct r.next->(∀ k,k<next->ai M k=none->ct k=cc k)->(∀ t,uZ b t=false->a'.tmps.getD t undef=a.tmps.getD t undef)->Q r.ex.Bk a' w')->Code.roundsIn (FW R) 0 P b Q (n+1) a w:=by
   intro b fr M next rs r h hs;simp only[ji]at h;cases hb:ji n b fr M next rs with
   |none=>rw[hb]at h;cases h
   |some r1=>
    rw[hb]at h;dsimp only at h;have out:r1.ex≠.normal->r=r1->_:=λbw (e:r=r1)=>by
     subst e;obtain⟨g1,k1⟩:=xl b fr M next rs r hb hs;refine(⟨k1,λR ι cc a w Q hf hm ha hu hQ=>?_⟩:Keys M next r.M r.next/\∀(R:Option Nat) (ι:Map) (cc:Nat->Option Obj) (a:Act) (w:h_) (Q:Exit->Act->World->Prop),fQ B ι (bK fr) N a->aO B ι cc w->cY cc M->eK cc next->(∀ aA ct a' w',Map.le ι aA->fQ B aA (bK r.fr) N a'->aO B aA ct w'->cY ct r.M->eK ct r.next->(∀ k,k<next->ai M k=none->ct k=cc k)->(∀ t,uZ b t=false->a'.tmps.getD t undef=a.tmps.getD t undef)->Q r.ex.Bk a' w')->Code.roundsIn (FW R) 0 P b Q (n+1) a w);rw[Fc];refine g1 R ι cc a w _ hf hm ha hu λbZ gF a1 w1 jv iG c7 eL dS iq iZ=>?_;have:=hQ bZ gF a1 w1 jv iG c7 eL dS iq iZ;show Exit.then _ Q r.ex.Bk a1 w1;cases hx:r.ex with
     |normal=>exact absurd hx bw
     |exit id=>rw[hx]at this;exact this
     |ret=>rw[hx]at this;exact this
    cases hex:r1.ex with
    |normal=>
     rw[hex]at h;obtain⟨r2,h2,he⟩:=Zs h;subst he;obtain⟨g1,k1⟩:=xl b fr M next rs r1 hb (λp hp=>hs p (eX.2 (.inl hp)));obtain⟨k2,g2⟩:=ihl b r1.fr r1.M r1.next r1.rs r2 h2 (λp hp=>hs p (eX.2 (.inr hp)));refine⟨k1.trans k2,λR ι cc a w Q hf hm ha hu hQ=>?_⟩;rw[Fc];refine g1 R ι cc a w _ hf hm ha hu λbZ gF a1 w1 jv iG c7 eL dS iq iZ=>?_;show Exit.then _ Q r1.ex.Bk a1 w1;rw[hex];refine g2 R bZ gF a1 w1 Q iG c7 eL dS λdO rG a2 w2 lf je dI gR e8 fO oD=>?_;exact hQ dO rG a2 w2 (jv.trans lf) je dI gR e8 (λk oF hM=>(fO k (cF oF k1.1) (k1.2 k oF hM)).trans (iq k oF hM)) λt ht=>(oD t ht).trans (iZ t ht)
    |exit id=>rw[hex]at h;injection h with h;exact out (by rw[hex];exact n_) h.symm
    |ret=>rw[hex]at h;injection h with h;exact out (by rw[hex];exact n_) h.symm
  refine⟨λc fr M next rs r h hs=>?_,loop⟩;cases c with
  |skip=>
   simp only[ji]at h;injection h with h;subst h;exact⟨λR ι cc a w Q hf hm ha hu hQ=>wpIn_skip (hQ ι cc a w (Map.le.refl _) hf hm ha hu (λ_ _ _=>rfl) λ_ _=>rfl),Keys.refl _ _⟩
  |exit id=>
   simp only[ji]at h;injection h with h;subst h;exact⟨λR ι cc a w Q hf hm ha hu hQ=>wpIn_exit (hQ ι cc a w (Map.le.refl _) hf hm ha hu (λ_ _ _=>rfl) λ_ _=>rfl),Keys.refl _ _⟩
  |ret=>
   simp only[ji]at h;injection h with h;subst h;exact⟨λR ι cc a w Q hf hm ha hu hQ=>wpIn_ret (hQ ι cc a w (Map.le.refl _) hf hm ha hu (λ_ _ _=>rfl) λ_ _=>rfl),Keys.refl _ _⟩
  |region id ops draw=>
   simp only[ji]at h;split at h
   ·rename_i r1 h1;injection h with h;subst h;exact Zt h1 hs
   ·split at h
    ·rename_i r1 h1;split at h
     ·rename_i hd;injection h with h;subst h;refine⟨λR ι cc a w Q hf hm ha hu hQ=>?_,SL _ h1 hs⟩;have Zv:Su B N cc M next ι a (xh ops.toList) r1 (Q .normal):=λaA ct a' w' hle xk bJ jk pJ gL Fb=>hQ aA ct a' w' hle xk bJ jk pJ gL λt ht=>Fb t (by
       have hn:t∉ops.toList.filterMap (·.dst):=Nv ht;cases hb:xh ops.toList t with
       |false=>rfl
       |true=>
        unfold xh at hb;rw[sJ]at hb;obtain⟨o,ho,Nw⟩:=hb;exfalso;refine hn (YV.2 ⟨o,ho,?_⟩);cases C2:o.dst with
        |none=>rw[C2]at Nw;cases Nw
        |some d=>rw[C2]at Nw;rw[k9 Nw])
      cases draw with
      |false=>exact wpIn_region_list (Sv _ h1 hs hf hm ha hu Zv)
      |true=>exact aHW iO h1 hs hd hf hm ha hu Zv
     ·cases h
    ·cases h
  |seq x y=>
   simp only[ji]at h;cases hx:ji n x fr M next rs with
   |none=>rw[hx]at h;cases h
   |some r1=>
    rw[hx]at h;dsimp only at h;cases hex:r1.ex with
    |normal=>
     rw[hex]at h;obtain⟨r2,h2,he⟩:=Zs h;subst he;obtain⟨g1,k1⟩:=xl x fr M next rs r1 hx (λp hp=>hs p (eX.2 (.inl hp)));obtain⟨g2,k2⟩:=xl y r1.fr r1.M r1.next r1.rs r2 h2 (λp hp=>hs p (eX.2 (.inr hp)));exact⟨aH4 g1 hex k1 g2,k1.trans k2⟩
    |exit id=>
     rw[hex]at h;injection h with h;subst h;obtain⟨g1,k1⟩:=xl x fr M next rs r1 hx hs;exact⟨Zu g1 (by show r1.ex≠_;rw[hex];exact n_),k1⟩
    |ret=>
     rw[hex]at h;injection h with h;subst h;obtain⟨g1,k1⟩:=xl x fr M next rs r1 hx hs;exact⟨Zu g1 (by show r1.ex≠_;rw[hex];exact n_),k1⟩
  |cond Fe x y=>
   simp only[ji]at h;cases hc:gD (bK fr) Fe with
   |bool b=>
    rw[hc]at h;have he:∀(ι:Map) (a:Act),fQ B ι (bK fr) N a->a.eval Fe=.bool b:=by
     intro ι a hf;cases Fe with
     |tmp t=>
      have:bK fr t=.bool b:=hc;have hs:=hf.slot t;rw[this]at hs;exact(hs.Bc rfl).bool
     |const v=>exact hc
     |global g=>exact hc
     |func f=>exact hc
    have fin:∀ z:Code,(∀ t,t∈wl z->t∈wl (Code.cond Fe x y))->ah P B N z fr M next r.out->(∀(R:Option Nat) (Q:Exit->Act->World->Prop) (a:Act) (w:h_),a.eval Fe=.bool b->z.wpIn (FW R) 0 P Q a w->(Code.cond Fe x y).wpIn (FW R) 0 P Q a w)->ah P B N (.cond Fe x y) fr M next r.out:=by intro z hz g hw R ι cc a w Q hf hm ha hu hQ;refine hw R Q a w (he ι a hf) (g R ι cc a w Q hf hm ha hu λbZ gF a1 w1 jv iG c7 eL dS iq iZ=>hQ bZ gF a1 w1 jv iG c7 eL dS iq λt ht=>iZ t (J6 λhm=>Nv ht (hz t hm)))
    cases b with
    |true=>
     obtain⟨g1,k1⟩:=xl x fr M next rs r h hs;exact⟨fin x (λt ht=>eX.2 (.inl ht)) g1 (λR Q a w e h=>wpIn_cond e h),k1⟩
    |false=>
     obtain⟨g1,k1⟩:=xl y fr M next rs r h hs;exact⟨fin y (λt ht=>eX.2 (.inr ht)) g1 (λR Q a w e h=>wpIn_cond e h),k1⟩
   |_=>rw[hc]at h;cases h
  |block id b=>
   simp only[ji]at h;split at h
   ·rename_i r1 h1;injection h with h;subst h;exact Zt h1 hs
   ·cases hb:ji n b fr M next rs with
    |none=>rw[hb]at h;cases h
    |some r1=>
     rw[hb]at h;dsimp only at h;cases hex:r1.ex with
     |normal=>
      rw[hex]at h;injection h with h;subst h;obtain⟨g1,k1⟩:=xl b fr M next rs r1 hb hs;have:=cd (id:=id) g1;rw[show r1.out.ex=Ex.normal from hex]at this;refine⟨?_,k1⟩;have e:r1.out=⟨.normal,r1.fr,r1.M,r1.next⟩:=by unfold kj.out;rw[hex]
      rw[e];exact this
     |ret=>
      rw[hex]at h;injection h with h;subst h;obtain⟨g1,k1⟩:=xl b fr M next rs r1 hb hs;have:=cd (id:=id) g1;rw[show r1.out.ex=Ex.ret from hex]at this;refine⟨?_,k1⟩;have e:r1.out=⟨.ret,r1.fr,r1.M,r1.next⟩:=by unfold kj.out;rw[hex]
      rw[e];exact this
     |exit k=>
      rw[hex]at h;injection h with h;subst h;obtain⟨g1,k1⟩:=xl b fr M next rs r1 hb hs;have:=cd (id:=id) g1;rw[show r1.out.ex=Ex.exit k from hex]at this;exact⟨this,k1⟩
  |loop b=>
   obtain⟨k1,g1⟩:=loop b fr M next rs r h hs;exact⟨λR ι cc a w Q hf hm ha hu hQ=>SN (n+1) (g1 R ι cc a w Q hf hm ha hu hQ),k1⟩
  |_=>simp[ji]at h
end
section
variable{P:j_}{B:aa}{N:Nat}
theorem Zw{SO:aT}{a:Act}(hf:fQ B ι (bK fr) N a)(h:∀ p∈SO,bK fr p.1=p.2):fQ B ι (bK SO) N a:=by
 refine⟨hf.defers,hf.size,λt=>?_⟩;induction SO with
 |nil=>exact .inl rfl
 |cons p l ih=>
  obtain⟨s,v⟩:=p;by_cases bT:s=t
  ·subst bT;have this:bK fr s=v:=h _ (aR ..);have e:bK ((s,v)::l) s=v:=by simp[bK]
   rw[e,<-this];exact hf.slot s
  ·have e:bK ((s,v)::l) t=bK l t:=by show(if Nat.beq s t then _ else _)=_;rw[oA bT];rfl
   rw[e];exact ih λp hp=>h p (bI _ hp)
theorem ah.to{c:Code}{next:Nat}{r2:mF}(h:ah P B N c fr M next r1)(hex:r1.ex=r2.ex)(nk:∀ p∈r2.fr,bK r1.fr p.1=p.2)
  (hM:∀ p∈r2.M,ai r1.M p.1=some p.2) (hn:r1.next<=r2.next):ah P B N c fr M next r2:=by
 intro R ι cc a w Q hf hm ha hu hQ;refine h R ι cc a w Q hf hm ha hu λbZ gF a1 w1 jv iG c7 eL dS iq iZ=>?_;rw[hex];exact hQ bZ gF a1 w1 jv (Zw iG nk) c7 (λk x hk=>eL k x (hM _ (kE hk))) (λk hk=>dS k (dh hn hk)) iq iZ
theorem kk:∀{l m:aM},keys l=keys m->∀ k,(ai l k=none↔ai m k=none)
 |[],[],_,k=>Iff.rfl
 |[],_::_,h,k=>by cases h
 |_::_,[],h,k=>by cases h
 |(i,x)::l,(j,y)::m,h,k=>by
  injection h with h1 h2;dsimp only at h1;subst h1;show(if Nat.beq i k then some x else ai l k)=none↔(if Nat.beq i k then some y else ai m k)=none;cases Nat.beq i k
  ·exact kk h2 k
  ·simp
theorem cx{b:Code}{next:Nat}{r:mF}(n:Nat)(I:Nat->aT)(J:Nat->aM)(km:∀ i k,i<=n->(ai (J i) k=none↔ai (J 0) k=none))
  (body:∀ i,i<n->ah P B N b (I i) (J i) next ⟨.normal,I (i+1),J (i+1),next⟩) (last:ah P B N b (I n) (J n) next r) (hr:r.ex≠.normal):ah P B N (.loop b) (I 0) (J 0) next r:=by
 intro R ι cc a w Q hf hm ha hu hQ;refine SN (n+1) ?_;have key:∀ d i,i+d=n->∀(bZ:Map) (gF:Nat->Option Obj) (a1:Act) (w1:h_),Map.le ι bZ->fQ B bZ (bK (I i)) N a1->aO B bZ gF w1->cY gF (J i)->eK gF next->(∀ k,k<next->ai (J 0) k=none->gF k=cc k)->
   (∀ t,uZ (.loop b) t=false->a1.tmps.getD t undef=a.tmps.getD t undef)->Code.roundsIn (FW R) 0 P b Q (d+1) a1 w1:=by
  intro d;induction d with
  |zero=>
   intro i hi bZ gF a1 w1 jv iG c7 eL dS iq iZ;have:i=n:=by omega
   subst this;rw[Fc];refine last R bZ gF a1 w1 _ iG c7 eL dS λdO rG a2 w2 lf je dI gR e8 fO oD=>?_;have:=hQ dO rG a2 w2 (jv.trans lf) je dI gR e8 (λk hk h0=>(fO k hk ((km i k (bF _)).2 h0)).trans (iq k hk h0)) λt ht=>(oD t ht).trans (iZ t ht);show Exit.then _ Q r.ex.Bk a2 w2;cases hx:r.ex with
   |normal=>exact absurd hx hr
   |exit id=>rw[hx]at this;exact this
   |ret=>rw[hx]at this;exact this
  |succ d ih=>
   intro i hi bZ gF a1 w1 jv iG c7 eL dS iq iZ;rw[Fc];refine body i o_ R bZ gF a1 w1 _ iG c7 eL dS λdO rG a2 w2 lf je dI gR e8 fO oD=>?_;exact ih (i+1) o_ dO rG a2 w2 (jv.trans lf) je dI gR e8 (λk hk h0=>(fO k hk ((km i k o_).2 h0)).trans (iq k hk h0)) λt ht=>(oD t ht).trans (iZ t ht)
 exact key n 0 o_ ι cc a w (Map.le.refl _) hf hm ha hu (λ_ _ _=>rfl) λ_ _=>rfl
theorem J8:∀{v v1 v2:i_},aL ι v v1->aL ι v v2->v1=v2:=by
 intro v v1 v2 h;revert v2;apply aL.rec (motive_1:=λv v1 _=>∀ v2,aL ι v v2->v1=v2) (motive_2:=λl l1 _=>∀ l2,bY (aL ι) l l2->l1=l2) (t:=h)
 case same=>intro v hf v2 h2;exact(h2.fD hf).symm
 case ptr=>
  intro k off b o cap hk v2 h2;obtain⟨b',o',aQ,h3,h4⟩:=h2.xa rfl;rw[hk]at h3;injection h3 with h3;injection h3 with h3 h5 _;subst h3;subst h5;rw[h4]
 case slc=>
  intro k off b o n c c' cap hk h1 h2 v2 h3;rcases h3.iC rfl with ⟨h4,_⟩|⟨b',o',aQ,c2,h4,_,h6,h7⟩
  ·rw[hk]at h4;cases h4
  ·rw[hk]at h4;injection h4 with h4;injection h4 with h4 h5 h8;subst h4;subst h5;subst h8;rw[h7,show c'=c2 by omega]
 case slcN=>
  intro k hk v2 h3;rcases h3.iC rfl with ⟨_,_,_,_,h4⟩|⟨b',o',aQ,c2,h4,_⟩
  ·exact h4.symm
  ·rw[hk]at h4;cases h4
 case opq=>
  intro k v hk h1 h2 v2 h3;cases h3 with
  |same hf=>simp[flat,rq,pH,pG,mX]at hf
  |opq gL _ _=>rw[hk]at gL;injection gL with gL;injection gL
 case fn=>
  intro f fi kg ca eg _ _ SP SQ v2 h3;obtain⟨fi2,Zx,e,h4,h5⟩:=h3.Bb;rw[e,SP _ h4,SQ _ h5]
 case agg=>
  intro cs cr _ ih v2 h3;obtain⟨cs2,e,h4⟩:=h3.Hj;rw[e,ih _ h4]
 case tup=>
  intro cs cr _ ih v2 h3;obtain⟨cs2,e,h4⟩:=h3.uR;rw[e,ih _ h4]
 case nil=>intro l2 h2;cases h2;rfl
 case cons=>
  intro a b l m _ _ SP SQ l2 h2;cases h2 with
  |cons h3 h4=>rw[SP _ h3,SQ _ h4]
theorem Ff{ι:Map}:∀{l l1 l2:ak},bY (aL ι) l l1->bY (aL ι) l l2->l1=l2
 |_,_,_,.nil,h=>by cases h;rfl
 |_,_,_,.cons h t,h2=>by cases h2 with|cons h3 t3=>rw[J8 h h3,Ff t t3]
def Hv(m:Nat)(a:Addr):Bool:=mX a||Nat.blt a.block m
def C5(m:Nat):Value->Bool
 |.pointer (some a)=>Hv m a
 |.slice (some a) _ _=>Hv m a
 |.agg _=>false
 |.tuple _=>false
 |.func _ _ _=>false
 |_=>true
def C6(m:Nat):Value->Bool
 |.func _ fi ca=>fi.toList.all (C5 m)&&ca.toList.all (C5 m)
 |v=>C5 m v
def Fg(m:Nat):Value->Bool
 |.agg cs=>cs.toList.all (C6 m)
 |v=>C6 m v
def l5(m:Nat):Value->Bool
 |.tuple vs=>vs.toList.all (Fg m)
 |v=>Fg m v
theorem Nx{v:i_}(h:pG v=true):C5 m v=true:=by
 cases v with
 |pointer a=>cases a with
  |none=>rfl
  |some a=>show(mX a||_)=true;rw[show mX a=true from h];rfl
 |slice a n c=>cases a with
  |none=>rfl
  |some a=>show(mX a||_)=true;rw[show mX a=true from h];rfl
 |_=>exact h
theorem Ny{v:i_}(h:pH v=true):C6 m v=true:=by
 cases v with
 |func f fi ca=>
  simp only[pH,de,bB]at h;simp only[C6,de,bB];exact⟨λc hc=>Nx (h.1 c hc),λc hc=>Nx (h.2 c hc)⟩
 |pointer a=>exact Nx (v:=.pointer a) h
 |slice a n c=>exact Nx (v:=.slice a n c) h
 |_=>first|rfl|exact h
theorem J9{v:i_}(h:rq v=true):Fg m v=true:=by
 cases v with
 |agg cs=>
  simp only[rq,bB]at h;simp only[Fg,bB];exact λc hc=>Ny (h c hc)
 |pointer a=>exact Ny (v:=.pointer a) h
 |slice a n c=>exact Ny (v:=.slice a n c) h
 |func f fi ca=>exact Ny (v:=.func f fi ca) h
 |_=>first|rfl|exact h
theorem iH{v:i_}(h:flat v=true):l5 m v=true:=by
 cases v with
 |tuple cs=>
  simp only[flat,bB]at h;simp only[l5,bB];exact λc hc=>J9 (h c hc)
 |pointer a=>exact J9 (v:=.pointer a) h
 |slice a n c=>exact J9 (v:=.slice a n c) h
 |func f fi ca=>exact J9 (v:=.func f fi ca) h
 |agg cs=>exact J9 (v:=.agg cs) h
 |_=>first|rfl|exact h
theorem aL.low(sO:∀ k,k<m->∀ l,ι k=some l->κ k=some l){v:i_}(h:aL ι v v')(hb:l5 m v=true):aL κ v v':=by
 have addr:∀(a:Addr) (s:Nat),a.spot=some s->Hv m a=true->a.block<m:=by intro a s hs h;unfold Hv mX at h;rw[hs]at h;simpa[Bm]using h
 have hP:∀ v v',aL ι v v'->C5 m v=true->aL κ v v':=by
  intro v v' h hb;cases h with
  |same hf=>exact .same hf
  |ptr hk=>exact .ptr (sO _ (addr _ 7 rfl hb) _ hk)
  |slc hk h1 h2=>exact .slc (sO _ (addr _ 7 rfl hb) _ hk) h1 h2
  |slcN hk=>exact .slcN (sO _ (addr _ 7 rfl hb) _ hk)
  |opq hk h1 h2=>exact .opq (sO _ (addr _ 9 rfl hb) _ hk) h1 h2
  |_=>simp[C5]at hb
 have uQ:∀(Q:Value->Bool),(∀ v v',aL ι v v'->Q v=true->aL κ v v')->∀ l l',bY (aL ι) l l'->(∀ c∈l,Q c=true)->bY (aL κ) l l':=by
  intro Q hQ l l' h;induction h with
  |nil=>intro _;exact .nil
  |cons h t ih=>
   intro hl;exact .cons (hQ _ _ h (hl _ (aR ..))) (ih λc hc=>hl c (bI _ hc))
 have h0:∀ v v',aL ι v v'->C6 m v=true->aL κ v v':=by
  intro v v' h hb;cases h with
  |fn h1 h2=>
   simp only[C6,de,bB]at hb;exact .fn (uQ _ hP _ _ h1 hb.1) (uQ _ hP _ _ h2 hb.2)
  |same hf=>exact .same hf
  |ptr hk=>exact hP _ _ (.ptr hk) hb
  |slc hk h1 h2=>exact hP _ _ (.slc hk h1 h2) hb
  |slcN hk=>exact hP _ _ (.slcN hk) hb
  |opq hk h1 h2=>exact hP _ _ (.opq hk h1 h2) hb
  |_=>simp[C6,C5]at hb
 have h1:∀ v v',aL ι v v'->Fg m v=true->aL κ v v':=by
  intro v v' h hb;cases h with
  |agg h1=>
   simp only[Fg,bB]at hb;exact .agg (uQ _ h0 _ _ h1 hb)
  |same hf=>exact .same hf
  |ptr hk=>exact h0 _ _ (.ptr hk) hb
  |slc hk h1 h2=>exact h0 _ _ (.slc hk h1 h2) hb
  |slcN hk=>exact h0 _ _ (.slcN hk) hb
  |opq hk h1 h2=>exact h0 _ _ (.opq hk h1 h2) hb
  |fn h1 h2=>exact h0 _ _ (.fn h1 h2) hb
  |_=>simp[Fg,C6,C5]at hb
 cases h with
 |tup h2=>
  simp only[l5,bB]at hb;exact .tup (uQ _ h1 _ _ h2 hb)
 |same hf=>exact .same hf
 |ptr hk=>exact h1 _ _ (.ptr hk) hb
 |slc hk q1 q2=>exact h1 _ _ (.slc hk q1 q2) hb
 |slcN hk=>exact h1 _ _ (.slcN hk) hb
 |opq hk q1 q2=>exact h1 _ _ (.opq hk q1 q2) hb
 |fn q1 q2=>exact h1 _ _ (.fn q1 q2) hb
 |agg q1=>exact h1 _ _ (.agg q1) hb
def fE(m:Nat)(x:Obj):Prop:=∀ v∈x.cells,l5 m v=true
theorem jV.below(sO:∀ k,k<m->∀ l,ι k=some l->κ k=some l){l:pI}{x:Obj}(h:jV ι w l x)(hb:fE m x):jV κ w l x:=by
 have uQ:∀{l l':ak},bY (aL ι) l l'->(∀ c∈l,l5 m c=true)->bY (aL κ) l l':=by
  intro l l' h hl;induction h with
  |nil=>exact .nil
  |cons h t ih=>exact .cons (h.low sO (hl _ (aR ..))) (ih λc hc=>hl c (bI _ hc))
 cases x with
 |aK cells ty=>obtain⟨b,cr,h1,h2,h3⟩:=h;exact⟨b,cr,h1,uQ h2 hb,h3⟩
 |row cells ty size=>
  rcases h with h|⟨b,cap,cur,h1,h2,h3,h4,h5⟩
  ·exact .inl h
  ·exact .inr ⟨b,cap,cur,h1,h2,h3,h4,uQ h5 hb⟩
 |view cells=>
  rcases h with h|⟨b,o,cap,cr,h1,h2,h3⟩
  ·exact .inl h
  ·exact .inr ⟨b,o,cap,cr,h1,uQ h2 hb,h3⟩
 |fact F=>exact h
 |dead=>trivial
theorem ah.reset{c:Code}{next:Nat}{r2:mF}(h:ah P B N c fr M next r1)(hex:r1.ex=r2.ex)(nk:∀ p∈r2.fr,bK r1.fr p.1=p.2)(Nz:∀ p∈r2.fr,l5 next p.2=true)
  (hM:∀ p∈r2.M,ai r1.M p.1=some p.2) (SR:∀ p∈r2.M,fE next p.2) (NA:∀ p∈r2.M,p.1<next) (hn:next<=r2.next):ah P B N c fr M next r2:=by
 intro R ι cc a w Q hf hm ha hu hQ;refine h R ι cc a w Q hf hm ha hu λbZ gF a1 w1 jv iG c7 eL dS iq iZ=>?_;rw[hex];have sO:∀ k,k<next->∀ l,bZ k=some l->(λk=>if k<next then bZ k else none) k=some l:=λk hk l e=>by simp[hk,e]
 have Bt:∀ k l,(λk=>if k<next then bZ k else none) k=some l->k<next/\bZ k=some l:=λk l e=>by
  dsimp only at e;split at e
  ·rename_i hk;exact⟨hk,e⟩
  ·cases e
 generalize (λk=>if k<next then bZ k else none)=κ at sO Bt;have hle:Map.le ι κ:=λk l e=>by
  have hk:k<next:=by
   rcases e9 k next with h|h
   ·exact h
   ·rw[hm.dE k (hu k h)]at e;cases e
  exact sO k hk l (jv k l e)
 -- what is kept: what Zy not looked at,and what is known;the rest is dead
 have aH5:∃ c2:Nat->Option Obj,(∀ k,c2 k=none↔(next<=k\/gF k=none))/\(∀ k x,c2 k=some x->x=.dead\/(gF k=some x/\((ai M k=none)\/ai r2.M k=some x)))/\(∀ k x,ai r2.M k=some x->c2 k=some x)/\(∀ k,k<next->ai M k=none->ai r2.M k=none->c2 k=gF k):=by
  refine⟨λk=>if k<next then(match gF k with|none=>none|some x=>match ai r2.M k with|some y=>some y|none=>match ai M k with|none=>some x|some _=>some .dead)else none,?_,?_,?_,?_⟩
  ·intro k;dsimp only;by_cases hk:k<next
   ·rw[aB hk];cases hc:gF k with
    |none=>simp
    |some x=>cases h2:ai r2.M k<;>cases h3:ai M k<;>simp<;>omega
   ·rw[az hk];simp;left;omega
  ·intro k x hx;dsimp only at hx;split at hx
   ·cases hc:gF k with
    |none=>rw[hc]at hx;cases hx
    |some y=>
     rw[hc]at hx;dsimp only at hx;cases h2:ai r2.M k with
     |some z=>
      rw[h2]at hx;injection hx with hx;subst hx;have:=eL k z (hM _ (kE h2));rw[hc]at this;exact .inr ⟨this,.inr rfl⟩
     |none=>
      rw[h2]at hx;dsimp only at hx;cases h3:ai M k with
      |none=>rw[h3]at hx;injection hx with hx;subst hx;exact .inr ⟨rfl,.inl rfl⟩
      |some z=>rw[h3]at hx;injection hx with hx;exact .inl hx.symm
   ·cases hx
  ·intro k x hx;have h1:=eL k x (hM _ (kE hx));have h2:=NA _ (kE hx);dsimp only at h2 ⊢;rw[aB h2,h1];dsimp only;rw[hx]
  ·intro k hk h1 h2;dsimp only;rw[aB hk];cases hc:gF k with
   |none=>rfl
   |some x=>rw[h2,h1]
 obtain⟨c2,d1,d2,d3,d4⟩:=aH5;have Fh:∀ k x,c2 k=some x->x.owns=true->gF k=some x:=λk x hk hx=>by
  rcases d2 k x hk with rfl|⟨h1,_⟩
  ·cases hx
  ·exact h1
 have dI:aO B κ c2 w1:=by
  refine⟨c7.base,?_,?_,?_,?_,?_,?_,?_,?_,hm.oT.trans hle⟩
  ·intro k hk;cases aH6:κ k with
   |none=>rfl
   |some l=>
    obtain⟨q1,q2⟩:=Bt k l aH6;rcases(d1 k).1 hk with q|q
    ·omega
    ·rw[c7.dE k q]at q2;cases q2
  ·intro k x hk;have oF:k<next:=by
    rcases e9 k next with h|h
    ·exact h
    ·rw[(d1 k).2 (.inl h)]at hk;cases hk
   have gM:∃ y,gF k=some y:=by
    cases hc:gF k with
    |some y=>exact⟨y,rfl⟩
    |none=>rw[(d1 k).2 (.inr hc)]at hk;cases hk
   obtain⟨y,hy⟩:=gM;obtain⟨l,q1,q2⟩:=c7.born k y hy;refine⟨l,sO k oF l q1,?_⟩;rcases d2 k x hk with rfl|⟨h1,h2⟩
   ·trivial
   ·rw[hy]at h1;injection h1 with h1;subst h1;rcases h2 with h2|h2
    ·-- as it Zy
     have e0:cc k=some y:=(iq k oF h2).symm.trans hy;obtain⟨l0,p1,p2⟩:=hm.born k y e0;have p3:=jv k l0 p1;rw[q1]at p3;injection p3 with p3;subst p3;cases y with
     |aK cells ty=>
      obtain⟨b,cr,e1,e2,e3⟩:=q2;obtain⟨b0,Zz,f1,f2,f3⟩:=p2;rw[e1]at f1;injection f1 with f1 _ _;subst f1;have:cr=Zz:=Ff e2 (ow jv f2);subst this;exact⟨b,cr,e1,ow hle f2,e3⟩
     |row cells ty size=>
      rcases q2 with q2|⟨b,cap,cur,e1,e2,e3,e4,e5⟩
      ·exact .inl q2
      ·rcases p2 with p2|⟨b0,aH7,aVP,f1,f2,f3,f4,f5⟩
       ·rw[e1]at p2;cases p2.1
       ·have:=Ff e5 (ow jv f5);exact .inr ⟨b,cap,cur,e1,e2,e3,e4,by rw[this];exact ow hle f5⟩
     |view cells=>
      rcases q2 with q2|⟨b,o,cap,cr,e1,e2,e3⟩
      ·exact .inl q2
      ·rcases p2 with p2|⟨b0,o0,aH7,Zz,f1,f2,f3⟩
       ·rw[e1]at p2;cases p2.1
       ·have:=Ff e2 (ow jv f2);subst this;exact .inr ⟨b,o,cap,cr,e1,ow hle f2,e3⟩
     |fact F=>exact q2
     |dead=>trivial
    ·exact q2.below sO (SR _ (kE h2))
  ·intro k x b o cap hk hx hl;exact c7.own k x b o cap (Fh k x hk hx) hx (Bt k _ hl).2
  ·intro i j x y b o1 c1 o3 c3 hi hx hj hy hl cA;exact c7.inj i j x y b o1 c1 o3 c3 (Fh i x hi hx) hx (Fh j y hj hy) hy (Bt i _ hl).2 (Bt j _ cA).2
  ·intro i j x F b o cap v hi hx hl hj hv;have fY:gF j=some (.fact F):=by
    rcases d2 j _ hj with h|⟨h,_⟩
    ·cases h
    ·exact h
   exact c7.apart i j x F b o cap v (Fh i x hi hx) hx (Bt i _ hl).2 fY (Bt j _ hv).2
  ·intro k x b o cap hk hx hl;have aH8:gF k=some x:=by
    rcases d2 k x hk with rfl|⟨h1,_⟩
    ·cases hx
    ·exact h1
   obtain⟨q1,q2⟩:=c7.seen k x b o cap aH8 hx (Bt k _ hl).2;exact⟨q1,λj y o' aQ hj hy hm=>q2 j y o' aQ (Fh j y hj hy) hy (Bt j _ hm).2⟩
  ·intro j F hj;rcases d2 j _ hj with h|⟨h,_⟩
   ·cases h
   ·exact c7.fa j F h
  ·intro i j F F' hi hj;rcases d2 i _ hi with h|⟨h,_⟩
   ·cases h
   ·rcases d2 j _ hj with h'|⟨h',_⟩
    ·cases h'
    ·exact c7.one i j F F' h h'
 refine hQ κ c2 a1 w1 hle ⟨iG.defers,iG.size,λt=>?_⟩ dI (λk x hk=>d3 k x hk) (λk hk=>(d1 k).2 (.inl (dh hn hk))) (λk hk h1=>?_) iZ
 ·have hs:=(Zw iG nk).slot t;have:∀(l:aT),(∀ p∈l,l5 next p.2=true)->nO bZ (bK l t) (a1.tmps.getD t undef)->nO κ (bK l t) (a1.tmps.getD t undef):=by
   intro l;induction l with
   |nil=>intro _ _;exact .inl rfl
   |cons p l ih=>
    intro hl hc;obtain⟨s,v⟩:=p;by_cases bT:s=t
    ·subst bT;have e:bK ((s,v)::l) s=v:=by simp[bK]
     rw[e]at hc ⊢;exact hc.imp id λhc=>hc.low sO (hl _ (aR ..))
    ·have e:bK ((s,v)::l) t=bK l t:=by show(if Nat.beq s t then _ else _)=_;rw[oA bT];rfl
     rw[e]at hc ⊢;exact ih (λp hp=>hl p (bI _ hp)) hc
  exact this r2.fr Nz hs
 ·cases h2:ai r2.M k with
  |none=>rw[d4 k hk h1 h2,iq k hk h1]
  |some x=>rw[d3 k x h2,<-iq k hk h1];exact(eL k x (hM _ (kE h2))).symm
end
section
variable{P:j_}{B:aa}{N:Nat}
def NB(P:j_)(fr:aT)(M:aM):ResultVar->Option Value
 |.tmp t=>if mZ (bK fr t)then none else some (bK fr t)
 |.cell t ty=>match bK fr t with
  |.pointer (some ad)=>if mY ad then(match ai M ad.block with|some x=>if x.reads then dM P ty x.cells ad.off else none|none=>none)else none
  |_=>none
def Ka(P:j_)(fr:aT)(M:aM):List ResultVar->Option ak
 |[]=>some []
 |r::l=>match NB P fr M r with
  |some v=>match Ka P fr M l with|some vs=>some (v::vs)|none=>none
  |none=>none
def Bu(P:j_)(fn:Func)(fr:aT)(M:aM):Option Value:=
 match Ka P fr M fn.results.toList with
 |some [v]=>some v
 |some vs=>some (.tuple vs.toArray)
 |none=>none
def rv(tmps:p_):ResultVar->Sem Value
 |.tmp t=>pure (tmps.getD t undef)
 |.cell x t=>do loadVar t (<-asAddr (tmps.getD x undef))
theorem aH9{cc:Nat->Option Obj}{a:Act}(hf:fQ B ι (bK fr) N a)(hm:aO B ι cc w)(ha:cY cc M){r:ResultVar}{v:i_}
  (h:NB P fr M r=some v):∃ v',aL ι v v'/\(rv a.tmps r).run P w=.ok v' w:=by
 cases r with
 |tmp t=>
  unfold NB at h;dsimp only at h;split at h
  ·cases h
  ·rename_i hn;injection h with h;subst h;exact⟨_,(hf.slot t).Bc (by simpa using hn),rfl⟩
 |cell t ty=>
  unfold NB at h;dsimp only at h;split at h
  ·rename_i ad hx;split at h
   ·rename_i dY;split at h
    ·rename_i x hblk;split at h
     ·rename_i hrd;have hc:=hf.slot t;rw[hx]at hc;have hc:=hc.Bc rfl;rw[CZ dY]at hc;obtain⟨v',a',he,tU,qo⟩:=YA hm (ha _ _ hblk) hrd h hc;refine⟨v',tU,?_⟩;unfold rv;dsimp only;rw[he];simp[asAddr,qo]
     ·cases h
    ·cases h
   ·cases h
  ·cases h
theorem ZA{ι:Map}{cc:Nat->Option Obj}{fr:aT}{M:aM}{a:Act}{w:h_}(hf:fQ B ι (bK fr) N a)(hm:aO B ι cc w)(ha:cY cc M):∀(l:List ResultVar) {vs:ak},
  Ka P fr M l=some vs->∃ cV,bY (aL ι) vs cV/\(l.mapM (rv a.tmps)).run P w=.ok cV w
 |[],vs,h=>by injection h with h;subst h;exact⟨[],.nil,rfl⟩
 |r::l,vs,h=>by
  unfold Ka at h;split at h
  ·rename_i v hv;split at h
   ·rename_i vs1 aU;injection h with h;subst h;obtain⟨v',hc,qo⟩:=aH9 hf hm ha hv;obtain⟨cV,fZ,aIa⟩:=ZA hf hm ha l aU;refine⟨v'::cV,.cons hc fZ,?_⟩;rw[Kb,JS,qo,Result.andThen_ok,JS,aIa,Result.andThen_ok];rfl
   ·cases h
  ·cases h
theorem NC{cc:Nat->Option Obj}{a:Act}(hf:fQ B ι (bK fr) N a)(hm:aO B ι cc w)(ha:cY cc M){v:i_}
  (h:Bu P fn fr M=some v):∃ v',aL ι v v'/\(results fn a.tmps).run P w=.ok v' w:=by
 unfold Bu at h;cases hr:Ka P fr M fn.results.toList with
 |none=>rw[hr]at h;cases h
 |some vs=>
  obtain⟨cV,fZ,qo⟩:=ZA hf hm ha _ hr;have e:(results fn a.tmps).run P w=.ok (if h:cV.toArray.size=1 then cV.toArray[0]else .tuple cV.toArray) w:=by
   have e0:results fn a.tmps=(do let vs <-fn.results.mapM (rv a.tmps);pure (if h:vs.size=1 then vs[0]else .tuple vs)):=by
    unfold results
    congr 1
   rw[e0];rw[Array.mapM_eq_mapM_toList,JS,Sem.run_map,qo];rfl
  rw[e];rw[hr]at h;cases fZ with
  |nil=>injection h with h;subst h;exact⟨_,.same rfl,by simp⟩
  |cons h1 t1=>
   cases t1 with
   |nil=>injection h with h;subst h;exact⟨_,h1,by simp⟩
   |cons h2 t2=>injection h with h;subst h;exact⟨_,.tup (.cons h1 (.cons h2 t2)),by simp⟩
def jh:Nat->ak->aT
 |_,[]=>[]
 |i,v::l=>(i,v)::jh (i+1) l
theorem ND{ι:Map}:∀{l l':ak},bY (aL ι) l l'->∀(i t:Nat) (tail:ak),nO ι (bK (jh i l) t) (if i<=t then(l'++tail).getD (t-i) undef else undef)\/mZ (bK (jh i l) t)=true
 |_,_,.nil,i,t,tail=>.inr rfl
 |_,_,.cons (a:=v) (b:=v') (l:=l) (m:=m) h k,i,t,tail=>by
  by_cases zr:i=t
  ·subst zr;left;right;have e:bK (jh i (v::l)) i=v:=by simp[jh,bK]
   rw[e];simpa using h
  ·have e:bK (jh i (v::l)) t=bK (jh (i+1) l) t:=by show(if Nat.beq i t then _ else _)=_;rw[oA zr];rfl
   rw[e];rcases ND k (i+1) t tail with h1|h1
   ·left;by_cases al:i+1<=t
    ·rw[aB al]at h1;rw[aB o_];have:t-i=(t-(i+1))+1:=by omega
     rw[this];simpa using h1
    ·by_cases hle:i<=t
     ·omega
     ·rw[az al]at h1;rw[az hle];exact h1
   ·exact .inr h1
theorem ZB{c:Code}{Q:Exit->Act->World->Prop}{a:Act}{n:Nat}(h:c.wpIn (FW none) n P Q a w):c.wp P Q a w:=wpIn_wide.1 h
theorem aIb{c:Code}{next:Nat}{r:mF}{v:i_}{cc:Nat->Option Obj}
  (hf:P.funcs[f]?=some fn) (hb:fn.body=some c) (hN:N=args.length+(fn.ntmps-args.length)) (g:ah P B N c (jh 0 args) M next r) (hex:(match r.ex with|.exit _=>false|_=>true)=true)
  (hv:Bu P fn r.fr r.M=some v) (dL:bY (aL ι) args args') (hm:aO B ι cc w) (ha:cY cc M) (hu:eK cc next)
  (hQ:∀ aA ct v' w',Map.le ι aA->aL aA v v'->aO B aA ct w'->cY ct r.M->eK ct r.next->(∀ k,k<next->ai M k=none->ct k=cc k)->Q (.returned v') w') (nq:B.ds=[]:=by rfl):Calls P f args'.toArray w Q:=by
 refine calls_of_wp hf hb ?_;have nk:fQ B ι (bK (jh 0 args)) N { tmps:=args'.toArray++Array.replicate (fn.ntmps-args'.toArray.size) undef,defers:=[]}:=by
  refine⟨nq.symm,by simp[hN,dL.length],λt=>?_⟩;rcases ND dL 0 t (List.replicate (fn.ntmps-args'.length) undef)with h|h
  ·simp only[lG,rz,Hw]at h;have e:(args'.toArray++Array.replicate (fn.ntmps-args'.toArray.size) undef).getD t undef=(args'++List.replicate (fn.ntmps-args'.length) undef).getD t undef:=by simp[qv,E1,<-Array.getElem?_toList]
   dsimp only;rw[e];exact h
  ·exact .inl h
 refine ZB (g none ι cc _ w _ nk hm ha hu λaA ct a' w' hle xk bJ jk pJ gL _=>by
  obtain⟨v',hc,qo⟩:=NC (fn:=fn) xk bJ jk hv;have fin:=hQ aA ct v' w' hle hc bJ jk pJ gL;cases hx:r.ex with
  |normal=>exact⟨xk.defers.trans nq,v',qo,fin⟩
  |ret=>exact⟨xk.defers.trans nq,v',qo,fin⟩
  |exit id=>rw[hx]at hex;cases hex)
def hJ(fn:Func)(n:Nat)(args:ak)(M:aM)(next:Nat)(rs:bM P B N):Option (Value×kj P B N):=
 match fn.body with
 |some c=>match ji n c (jh 0 args) M next rs with
  |some r=>match (match r.ex with|.exit _=>none|_=>Bu P fn r.fr r.M)with
   |some v=>some (v,r)
   |none=>none
  |none=>none
 |none=>none
def oX(o:Option (Value×kj P B N))(ms:aM):Bool×Option (Value×List (Option Obj)×List oB):=
 match o with
 |some r=>(true,some (r.1,ms.map λp=>ai r.2.M p.1,r.2.tr.map (·.1)))
 |none=>(true,none)
def oY(o:Option (Value×kj P B N))(v:i_)(ms:aM):Bool×Option (Value×List (Option Obj)×List oB):=
 match o with
 |some r=>(true,some (v,ms.map λp=>some p.2,r.2.tr.map (·.2)))
 |none=>(false,none)
theorem NF:∀{tr:vY},tr.map (·.1)=tr.map (·.2)->sI tr
 |[],_=>λp hp=>by cases hp
 |q::l,h=>by
  simp only[oZ]at h;injection h with h1 h2;intro p hp;rcases cD.1 hp with rfl|hp
  ·exact h1
  ·exact NF h2 p hp
theorem NG{M:aM}:∀{ms:aM},(ms.map λp=>ai M p.1)=(ms.map λp=>some p.2)->∀ p∈ms,ai M p.1=some p.2
 |[],_=>λp hp=>by cases hp
 |q::l,h=>by
  simp only[oZ]at h;injection h with h1 h2;intro p hp;rcases cD.1 hp with rfl|hp
  ·exact h1
  ·exact NG h2 p hp
theorem SS{next:Nat}{rs:bM P B N}{v:i_}{cc:Nat->Option Obj}(iO:P.follows .mixedOrders=true)
  (hf:P.funcs[f]?=some fn) (hN:N=args.length+(fn.ntmps-args.length)) (n:Nat) (h:oX (hJ (P:=P) fn n args M next rs) ms=oY (hJ fn n args M next rs) v ms)
  (dL:bY (aL ι) args args') (hm:aO B ι cc w) (ha:cY cc M) (hu:eK cc next)
  (hQ:∀ aA ct v' w',Map.le ι aA->aL aA v v'->aO B aA ct w'->(∀ p∈ms,ct p.1=some p.2)->(∀ k,k<next->ai M k=none->ct k=cc k)->Q (.returned v') w') (nq:B.ds=[]:=by rfl):Calls P f args'.toArray w Q:=by
 cases ho:hJ (P:=P) fn n args M next rs with
 |none=>rw[ho]at h;cases h
 |some r=>
  rw[ho]at h;unfold oX oY at h;dsimp only at h;injection h with _ h;injection h with h;injection h with h1 h;injection h with h2 h3;have hs:=NF h3;have dP:=NG h2;unfold hJ at ho;split at ho
  ·rename_i c hb;split at ho
   ·rename_i r' hr;split at ho
    ·rename_i v' hv;injection ho with ho;subst ho;dsimp only at h1 hs dP;subst h1;have g:=((SM (P:=P) (B:=B) (N:=N) iO n).1 c _ M next rs r' hr hs).1;have hex:(match r'.out.ex with|.exit _=>false|_=>true)=true:=by
      show(match r'.ex with|.exit _=>false|_=>true)=true;cases hx:r'.ex with
      |exit id=>rw[hx]at hv;cases hv
      |normal=>rfl
      |ret=>rfl
     have rC:Bu P fn r'.out.fr r'.out.M=some v':=by
      show Bu P fn r'.fr r'.M=some v';cases hx:r'.ex with
      |exit id=>rw[hx]at hv;cases hv
      |normal=>rw[hx]at hv;exact hv
      |ret=>rw[hx]at hv;exact hv
     exact aIb hf hb hN g hex rC dL hm ha hu (λaA ct v2 w' hle hc bJ jk pJ gL=>hQ aA ct v2 w' hle hc bJ (λp hp=>jk _ _ (dP p hp)) gL) nq
    ·cases ho
   ·cases ho
  ·cases ho
theorem u9{next:Nat}{rs:bM P B N}{v:i_}{cc:Nat->Option Obj}(iO:P.follows .mixedOrders=true)
  (hf:P.funcs[f]?=some fn) (hN:N=args.length+(fn.ntmps-args.length)) (n:Nat) (h:oX (hJ (P:=P) fn n args M next rs) ms=oY (hJ fn n args M next rs) v ms)
  (dL:bY (aL ι) args args') (hm:aO B ι cc w) (ha:cY cc M) (hu:eK cc next)
  (hQ:∀ aA ct v' w',Map.le ι aA->aL aA v v'->aO B aA ct w'->(∀ p∈ms,ct p.1=some p.2)->Q (.returned v') w') (nq:B.ds=[]:=by rfl):Calls P f args'.toArray w Q:=
 SS iO hf hN n h dL hm ha hu (λaA ct v' w' h1 h2 h3 h4 _=>hQ aA ct v' w' h1 h2 h3 h4) nq
def Kc(o:Option (kj P B N))(fr:aT)(M:aM):Bool×Option (Ex×ak×List (Option Obj)×Bool×List oB):=
 match o with
 |some r=>(true,some (r.ex,fr.map λp=>bK r.fr p.1,M.map λp=>ai r.M p.1,true,r.tr.map (·.1)))
 |none=>(true,none)
def Kd(o:Option (kj P B N))(ex:Ex)(fr:aT)(M:aM)(next:Nat):Bool×Option (Ex×ak×List (Option Obj)×Bool×List oB):=
 match o with
 |some r=>(true,some (ex,fr.map λp=>p.2,M.map λp=>some p.2,Nat.ble r.next next,r.tr.map (·.2)))
 |none=>(false,none)
theorem NH{Bq:aT}:∀{fr:aT},(fr.map λp=>bK Bq p.1)=(fr.map λp=>p.2)->∀ p∈fr,bK Bq p.1=p.2
 |[],_=>λp hp=>by cases hp
 |q::l,h=>by
  simp only[oZ]at h;injection h with h1 h2;intro p hp;rcases cD.1 hp with rfl|hp
  ·exact h1
  ·exact NH h2 p hp
theorem fF(iO:P.follows .mixedOrders=true){c:Code}{next:Nat}(n:Nat)(rs:bM P B N){r:mF}
  (h:Kc (ji n c fr M next rs) r.fr r.M=Kd (ji n c fr M next rs) r.ex r.fr r.M r.next):ah P B N c fr M next r:=by
 cases ho:ji n c fr M next rs with
 |none=>rw[ho]at h;cases h
 |some r1=>
  rw[ho]at h;unfold Kc Kd at h;dsimp only at h;injection h with _ h;injection h with h;injection h with h1 h;injection h with h2 h;injection h with h3 h;injection h with h4 h5;obtain⟨g,_⟩:=(SM (P:=P) (B:=B) (N:=N) iO n).1 c fr M next rs r1 ho (NF h5);exact g.to h1 (NH h2) (NG h3) (sE h4.symm)
theorem ua(iO:P.follows .mixedOrders=true){c:Code}{next:Nat}(n:Nat)(rs:bM P B N){r:mF}{gN:Nat}
  (h:Kc (ji n c fr M next rs) r.fr r.M=Kd (ji n c fr M next rs) r.ex r.fr r.M gN) (hn:r.next=next) (Nz:(r.fr.all λp=>l5 next p.2)=true) (SR:∀ p∈r.M,fE next p.2) (NA:(r.M.all λp=>Nat.blt p.1 next)=true) :
  ah P B N c fr M next r:=by
 cases ho:ji n c fr M next rs with
 |none=>rw[ho]at h;cases h
 |some r1=>
  rw[ho]at h;unfold Kc Kd at h;dsimp only at h;injection h with _ h;injection h with h;injection h with h1 h;injection h with h2 h;injection h with h3 h;injection h with h4 h5;obtain⟨g,_⟩:=(SM (P:=P) (B:=B) (N:=N) iO n).1 c fr M next rs r1 ho (NF h5);rw[bB]at Nz NA;exact g.reset h1 (NH h2) Nz (NG h3) SR (λp hp=>by simpa[Bm]using NA p hp) (vT hn.symm)
def aG(P:j_)(f:FuncId)(args:ak)(res:i_):Prop:=
 ∀ w:World,Calls P f args.toArray w λe w'=>e=.returned res/\Below w.heap.size w w'
theorem ub(w:h_):aO (aa.at w) (λ_=>none) (λ_=>none) w:=
 ⟨Below.refl _ _,λ_ _=>rfl,λk x h=>(by cases h),λk x b o cap h=>(by cases h),λk j x y b o cap o' aQ h=>(by cases h),λk j x F b o cap v h=>(by cases h),λk x b o cap h=>(by cases h),λj F h=>(by cases h),λj k F F' h=>(by cases h),λ_ _ h=>(by cases h)⟩
theorem eY{v:i_}(iO:P.follows .mixedOrders=true)(hf:P.funcs[f]?=some fn)(n:Nat)(rs:∀ w,bM P (aa.at w) (args.length+(fn.ntmps-args.length)))
  (h:∀ w,oX (hJ (P:=P) fn n args [] 0 (rs w)) []=oY (hJ fn n args [] 0 (rs w)) v []) (dL:args.all flat=true) (hv:flat v=true):aG P f args v:=by
 intro w;rw[bB]at dL;exact u9 iO hf rfl n (h w) (k6 dL) (ub w) n_ (λ_ _=>rfl) λaA ct v' w' _ hc hm _=>⟨by rw[hc.fD hv],hm.base⟩
def aG.at(h:aG P f args res)(key:Nat):aY P B N:=.call key f args res λw _=>h w
end
def dp(w:h_)(v:i_)(n:Nat)(xs:ak):Prop:=
 (v=.slice none 0 0/\n=0/\xs=[])\/∃ b o c',v=.slice (some ⟨b,o,none⟩) n c'/\n<=c'/\b<w.heap.size/\∀ j u,xs[j]?=some u->w.cell? ⟨b,o+j,none⟩=some u
section
variable{P:j_}{B:aa}{N:Nat}
theorem dp.jJ{v:i_}{n:Nat}(h:dp w v n xs)(hb:Below w.heap.size w w'):dp w' v n xs:=by
 rcases h with h|⟨b,o,c',h1,h2,h3,h4⟩
 ·exact .inl h
 ·exact .inr ⟨b,o,c',h1,h2,cF h3 hb.size,λj u hj=>by rw[hb.cell h3];exact h4 j u hj⟩
theorem dp.ZC{base:Nat}{v:i_}{n:Nat}(h:w.ownsRow base ty size v n xs):dp w v n xs:=by
 rcases h.2 with ⟨h1,h2⟩|⟨g,cap,cur,h1,h2,h3,h4,h5,h6,h7⟩
 ·have:=h.1;rw[h2,kQ]at this;exact .inl ⟨h1,h2,k8 this⟩
 ·refine .inr ⟨g,0,cap,h1,h4,(zt.1 h3).1,λj u hj=>?_⟩;rw[<-h7,uU]at hj;split at hj
  ·have:cur[j]?=some u:=by simpa using hj
   simp[World.cell?,h3,this]
  ·cases hj
theorem o7(hm:aO B ι c w){n:Nat}{x:Obj}{v:i_}(hk:c k=some x)(hx:x.reads=true)(cR:∀ u∈x.cells,flat u=true)
  (hlen:n=0->len=0) (hc:aL ι (.slice (some ⟨k,off,some 7⟩) n cc) v):dp w v n ((x.cells.drop off).take len):=by
 rcases hc.iC rfl with ⟨hb,kN,qt,zi,he⟩|⟨b,oo,cap,c',hb,k7,ni,he⟩
 ·exact .inl ⟨he,kN,by rw[hlen kN];rfl⟩
 ·dsimp only at hb he;obtain⟨l,h1,h2⟩:=hm.born k x hk;rw[hb]at h1;injection h1 with h1;subst h1;obtain⟨cr,fZ,lD⟩:=h2.at hx;have fZ:=nQ fZ cR;subst fZ;refine .inr ⟨b,oo+off,c',he,k7,?_,λj u hj=>?_⟩
  ·by_cases ho:x.owns=true
   ·exact(hm.own k x b oo cap hk ho hb).1
   ·have hv:x.kh=true:=by unfold Obj.reads at hx;rw[u5]at hx;exact hx.resolve_left ho
    exact(hm.seen k x b oo cap hk hv hb).1
  ·rw[uU]at hj;split at hj
   ·rw[Hl]at hj;rw[uW];exact lD _ _ hj
   ·cases hj
theorem zu(hm:aO B ι c w){n:Nat}{v:i_}(hk:c k=none)(h:dp w v n xs)(cR:∀ u∈xs,flat u=true)
  (fU:∀ b o c',v=.slice (some ⟨b,o,none⟩) n c'->∀ j y o' aQ,c j=some y->y.owns=true->ι j≠some (.at b o' aQ)) :
  ∃ aA,Map.le ι aA/\aO B aA (bt c k (.view xs)) w/\aL aA (.slice (some ⟨k,0,some 7⟩) n 0) v:=by
 rcases h with ⟨h1,h2,h3⟩|⟨b,o,c',h1,h2,h3,h4⟩
 ·subst h1;subst h2;subst h3;exact⟨dR ι k .nil,gZ (hm.dE k hk),hm.add hk (.inl ⟨rfl,rfl⟩) n_ n_ n_,.slcN (fX _ _ _)⟩
 ·subst h1;refine⟨dR ι k (.at b o c'),gZ (hm.dE k hk),hm.add hk (.inr ⟨b,o,c',xs,rfl,k6 cR,h4⟩) n_ n_ (λb1 o1 lY _ e=>?_),.slc (off:=0) (fX _ _ _) h2 o_⟩;injection e with e1 e2 e3;subst e1;exact⟨h3,λj y o' aQ hj hy=>fU b o c' rfl j y o' aQ hj hy⟩
theorem Fi(hm:aO B ι c w)(hb:Below w.heap.size w w'){n:Nat}{v:i_}(hk:c k=none)(h:w'.ownsRow w.heap.size ty size v n xs)(cR:∀ u∈xs,flat u=true):
  ∃ aA,Map.le ι aA/\aO B aA (bt c k (.row xs ty size)) w'/\aL aA (.slice (some ⟨k,0,some 7⟩) n 0) v:=by
 have bJ:=hm.call hb;rcases h.2 with ⟨h1,h2⟩|⟨g,cap,cur,h1,h2,h3,h4,h5,h6,h7⟩
 ·have hl:=h.1;rw[h2,kQ]at hl;have hx:xs=[]:=k8 hl;subst h1;subst h2;subst hx;exact⟨dR ι k .nil,gZ (hm.dE k hk),bJ.add hk (.inl ⟨rfl,rfl⟩) n_ n_ n_,.slcN (fX _ _ _)⟩
 ·subst h1;refine⟨dR ι k (.at g 0 cap),gZ (hm.dE k hk),hm.new hb hk (.inr ⟨g,cap,cur,rfl,h3,h5,h6,?_⟩) (λb o cap _ e=>?_) n_ rfl,.slc (o:=0) (off:=0) (fX _ _ _) h4 o_⟩
  ·rw[h.1,h7];exact k6 cR
  ·injection e with e1 e2 e3;subst e1;exact⟨h2,(zt.1 h3).1⟩
theorem ZD(hm:aO B ι c w)(hb:Below w.heap.size w w'){n:Nat}{v:i_}(hk:c k=none)(h:w'.ownsRow w.heap.size ty size v n xs)(cR:∀ u∈xs,flat u=true):
  ∃ aA,Map.le ι aA/\aO B aA (bt c k (.view xs)) w'/\aL aA (.slice (some ⟨k,0,some 7⟩) n 0) v:=by
 refine zu (hm.call hb) hk (.ZC h) cR λb o c' e j y o' aQ hj hy he=>?_;have h1:=(hm.own j y b o' aQ hj hy he).1;rcases h.2 with ⟨h2,_⟩|⟨g,cap,cur,h2,h3,_⟩
 ·rw[h2]at e;cases e
 ·rw[h2]at e;injection e with e1 e2;injection e1 with e1;injection e1 with e1;omega
theorem xm(hm:aO (aa.at w) ι c w'){n:Nat}{cells:ak}{v:i_}(hk:c k=some (.row cells ty size))(hv:aL ι (.slice (some ⟨k,0,some 7⟩) n 0) v)
  (hn:n*size<=cells.length) (cR:∀ u∈cells,flat u=true):w'.ownsRow w.heap.size ty size v n (cells.take (n*size)):=by
 have hl:(cells.take (n*size)).length=n*size:=by rw[jK];omega
 refine⟨hl,?_⟩;rcases hv.iC rfl with ⟨hb,kN,qt,zi,he⟩|⟨b,oo,cap,c',hb,k7,ni,he⟩
 ·exact .inl ⟨he,kN⟩
 ·dsimp only at hb he;have kP:c'=cap:=by omega
  subst kP;obtain⟨l,h1,h2⟩:=hm.born k _ hk;rw[hb]at h1;injection h1 with h1;subst h1;have dY:=hm.own k _ b oo c' hk rfl hb;rcases h2 with h2|⟨b',aQ,cur,e1,mD,dN,fZ,jt⟩
  ·cases h2.1
  ·injection e1 with e1 e2 e3;subst e1;subst e2;subst e3;refine .inr ⟨b,c',cur,by rw[he],?_,mD,k7,dN,fZ,?_⟩
   ·rcases e9 b w.heap.size with h|h
    ·exact absurd h dY.2
    ·exact h
   ·have:=nQ jt cR;have h3:=cS (List.take (n*size)) this;rw[Nd,oz hn]at h3;exact h3
inductive cG where
 |plain (v:i_)
 |row (v:i_) (n:Nat) (xs:ak)
def cG.real:cG->Value
 |.plain v=>v
 |.row v _ _=>v
def cG.OK(w:h_):cG->Prop
 |.plain v=>flat v=true
 |.row v n xs=>dp w v n xs/\∀ u∈xs,flat u=true
def sP:Nat->List cG->ak
 |_,[]=>[]
 |k,.plain v::l=>v::sP k l
 |k,.row _ n _::l=>.slice (some ⟨k,0,some 7⟩) n 0::sP (k+1) l
def vf:Nat->List cG->aM
 |_,[]=>[]
 |k,.plain _::l=>vf k l
 |k,.row _ _ xs::l=>(k,.view xs)::vf (k+1) l
def uc:Nat->List cG->Nat
 |k,[]=>k
 |k,.plain _::l=>uc k l
 |k,.row _ _ _::l=>uc (k+1) l
theorem SV{w:h_}:∀(l:List cG) (k:Nat) (ι:Map) (c:Nat->Option Obj),aO B ι c w->(∀ j x,c j=some x->x.owns=false)->eK c k->(∀ s∈l,cG.OK w s)->
  ∃ aA c',Map.le ι aA/\aO B aA c' w/\(∀ j x,c' j=some x->x.owns=false)/\eK c' (uc k l)/\cY c' (vf k l)/\(∀ j,j<k->c' j=c j)/\bY (aL aA) (sP k l) (l.map cG.real)/\k<=uc k l
 |[],k,ι,c,hm,ho,hu,_=>⟨ι,c,Map.le.refl _,hm,ho,hu,λk x h=>(by cases h),λ_ _=>rfl,.nil,bF _⟩
 |.plain v::l,k,ι,c,hm,ho,hu,hl=>by obtain⟨aA,c',h1,h2,h3,h4,h5,h6,h7,h8⟩:=SV l k ι c hm ho hu λs hs=>hl s (bI _ hs);exact⟨aA,c',h1,h2,h3,h4,h5,h6,.cons (.same (hl _ (aR ..))) h7,h8⟩
 |.row v n xs::l,k,ι,c,hm,ho,hu,hl=>by
  obtain⟨hr,cR⟩:=hl _ (aR ..);obtain⟨bZ,q1,q2,q3⟩:=zu hm (hu k (bF _)) hr cR λb o c' _ j y o' aQ hj hy=>by rw[ho j y hj]at hy;cases hy
  obtain⟨aA,c',h1,h2,h3,h4,h5,h6,h7,h8⟩:=SV l (k+1) bZ _ q2 (λj x hj=>by
   unfold bt at hj;split at hj
   ·injection hj with hj;subst hj;rfl
   ·exact ho j x hj) (λj hj=>by
   unfold bt;rw[az o_];exact hu j o_) λs hs=>hl s (bI _ hs)
  refine⟨aA,c',q1.trans h1,h2,h3,h4,λj x hj=>?_,λj hj=>?_,.cons (q3.mono h1) h7,by show k<=uc (k+1) l;omega⟩
  ·unfold vf ai at hj;split at hj
   ·rename_i hb;injection hj with hj;subst hj;rw[<-k9 hb,h6 k o_];unfold bt;rw[aB rfl]
   ·exact h5 j x hj
  ·rw[h6 j o_];unfold bt;rw[az o_]
theorem l9{v:i_}(iO:P.follows .mixedOrders=true)(hf:P.funcs[f]?=some fn)(l:List cG)(hl:∀ s∈l,cG.OK w s)(n:Nat){N:Nat}(hN:N=(sP 0 l).length+(fn.ntmps-(sP 0 l).length))
  {rs:bM P (aa.at w) N}
  (h:oX (hJ (P:=P) fn n (sP 0 l) (vf 0 l) (uc 0 l) rs) ms=oY (hJ fn n (sP 0 l) (vf 0 l) (uc 0 l) rs) v ms)
  (hQ:∀ aA ct v' w',aL aA v v'->aO (aa.at w) aA ct w'->(∀ p∈ms,ct p.1=some p.2)->bY (aL aA) (sP 0 l) (l.map cG.real)->Q (.returned v') w'):Calls P f (l.map cG.real).toArray w Q:=by
 obtain⟨ι,c,h1,h2,h3,h4,h5,h6,h7,h8⟩:=SV (B:=aa.at w) l 0 _ _ (ub w) n_ (λ_ _=>rfl) hl;exact u9 iO hf hN n h h7 h2 h5 h4 λaA ct v' w' hle hc hm dP=>hQ aA ct v' w' hc hm dP (h7.imp λ_ _ _ h=>h.mono hle)
def dF:Op->Option Operand
 |.call ⟨.value x,_,_⟩=>some x
 |_=>none
theorem jY{x:m_}{fi:ak}{val:i_}{cZ:aM}(ho:dF o.op=some x)(fe:gg P f=true)
  (h:∀ ι c w,aO B ι c w->(∀ p∈need,c p.1=p.2)->∀ args',bY (aL ι) (fi++args++ca) args'->Calls P f args'.toArray w λe w'=>∃ aA v',e=.returned v'/\Map.le ι aA/\aL aA val v'/\aO B aA (lZ c cZ) w') :
  cI P B o (.func (.func f) fi.toArray ca.toArray::args) need val cZ:=by
 intro R ι c a w hv hm hn K Q hK;obtain⟨dst,op,ty,pos,after,guard⟩:=o;dsimp only at ho hv;unfold dF at ho;split at ho
 ·rename_i x' lH xf;injection ho with ho;subst ho;have zf:(Op.operands (.call ⟨.value x',lH,xf⟩)).toList=x'::lH.toList:=by simp[Op.operands,Call.operands]
  rw[zf]at hv;cases hv with
  |cons hx sG=>
  obtain⟨kg,eg,he,h1,h2⟩:=hx.Bb;have bh:=(h1.append sG).append h2;dsimp only at bh;have e3:execOp a.eval ⟨dst,.call ⟨.value x',lH,xf⟩,ty,pos,after,guard⟩=callFunc f (kg++lH.map a.eval++eg):=by have:execOp a.eval ⟨dst,.call ⟨.value x',lH,xf⟩,ty,pos,after,guard⟩=(do let d <-Deferred.ofValue (a.eval x') (lH.map a.eval);invoke d.target d.args):=rfl;rw[this,he];rfl
  have e4:(kg++lH.map a.eval++eg:p_)=(kg.toList++List.map a.eval lH.toList++eg.toList).toArray:=by apply EW;simp
  refine⟨λ_ _=>trivial,?_⟩;rw[M6 _ _ _ n_,e3,e4,Nl fe,Oper.uponIn_enter];refine⟨λe=>(by cases e),JX.2 ((h ι c w hm hn _ bh).mono ?_)⟩
  rintro e w' ⟨aA,v',rfl,q1,q2,q3⟩
  exact hK aA v' w' q1 q2 q3
 ·cases ho
end
def zv:Code->Nat->Option Oper
 |.region _ ops _,k=>ops.toList.find? λo=>Nat.beq (Nk o) k
 |.seq x y,k=>match zv x k with|some o=>some o|none=>zv y k
 |.cond _ x y,k=>match zv x k with|some o=>some o|none=>zv y k
 |.block _ b,k=>zv b k
 |.loop b,k=>zv b k
 |.scope b,k=>zv b k
 |.rangeFunc _ _ x y,k=>match zv x k with|some o=>some o|none=>zv y k
 |_,_=>none
def au(fn:Func)(k:Nat):Oper:=match fn.body with|some c=>(match zv c k with|some o=>o|none=>default)|none=>default
def zw:Code->Nat->Option Code
 |.seq x y,k=>match zw x k with|some o=>some o|none=>zw y k
 |.cond _ x y,k=>match zw x k with|some o=>some o|none=>zw y k
 |.block id b,k=>if Nat.beq id k then some b else zw b k
 |.loop b,k=>zw b k
 |.scope b,k=>zw b k
 |.rangeFunc _ _ x y,k=>match zw x k with|some o=>some o|none=>zw y k
 |_,_=>none
def ag(fn:Func)(k:Nat):Code:=match fn.body with|some c=>(match zw c k with|some o=>o|none=>.skip)|none=>.skip
def aI(c:Code):Code:=match c with|.loop b=>b|_=>.skip
section
variable{P:j_}{B:aa}{N:Nat}
def vI(n:Nat):Value:=.int .i64 n
def aY.sum(key i j s:Nat)(h:s=i+j)(hs:s<9223372036854775808):aY P B N:=
 .rw key (.int .i64 (IntKind.i64.wrap ((i:Int)+(j:Int)))) (vI s) (by
  have e:IntKind.i64.wrap ((i:Int)+(j:Int))=(s:Int):=by rw[eh];omega
  rw[e];rfl)
def aY.fq(key i j s:Nat)(h:i=s+j)(hs:i<9223372036854775808):aY P B N:=
 .rw key (.int .i64 (IntKind.i64.wrap ((i:Int)-(j:Int)))) (vI s) (by
  have e:IntKind.i64.wrap ((i:Int)-(j:Int))=(s:Int):=by rw[eh];omega
  rw[e];rfl)
def aY.lt(key i n:Nat)(b:Bool)(h:decide (i<n)=b):aY P B N:=
 .rw key (.bool (decide ((i:Int)<(n:Int)))) (.bool b) (by rw[<-h];congr 1;rw[qx];omega)
def aY.gt(key i n:Nat)(b:Bool)(h:decide (n<i)=b):aY P B N:=
 .rw key (.bool (decide ((i:Int)>(n:Int)))) (.bool b) (by rw[<-h];congr 1;rw[qx];omega)
def aY.ge(key i n:Nat)(b:Bool)(h:decide (n<=i)=b):aY P B N:=
 .rw key (.bool (decide ((i:Int)>=(n:Int)))) (.bool b) (by rw[<-h];congr 1;rw[qx];omega)
def aY.gO(key i n:Nat)(b:Bool)(h:decide (i=n)=b):aY P B N:=
 .rw key (.bool ((i:Int)==(n:Int))) (.bool b) (by
  rw[<-h];congr 1
  by_cases hi:i=n
  ·subst hi;simp
  ·have:¬((i:Int)=(n:Int)):=by omega
   rw[bd hi];simpa using this)
def aY.wr(key:Nat)(k:IntKind)(m m':Int)(h:k.wrap m=m'):aY P B N:=.rw key (.int k (k.wrap m)) (.int k m') (by rw[h])
def aY.quo(key:Nat)(k:IntKind)(m m':Int)(h:m=m'):aY P B N:=.rw key (.int k m) (.int k m') (by rw[h])
def xn(P:j_)(o:Oper):Option Nat:=match o.op with
 |.indexAddr t _ _=>match P.underlying t with|some (.slice e)=>(match P.info? e with|some i=>some i.size|none=>none)|_=>none
 |_=>none
theorem NI{s:Nat}(ho:xn P o=some s){n:Nat}{kd:IntKind}(hi:i<n):
  cI P B o [.slice (some ⟨k,off,some 7⟩) n cc,.int kd i] [] (.pointer (some ⟨k,off+i*s,some 7⟩)) []:=by
 unfold xn at ho;split at ho
 ·rename_i t x y ck;split at ho
  ·rename_i e ht;split at ho
   ·rename_i inf Bg;injection ho with ho;have:=YH (P:=P) (B:=B) ck ht Bg (kd:=kd) (n:=(i:Int)) (len:=n) (cc:=cc) o_ o_ k off;rw[Int.toNat_natCast,ho]at this;exact this.step
   ·cases ho
  ·cases ho
 ·cases ho
def aY.ix(fn:Func)(key k n i:Nat)(hi:i<n)(ho:xn P (au fn key)=some 1):aY P B N:=
 .step key (au fn key) [.slice (some ⟨k,0,some 7⟩) n 0,vI i] [] (.pointer (some ⟨k,i,some 7⟩)) [] (by have:=NI (B:=B) ho (k:=k) (off:=0) (cc:=0) (kd:=.i64) hi;rw[kB,gP]at this;exact this)
def aY.xo(fn:Func)(key k off n cc i:Nat)(hi:i<n)(ho:xn P (au fn key)=some 1):aY P B N:=
 .step key (au fn key) [.slice (some ⟨k,off,some 7⟩) n cc,vI i] [] (.pointer (some ⟨k,off+i,some 7⟩)) [] (by have:=NI (B:=B) ho (k:=k) (off:=off) (cc:=cc) (kd:=.i64) hi;rw[gP]at this;exact this)
def aY.c8(fn:Func)(key k n i s:Nat)(hi:i<n)(ho:xn P (au fn key)=some s):aY P B N:=
 .step key (au fn key) [.slice (some ⟨k,0,some 7⟩) n 0,vI i] [] (.pointer (some ⟨k,i*s,some 7⟩)) [] (by have:=NI (B:=B) ho (k:=k) (off:=0) (cc:=0) (kd:=.i64) hi;rw[kB]at this;exact this)
def SX(o:Oper):Option TypeId:=match o.op with|.load t _=>some t|_=>none
theorem aIc{t:TypeId}(ho:SX o=some t){x:Obj}{v:i_}(hx:x.reads=true)(hv:dM P t x.cells off=some v):cI P B o [.pointer (some ⟨k,off,some 7⟩)] [(k,some x)] v []:=by
 unfold SX at ho;split at ho
 ·rename_i t' y ck;injection ho with ho;subst ho;exact(YC ck hx hv).step
 ·cases ho
def aY.ld(fn:Func)(key t k off:Nat)(x:Obj)(v:i_)(hx:x.reads=true)(hv:dM P t x.cells off=some v)(ho:SX (au fn key)=some t):aY P B N:=
 .step key (au fn key) [.pointer (some ⟨k,off,some 7⟩)] [(k,some x)] v [] (aIc ho hx hv)
def ZE(o:Oper):Option TypeId:=match o.op with|.store t _ _=>some t|_=>none
def aY.st(fn:Func)(key t k off:Nat)(x:Obj)(v:i_)(y:Obj)(hx:x.owns=true)(hv:fp P t x.cells off v=some y.cells)(hy:y=x.M5 y.cells)(ho:ZE (au fn key)=some t):aY P B N:=
 .step key (au fn key) [.pointer (some ⟨k,off,some 7⟩),v] [(k,some x)] undef [(k,y)] (by
  unfold ZE at ho;split at ho
  ·rename_i t' a b ck;injection ho with ho;subst ho;rw[hy];exact(YD ck hx hv).step
  ·cases ho)
def NJ(P:j_)(o:Oper):Option (TypeId×Nat×Nat×Value):=match o.op with
 |.makeSlice t _ _=>match P.underlying t with
  |some (.slice e)=>(match P.info? e with|some i=>(match i.zero with|some z=>some (e,i.size,i.bytes,z)|none=>none)|none=>none)
  |_=>none
 |_=>none
def aY.qy(fn:Func)(key k n e bytes:Nat)(z:i_)(cells:ak)(hc:List.replicate n z=cells)(hf:flat z=true)(hz:z.cells=#[z])(hb:bytes*n<=281474976710656)(hn:n<=maxLen)(ho:NJ P (au fn key)=some (e,1,bytes,z)):aY P B N:=
 .step key (au fn key) [vI n,vI n] [(k,none)] (.slice (some ⟨k,0,some 7⟩) n 0) [(k,.row cells e 1)] (by
  subst hc;unfold NJ at ho;split at ho
  ·rename_i t a b ck;split at ho
   ·rename_i e' ht;split at ho
    ·rename_i i hi;split at ho
     ·rename_i z' ox;injection ho with ho;injection ho with h1 ho;injection ho with h2 ho;injection ho with h3 h4;subst h1;subst h4;have:=YJ (P:=P) (B:=B) ck ht hi ox (kl:=.i64) (kc:=.i64) (l:=n) (cp:=n) (bF _) (by rw[h3];exact hb) hn (cells:=List.replicate n z') (by rw[h2,gP,hz,toList_madeCells_one,kG s_]) (by rw[h2];simp) (λv hv=>by rw[List.eq_of_mem_replicate hv];exact hf) k
      rw[h2]at this;exact this.step
     ·cases ho
    ·cases ho
   ·cases ho
  ·cases ho)
def sQ(P:j_)(o:Oper):Option (Bool×Bool×Nat):=match o.op with
 |.slice t _ lo hi none=>match P.underlying t with
  |some (.slice e)=>(match P.info? e with|some i=>some (lo.isSome,hi.isSome,i.size)|none=>none)
  |_=>none
 |_=>none
theorem Hx{lo hi:Bool}{s:Nat}(ho:sQ P o=some (lo,hi,s)){n l h:Nat}(hl:lo=false->l=0)(hh:hi=false->h=n)(M8:l<=h)(YI:h<=n)(hz:l<h\/l=0):
  cI P B o (.slice (some ⟨k,off,some 7⟩) n cc::((if lo then[vI l]else[])++(if hi then[vI h]else[]))) [] (.slice (some ⟨k,off+l*s,some 7⟩) (h-l) (cc+l)) []:=by
 unfold sQ at ho;split at ho
 ·rename_i t x C7 iF ck;split at ho
  ·rename_i e ht;split at ho
   ·rename_i i SY;injection ho with ho;injection ho with h1 ho;injection ho with h2 h3;have:=aHG (P:=P) (B:=B) ck ht SY (k:=k) (off:=off) (n:=n) (cc:=cc) (l:=l) (h:=h) (λe=>hl (by rw[<-h1,e];rfl)) (λe=>hh (by rw[<-h2,e];rfl)) M8 YI hz;rw[h3]at this;have e1:bound C7 l=if lo then[vI l]else[]:=by rw[<-h1];cases C7<;>rfl
    have e2:bound iF h=if hi then[vI h]else[]:=by rw[<-h2];cases iF<;>rfl
    rw[e1,e2]at this;exact this.step
   ·cases ho
  ·cases ho
 ·cases ho
def aY.upto(fn:Func)(key k n h s:Nat)(hh:h<=n)(ho:sQ P (au fn key)=some (false,true,s)):aY P B N:=
 .step key (au fn key) [.slice (some ⟨k,0,some 7⟩) n 0,vI h] [] (.slice (some ⟨k,0,some 7⟩) h 0) [] (by have:=Hx (B:=B) ho (k:=k) (off:=0) (n:=n) (cc:=0) (l:=0) (h:=h) (λ_=>rfl) n_ (lG _) hh (.inr rfl);simpa using this)
end
def ae(B n a:Nat):List Nat:=(List.range n).map λi=>a/B^i%B
def nd(B a:Nat):Nat:=if h:2<=B/\a≠0 then nd B (a/B)+1 else 0
termination_by a
decreasing_by exact ZF (ue h.2) h.1
section
variable{B:Nat}
theorem o8(n a:Nat):(ae B n a).length=n:=by simp[ae]
theorem eR{n:Nat}(h:i<n):(ae B n a)[i]?=some (a/B^i%B):=by simp[ae,h]
theorem Ke{n:Nat}(h:m<=n):(ae B n a).take m=ae B m a:=by unfold ae;rw[<-C8,List.take_range,oz h]
theorem oG:nd B 0=0:=by unfold nd;simp
theorem SZ(hB:2<=B)(ha:a≠0):nd B a=nd B (a/B)+1:=by rw[nd,dif_pos ⟨hB,ha⟩]
theorem eB(hB:2<=B):∀ a,a<B^nd B a:=by
 intro a;induction a using Nat.strongRecOn with
 |_ a ih=>
  by_cases ha:a=0
  ·subst ha;rw[oG];simp
  ·rw[SZ hB ha,dH];have:=ih (a/B) (ZF (ue ha) hB);exact(iQ o_).1 this
theorem jw(hB:2<=B):∀{a n:Nat},a<B^n->nd B a<=n:=by
 intro a;induction a using Nat.strongRecOn with
 |_ a ih=>
  intro n h;by_cases ha:a=0
  ·subst ha;rw[oG];omega
  ·cases n with
   |zero=>simp at h;omega
   |succ n=>
    rw[SZ hB ha];rw[dH]at h;have:=ih (a/B) (ZF (ue ha) hB) (n:=n) ((iQ o_).2 h);omega
theorem ZG(hB:2<=B){n:Nat}(h:n<nd B a):B^n<=a:=by
 rcases e9 a (B^n)with h1|h1
 ·have:=jw hB h1;omega
 ·exact h1
theorem jx(hB:2<=B)(h:a<=b):nd B a<=nd B b:=jw hB (eZ h (eB hB b))
theorem xq(hB:2<=B)(h:a≠0):0<nd B a:=by rw[SZ hB h];omega
theorem Fj{n:Nat}(h:a<B^(n+1)):a/B^n%B=a/B^n:=by
 refine dW ?_;have hp:0<B^n:=by
  rcases nU B with hB|hB
  ·subst hB;simp at h
  ·exact cO hB
 rw[iQ hp,cX,<-dH];exact h
theorem Hy(hB:2<=B){n:Nat}(h:a<B^(n+1)):a/B^n%B=0↔a<B^n:=by
 rw[Fj h,Nat.div_eq_zero_iff];have:B^n≠0:=by have:=cO (n:=n) (show 0<B by omega);omega
 exact⟨λh=>h.resolve_left this,.inr⟩
def fh(B a b i:Nat):Nat:=(a%B^i+b%B^i)/B^i
def eT(B n i a:Nat):List Nat:=(List.range n).map λj=>if j<i then a/B^j%B else 0
theorem NK(n i a:Nat):(eT B n i a).length=n:=by simp[eT]
theorem S0(n a:Nat):eT B n 0 a=List.replicate n 0:=by apply xt<;>simp[eT]
theorem Hz(n a:Nat):eT B n n a=ae B n a:=by unfold eT ae;exact xj λj hj=>by rw[aB (ki.1 hj)]
theorem NL{n:Nat}(h:i<n)(hd:d=a/B^i%B):(eT B n i a).set i d=eT B n (i+1) a:=by
 subst hd;apply xt
 ·simp[eT]
 ·intro j h1 h2;simp only[eT,dQ,zx]at h2;rw[HA];simp only[eT,C9,Da];by_cases hj:i=j
  ·subst hj;simp
  ·rw[az hj];by_cases h3:j<i
   ·rw[aB h3,aB o_]
   ·rw[az h3,az o_]
theorem pM(a i:Nat):a%B^(i+1)=a%B^i+a/B^i%B*B^i:=by rw[dH,NM];rw[cX]
theorem NN(a b:Nat):fh B a b 0=0:=by simp[fh,uf]
theorem Fk(hB:0<B)(a b i:Nat):(a/B^i%B+b/B^i%B+fh B a b i)/B=fh B a b (i+1):=by
 unfold fh;rw[pM a i,pM b i];have hp:0<B^i:=cO hB;have e:a%B^i+a/B^i%B*B^i+(b%B^i+b/B^i%B*B^i)=(a%B^i+b%B^i)+(a/B^i%B+b/B^i%B)*B^i:=by rw[fP];omega
 rw[e,dH,<-lg,pN _ _ hp,nr]
theorem HB(hB:0<B)(a b i:Nat):(a/B^i%B+b/B^i%B+fh B a b i)%B=(a+b)/B^i%B:=by
 unfold fh;have hp:0<B^i:=cO hB;have e:(a+b)/B^i=a/B^i+b/B^i+(a%B^i+b%B^i)/B^i:=by
  have h1:=jy a (B^i);have h2:=jy b (B^i);have e2:a+b=(a%B^i+b%B^i)+(a/B^i+b/B^i)*B^i:=by rw[fP,cX (a/B^i),cX (b/B^i)];omega
  conv=>lhs;rw[e2]
  rw[pN _ _ hp];omega
 rw[e];rw[Nat.add_mod (a/B^i+b/B^i),Nat.add_mod (a/B^i%B+b/B^i%B),<-Nat.add_mod (a/B^i)]
theorem Bv(hB:0<B)(a b i:Nat):fh B a b i<=1:=by
 unfold fh;have hp:0<B^i:=cO hB;have h1:=cP a hp;have h2:=cP b hp;have:(a%B^i+b%B^i)/B^i<2:=by rw[iQ hp];omega
 omega
theorem iu(hB:0<B)(a i:Nat):a/B^i%B<B:=cP _ hB
theorem rH(h:a<B^m)(hi:m<=i)(hB:0<B):a/B^i%B=0:=by rw[mH (cF h (di hB hi))];simp
theorem S1{n:Nat}(ha:a<B^n)(hb:b<B^n):fh B a b n=(a+b)/B^n:=by unfold fh;rw[dW ha,dW hb]
def lh(B a b i:Nat):Nat:=if a%B^i<b%B^i then 1 else 0
theorem S2(a b:Nat):lh B a b 0=0:=by simp[lh,uf]
theorem NO(a b i:Nat):lh B a b i<=1:=by unfold lh;split<;>omega
theorem S3(hB:0<B)(a b i:Nat):(if a/B^i%B<b/B^i%B+lh B a b i then 1 else 0)=lh B a b (i+1):=by
 unfold lh;rw[pM a i,pM b i];have hp:0<B^i:=cO hB;have h1:=cP a hp;have h2:=cP b hp;generalize a%B^i=r at *;generalize b%B^i=s at *;generalize a/B^i%B=x at *;generalize b/B^i%B=y at *;generalize B^i=p at *;have lt:∀ u v:Nat,u<v->u*p+p<=v*p:=λu v h=>by rw[<-rI];exact eE _ h
 have le:∀ u v:Nat,u<=v->u*p<=v*p:=λu v h=>eE _ h;by_cases Bw:r<s
 ·rw[aB Bw];by_cases kR:x<y+1
  ·have:=le x y o_;rw[aB kR,aB o_]
  ·have:=lt y x o_;rw[az kR,az o_]
 ·rw[az Bw];by_cases kR:x<y+0
  ·have:=lt x y o_;rw[aB kR,aB o_]
  ·have:=le y x o_;rw[az kR,az o_]
theorem S4(hB:0<B)(b9:b<=a)(i:Nat):(a/B^i%B+2*B-b/B^i%B-lh B a b i)%B=(a-b)/B^i%B:=by
 unfold lh;have hp:0<B^i:=cO hB;have h1:=cP a hp;have h2:=cP b hp;have ea:=jy a (B^i);have eb:=jy b (B^i);generalize hA:a/B^i=A at *;generalize hA':b/B^i=A' at *;generalize a%B^i=r at *;generalize b%B^i=s at *;generalize B^i=p at *;have lt:∀ u v:Nat,u<v->p*u+p<=p*v:=λu v h=>by rw[<-NP];exact jN _ h
 have hx:=cP A hB;have hy:=cP A' hB;have dA:=jy A B;have dA':=jy A' B
 -- the quotient of the aVQ
 have key:∀ br:Nat,br=(if r<s then 1 else 0)->A'+br<=A/\(a-b)/p=A-A'-br:=by
  intro br Kf;by_cases Bw:r<s
  ·rw[aB Bw]at Kf;subst Kf;have NQ:A'<A:=by
    rcases e9 A' A with h|h
    ·exact h
    ·have:=jN p h;omega
   refine⟨NQ,?_⟩;have e:a-b=(p+r-s)+p*(A-A'-1):=by
    have:=lt A' A NQ;have e2:p*A=p*A'+p+p*(A-A'-1):=by rw[<-NP,<-o9];congr 1;omega
    omega
   rw[e,Kg _ _ hp,mH o_,kB]
  ·rw[az Bw]at Kf;subst Kf;have NQ:A'<=A:=by
    rcases e9 A A' with h|h
    ·have:=lt A A' h;omega
    ·exact h
   refine⟨NQ,?_⟩;have e:a-b=(r-s)+p*(A-A'):=by
    have e2:p*A=p*A'+p*(A-A'):=by rw[<-o9];congr 1;omega
    omega
   rw[e,Kg _ _ hp,mH o_,kB];rfl
 have Kf:(if r<s then 1 else 0)<=1:=by split<;>omega
 obtain⟨k1,k2⟩:=key _ rfl;rw[k2];generalize (if r<s then 1 else 0)=br at *;have e:A%B+2*B-A'%B-br+B*(A/B)=(A-A'-br)+B*(A'/B+2):=by rw[o9];omega
 have:=cS (·%B) e;simpa only[Fl]using this
theorem zy(p:Nat->Prop)[DecidablePred p]:∀ n,p n->∃ e,e<=n/\p e/\∀ j,j<e->¬p j
 |0,h=>⟨0,bF _,h,λj hj=>by omega⟩
 |n+1,h=>by
  by_cases h0:p 0
  ·exact⟨0,by omega,h0,λj hj=>by omega⟩
  ·obtain⟨e,h1,h2,h3⟩:=zy (λj=>p (j+1)) n h;refine⟨e+1,by omega,h2,λj hj=>?_⟩;cases j with
   |zero=>exact h0
   |succ j=>exact h3 j o_
def dc(B n i s p:Nat):List Nat:=(List.range n).map λj=>if j<i then s/B^j%B else p/B^j%B
theorem xu(n i s p:Nat):(dc B n i s p).length=n:=by simp[dc]
theorem Db{n s p:Nat}(hj:j<n)(h:i<=j):(dc B n i s p)[j]?=some (p/B^j%B):=by simp[dc,hj];omega
theorem zz{n s p:Nat}(h:i<n)(hd:d=s/B^i%B):(dc B n i s p).set i d=dc B n (i+1) s p:=by
 subst hd;apply xt
 ·simp[dc]
 ·intro j h1 h2;simp only[dc,dQ,zx]at h2;rw[HA];simp only[dc,C9,Da];by_cases hj:i=j
  ·subst hj;simp
  ·rw[az hj];by_cases h3:j<i
   ·rw[aB h3,aB o_]
   ·rw[az h3,az o_]
theorem aId(hB:0<B)(p t i:Nat):(p+t)/B^i=p/B^i+t/B^i+fh B p t i:=by
 have hp:0<B^i:=cO hB;unfold fh;have h1:=jy p (B^i);have h2:=jy t (B^i);have e2:p+t=(p%B^i+t%B^i)+(p/B^i+t/B^i)*B^i:=by rw[fP,cX (p/B^i),cX (t/B^i)];omega
 conv=>lhs;rw[e2]
 rw[pN _ _ hp];omega
theorem ZH(hB:0<B)(n at' p c:Nat):dc B n at' (p+c*B^at') p=ae B n p:=by
 unfold dc ae;refine xj λj _=>?_;by_cases h:j<at'
 ·rw[aB h];have e:B^at'=B^j*(B*B^(at'-j-1)):=by rw[<-Nat.pow_succ',<-eU];congr 1;omega
  rw[e,show c*(B^j*(B*B^(at'-j-1)))=B^j*(B*(c*B^(at'-j-1)))by rw[nt,nt c B],Kg _ _ (cO hB),Fl]
 ·rw[az h]
theorem aIe(hB:0<B)(at' p c:Nat):fh B p (c*B^at') at'=0:=by unfold fh;rw[ZI,jg,mH (cP _ (cO hB))]
theorem aIf(hB:0<B){n p t:Nat}(ht:t<B^i)(hc:fh B p t i=0):dc B n i (p+t) p=ae B n (p+t):=by
 unfold dc ae;refine xj λj _=>?_;by_cases h:j<i
 ·rw[aB h]
 ·rw[az h];have e:=aId hB p t i;rw[hc,mH ht,jg]at e;have e2:B^j=B^i*B^(j-i):=by rw[<-eU];congr 1;omega
  rw[e2,<-lg,<-lg,e]
theorem aIg(hB:0<B)(at' c:Nat):c*B^at'/B^at'%B=c%B:=by rw[S5 _ (cO hB)]
theorem aIh(hB:0<B){at' c:Nat}(h:c<B*B):c*B^at'/B^(at'+1)%B=c/B:=by rw[dH,<-lg,S5 _ (cO hB)];exact dW ((iQ hB).2 h)
theorem aIi(hB:0<B){at' c:Nat}(h:c<B*B):c*B^at'<B^(at'+2):=by rw[dH,dH,gh,cX];exact ZJ h (cO hB)
def part(B a b i k:Nat):Nat:=(a%B^i)*b+a/B^i%B*(b%B^k)*B^i
theorem Dc(a b i:Nat):part B a b i 0=(a%B^i)*b:=by simp[part,uf]
theorem ZK(a b i k:Nat):part B a b i (k+1)=part B a b i k+a/B^i%B*(b/B^k%B)*B^(i+k):=by
 unfold part;rw[pM b k,eU,o9,fP,uW]
 congr 2
 simp only[cX,nt]
theorem aIj(hb:b<B^m):part B a b i m=part B a b (i+1) 0:=by
 rw[Dc,pM a i];unfold part;rw[dW hb,fP]
 congr 1
 simp only[cX,nt]
theorem ZL(hB:0<B)(a b i k:Nat):part B a b i k<=a*b:=by
 have h1:a%B^(i+1)<=a:=Kh _ _;have h2:part B a b i k<=(a%B^(i+1))*b:=by
  rw[pM a i];unfold part;rw[fP];refine S6 ?_ _;have h3:b%B^k<=b:=Kh _ _;have:=jN (a/B^i%B) h3;have:=eE (B^i) this
  calc _<=_:=this
   _=_:=by simp only[cX,nt]
 exact dh h2 (eE _ h1)
theorem ZM{n:Nat}(hB:0<B)(ha:a<B^n)(hb:b<B^m):a*b<B^(n+m+1):=by
 have h1:a*b<B^(n+m):=by rw[eU];exact qA ha hb
 exact cF h1 (di hB o_)
theorem ZN(hB:0<B)(hd:0<d)(nu:d<=B)(a j:Nat):(a/B^(j+1)%d*B+a/B^j%B)/d=(a/d)/B^j%B/\(a/B^(j+1)%d*B+a/B^j%B)%d=a/B^j%d:=by
 have e1:a/B^(j+1)=a/B^j/B:=by rw[dH,lg]
 have e2:a/d/B^j=a/B^j/d:=by rw[lg,lg,cX]
 rw[e1,e2];generalize a/B^j=c;have h1:=jy c B;have h2:=jy (c/B) d;have h3:c/B%d<d:=cP _ hd;have h4:c%B<B:=cP _ hB;have h5:c=(c/B%d*B+c%B)+d*(B*(c/B/d)):=by
  have:B*(c/B)=B*(d*(c/B/d)+c/B%d):=by rw[h2]
  rw[o9,nt]at this;rw[cX (c/B%d)];omega
 have h6:(c/B%d*B+c%B)/d<B:=by rw[iQ hd];have:=eE B (show c/B%d+1<=d by omega);rw[fP,qB]at this;rw[cX B d];omega
 constructor
 ·conv=>rhs;rw[h5]
  rw[Kg _ _ hd,Fl,dW h6]
 ·conv=>rhs;rw[h5]
  rw[Fl]
def gS(B n i a:Nat):List Nat:=(List.range n).map λj=>if j<i then 0 else a/B^j%B
theorem NR(n i a:Nat):(gS B n i a).length=n:=by simp[gS]
theorem NS(n a:Nat):gS B n n a=List.replicate n 0:=by
 apply xt
 ·simp[gS]
 ·intro j h1 h2;simp only[gS,dQ,zx]at h1;simp[gS,h1]
theorem Ki(n a:Nat):gS B n 0 a=ae B n a:=by unfold gS ae;exact xj λj _=>by rw[az o_]
theorem NT{n:Nat}(h:j<n)(hd:d=a/B^j%B):(gS B n (j+1) a).set j d=gS B n j a:=by
 subst hd;apply xt
 ·simp[gS]
 ·intro i h1 h2;simp only[gS,dQ,zx]at h2;rw[HA];simp only[gS,C9,Da];by_cases hi:j=i
  ·subst hi;simp
  ·rw[az hi];by_cases h3:i<j
   ·rw[aB h3,aB o_]
   ·rw[az h3,az o_]
theorem xw(a j:Nat):a/B^j=a/B^(j+1)*B+a/B^j%B:=by have:=jy (a/B^j) B;rw[lg,<-dH,cX]at this;exact this.symm
theorem ZO{n:Nat}(ha:a<B^n)(hb:b<B^n)(t:Nat)(ht:t<=n)(h:∀ s,s<t->a/B^(n-1-s)%B=b/B^(n-1-s)%B):a/B^(n-t)=b/B^(n-t):=by
 induction t with
 |zero=>rw[Hw,mH ha,mH hb]
 |succ t ih=>
  have ih:=ih o_ λs hs=>h s o_;have e:n-t=(n-(t+1))+1:=by omega
  rw[e]at ih;have h1:=h t o_;rw[show n-1-t=n-(t+1)by omega]at h1;rw[xw (B:=B) a,xw (B:=B) b,ih,h1]
theorem NU(h:a/B^(j+1)=b/B^(j+1))(al:a/B^j%B<b/B^j%B):a<b:=by
 have h1:a/B^j<b/B^j:=by rw[xw (B:=B) a,xw (B:=B) b,h];omega
 rcases e9 a b with h2|h2
 ·exact h2
 ·have:=Nat.div_le_div_right (c:=B^j) h2;omega
end
theorem mixed:prog.follows .mixedOrders=true:=by kernel_rfl
def aV(x:Nat):Value:=.int .u32 (x:Int)
def ao(l:l_):ak:=l.map aV
theorem fR(l:l_):∀ u∈ao l,flat u=true:=λu hu=>by obtain⟨x,_,rfl⟩:=db.1 hu;rfl
theorem lj{l:l_}{x:Nat}(h:l[i]?=some x):(ao l)[i]?=some (aV x):=by simp[ao,h]
abbrev base:Nat:=4294967296
theorem gi(cells:ak)(i:Nat):dM prog 179 cells i=cells[i]?:=by kernel_rfl
theorem aD{c:Code}{next:Nat}(rs:bM prog B N){r:mF}(h:Kc (ji 100 c fr M next rs) r.fr r.M=Kd (ji 100 c fr M next rs) r.ex r.fr r.M r.next:=by kernel_rfl):ah prog B N c fr M next r:=fF mixed 100 rs h
theorem aIk{n:Nat}(hm:m+1<=n)(ha:a<base^m)(h63:n<=9223372036854775807):
  ah prog Bs 21 (aI (ag f199 0)) [(0,.slice (some ⟨0,0,some 7⟩) (m+1) 0)] [(0,.view (ao (ae base n a)))] 1
   ⟨.normal,[(0,.slice (some ⟨0,0,some 7⟩) m 0)],[(0,.view (ao (ae base n a)))],1⟩:=by
 have hd:a/base^m%base=0:=(Hy d_ (cF ha (di d_ (zk m)))).2 ha;exact aD [
  .gt 5 (m+1) 0 true s_,
  .fq 10 (m+1) 1 m rfl o_,
  .ix f199 11 0 (m+1) m o_ k_,
  .ld f199 12 179 0 m (.view (ao (ae base n a))) (aV (a/base^m%base)) rfl (by rw[gi];exact lj (eR o_)) k_,
  .gO 13 (a/base^m%base) 0 true (by simp[hd]),
  .fq 18 (m+1) 1 m rfl o_,
  .upto f199 19 0 (m+1) m 1 o_ k_]
theorem aIl{n:Nat}(hm:m<=n)(ha:a<base^m)(hl:m=nd base a)(h63:n<=9223372036854775807):
  ah prog Bs 21 (aI (ag f199 0)) [(0,.slice (some ⟨0,0,some 7⟩) m 0)] [(0,.view (ao (ae base n a)))] 1
   ⟨.exit 0,[(0,.slice (some ⟨0,0,some 7⟩) m 0)],[(0,.view (ao (ae base n a)))],1⟩:=by
 cases m with
 |zero=>exact aD [.gt 5 0 0 false s_]
 |succ m=>
  have hd:a/base^m%base≠0:=λe=>by have:=jw (B:=base) d_ ((Hy d_ ha).1 e);omega
  exact aD [
   .gt 5 (m+1) 0 true s_,
   .fq 10 (m+1) 1 m rfl o_,
   .ix f199 11 0 (m+1) m o_ k_,
   .ld f199 12 179 0 m (.view (ao (ae base n a))) (aV (a/base^m%base)) rfl (by rw[gi];exact lj (eR o_)) k_,
   .gO 13 (a/base^m%base) 0 false (by simp[hd])]
theorem aIm{n:Nat}(ha:a<base^n)(h63:n<=9223372036854775807):
  ah prog Bs 21 (.block 0 (ag f199 0)) [(0,.slice (some ⟨0,0,some 7⟩) n 0)] [(0,.view (ao (ae base n a)))] 1
   ⟨.normal,[(0,.slice (some ⟨0,0,some 7⟩) (nd base a) 0)],[(0,.view (ao (ae base n a)))],1⟩:=by
 have hle:=jw (B:=base) d_ ha;have al:=eB (B:=base) d_ a
 have:=cx (P:=prog) (B:=Bs) (N:=21) (b:=aI (ag f199 0)) (next:=1) (n-nd base a) (λi=>[(0,.slice (some ⟨0,0,some 7⟩) (n-i) 0)]) (λ_=>[(0,.view (ao (ae base n a)))])
  (r:=⟨.exit 0,[(0,.slice (some ⟨0,0,some 7⟩) (nd base a) 0)],[(0,.view (ao (ae base n a)))],1⟩) (λ_ _ _=>Iff.rfl)
  (λi hi=>by
   have e:n-i=(n-(i+1))+1:=by omega
   simp only[e];exact aIk o_ (cF al (di d_ o_)) h63)
  (by
   have e:n-(n-nd base a)=nd base a:=by omega
   simp only[e];exact aIl hle al rfl h63) n_
 exact cd this
def NV(v:i_)(m:Nat):Value:=match v with|.slice a _ c=>.slice a m c|v=>v
theorem ZP{v:i_}{n:Nat}(hv:dp w v n (ao (ae base n a)))(ha:a<base^n)(h63:n<=9223372036854775807):
  Calls prog 199 #[v] w λe w'=>e=.returned (NV v (nd base a))/\Below w.heap.size w w':=by
 refine l9 (Q:=λe w'=>e=.returned (NV v (nd base a))/\Below w.heap.size w w') mixed func199 [.row v n (ao (ae base n a))] (λs hs=>by simp at hs;subst hs;exact⟨hv,fR _⟩) 100 (N:=21) k_
  (rs:=[.code 0 _ _ _ _ _ (aIm ha h63)]) (v:=.slice (some ⟨0,0,some 7⟩) (nd base a) 0) (ms:=[]) k_ λaA ct v' w' hc hm _ dL=>⟨?_,hm.base⟩
 cases dL with
 |cons h1 _=>
 congr 1
 rcases hc.iC rfl with ⟨q1,q2,_,_,q5⟩|⟨b,o,cap,c',q1,q2,q3,q5⟩<;>rcases h1.iC rfl with ⟨p1,p2,_,_,p5⟩|⟨b2,o2,ql,c2,p1,p2,p3,p5⟩
 ·have p5:v=.slice none 0 0:=p5;rw[q5,p5,q2];rfl
 ·rw[q1]at p1;cases p1
 ·rw[q1]at p1;cases p1
 ·rw[q1]at p1;injection p1 with p1;injection p1 with e1 e2 e3;subst e1;subst e2;subst e3;have p5:v=_:=p5;rw[q5,p5,show c'=c2 by omega];rfl
theorem bC{v:i_}(hf:prog.funcs[f]?=some fn)(rs:∀ w,bM prog (aa.at w) (args.length+(fn.ntmps-args.length)))(h:∀ w,oX (hJ (P:=prog) fn 100 args [] 0 (rs w)) []=oY (hJ fn 100 args [] 0 (rs w)) v []:=by intro _;kernel_rfl)(dL:args.all flat=true:=by kernel_rfl)(hv:flat v=true:=by kernel_rfl):aG prog f args v:=eY mixed hf 100 rs h dL hv
theorem Kj{x y c:Nat}(hx:x<base)(hy:y<base)(hc:c<base):
  aG prog 218 [aV x,aV y,aV c] (.tuple #[aV ((x+y+c)%base),aV ((x+y+c)/base)]):=
 bC func218 (λ_=>[
  .wr 10 .u64 x x (by rw[ko];unfold base at *;omega),.wr 12 .u64 y y (by rw[ko];unfold base at *;omega),
  .wr 13 .u64 (x+y) ((x+y:Nat):Int) (by rw[ko];unfold base at *;omega),.wr 15 .u64 c c (by rw[ko];unfold base at *;omega),
  .wr 16 .u64 (((x+y:Nat):Int)+c) ((x+y+c:Nat):Int) (by rw[ko];unfold base at *;omega),
  .wr 18 .u32 ((x+y+c:Nat):Int) (((x+y+c)%base:Nat):Int) (by rw[nV];unfold base at *;omega),
  .quo 20 .u64 (((x+y+c:Nat):Int).fdiv (2^32)) (((x+y+c)/base:Nat):Int) (by rw[sR _ d_];unfold base at *;omega),
  .wr 21 .u32 (((x+y+c)/base:Nat):Int) (((x+y+c)/base:Nat):Int) (by rw[nV];unfold base at *;omega)])
theorem Fm(n:Nat):List.replicate n (aV 0)=ao (List.replicate n 0):=by simp[ao]
theorem zC(cells:ak)(i d:Nat)(h:i<cells.length):fp prog 179 cells i (aV d)=some (cells.set i (aV d)):=by
 have e:fp prog 179 cells i (aV d)=if(Nat.ble (i+1) cells.length&&true)then some (jf cells i [aV d])else none:=by kernel_rfl
 rw[e,Sr h];rfl
theorem zD(l:l_)(i d:Nat):(ao l).set i (aV d)=ao (l.set i d):=by simp[ao,List.map_set]
theorem aIn{y:m_}(ho:dF o.op=some y){n:Nat}{x:Obj}(hx:x.reads=true)(hc:x.cells=ao (ae base n a))(ha:a<base^n)(h63:n<=9223372036854775807):
  cI prog Bs o [.func (.func 199) #[] #[],.slice (some ⟨k,0,some 7⟩) n 0] [(k,some x)] (.slice (some ⟨k,0,some 7⟩) (nd base a) 0) []:=by
 refine jY (fi:=[]) (ca:=[]) ho k_ λι c w hm hn args' dL=>?_;obtain⟨v,rfl,h1⟩:=nP dL;have hk:c k=some x:=hn _ (aR ..);have hr:=o7 (len:=n) hm hk hx (by rw[hc];exact fR _) (λh=>h) h1;rw[hc,mI,kG (by simp[ao,o8])]at hr;refine(ZP hr ha h63).mono ?_
 rintro e w' ⟨rfl,hb⟩
 refine⟨ι,_,rfl,Map.le.refl _,?_,hm.call hb⟩;have fv:=jw (B:=base) d_ ha;rcases h1.iC rfl with ⟨q1,q2,_,_,q5⟩|⟨b,oo,cap,c',q1,q2,q3,q5⟩
 ·rw[q5];have:nd base a=0:=by omega
  rw[this];exact .slcN q1
 ·rw[q5];exact .slc q1 o_ q3
def aY.trim(fn:Func)(key k n a:Nat)(x:Obj)(hx:x.reads=true)(hc:x.cells=ao (ae base n a))(ha:a<base^n)(h63:n<=9223372036854775807){y:m_}(ho:dF (au fn key).op=some y):aY prog Bs N:=
 .step key (au fn key) [.func (.func 199) #[] #[],.slice (some ⟨k,0,some 7⟩) n 0] [(k,some x)] (.slice (some ⟨k,0,some 7⟩) (nd base a) 0) [] (aIn ho hx hc ha h63)
section
variable{Bs:aa}{ka kb n m a b:Nat}
def sl(k n:Nat):Value:=.slice (some ⟨k,0,some 7⟩) n 0
def Dd(ka kb n m a b i:Nat):aT:=[(23,vI i),(22,vI n),(21,sl ka n),(0,sl ka n),(1,sl kb m),(5,sl 2 (n+1)),(6,aV (fh base a b i))]
def zE(ka kb n m a b i:Nat):aM:=[(ka,.view (ao (ae base n a))),(kb,.view (ao (ae base m b))),(2,.row (ao (eT base (n+1) i (a+b))) 179 1)]
theorem aIo(hk:(ka=0/\kb=1)\/(ka=1/\kb=0))(hi:i<n)(hb:b<base^m)(hm:m<=n)(h63:n<9223372036854775807):
  ah prog Bs 54 (aI (ag f192 0)) (Dd ka kb n m a b i) (zE ka kb n m a b i) 3 ⟨.normal,Dd ka kb n m a b (i+1),zE ka kb n m a b (i+1),3⟩:=by
 have hx:=iu (B:=base) d_ a i;have hy:=iu (B:=base) d_ b i;have hc:=Bv (B:=base) d_ a b i;have zF:=Kj (c:=fh base a b i) hx hy (eZ hc d_);rw[HB d_,Fk d_]at zF;have bT:fp prog 179 (ao (eT base (n+1) i (a+b))) i (aV ((a+b)/base^i%base))=some (ao (eT base (n+1) (i+1) (a+b))):=by rw[zC _ i _ (by simp[ao,NK];omega),zD,NL o_ rfl]
 by_cases jZ:i<m
 ·let S:Nat->Nat->bM prog Bs 54:=λka kb=>[.lt 24 i n true (by simp[hi]),.ix f192 26 ka n i hi k_,.ld f192 27 179 ka i (.view (ao (ae base n a))) (aV (a/base^i%base)) rfl (by rw[gi];exact lj (eR hi)) k_,.lt 31 i m true (by simp[jZ]),.ix f192 34 kb m i jZ k_,.ld f192 35 179 kb i (.view (ao (ae base m b))) (aV (b/base^i%base)) rfl (by rw[gi];exact lj (eR jZ)) k_,zF.at 42,.ix f192 45 2 (n+1) i o_ k_,.st f192 100045 179 2 i (.row (ao (eT base (n+1) i (a+b))) 179 1) (aV ((a+b)/base^i%base)) (.row (ao (eT base (n+1) (i+1) (a+b))) 179 1) rfl bT rfl k_,.sum 46 i 1 (i+1) rfl o_]
  rcases hk with ⟨rfl,rfl⟩|⟨rfl,rfl⟩
  ·exact aD (S 0 1)
  ·exact aD (S 1 0)
 ·have xx:b/base^i%base=0:=rH hb o_ d_;rw[xx]at zF
  let S:Nat->Nat->bM prog Bs 54:=λka kb=>[.lt 24 i n true (by simp[hi]),.ix f192 26 ka n i hi k_,.ld f192 27 179 ka i (.view (ao (ae base n a))) (aV (a/base^i%base)) rfl (by rw[gi];exact lj (eR hi)) k_,.lt 31 i m false (by simp[jZ]),zF.at 42,.ix f192 45 2 (n+1) i o_ k_,.st f192 100045 179 2 i (.row (ao (eT base (n+1) i (a+b))) 179 1) (aV ((a+b)/base^i%base)) (.row (ao (eT base (n+1) (i+1) (a+b))) 179 1) rfl bT rfl k_,.sum 46 i 1 (i+1) rfl o_]
  rcases hk with ⟨rfl,rfl⟩|⟨rfl,rfl⟩
  ·exact aD (S 0 1)
  ·exact aD (S 1 0)
theorem aIp(hk:(ka=0/\kb=1)\/(ka=1/\kb=0)):
  ah prog Bs 54 (aI (ag f192 0)) (Dd ka kb n m a b n) (zE ka kb n m a b n) 3 ⟨.exit 0,Dd ka kb n m a b n,zE ka kb n m a b n,3⟩:=by
 rcases hk with ⟨rfl,rfl⟩|⟨rfl,rfl⟩
 all_goals exact aD [.lt 24 n n false s_]
theorem aIq(hk:(ka=0/\kb=1)\/(ka=1/\kb=0))(hb:b<base^m)(hm:m<=n)(h63:n<9223372036854775807):
  ah prog Bs 54 (.block 0 (ag f192 0)) (Dd ka kb n m a b 0) (zE ka kb n m a b 0) 3 ⟨.normal,Dd ka kb n m a b n,zE ka kb n m a b n,3⟩:=
 cd (cx (b:=aI (ag f192 0)) (r:=⟨.exit 0,Dd ka kb n m a b n,zE ka kb n m a b n,3⟩) n (Dd ka kb n m a b) (zE ka kb n m a b) (λi k _=>kk (l:=zE ka kb n m a b i) (m:=zE ka kb n m a b 0) rfl k) (λi hi=>aIo hk hi hb hm h63) (aIp hk) n_)
noncomputable def ZQ(hk:(ka=0/\kb=1)\/(ka=1/\kb=0))(ha:a<base^n)(hb:b<base^m)(hm:m<=n)(h63:n<35184372088832)(hs:a+b<base^(n+1))
  (bT:fp prog 179 (ao (eT base (n+1) n (a+b))) n (aV (fh base a b n))=some (ao (ae base (n+1) (a+b)))):bM prog Bs 54:=
 [.sum 19 n 1 (n+1) rfl o_,.qy f192 20 2 (n+1) 179 4 (aV 0) (ao (eT base (n+1) 0 (a+b))) (by rw[S0,Fm]) rfl rfl o_ (by simp[maxLen];omega) k_,.rw 6 (.int .u32 0) (aV (fh base a b 0)) (by rw[NN];rfl),.code 0 _ _ _ _ _ (aIq (ka:=ka) (kb:=kb) (a:=a) hk hb hm o_),.ix f192 51 2 (n+1) n o_ k_,.st f192 100051 179 2 n (.row (ao (eT base (n+1) n (a+b))) 179 1) (aV (fh base a b n)) (.row (ao (ae base (n+1) (a+b))) 179 1) rfl bT rfl k_,.trim f192 53 2 (n+1) (a+b) (.row (ao (ae base (n+1) (a+b))) 179 1) rfl rfl hs o_ (y:=.func 199) k_]
end
def j0(w w':h_)(v:i_)(a:Nat):Prop:=w'.ownsRow w.heap.size 179 1 v (nd base a) (ao (ae base (nd base a) a))
def iR(w:h_)(v:i_)(a:Nat):Prop:=dp w v (nd base a) (ao (ae base (nd base a) a))
theorem xy(hm:aO (aa.at w) ι c w'){n:Nat}{v:i_}(hk:c k=some (.row (ao (ae base n a)) 179 1))(ha:a<base^n)(hv:aL ι (.slice (some ⟨k,0,some 7⟩) (nd base a) 0) v):j0 w w' v a:=by
 have hle:=jw (B:=base) d_ ha;have:=xm hm hk hv (by simp[ao,o8];exact hle) (fR _);have e:(ao (ae base n a)).take (nd base a*1)=ao (ae base (nd base a) a):=by rw[gP];unfold ao;rw[<-C8,Ke hle]
 rw[e]at this;exact this
theorem Kk{n:Nat}(ha:a<base^n)(hb:b<base^n):fp prog 179 (ao (eT base (n+1) n (a+b))) n (aV (fh base a b n))=some (ao (ae base (n+1) (a+b))):=by have h1:=Bv (B:=base) d_ a b n;have h2:=S1 ha hb;rw[zC _ n _ (by simp[ao,NK]),zD,NL o_ (by rw[<-h2];exact(dW (eZ h1 d_)).symm),Hz]
theorem Kl{n:Nat}(ha:a<base^n)(hb:b<base^n):a+b<base^(n+1):=by have h1:base^n*2<=base^n*base:=jN _ d_;rw[dH];omega
theorem aIr{vb:i_}(gG:iR w va a)(lJ:iR w vb b)(h1:nd base a<35184372088832)(h2:nd base b<35184372088832):
  Calls prog 192 #[va,vb] w λe w'=>∃ v,e=.returned v/\j0 w w' v (a+b)/\Below w.heap.size w w':=by
 have ha:=eB (B:=base) d_ a;have hb:=eB (B:=base) d_ b;have hl:∀ s∈[cG.row va (nd base a) (ao (ae base (nd base a) a)),cG.row vb (nd base b) (ao (ae base (nd base b) b))],s.OK w:=by
  intro s hs;simp at hs;rcases hs with rfl|rfl
  ·exact⟨gG,fR _⟩
  ·exact⟨lJ,fR _⟩
 unfold iR at gG lJ;generalize nd base a=n at *;generalize nd base b=m at *;by_cases kF:n<m
 ·have hs:=Kl hb (cF ha (di d_ o_))
  refine l9 (Q:=λe w'=>∃ v,e=.returned v/\j0 w w' v (a+b)/\Below w.heap.size w w') mixed func192 [cG.row va n (ao (ae base n a)),cG.row vb m (ao (ae base m b))] hl 100 (N:=54) k_
   (rs:=(aY.lt 14 n m true (by simp[kF]):aY prog (aa.at w) 54)::ZQ (ka:=1) (kb:=0) (a:=b) (b:=a) (.inr ⟨rfl,rfl⟩) hb ha o_ o_ hs (Kk hb (cF ha (di d_ o_))))
   (v:=.slice (some ⟨2,0,some 7⟩) (nd base (b+a)) 0) (ms:=[(2,.row (ao (ae base (m+1) (b+a))) 179 1)]) k_ λaA ct v' w' hc bJ dP _=>⟨v',rfl,?_,bJ.base⟩
  rw[nr a b];exact xy bJ (dP _ (aR ..)) hs hc
 ·have hs:=Kl ha (cF hb (di d_ (show m<=n by omega)))
  refine l9 (Q:=λe w'=>∃ v,e=.returned v/\j0 w w' v (a+b)/\Below w.heap.size w w') mixed func192 [cG.row va n (ao (ae base n a)),cG.row vb m (ao (ae base m b))] hl 100 (N:=54) k_
   (rs:=(aY.lt 14 n m false (by simp[kF]):aY prog (aa.at w) 54)::ZQ (ka:=0) (kb:=1) (a:=a) (b:=b) (.inl ⟨rfl,rfl⟩) ha hb o_ o_ hs (Kk ha (cF hb (di d_ o_))))
   (v:=.slice (some ⟨2,0,some 7⟩) (nd base (a+b)) 0) (ms:=[(2,.row (ao (ae base (n+1) (a+b))) 179 1)]) k_ λaA ct v' w' hc bJ dP _=>⟨v',rfl,?_,bJ.base⟩
  exact xy bJ (dP _ (aR ..)) hs hc
theorem De{x:Nat}(h:x<base):x.testBit 31=decide (2147483648<=x):=by rw[Nat.testBit_eq_decide_div_mod_eq,qx];unfold base at h;omega
theorem aIs{x:Nat}(h:x<base):x/2147483648=if x.testBit 31 then 1 else 0:=by
 rw[De h];unfold base at h;by_cases h1:2147483648<=x
 ·rw[aJ h1,aB rfl];omega
 ·rw[bd h1,az d_];omega
theorem aIt{x y:Nat}(hx:x<base)(hy:y<base)(hb:b<=1):
  (((base-1-x)&&& y)||| ((base-1-(x ^^^ y))&&& ((x+2*base-y-b)%base)))/2147483648=if x<y+b then 1 else 0:=by
 have kR:x ^^^ y<base:=ZR (n:=32) hx hy;have hd:(x+2*base-y-b)%base<base:=cP _ d_;have h1:base-1-x<base:=by unfold base at *;omega
 have h2:base-1-(x ^^^ y)<base:=by unfold base at *;omega
 rw[aIs (ZS (n:=32) (NW _ hy) (NW _ hd))];rw[Y4,Nat.testBit_and,Nat.testBit_and,De h1,De h2,De hy,De hd];have h3:(decide (2147483648<=x ^^^ y))=((decide (2147483648<=x))!=(decide (2147483648<=y))):=by rw[<-De kR,Nat.testBit_xor,De hx,De hy]
 have h4:decide (2147483648<=base-1-(x ^^^ y))=!(decide (2147483648<=x ^^^ y)):=by
  unfold base at *;by_cases h:2147483648<=x ^^^ y
  ·rw[aJ h,bd o_];rfl
  ·rw[bd h,aJ o_];rfl
 rw[h4,h3];unfold base at *;have e1:decide (2147483648<=4294967296-1-x)=!decide (2147483648<=x):=by
  by_cases h:2147483648<=x
  ·rw[aJ h,bd o_];rfl
  ·rw[bd h,aJ o_];rfl
 rw[e1];have fin:∀ p:Prop,[Decidable p]->(p↔x<y+b)->(if decide p=true then 1 else 0)=(if x<y+b then 1 else 0):=by
  intro p _ h;by_cases hp:p
  ·rw[aB (aJ hp),aB (h.1 hp)]
  ·rw[az (by simpa using hp),az λh'=>hp (h.2 h')]
 by_cases c1:2147483648<=x<;>by_cases c2:2147483648<=y
 ·rw[aJ c1,aJ c2];simp only[Km,zG,zH,bne_self_eq_false,NX,kS];exact fin _ o_
 ·rw[aJ c1,bd c2,az (show ¬x<y+b by omega)];rfl
 ·rw[bd c1,aJ c2,aB (show x<y+b by omega)];rfl
 ·rw[bd c1,bd c2];simp only[NX,kS,NY,zH,bne_self_eq_false];exact fin _ o_
theorem HC{x:Nat}(h:x<base):(BitVec.ofInt 32 (x:Int))=BitVec.ofNat 32 x:=by simp
theorem Fo{x:Nat}(h:x<base):(BitVec.ofNat 32 x).toNat=x:=by rw[BitVec.toNat_ofNat];exact dW h
theorem ZT{x y:Nat}(hx:x<base)(hy:y<base):IntKind.u32.wrap (((BitVec.ofInt IntKind.u32.bits (x:Int))&&& (BitVec.ofInt IntKind.u32.bits (y:Int))).toNat:Int)=((x&&& y:Nat):Int):=by show IntKind.u32.wrap (((BitVec.ofInt 32 (x:Int))&&& (BitVec.ofInt 32 (y:Int))).toNat:Int)=_;rw[HC hx,HC hy,BitVec.toNat_and,Fo hx,Fo hy,nV];have:x&&& y<base:=NW (n:=32) _ hy;unfold base at this;omega
theorem S7{x y:Nat}(hx:x<base)(hy:y<base):IntKind.u32.wrap (((BitVec.ofInt IntKind.u32.bits (x:Int))||| (BitVec.ofInt IntKind.u32.bits (y:Int))).toNat:Int)=((x||| y:Nat):Int):=by
 show IntKind.u32.wrap (((BitVec.ofInt 32 (x:Int))||| (BitVec.ofInt 32 (y:Int))).toNat:Int)=_;rw[HC hx,HC hy,BitVec.toNat_or,Fo hx,Fo hy,nV];have:x||| y<base:=ZS (n:=32) hx hy
 unfold base at this;omega
theorem ZU{x y:Nat}(hx:x<base)(hy:y<base):IntKind.u32.wrap (((BitVec.ofInt IntKind.u32.bits (x:Int)) ^^^ (BitVec.ofInt IntKind.u32.bits (y:Int))).toNat:Int)=((x ^^^ y:Nat):Int):=by show IntKind.u32.wrap (((BitVec.ofInt 32 (x:Int)) ^^^ (BitVec.ofInt 32 (y:Int))).toNat:Int)=_;rw[HC hx,HC hy,BitVec.toNat_xor,Fo hx,Fo hy,nV];have:x ^^^ y<base:=ZR (n:=32) hx hy;unfold base at this;omega
theorem ZV{x:Nat}(hx:x<base):IntKind.u32.wrap (((BitVec.ofInt IntKind.u32.bits (if IntKind.u32.signed then -1 else IntKind.u32.max)) ^^^ (BitVec.ofInt IntKind.u32.bits (x:Int))).toNat:Int)=((base-1-x:Nat):Int):=by
 have h0:(if IntKind.u32.signed then -1 else IntKind.u32.max)=((base-1:Nat):Int):=by decide
 rw[h0,ZU d_ hx]
 congr 1
 have h1:=BitVec.toNat_not (x:=BitVec.ofNat 32 x);rw[show ~~~(BitVec.ofNat 32 x)=BitVec.allOnes 32 ^^^ BitVec.ofNat 32 x from rfl,BitVec.toNat_xor,Fo hx]at h1;have h2:(BitVec.allOnes 32).toNat=base-1:=by decide
 rw[h2]at h1;exact h1
theorem ZW{x y:Nat}(hx:x<base)(hy:y<base)(hb:b<=1):
  aG prog 219 [aV x,aV y,aV b] (.tuple #[aV ((x+2*base-y-b)%base),aV (if x<y+b then 1 else 0)]):=by
 have hd:(x+2*base-y-b)%base<base:=cP _ d_;have kR:x ^^^ y<base:=ZR (n:=32) hx hy;have h1:base-1-x<base:=by unfold base at *;omega
 have h2:base-1-(x ^^^ y)<base:=by unfold base at *;omega
 have h3:(base-1-x)&&& y<base:=NW (n:=32) _ hy;have h4:(base-1-(x ^^^ y))&&& ((x+2*base-y-b)%base)<base:=NW (n:=32) _ hd;exact bC func219 (λ_=>[
  .wr 10 .u32 ((x:Int)-y) (((x+base-y)%base:Nat):Int) (by rw[nV];unfold base at *;omega),
  .wr 12 .u32 ((((x+base-y)%base:Nat):Int)-b) (((x+2*base-y-b)%base:Nat):Int) (by rw[nV];unfold base at *;omega),
  .quo 14 .u32 _ ((base-1-x:Nat):Int) (ZV hx),
  .quo 16 .u32 _ (((base-1-x)&&& y:Nat):Int) (ZT h1 hy),
  .quo 19 .u32 _ ((x ^^^ y:Nat):Int) (ZU hx hy),
  .quo 20 .u32 _ ((base-1-(x ^^^ y):Nat):Int) (ZV kR),
  .quo 22 .u32 _ (((base-1-(x ^^^ y))&&& ((x+2*base-y-b)%base):Nat):Int) (ZT h2 hd),
  .quo 23 .u32 _ ((((base-1-x)&&& y)||| ((base-1-(x ^^^ y))&&& ((x+2*base-y-b)%base)):Nat):Int) (S7 h3 h4),
  .quo 24 .u32 (((((base-1-x)&&& y)||| ((base-1-(x ^^^ y))&&& ((x+2*base-y-b)%base)):Nat):Int).fdiv (2^31)) ((if x<y+b then 1 else 0:Nat):Int) (by rw[<-aIt hx hy hb,sR _ d_];rfl)])
section
variable{Bs:aa}{n m a b:Nat}
def HD(n m a b i:Nat):aT:=[(15,vI i),(14,vI n),(13,sl 0 n),(1,sl 1 m),(5,sl 2 n),(6,aV (lh base a b i))]
def Df(n m a b i:Nat):aM:=[(0,.view (ao (ae base n a))),(1,.view (ao (ae base m b))),(2,.row (ao (eT base n i (a-b))) 179 1)]
theorem aIu(hi:i<n)(hb:b<base^m)(b9:b<=a)(h63:n<9223372036854775807):
  ah prog Bs 41 (aI (ag f194 0)) (HD n m a b i) (Df n m a b i) 3 ⟨.normal,HD n m a b (i+1),Df n m a b (i+1),3⟩:=by
 have hx:=iu (B:=base) d_ a i;have hy:=iu (B:=base) d_ b i;have hc:=NO (B:=base) a b i;have xz:=ZW hx hy hc;rw[show a/base^i%base+2*base-b/base^i%base-lh base a b i=a/base^i%base+2*base-b/base^i%base-lh base a b i from rfl,S4 d_ b9,S3 d_]at xz;have bT:fp prog 179 (ao (eT base n i (a-b))) i (aV ((a-b)/base^i%base))=some (ao (eT base n (i+1) (a-b))):=by rw[zC _ i _ (by simp[ao,NK];omega),zD,NL hi rfl]
 by_cases jZ:i<m
 ·exact aD [.lt 16 i n true (by simp[hi]),.ix f194 18 0 n i hi k_,.ld f194 19 179 0 i (.view (ao (ae base n a))) (aV (a/base^i%base)) rfl (by rw[gi];exact lj (eR hi)) k_,.lt 23 i m true (by simp[jZ]),.ix f194 26 1 m i jZ k_,.ld f194 27 179 1 i (.view (ao (ae base m b))) (aV (b/base^i%base)) rfl (by rw[gi];exact lj (eR jZ)) k_,xz.at 34,.ix f194 37 2 n i hi k_,.st f194 100037 179 2 i (.row (ao (eT base n i (a-b))) 179 1) (aV ((a-b)/base^i%base)) (.row (ao (eT base n (i+1) (a-b))) 179 1) rfl bT rfl k_,.sum 38 i 1 (i+1) rfl o_]
 ·have xx:b/base^i%base=0:=rH hb o_ d_;rw[xx]at xz;exact aD [.lt 16 i n true (by simp[hi]),.ix f194 18 0 n i hi k_,.ld f194 19 179 0 i (.view (ao (ae base n a))) (aV (a/base^i%base)) rfl (by rw[gi];exact lj (eR hi)) k_,.lt 23 i m false (by simp[jZ]),xz.at 34,.ix f194 37 2 n i hi k_,.st f194 100037 179 2 i (.row (ao (eT base n i (a-b))) 179 1) (aV ((a-b)/base^i%base)) (.row (ao (eT base n (i+1) (a-b))) 179 1) rfl bT rfl k_,.sum 38 i 1 (i+1) rfl o_]
theorem aIv(hb:b<base^m)(b9:b<=a)(h63:n<9223372036854775807):
  ah prog Bs 41 (.block 0 (ag f194 0)) (HD n m a b 0) (Df n m a b 0) 3 ⟨.normal,HD n m a b n,Df n m a b n,3⟩:=
 cd (cx (b:=aI (ag f194 0)) (r:=⟨.exit 0,HD n m a b n,Df n m a b n,3⟩) n (HD n m a b) (Df n m a b)
  (λi k _=>kk (l:=Df n m a b i) (m:=Df n m a b 0) rfl k) (λi hi=>aIu hi hb b9 h63) (aD [.lt 16 n n false s_]) n_)
end
theorem aIw{vb:i_}(gG:iR w va a)(lJ:iR w vb b)(b9:b<=a)(h1:nd base a<35184372088832):
  Calls prog 194 #[va,vb] w λe w'=>∃ v,e=.returned v/\j0 w w' v (a-b)/\Below w.heap.size w w':=by
 have ha:=eB (B:=base) d_ a;have hb:=eB (B:=base) d_ b;have hl:∀ s∈[cG.row va (nd base a) (ao (ae base (nd base a) a)),cG.row vb (nd base b) (ao (ae base (nd base b) b))],s.OK w:=by
  intro s hs;simp at hs;rcases hs with rfl|rfl
  ·exact⟨gG,fR _⟩
  ·exact⟨lJ,fR _⟩
 unfold iR at gG lJ;generalize nd base a=n at *;generalize nd base b=m at *;have hs:a-b<base^n:=by omega
 refine l9 (Q:=λe w'=>∃ v,e=.returned v/\j0 w w' v (a-b)/\Below w.heap.size w w') mixed func194 [cG.row va n (ao (ae base n a)),cG.row vb m (ao (ae base m b))] hl 100 (N:=41) k_
  (rs:=[(aY.qy f194 12 2 n 179 4 (aV 0) (ao (eT base n 0 (a-b))) (by rw[S0,Fm]) rfl rfl o_ (by simp[maxLen];omega) k_:aY prog (aa.at w) 41),.rw 6 (.int .u32 0) (aV (lh base a b 0)) (by rw[S2];rfl),.code 0 _ _ _ _ _ (aIv (n:=n) hb b9 o_),.trim f194 40 2 n (a-b) (.row (ao (eT base n n (a-b))) 179 1) rfl (by rw[<-Hz];rfl) hs o_ (y:=.func 199) k_])
  (v:=.slice (some ⟨2,0,some 7⟩) (nd base (a-b)) 0) (ms:=[(2,.row (ao (eT base n n (a-b))) 179 1)]) k_ λaA ct v' w' hc bJ dP _=>⟨v',rfl,?_,bJ.base⟩
 have hk:=dP _ (aR ..);rw[Hz]at hk;exact xy bJ hk hs hc
structure Bx(g:Nat)(w w':h_):Prop where
 os:tT w w'
 tape:w'.tape=w.tape
 output:w'.output=w.output
 size:w.heap.size<=w'.heap.size
 block:∀ k,k<w.heap.size->k≠g->w'.heap[k]?=w.heap[k]?
def aa.we(w0:h_)(g:Nat):aa where
 G w:=Bx g w0 w
 cW k:=k<w0.heap.size/\k≠g
 lt w k h hk:=cF hk.1 h.size
 dep w w' h h1 h2 h3 h4 h5:=⟨h1.trans h.os,h2.trans h.tape,h3.trans h.output,dh h.size h4,λk hk hg=>(h5 k ⟨hk,hg⟩).trans (h.block k hk hg)⟩
section
variable{P:j_}{B:aa}{N:Nat}
theorem S8{g:Nat}{cells:ak}(hg:w.heap[g]?=some (.cells cur ty (0,0)))(jW:cap<=maxLen)(bH:cur.size=cap*size)(hc:cur.toList.take cells.length=cells)(cR:∀ v∈cells,flat v=true):
  aO (aa.we w g) (dR (λ_=>none) 0 (.at g 0 cap)) (bt (λ_=>none) 0 (.row cells ty size)) w:=by
 have h0:aO (aa.we w g) (λ_=>none) (λ_=>none) w:=
  ⟨⟨.refl w,rfl,rfl,bF _,λ_ _ _=>rfl⟩,λ_ _=>rfl,λk x h=>(by cases h),λk x b o cap h=>(by cases h),λk j x y b o cap o' aQ h=>(by cases h),λk j x F b o cap v h=>(by cases h),λk x b o cap h=>(by cases h),λj F h=>(by cases h),λj k F F' h=>(by cases h),λ_ _ h=>(by cases h)⟩
 refine h0.add rfl (.inr ⟨g,cap,cur,rfl,hg,jW,bH,by rw[hc];exact k6 cR⟩) (λb o cp _ e=>?_) n_ n_;injection e with e1 e2 e3;subst e1;exact⟨(zt.1 hg).1,λh=>h.2 rfl,λj y o' aQ h=>(by cases h),λj F v h=>(by cases h),λj y o' aQ h=>(by cases h)⟩
theorem S9{g:Nat}{cells:ak}(hm:aO (aa.we w g) ι c w')(ry:ι 0=some (.at g 0 cap))(hk:c 0=some (.row cells ty size))(cR:∀ v∈cells,flat v=true):
  Bx g w w'/\∃ cur,w'.heap[g]?=some (.cells cur ty (0,0))/\cur.size=cap*size/\cur.toList.take cells.length=cells:=by
 refine⟨hm.base,?_⟩;obtain⟨l,h1,h2⟩:=hm.born 0 _ hk;rw[ry]at h1;injection h1 with h1;subst h1;rcases h2 with h2|⟨b,aQ,cur,e1,e2,e3,e4,e5⟩
 ·cases h2.1
 ·injection e1 with e1 Dg Dh;subst e1;subst Dh;exact⟨cur,e2,e4,nQ e5 cR⟩
theorem ZX(c:Nat->Option Obj)(k:Nat)(x:Obj):cY (bt c k x) [(k,x)]:=by
 intro j y hj;by_cases h:k=j
 ·subst h;have:ai [(k,x)] k=some x:=by simp[ai]
  rw[this]at hj;rw[<-hj];unfold bt;rw[aB rfl]
 ·have:ai [(k,x)] j=none:=by show(if Nat.beq k j then _ else _)=_;rw[oA h];rfl
  rw[this]at hj;cases hj
theorem aIx{v:i_}(h1:∀ u∈pre,flat u=true)(h2:∀ u∈post,flat u=true):∀{l:ak},bY (aL ι) (pre++v::post) l->∃ v',aL ι v v'/\l=pre++v'::post:=by
 induction pre with
 |nil=>
  intro l h;cases h with
  |cons hv t=>exact⟨_,hv,by rw[nQ t h2];rfl⟩
 |cons u pre ih=>
  intro l h;cases h with
  |cons hu t=>
   obtain⟨v',q1,q2⟩:=ih (λx hx=>h1 x (bI _ hx)) t;exact⟨v',q1,by rw[q2,hu.fD (h1 _ (aR ..))];rfl⟩
theorem aIy{x:m_}{fi:ak}{n:Nat}{cells:ak}{val:i_}(ho:dF o.op=some x)(fe:gg P f=true)
  (dL:fi++args++ca=pre++.slice (some ⟨k,0,some 7⟩) n 0::post) (Nc:∀ u∈pre,flat u=true) (Ta:∀ u∈post,flat u=true) (hn:0<n) (cR:∀ v∈cells,flat v=true) (Bz:∀ v∈cells',flat v=true) (lK:flat val=true)
  (h:∀ w g cap cur,w.heap[g]?=some (.cells cur ty (0,0))->n<=cap->cap<=maxLen->cur.size=cap*size->cur.toList.take cells.length=cells->Calls P f (pre++.slice (some ⟨g,0,none⟩) n cap::post).toArray w λe w'=>e=.returned val/\Bx g w w'/\∃ gp,w'.heap[g]?=some (.cells gp ty (0,0))/\gp.size=cap*size/\gp.toList.take cells'.length=cells') :
  cI P B o (.func (.func f) fi.toArray ca.toArray::args) [(k,some (.row cells ty size))] val [(k,.row cells' ty size)]:=by
 refine jY ho fe λι c w hm fv args' bh=>?_;rw[dL]at bh;have hk:c k=some (.row cells ty size):=fv _ (aR ..);obtain⟨v,hv,rfl⟩:=aIx Nc Ta bh;rcases hv.iC rfl with ⟨_,h0,_⟩|⟨g,oo,cap,c',hb,k7,ni,he⟩
 ·omega
 ·dsimp only at hb he;have kP:c'=cap:=by omega
  subst kP;obtain⟨l,q1,q2⟩:=hm.born k _ hk;rw[hb]at q1;injection q1 with q1;subst q1;rcases q2 with q2|⟨b,aQ,cur,e1,mD,dN,fZ,jt⟩
  ·cases q2.1
  ·injection e1 with e1 e2 e3;subst e1;subst e2;subst e3;rw[he];refine(h w g c' cur mD k7 dN fZ (nQ jt cR)).mono ?_
   rintro e w' ⟨rfl,qC,gp,p1,p2,p3⟩
   refine⟨ι,val,rfl,Map.le.refl _,.same lK,hm.write hk rfl hb qC.os qC.tape qC.output qC.size (λj hj Fp=>qC.block j hj Fp) (.inr ⟨g,c',gp,rfl,p1,dN,p2,?_⟩) n_ rfl⟩;rw[p3];exact k6 Bz
end
theorem aIz{x y:Nat}(hx:x<base)(hy:y<base):aG prog 240 [aV x,aV y] (.tuple #[aV (x*y/base),aV (x*y%base)]):=by
 have h:x*y<base*base:=qA hx hy;exact bC func240 (λ_=>[
  .wr 8 .u64 x x (by rw[ko];unfold base at *;omega),.wr 10 .u64 y y (by rw[ko];unfold base at *;omega),
  .wr 11 .u64 ((x:Int)*y) ((x*y:Nat):Int) (by rw[ko,<-oy];unfold base at *;omega),
  .quo 13 .u64 (((x*y:Nat):Int).fdiv (2^32)) ((x*y/base:Nat):Int) (by rw[sR _ d_];rfl),
  .wr 14 .u32 ((x*y/base:Nat):Int) ((x*y/base:Nat):Int) (by rw[nV];have:x*y/base<base:=(iQ d_).2 h;unfold base at *;omega),
  .wr 16 .u32 ((x*y:Nat):Int) ((x*y%base:Nat):Int) (by rw[nV];unfold base at *;omega)])
section
variable{Bs:aa}{n p t:Nat}
def zJ(n i p t:Nat):aM:=[(0,.row (ao (dc base n i (p+t) p)) 179 1)]
def Kn(n i p t:Nat):aT:=[(0,sl 0 n),(11,vI i),(10,aV (fh base p t i))]
theorem Tb(hi:i<n):fp prog 179 (ao (dc base n i (p+t) p)) i (aV ((p+t)/base^i%base))=some (ao (dc base n (i+1) (p+t) p)):=by rw[zC _ i _ (by simp[ao,xu];omega),zD,zz hi rfl]
theorem aIA(hi:i<n)(ht:t<base^i)(hc:fh base p t i≠0)(h63:n<9223372036854775807):
  ah prog Bs 63 (aI (ag f220 0)) (Kn n i p t) (zJ n i p t) 1 ⟨.normal,Kn n (i+1) p t,zJ n (i+1) p t,1⟩:=by
 have gM:=Bv (B:=base) d_ p t i;have zF:=Kj (x:=p/base^i%base) (y:=t/base^i%base) (c:=fh base p t i) (iu d_ _ _) (iu d_ _ _) (eZ gM d_);rw[HB d_,Fk d_,rH ht (bF _) d_]at zF;exact aD [.rw 48 (.bool (((fh base p t i:Nat):Int)!=0)) b_ (by congr 1;rw[rJ];omega),.ix f220 56 0 n i hi k_,.ld f220 57 179 0 i (.row (ao (dc base n i (p+t) p)) 179 1) (aV (p/base^i%base)) rfl (by rw[gi];exact lj (Db hi (bF _))) k_,zF.at 59,.ix f220 62 0 n i hi k_,.st f220 100062 179 0 i (.row (ao (dc base n i (p+t) p)) 179 1) (aV ((p+t)/base^i%base)) (.row (ao (dc base n (i+1) (p+t) p)) 179 1) rfl (Tb hi) rfl k_,.sum 50 i 1 (i+1) rfl o_]
theorem aIB(hc:fh base p t i=0):ah prog Bs 63 (aI (ag f220 0)) (Kn n i p t) (zJ n i p t) 1 ⟨.exit 0,[],zJ n i p t,1⟩:=
 aD [.rw 48 (.bool (((fh base p t i:Nat):Int)!=0)) a_ (by rw[hc];rfl)]
theorem aIC(hi:i<=n)(ht:t<base^i)(hp:p<base^n)(hs:p+t<base^n)(h63:n<9223372036854775807):
  ah prog Bs 63 (.block 0 (ag f220 0)) (Kn n i p t) (zJ n i p t) 1 ⟨.normal,[],[(0,.row (ao (ae base n (p+t))) 179 1)],1⟩:=by
 have h0:fh base p t (i+(n-i))=0:=by rw[show i+(n-i)=n by omega,S1 hp o_,mH hs]
 obtain⟨e,h1,h2,h3⟩:=zy (λj=>fh base p t (i+j)=0) (n-i) h0;have NZ:t<base^(i+e):=cF ht (di d_ o_)
 have:=cx (P:=prog) (B:=Bs) (N:=63) (b:=aI (ag f220 0)) (next:=1) (r:=⟨.exit 0,[],zJ n (i+e) p t,1⟩) e (λj=>Kn n (i+j) p t) (λj=>zJ n (i+j) p t)
  (λj k _=>kk (l:=zJ n (i+j) p t) (m:=zJ n (i+0) p t) rfl k)
  (λj hj=>aIA o_ (cF ht (di d_ o_)) (h3 j hj) h63) (aIB h2) n_
 have:=cd (id:=0) this;unfold zJ at this;rw[aIf d_ NZ h2]at this;exact this
end
theorem aID{g n at' p x y:Nat}(hg:w.heap[g]?=some (.cells cur 179 (0,0)))(k7:n<=cap)(jW:cap<=maxLen)(bH:cur.size=cap*1)(hc:cur.toList.take (ao (ae base n p)).length=ao (ae base n p))
  (hx:x<base) (hy:y<base) (l4:at'+1<n) (hp:p<base^n) (hs:p+x*y*base^at'<base^n) (h63:n<35184372088832) :
  Calls prog 220 #[.slice (some ⟨g,0,none⟩) n cap,vI at',aV x,aV y] w λe w'=>e=.returned (.tuple #[])/\Bx g w w'/\∃ gp,w'.heap[g]?=some (.cells gp 179 (0,0))/\gp.size=cap*1/\
   gp.toList.take (ao (ae base n (p+x*y*base^at'))).length=ao (ae base n (p+x*y*base^at')):=by
 have hm:=S8 hg jW bH hc (fR _);have kR:x*y<base*base:=qA hx hy;have ht:=aIi (B:=base) d_ (at':=at') kR;have d0:=aIg (B:=base) d_ at' (x*y);have d1:=aIh (B:=base) d_ (at':=at') kR;have c0:=aIe (B:=base) d_ at' p (x*y);have m0:=ZH (B:=base) d_ n at' p (x*y);have s1:fp prog 179 (ao (dc base n at' (p+x*y*base^at') p)) at' (aV ((p+x*y*base^at')/base^at'%base))=some (ao (dc base n (at'+1) (p+x*y*base^at') p)):=Tb o_;have s2:fp prog 179 (ao (dc base n (at'+1) (p+x*y*base^at') p)) (at'+1) (aV ((p+x*y*base^at')/base^(at'+1)%base))=some (ao (dc base n (at'+2) (p+x*y*base^at') p)):=Tb l4;have lo:=aIC (Bs:=aa.we w g) (i:=at'+2) o_ ht hp hs o_;generalize x*y*base^at'=t at *;have ZY:=Kj (x:=p/base^at'%base) (y:=t/base^at'%base) (c:=fh base p t at') (iu d_ _ _) (iu d_ _ _) (by rw[c0];decide);rw[HB d_,Fk d_,d0,c0]at ZY;have gM:=Bv (B:=base) d_ p t (at'+1);have ZZ:=Kj (x:=p/base^(at'+1)%base) (y:=t/base^(at'+1)%base) (c:=fh base p t (at'+1)) (iu d_ _ _) (iu d_ _ _) (eZ gM d_);rw[HB d_,Fk d_,d1]at ZZ
 refine u9 (M:=[(0,.row (ao (ae base n p)) 179 1)]) (next:=1) (args:=[sl 0 n,vI at',aV x,aV y]) (args':=[.slice (some ⟨g,0,none⟩) n cap,vI at',aV x,aV y]) (v:=.tuple #[])
  (ms:=[(0,.row (ao (ae base n (p+t))) 179 1)]) (N:=63) mixed func220 k_ 100
  (rs:=[((aIz hx hy).at 15:aY prog (aa.we w g) 63),.ix f220 23 0 n at' o_ k_,.ld f220 24 179 0 at' (.row (ao (ae base n p)) 179 1) (aV (p/base^at'%base)) rfl (by rw[gi];exact lj (eR o_)) k_,ZY.at 26,.ix f220 29 0 n at' o_ k_,.st f220 100029 179 0 at' (.row (ao (ae base n p)) 179 1) (aV ((p+t)/base^at'%base)) (.row (ao (dc base n (at'+1) (p+t) p)) 179 1) rfl (by rw[<-m0];exact s1) rfl k_,.sum 33 at' 1 (at'+1) rfl o_,.sum 36 at' 1 (at'+1) rfl o_,.ix f220 37 0 n (at'+1) l4 k_,.ld f220 38 179 0 (at'+1) (.row (ao (dc base n (at'+1) (p+t) p)) 179 1) (aV (p/base^(at'+1)%base)) rfl (by rw[gi];exact lj (Db l4 (bF _))) k_,ZZ.at 41,.ix f220 44 0 n (at'+1) l4 k_,.st f220 100044 179 0 (at'+1) (.row (ao (dc base n (at'+1) (p+t) p)) 179 1) (aV ((p+t)/base^(at'+1)%base)) (.row (ao (dc base n (at'+2) (p+t) p)) 179 1) rfl s2 rfl k_,.sum 46 at' 2 (at'+2) rfl o_,.code 0 _ _ _ _ _ lo]) k_ ?_ hm ?_ ?_ ?_
 ·exact .cons (.slc (off:=0) (fX _ _ _) k7 o_) (.cons (.same rfl) (.cons (.same rfl) (.cons (.same rfl) .nil)))
 ·exact ZX _ _ _
 ·intro k hk;unfold bt;rw[az o_]
 ·intro aA ct v' w' hle tU bJ dP;obtain⟨q1,q2⟩:=S9 bJ (hle 0 _ (fX _ _ _)) (dP _ (aR ..)) (fR _);exact⟨by rw[tU.fD rfl],q1,q2⟩
section
variable{Bs:aa}{n m a b:Nat}
def zK(n m a b i k:Nat):Obj:=.row (ao (ae base (n+m+1) (part base a b i k))) 179 1
def Tc(N:Nat):Value:=.func (.func 220) #[sl 2 N] #[]
theorem aIE{x:m_}(ho:dF o.op=some x)(hi:i<n)(hk:k<m)(ha:a<base^n)(hb:b<base^m)(h63:n+m+1<35184372088832):
  cI prog Bs o [Tc (n+m+1),vI (i+k),aV (a/base^i%base),aV (b/base^k%base)] [(2,some (zK n m a b i k))] (.tuple #[]) [(2,zK n m a b i (k+1))]:=by
 refine aIy (fi:=[sl 2 (n+m+1)]) (args:=[vI (i+k),aV (a/base^i%base),aV (b/base^k%base)]) (ca:=[]) (pre:=[]) (post:=[vI (i+k),aV (a/base^i%base),aV (b/base^k%base)]) ho k_ rfl n_
  (λu hu=>by simp at hu;rcases hu with rfl|rfl|rfl<;>rfl) o_ (fR _) (fR _) rfl λw g cap cur h1 h2 h3 h4 h5=>?_
 have al:=ZM (B:=base) d_ ha hb;rw[ZK]
 exact aID h1 h2 h3 h4 h5 (iu d_ _ _) (iu d_ _ _) o_ (eZ (ZL d_ _ _ _ _) al)
  (by rw[<-ZK];exact eZ (ZL d_ _ _ _ _) al) h63
def HE(n m a b i k:Nat):aT:=[(29,vI k),(28,vI m),(27,sl 1 m),(6,Tc (n+m+1)),(7,vI i),(8,aV (a/base^i%base))]
def Di(n m a b i k:Nat):aM:=[(1,.view (ao (ae base m b))),(2,zK n m a b i k)]
theorem aIF(hi:i<n)(hk:k<m)(ha:a<base^n)(hb:b<base^m)(h63:n+m+1<35184372088832):
  ah prog Bs 45 (aI (ag f195 2)) (HE n m a b i k) (Di n m a b i k) 3 ⟨.normal,HE n m a b i (k+1),Di n m a b i (k+1),3⟩:=
 aD [.lt 30 k m true (by simp[hk]),.ix f195 32 1 m k hk k_,.ld f195 33 179 1 k (.view (ao (ae base m b))) (aV (b/base^k%base)) rfl (by rw[gi];exact lj (eR hk)) k_,.sum 37 i k (i+k) rfl o_,.step 40 (au f195 40) _ _ _ _ (aIE (x:=.tmp 34) k_ hi hk ha hb h63),.sum 41 k 1 (k+1) rfl o_]
theorem aIG(hi:i<n)(ha:a<base^n)(hb:b<base^m)(h63:n+m+1<35184372088832):
  ah prog Bs 45 (.block 2 (ag f195 2)) (HE n m a b i 0) (Di n m a b i 0) 3 ⟨.normal,HE n m a b i m,[(1,.view (ao (ae base m b))),(2,zK n m a b (i+1) 0)],3⟩:=by
 have:=cx (P:=prog) (B:=Bs) (N:=45) (b:=aI (ag f195 2)) (r:=⟨.exit 2,HE n m a b i m,Di n m a b i m,3⟩) m (HE n m a b i) (Di n m a b i)
  (λk j _=>kk (l:=Di n m a b i k) (m:=Di n m a b i 0) rfl j) (λk hk=>aIF hi hk ha hb h63) (aD [.lt 30 m m false s_]) n_
 have:=cd (id:=2) this;unfold Di zK at this;rw[aIj hb]at this;exact this
def HF(n m i:Nat):aT:=[(22,vI i),(21,vI n),(20,sl 0 n),(1,sl 1 m),(5,sl 2 (n+m+1)),(6,Tc (n+m+1))]
def Dj(n m a b i:Nat):aM:=[(0,.view (ao (ae base n a))),(1,.view (ao (ae base m b))),(2,zK n m a b i 0)]
theorem aIH(hi:i<n)(ha:a<base^n)(hb:b<base^m)(h63:n+m+1<35184372088832):
  ah prog Bs 45 (aI (ag f195 0)) (HF n m i) (Dj n m a b i) 3 ⟨.normal,HF n m (i+1),Dj n m a b (i+1),3⟩:=
 aD [.lt 23 i n true (by simp[hi]),.ix f195 25 0 n i hi k_,.ld f195 26 179 0 i (.view (ao (ae base n a))) (aV (a/base^i%base)) rfl (by rw[gi];exact lj (eR hi)) k_,.code 2 _ _ _ _ _ (aIG hi ha hb h63),.sum 42 i 1 (i+1) rfl o_]
theorem aII(ha:a<base^n)(hb:b<base^m)(h63:n+m+1<35184372088832):
  ah prog Bs 45 (.block 0 (ag f195 0)) (HF n m 0) (Dj n m a b 0) 3 ⟨.normal,HF n m n,Dj n m a b n,3⟩:=
 cd (cx (b:=aI (ag f195 0)) (r:=⟨.exit 0,HF n m n,Dj n m a b n,3⟩) n (HF n m) (Dj n m a b)
  (λi k _=>kk (l:=Dj n m a b i) (m:=Dj n m a b 0) rfl k) (λi hi=>aIH hi ha hb h63) (aD [.lt 23 n n false s_]) n_)
end
theorem Td(B n:Nat):ae B n 0=List.replicate n 0:=by apply xt<;>simp[ae]
theorem aIJ{vb:i_}(gG:iR w va a)(lJ:iR w vb b)(h63:nd base a+nd base b+1<35184372088832):
  Calls prog 195 #[va,vb] w λe w'=>∃ v,e=.returned v/\j0 w w' v (a*b)/\Below w.heap.size w w':=by
 have ha:=eB (B:=base) d_ a;have hb:=eB (B:=base) d_ b;have hl:∀ s∈[cG.row va (nd base a) (ao (ae base (nd base a) a)),cG.row vb (nd base b) (ao (ae base (nd base b) b))],s.OK w:=by
  intro s hs;simp at hs;rcases hs with rfl|rfl
  ·exact⟨gG,fR _⟩
  ·exact⟨lJ,fR _⟩
 unfold iR at gG lJ;generalize nd base a=n at *;generalize nd base b=m at *;have hs:=ZM (B:=base) d_ ha hb;have bh:part base a b n 0=a*b:=by rw[Dc,dW ha]
 refine l9 (Q:=λe w'=>∃ v,e=.returned v/\j0 w w' v (a*b)/\Below w.heap.size w w') mixed func195 [cG.row va n (ao (ae base n a)),cG.row vb m (ao (ae base m b))] hl 100 (N:=45) k_
  (rs:=[(aY.sum 15 n m (n+m) rfl o_:aY prog (aa.at w) 45),.sum 16 (n+m) 1 (n+m+1) rfl o_,.qy f195 17 2 (n+m+1) 179 4 (aV 0) (zK n m a b 0 0).cells (by show _=ao (ae base (n+m+1) (part base a b 0 0));rw[Dc,sS,uf,kQ,Td,Fm]) rfl rfl o_ (by simp[maxLen];omega) k_,.code 0 _ _ _ _ _ (aII (n:=n) (m:=m) ha hb h63),.trim f195 44 2 (n+m+1) (a*b) (zK n m a b n 0) rfl (by rw[<-bh];rfl) hs o_ (y:=.func 199) k_])
  (v:=.slice (some ⟨2,0,some 7⟩) (nd base (a*b)) 0) (ms:=[(2,zK n m a b n 0)]) k_ λaA ct v' w' hc bJ dP _=>⟨v',rfl,?_,bJ.base⟩
 have hk:=dP _ (aR ..);unfold zK at hk;rw[bh]at hk;exact xy bJ hk hs hc
section
variable{P:j_}{B:aa}{N:Nat}
def HG(o:Oper):Option BinOp:=match o.op with|.binOp b _ _ _ _=>some b|_=>none
theorem N0{b:BinOp}(ho:HG o=some b)(hb:b≠.eql/\b≠.neq){x y v:i_}(hx:flat x=true)(hy:flat y=true)(hv:flat v=true)(h:∀ t w,(binOp b t x y).run P w=.ok v w):
  cI P B o [x,y] [] v []:=by
 unfold HG at ho;split at ho
 ·rename_i b' t p q t2 ck;injection ho with ho;subst ho;refine(CV (λu hu=>by simp at hu;rcases hu with rfl|rfl<;>assumption) hv λρ gu w _=>?_).step;rw[ck]at gu;simp[Op.operands]at gu;have hg:(eqGuard b' t p q (ρ p) (ρ q)).run P w=.ok () w:=by unfold eqGuard;cases b'<;>first|rfl|exact absurd rfl hb.1|exact absurd rfl hb.2
  simp only[execOp,ck,gu.1,gu.2];rw[gu.1,gu.2]at hg;simp[hg,h]
 ·cases ho
def aY.shl(fn:Func)(key:Nat)(k:IntKind)(x r:Int)(n:Nat)(hr:k.wrap (x*2^(min n k.bits))=r)(ho:HG (au fn key)=some .shl):aY P B N:=
 .step key (au fn key) [.int k x,vI n] [] (.int k r) [] (N0 ho ⟨λe=>(by cases e),λe=>(by cases e)⟩ rfl rfl rfl λt w=>by
  have h0:¬((n:Int)<0):=by omega
  simp[binOp,Op.shift,vI,h0,hr])
def aY.shr(fn:Func)(key:Nat)(k:IntKind)(x r:Int)(n:Nat)(hr:x.fdiv (2^(min n k.bits))=r)(ho:HG (au fn key)=some .shr):aY P B N:=
 .step key (au fn key) [.int k x,vI n] [] (.int k r) [] (N0 ho ⟨λe=>(by cases e),λe=>(by cases e)⟩ rfl rfl rfl λt w=>by
  have h0:¬((n:Int)<0):=by omega
  simp[binOp,Op.shift,vI,h0,hr])
def aY.wh(fn:Func)(key:Nat)(k:IntKind)(x y r:Int)(hy:y≠0)(hr:k.wrap (x.tdiv y)=r)(ho:HG (au fn key)=some .quo):aY P B N:=
 .step key (au fn key) [.int k x,.int k y] [] (.int k r) [] (N0 ho ⟨λe=>(by cases e),λe=>(by cases e)⟩ rfl rfl rfl λt w=>by simp[binOp,Op.intDiv,hy,hr])
def aY.Fq(fn:Func)(key:Nat)(k:IntKind)(x y r:Int)(hy:y≠0)(hr:x.tmod y=r)(ho:HG (au fn key)=some .rem):aY P B N:=
 .step key (au fn key) [.int k x,.int k y] [] (.int k r) [] (N0 ho ⟨λe=>(by cases e),λe=>(by cases e)⟩ rfl rfl rfl λt w=>by simp[binOp,Op.intDiv,hy,hr])
def HH(P:j_)(o:Oper):Bool:=match o.op with
 |.index t _ _=>match P.underlying t with|some .string=>true|_=>false
 |_=>false
theorem aIK(ho:HH P o=true){s:ByteArray}{c:UInt8}(hc:s[i]?=some c):cI P B o [.string s,vI i] [] (.int .u8 (c.toNat:Int)) []:=by
 unfold HH at ho;split at ho
 ·rename_i t p q ck;split at ho
  ·rename_i ht;refine(CV (λu hu=>by simp at hu;rcases hu with rfl|rfl<;>rfl) rfl λρ gu w _=>?_).step;rw[ck]at gu;simp[Op.operands]at gu;have h0:(0:Int)<=(i:Int):=by omega
   simp[execOp,ck,gu.1,gu.2,Instr.index,vI,asIntOf,jM ht,h0,hc]
  ·cases ho
 ·cases ho
def aY.sx(fn:Func)(key:Nat)(s:ByteArray)(i:Nat)(c:UInt8)(hc:s[i]?=some c)(ho:HH P (au fn key)=true):aY P B N:=
 .step key (au fn key) [.string s,vI i] [] (.int .u8 (c.toNat:Int)) [] (aIK ho hc)
def Te(P:j_)(o:Oper):Bool:=match o.op with
 |.slice t _ (some _) none none=>match P.underlying t with|some .string=>true|_=>false
 |_=>false
theorem aIL(ho:Te P o=true){s:ByteArray}(hi:i<=s.size):cI P B o [.string s,vI i] [] (.string (s.extract i s.size)) []:=by
 unfold Te at ho;split at ho
 ·rename_i t p q ck;split at ho
  ·rename_i ht;refine(CV (λu hu=>by simp at hu;rcases hu with rfl|rfl<;>rfl) rfl λρ gu w _=>?_).step;rw[ck]at gu;simp[Op.operands]at gu;have h0:(0:Int)<=(i:Int):=by omega
   have h1:(i:Int)<=(s.size:Int):=by omega
   simp[execOp,ck,gu.1,gu.2,Instr.sliceAt,Instr.slice,Instr.sliceBounds,Instr.sliceBound,vI,asIntOf,jM ht,h0,hi]
  ·cases ho
 ·cases ho
def aY.sf(fn:Func)(key:Nat)(s:ByteArray)(i:Nat)(hi:i<=s.size)(ho:Te P (au fn key)=true):aY P B N:=
 .step key (au fn key) [.string s,vI i] [] (.string (s.extract i s.size)) [] (aIL ho hi)
end
def gv(l:List UInt8):Nat:=l.foldl (λa c=>a*256+c.toNat) 0
theorem Tf:∀(l:List UInt8) (a:Nat),l.foldl (λa c=>a*256+c.toNat) a=a*256^l.length+gv l
 |[],a=>by simp[gv]
 |c::l,a=>by have e:gv (c::l)=(0*256+c.toNat)*256^l.length+gv l:=Tf l (0*256+c.toNat);rw[v8,Tf l,e,qm,dH,fP,kQ,kB,gh,cX 256];omega
theorem Ko(c:UInt8)(l:List UInt8):gv (c::l)=c.toNat*256^l.length+gv l:=by have:=Tf l (0*256+c.toNat);have e:gv (c::l)=List.foldl (λa c=>a*256+c.toNat) (0*256+c.toNat) l:=rfl;rw[e,this,kQ,kB]
theorem BB:∀(l:List UInt8),gv l<256^l.length
 |[]=>by simp[gv]
 |c::l=>by
  have h1:=BB l;have h2:c.toNat<256:=c.toNat_lt;rw[Ko,qm,dH];have:c.toNat*256^l.length+256^l.length<=256^l.length*256:=by rw[<-rI,cX];exact jN _ o_
  omega
theorem Z0:∀(l:List UInt8) (i:Nat),i<l.length->∃ c,l[l.length-1-i]?=some c/\c.toNat=gv l/256^i%256
 |[],i,h=>by simp at h
 |c::l,i,h=>by
  rw[qm]at h;rw[Ko];rcases e9 i l.length with hi|hi
  ·obtain⟨d,h1,h2⟩:=Z0 l i hi;refine⟨d,?_,?_⟩
   ·rw[qm,show l.length+1-1-i=(l.length-1-i)+1 by omega,List.getElem?_cons_succ];exact h1
   ·rw[h2];have e:256^l.length=256^i*(256*256^(l.length-i-1)):=by rw[<-Nat.pow_succ',<-eU];congr 1;omega
    rw[e,show c.toNat*(256^i*(256*256^(l.length-i-1)))=256^i*(256*(c.toNat*256^(l.length-i-1)))by rw[nt,nt c.toNat],nr,Kg _ _ (cO d_),Fl]
  ·have e:i=l.length:=by omega
   subst e;refine⟨c,by simp,?_⟩;have h1:=BB l;have h2:c.toNat<256:=c.toNat_lt;rw[cX,nr,Kg _ _ (cO d_),mH h1,kB,dW h2]
def kT(s:ByteArray):Nat:=gv s.data.toList
theorem Z1(s:ByteArray)(i:Nat):s[i]?=s.data.toList[i]?:=by
 by_cases h:i<s.size
 ·rw[getElem?_pos s i h,aW (by simpa using h)];rfl
 ·rw[getElem?_neg s i h,Bf (by simpa using h)]
theorem Z2(s:ByteArray):kT s<256^s.size:=BB _
theorem Tg(s:ByteArray)(h:i<s.size):∃ c,s[s.size-1-i]?=some c/\c.toNat=kT s/256^i%256:=by rw[Z1];exact Z0 s.data.toList i (by simpa using h)
theorem aIM:(a%256^i/4294967296^(i/4)%4294967296)||| (a/256^i%256*2^(8*(i%4)))=a%256^(i+1)/4294967296^(i/4)%4294967296:=by
 have hB:(4294967296:Nat)=256^4:=by decide
 have e1:(4294967296:Nat)^(i/4)=256^(4*(i/4)):=by rw[hB,<-sT]
 have e2:(2:Nat)^(8*(i%4))=256^(i%4):=by rw[sT]
 have e3:256^i=256^(4*(i/4))*256^(i%4):=by rw[<-eU];congr 1;omega
 have hq:0<256^(4*(i/4)):=cO d_;have hr:256^(i%4)*256<=4294967296:=by rw[hB,<-dH];exact di d_ o_
 rw[e1,e2];have m1:a%256^i/256^(4*(i/4))=a/256^(4*(i/4))%256^(i%4):=by rw[e3,BC]
 have m2:a%256^(i+1)/256^(4*(i/4))=a/256^(4*(i/4))%(256^(i%4)*256):=by rw[dH,e3,gh,BC]
 have m3:a/256^i%256=a/256^(4*(i/4))/256^(i%4)%256:=by rw[e3,lg]
 rw[m1,m2,m3];generalize a/256^(4*(i/4))=c;have hp:0<256^(i%4):=cO d_;have h1:=cP c hp;have h2:c/256^(i%4)%256<256:=cP _ d_;have h3:c%(256^(i%4)*256)=c%256^(i%4)+256^(i%4)*(c/256^(i%4)%256):=NM;have h4:c%(256^(i%4)*256)<256^(i%4)*256:=cP _ o_;rw[dW (show c%256^(i%4)<4294967296 by omega),dW (show c%(256^(i%4)*256)<4294967296 by omega),h3];have e4:(256:Nat)^(i%4)=2^(8*(i%4)):=by rw[sT]
 rw[e4]at h1 ⊢;rw[Nat.or_comm,cX,<-N1 h1,nr]
theorem aIN(h:j≠i/4):a%256^i/4294967296^j%4294967296=a%256^(i+1)/4294967296^j%4294967296:=by
 have hB:(4294967296:Nat)=256^4:=by decide
 have e1:(4294967296:Nat)^j=256^(4*j):=by rw[hB,<-sT]
 rw[e1];rcases E5 h with h1|h1
 ·-- lower digits
  have k:∀ i,4*j+4<=i->a%256^i/256^(4*j)%4294967296=a/256^(4*j)%4294967296:=by
   intro i hi;have e3:256^i=256^(4*j)*(4294967296*256^(i-4*j-4)):=by rw[hB,<-eU,<-eU];congr 1;omega
   rw[e3,BC,Kp]
  rw[k i o_,k (i+1) o_]
 ·have hp:∀ i,i<=4*j->a%256^i/256^(4*j)=0:=by intro i hi;exact mH (cF (cP _ (cO d_)) (di d_ hi))
  rw[hp i o_,hp (i+1) o_]
theorem aIO{n:Nat}(hi:i/4<n):(ae 4294967296 n (a%256^i)).set (i/4) (a%256^(i+1)/4294967296^(i/4)%4294967296)=ae 4294967296 n (a%256^(i+1)):=by
 apply xt
 ·simp[ae]
 ·intro j h1 h2;simp only[ae,dQ,zx]at h2;rw[HA];simp only[ae,C9,Da];by_cases hj:i/4=j
  ·rw[aB hj,hj]
  ·rw[az hj];exact aIN (kO hj)
def BA(l:List UInt8):ByteArray:=⟨l.toArray⟩
theorem pc(l:List UInt8):(BA l).size=l.length:=rfl
theorem Kq(l:List UInt8)(i:Nat):(BA l)[i]?=l[i]?:=by rw[Z1];rfl
theorem aIP(l:List UInt8)(i:Nat):(BA l).extract i (BA l).size=BA (l.drop i):=by apply ByteArray.ext;rw[ByteArray.data_extract];show(l.toArray).extract i l.length=(l.drop i).toArray;apply EW;simp[kG]
def j4:List UInt8->Nat
 |[]=>0
 |c::l=>if c=0 then j4 l+1 else 0
theorem Z3:∀ l:List UInt8,j4 l<=l.length
 |[]=>bF _
 |c::l=>by unfold j4;have:=Z3 l;split<;>simp<;>omega
theorem Z4:∀(l:List UInt8) (i:Nat),i<j4 l->l[i]?=some 0
 |[],i,h=>by simp[j4]at h
 |c::l,i,h=>by
  unfold j4 at h;split at h
  ·rename_i hc;cases i with
   |zero=>rw[hc];rfl
   |succ i=>exact Z4 l i o_
  ·omega
theorem Z5:∀(l:List UInt8),j4 l<l.length->∃ c,l[j4 l]?=some c/\c≠0
 |[],h=>by simp at h
 |c::l,h=>by
  unfold j4 at h ⊢;split at h
  ·rename_i hc;rw[aB hc];obtain⟨d,h1,h2⟩:=Z5 l (by simpa using h);exact⟨d,h1,h2⟩
  ·rename_i hc;rw[az hc];exact⟨c,rfl,hc⟩
def Kr(l:List UInt8):List UInt8:=l.drop (j4 l)
theorem aIQ{x n:Nat}(hn:n<=32)(h:x*2^n<base):IntKind.u32.wrap ((x:Int)*2^(min n IntKind.u32.bits))=((x*2^n:Nat):Int):=by
 have e:(x:Int)*2^n=((x*2^n:Nat):Int):=by simp
 rw[show min n IntKind.u32.bits=n from oz hn,nV,e];unfold base at h;omega
section
variable{Bs:aa}{n N a:Nat}{s:ByteArray}
def HI(s:ByteArray)(n N i:Nat):aT:=[(13,vI i),(12,vI n),(0,.string s),(3,sl 0 N)]
def Dk(N a i:Nat):aM:=[(0,.row (ao (ae base N (a%256^i))) 179 1)]
theorem aIR(hn:n=s.size)(hN:N=(n+3)/4)(ha:a=kT s)(hi:i<n)(h63:n<35184372088832):
  ah prog Bs 39 (aI (ag f191 0)) (HI s n N i) (Dk N a i) 1 ⟨.normal,HI s n N (i+1),Dk N a (i+1),1⟩:=by
 obtain⟨c,gM,dq⟩:=Tg s (show i<s.size by omega);rw[<-hn]at gM;rw[<-ha]at dq;have xA:i/4<N:=by omega
 have hb:=aIM (a:=a) (i:=i);have h1:a%256^i/base^(i/4)%base<base:=iu d_ _ _;have h2:c.toNat*2^(8*(i%4))<base:=by have:c.toNat<256:=c.toNat_lt;have h3:2^(8*(i%4))<=2^24:=di d_ o_;have:=xB (show c.toNat<=255 by omega) h3;unfold base;omega
 have bT:fp prog 179 (ao (ae base N (a%256^i))) (i/4) (aV (a%256^(i+1)/base^(i/4)%base))=some (ao (ae base N (a%256^(i+1)))):=by rw[zC _ _ _ (by simp[ao,o8];exact xA),zD,aIO xA]
 have lI:((a%256^i/base^(i/4)%base||| c.toNat*2^(8*(i%4)):Nat):Int)=((a%256^(i+1)/base^(i/4)%base:Nat):Int):=by rw[dq];exact cS _ hb
 have hlen:(s.size:Int)=((n:Nat):Int):=by rw[hn]
 exact aD [.lt 14 i n true (by simp[hi]),.rw 17 (.int .i64 (s.size:Int)) (vI n) (by rw[hlen];rfl),.fq 18 n 1 (n-1) o_ o_,.fq 20 (n-1) i (n-1-i) o_ o_,.wr 23 .i64 (Int.tdiv (i:Int) 4) ((i/4:Nat):Int) (by rw[eh,BD o_];omega),.ix f191 24 0 N (i/4) xA k_,.ld f191 25 179 0 (i/4) (.row (ao (ae base N (a%256^i))) 179 1) (aV (a%256^i/base^(i/4)%base)) rfl (by rw[gi];exact lj (eR xA)) k_,.sx f191 28 s (n-1-i) c gM k_,.wr 29 .u32 (c.toNat:Int) (c.toNat:Int) (by rw[nV];have:=c.toNat_lt;omega),.quo 31 .i64 (Int.tmod (i:Int) 4) ((i%4:Nat):Int) (by rw[zL o_];omega),.wr 32 .i64 (8*((i%4:Nat):Int)) ((8*(i%4):Nat):Int) (by rw[eh];omega),.shl f191 33 .u32 (c.toNat:Int) ((c.toNat*2^(8*(i%4)):Nat):Int) (8*(i%4)) (aIQ o_ h2) k_,.quo 34 .u32 _ _ ((S7 h1 h2).trans lI),.ix f191 35 0 N (i/4) xA k_,.st f191 100035 179 0 (i/4) (.row (ao (ae base N (a%256^i))) 179 1) (aV (a%256^(i+1)/base^(i/4)%base)) (.row (ao (ae base N (a%256^(i+1)))) 179 1) rfl bT rfl k_,.sum 36 i 1 (i+1) rfl o_]
theorem aIS(hn:n=s.size)(hN:N=(n+3)/4)(ha:a=kT s)(h63:n<35184372088832):
  ah prog Bs 39 (.block 0 (ag f191 0)) (HI s n N 0) (Dk N a 0) 1 ⟨.normal,HI s n N n,Dk N a n,1⟩:=
 cd (cx (b:=aI (ag f191 0)) (r:=⟨.exit 0,HI s n N n,Dk N a n,1⟩) n (HI s n N) (Dk N a)
  (λi k _=>kk (l:=Dk N a i) (m:=Dk N a 0) rfl k) (λi hi=>aIR hn hN ha hi h63) (aD [.lt 14 n n false s_]) n_)
end
theorem aIT{s:ByteArray}(h63:s.size<35184372088832):
  Calls prog 191 #[.string s] w λe w'=>∃ v,e=.returned v/\j0 w w' v (kT s)/\Below w.heap.size w w':=by
 have al:=Z2 s;have hs:kT s<base^((s.size+3)/4):=by
  have:(base:Nat)=256^4:=by decide
  rw[this,<-sT];exact cF al (di d_ o_)
 have bh:kT s%256^s.size=kT s:=dW al
 refine l9 (Q:=λe w'=>∃ v,e=.returned v/\j0 w w' v (kT s)/\Below w.heap.size w w') mixed func191 [cG.plain (.string s)] (λx hx=>by simp at hx;subst hx;rfl) 100 (N:=39) k_
  (rs:=[(aY.sum 8 s.size 3 (s.size+3) rfl o_:aY prog (aa.at w) 39),.wr 9 .i64 (Int.tdiv ((s.size+3:Nat):Int) 4) (((s.size+3)/4:Nat):Int) (by rw[eh,BD o_];omega),.qy f191 10 0 ((s.size+3)/4) 179 4 (aV 0) (ao (ae base ((s.size+3)/4) (kT s%256^0))) (by rw[sS,uf,Td,Fm]) rfl rfl o_ (by simp[maxLen];omega) k_,.code 0 _ _ _ _ _ (aIS (n:=s.size) (N:=(s.size+3)/4) (a:=kT s) rfl rfl rfl h63),.trim f191 38 0 ((s.size+3)/4) (kT s) (.row (ao (ae base ((s.size+3)/4) (kT s%256^s.size))) 179 1) rfl (by rw[bh];rfl) hs o_ (y:=.func 199) k_])
  (v:=.slice (some ⟨0,0,some 7⟩) (nd base (kT s)) 0) (ms:=[(0,.row (ao (ae base ((s.size+3)/4) (kT s%256^s.size))) 179 1)]) k_ λaA ct v' w' hc bJ dP _=>⟨v',rfl,?_,bJ.base⟩
 have hk:=dP _ (aR ..);rw[bh]at hk;exact xy bJ hk hs hc
section
variable{Bs:aa}{l:List UInt8}
def Dl(l:List UInt8)(i:Nat):aT:=[(0,.string (BA (l.drop i))),(1,.int .u8 0)]
theorem Th:(((BA (l.drop i)).size:Nat):Int)=((l.length-i:Nat):Int):=by rw[pc,vV]
theorem aIU(hi:i<j4 l):ah prog Bs 17 (aI (ag f242 0)) (Dl l i) [] 0 ⟨.normal,Dl l (i+1),[],0⟩:=by
 have hz:=Z4 l i hi;have hle:=Z3 l;have e:(BA (l.drop i)).extract 1 (BA (l.drop i)).size=BA (l.drop (i+1)):=by rw[aIP,N2]
 have h1:1<=(BA (l.drop i)).size:=by rw[pc,vV];omega
 exact aD [.rw 6 (.int .i64 (((BA (l.drop i)).size:Nat):Int)) (vI (l.length-i)) (by rw[Th];rfl),.gt 7 (l.length-i) 0 true (by simp;omega),.sx f242 10 (BA (l.drop i)) 0 0 (by rw[Kq,Hl];exact hz) k_,.sf f242 15 (BA (l.drop i)) 1 h1 k_,.rw 0 (.string ((BA (l.drop i)).extract 1 (BA (l.drop i)).size)) (.string (BA (l.drop (i+1)))) (by rw[e])]
theorem aIV:ah prog Bs 17 (aI (ag f242 0)) (Dl l (j4 l)) [] 0 ⟨.exit 0,Dl l (j4 l),[],0⟩:=by
 by_cases h:j4 l<l.length
 ·obtain⟨c,h1,h2⟩:=Z5 l h;have h3:c.toNat≠0:=λe=>h2 (N3.1 (by rw[e];rfl));exact aD [.rw 6 (.int .i64 (((BA (l.drop (j4 l))).size:Nat):Int)) (vI (l.length-j4 l)) (by rw[Th];rfl),.gt 7 (l.length-j4 l) 0 true (by simp;omega),.sx f242 10 (BA (l.drop (j4 l))) 0 c (by rw[Kq,Hl];exact h1) k_,.gO 12 c.toNat 0 false (by simp[h3])]
 ·exact aD [.rw 6 (.int .i64 (((BA (l.drop (j4 l))).size:Nat):Int)) (vI (l.length-j4 l)) (by rw[Th];rfl),.gt 7 (l.length-j4 l) 0 false (by simp;omega)]
theorem aIW:ah prog Bs 17 (.block 0 (ag f242 0)) (Dl l 0) [] 0 ⟨.normal,Dl l (j4 l),[],0⟩:=
 cd (cx (b:=aI (ag f242 0)) (r:=⟨.exit 0,Dl l (j4 l),[],0⟩) (j4 l) (Dl l) (λ_=>[]) (λi k _=>Iff.rfl) (λi hi=>aIU hi) aIV n_)
end
theorem aIX(l:List UInt8):aG prog 242 [.string (BA l),.int .u8 0] (.string (BA (Kr l))):=
 bC func242 (λ_=>[.code 0 _ _ _ _ _ (aIW (l:=l))])
theorem Z6(l:List UInt8):(BA l).toList=l:=by rw[ByteArray.toList_eq];rfl
theorem Ft(l:List UInt8):((BA l).toList==(ByteArray.mk #[]).toList)=decide (l=[]):=by rw[Z6,show(ByteArray.mk #[]).toList=[]from Z6 []];cases l<;>rfl
theorem aIY(l:List UInt8):aG prog 225 [.string (BA l),.string ⟨#[0]⟩] (.string (BA (Kr l))):=by
 by_cases h:l=[]
 ·subst h;exact bC func225 (λ_=>[.rw 8 (.bool ((BA []).toList==(ByteArray.mk #[]).toList)) b_ (by rw[Ft];rfl)])
 ·exact bC func225 (λ_=>[.rw 8 (.bool ((BA l).toList==(ByteArray.mk #[]).toList)) a_ (by rw[Ft,bd h]),(aIX l).at 25])
theorem Ti{x y:Nat}(hx:x<18446744073709551616)(hy:y<18446744073709551616):IntKind.u64.wrap (((BitVec.ofInt IntKind.u64.bits (x:Int))||| (BitVec.ofInt IntKind.u64.bits (y:Int))).toNat:Int)=((x||| y:Nat):Int):=by
 show IntKind.u64.wrap (((BitVec.ofInt 64 (x:Int))||| (BitVec.ofInt 64 (y:Int))).toNat:Int)=_;have e:∀ x:Nat,(BitVec.ofInt 64 (x:Int))=BitVec.ofNat 64 x:=λx=>by simp
 have t:∀ x:Nat,x<18446744073709551616->(BitVec.ofNat 64 x).toNat=x:=λx h=>by rw[BitVec.toNat_ofNat];exact dW h
 rw[e,e,BitVec.toNat_or,t x hx,t y hy,ko];have:x||| y<18446744073709551616:=ZS (n:=64) hx hy
 omega
theorem aIZ{hi lo y:Nat}(hh:hi<y)(hl:lo<base)(hy:y<base):
  aG prog 241 [aV hi,aV lo,aV y] (.tuple #[aV ((hi*base+lo)/y),aV ((hi*base+lo)%y)]):=by
 have lI:hi*base||| lo=hi*base+lo:=by have:=N1 (i:=32) hl hi;rw[cX];exact this.symm
 have hs:hi*base+lo<18446744073709551616:=by clear lI;unfold base at *;omega
 have hq:(hi*base+lo)/y<base:=by rw[iQ o_];have:=eE base (show hi+1<=y by omega);rw[cX base y];clear lI;unfold base at *;omega
 have hr:(hi*base+lo)%y<base:=mJ (cP _ o_) hy;have xx:(y:Int)≠0:=by omega
 have h64:base=4294967296:=rfl;have hA:hi*base<18446744073709551616:=eZ (Ks _ _) hs;have HJ:IntKind.u64.wrap ((hi:Int)*2^32)=((hi*base:Nat):Int):=by
  have e:(hi:Int)*2^32=((hi*base:Nat):Int):=by rw[oy];rfl
  rw[e,ko];generalize hi*base=H at hA ⊢;omega
 have hB:lo<18446744073709551616:=mJ hl d_;have key:∀ H:Nat,H=hi*base->IntKind.u64.wrap (((BitVec.ofInt IntKind.u64.bits (H:Int))||| (BitVec.ofInt IntKind.u64.bits (lo:Int))).toNat:Int)=((hi*base+lo:Nat):Int):=by intro H hH;rw[Ti (by rw[hH];exact hA) hB,hH,lI]
 obtain⟨H,hH⟩:∃ H,H=hi*base:=⟨_,rfl⟩;have Z7:=key H hH;rw[<-hH]at HJ;generalize hi*base+lo=S at *;have u64:∀{z:Nat},z<base->IntKind.u64.wrap (z:Int)=z:=λ{z} h=>by rw[ko];unfold base at h;omega
 have u32:∀{z:Nat},z<base->IntKind.u32.wrap (z:Int)=z:=λ{z} h=>by rw[nV];unfold base at h;omega
 have qw:IntKind.u64.wrap (Int.tdiv (S:Int) y)=((S/y:Nat):Int):=by rw[BD o_,<-ug];exact u64 hq
 have lk:Int.tmod (S:Int) y=((S%y:Nat):Int):=by rw[zL o_];rfl
 exact bC func241 (λ_=>[
  .rw 10 (.bool ((y:Int)!=0)) b_ (by congr 1;rw[rJ];exact xx),
  .rw 14 (.bool (decide ((y:Int)<=(hi:Int)))) a_ (by congr 1;rw[Z8];omega),
  .wr 18 .u64 hi hi (u64 o_),.wr 19 .u64 ((hi:Int)*2^32) (H:Int) HJ,.wr 21 .u64 lo lo (u64 hl),
  .quo 22 .u64 _ (S:Int) Z7,.wr 25 .u64 y y (u64 hy),
  .wh f241 26 .u64 (S:Int) y ((S/y:Nat):Int) xx qw k_,.wr 27 .u32 ((S/y:Nat):Int) ((S/y:Nat):Int) (u32 hq),
  .wr 30 .u64 y y (u64 hy),
  .Fq f241 31 .u64 (S:Int) y ((S%y:Nat):Int) xx lk k_,.wr 32 .u32 ((S%y:Nat):Int) ((S%y:Nat):Int) (u32 hr)])
def dr(i:Nat):Value:=.int .i64 ((i:Int)-1)
theorem eF(j:Nat):dr (j+1)=vI j:=by
 unfold dr vI;have e:((j+1:Nat):Int)-1=(j:Int):=by omega
 rw[e]
theorem pd(h:j<9223372036854775807):IntKind.i64.wrap ((j:Int)-1)=(j:Int)-1:=by rw[eh];omega
section
variable{Bs:aa}{n a d:Nat}
def sU(n a d i:Nat):aT:=[(8,dr i),(6,sl 1 n),(7,aV (a/base^i%d)),(0,sl 0 n),(1,aV d)]
def Dm(n a d i:Nat):aM:=[(0,.view (ao (ae base n a))),(1,.row (ao (gS base n i (a/d))) 179 1)]
theorem N4(hj:j<n)(hd:0<d)(nu:d<base)(h63:n<35184372088832):
  ah prog Bs 35 (aI (ag f221 0)) (sU n a d (j+1)) (Dm n a d (j+1)) 2 ⟨.normal,sU n a d j,Dm n a d j,2⟩:=by
 have bT:fp prog 179 (ao (gS base n (j+1) (a/d))) j (aV (a/d/base^j%base))=some (ao (gS base n j (a/d))):=by rw[zC _ _ _ (by simp[ao,NR];exact hj),zD,NT hj rfl]
 have hdiv:=aIZ (hi:=a/base^(j+1)%d) (lo:=a/base^j%base) (y:=d) (cP _ hd) (iu d_ _ _) nu;obtain⟨q1,q2⟩:=ZN (B:=base) d_ hd (j5 nu) a j;rw[q1,q2]at hdiv;exact aD [.rw 15 (dr (j+1)) (vI j) (eF j),.ge 16 j 0 true s_,.rw 21 (dr (j+1)) (vI j) (eF j),.rw 24 (dr (j+1)) (vI j) (eF j),.ix f221 25 0 n j hj k_,.ld f221 26 179 0 j (.view (ao (ae base n a))) (aV (a/base^j%base)) rfl (by rw[gi];exact lj (eR hj)) k_,hdiv.at 28,.ix f221 31 1 n j hj k_,.st f221 100031 179 1 j (.row (ao (gS base n (j+1) (a/d))) 179 1) (aV (a/d/base^j%base)) (.row (ao (gS base n j (a/d))) 179 1) rfl bT rfl k_,.rw 17 (dr (j+1)) (vI j) (eF j),.wr 18 .i64 ((j:Int)-1) ((j:Int)-1) (pd o_)]
theorem aI0(hd:0<d)(nu:d<base)(h63:n<35184372088832):
  ah prog Bs 35 (.block 0 (ag f221 0)) (sU n a d n) (Dm n a d n) 2 ⟨.normal,sU n a d 0,Dm n a d 0,2⟩:=by
 have:=cx (P:=prog) (B:=Bs) (N:=35) (b:=aI (ag f221 0)) (next:=2) (r:=⟨.exit 0,sU n a d 0,Dm n a d 0,2⟩) n (λi=>sU n a d (n-i)) (λi=>Dm n a d (n-i))
  (λi k _=>kk (l:=Dm n a d (n-i)) (m:=Dm n a d (n-0)) rfl k)
  (λi hi=>by
   have e:n-i=(n-(i+1))+1:=by omega
   simp only[e];exact N4 o_ hd nu h63)
  (by
   have e:n-n=0:=by omega
   simp only[e];exact aD [.rw 16 (.bool (decide (((0:Nat):Int)-1>=0))) a_ rfl]) n_
 exact cd this
end
theorem aI1(gG:iR w va a)(hd:0<d)(nu:d<base)(h1:nd base a<35184372088832):
  Calls prog 221 #[va,aV d] w λe w'=>∃ v,e=.returned (.tuple #[v,aV (a%d)])/\j0 w w' v (a/d)/\Below w.heap.size w w':=by
 have ha:=eB (B:=base) d_ a;have hl:∀ s∈[cG.row va (nd base a) (ao (ae base (nd base a) a)),cG.plain (aV d)],s.OK w:=by
  intro s hs;simp at hs;rcases hs with rfl|rfl
  ·exact⟨gG,fR _⟩
  ·rfl
 unfold iR at gG;generalize nd base a=n at *;have hs:a/d<base^n:=eZ (uh _ _) ha;have e0:a/base^n%d=0:=by rw[mH ha];exact Nat.zero_mod _
 have e1:a/base^0%d=a%d:=by simp
 refine l9 (Q:=λe w'=>∃ v,e=.returned (.tuple #[v,aV (a%d)])/\j0 w w' v (a/d)/\Below w.heap.size w w') mixed func221 [cG.row va n (ao (ae base n a)),cG.plain (aV d)] hl 100 (N:=35) k_
  (rs:=[(aY.qy f221 11 1 n 179 4 (aV 0) (ao (gS base n n (a/d))) (by rw[NS,Fm]) rfl rfl o_ (by simp[maxLen];omega) k_:aY prog (aa.at w) 35),.rw 7 (.int .u32 0) (aV (a/base^n%d)) (by rw[e0];rfl),.wr 14 .i64 ((n:Int)-1) ((n:Int)-1) (pd o_),.code 0 _ _ _ _ _ (aI0 (n:=n) (a:=a) hd nu h1),.trim f221 33 1 n (a/d) (.row (ao (gS base n 0 (a/d))) 179 1) rfl (by rw[<-Ki];rfl) hs o_ (y:=.func 199) k_])
  (v:=.tuple #[.slice (some ⟨1,0,some 7⟩) (nd base (a/d)) 0,aV (a/base^0%d)]) (ms:=[(1,.row (ao (gS base n 0 (a/d))) 179 1)]) k_ λaA ct v' w' hc bJ dP _=>?_
 obtain⟨vs,he,bh⟩:=hc.uR;obtain⟨v1,v2,aU,c1,c2⟩:=js bh;have hk:=dP _ (aR ..);rw[Ki]at hk;refine⟨v1,?_,xy bJ hk hs c1,bJ.base⟩;rw[he,show vs=#[v1,v2]from vW.1 aU,c2.fD rfl,e1]
def iv(a b:Nat):Int:=if a<b then -1 else if b<a then 1 else 0
section
variable{Bs:aa}{n a b:Nat}
def BE(n i:Nat):aT:=[(5,dr i),(0,sl 0 n),(1,sl 1 n)]
def sV(n a b:Nat):aM:=[(0,.view (ao (ae base n a))),(1,.view (ao (ae base n b)))]
noncomputable def Tj(n a b j:Nat)(hj:j<n)(t1 t2:Bool)(h1:decide (a/base^j%base<b/base^j%base)=t1)(h2:decide (b/base^j%base<a/base^j%base)=t2)(more:bM prog Bs 43):bM prog Bs 43:=
 .rw 19 (dr (j+1)) (vI j) (eF j)::.ge 20 j 0 true s_::.rw 25 (dr (j+1)) (vI j) (eF j)::.ix f193 26 0 n j hj k_::
  .ld f193 27 179 0 j (.view (ao (ae base n a))) (aV (a/base^j%base)) rfl (by rw[gi];exact lj (eR hj)) k_::
  .rw 29 (dr (j+1)) (vI j) (eF j)::.ix f193 30 1 n j hj k_::
  .ld f193 31 179 1 j (.view (ao (ae base n b))) (aV (b/base^j%base)) rfl (by rw[gi];exact lj (eR hj)) k_::
  .lt 32 (a/base^j%base) (b/base^j%base) t1 h1::(if t1 then[]else
  .rw 35 (dr (j+1)) (vI j) (eF j)::.ix f193 36 0 n j hj k_::
  .ld f193 37 179 0 j (.view (ao (ae base n a))) (aV (a/base^j%base)) rfl (by rw[gi];exact lj (eR hj)) k_::
  .rw 39 (dr (j+1)) (vI j) (eF j)::.ix f193 40 1 n j hj k_::
  .ld f193 41 179 1 j (.view (ao (ae base n b))) (aV (b/base^j%base)) rfl (by rw[gi];exact lj (eR hj)) k_::
  .gt 42 (a/base^j%base) (b/base^j%base) t2 h2::more)
theorem aI2(hj:j<n)(he:a/base^j%base=b/base^j%base)(h63:n<35184372088832):
  ah prog Bs 43 (aI (ag f193 0)) (BE n (j+1)) (sV n a b) 2 ⟨.normal,BE n j,sV n a b,2⟩:=
 aD (Tj n a b j hj false false (by simp[he]) (by simp[he]) [.rw 21 (dr (j+1)) (vI j) (eF j),.wr 22 .i64 ((j:Int)-1) ((j:Int)-1) (pd o_)])
theorem aI3(hj:j<n)(al:a/base^j%base<b/base^j%base):
  ah prog Bs 43 (aI (ag f193 0)) (BE n (j+1)) (sV n a b) 2 ⟨.ret,[(4,.int .i64 (-1))],sV n a b,2⟩:=
 aD (Tj n a b j hj true false (by simp[al]) (by simp;omega) [])
theorem aI4(hj:j<n)(al:b/base^j%base<a/base^j%base):
  ah prog Bs 43 (aI (ag f193 0)) (BE n (j+1)) (sV n a b) 2 ⟨.ret,[(4,.int .i64 1)],sV n a b,2⟩:=
 aD (Tj n a b j hj false true (by simp;omega) (by simp[al]) [])
theorem aI5:ah prog Bs 43 (aI (ag f193 0)) (BE n 0) (sV n a b) 2 ⟨.exit 0,[],sV n a b,2⟩:=
 aD [.rw 20 (.bool (decide (((0:Nat):Int)-1>=0))) a_ rfl]
theorem aI6(ha:a<base^n)(hb:b<base^n)(h63:n<35184372088832):
  ah prog Bs 43 (.block 0 (ag f193 0)) (BE n n) (sV n a b) 2 (if a=b then⟨.normal,[],sV n a b,2⟩else⟨.ret,[(4,.int .i64 (iv a b))],sV n a b,2⟩):=by
 obtain⟨e,h1,h2,h3⟩:=zy (λt=>¬(t<n/\a/base^(n-1-t)%base=b/base^(n-1-t)%base)) n o_;have vg:=ZO ha hb e h1 λs hs=>(Fu.1 (h3 s hs)).2;have go:∀(r:mF),r.ex≠.normal->ah prog Bs 43 (aI (ag f193 0)) (BE n (n-e)) (sV n a b) 2 r->ah prog Bs 43 (.loop (aI (ag f193 0))) (BE n n) (sV n a b) 2 r:=by
  intro r hr pO
  exact cx (P:=prog) (B:=Bs) (N:=43) (b:=aI (ag f193 0)) (next:=2) (r:=r) e (λi=>BE n (n-i)) (λ_=>sV n a b) (λi k _=>Iff.rfl)
   (λi hi=>by
    have q:=Fu.1 (h3 i hi);have e1:n-i=(n-(i+1))+1:=by omega
    have e2:n-1-i=n-(i+1):=by omega
    simp only[e1];exact aI2 o_ (by rw[<-e2];exact q.2) h63) pO hr
 by_cases Dn:e=n
 ·have b9:a=b:=by rw[Dn,wi,sS,Fv,Fv]at vg;exact vg
  rw[aB b9];have:=go ⟨.exit 0,[],sV n a b,2⟩ n_ (by rw[Dn,wi];exact aI5);exact cd (id:=0) this
 ·have hj:n-e=(n-1-e)+1:=by omega
  have bw:a/base^(n-1-e)%base≠b/base^(n-1-e)%base:=λh=>h2 ⟨by omega,h⟩;rw[hj]at vg go;have b9:a≠b:=λh=>bw (by rw[h]);rw[az b9];rcases E5 bw with al|tZ
  ·have hl:=NU vg al;have e1:iv a b=-1:=by unfold iv;rw[aB hl]
   rw[e1];exact cd (id:=0) (go _ n_ (aI3 o_ al))
  ·have hl:=NU vg.symm tZ;have e1:iv a b=1:=by unfold iv;rw[az o_,aB hl]
   rw[e1];exact cd (id:=0) (go _ n_ (aI4 o_ tZ))
end
def qD(a b:Nat):Int:=if nd base a=nd base b then iv a b else(nd base a:Int)-nd base b
theorem N5{a b:Nat}:0<=qD a b↔b<=a:=by
 unfold qD;by_cases h:nd base a=nd base b
 ·rw[aB h];unfold iv;by_cases h1:a<b
  ·rw[aB h1];omega
  ·rw[az h1];by_cases h2:b<a
   ·rw[aB h2];omega
   ·rw[az h2];omega
 ·rw[az h];rcases e9 a b with h1|h1
  ·have:=jx (B:=base) d_ (j5 h1);omega
  ·have:=jx (B:=base) d_ h1;omega
theorem N6{vb:i_}(gG:iR w va a)(lJ:iR w vb b)(h1:nd base a<35184372088832)(h2:nd base b<35184372088832):
  Calls prog 193 #[va,vb] w λe w'=>e=.returned (.int .i64 (qD a b))/\Below w.heap.size w w':=by
 have ha:=eB (B:=base) d_ a;have hb:=eB (B:=base) d_ b;have hl:∀ s∈[cG.row va (nd base a) (ao (ae base (nd base a) a)),cG.row vb (nd base b) (ao (ae base (nd base b) b))],s.OK w:=by
  intro s hs;simp at hs;rcases hs with rfl|rfl
  ·exact⟨gG,fR _⟩
  ·exact⟨lJ,fR _⟩
 unfold iR at gG lJ;unfold qD;generalize nd base a=n at *;generalize nd base b=m at *;have fin:∀{aA:Map} {ct:Nat->Option Obj} {v':i_} {w':h_} {z:Int},aL aA (.int .i64 z) v'->aO (aa.at w) aA ct w'->Ending.returned v'=.returned (.int .i64 z)/\Below w.heap.size w w':=λhc hm=>⟨by rw[hc.fD rfl],hm.base⟩;have bw:∀ t:Bool,decide (n=m)=!t->(Value.bool (((n:Nat):Int)!=((m:Nat):Int)))=.bool t:=by
  intro t h
  congr 1
  by_cases kF:n=m
  ·subst kF;simp at h;subst h;simp
  ·rw[bd kF]at h;have:t=true:=by cases t<;>simp at h ⊢
   subst this;rw[rJ];omega
 by_cases kF:n=m
 ·subst kF;rw[aB rfl];have lo:=aI6 (Bs:=aa.at w) ha hb h1;by_cases b9:a=b
  ·rw[aB b9]at lo;have ho:iv a b=0:=by unfold iv;rw[az o_,az o_]
   rw[ho]
   exact l9 (Q:=λe w'=>e=.returned (.int .i64 0)/\Below w.heap.size w w') mixed func193 [cG.row va n (ao (ae base n a)),cG.row vb n (ao (ae base n b))] hl 100 (N:=43) k_
    (rs:=[(aY.rw 10 (.bool (((n:Nat):Int)!=((n:Nat):Int))) a_ (bw false s_):aY prog (aa.at w) 43),.wr 18 .i64 ((n:Int)-1) ((n:Int)-1) (pd o_),.code 0 _ _ _ _ _ lo])
    (v:=.int .i64 0) (ms:=[]) k_ λaA ct v' w' hc bJ _ _=>fin hc bJ
  ·rw[az b9]at lo
   exact l9 (Q:=λe w'=>e=.returned (.int .i64 (iv a b))/\Below w.heap.size w w') mixed func193 [cG.row va n (ao (ae base n a)),cG.row vb n (ao (ae base n b))] hl 100 (N:=43) k_
    (rs:=[(aY.rw 10 (.bool (((n:Nat):Int)!=((n:Nat):Int))) a_ (bw false s_):aY prog (aa.at w) 43),.wr 18 .i64 ((n:Int)-1) ((n:Int)-1) (pd o_),.code 0 _ _ _ _ _ lo])
    (v:=.int .i64 (iv a b)) (ms:=[]) k_ λaA ct v' w' hc bJ _ _=>fin hc bJ
 ·rw[az kF]
  exact l9 (Q:=λe w'=>e=.returned (.int .i64 ((n:Int)-m))/\Below w.heap.size w w') mixed func193 [cG.row va n (ao (ae base n a)),cG.row vb m (ao (ae base m b))] hl 100 (N:=43) k_
   (rs:=[(aY.rw 10 (.bool (((n:Nat):Int)!=((m:Nat):Int))) b_ (bw true (by simp[kF])):aY prog (aa.at w) 43),.wr 15 .i64 ((n:Int)-(m:Int)) ((n:Int)-m) (by rw[eh];omega)])
   (v:=.int .i64 ((n:Int)-m)) (ms:=[]) k_ λaA ct v' w' hc bJ _ _=>fin hc bJ
section
variable{P:j_}{B:aa}{N:Nat}
def BF(P:j_)(o:Oper):Option (Nat×List Nat×TypeId×Nat×Value):=match o.op with
 |.buildSlice t len parts=>match P.underlying t with
  |some (.slice e)=>(match P.info? e with|some i=>(match i.zero with|some z=>some (len,parts.toList.map (·.1),e,i.size,z)|none=>none)|none=>none)
  |_=>none
 |_=>none
def Ku(size len:Nat)(z:i_)(ps:aT):Option (Array Value):=
 Instr.fill (λi=>some (i*size,size)) ((Array.range (len*size)).map (z.cells[·%z.cells.size]!)) ps
theorem N7{ρ:Operand->Value}:∀(l:List (Nat×Operand)) {vs:ak},(l.map (·.2)).map ρ=vs->(l.map λp=>(p.1,ρ p.2))=(l.map (·.1)).zip vs
 |[],vs,h=>by subst h;rfl
 |p::l,vs,h=>by subst h;simp only[oZ,List.zip_cons_cons];rw[N7 l rfl]
theorem aI7{idx:l_}{z:i_}(ho:BF P o=some (len,idx,e,size,z)){vs:ak}{cells:p_}(cR:∀ v∈vs,flat v=true)(Tk:∀ v∈cells.toList,flat v=true)
  (Dp:Ku size len z (idx.zip vs)=some cells) (bH:cells.size=len*size) (zM:0<len*size) (hle:len*size<=16777216) (k:Nat) :
  cI P B o vs [(k,none)] (.slice (some ⟨k,0,some 7⟩) len 0) [(k,.row cells.toList e size)]:=by
 unfold BF at ho;split at ho
 ·rename_i t mf parts ck;split at ho
  ·rename_i e' ht;split at ho
   ·rename_i i hi;split at ho
    ·rename_i z' hz;injection ho with ho;injection ho with h1 ho;injection ho with h2 ho;injection ho with h3 ho;injection ho with h4 h5;subst h1;subst h2;subst h3;subst h4;subst h5;refine iM.step λι c ρ w aU hm hn=>?_;have hk:c k=none:=hn _ (aR ..);rw[ck]at aU;have aU:=nQ aU cR;have cq:List.map (λx=>(x.fst,ρ x.snd)) parts.toList=(parts.toList.map (·.1)).zip vs:=
      N7 parts.toList (by simpa[Op.operands]using aU)
     have N8:mf<=maxLen:=by have:mf<=mf*i.size:=Fw _ (Nat.pos_of_mul_pos_left zM);simp[maxLen];omega
     have uV:Map.le ι _:=gZ (l:=.at w.heap.size 0 mf) (hm.dE k hk);have lE:=Hn (ty:=e') (size:=i.size) (cap:=mf) (rest:=#[]) hm hk (k6 Tk:bY (aL ι) cells.toList cells.toList) N8 (by simpa using bH);refine⟨_,.slice (some ⟨w.heap.size,0,none⟩) mf mf,_,uV,.slc (o:=0) (off:=0) (fX _ _ _) (bF _) o_,lE,.inl ?_⟩;have h0:¬(mf*i.size=0):=by omega
     have h1:¬(16777216<mf*i.size):=by omega
     unfold Ku at Dp;simp only[execOp,ck];simp[Instr.buildSlice,jM ht,sizeOf,typeInfo,hi,zeroValue,hz,h0,h1,newRow];rw[cq,Dp];simp[newObj,Sem.run]
    ·cases ho
   ·cases ho
  ·cases ho
 ·cases ho
def Fx(P:j_)(o:Oper):Option (TypeId×Nat×Nat×Nat×Bool):=match o.op with
 |.call c=>match c.callee,c.args.toList,c.argTypes.toList with
  |.builtin .append,[_,_],[t,t']=>if Nat.beq t t' then(match P.underlying t with
   |some (.slice e)=>(match P.info? e with|some i=>(match i.zero with|some z=>some (e,i.size,i.bytes,z.cells.size,true)|none=>none)|none=>none)
   |_=>none)else none
  |_,_,_=>none
 |_=>none
theorem Z9(ho:Fx P o=some (e,size,n2,A,true)):∃ s x t i z,o.op=.call { callee:=.builtin .append,args:=#[s,x],argTypes:=#[t,t]}/\P.underlying t=some (.slice e)/\P.info? e=some i/\i.zero=some z/\i.size=size/\i.bytes=n2/\z.cells.size=A:=by
 unfold Fx at ho;split at ho
 ·rename_i c ck;split at ho
  ·rename_i s x t t' hc ha l4;split at ho
   ·rename_i htt;split at ho
    ·rename_i e' ht;split at ho
     ·rename_i i hi;split at ho
      ·rename_i z hz;injection ho with ho;injection ho with h1 ho;injection ho with h2 ho;injection ho with h3 ho;injection ho with h4 h5;subst h1;have:=k9 htt;subst this;refine⟨s,x,t,i,z,?_,ht,hi,hz,h2,h3,h4⟩;rw[ck];obtain⟨c1,c2,c3⟩:=c;dsimp only at hc ha l4;subst hc
       congr 2
       ·exact vW.1 ha
       ·exact vW.1 l4
      ·cases ho
     ·cases ho
    ·cases ho
   ·cases ho
  ·cases ho
 ·cases ho
theorem aAa(ho:Fx P o=some (e,size,n2,size,true))(bH:0<size){sv:i_}(zj:CX B sv m eW need)(hl:eW.length=m*size)(Sg:∀ v∈eW,v.oneCell'=true)
  {j n:Nat} {cells:ak} (oV:n*size<=cells.length) (h63:n+m<=maxLen) (CW:(n+m)*n2<=140737488355328) (k:Nat) :
  cI P B o [.slice (some ⟨j,0,some 7⟩) n 0,sv] ((k,none)::(j,some (.row cells e size))::need) (.slice (some ⟨k,0,some 7⟩) (n+m) 0) [(k,.row (cells.take (n*size)++eW) e size),(j,.dead)]:=by
 obtain⟨s,x,t,i,z,ck,ht,hi,hz,h1,h2,h3⟩:=Z9 ho;subst h1;subst h2;exact(aHJ ck ht hi hz h3 bH zj hl Sg oV h63 CW k).step
theorem aI8(ho:Fx P o=some (e,size,n2,size,true))(bH:0<size){sv:i_}(zj:CX B sv m eW need)(hl:eW.length=m*size)
  (h63:m<=maxLen) (CW:m*n2<=140737488355328) (k:Nat) :
  cI P B o [.slice none 0 0,sv] ((k,none)::need) (.slice (some ⟨k,0,some 7⟩) m 0) [(k,.row eW e size)]:=by
 obtain⟨s,x,t,i,z,ck,ht,hi,hz,h1,h2,h3⟩:=Z9 ho;subst h1;subst h2;exact(aHI ck ht hi hz h3 bH zj hl h63 CW k).step
def aY.bs(fn:Func)(key k len e size:Nat)(idx:l_)(z:i_)(vs:ak)(cells:p_)(x:Obj)(hx:Obj.row cells.toList e size=x)(cR:∀ v∈vs,flat v=true)(Tk:∀ v∈cells.toList,flat v=true)
  (Dp:Ku size len z (idx.zip vs)=some cells) (bH:cells.size=len*size) (zM:0<len*size) (hle:len*size<=16777216) (ho:BF P (au fn key)=some (len,idx,e,size,z)):aY P B N:=
 .step key (au fn key) vs [(k,none)] (.slice (some ⟨k,0,some 7⟩) len 0) [(k,x)] (by subst hx;exact aI7 ho cR Tk Dp bH zM hle k)
end
theorem Tl{n:Nat}(hn:n<18446744073709551616):
  Calls prog 157 #[.int .u64 n] w λe w'=>∃ v,e=.returned v/\j0 w w' v n/\Below w.heap.size w w':=by
 have hs:n<base^2:=by unfold base;omega
 have e0:n/base^0%base=n%base:=by simp
 have e1:n/base^1%base=n/base:=by rw[BG];exact dW (by rw[iQ d_];unfold base;omega)
 refine l9 (Q:=λe w'=>∃ v,e=.returned v/\j0 w w' v n/\Below w.heap.size w w') mixed func157 [cG.plain (.int .u64 n)] (λx hx=>by simp at hx;subst hx;rfl) 100 (N:=10) k_
  (rs:=[(aY.wr 4 .u32 (n:Int) ((n/base^0%base:Nat):Int) (by rw[nV,e0];unfold base;omega):aY prog (aa.at w) 10),.quo 6 .u64 ((n:Int).fdiv (2^32)) ((n/base:Nat):Int) (by rw[sR _ d_];unfold base;omega),.wr 7 .u32 ((n/base:Nat):Int) ((n/base^1%base:Nat):Int) (by rw[nV,e1];unfold base;omega),.bs f157 8 0 2 179 1 [0,1] (aV 0) [aV (n/base^0%base),aV (n/base^1%base)] #[aV (n/base^0%base),aV (n/base^1%base)] (.row (ao (ae base 2 n)) 179 1) rfl
    (λv hv=>by simp at hv;rcases hv with rfl|rfl<;>rfl) (λv hv=>by simp at hv;rcases hv with rfl|rfl<;>rfl) k_ rfl o_ o_ k_,
   .trim f157 9 0 2 n (.row (ao (ae base 2 n)) 179 1) rfl rfl hs d_ (y:=.func 199) k_])
  (v:=.slice (some ⟨0,0,some 7⟩) (nd base n) 0) (ms:=[(0,.row (ao (ae base 2 n)) 179 1)]) k_ λaA ct v' w' hc bJ dP _=>⟨v',rfl,?_,bJ.base⟩
 exact xy bJ (dP _ (aR ..)) hs hc
section
variable{Bs:aa}{n a:Nat}
def BH(n a i:Nat):aT:=[(4,dr i),(0,sl 0 n),(3,.int .u64 ((a/base^i:Nat):Int))]
def Dq(n a:Nat):aM:=[(0,.view (ao (ae base n a)))]
theorem aI9(hj:j<n)(ha:a<18446744073709551616)(h63:n<35184372088832):
  ah prog Bs 21 (aI (ag f198 0)) (BH n a (j+1)) (Dq n a) 1 ⟨.normal,BH n a j,Dq n a,1⟩:=by
 have hd:=iu (B:=base) d_ a j;have he:=xw (B:=base) a j;have hle:a/base^j<18446744073709551616:=eZ (uh _ _) ha;generalize hA:a/base^(j+1)=A at *;generalize hx:a/base^j%base=x at *;have hAB:A*base<18446744073709551616:=by omega
 have lI:A*base||| x=a/base^j:=by have:=N1 (i:=32) hd A;rw[he,cX];exact this.symm
 have Tm:IntKind.u64.wrap ((A:Int)*2^32)=((A*base:Nat):Int):=by
  have e:(A:Int)*2^32=((A*base:Nat):Int):=by rw[oy];rfl
  rw[e,ko];generalize A*base=H at hAB ⊢;omega
 have HJ:∀ H:Nat,H=A*base->IntKind.u64.wrap (((BitVec.ofInt IntKind.u64.bits (H:Int))||| (BitVec.ofInt IntKind.u64.bits (x:Int))).toNat:Int)=((a/base^j:Nat):Int):=by intro H hH;rw[Ti (by rw[hH];exact hAB) (mJ hd d_),hH,lI]
 obtain⟨H,hH⟩:∃ H,H=A*base:=⟨_,rfl⟩;have HJ:=HJ H hH;rw[<-hH]at Tm
 have:=fF (P:=prog) (B:=Bs) (N:=21) mixed (c:=aI (ag f198 0)) (fr:=[(4,dr (j+1)),(0,sl 0 n),(3,.int .u64 (A:Int))]) (M:=Dq n a) (next:=1) (r:=⟨.normal,BH n a j,Dq n a,1⟩) 100
  [.rw 8 (dr (j+1)) (vI j) (eF j),.ge 9 j 0 true s_,.wr 13 .u64 ((A:Int)*2^32) (H:Int) Tm,.rw 15 (dr (j+1)) (vI j) (eF j),.ix f198 16 0 n j hj k_,.ld f198 17 179 0 j (.view (ao (ae base n a))) (aV x) rfl (by rw[gi,<-hx];exact lj (eR hj)) k_,.wr 18 .u64 (x:Int) (x:Int) (by rw[ko];unfold base at hd;omega),.quo 19 .u64 _ ((a/base^j:Nat):Int) HJ,.rw 10 (dr (j+1)) (vI j) (eF j),.wr 11 .i64 ((j:Int)-1) ((j:Int)-1) (pd o_)] k_
 have e:BH n a (j+1)=[(4,dr (j+1)),(0,sl 0 n),(3,.int .u64 (A:Int))]:=by unfold BH;rw[hA]
 rw[e];exact this
theorem aJa(ha:a<18446744073709551616)(h63:n<35184372088832):
  ah prog Bs 21 (.block 0 (ag f198 0)) (BH n a n) (Dq n a) 1 ⟨.normal,BH n a 0,Dq n a,1⟩:=by
 have:=cx (P:=prog) (B:=Bs) (N:=21) (b:=aI (ag f198 0)) (next:=1) (r:=⟨.exit 0,BH n a 0,Dq n a,1⟩) n (λi=>BH n a (n-i)) (λ_=>Dq n a) (λi k _=>Iff.rfl)
  (λi hi=>by
   have e:n-i=(n-(i+1))+1:=by omega
   simp only[e];exact aI9 o_ ha h63)
  (by
   have e:n-n=0:=by omega
   simp only[e];exact aD [.rw 9 (.bool (decide (((0:Nat):Int)-1>=0))) a_ rfl]) n_
 exact cd this
end
theorem aAb(gG:iR w va a)(ha:a<18446744073709551616)(h1:nd base a<35184372088832):
  Calls prog 198 #[va] w λe w'=>e=.returned (.int .u64 (a:Int))/\Below w.heap.size w w':=by
 have al:=eB (B:=base) d_ a;have hl:∀ s∈[cG.row va (nd base a) (ao (ae base (nd base a) a))],s.OK w:=by intro s hs;simp at hs;subst hs;exact⟨gG,fR _⟩
 unfold iR at gG;generalize nd base a=n at *;have e0:a/base^n=0:=mH al;have e1:a/base^0=a:=by simp
 refine l9 (Q:=λe w'=>e=.returned (.int .u64 (a:Int))/\Below w.heap.size w w') mixed func198 [cG.row va n (ao (ae base n a))] hl 100 (N:=21) k_
  (rs:=[(aY.rw 3 (.int .u64 0) (.int .u64 ((a/base^n:Nat):Int)) (by rw[e0];rfl):aY prog (aa.at w) 21),.wr 7 .i64 ((n:Int)-1) ((n:Int)-1) (pd o_),.code 0 _ _ _ _ _ (aJa (n:=n) (a:=a) ha h1)])
  (v:=.int .u64 ((a/base^0:Nat):Int)) (ms:=[]) k_ λaA ct v' w' hc bJ _ _=>⟨?_,bJ.base⟩
 rw[hc.fD rfl,e1]
end Go.Proofs.YthjhinbiabcfiaaGreatDoor
