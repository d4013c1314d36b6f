/- Weights of solids: the proof of MeasureWeightsCardSaid (the law's function answers true at every record and all densities it can be given; theorem measureWeights_card, last part), part 1 of 7; no condition. -/
import Derived.WalkKit
import Derived.Orders
import Derived.KernelRfl
import Derived.Deep.MidRow
import Derived.Below
import Derived.OwnWalk
import Derived.OwnWalkIn
import Derived.OrdersIn
import Derived.LoopNIn
import Derived.TacticsIn
import Derived.LoopN
import Derived.DeepKeys
import Derived.RangeFuncLeaves
import Derived.RangeFuncSeq
import Derived.Lib.SliceRun
import Derived.Shelf.SlSortCmp.WholeK
import Derived.OpenShut
import Derived.ProofKit
import Derived.Carry
import Derived.ChangeOld
import Derived.Deep.DeepHandedRow
import Derived.Test.YtmocejjfkdcgkaaGreatDoorProg
namespace Go.Proofs.YtmocejjfkdcgkaaGreatDoor
open Go Go.RowKit Tryz
abbrev p_:=Array Value
abbrev m_:=Operand
abbrev l_:=List Nat
abbrev j_:=Program
abbrev i_:=Value
abbrev h_:=World
abbrev f_:=List (Int×List Int)
abbrev b_:=Value.bool true
abbrev a_:=Value.bool false
variable{d cc len n2 n1 A:Nat}{u va:i_}{Q:Ending->World->Prop}{cur:p_}
theorem k_{p:Prop}(h:p:=by kernel_rfl):p:=h
theorem o_{p:Prop}(h:p:=by omega):p:=h
theorem d_{p:Prop}(h:p:=by decide):p:=h
theorem n_{p:Prop}(h:p:=by nofun):p:=h
theorem s_{p:Prop}(h:p:=by simp):p:=h
abbrev zn:=@Go.Addr.add_mid
abbrev E9:=@Array.ext'
abbrev aB7:=@Array.foldl_toList
abbrev qC:=@Array.getD_eq_getD_getElem?
abbrev aDz:=@Array.getElem?_append_left
abbrev zt:=@Array.getElem?_eq_getElem
abbrev Zs:=@Array.getElem?_eq_none
abbrev zx:=@Array.getElem?_eq_some_iff
abbrev YX:=@Array.getElem?_modify
abbrev SI:=@Array.getElem?_setIfInBounds_ne
abbrev zj:=@Array.length_toList
abbrev NI:=@Array.mem_toList_iff
abbrev An:=@Array.toArray_toList
abbrev IX:=@Array.toList_eq_nil_iff
abbrev wz:=@Array.toList_inj
abbrev aIh:=@Array.toList_setIfInBounds
abbrev dr:=@Bool.and_eq_true
abbrev On:=@Bool.and_false
abbrev AA:=@Bool.and_self
abbrev iJ:=@Bool.and_true
abbrev zL:=@Bool.false_and
abbrev OZ:=@Bool.false_bne
abbrev vy:=@Bool.false_eq_true
abbrev zM:=@Bool.false_or
abbrev Qj:=@Bool.not_eq_true
abbrev zr:=@Bool.not_eq_true'
abbrev Om:=@Bool.not_false
abbrev KD:=@Bool.not_true
abbrev NN:=@Bool.or_eq_false_iff
abbrev vl:=@Bool.or_eq_true
abbrev kF:=@Bool.true_and
abbrev O0:=@Bool.true_bne
abbrev HI:=@Bool.true_or
abbrev gR:=@Classical.byContradiction
abbrev FE:=@Classical.not_not
abbrev aG0:=@Go.DataW.trod_struct
abbrev Ss:=@Go.RowKit.Below.heap_alloc
abbrev Wi:=@Go.Sort.size_flatK
abbrev aBo:=@Int.add_mul_ediv_right
abbrev aPf:=@Int.add_mul_emod_self_left
abbrev Ph:=@Int.ediv_mul_cancel
abbrev UD:=@Int.eq_of_mul_eq_mul_right
abbrev sT:=@Int.fdiv_eq_ediv_of_nonneg
abbrev Pb:=@Int.lt_trichotomy
abbrev Uh:=@Int.mul_comm
abbrev DY:=@Int.mul_ne_zero
abbrev Ip:=@Int.mul_neg
abbrev UM:=@Int.mul_pos
abbrev aBJ:=@Int.natAbs_add_le
abbrev aK5:=@Int.natAbs_ediv_le_natAbs
abbrev vF:=@Int.natAbs_mul
abbrev yb:=@Int.natAbs_natCast
abbrev KX:=@Int.natAbs_neg
abbrev wK:=@Int.natCast_add
abbrev ug:=@Int.natCast_ediv
abbrev WA:=@Int.natCast_emod
abbrev oO:=@Int.natCast_mul
abbrev H9:=@Int.natCast_pow
abbrev Io:=@Int.neg_mul
abbrev KY:=@Int.neg_neg
abbrev O1:=@Int.one_mul
abbrev H8:=@Int.pow_nonneg
abbrev aKY:=@Int.sign_eq_neg_one_iff_neg
abbrev FT:=@Int.sign_eq_neg_one_of_neg
abbrev Cf:=@Int.sign_eq_one_of_pos
abbrev aKZ:=@Int.sign_eq_zero_iff_zero
abbrev BP:=@Int.tdiv_eq_ediv_of_nonneg
abbrev wH:=@Int.tmod_eq_emod_of_nonneg
abbrev dh:=@Go.IntKind.wrap_i64
abbrev ow:=@Go.IntKind.wrap_u32
abbrev kp:=@Go.IntKind.wrap_u64
abbrev aAR:=@Go.IntKind.wrap_u8
abbrev aGA:=@List.Pairwise.imp_of_mem
abbrev aCZ:=@List.Pairwise.nil
abbrev dL:=@List.all_cons
abbrev JK:=@List.all_eq_false
abbrev bB:=@List.all_eq_true
abbrev eX:=@List.all_nil
abbrev Kk:=@List.any_eq_false
abbrev rD:=@List.any_eq_true
abbrev Fo:=@List.append_assoc
abbrev jL:=@List.append_nil
abbrev BX:=@List.cons_append
abbrev aHl:=@List.cons_ne_nil
abbrev Ou:=@List.drop_drop
abbrev Qd:=@List.drop_eq_getElem_cons
abbrev Sv:=@List.drop_left'
abbrev mT:=@List.drop_zero
abbrev mf:=@List.eq_nil_of_length_eq_zero
abbrev xL:=@List.ext_getElem
abbrev TR:=@List.ext_getElem?
abbrev NS:=@List.filter_cons
abbrev aTK:=@List.findIdx_lt_length_of_exists
abbrev VX:=@List.flatMap_append
abbrev aDh:=@List.foldl_append
abbrev wE:=@List.foldl_cons
abbrev aCQ:=@List.foldl_nil
abbrev Uo:=@List.foldr_cons
abbrev Un:=@List.foldr_nil
abbrev Ff:=@List.getD_eq_getElem?_getD
abbrev Kj:=@List.getElem?_append_left
abbrev Fg:=@List.getElem?_append_right
abbrev E5:=@List.getElem?_drop
abbrev bo:=@List.getElem?_eq_getElem
abbrev Br:=@List.getElem?_eq_none
abbrev aAF:=@List.getElem?_eq_none_iff
abbrev eA:=@List.getElem?_eq_some_iff
abbrev vi:=@List.getElem?_map
abbrev Y4:=@List.getElem?_of_mem
abbrev L7:=@List.getElem?_range
abbrev u4:=@List.getElem?_take
abbrev Dl:=@List.getElem_map
abbrev dB:=@List.getElem_mem
abbrev k8:=@List.getElem_of_mem
abbrev Dm:=@List.getElem_range
abbrev HP:=@List.getElem_set
abbrev Ru:=@List.getElem_take
abbrev PW:=@List.getLast?_cons_cons
abbrev lh:=@List.length_append
abbrev pS:=@List.length_cons
abbrev wy:=@List.length_drop
abbrev eH:=@List.length_map
abbrev zD:=@List.length_range
abbrev Jg:=@List.length_replicate
abbrev G9:=@List.length_reverse
abbrev WH:=@List.length_set
abbrev Qf:=@List.length_singleton
abbrev jH:=@List.length_take
abbrev Kr:=@List.mapM_cons
abbrev UN:=@List.mapM_nil
abbrev vf:=@List.map_append
abbrev vm:=@List.map_congr_left
abbrev nE:=@List.map_cons
abbrev TG:=@List.map_map
abbrev TI:=@List.map_nil
abbrev Dk:=@List.map_take
abbrev eW:=@List.mem_append
abbrev sC:=@List.mem_append_left
abbrev yZ:=@List.mem_append_right
abbrev cC:=@List.mem_cons
abbrev bF:=@List.mem_cons_of_mem
abbrev aT:=@List.mem_cons_self
abbrev aFr:=@List.mem_filter
abbrev Zl:=@List.mem_filterMap
abbrev w6:=@List.mem_flatMap
abbrev db:=@List.mem_map
abbrev cL:=@List.mem_of_getElem?
abbrev XF:=@List.mem_of_mem_drop
abbrev I5:=@List.mem_of_mem_take
abbrev jT:=@List.mem_range
abbrev LL:=@List.mem_reverse
abbrev Cz:=@List.mem_singleton
abbrev jg:=@List.nil_append
abbrev Yb:=@List.nodup_cons
abbrev j6:=@List.not_mem_nil
abbrev tA:=@List.pairwise_cons
abbrev Ri:=@List.pairwise_iff_getElem
abbrev aCE:=@List.pairwise_reverse
abbrev VA:=@List.pairwise_singleton
abbrev aTI:=@List.perm_ext_iff_of_nodup
abbrev Li:=@List.range_succ
abbrev wU:=@List.reverse_cons
abbrev aCD:=@List.reverse_eq_nil_iff
abbrev V0:=@List.set_append_right
abbrev NF:=@List.size_toArray
abbrev vS:=@List.take_add_one
abbrev aC4:=@List.take_append
abbrev Ml:=@List.take_append_drop
abbrev Sy:=@List.take_left
abbrev Su:=@List.take_left'
abbrev o5:=@List.take_length
abbrev kT:=@List.take_of_length_le
abbrev NC:=@List.take_take
abbrev aAL:=@List.take_zero
abbrev u9:=@Nat.add_assoc
abbrev nG:=@Nat.add_comm
abbrev Ln:=@Nat.add_le_add
abbrev aAc:=@Nat.add_le_add_left
abbrev Hb:=@Nat.add_le_add_right
abbrev KR:=@Nat.add_mod_right
abbrev fQ:=@Nat.add_mul
abbrev Kx:=@Nat.add_mul_div_left
abbrev pW:=@Nat.add_mul_div_right
abbrev Fz:=@Nat.add_mul_mod_self_left
abbrev DH:=@Nat.add_mul_mod_self_right
abbrev OG:=@Nat.add_sub_cancel
abbrev FJ:=@Nat.add_sub_cancel_left
abbrev jf:=@Nat.add_zero
abbrev Ol:=@Nat.and_lt_two_pow
abbrev HJ:=@Nat.beq_refl
abbrev NM:=@Nat.ble_eq_true_of_le
abbrev BB:=@Nat.blt_eq
abbrev jz:=@Nat.div_add_mod
abbrev ll:=@Nat.div_div_eq_div_mul
abbrev mS:=@Nat.div_eq_of_lt
abbrev uh:=@Nat.div_le_self
abbrev iP:=@Nat.div_lt_iff_lt_mul
abbrev Z5:=@Nat.div_lt_self
abbrev DM:=@Nat.div_mul_le_self
abbrev FF:=@Nat.div_one
abbrev OL:=@Nat.div_pos
abbrev IJ:=@Nat.dvd_gcd
abbrev Lf:=@Nat.dvd_of_mod_eq_zero
abbrev DW:=@Nat.dvd_trans
abbrev Sj:=@Nat.eq_of_beq_eq_true
abbrev aK4:=@Nat.eq_of_mul_eq_mul_right
abbrev oV:=@Nat.eq_zero_or_pos
abbrev Iq:=@Nat.gcd_comm
abbrev Cj:=@Nat.gcd_dvd_left
abbrev UC:=@Nat.gcd_dvd_right
abbrev aBQ:=@Nat.gcd_le_left
abbrev UQ:=@Nat.gcd_zero_left
abbrev Uf:=@Nat.gcd_zero_right
abbrev KJ:=@Nat.le_add_right
abbrev aAK:=@Nat.le_antisymm
abbrev DL:=@Nat.le_div_iff_mul_le
abbrev Wb:=@Nat.le_mul_of_pos_left
abbrev FG:=@Nat.le_mul_of_pos_right
abbrev sF:=@Nat.le_of_ble_eq_true
abbrev u5:=@Nat.le_of_eq
abbrev jl:=@Nat.le_of_lt
abbrev PH:=@Nat.le_of_not_lt
abbrev bC:=@Nat.le_refl
abbrev zq:=@Nat.le_succ
abbrev OV:=@Nat.le_total
abbrev dq:=@Nat.le_trans
abbrev aBb:=@Nat.log2_self_le
abbrev fq:=@Nat.lt_of_le_of_lt
abbrev cG:=@Nat.lt_of_lt_of_le
abbrev aJY:=@Nat.lt_of_mul_lt_mul_right
abbrev e7:=@Nat.lt_or_ge
abbrev Fj:=@Nat.lt_or_gt_of_ne
abbrev aB8:=@Nat.lt_succ_of_lt
abbrev B5:=@Nat.lt_succ_self
abbrev mU:=@Nat.lt_trans
abbrev tR:=@Nat.lt_trichotomy
abbrev aEs:=@Nat.max_eq_left
abbrev aEr:=@Nat.max_eq_right
abbrev oP:=@Nat.min_eq_left
abbrev WD:=@Nat.min_eq_right
abbrev dW:=@Nat.mod_eq_of_lt
abbrev Ky:=@Nat.mod_le
abbrev cM:=@Nat.mod_lt
abbrev Oa:=@Nat.mod_mul
abbrev BO:=@Nat.mod_mul_right_div_self
abbrev KG:=@Nat.mod_mul_right_mod
abbrev uf:=@Nat.mod_one
abbrev UA:=@Nat.mod_two_eq_zero_or_one
abbrev pr:=@Nat.mul_add
abbrev gi:=@Nat.mul_assoc
abbrev cX:=@Nat.mul_comm
abbrev Tk:=@Nat.mul_div_cancel
abbrev aA8:=@Nat.mul_div_mul_right
abbrev qG:=@Nat.mul_le_mul
abbrev jK:=@Nat.mul_le_mul_left
abbrev eV:=@Nat.mul_le_mul_right
abbrev nH:=@Nat.mul_left_comm
abbrev qE:=@Nat.mul_lt_mul''
abbrev aA9:=@Nat.mul_lt_mul_of_lt_of_le
abbrev Z9:=@Nat.mul_lt_mul_of_pos_left
abbrev B4:=@Nat.mul_lt_mul_of_pos_right
abbrev Le:=@Nat.mul_mod
abbrev Z8:=@Nat.mul_mod_left
abbrev aA7:=@Nat.mul_mod_mul_right
abbrev gS:=@Nat.mul_one
abbrev rL:=@Nat.mul_pos
abbrev B7:=@Nat.mul_right_comm
abbrev Od:=@Nat.mul_succ
abbrev KQ:=@Nat.not_lt
abbrev pv:=@Nat.one_mul
abbrev aAj:=@Nat.or_lt_two_pow
abbrev ue:=@Nat.pos_of_ne_zero
abbrev eR:=@Nat.pow_add
abbrev aBj:=@Nat.pow_le_pow_left
abbrev df:=@Nat.pow_le_pow_right
abbrev sV:=@Nat.pow_mul
abbrev BS:=@Nat.pow_one
abbrev cP:=@Nat.pow_pos
abbrev dG:=@Nat.pow_succ
abbrev sU:=@Nat.pow_zero
abbrev Cg:=@Nat.sub_le
abbrev wI:=@Nat.sub_self
abbrev HL:=@Nat.sub_zero
abbrev sS:=@Nat.succ_mul
abbrev T2:=@Nat.succ_pos
abbrev Zu:=@Nat.testBit_or
abbrev Ot:=@Nat.two_pow_add_eq_or_of_lt
abbrev aAi:=@Nat.xor_lt_two_pow
abbrev kA:=@Nat.zero_add
abbrev lM:=@Nat.zero_le
abbrev lP:=@Nat.zero_mul
abbrev kR:=@Ne.symm
abbrev Nv:=@Go.Oper.semAt_eq
abbrev aG4:=@Option.bind_eq_some_iff
abbrev Zn:=@Option.bind_some
abbrev aCd:=@Option.map_none
abbrev Sp:=@Option.map_some
abbrev UG:=@Rat.divInt_add_divInt
abbrev Ck:=@Rat.divInt_eq_div
abbrev F6:=@Rat.div_def
abbrev aBB:=@Rat.div_mul_cancel
abbrev Pm:=@Rat.intCast_add
abbrev DU:=@Rat.intCast_mul
abbrev aBM:=@Rat.intCast_sub
abbrev II:=@Rat.mul_inv_cancel
abbrev Uz:=@Rat.mul_pos
abbrev aBI:=@Rat.num_divInt_den
abbrev J8:=@Go.Sem.run_bind
abbrev Ov:=@UInt8.toNat_inj
abbrev OB:=@UInt8.toNat_ofNat'
abbrev aB2:=@Go.World.putObj_heap_other
abbrev vJ:=@Go.World.putObj_size
abbrev vt:=@bne_iff_ne
abbrev cO:=@congrArg
abbrev sQ:=@decide_eq_decide
abbrev aP:=@decide_eq_false
abbrev aAy:=@decide_eq_false_iff_not
abbrev aH:=@decide_eq_true
abbrev tZ:=@decide_eq_true_eq
abbrev CE:=@decide_eq_true_iff
abbrev CK:=@getElem!_pos
abbrev Za:=@Go.grownCap_le_maxLen
abbrev vz:=@if_false
abbrev av:=@if_neg
abbrev aB:=@if_pos
abbrev rm:=@if_true
abbrev Ir:=@of_decide_eq_false
abbrev kX:=@of_decide_eq_true
abbrev j7:=@or_false
abbrev Fp:=@Go.roundsIn_succ
abbrev jJ:=@Go.run_underlying
abbrev NA:=@Go.size_zeroCells
abbrev aHO:=@Go.trodAll_cons_mk
abbrev Kn:=@Go.wpIn_block
abbrev S5:=@Go.wpIn_loop_rounds
abbrev mR:=@Go.wpIn_seq
def nt(a:Addr):Bool:=match a.spot with|some _=>false|none=>true
def mJ:Value->Bool
 |.pointer (some a)=>nt a
 |.slice (some a) _ _=>nt a
 |.agg _=>false
 |.tuple _=>false
 |.func _ _ _=>false
 |_=>true
def oL:Value->Bool
 |.func _ fi ca=>fi.toList.all mJ&&ca.toList.all mJ
 |v=>mJ v
def rk:Value->Bool
 |.agg cs=>cs.toList.all oL
 |v=>oL v
def flat:Value->Bool
 |.tuple vs=>vs.toList.all rk
 |v=>rk v
inductive bW{α β:Type}(R:α->β->Prop):List α->List β->Prop
 |nil:bW R [] []
 |cons {a b l m}:R a b->bW R l m->bW R (a::l) (b::m)
inductive pR where
 |at (b o cap:Nat)
 |nil
 |val (v:i_)
variable{m:Nat}{α β:Type}
abbrev Map:=Nat->Option pR
variable{κ az:Map}
def Map.le(ι κ:Map):Prop:=∀ k l,ι k=some l->κ k=some l
theorem Map.le.refl(ι:Map):Map.le ι ι:=λ_ _ h=>h
theorem Map.le.trans{a b c:Map}(h:Map.le a b)(k:Map.le b c):Map.le a c:=λi l e=>k i l (h i l e)
inductive aK(ι:Map):Value->Value->Prop
 |same {v}:flat v=true->aK ι v v
 |ptr {k off b o cap}:ι k=some (.at b o cap)->aK ι (.pointer (some ⟨k,off,some 7⟩)) (.pointer (some ⟨b,o+off,none⟩))
 |slc {k off b o n c c' cap}:ι k=some (.at b o cap)->n<=c'->c+c'=cap->aK ι (.slice (some ⟨k,off,some 7⟩) n c) (.slice (some ⟨b,o+off,none⟩) n c')
 |slcN {k}:ι k=some .nil->aK ι (.slice (some ⟨k,0,some 7⟩) 0 0) (.slice none 0 0)
 |opq {k v}:ι k=some (.val v)->v.cells=#[v]->v.oneCell'=true->aK ι (.pointer (some ⟨k,0,some 9⟩)) v
 |fn {f fi kg ca eh}:bW (aK ι) fi kg->bW (aK ι) ca eh->aK ι (.func f fi.toArray ca.toArray) (.func f kg.toArray eh.toArray)
 |agg {cs bL}:bW (aK ι) cs bL->aK ι (.agg cs.toArray) (.agg bL.toArray)
 |tup {vs cT}:bW (aK ι) vs cT->aK ι (.tuple vs.toArray) (.tuple cT.toArray)
theorem bW.imp{R R':α->β->Prop}:∀{l:List α} {m:List β},bW R l m->(∀ a∈l,∀ b,R a b->R' a b)->bW R' l m
 |_,_,.nil,_=>.nil
 |_,_,.cons h t,k=>.cons (k _ (aT ..) _ h) (t.imp λa ha=>k a (bF _ ha))
variable{off:Nat}{fn:Func}
theorem bW.length{R:α->β->Prop}:∀{l:List α} {m:List β},bW R l m->l.length=m.length
 |_,_,.nil=>rfl
 |_,_,.cons _ t=>by simp[t.length]
theorem bW.get{R:α->β->Prop}:∀{l:List α} {m:List β},bW R l m->∀(i:Nat) a,l[i]?=some a->∃ b,m[i]?=some b/\R a b
 |_,_,.nil,i,a,h=>by simp at h
 |_,_,.cons h t,0,a,e=>⟨_,rfl,by simp at e;exact e▸h⟩
 |_,_,.cons _ t,i+1,a,e=>by simpa using t.get i a (by simpa using e)
theorem bW.get'{R:α->β->Prop}:∀{l:List α} {m:List β},bW R l m->∀(i:Nat) b,m[i]?=some b->∃ a,l[i]?=some a/\R a b
 |_,_,.nil,i,a,h=>by simp at h
 |_,_,.cons h t,0,a,e=>⟨_,rfl,by simp at e;exact e▸h⟩
 |_,_,.cons _ t,i+1,a,e=>by simpa using t.get' i a (by simpa using e)
theorem bW.set{R:α->β->Prop}{a:α}{b:β}(h:R a b):∀{l:List α} {m:List β},bW R l m->∀(i:Nat),bW R (l.set i a) (m.set i b)
 |_,_,.nil,i=>by simpa using .nil
 |_,_,.cons _ t,0=>.cons h t
 |_,_,.cons k t,i+1=>.cons k (t.set h i)
theorem bW.append{R:α->β->Prop}:∀{l:List α} {m:List β},bW R l m->∀{l' m'},bW R l' m'->bW R (l++l') (m++m')
 |_,_,.nil,_,_,h=>h
 |_,_,.cons k t,_,_,h=>.cons k (t.append h)
theorem bW.take{R:α->β->Prop}:∀{l:List α} {m:List β},bW R l m->∀(n:Nat),bW R (l.take n) (m.take n)
 |_,_,.nil,n=>by simpa using .nil
 |_,_,.cons k t,0=>.nil
 |_,_,.cons k t,n+1=>.cons k (t.take n)
theorem bW.drop{R:α->β->Prop}:∀{l:List α} {m:List β},bW R l m->∀(n:Nat),bW R (l.drop n) (m.drop n)
 |_,_,.nil,n=>by simpa using .nil
 |_,_,.cons k t,0=>.cons k t
 |_,_,.cons k t,n+1=>t.drop n
theorem Ns{v:i_}(h:oL v=true):flat v=true:=by cases v<;>first|exact h|(simp[oL,mJ]at h)
theorem Nt{v:i_}(h:mJ v=true):oL v=true:=by cases v<;>first|exact h|(simp[mJ]at h)
theorem aHQ{v:i_}(h:rk v=true):flat v=true:=by cases v<;>first|exact h|(simp[rk,oL,mJ]at h)
theorem YR{cs:p_}(h:flat (.agg cs)=true):∀ c∈cs.toList,flat c=true:=by simp only[flat,rk,bB]at h;exact λc hc=>Ns (h c hc)
theorem aHR{cs:p_}(h:flat (.tuple cs)=true):∀ c∈cs.toList,flat c=true:=by simp only[flat,bB]at h;exact λc hc=>aHQ (h c hc)
theorem YS{f:Fn}{fi ca:p_}(h:flat (.func f fi ca)=true):(∀ c∈fi.toList,flat c=true)/\(∀ c∈ca.toList,flat c=true):=by simp only[flat,rk,oL,dr,bB]at h;exact⟨λc hc=>Ns (Nt (h.1 c hc)),λc hc=>Ns (Nt (h.2 c hc))⟩
abbrev ak:=List Value
variable{vs ca cells' args' pre post:ak}
theorem kO{ι:Map}:∀{l:ak},(∀ c∈l,flat c=true)->bW (aK ι) l l
 |[],_=>.nil
 |c::l,h=>.cons (.same (h c (aT ..))) (kO λc hc=>h c (bF _ hc))
theorem aK.eZ{ι:Map}{v v':i_}(h:aK ι v v')(hf:flat v=true):v'=v:=by
 suffices H:∀ v v',aK ι v v'->flat v=true->v'=v from H v v' h hf
 have hP:∀ v v',aK ι v v'->mJ v=true->v'=v:=by
  intro v v' h hf;cases h with
  |same _=>rfl
  |_=>simp[mJ,nt]at hf
 have uX:∀(Q:Value->Bool),(∀ v v',aK ι v v'->Q v=true->v'=v)->∀ l l',bW (aK ι) l l'->(∀ c∈l,Q c=true)->l'=l:=by
  intro Q hQ l l' h;induction h with
  |nil=>intro _;rfl
  |cons h t ih=>
   intro hl;rw[hQ _ _ h (hl _ (aT ..)),ih λc hc=>hl c (bF _ hc)]
 have h0:∀ v v',aK ι v v'->oL v=true->v'=v:=by
  intro v v' h hf;cases h with
  |same _=>rfl
  |fn h1 h2=>
   simp only[oL,dr,bB]at hf;rw[uX mJ hP _ _ h1 hf.1,uX mJ hP _ _ h2 hf.2]
  |_=>simp[oL,mJ,nt]at hf
 have h1:∀ v v',aK ι v v'->rk v=true->v'=v:=by
  intro v v' h hf;cases h with
  |same _=>rfl
  |fn a b=>exact h0 _ _ (.fn a b) hf
  |agg h1=>
   simp only[rk,bB]at hf;rw[uX oL h0 _ _ h1 hf]
  |_=>simp[rk,oL,mJ,nt]at hf
 intro v v' h hf;cases h with
 |same _=>rfl
 |fn a b=>exact h0 _ _ (.fn a b) hf
 |agg a=>exact h1 _ _ (.agg a) hf
 |tup a=>
  simp only[flat,bB]at hf;rw[uX rk h1 _ _ a hf]
 |_=>simp[flat,rk,oL,mJ,nt]at hf
theorem aK.mono{ι:Map}(hle:Map.le ι κ){v v':i_}(h:aK ι v v'):aK κ v v':=by
 apply aK.rec (motive_1:=λv v' _=>aK κ v v') (motive_2:=λl l' _=>bW (aK κ) l l') (t:=h)
 case same=>intro v h;exact .same h
 case ptr=>intro k off b o cap h;exact .ptr (hle _ _ h)
 case slc=>intro k off b o n c c' cap h h1 h2;exact .slc (hle _ _ h) h1 h2
 case slcN=>intro k h;exact .slcN (hle _ _ h)
 case opq=>intro k v h h1 h2;exact .opq (hle _ _ h) h1 h2
 case fn=>intro f fi kg ca eh _ _ h1 h2;exact .fn h1 h2
 case agg=>intro cs bL _ h;exact .agg h
 case tup=>intro cs bL _ h;exact .tup h
 case nil=>exact .nil
 case cons=>intro a b l m _ _ h1 h2;exact .cons h1 h2
theorem oM{ι:Map}(hle:Map.le ι κ){l l':ak}(h:bW (aK ι) l l'):bW (aK κ) l l':=h.imp λ_ _ _ h=>h.mono hle
def nu(a:Addr):Bool:=match a.spot with|some s=>Nat.beq s 7|none=>false
theorem Hx{a:Addr}(h:nu a=true):a.spot=some 7:=by
 unfold nu at h;split at h
 ·rename_i s hs;rw[hs,Sj h]
 ·cases h
theorem Sk{a:Addr}(h:nu a=true):nt a=false:=by unfold nt;rw[Hx h]
theorem aK.xt{ι:Map}{a:Addr}{v':i_}(h:aK ι (.pointer (some a)) v')(ho:nu a=true):∃ b o cap,ι a.block=some (.at b o cap)/\v'=.pointer (some ⟨b,o+a.off,none⟩):=by
 cases h with
 |same hf=>simp[flat,rk,oL,mJ,Sk ho]at hf
 |ptr hb=>exact⟨_,_,_,hb,rfl⟩
 |opq _ _ _=>cases ho
theorem aK.iF{ι:Map}{a:Addr}{n c:Nat}{v':i_}(h:aK ι (.slice (some a) n c) v')(ho:nu a=true):
  (ι a.block=some .nil/\n=0/\c=0/\a.off=0/\v'=.slice none 0 0)\/∃ b o cap c',ι a.block=some (.at b o cap)/\n<=c'/\c+c'=cap/\v'=.slice (some ⟨b,o+a.off,none⟩) n c':=by
 cases h with
 |same hf=>simp[flat,rk,oL,mJ,Sk ho]at hf
 |slc hb h1 h2=>exact .inr ⟨_,_,_,_,hb,h1,h2,rfl⟩
 |slcN hb=>exact .inl ⟨hb,rfl,rfl,rfl,rfl⟩
theorem aK.bool{ι:Map}{b:Bool}{v':i_}(h:aK ι (.bool b) v'):v'=.bool b:=h.eZ rfl
theorem aK.uY{ι:Map}{vs:p_}{v':i_}(h:aK ι (.tuple vs) v'):∃ cT,v'=.tuple cT/\bW (aK ι) vs.toList cT.toList:=by
 cases h with
 |same hf=>exact⟨vs,rfl,kO (aHR hf)⟩
 |tup h=>exact⟨_,rfl,by simpa using h⟩
theorem aK.Hy{ι:Map}{vs:p_}{v':i_}(h:aK ι (.agg vs) v'):∃ cT,v'=.agg cT/\bW (aK ι) vs.toList cT.toList:=by
 cases h with
 |same hf=>exact⟨vs,rfl,kO (YR hf)⟩
 |agg h=>exact⟨_,rfl,by simpa using h⟩
theorem aK.Bo{ι:Map}{f:Fn}{fi ca:p_}{v':i_}(h:aK ι (.func f fi ca) v'):∃ kg eh,v'=.func f kg eh/\bW (aK ι) fi.toList kg.toList/\bW (aK ι) ca.toList eh.toList:=by
 cases h with
 |same hf=>exact⟨fi,ca,rfl,kO (YS hf).1,kO (YS hf).2⟩
 |fn h1 h2=>exact⟨_,_,rfl,by simpa using h1,by simpa using h2⟩
theorem aK.cells{ι:Map}{v v':i_}(h:aK ι v v'):bW (aK ι) v.cells.toList v'.cells.toList:=by
 cases h with
 |same hf=>
  apply kO;cases v<;>first|(intro c hc;simp[Value.cells]at hc;subst hc;exact hf)|exact YR hf
 |ptr hb=>exact .cons (.ptr hb) .nil
 |slc hb h1 h2=>exact .cons (.slc hb h1 h2) .nil
 |slcN hb=>exact .cons (.slcN hb) .nil
 |opq hb h1 h2=>rw[h1];exact .cons (.opq hb h1 h2) .nil
 |fn a b=>exact .cons (.fn a b) .nil
 |agg h=>simpa[Value.cells]using h
 |tup h=>exact .cons (.tup h) .nil
theorem aK.YT{ι:Map}{v v':i_}(h:aK ι v v'):v'.oneCell'=v.oneCell':=by
 cases h with
 |opq _ _ h=>rw[h];rfl
 |_=>rfl
def Hz:Value:=.tuple #[.tuple #[]]
def mK:Value->Bool
 |.tuple vs=>match vs.toList with|[.tuple us]=>Nat.beq us.size 0|_=>false
 |_=>false
def n9(ι:Map)(v v':i_):Prop:=mK v=true\/aK ι v v'
theorem n9.Bp{ι:Map}{v v':i_}(h:n9 ι v v')(hn:mK v=false):aK ι v v':=by
 rcases h with h|h
 ·rw[hn]at h;cases h
 ·exact h
theorem n9.mono{ι:Map}(hle:Map.le ι κ){v v':i_}(h:n9 ι v v'):n9 κ v v':=h.imp id (aK.mono hle)
def tV(w w':h_):Prop:=w'.os=w.os/\w.drawn<=w'.drawn
theorem tV.refl(w:h_):tV w w:=⟨rfl,bC _⟩
theorem tV.trans{a b c:h_}(h:tV b c)(k:tV a b):tV a c:=⟨h.1.trans k.1,dq k.2 h.2⟩
structure Below(B:Nat)(w w':h_):Prop where
 os:tV w w'
 tape:w'.tape=w.tape
 output:w'.output=w.output
 size:w.heap.size<=w'.heap.size
 block:∀ k,k<B->w'.heap[k]?=w.heap[k]?
theorem Below.HA{B:Nat}{w w':h_}(h:Below B w w'):Go.RowKit.Below B w w':=⟨h.os.1,h.tape,h.output,h.size,h.block⟩
theorem Below.refl(B:Nat)(w:h_):Below B w w:=⟨.refl w,rfl,rfl,bC _,λ_ _=>rfl⟩
theorem Below.cell{B:Nat}{w w':h_}(h:Below B w w'){p:Addr}(hp:p.block<B):w'.cell? p=w.cell? p:=h.HA.cell hp
theorem Below.alloc{B:Nat}{a w:h_}(h:Below B a w)(hB:B<=w.heap.size)(o:Go.Obj):Below B a (w.alloc o):=
 have k:=h.HA.alloc hB o
 ⟨⟨k.os,h.os.2⟩,k.tape,k.output,k.size,k.block⟩
structure Fact where
 G:Value->World->Prop
 cU:Value->World->Nat->Prop
 lt:∀ v w k,G v w->cU v w k->k<w.heap.size
 dep:∀ v w w',G v w->w.heap.size<=w'.heap.size->(∀ k,cU v w k->w'.heap[k]?=w.heap[k]?)->G v w'/\∀ k,cU v w' k->cU v w k
 rc:Bool:=false
 soft:rc=false->∀ v w w',G v w->w.heap.size<=w'.heap.size->(∀ k,cU v w k->∀ cs ty f,w.heap[k]?=some (Go.Obj.cells cs ty f)->w'.heap[k]?=some (Go.Obj.cells cs ty f))->G v w'/\∀ k,cU v w' k->cU v w k
structure aa where
 G:World->Prop
 cU:Nat->Prop
 ds:List Deferred:=[]
 Fa:Fact->Prop:=λ_=>False
 mp:Map:=λ_=>none
 lt:∀ w k,G w->cU k->k<w.heap.size
 dep:∀ w w',G w->tV w w'->w'.tape=w.tape->w'.output=w.output->w.heap.size<=w'.heap.size->(∀ k,cU k->w'.heap[k]?=w.heap[k]?)->G w'
variable{Bs:aa}
def aa.at(w0:h_):aa where
 G w:=Below w0.heap.size w0 w
 cU k:=k<w0.heap.size
 lt w k h hk:=cG hk h.size
 dep w w' h h1 h2 h3 h4 h5:=⟨h1.trans h.os,h2.trans h.tape,h3.trans h.output,dq h.size h4,λk hk=>(h5 k hk).trans (h.block k hk)⟩
inductive Obj where
 |aM (cells:ak) (ty:TypeId)
 |row (cells:ak) (ty:TypeId) (size:Nat)
 |view (cells:ak)
 |fact (F:Fact)
 |dead
def Obj.owns:Obj->Bool
 |.aM _ _=>true
 |.row _ _ _=>true
 |_=>false
variable{ty:TypeId}
def jR(ι:Map)(w:h_)(l:pR):Obj->Prop
 |.aM cells ty=>∃ b bL,l=.at b 0 0/\bW (aK ι) cells bL/\w.heap[b]?=some (.cells bL.toArray ty (0,0))
 |.row cells ty size=>(l=.nil/\cells=[])\/∃ b cap cur,l=.at b 0 cap/\w.heap[b]?=some (.cells cur ty (0,0))/\cap<=maxLen/\cur.size=cap*size/\bW (aK ι) cells (cur.toList.take cells.length)
 |.view cells=>(l=.nil/\cells=[])\/∃ b o cap bL,l=.at b o cap/\bW (aK ι) cells bL/\∀ j u,bL[j]?=some u->w.cell? ⟨b,o+j,none⟩=some u
 |.fact F=>∃ v,l=.val v/\F.G v w
 |.dead=>True
def Obj.kh:Obj->Bool
 |.view _=>true
 |_=>false
structure aO(B:aa)(ι:Map)(c:Nat->Option Obj)(w:h_):Prop where
 base:B.G w
 dF:∀ k,c k=none->ι k=none
 born:∀ k x,c k=some x->∃ l,ι k=some l/\jR ι w l x
 own:∀ k x b o cap,c k=some x->x.owns=true->ι k=some (.at b o cap)->b<w.heap.size/\¬B.cU b
 inj:∀ k j x y b o cap o' aU,c k=some x->x.owns=true->c j=some y->y.owns=true->ι k=some (.at b o cap)->ι j=some (.at b o' aU)->k=j
 apart:∀ k j x F b o cap v,c k=some x->x.owns=true->ι k=some (.at b o cap)->c j=some (.fact F)->ι j=some (.val v)->¬F.cU v w b
 seen:∀ k x b o cap,c k=some x->x.kh=true->ι k=some (.at b o cap)->b<w.heap.size/\∀ j y o' aU,c j=some y->y.owns=true->ι j≠some (.at b o' aU)
 fa:∀ j F,c j=some (.fact F)->F.rc=true->B.Fa F
 one:∀ j k F F',c j=some (.fact F)->c k=some (.fact F')->F.rc=true->F'.rc=true->j=k
 pg:Map.le B.mp ι
theorem jR.mono{ι:Map}(hle:Map.le ι κ){w:h_}{l:pR}{x:Obj}(h:jR ι w l x):jR κ w l x:=by
 cases x with
 |aM cells ty=>obtain⟨b,bL,h1,h2,h3⟩:=h;exact⟨b,bL,h1,oM hle h2,h3⟩
 |row cells ty size=>
  rcases h with h|⟨b,cap,cur,h1,h2,h3,h4,h5⟩
  ·exact .inl h
  ·exact .inr ⟨b,cap,cur,h1,h2,h3,h4,oM hle h5⟩
 |view cells=>
  rcases h with h|⟨b,o,cap,bL,h1,h2,h3⟩
  ·exact .inl h
  ·exact .inr ⟨b,o,cap,bL,h1,oM hle h2,h3⟩
 |fact F=>exact h
 |dead=>trivial
variable{b j cap:Nat}
theorem jR.iu{ι:Map}{w w':h_}{l:pR}{x:Obj}(h:jR ι w l x)(hs:w.heap.size<=w'.heap.size)
  (hb:∀ b o cap,x.owns=true\/x.kh=true->l=.at b o cap->w'.heap[b]?=w.heap[b]?) (hf:∀ F v b,x=.fact F->l=.val v->F.cU v w b->w'.heap[b]?=w.heap[b]?):jR ι w' l x:=by
 cases x with
 |aM cells ty=>obtain⟨b,bL,h1,h2,h3⟩:=h;exact⟨b,bL,h1,h2,by rw[hb b 0 0 (.inl rfl) h1];exact h3⟩
 |row cells ty size=>
  rcases h with h|⟨b,cap,cur,h1,h2,h3,h4,h5⟩
  ·exact .inl h
  ·exact .inr ⟨b,cap,cur,h1,by rw[hb b 0 cap (.inl rfl) h1];exact h2,h3,h4,h5⟩
 |view cells=>
  rcases h with h|⟨b,o,cap,bL,h1,h2,h3⟩
  ·exact .inl h
  ·exact .inr ⟨b,o,cap,bL,h1,h2,λj u hj=>by rw[World.cell?_of_block (w:=w) (w':=w') (a:=⟨b,o+j,none⟩) (hb b o cap (.inr rfl) h1)];exact h3 j u hj⟩
 |fact F=>obtain⟨v,h1,h2⟩:=h;exact⟨v,h1,(F.dep v w w' h2 hs λk hk=>hf F v k rfl h1 hk).1⟩
 |dead=>trivial
theorem jR.xu{ι:Map}{w:h_}{l:pR}{F:Fact}{v:i_}(h:jR ι w l (.fact F))(hl:l=.val v)(hb:F.cU v w b):b<w.heap.size:=by obtain⟨v',h1,h2⟩:=h;rw[hl]at h1;injection h1 with h1;subst h1;exact F.lt _ w b h2 hb
theorem aO.C6{B:aa}{ι:Map}{c:Nat->Option Obj}{w w':h_}(h:aO B ι c w){F:Fact}{v:i_}(hj:c j=some (.fact F))(hv:ι j=some (.val v))(hs:w.heap.size<=w'.heap.size)
  (Bq:∀ k,k<w.heap.size->F.cU v w k->w'.heap[k]?=w.heap[k]?) {b:Nat} (hF:F.cU v w' b):F.cU v w b:=by
 obtain⟨l,q1,v',q2,q3⟩:=h.born j _ hj;rw[hv]at q1;injection q1 with q1;subst q1;injection q2 with q2;subst q2;exact(F.dep v w w' q3 hs λk hk=>Bq k (F.lt v w k q3 hk) hk).2 b hF
theorem aO.call{B:aa}{ι:Map}{c:Nat->Option Obj}{w w':h_}(h:aO B ι c w)(hb:Below w.heap.size w w'):aO B ι c w' where
 base:=B.dep w w' h.base hb.os hb.tape hb.output hb.size λk hk=>hb.block k (B.lt w k h.base hk)
 dF:=h.dF
 born k x hk:=by
  obtain⟨l,h1,h2⟩:=h.born k x hk;refine⟨l,h1,h2.iu hb.size (λb o cap hx hl=>?_) λF v b hx hl hf=>?_⟩
  ·rcases hx with hx|hx
   ·exact hb.block b (h.own k x b o cap hk hx (by rw[h1,hl])).1
   ·exact hb.block b (h.seen k x b o cap hk hx (by rw[h1,hl])).1
  ·subst hx;exact hb.block b (h2.xu hl hf)
 own k x b o cap hk hx hl:=⟨cG (h.own k x b o cap hk hx hl).1 hb.size,(h.own k x b o cap hk hx hl).2⟩
 inj:=h.inj
 apart k j x F b o cap v hk hx hl hj hv hF:=h.apart k j x F b o cap v hk hx hl hj hv (h.C6 hj hv hb.size (λk hk _=>hb.block k hk) hF)
 seen k x b o cap hk hx hl:=⟨cG (h.seen k x b o cap hk hx hl).1 hb.size,(h.seen k x b o cap hk hx hl).2⟩
 fa:=h.fa
 one:=h.one
 pg:=h.pg
def bA(c:Nat->Option Obj)(k:Nat)(x:Obj):Nat->Option Obj:=λj=>if j=k then some x else c j
def dS(ι:Map)(k:Nat)(l:pR):Map:=λj=>if j=k then some l else ι j
theorem ij{ι:Map}{k:Nat}{l:pR}(h:ι k=none):Map.le ι (dS ι k l):=λj m e=>by
 unfold dS;by_cases hj:j=k
 ·subst hj;rw[h]at e;cases e
 ·rw[av hj];exact e
theorem gg(ι:Map)(k:Nat)(l:pR):dS ι k l k=some l:=by simp[dS]
theorem aO.add{B:aa}{ι:Map}{c:Nat->Option Obj}{w:h_}(h:aO B ι c w){k:Nat}(hk:c k=none){x:Obj}{l:pR}(hx:jR (dS ι k l) w l x)
  (dX:∀ b o cap,x.owns=true->l=.at b o cap->b<w.heap.size/\¬B.cU b/\(∀ j y o' aU,c j=some y->y.owns=true->ι j≠some (.at b o' aU))/\(∀ j F v,c j=some (.fact F)->ι j=some (.val v)->¬F.cU v w b)/\(∀ j y o' aU,c j=some y->y.kh=true->ι j≠some (.at b o' aU)))
  (J4:∀ F v b,x=.fact F->l=.val v->F.cU v w b->∀ j y o' aU,c j=some y->y.owns=true->ι j≠some (.at b o' aU))
  (aHS:∀ b o cap,x.kh=true->l=.at b o cap->b<w.heap.size/\∀ j y o' aU,c j=some y->y.owns=true->ι j≠some (.at b o' aU)) (qv:∀ F,x=.fact F->F.rc=true->(B.Fa F/\∀ j F',c j=some (.fact F')->F'.rc=false):=by intro F e;cases e):aO B (dS ι k l) (bA c k x) w:=by
 have rl:=h.dF k hk;have hle:=ij (l:=l) rl;have da:∀ j y,j≠k->bA c k x j=some y->c j=some y:=λj y hj e=>by unfold bA at e;rw[av hj]at e;exact e
 have uZ:∀ j m,j≠k->dS ι k l j=some m->ι j=some m:=λj m hj e=>by unfold dS at e;rw[av hj]at e;exact e
 have new:∀ y,bA c k x k=some y->y=x:=λy e=>by unfold bA at e;rw[aB rfl]at e;injection e with e;exact e.symm
 have mL:∀ m,dS ι k l k=some m->m=l:=λm e=>by rw[gg]at e;injection e with e;exact e.symm
 refine⟨h.base,?_,?_,?_,?_,?_,?_,?_,?_,h.pg.trans hle⟩
 ·intro j hj;unfold bA at hj;unfold dS;by_cases b9:j=k
  ·rw[aB b9]at hj;cases hj
  ·rw[av b9]at hj ⊢;exact h.dF j hj
 ·intro j y hj;by_cases b9:j=k
  ·subst b9;rw[new y hj];exact⟨l,gg _ _ _,hx⟩
  ·obtain⟨m,h1,h2⟩:=h.born j y (da j y b9 hj);exact⟨m,hle _ _ h1,h2.mono hle⟩
 ·intro j y b o cap hj hy hl;by_cases b9:j=k
  ·subst b9;rw[new y hj]at hy;have:=dX b o cap hy (mL _ hl).symm;exact⟨this.1,this.2.1⟩
  ·exact h.own j y b o cap (da j y b9 hj) hy (uZ _ _ b9 hl)
 ·intro i j y z b o cap o' aU hi hy hj hz hl hm;by_cases fm:i=k<;>by_cases b9:j=k
  ·rw[fm,b9]
  ·exfalso;subst fm;rw[new y hi]at hy;exact(dX b o cap hy (mL _ hl).symm).2.2.1 j z o' aU (da j z b9 hj) hz (uZ _ _ b9 hm)
  ·exfalso;subst b9;rw[new z hj]at hz;exact(dX b o' aU hz (mL _ hm).symm).2.2.1 i y o cap (da i y fm hi) hy (uZ _ _ fm hl)
  ·exact h.inj i j y z b o cap o' aU (da i y fm hi) hy (da j z b9 hj) hz (uZ _ _ fm hl) (uZ _ _ b9 hm)
 ·intro i j y F b o cap v hi hy hl hj hv hF;by_cases fm:i=k<;>by_cases b9:j=k
  ·subst fm;subst b9;have e:y=.fact F:=(new y hi).trans (new _ hj).symm;rw[e]at hy;cases hy
  ·subst fm;rw[new y hi]at hy;exact(dX b o cap hy (mL _ hl).symm).2.2.2.1 j F v (da j _ b9 hj) (uZ _ _ b9 hv) hF
  ·subst b9;exact J4 F v b (new _ hj).symm (mL _ hv).symm hF i y o cap (da i y fm hi) hy (uZ _ _ fm hl)
  ·exact h.apart i j y F b o cap v (da i y fm hi) hy (uZ _ _ fm hl) (da j _ b9 hj) (uZ _ _ b9 hv) hF
 ·intro j y b o cap hj hy hl;by_cases b9:j=k
  ·subst b9;rw[new y hj]at hy;obtain⟨q1,q2⟩:=aHS b o cap hy (mL _ hl).symm;refine⟨q1,λi z o' aU hi hz hm=>?_⟩;by_cases kP:i=j
   ·subst kP;rw[new z hi]at hz;cases x<;>simp[Obj.owns,Obj.kh]at hy hz
   ·exact q2 i z o' aU (da i z kP hi) hz (uZ _ _ kP hm)
  ·obtain⟨q1,q2⟩:=h.seen j y b o cap (da j y b9 hj) hy (uZ _ _ b9 hl);refine⟨q1,λi z o' aU hi hz hm=>?_⟩;by_cases fm:i=k
   ·subst fm;rw[new z hi]at hz;exact(dX b o' aU hz (mL _ hm).symm).2.2.2.2 j y o cap (da j y b9 hj) hy (uZ _ _ b9 hl)
   ·exact q2 i z o' aU (da i z fm hi) hz (uZ _ _ fm hm)
 ·intro j F hj;by_cases b9:j=k
  ·subst b9;exact λxw=>(qv F (new _ hj).symm xw).1
  ·exact h.fa j F (da j _ b9 hj)
 ·intro i j F F' hi hj hr ph;by_cases fm:i=k<;>by_cases b9:j=k
  ·rw[fm,b9]
  ·subst fm;have:=(qv F (new _ hi).symm hr).2 j F' (da j _ b9 hj);rw[ph]at this;cases this
  ·subst b9;have:=(qv F' (new _ hj).symm ph).2 i F (da i _ fm hi);rw[hr]at this;cases this
  ·exact h.one i j F F' (da i _ fm hi) (da j _ b9 hj) hr ph
theorem aO.new{B:aa}{ι:Map}{c:Nat->Option Obj}{w w':h_}(h:aO B ι c w)(hb:Below w.heap.size w w'){k:Nat}(hk:c k=none){x:Obj}{l:pR}
  (hx:jR (dS ι k l) w' l x) (dX:∀ b o cap,x.owns=true->l=.at b o cap->w.heap.size<=b/\b<w'.heap.size)
  (J4:∀ F v b,x=.fact F->l=.val v->F.cU v w' b->w.heap.size<=b\/B.cU b) (qw:x.kh=false) (qv:∀ F,x=.fact F->F.rc=true->(B.Fa F/\∀ j F',c j=some (.fact F')->F'.rc=false):=by intro F e;cases e):aO B (dS ι k l) (bA c k x) w':=by
 refine(h.call hb).add hk hx (λb o cap E4 hl=>?_) (λF v b YU hl hF j y o' aU hj hy he=>?_) (λb o cap hv=>by rw[qw]at hv;cases hv) qv
 ·obtain⟨h1,h2⟩:=dX b o cap E4 hl;refine⟨h2,λhF=>by have:=B.lt w b h.base hF;omega,λj y o' aU hj hy he=>?_,λj F v hj he hF=>?_,λj y o' aU hj hy he=>?_⟩
  ·have:=(h.own j y b o' aU hj hy he).1;omega
  ·have hF:=h.C6 hj he hb.size (λk hk _=>hb.block k hk) hF;obtain⟨m,q1,q2⟩:=h.born j _ hj;rw[he]at q1;injection q1 with q1;have:=q2.xu q1.symm hF;omega
  ·have:=(h.seen j y b o' aU hj hy he).1;omega
 ·have h1:=h.own j y b o' aU hj hy he;rcases J4 F v b YU hl hF with h2|h2
  ·omega
  ·exact h1.2 h2
theorem aO.write{B:aa}{ι:Map}{c:Nat->Option Obj}{w w':h_}(h:aO B ι c w){k o:Nat}{x y:Obj}(hk:c k=some x)(hx:x.owns=true)(hl:ι k=some (.at b o cap))
  (hos:tV w w') (aHT:w'.tape=w.tape) (aHU:w'.output=w.output) (zi:w.heap.size<=w'.heap.size) (J5:∀ j,j<w.heap.size->j≠b->w'.heap[j]?=w.heap[j]?)
  (hy:jR ι w' (.at b o cap) y) (J6:∀ F,y≠.fact F) (J7:y.kh=false):aO B ι (bA c k y) w':=by
 obtain⟨gm,YV⟩:=h.own k x b o cap hk hx hl;have da:∀ j z,j≠k->bA c k y j=some z->c j=some z:=λj z hj e=>by unfold bA at e;rw[av hj]at e;exact e
 have new:∀ z,bA c k y k=some z->z=y:=λz e=>by unfold bA at e;rw[aB rfl]at e;injection e with e;exact e.symm
 refine⟨B.dep w w' h.base hos aHT aHU zi λj hj=>J5 j (B.lt w j h.base hj) λe=>YV (e▸hj),?_,?_,?_,?_,?_,?_,?_,?_,h.pg⟩
 ·intro j hj;unfold bA at hj;by_cases b9:j=k
  ·rw[aB b9]at hj;cases hj
  ·rw[av b9]at hj;exact h.dF j hj
 ·intro j z hj;by_cases b9:j=k
  ·subst b9;rw[new z hj];exact⟨_,hl,hy⟩
  ·have gM:=da j z b9 hj;obtain⟨m,h1,h2⟩:=h.born j z gM;refine⟨m,h1,h2.iu zi (λb' o' aU hz hm=>?_) λF v b' hz hm hF=>?_⟩
   ·subst hm;rcases hz with hz|hz
    ·exact J5 b' (h.own j z b' o' aU gM hz h1).1 λe=>b9 (h.inj j k z x b o' aU o cap gM hz hk hx (e▸h1) hl)
    ·obtain⟨q1,q2⟩:=h.seen j z b' o' aU gM hz h1;exact J5 b' q1 λe=>q2 k x o cap hk hx (e▸hl)
   ·subst hz;subst hm;exact J5 b' (h2.xu rfl hF) λe=>h.apart k j x F b o cap v hk hx hl gM h1 (e▸hF)
 ·intro j z b' o' aU hj hz hm;by_cases b9:j=k
  ·subst b9;rw[hl]at hm;injection hm with hm;injection hm with c8 dH wm;subst c8;exact⟨cG gm zi,YV⟩
  ·have:=h.own j z b' o' aU (da j z b9 hj) hz hm;exact⟨cG this.1 zi,this.2⟩
 ·intro i j z z' b' o1 l8 o2 qx hi hz hj oN wo ju;by_cases fm:i=k<;>by_cases b9:j=k
  ·rw[fm,b9]
  ·subst fm;exact h.inj i j x z' b' o1 l8 o2 qx hk hx (da j z' b9 hj) oN wo ju
  ·subst b9;exact h.inj i j z x b' o1 l8 o2 qx (da i z fm hi) hz hk hx wo ju
  ·exact h.inj i j z z' b' o1 l8 o2 qx (da i z fm hi) hz (da j z' b9 hj) oN wo ju
 ·intro i j z F b' o' aU v hi hz hm hj hv hF;by_cases b9:j=k
  ·subst b9;exact absurd (new _ hj).symm (J6 F)
  ·have gM:=da j _ b9 hj;have hF:=h.C6 gM hv zi (λk2 fP jd=>J5 k2 fP λe=>h.apart k j x F b o cap v hk hx hl gM hv (e▸jd)) hF;by_cases fm:i=k
   ·subst fm;exact h.apart i j x F b' o' aU v hk hx hm gM hv hF
   ·exact h.apart i j z F b' o' aU v (da i z fm hi) hz hm gM hv hF
 ·intro j z b' o' aU hj hz hm;by_cases b9:j=k
  ·subst b9;rw[new z hj,J7]at hz;cases hz
  ·obtain⟨q1,q2⟩:=h.seen j z b' o' aU (da j z b9 hj) hz hm;refine⟨cG q1 zi,λi z' o2 qx hi oN bE=>?_⟩;by_cases fm:i=k
   ·subst fm;exact q2 i x o2 qx hk hx bE
   ·exact q2 i z' o2 qx (da i z' fm hi) oN bE
 ·intro j F hj;by_cases b9:j=k
  ·subst b9;exact absurd (new _ hj).symm (J6 F)
  ·exact h.fa j F (da j _ b9 hj)
 ·intro i j F F' hi hj;by_cases fm:i=k
  ·subst fm;exact absurd (new _ hi).symm (J6 F)
  ·by_cases b9:j=k
   ·subst b9;exact absurd (new _ hj).symm (J6 F')
   ·exact h.one i j F F' (da i _ fm hi) (da j _ b9 hj)
theorem aO.kill{B:aa}{ι:Map}{c:Nat->Option Obj}{w:h_}(h:aO B ι c w)(k:Nat)(hk:c k≠none):aO B ι (bA c k .dead) w:=by
 have da:∀ j z,j≠k->bA c k .dead j=some z->c j=some z:=λj z hj e=>by unfold bA at e;rw[av hj]at e;exact e
 have new:∀ z,bA c k .dead k=some z->z=.dead:=λz e=>by unfold bA at e;rw[aB rfl]at e;injection e with e;exact e.symm
 refine⟨h.base,?_,?_,?_,?_,?_,?_,?_,?_,h.pg⟩
 ·intro j hj;unfold bA at hj;by_cases b9:j=k
  ·rw[aB b9]at hj;cases hj
  ·rw[av b9]at hj;exact h.dF j hj
 ·intro j z hj;by_cases b9:j=k
  ·subst b9;rw[new z hj];cases hc:c j with
   |none=>exact absurd hc hk
   |some x=>obtain⟨l,h1,_⟩:=h.born j x hc;exact⟨l,h1,trivial⟩
  ·exact h.born j z (da j z b9 hj)
 ·intro j z b o cap hj hz;by_cases b9:j=k
  ·subst b9;rw[new z hj]at hz;cases hz
  ·exact h.own j z b o cap (da j z b9 hj) hz
 ·intro i j z z' b o1 c1 o2 c2 hi hz hj oN;by_cases fm:i=k
  ·subst fm;rw[new z hi]at hz;cases hz
  ·by_cases b9:j=k
   ·subst b9;rw[new z' hj]at oN;cases oN
   ·exact h.inj i j z z' b o1 c1 o2 c2 (da i z fm hi) hz (da j z' b9 hj) oN
 ·intro i j z F b o cap v hi hz hl hj;by_cases fm:i=k
  ·subst fm;rw[new z hi]at hz;cases hz
  ·by_cases b9:j=k
   ·subst b9;cases new _ hj
   ·exact h.apart i j z F b o cap v (da i z fm hi) hz hl (da j _ b9 hj)
 ·intro j z b o cap hj hz;by_cases b9:j=k
  ·subst b9;rw[new z hj]at hz;cases hz
  ·intro hl;obtain⟨q1,q2⟩:=h.seen j z b o cap (da j z b9 hj) hz hl;refine⟨q1,λi z' o' aU hi oN hm=>?_⟩;by_cases fm:i=k
   ·subst fm;rw[new z' hi]at oN;cases oN
   ·exact q2 i z' o' aU (da i z' fm hi) oN hm
 ·intro j F hj;by_cases b9:j=k
  ·subst b9;cases new _ hj
  ·exact h.fa j F (da j _ b9 hj)
 ·intro i j F F' hi hj;by_cases fm:i=k
  ·subst fm;cases new _ hi
  ·by_cases b9:j=k
   ·subst b9;cases new _ hj
   ·exact h.one i j F F' (da i _ fm hi) (da j _ b9 hj)
theorem aO.ext{B:aa}{ι:Map}{c c':Nat->Option Obj}{w:h_}(h:aO B ι c w)(e:∀ k,c' k=c k):aO B ι c' w:=by have:c'=c:=funext e;rw[this];exact h
theorem aO.drew{B:aa}{ι:Map}{c:Nat->Option Obj}{w:h_}(h:aO B ι c w)(n:Nat)(hn:w.drawn<=n):aO B ι c { w with drawn:=n }:=
 h.call ⟨⟨rfl,hn⟩,rfl,rfl,bC _,λ_ _=>rfl⟩
def je:ak->Nat->ak->ak
 |l,_,[]=>l
 |l,o,v::r=>je (l.set o v) (o+1) r
theorem Sl:∀(vs l:ak) (o:Nat),(je l o vs).length=l.length
 |[],_,_=>rfl
 |v::r,l,o=>by rw[je,Sl r];simp
theorem bW.je{ι:Map}:∀{vs cT:ak},bW (aK ι) vs cT->∀{l l':ak},bW (aK ι) l l'->∀ o,bW (aK ι) (je l o vs) (je l' o cT)
 |_,_,.nil,_,_,h,_=>h
 |_,_,.cons hv hr,_,_,h,o=>hr.je (h.set hv o) (o+1)
theorem YW:∀(vs l:ak) (o n:Nat),o+vs.length<=n->(je l o vs).take n=je (l.take n) o vs
 |[],_,_,_,_=>rfl
 |v::r,l,o,n,h=>by simp only[pS]at h;rw[je,je,YW r (l.set o v) (o+1) n o_,List.take_set]
theorem Sn(b:Nat)(ty:TypeId)(fr:Nat×Nat):∀(vs cs:ak) (o:Nat) (w:h_),w.heap[b]?=some (.cells cs.toArray ty fr)->
  (w.setCells b o vs).heap[b]?=some (.cells (je cs o vs).toArray ty fr)/\(∀ k,k≠b->(w.setCells b o vs).heap[k]?=w.heap[k]?)/\(w.setCells b o vs).heap.size=w.heap.size/\
   tV w (w.setCells b o vs)/\(w.setCells b o vs).tape=w.tape/\(w.setCells b o vs).output=w.output
 |[],cs,o,w,h=>⟨h,λ_ _=>rfl,rfl,.refl w,rfl,rfl⟩
 |v::r,cs,o,w,h=>by
  have h1:(w.setCell ⟨b,o,none⟩ v).heap[b]?=some (.cells (cs.set o v).toArray ty fr):=by simp only[World.setCell,YX,rm,h,Sp];simp
  obtain⟨a1,a2,a3,a4,a5,a6⟩:=Sn b ty fr r (cs.set o v) (o+1) _ h1;refine⟨a1,λk hk=>?_,?_,a4,a5,a6⟩
  ·rw[World.setCells,a2 k hk,Go.RowKit.Below.heap_setCell _ _ _ _ hk]
  ·rw[World.setCells,a3];simp[World.setCell]
def Obj.cells:Obj->ak
 |.aM cs _=>cs
 |.row cs _ _=>cs
 |.view cs=>cs
 |_=>[]
def Obj.Nu:Obj->ak->Obj
 |.aM _ ty,cs=>.aM cs ty
 |.row _ ty s,cs=>.row cs ty s
 |x,_=>x
def Obj.reads(x:Obj):Bool:=x.owns||x.kh
theorem jR.at{ι:Map}{w:h_}{b o cap:Nat}{x:Obj}(h:jR ι w (.at b o cap) x)(hx:x.reads=true):
  ∃ bL:ak,bW (aK ι) x.cells bL/\∀ j u,bL[j]?=some u->w.cell? ⟨b,o+j,none⟩=some u:=by
 cases x with
 |aM cells ty=>
  obtain⟨b',bL,h1,h2,h3⟩:=h;injection h1 with h1 pj YY;subst h1;subst pj;exact⟨bL,h2,λj u hj=>by simp[World.cell?,h3,hj]⟩
 |row cells ty size=>
  rcases h with h|⟨b',aU,cur,h1,h2,h3,h4,h5⟩
  ·cases h.1
  ·injection h1 with h1 pj YY;subst h1;subst pj;refine⟨_,h5,λj u hj=>?_⟩;rw[u4]at hj;split at hj
   ·have gM:cur[j]?=some u:=by simpa using hj
    simp[World.cell?,h2,gM]
   ·cases hj
 |view cells=>
  rcases h with h|⟨b',o',aU,bL,h1,h2,h3⟩
  ·cases h.1
  ·injection h1 with h1 pj YY;subst h1;subst pj;exact⟨bL,h2,h3⟩
 |fact F=>cases hx
 |dead=>cases hx
theorem aO.store{B:aa}{ι:Map}{c:Nat->Option Obj}{w:h_}(h:aO B ι c w){k o:Nat}{x:Obj}{eU:ak}(hk:c k=some x)(hx:x.owns=true)(hb:ι k=some (.at b n2 cap))
  (hv:bW (aK ι) vs eU) (hle:o+vs.length<=x.cells.length) :
  n2=0/\aO B ι (bA c k (x.Nu (je x.cells o vs))) (w.setCells b o eU)/\∃(bL:ak) (ty:TypeId),w.heap[b]?=some (.cells bL.toArray ty (0,0))/\o+vs.length<=bL.length:=by
 obtain⟨l,h1,h2⟩:=h.born k x hk;rw[hb]at h1;injection h1 with h1;subst h1;cases x with
 |aM cells ty=>
  obtain⟨b',bL,q1,q2,q3⟩:=h2;injection q1 with q1 rp Sq;subst q1;subst rp;subst Sq;obtain⟨a1,a2,a3,a4,a5,a6⟩:=Sn b ty (0,0) eU bL o w q3;exact⟨rfl,h.write hk hx hb a4 a5 a6 (u5 a3.symm) (λj _ hj=>a2 j hj) ⟨b,_,rfl,hv.je q2 o,a1⟩ n_ rfl,bL,ty,q3,by rw[<-q2.length];exact hle⟩
 |row cells ty size=>
  rcases h2 with h2|⟨b',aU,cur,q1,q2,q3,q4,q5⟩
  ·cases h2.1
  ·injection q1 with q1 rp Sq;subst q1;subst rp;subst Sq;obtain⟨a1,a2,a3,a4,a5,a6⟩:=Sn b ty (0,0) eU cur.toList o w (by simpa using q2);have u7:o+eU.length<=cells.length:=by rw[<-hv.length];exact hle
   have iG:cells.length<=cur.toList.length:=by have:=q5.length;rw[jH]at this;omega
   refine⟨rfl,h.write hk hx hb a4 a5 a6 (u5 a3.symm) (λj _ hj=>a2 j hj) (.inr ⟨b,cap,_,rfl,a1,q3,by simp[Sl,q4],?_⟩) n_ rfl,cur.toList,ty,by simpa using q2,?_⟩
   ·rw[Sl];show bW (aK ι) (je cells o vs) (List.take cells.length (je cur.toList o eU));rw[YW _ _ _ _ u7];exact hv.je q5 o
   ·rw[hv.length];omega
 |view cells=>cases hx
 |fact F=>cases hx
 |dead=>cases hx
abbrev aL:=List (Nat×Obj)
variable{ms:aL}
def l9(c:Nat->Option Obj):aL->Nat->Option Obj
 |[]=>c
 |(k,x)::l=>bA (l9 c l) k x
def iN(P:j_)(B:aa)(o:Oper)(eU:ak)(need:List (Nat×Option Obj))(val:i_)(cZ:aL):Prop:=
 ∀(ι:Map) (c:Nat->Option Obj) (ρ:Operand->Value) (w:h_),bW (aK ι) eU (o.op.operands.toList.map ρ)->aO B ι c w->(∀ p∈need,c p.1=p.2)->
  ∃ az v' w',Map.le ι az/\aK az val v'/\aO B az (l9 c cZ) w'/\((execOp ρ o).run P w=.ok (.value v') w'\/(v'=undef/\(execOp ρ o).run P w=.ok .skip w'))
def FW(R:Option Nat):Fence:={ fn:=λ_=>True,depth:=none,alive:=false,round:=R }
theorem YZ{P:j_}{ρ:Operand->Value}{o:Oper}{w w':h_}{n:Next}(h:(execOp ρ o).run P w=.ok n w')(hn:∀ d,n≠.defer d):∀ c,o.op≠.defer c:=by
 intro c hc;have e:execOp ρ o=(do let d <-resolve ρ c o.type;pure (.defer d)):=by unfold execOp;rw[hc]
 rw[e,J8]at h;cases hr:(resolve ρ c o.type).run P w with
 |ok d w1=>rw[hr]at h;injection h with h _;exact hn d h.symm
 |halt x w1=>rw[hr]at h;cases h
def cI(P:j_)(B:aa)(o:Oper)(eU:ak)(need:List (Nat×Option Obj))(val:i_)(cZ:aL):Prop:=
 ∀(R:Option Nat) (ι:Map) (c:Nat->Option Obj) (a:Act) (w:h_),bW (aK ι) eU (o.op.operands.toList.map a.eval)->aO B ι c w->(∀ p∈need,c p.1=p.2)->
  ∀(K:Act->World->Prop) (Q:Exit->Act->World->Prop),(∀ az v' w',Map.le ι az->aK az val v'->aO B az (l9 c cZ) w'->K (a.put o.dst v') w')->o.wpIn (FW R) 0 P a w K Q
theorem iN.step{P:j_}{B:aa}{o:Oper}{eU:ak}{need:List (Nat×Option Obj)}{val:i_}{cZ:aL}(h:iN P B o eU need val cZ):cI P B o eU need val cZ:=by
 intro R ι c a w hv hm hn K Q hK;refine⟨λ_ _=>trivial,?_⟩;obtain⟨az,v',w',h1,h2,h3,h4|⟨h4,h5⟩⟩:=h ι c a.eval w hv hm hn
 ·rw[Nv _ _ _ (YZ h4 n_),h4,Oper.uponIn_value];exact hK az v' w' h1 h2 h3
 ·rw[Nv _ _ _ (YZ h5 n_),h5,Oper.uponIn_skip];subst h4;exact hK az undef w' h1 h2 h3
section
variable{P:j_}{B:aa}{o:Oper}
theorem ob{R:α->β->Prop}{a:α}{m:List β}(h:bW R [a] m):∃ b,m=[b]/\R a b:=by cases h with|cons h t=>cases t;exact⟨_,rfl,h⟩
theorem jv{R:α->β->Prop}{a a2:α}{m:List β}(h:bW R [a,a2] m):∃ b b2,m=[b,b2]/\R a b/\R a2 b2:=by cases h with|cons h t=>obtain⟨b2,rfl,h2⟩:=ob t;exact⟨_,_,rfl,h,h2⟩
def dI(P:j_)(t:TypeId)(cells:ak)(off:Nat):Option Value:=
 match P.underlying t,P.info? t with
 |some d,some i=>
  if d.isRow then(if Nat.ble (off+i.size) cells.length then some (.agg ((cells.drop off).take i.size).toArray)else none)
  else cells[off]?
 |_,_=>none
def fo(P:j_)(t:TypeId)(cells:ak)(off:Nat)(v:i_):Option ak:=
 match P.info? t with
 |some i=>if Nat.beq i.size v.cells.size&&Nat.ble (off+v.cells.size) cells.length&&v.cells.toList.all (·.oneCell')then some (je cells off v.cells.toList)else none
 |none=>none
theorem Y0{ι:Map}{c:Nat->Option Obj}{w:h_}(hm:aO B ι c w){k:Nat}{x:Obj}{t:TypeId}{v:i_}
  (hk:c k=some x) (hx:x.reads=true) (hv:dI P t x.cells off=some v) (hc:aK ι (.pointer (some ⟨k,off,some 7⟩)) u) :
  ∃ v' a',u=.pointer (some a')/\aK ι v v'/\(loadVar t a').run P w=.ok v' w:=by
 obtain⟨b,o,cap,hb,he⟩:=hc.xt rfl;dsimp only at hb he;obtain⟨l,h1,h2⟩:=hm.born k x hk;rw[hb]at h1;injection h1 with h1;subst h1;obtain⟨bL,gh,lK⟩:=h2.at hx;unfold dI at hv;split at hv
 ·rename_i d i hd hi;split at hv
  ·rename_i jI;split at hv
   ·rename_i Y1;have Y1:=sF Y1;have hlen:=gh.length;injection hv with hv;refine⟨.agg ((bL.drop off).take i.size).toArray,⟨b,o+off,none⟩,he,by rw[<-hv];exact .agg ((gh.drop _).take _),?_⟩;exact run_loadVar_mid (P:=P) w b (o+off) t ((bL.drop off).take i.size) d (λj u hj=>by
      rw[u4]at hj;split at hj
      ·rw[E5]at hj;rw[u9];exact lK _ _ hj
      ·cases hj) hd jI (by rw[hi];simp;omega)
   ·cases hv
  ·rename_i jI;obtain⟨u',ki,Sr⟩:=gh.get _ _ hv;refine⟨u',⟨b,o+off,none⟩,he,Sr,?_⟩;have aHV:(isAgg t).run P w=.ok false w:=by unfold isAgg;rw[J8,jJ hd w];cases d<;>first|rfl|(simp[TypeDesc.isRow]at jI)
   simp[loadVar,J8,aHV,load,Sem.run,lK _ _ ki]
 ·cases hv
theorem Y2{t:TypeId}{x:m_}(ho:o.op=.load t x){k:Nat}{y:Obj}{v:i_}(hx:y.reads=true)(hv:dI P t y.cells off=some v):
  iN P B o [.pointer (some ⟨k,off,some 7⟩)] [(k,some y)] v []:=by
 intro ι c ρ w aZ hm hn;rw[ho]at aZ;obtain⟨u,hu,hc⟩:=ob aZ;have hu:ρ x=u:=by simpa[Op.operands]using hu
 obtain⟨v',a',e,kz,qy⟩:=Y0 hm (hn _ (aT ..)) hx hv hc;refine⟨ι,v',w,Map.le.refl _,kz,hm,.inl ?_⟩;simp only[execOp,ho,hu,e,Instr.loadAt,Instr.sureAddr];simp[qy]
theorem Y3{t:TypeId}{x y:m_}(ho:o.op=.store t x y){k:Nat}{z:Obj}{v:i_}{cs:ak}(hx:z.owns=true)(hv:fo P t z.cells off v=some cs):
  iN P B o [.pointer (some ⟨k,off,some 7⟩),v] [(k,some z)] undef [(k,z.Nu cs)]:=by
 intro ι c ρ w aZ hm hn;rw[ho]at aZ;obtain⟨u,u2,hu,hc,hy⟩:=jv aZ;have dT:ρ x=u:=by simp[Op.operands]at hu;exact hu.1
 have e6:ρ y=u2:=by simp[Op.operands]at hu;exact hu.2
 have hk:c k=some z:=hn _ (aT ..);obtain⟨b,oo,cap,hb,he⟩:=hc.xt rfl;dsimp only at hb he;unfold fo at hv;split at hv
 ·rename_i i hi;split at hv
  ·rename_i qA;injection hv with hv;simp only[dr,bB]at qA;obtain⟨⟨bH,hle⟩,E6⟩:=qA;have bH:=Sj bH;have hle:=sF hle;have HB:=hy.cells.length;simp only[zj]at HB;obtain⟨h0,bP,bL,ty,mN,u7⟩:=hm.store hk hx hb hy.cells (o:=off) (by simpa using hle);subst h0;rw[kA]at he;refine⟨ι,undef,w.setCells b off u2.cells.toList,Map.le.refl _,.same rfl,by rw[<-hv];exact bP,.inr ⟨rfl,?_⟩⟩
   have run:=run_storeCells_cells (P:=P) b off u2.cells.toList 0 w
     (λj hj=>by
      simp at hj;simp only[zj]at u7;have:j+off<bL.length:=by omega
      simp[World.cell?,mN];omega)
     (λj hj=>by simp[World.frozen?,mN])
     (λv1 kB=>by
      obtain⟨j,hj⟩:=Y4 kB;have al:j<v.cells.toList.length:=by
       have:j<u2.cells.toList.length:=by
        rcases e7 j u2.cells.toList.length with h|h
        ·exact h
        ·rw[Br h]at hj;cases hj
       rw[hy.cells.length];exact this
      obtain⟨v',rq,tW⟩:=hy.cells.get j _ (bo al);rw[hj]at rq;injection rq with rq;rw[rq,tW.YT];exact E6 _ (dB al))
   simp only[jf]at run;simp only[execOp,ho,dT,he,e6,Instr.storeAt,Instr.sureAddr];simp[storeVar,sizeOf,typeInfo,hi,bH,<-HB,run]
  ·cases hv
 ·cases hv
theorem Y5{x:m_}(ho:o.op=.move x\/o.op=.assign x){v:i_}:iN P B o [v] [] v []:=by
 intro ι c ρ w aZ hm hn;have zk:o.op.operands=#[x]:=by rcases ho with ho|ho<;>rw[ho]<;>rfl
 rw[zk]at aZ;obtain⟨u,hu,hc⟩:=ob aZ;have hu:ρ x=u:=by simpa using hu
 refine⟨ι,u,w,Map.le.refl _,hc,hm,.inl ?_⟩;rcases ho with ho|ho<;>simp[execOp,ho,hu]
theorem J9{R:α->β->Prop}{a a2 a3:α}{m:List β}(h:bW R [a,a2,a3] m):∃ b b2 b3,m=[b,b2,b3]/\R a b/\R a2 b2/\R a3 b3:=by cases h with|cons h t=>obtain⟨b2,b3,rfl,h2,h3⟩:=jv t;exact⟨_,_,_,rfl,h,h2,h3⟩
theorem aHW{x y z:m_}(ho:o.op=.pick x y z){b:Bool}{v1 v2:i_}:iN P B o [.bool b,v1,v2] [] (if b then v1 else v2) []:=by
 intro ι c ρ w aZ hm hn;rw[ho]at aZ;obtain⟨u0,u1,u2,hu,h0,h1,h2⟩:=J9 aZ;simp[Op.operands]at hu;obtain⟨e0,e1,e2⟩:=hu;have h0:=h0.bool;cases b
 ·exact⟨ι,u2,w,Map.le.refl _,h2,hm,.inl (by simp[execOp,ho,e0,e1,e2,h0,asBool])⟩
 ·exact⟨ι,u1,w,Map.le.refl _,h1,hm,.inl (by simp[execOp,ho,e0,e1,e2,h0,asBool])⟩
theorem Y6{ι:Map}{c:Nat->Option Obj}{w:h_}(hm:aO B ι c w){k:Nat}(hk:c k=none)(cs bL:ak)(ty:TypeId)(hc:bW (aK ι) cs bL):
  aO B (dS ι k (.at w.heap.size 0 0)) (bA c k (.aM cs ty)) (w.alloc (.cells bL.toArray ty (0,0))):=by
 have hle:=ij (l:=.at w.heap.size 0 0) (hm.dF k hk)
 exact hm.new (w':=w.alloc (.cells bL.toArray ty (0,0))) (x:=.aM cs ty) (l:=.at w.heap.size 0 0) ⟨⟨rfl,bC _⟩,rfl,rfl,by simp,λj hj=>Ss _ _ _ hj⟩ hk
  ⟨_,bL,rfl,oM hle hc,by show(w.heap.push _)[w.heap.size]?=_;simp⟩ (λb o cap _ e=>by injection e with e1 e2;subst e1;simp) n_ rfl
theorem aHX{t:TypeId}(ho:o.op=.alloc t){i:TypeInfo}{z:i_}(hi:P.info? t=some i)(hz:i.zero=some z)(hf:flat z=true)(k:Nat):
  iN P B o [] [(k,none)] (.pointer (some ⟨k,0,some 7⟩)) [(k,.aM z.cells.toList t)]:=by
 intro ι c ρ w aZ hm hn;have hk:c k=none:=hn _ (aT ..);refine⟨_,.pointer (some ⟨w.heap.size,0,none⟩),_,ij (hm.dF k hk),.ptr (o:=0) (off:=0) (gg _ _ _),Y6 hm hk z.cells.toList z.cells.toList t ((aK.same hf:aK ι z z).cells),.inl ?_⟩;simp[execOp,ho,Instr.alloc,zeroValue,typeInfo,hi,hz,newVar,newRow,newObj,Sem.run]
theorem aHY{t:TypeId}{x:m_}(ho:o.op=.box t x)(v:i_)(k:Nat):
  iN P B o [v] [(k,none)] (.pointer (some ⟨k,0,some 7⟩)) [(k,.aM v.cells.toList t)]:=by
 intro ι c ρ w aZ hm hn;have hk:c k=none:=hn _ (aT ..);rw[ho]at aZ;obtain⟨u,hu,hc⟩:=ob aZ;have hu:ρ x=u:=by simpa[Op.operands]using hu
 refine⟨_,.pointer (some ⟨w.heap.size,0,none⟩),_,ij (hm.dF k hk),.ptr (o:=0) (off:=0) (gg _ _ _),Y6 hm hk v.cells.toList u.cells.toList t hc.cells,.inl ?_⟩;simp[execOp,ho,hu,Instr.box,newVar,newRow,newObj,Sem.run]
theorem aHZ{s:TypeId}{x:m_}{f:Nat}(ho:o.op=.fieldAddr s x f){fs:Array Field}{fd:Field}{i:TypeInfo}(hs:P.underlying s=some (.struct fs))(wx:fs[f]?=some fd)
  (hi:P.info? fd.type=some i) (bH:1<=i.size) (k off:Nat) :
  iN P B o [.pointer (some ⟨k,off,some 7⟩)] [] (.pointer (some ⟨k,off+fd.offset,some 7⟩)) []:=by
 intro ι c ρ w aZ hm hn;rw[ho]at aZ;obtain⟨u,hu,hc⟩:=ob aZ;have hu:ρ x=u:=by simpa[Op.operands]using hu
 obtain⟨b,oo,cap,hb,he⟩:=hc.xt rfl;have aQ:i.size≠0:=by omega
 refine⟨ι,.pointer (some ⟨b,oo+(off+fd.offset),none⟩),w,Map.le.refl _,.ptr hb,hm,.inl ?_⟩;simp only[execOp,ho,hu,he];simp[Instr.fieldAt,Instr.sureAddr,jJ hs,wx,fieldPlace,sizeOf,typeInfo,hi,aQ,zn,u9]
theorem aH0{t:TypeId}{x ix:m_}(ho:o.op=.indexAddr t x ix){e:TypeId}{i:TypeInfo}(ht:P.underlying t=some (.array len e))(hi:P.info? e=some i)
  {kd:IntKind} {n:Int} (h0:0<=n) (h1:n<len) (k off:Nat) :
  iN P B o [.pointer (some ⟨k,off,some 7⟩),.int kd n] [] (.pointer (some ⟨k,off+n.toNat*i.size,some 7⟩)) []:=by
 intro ι c ρ w aZ hm hn;rw[ho]at aZ;obtain⟨u,u2,hu,hc,hx⟩:=jv aZ;have dT:ρ x=u:=by simp[Op.operands]at hu;exact hu.1
 have e6:ρ ix=u2:=by simp[Op.operands]at hu;exact hu.2
 have hx:=hx.eZ rfl;obtain⟨b,oo,cap,hb,he⟩:=hc.xt rfl;refine⟨ι,.pointer (some ⟨b,oo+(off+n.toNat*i.size),none⟩),w,Map.le.refl _,.ptr hb,hm,.inl ?_⟩;simp only[execOp,ho,dT,he,e6,hx];simp[Instr.indexAt,Instr.sureAddr,asIntOf,jJ ht,sizeOf,typeInfo,hi,h0,h1,zn,u9]
theorem Y7{t:TypeId}{x ix:m_}(ho:o.op=.indexAddr t x ix){e:TypeId}{i:TypeInfo}(ht:P.underlying t=some (.slice e))(hi:P.info? e=some i)
  {kd:IntKind} {n:Int} {len cc:Nat} (h0:0<=n) (h1:n<len) (k off:Nat) :
  iN P B o [.slice (some ⟨k,off,some 7⟩) len cc,.int kd n] [] (.pointer (some ⟨k,off+n.toNat*i.size,some 7⟩)) []:=by
 intro ι c ρ w aZ hm hn;rw[ho]at aZ;obtain⟨u,u2,hu,hc,hx⟩:=jv aZ;have dT:ρ x=u:=by simp[Op.operands]at hu;exact hu.1
 have e6:ρ ix=u2:=by simp[Op.operands]at hu;exact hu.2
 have hx:=hx.eZ rfl;rcases hc.iF rfl with ⟨_,h,_⟩|⟨b,oo,cap,c',hb,_,_,he⟩
 ·omega
 ·refine⟨ι,.pointer (some ⟨b,oo+(off+n.toNat*i.size),none⟩),w,Map.le.refl _,.ptr hb,hm,.inl ?_⟩;simp only[execOp,ho,dT,he,e6,hx];simp[Instr.indexAt,asIntOf,jJ ht,sizeOf,typeInfo,hi,h0,h1,zn,u9]
theorem aH1{x:m_}{i:Nat}(ho:o.op=.extract x i){vs:p_}{v:i_}(hv:vs[i]?=some v):iN P B o [.tuple vs] [] v []:=by
 intro ι c ρ w aZ hm hn;rw[ho]at aZ;obtain⟨u,hu,hc⟩:=ob aZ;have hu:ρ x=u:=by simpa[Op.operands]using hu
 obtain⟨cT,he,bh⟩:=hc.uY;obtain⟨v',rq,tW⟩:=bh.get i v (by simpa using hv);refine⟨ι,v',w,Map.le.refl _,tW,hm,.inl ?_⟩;have aH2:cT[i]?=some v':=by simpa using rq
 simp only[execOp,ho,hu,he];simp[Instr.extract,aH2]
theorem aH3{f:Fn}{fi ca:Array Operand}(ho:o.op=.makeFunc f fi ca):iN P B o vs [] (.func f (vs.take fi.size).toArray (vs.drop fi.size).toArray) []:=by intro ι c ρ w aZ hm hn;rw[ho]at aZ;simp only[Op.operands,Array.toList_append,vf]at aZ;have h1:=aZ.take fi.size;have h2:=aZ.drop fi.size;rw[Su s_]at h1;rw[Sv s_]at h2;refine⟨ι,_,w,Map.le.refl _,.fn h1 h2,hm,.inl ?_⟩;simp[execOp,ho,Instr.makeFunc,<-Array.toList_map]
theorem aH4{t:TypeId}{x:m_}{e:TypeId}(ho:o.op=.call { callee:=.builtin .len,args:=#[x],argTypes:=#[t]})(ht:P.underlying t=some (.slice e))(k off n cc:Nat):
  iN P B o [.slice (some ⟨k,off,some 7⟩) n cc] [] (.int .i64 n) []:=by
 intro ι c ρ w aZ hm hn;rw[ho]at aZ;obtain⟨u,hu,hc⟩:=ob aZ;have hu:ρ x=u:=by simpa[Op.operands,Call.operands]using hu
 refine⟨ι,.int .i64 n,w,Map.le.refl _,.same rfl,hm,.inl ?_⟩;rcases hc.iF rfl with ⟨_,h,_,_,he⟩|⟨b,oo,cap,c',hb,_,_,he⟩
 ·subst h;simp[execOp,ho,resolve,invoke,builtin,Builtin.len_,hu,he,jJ ht,goInt]
 ·simp[execOp,ho,resolve,invoke,builtin,Builtin.len_,hu,he,jJ ht,goInt]
def Nw{α:Type}(P:j_):Sem α->Option α
 |.pure a=>some a
 |.program k=>Nw P (k P)
 |.mark _ k=>Nw P k
 |_=>none
theorem Sw{α:Type}{P:j_}:∀{e:Sem α} {a:α},Nw P e=some a->∀ w,e.run P w=.ok a w
 |.pure _,a,h,w=>by injection h with h;subst h;rfl
 |.program k,a,h,w=>by rw[Sem.run];exact Sw (e:=k P) h w
 |.mark _ k,a,h,w=>by rw[Sem.run];exact Sw (e:=k) h w
 |.load _ _ _,_,h,_=>by cases h
 |.store _ _ _ _,_,h,_=>by cases h
 |.new _ _,_,h,_=>by cases h
 |.shape _ _,_,h,_=>by cases h
 |.freeze _ _ _,_,h,_=>by cases h
 |.frozen _ _,_,h,_=>by cases h
 |.getObj _ _,_,h,_=>by cases h
 |.setObj _ _ _,_,h,_=>by cases h
 |.choose _ _,_,h,_=>by cases h
 |.sys _ _,_,h,_=>by cases h
 |.halt _,_,h,_=>by cases h
theorem oc{ι:Map}{l l':ak}(h:bW (aK ι) l l')(hf:∀ v∈l,flat v=true):l'=l:=by
 induction h with
 |nil=>rfl
 |cons h t ih=>rw[h.eZ (hf _ (aT ..)),ih λv hv=>hf v (bF _ hv)]
theorem C7{eU:ak}{val:i_}(Sx:∀ v∈eU,flat v=true)(hf:flat val=true)
  (h:∀ ρ:Operand->Value,o.op.operands.toList.map ρ=eU->∀ w,B.G w->(execOp ρ o).run P w=.ok (.value val) w):iN P B o eU [] val []:=by
 intro ι c ρ w aZ hm hn;exact⟨ι,val,w,Map.le.refl _,.same hf,hm,.inl (h ρ (oc aZ Sx) w hm.base)⟩
end
section
variable{P:j_}{B:aa}{o:Oper}
def bound(x:Option Operand)(n:Nat):ak:=match x with|some _=>[.int .i64 n]|none=>[]
theorem aH5{t:TypeId}{x:m_}{lo hi:Option Operand}(ho:o.op=.slice t x lo hi none){e:TypeId}{i:TypeInfo}(ht:P.underlying t=some (.slice e))(Bt:P.info? e=some i)
  {k off n cc l h:Nat} (hl:lo=none->l=0) (hh:hi=none->h=n) (Nx:l<=h) (Y8:h<=n) (hz:l<h\/l=0) :
  iN P B o (.slice (some ⟨k,off,some 7⟩) n cc::(bound lo l++bound hi h)) [] (.slice (some ⟨k,off+l*i.size,some 7⟩) (h-l) (cc+l)) []:=by
 intro ι c ρ w aZ hm hn;rw[ho]at aZ;have hb:∀(x:Option Operand) (q:Nat),bW (aK ι) (bound x q) ((x.toArray).toList.map ρ)->∀ y,x=some y->ρ y=.int .i64 q:=by
  intro x q h y hy;subst hy;obtain⟨u,hu,hc⟩:=ob h;have hu:ρ y=u:=by simpa using hu
  rw[hu];exact hc.eZ rfl
 have zk:(Op.operands (.slice t x lo hi none)).toList.map ρ=ρ x::(lo.toArray.toList.map ρ++hi.toArray.toList.map ρ):=by simp[Op.operands]
 rw[zk]at aZ;cases aZ with
 |cons hc sG=>
 have hlen:(bound lo l).length=(lo.toArray.toList.map ρ).length:=by cases lo<;>rfl
 have h1:bW (aK ι) (bound lo l) (lo.toArray.toList.map ρ):=by have:=sG.take (bound lo l).length;rwa[Sy,hlen,Sy]at this
 have h2:bW (aK ι) (bound hi h) (hi.toArray.toList.map ρ):=by have:=sG.drop (bound lo l).length;rwa[List.drop_left,hlen,List.drop_left]at this
 have eO:∀ y,lo=some y->ρ y=.int .i64 l:=hb lo l h1;have iO:∀ y,hi=some y->ρ y=.int .i64 h:=hb hi h h2;have tX:∀(y:Nat) (q:Nat) (code:BoundsCode),q<=y->(Instr.sliceBound (.int .i64 q) y code).run P w=.ok q w:=by intro y q code hq;have:(0:Int)<=q/\(q:Int)<=y:=⟨by omega,by omega⟩;simp[Instr.sliceBound,asIntOf,this]
 have SA:∀ cap,n<=cap->(Instr.sliceBounds true n cap (lo.map ρ) (hi.map ρ) none).run P w=.ok (l,h,cap) w:=by
  intro cap jS;cases lo with
  |none=>
   have:=hl rfl;subst this;cases hi with
   |none=>have:=hh rfl;subst this;simp[Instr.sliceBounds]
   |some y=>simp[Instr.sliceBounds,iO y rfl,tX cap h _ o_]
  |some x=>
   cases hi with
   |none=>have:=hh rfl;subst this;simp[Instr.sliceBounds,eO x rfl,tX h l _ Nx]
   |some y=>simp[Instr.sliceBounds,iO y rfl,eO x rfl,tX cap h _ o_,tX h l _ Nx]
 rcases hc.iF rfl with ⟨hb,kQ,qB,zo,he⟩|⟨b,oo,cap,c',hb,lg,nA,he⟩
 ·dsimp only at zo;have hh0:h=0:=by omega
  have ry:l=0:=by omega
  subst kQ;subst qB;subst zo;subst hh0;subst ry;refine⟨ι,.slice none 0 0,w,Map.le.refl _,by simpa using aK.slcN hb,hm,.inl ?_⟩;simp only[execOp,ho];simp[Instr.sliceAt,jJ ht,Instr.slice,he,SA 0 (bC _),sizeOf,typeInfo,Bt]
 ·refine⟨ι,.slice (some ⟨b,oo+(off+l*i.size),none⟩) (h-l) (c'-l),w,Map.le.refl _,.slc hb o_ o_,hm,.inl ?_⟩;simp only[execOp,ho];by_cases iG:c'=l
  ·have ry:l=0:=by omega
   simp[Instr.sliceAt,jJ ht,Instr.slice,he,SA c' lg,sizeOf,typeInfo,Bt,ry,zn,u9]
  ·simp[Instr.sliceAt,jJ ht,Instr.slice,he,SA c' lg,sizeOf,typeInfo,Bt,iG,zn,u9]
theorem Y9{t:TypeId}{x y:m_}(ho:o.op=.makeSlice t x y){e:TypeId}{i:TypeInfo}{z:i_}(ht:P.underlying t=some (.slice e))(hi:P.info? e=some i)(hz:i.zero=some z)
  {kl kc:IntKind} {l cp:Nat} (hlc:l<=cp) (C8:i.bytes*cp<=281474976710656) (h63:cp<=maxLen) {cells:ak} (jw:(madeCells z.cells (cp*i.size)).toList.take (l*i.size)=cells)
  (hlen:cells.length=l*i.size) (cR:∀ v∈cells,flat v=true) (k:Nat) :
  iN P B o [.int kl l,.int kc cp] [(k,none)] (.slice (some ⟨k,0,some 7⟩) l 0) [(k,.row cells e i.size)]:=by
 intro ι c ρ w aZ hm hn;have hk:c k=none:=hn _ (aT ..);rw[ho]at aZ;obtain⟨u,u2,hu,hc,hx⟩:=jv aZ;have dT:ρ x=u:=by simp[Op.operands]at hu;exact hu.1
 have e6:ρ y=u2:=by simp[Op.operands]at hu;exact hu.2
 have hc:=hc.eZ rfl;have hx:=hx.eZ rfl;have hle:=ij (l:=.at w.heap.size 0 cp) (hm.dF k hk);have hr:=run_make (P:=P) w t e i z ht hi hz kl kc l cp o_ o_ (by
  have h:((i.bytes*cp:Nat):Int)<=281474976710656:=by omega
  rwa[oO]at h) (by have h:=h63;simp[maxLen]at h;omega)
 simp only[Int.toNat_natCast]at hr;refine⟨dS ι k (.at w.heap.size 0 cp),.slice (some ⟨w.heap.size,0,none⟩) l cp,w.alloc (.cells (madeCells z.cells (cp*i.size)) e),hle,.slc (o:=0) (off:=0) (gg _ _ _) hlc o_,?_,.inl ?_⟩
 ·refine hm.new (w':=w.alloc (.cells (madeCells z.cells (cp*i.size)) e)) (x:=.row cells e i.size) ⟨⟨rfl,bC _⟩,rfl,rfl,by simp,λj hj=>Ss _ _ _ hj⟩ hk
   (.inr ⟨w.heap.size,cp,_,rfl,by show(w.heap.push _)[w.heap.size]?=_;simp;rfl,h63,size_madeCells _ _,?_⟩) (λb o cap _ e=>by injection e with e1 e2;subst e1;simp) n_ rfl
  rw[hlen,jw];exact kO cR
 ·simp only[execOp,ho,dT,e6,hc,hx];simp[hr]
def C9(B:aa)(sv:i_)(m:Nat)(news:ak)(need:List (Nat×Option Obj)):Prop:=
 ∀(ι:Map) (c:Nat->Option Obj) (w:h_) (u:i_),aO B ι c w->(∀ p∈need,c p.1=p.2)->aK ι sv u->
  (m=0/\news=[]/\u=.slice none 0 0)\/∃ ad c' mO,u=.slice (some ad) m c'/\bW (aK ι) news mO/\∀ j v,mO[j]?=some v->w.cell? (ad.add j)=some v
theorem Ny{k:Nat}{x:Obj}(hx:x.reads=true)(h0:m=0->len=0):C9 B (.slice (some ⟨k,off,some 7⟩) m cc) m ((x.cells.drop off).take len) [(k,some x)]:=by
 intro ι c w u hm hn hc;have hk:c k=some x:=hn _ (aT ..);rcases hc.iF rfl with ⟨hb,kQ,qB,zo,he⟩|⟨b,oo,cap,c',hb,lg,nA,he⟩
 ·refine .inl ⟨kQ,?_,he⟩;rw[h0 kQ];rfl
 ·dsimp only at hb he;obtain⟨l,h1,h2⟩:=hm.born k x hk;rw[hb]at h1;injection h1 with h1;subst h1;obtain⟨bL,gh,lK⟩:=h2.at hx;refine .inr ⟨⟨b,oo+off,none⟩,c',_,he,(gh.drop off).take len,λj v hj=>?_⟩;rw[u4]at hj;split at hj
  ·rw[E5]at hj;rw[zn,u9];exact lK _ _ hj
  ·cases hj
theorem HC{ι:Map}{c:Nat->Option Obj}{w:h_}(hm:aO B ι c w){k:Nat}(hk:c k=none){cells:ak}{rest:p_}{size:Nat}(hc:bW (aK ι) cells cells')
  (jS:cap<=maxLen) (bH:cells'.length+rest.size=cap*size) :
  aO B (dS ι k (.at w.heap.size 0 cap)) (bA c k (.row cells ty size)) (w.alloc (.cells (cells'.toArray++rest) ty)):=by
 have hle:=ij (l:=.at w.heap.size 0 cap) (hm.dF k hk)
 refine hm.new (w':=w.alloc (.cells (cells'.toArray++rest) ty)) (x:=.row cells ty size) ⟨⟨rfl,bC _⟩,rfl,rfl,by simp,λj hj=>Ss _ _ _ hj⟩ hk
  (.inr ⟨w.heap.size,cap,cells'.toArray++rest,rfl,by show(w.heap.push _)[w.heap.size]?=_;simp,jS,by simpa using bH,?_⟩) (λb o cap _ e=>by injection e with e1 e2;subst e1;simp) n_ rfl
 rw[hc.length,Array.toList_append];show bW _ _ (List.take cells'.length (cells'++rest.toList));rw[Sy];exact oM hle hc
theorem aH6{ι:Map}{l l':ak}(h:bW (aK ι) l l')(h1:∀ v∈l,v.oneCell'=true):∀ v∈l',v.oneCell'=true:=by intro v hv;obtain⟨j,hj⟩:=Y4 hv;obtain⟨u,hu,hc⟩:=h.get' j v hj;rw[hc.YT];exact h1 u (cL hu)
theorem aH7{s x:m_}{t:TypeId}(ho:o.op=.call { callee:=.builtin .append,args:=#[s,x],argTypes:=#[t,t]})
  {e:TypeId} {i:TypeInfo} {z:i_} (ht:P.underlying t=some (.slice e)) (hi:P.info? e=some i) (hz:i.zero=some z) (Nz:z.cells.size=i.size) (bH:0<i.size)
  {sv:i_} {m:Nat} {news:ak} {need:List (Nat×Option Obj)} (zp:C9 B sv m news need) (hl:news.length=m*i.size)
  (h63:m<=maxLen) (C8:m*i.bytes<=140737488355328) (k:Nat) :
  iN P B o [.slice none 0 0,sv] ((k,none)::need) (.slice (some ⟨k,0,some 7⟩) m 0) [(k,.row news e i.size)]:=by
 intro ι c ρ w aZ hm hn;have hk:c k=none:=hn _ (aT ..);rw[ho]at aZ;obtain⟨u,u2,hu,hc,hx⟩:=jv aZ;have dT:ρ s=u:=by simp[Op.operands,Call.operands]at hu;exact hu.1
 have e6:ρ x=u2:=by simp[Op.operands,Call.operands]at hu;exact hu.2
 have hc:=hc.eZ rfl;have Ka:m=0->(Builtin.append_ #[t,t] o.type #[u,u2]).run P w=.ok (.slice none 0 0) w->
   ∃ az v' w',Map.le ι az/\aK az (.slice (some ⟨k,0,some 7⟩) m 0) v'/\aO B az (l9 c [(k,.row news e i.size)]) w'/\((execOp ρ o).run P w=.ok (.value v') w'\/(v'=undef/\(execOp ρ o).run P w=.ok .skip w')):=by
  intro kC hr;subst kC;have kQ:news=[]:=mf (by simpa using hl);subst kQ;refine⟨dS ι k .nil,.slice none 0 0,w,ij (hm.dF k hk),.slcN (gg _ _ _),hm.add hk (.inl ⟨rfl,rfl⟩) n_ n_ n_,.inl ?_⟩;simp[execOp,ho,resolve,invoke,builtin,dT,e6,hr]
 rcases zp ι c w u2 hm (λp hp=>hn p (bF _ hp)) hx with ⟨h1,h2,h3⟩|⟨ad,c',mO,h1,h2,h3⟩
 ·refine Ka h1 ?_;rw[hc,h3];simp[Builtin.append_,jJ ht,sizeOf,typeInfo,hi,Builtin.lenOf,Builtin.firstCells]
 ·have cB:mO.length=m*i.size:=by rw[<-h2.length];exact hl
  by_cases kC:m=0
  ·refine Ka kC ?_;rw[hc,h1,kC];simp[Builtin.append_,jJ ht,sizeOf,typeInfo,hi,Builtin.lenOf,Builtin.firstCells,loadCells,loadCellsFrom]
  ·have hr:=run_append_nil (P:=P) w t o.type e i z ht hi hz ad m c' mO cB h3 o_ (by have h:=h63;simp[maxLen]at h;omega) o_;have ep:=grownCap_ge w m 0 e;have dO:=Za w m 0 e h63;have bE:aO B ι c w.drew:=hm.call ⟨⟨rfl,zq _⟩,rfl,rfl,bC _,λ_ _=>rfl⟩;have lL:=HC (ty:=e) (size:=i.size) (cap:=grownCap w m 0 e) (rest:=Builtin.zeroCells z.cells (grownCap w m 0 e-m)) bE hk h2 dO (by
    have h:=NA z.cells (grownCap w m 0 e-m);rw[cB,h,Nz,<-fQ]
    congr 1;omega)
   refine⟨_,_,_,ij (hm.dF k hk),.slc (o:=0) (off:=0) (gg _ _ _) ep o_,lL,.inl ?_⟩;rw[<-hc,<-h1]at hr;simp[execOp,ho,resolve,invoke,builtin,dT,e6,hr]
theorem aH8{s x:m_}{t:TypeId}(ho:o.op=.call { callee:=.builtin .append,args:=#[s,x],argTypes:=#[t,t]})
  {e:TypeId} {i:TypeInfo} {z:i_} (ht:P.underlying t=some (.slice e)) (hi:P.info? e=some i) (hz:i.zero=some z) (Nz:z.cells.size=i.size) (bH:0<i.size)
  {sv:i_} {m:Nat} {news:ak} {need:List (Nat×Option Obj)} (zp:C9 B sv m news need) (hl:news.length=m*i.size) (SB:∀ v∈news,v.oneCell'=true)
  {j n:Nat} {cells:ak} (mP:n*i.size<=cells.length) (h63:n+m<=maxLen) (C8:(n+m)*i.bytes<=140737488355328) (k:Nat) :
  iN P B o [.slice (some ⟨j,0,some 7⟩) n 0,sv] ((k,none)::(j,some (.row cells e i.size))::need) (.slice (some ⟨k,0,some 7⟩) (n+m) 0)
   [(k,.row (cells.take (n*i.size)++news) e i.size),(j,.dead)]:=by
 intro ι c ρ w aZ hm hn;have hk:c k=none:=hn _ (aT ..);have hj:c j=some (.row cells e i.size):=hn _ (bF _ (aT ..));have hkj:j≠k:=λe=>by rw[e,hk]at hj;cases hj
 have gN:bA c j .dead k=none:=by unfold bA;rw[av (kR hkj)];exact hk
 rw[ho]at aZ;obtain⟨u,u2,hu,hc,hx⟩:=jv aZ;have dT:ρ s=u:=by simp[Op.operands,Call.operands]at hu;exact hu.1
 have e6:ρ x=u2:=by simp[Op.operands,Call.operands]at hu;exact hu.2
 have ex:∀ v' w',(Builtin.append_ #[t,t] o.type #[u,u2]).run P w=.ok v' w'->(execOp ρ o).run P w=.ok (.value v') w':=by intro v' w' hr;simp[execOp,ho,resolve,invoke,builtin,dT,e6,hr]
 have HD:aO B ι (bA c j .dead) w:=hm.kill j (by rw[hj];exact n_);rcases hc.iF rfl with ⟨hb,kQ,_,_,he⟩|⟨b,oo,cap,c',hb,lg,nA,he⟩
 ·-- nothing is there yet
  subst kQ;subst he;have SC:=zp ι c w u2 hm (λp hp=>hn p (bF _ (bF _ hp))) hx;have xx:cells.take (0*i.size)=[]:=by simp
  rw[xx,jg,kA];simp only[kA]at h63 C8;have Ka:m=0->(Builtin.append_ #[t,t] o.type #[.slice none 0 0,u2]).run P w=.ok (.slice none 0 0) w->
    ∃ az v' w',Map.le ι az/\aK az (.slice (some ⟨k,0,some 7⟩) m 0) v'/\aO B az (l9 c [(k,.row news e i.size),(j,.dead)]) w'/\((execOp ρ o).run P w=.ok (.value v') w'\/(v'=undef/\(execOp ρ o).run P w=.ok .skip w')):=by
   intro kC hr;subst kC;have kQ:news=[]:=mf (by simpa using hl);subst kQ;exact⟨dS ι k .nil,.slice none 0 0,w,ij (hm.dF k hk),.slcN (gg _ _ _),HD.add gN (.inl ⟨rfl,rfl⟩) n_ n_ n_,.inl (ex _ _ hr)⟩
  rcases SC with ⟨h1,h2,h3⟩|⟨ad,c',mO,h1,h2,h3⟩
  ·refine Ka h1 ?_;rw[h3];simp[Builtin.append_,jJ ht,sizeOf,typeInfo,hi,Builtin.lenOf,Builtin.firstCells]
  ·have cB:mO.length=m*i.size:=by rw[<-h2.length];exact hl
   by_cases kC:m=0
   ·refine Ka kC ?_;rw[h1,kC];simp[Builtin.append_,jJ ht,sizeOf,typeInfo,hi,Builtin.lenOf,Builtin.firstCells,loadCells,loadCellsFrom]
   ·have hr:=run_append_nil (P:=P) w t o.type e i z ht hi hz ad m c' mO cB h3 o_ (by have h:=h63;simp[maxLen]at h;omega) o_;have ep:=grownCap_ge w m 0 e;have dO:=Za w m 0 e h63;have bE:aO B ι (bA c j .dead) w.drew:=HD.call ⟨⟨rfl,zq _⟩,rfl,rfl,bC _,λ_ _=>rfl⟩;have lL:=HC (ty:=e) (size:=i.size) (cap:=grownCap w m 0 e) (rest:=Builtin.zeroCells z.cells (grownCap w m 0 e-m)) bE gN h2 dO (by
     have h:=NA z.cells (grownCap w m 0 e-m);rw[cB,h,Nz,<-fQ]
     congr 1;omega)
    refine⟨_,_,_,ij (hm.dF k hk),.slc (o:=0) (off:=0) (gg _ _ _) ep o_,lL,.inl (ex _ _ ?_)⟩;rw[h1,hr];rfl
 ·-- a row
  dsimp only at hb he;subst he;have kS:c'=cap:=by omega
  subst kS;obtain⟨l,q1,q2⟩:=hm.born j _ hj;rw[hb]at q1;injection q1 with q1;subst q1;rcases q2 with q2|⟨b',aU,cur,e1,mN,dO,gh,jw⟩
  ·cases q2.1
  injection e1 with e1 e2 e3;subst e1;subst e2;subst e3;have iG:cells.length<=cur.size:=by have:=jw.length;rw[jH,zj]at this;change cells.length=min cells.length cur.size at this;omega
  have NB:bW (aK ι) (cells.take (n*i.size)) (cur.toList.take (n*i.size)):=by have:=jw.take (n*i.size);rwa[NC,oP mP]at this
  have holds:∀(jj:Nat) (v:i_),(cur.toList.take (n*i.size))[jj]?=some v->w.cell? ((⟨b,0,none⟩:Addr).add jj)=some v:=by
   intro jj v hv;rw[u4]at hv;split at hv
   ·have rq:cur[jj]?=some v:=by simpa using hv
    simp[World.cell?,zn,mN,rq]
   ·cases hv
  have eO:(cur.toList.take (n*i.size)).length=n*i.size:=by rw[jH,zj];omega
  -- the source
  have SC:∃ ad c' mO,u2=.slice ad m c'/\bW (aK ι) news mO/\(ad=none->m=0/\c'=0)/\∀ a,ad=some a->∀ j v,mO[j]?=some v->w.cell? (a.add j)=some v:=by
   rcases zp ι c w u2 hm (λp hp=>hn p (bF _ (bF _ hp))) hx with ⟨h1,h2,h3⟩|⟨ad,c',mO,h1,h2,h3⟩
   ·subst h1;subst h2;exact⟨none,0,[],h3,.nil,λ_=>⟨rfl,rfl⟩,λa e=>by cases e⟩
   ·exact⟨some ad,c',mO,h1,h2,λe=>(by cases e),λa e=>by injection e with e;subst e;exact h3⟩
  obtain⟨ad,c2,mO,SD,Kb,ND,lK⟩:=SC;have cB:mO.length=m*i.size:=by rw[<-Kb.length];exact hl
  have dX:=hm.own j _ b 0 c' hj rfl hb
  -- where the block is kept
  have iu:∀ w' (gn:p_),tV w w'->w'.tape=w.tape->w'.output=w.output->w.heap.size<=w'.heap.size->(∀ q,q≠b->w'.heap[q]?=w.heap[q]?)->w'.heap[b]?=some (.cells gn e (0,0))->
    gn.size=c'*i.size->gn.toList.take (n*i.size+m*i.size)=cur.toList.take (n*i.size)++mO->n+m<=c'->(Builtin.append_ #[t,t] o.type #[.slice (some ⟨b,0,none⟩) n c',u2]).run P w=.ok (.slice (some ⟨b,0,none⟩) (n+m) c') w'->
    ∃ az v' w',Map.le ι az/\aK az (.slice (some ⟨k,0,some 7⟩) (n+m) 0) v'/\aO B az (l9 c [(k,.row (cells.take (n*i.size)++news) e i.size),(j,.dead)]) w'/\((execOp ρ o).run P w=.ok (.value v') w'\/(v'=undef/\(execOp ρ o).run P w=.ok .skip w')):=by
   intro w' gn p1 p2 p3 p4 p5 p6 p7 p8 p9 hr;have hle:=ij (l:=.at b 0 c') (hm.dF k hk);have c8:aO B ι (bA c j .dead) w':=hm.write hj rfl hb p1 p2 p3 p4 (λq _ hq=>p5 q hq) trivial n_ rfl;refine⟨dS ι k (.at b 0 c'),_,w',hle,.slc (o:=0) (off:=0) (gg _ _ _) p9 o_,c8.add gN (.inr ⟨b,c',gn,rfl,p6,dO,p7,?_⟩) (λb1 o1 l8 _ e1=>?_) n_ n_,.inl (ex _ _ hr)⟩
   ·have e1:(cells.take (n*i.size)++news).length=n*i.size+m*i.size:=by rw[lh,jH,hl];omega
    rw[e1,p8];exact(oM hle NB).append (oM hle Kb)
   ·injection e1 with e1 e2;subst e1;refine⟨cG dX.1 p4,dX.2,λq y o' aU hq hy Bu=>?_,λq F v hq Bu=>?_,λq y o' aU hq hy Bu=>?_⟩
    ·unfold bA at hq;by_cases xy:q=j
     ·rw[aB xy]at hq;injection hq with hq;subst hq;cases hy
     ·rw[av xy]at hq;exact xy (hm.inj q j y _ b o' aU 0 c' hq hy hj rfl Bu hb)
    ·unfold bA at hq;by_cases xy:q=j
     ·rw[aB xy]at hq;cases hq
     ·rw[av xy]at hq;exact λhF=>hm.apart j q _ F b 0 c' v hj rfl hb hq Bu (hm.C6 hq Bu p4 (λk2 fP jd=>p5 k2 λe=>hm.apart j q _ F b 0 c' v hj rfl hb hq Bu (e▸jd)) hF)
    ·unfold bA at hq;by_cases xy:q=j
     ·rw[aB xy]at hq;injection hq with hq;subst hq;cases hy
     ·rw[av xy]at hq;exact(hm.seen q y b o' aU hq hy Bu).2 j _ 0 c' hj rfl hb
  by_cases Kc:n+m<=c'
  ·cases ad with
   |none=>
    obtain⟨kC,qB⟩:=ND rfl;subst kC;subst qB;have kQ:mO=[]:=mf (by simpa using cB);subst kQ;refine iu w cur (.refl w) rfl rfl (bC _) (λ_ _=>rfl) mN gh s_ Kc ?_;rw[SD];have hr:=run_append_owned_none (P:=P) (w:=w) 0 t o.type e i i.size ht hi (.slice (some ⟨b,0,none⟩) n c') n (cur.toList.take (n*i.size)) ⟨eO,.inr ⟨b,c',cur,rfl,lM _,mN,by omega,dO,gh,rfl⟩⟩;simpa using hr
   |some a=>
    have hr:=run_append_room (P:=P) w t o.type e i ht hi b n c' cur mN a m c2 mO cB (lK a rfl) (aH6 Kb SB) Kc (by rw[cB,gh,<-fQ];exact eV _ Kc);refine iu (w.setRow b (cur.toList.take (n*i.size)++mO++cur.toList.drop (n*i.size+mO.length)).toArray) _ ⟨rfl,bC _⟩ rfl rfl s_ (λq hq=>setRow_other w b q _ hq) (setRow_heap w b cur _ e _ mN) ?_ ?_ Kc (by rw[SD];exact hr)
    ·have:=eV i.size Kc;rw[fQ]at this;simp only[NF,lh,eO,wy,zj,cB];omega
    ·have e1:(cur.toList.take (n*i.size)++mO).length=n*i.size+m*i.size:=by rw[lh,eO,cB]
     rw[<-e1];exact Sy
  ·cases ad with
   |none=>
    obtain⟨kC,_⟩:=ND rfl;omega
   |some a=>
    have hr:=run_append_grow (P:=P) w t o.type e i z ht hi hz ⟨b,0,none⟩ n c' _ eO holds a m c2 mO cB (lK a rfl) o_ (by have h:=h63;simp[maxLen]at h;omega) (growslice_fits o_ C8);have ep:=grownCap_ge w (n+m) c' e;have aH9:=Za w (n+m) c' e h63;have bE:aO B ι (bA c j .dead) w.drew:=HD.call ⟨⟨rfl,zq _⟩,rfl,rfl,bC _,λ_ _=>rfl⟩;have lL:=HC (ty:=e) (size:=i.size) (cap:=grownCap w (n+m) c' e) (rest:=Builtin.zeroCells z.cells (grownCap w (n+m) c' e-(n+m))) bE gN (NB.append Kb) aH9 (by
     have h:=NA z.cells (grownCap w (n+m) c' e-(n+m));rw[lh,eO,cB,h,Nz,<-fQ,<-fQ]
     congr 1;omega)
    refine⟨_,_,_,ij (hm.dF k hk),.slc (o:=0) (off:=0) (gg _ _ _) ep o_,lL,.inl (ex _ _ ?_)⟩;rw[SD,hr];simp
theorem Zb{src dst e:TypeId}{x:m_}(ho:o.op=.convert src dst x)(hs:P.underlying src=some (.slice e))(he:P.underlying e=some (.int .u8))(hd:P.underlying dst=some .string)
  {k off n cc:Nat} {y:Obj} {ns:List Int} (hy:y.reads=true) (E7:(y.cells.drop off).take n=ns.map (Value.int .u8)) (hlen:ns.length=n) :
  iN P B o [.slice (some ⟨k,off,some 7⟩) n cc] [(k,some y)] (.string (ns.foldl (λr n=>r.push (UInt8.ofNat n.toNat)) ByteArray.empty)) []:=by
 intro ι c ρ w aZ hm hn;rw[ho]at aZ;obtain⟨u,hu,hc⟩:=ob aZ;have hu:ρ x=u:=by simpa[Op.operands]using hu
 refine⟨ι,_,w,Map.le.refl _,.same rfl,hm,.inl ?_⟩;have kz:=λa l c=>run_convert_bytes_string (P:=P) w src dst e a l c hs he hd;rcases Ny (B:=B) (k:=k) (off:=off) (m:=n) (cc:=cc) hy (len:=n) (λh=>h) ι c w u hm hn hc with ⟨h1,h2,h3⟩|⟨ad,c',mO,h1,h2,h3⟩
 ·subst h1;have:ns=[]:=mf hlen;subst this;simp only[execOp,ho,hu,h3];simp[kz,Conv.bytesToString]
 ·rw[E7]at h2;have h2:=oc h2 (λv hv=>by obtain⟨q,_,rfl⟩:=db.1 hv;rfl);subst h2;have aIa:(loadCells ad n).run P w=.ok (ns.map (Value.int .u8)).toArray w:=by have:=run_loadCells_list (P:=P) (w:=w) ad (ns.map (Value.int .u8)) h3;simpa[hlen]using this
  simp only[execOp,ho,hu,h1];simp[kz,run_bytesToString w ad n c' ns aIa]
end
def gE(look:Nat->Value):Operand->Value
 |.tmp t=>look t
 |.const v=>v
 |.global g=>.pointer (some ⟨g,0,none⟩)
 |.func f=>.func (.func f) #[] #[]
def NG:Operand->Bool
 |.const v=>flat v
 |_=>true
structure fR(B:aa)(ι:Map)(look:Nat->Value)(N:Nat)(a:Act):Prop where
 defers:a.defers=B.ds
 size:a.tmps.size=N
 slot:∀ t,n9 ι (look t) (a.tmps.getD t undef)
theorem Zc{B:aa}{ι:Map}{look:Nat->Value}{N:Nat}{a:Act}(hf:fR B ι look N a){x:m_}(hx:NG x=true)(hn:mK (gE look x)=false):aK ι (gE look x) (a.eval x):=by
 cases x with
 |tmp t=>exact(hf.slot t).Bp hn
 |const v=>exact .same hx
 |global g=>exact .same rfl
 |func f=>exact .same rfl
variable{a:Nat}{ι:Map}{look:Nat->Value}
theorem SE{B:aa}{ι:Map}{look:Nat->Value}{N:Nat}{a:Act}(hf:fR B ι look N a):∀(l:List Operand),(∀ x∈l,NG x=true/\mK (gE look x)=false)->bW (aK ι) (l.map (gE look)) (l.map a.eval)
 |[],_=>.nil
 |x::l,h=>(.cons (Zc hf (h x (aT ..)).1 (h x (aT ..)).2) (SE hf l λy hy=>h y (bF _ hy)))
structure rz where
 val:Value
 cZ:aL
 need:List (Nat×Option Obj)
def NH(P:j_)(look:Nat->Value)(o:Oper):Option rz:=
 if o.op.operands.toList.all (λx=>flat (gE look x))then(match Nw P (execOp (gE look) o)with
   |some (.value v)=>if flat v then some ⟨v,[],[]⟩else none
   |_=>none)else none
def Zd(look:Nat->Value)(c:Call):Option (Nat×TypeId×Operand×Addr×Nat):=
 match c.callee,c.args.toList,c.argTypes.toList with
 |.builtin .len,[x],[t]=>match gE look x with
  |.slice (some ad) n cc=>if nu ad then some (n,t,x,ad,cc)else none
  |_=>none
 |_,_,_=>none
def rC(P:j_)(look:Nat->Value)(g:Nat->Option Obj)(next:Nat)(o:Oper):Option rz:=
 match o.op with
 |.move x=>some ⟨gE look x,[],[]⟩
 |.assign x=>some ⟨gE look x,[],[]⟩
 |.pick c x y=>match gE look c with
  |.bool b=>some ⟨if b then gE look x else gE look y,[],[]⟩
  |_=>none
 |.alloc t=>match P.info? t with
  |some i=>match i.zero with
   |some z=>if flat z then some ⟨.pointer (some ⟨next,0,some 7⟩),[(next,.aM z.cells.toList t)],[(next,none)]⟩else none
   |none=>none
  |none=>none
 |.box t x=>some ⟨.pointer (some ⟨next,0,some 7⟩),[(next,.aM (gE look x).cells.toList t)],[(next,none)]⟩
 |.load t x=>match gE look x with
  |.pointer (some ad)=>if nu ad then(match g ad.block with
   |some y=>if y.reads then(match dI P t y.cells ad.off with|some v=>some ⟨v,[],[(ad.block,some y)]⟩|none=>none)else none
   |none=>none)else none
  |_=>none
 |.store t x y=>match gE look x with
  |.pointer (some ad)=>if nu ad then(match g ad.block with
   |some z=>if z.owns then(match fo P t z.cells ad.off (gE look y)with|some cs=>some ⟨undef,[(ad.block,z.Nu cs)],[(ad.block,some z)]⟩|none=>none)else none
   |none=>none)else none
  |_=>none
 |.fieldAddr s x f=>match gE look x with
  |.pointer (some ad)=>if nu ad then(match P.underlying s with
   |some (.struct fs)=>(match fs[f]? with
    |some fd=>(match P.info? fd.type with
     |some i=>if Nat.ble 1 i.size then some ⟨.pointer (some ⟨ad.block,ad.off+fd.offset,some 7⟩),[],[]⟩else none
     |none=>none)
    |none=>none)
   |_=>none)else none
  |_=>none
 |.indexAddr t x ix=>match gE look x,gE look ix with
  |.pointer (some ad),.int _ n=>if nu ad then(match P.underlying t with
   |some (.array len e)=>(match P.info? e with
    |some i=>if 0<=n/\n<len then some ⟨.pointer (some ⟨ad.block,ad.off+n.toNat*i.size,some 7⟩),[],[]⟩else none
    |none=>none)
   |_=>none)else none
  |.slice (some ad) len _,.int _ n=>if nu ad then(match P.underlying t with
   |some (.slice e)=>(match P.info? e with
    |some i=>if 0<=n/\n<len then some ⟨.pointer (some ⟨ad.block,ad.off+n.toNat*i.size,some 7⟩),[],[]⟩else none
    |none=>none)
   |_=>none)else none
  |_,_=>none
 |.extract x i=>match gE look x with
  |.tuple vs=>(match vs[i]? with|some v=>some ⟨v,[],[]⟩|none=>none)
  |_=>none
 |.makeFunc f fi ca=>some ⟨.func f (((fi++ca).toList.map (gE look)).take fi.size).toArray (((fi++ca).toList.map (gE look)).drop fi.size).toArray,[],[]⟩
 |.call c=>match Zd look c with
  |some (n,t,_)=>(match P.underlying t with|some (.slice _)=>some ⟨.int .i64 n,[],[]⟩|_=>none)
  |none=>NH P look o
 |_=>NH P look o
def Bv(look:Nat->Value)(o:Oper):Bool:=o.op.operands.toList.all (λx=>NG x&&!mK (gE look x))&&(match o.op with|.select _ _=>false|_=>true)
def Da(g:Nat->Option Obj)(next:Nat)(e:rz):Prop:=(∀ p∈e.need,(∃ x,p.2=some x/\g p.1=some x)\/(p.2=none/\next<=p.1))/\∀ p∈e.cZ,∃ q∈e.need,q.1=p.1
theorem Db{a:Addr}(h:nu a=true):a=⟨a.block,a.off,some 7⟩:=by obtain⟨b,o,s⟩:=a;have:=Hx h;dsimp only at this;subst this;rfl
theorem Ze{P:j_}{B:aa}{g:Nat->Option Obj}{next:Nat}{o:Oper}{e:rz}(aC:Bv look o=true)(h:rC P look g next o=some e):
  iN P B o (o.op.operands.toList.map (gE look)) e.need e.val e.cZ/\Da g next e:=by
 simp only[Bv,dr,bB]at aC;obtain⟨zk,Zf⟩:=aC;have vg:Da g next ⟨e.val,[],[]⟩:=⟨λp hp=>(by cases hp),λp hp=>(by cases hp)⟩;have Zg:NH P look o=some e->iN P B o (o.op.operands.toList.map (gE look)) e.need e.val e.cZ/\Da g next e:=by
  intro h;unfold NH at h;split at h
  ·rename_i cR;rw[bB]at cR;split at h
   ·rename_i v hp;split at h
    ·rename_i Sx;injection h with h;subst h;refine⟨C7 (λv hv=>by obtain⟨x,hx,rfl⟩:=db.1 hv;exact cR x hx) Sx λρ gp w _=>?_,vg⟩;rw[execOp_congr (ρ:=ρ) (ρ':=gE look) o (λcs b e=>by rw[e]at Zf;cases Zf) (λx hx=>by obtain⟨j,hj⟩:=Y4 (NI.2 hx);have:=cO (λl=>l[j]?) gp;simp only[vi,hj,Sp]at this;injection this)]
     exact Sw hp w
    ·cases h
   ·cases h
  ·cases h
 cases cg:o.op with
 |move x=>
  simp only[rC,cg]at h;injection h with h;subst h;exact⟨Y5 (.inl cg),vg⟩
 |assign x=>
  simp only[rC,cg]at h;injection h with h;subst h;exact⟨Y5 (.inr cg),vg⟩
 |pick c x y=>
  simp only[rC,cg]at h;split at h
  ·rename_i b hb;injection h with h;subst h;refine⟨?_,vg⟩;have:=aHW (P:=P) (B:=B) cg (b:=b) (v1:=gE look x) (v2:=gE look y);rw[<-hb]at this;exact this
  ·cases h
 |alloc t=>
  simp only[rC,cg]at h;split at h
  ·rename_i i hi;split at h
   ·rename_i z hz;split at h
    ·rename_i Zh;injection h with h;subst h;exact⟨aHX cg hi hz Zh next,λp hp=>.inr (by simp at hp;subst hp;exact⟨rfl,bC _⟩),λp hp=>⟨_,aT ..,by simp at hp;subst hp;rfl⟩⟩
    ·cases h
   ·cases h
  ·cases h
 |box t x=>
  simp only[rC,cg]at h;injection h with h;subst h;exact⟨aHY cg _ next,λp hp=>.inr (by simp at hp;subst hp;exact⟨rfl,bC _⟩),λp hp=>⟨_,aT ..,by simp at hp;subst hp;rfl⟩⟩
 |load t x=>
  simp only[rC,cg]at h;split at h
  ·rename_i ad hx;split at h
   ·rename_i dX;split at h
    ·rename_i y hy;split at h
     ·rename_i E8;split at h
      ·rename_i v hv;injection h with h;subst h;refine⟨?_,λp hp=>.inl ⟨y,by simp at hp;subst hp;exact⟨rfl,hy⟩⟩,λp hp=>(by cases hp)⟩;have:=Y2 (P:=P) (B:=B) cg (k:=ad.block) E8 hv;rw[<-Db dX,<-hx]at this;exact this
      ·cases h
     ·cases h
    ·cases h
   ·cases h
  ·cases h
 |store t x y=>
  simp only[rC,cg]at h;split at h
  ·rename_i ad hx;split at h
   ·rename_i dX;split at h
    ·rename_i z hz;split at h
     ·rename_i hzo;split at h
      ·rename_i cs gh;injection h with h;subst h;refine⟨?_,λp hp=>.inl ⟨z,by simp at hp;subst hp;exact⟨rfl,hz⟩⟩,λp hp=>⟨_,aT ..,by simp at hp;subst hp;rfl⟩⟩;have:=Y3 (P:=P) (B:=B) cg (k:=ad.block) hzo gh;rw[<-Db dX,<-hx]at this;exact this
      ·cases h
     ·cases h
    ·cases h
   ·cases h
  ·cases h
 |fieldAddr s x f=>
  simp only[rC,cg]at h;split at h
  ·rename_i ad hx;split at h
   ·rename_i dX;split at h
    ·rename_i fs hs;split at h
     ·rename_i fd wx;split at h
      ·rename_i i hi;split at h
       ·rename_i bH;injection h with h;subst h;refine⟨?_,vg⟩;have:=aHZ (P:=P) (B:=B) cg hs wx hi (sF bH) ad.block ad.off;rw[<-Db dX,<-hx]at this;exact this
       ·cases h
      ·cases h
     ·cases h
    ·cases h
   ·cases h
  ·cases h
 |indexAddr t x ix=>
  simp only[rC,cg]at h;split at h
  ·rename_i ad kd n hx Bw;split at h
   ·rename_i dX;split at h
    ·rename_i len el ht;split at h
     ·rename_i i hi;split at h
      ·rename_i hr;injection h with h;subst h;refine⟨?_,vg⟩;have:=aH0 (P:=P) (B:=B) cg ht hi (kd:=kd) hr.1 hr.2 ad.block ad.off;rw[<-Db dX,<-hx,<-Bw]at this;exact this
      ·cases h
     ·cases h
    ·cases h
   ·cases h
  ·rename_i ad len cc kd n hx Bw;split at h
   ·rename_i dX;split at h
    ·rename_i el ht;split at h
     ·rename_i i hi;split at h
      ·rename_i hr;injection h with h;subst h;refine⟨?_,vg⟩;have:=Y7 (P:=P) (B:=B) cg ht hi (kd:=kd) (cc:=cc) hr.1 hr.2 ad.block ad.off;rw[<-Db dX,<-hx,<-Bw]at this;exact this
      ·cases h
     ·cases h
    ·cases h
   ·cases h
  ·cases h
 |extract x i=>
  simp only[rC,cg]at h;split at h
  ·rename_i vs hx;split at h
   ·rename_i v hv;injection h with h;subst h;refine⟨?_,vg⟩;have:=aH1 (P:=P) (B:=B) cg hv;rw[<-hx]at this;exact this
   ·cases h
  ·cases h
 |makeFunc f fi ca=>
  simp only[rC,cg]at h;injection h with h;subst h;exact⟨aH3 cg,vg⟩
 |call c=>
  simp only[rC,cg]at h;split at h
  ·rename_i n t rest hl;obtain⟨x,ad,cc⟩:=rest;split at h
   ·rename_i el ht;injection h with h;subst h;refine⟨?_,vg⟩;unfold Zd at hl;split at hl
    ·rename_i x' t' hc ha mg;split at hl
     ·rename_i Zi n' cr hx;split at hl
      ·rename_i dX;injection hl with hl;injection hl with h1 hl;injection hl with h2 hl;injection hl with h3 hl;injection hl with h4 h5;subst h1;subst h2;subst h3;subst h4;subst h5;have kS:c={ callee:=.builtin .len,args:=#[x'],argTypes:=#[t']}:=by
        obtain⟨c1,c2,c3⟩:=c;dsimp only at hc ha mg;subst hc
        congr 1
        ·exact wz.1 ha
        ·exact wz.1 mg
       rw[kS]at cg ⊢;have:=aH4 (P:=P) (B:=B) cg ht Zi.block Zi.off n' cr;rw[<-Db dX,<-hx]at this;exact this
      ·cases hl
     ·cases hl
    ·cases hl
   ·cases h
  ·rw[<-cg];exact Zg h
 |_=>rw[<-cg];refine Zg ?_;simp only[rC,cg]at h;exact h
abbrev aX:=List (Nat×Value)
def bJ:aX->Nat->Value
 |[],_=>Hz
 |(t,v)::l,s=>if Nat.beq t s then v else bJ l s
def ag:aL->Nat->Option Obj
 |[],_=>none
 |(k,x)::l,j=>if Nat.beq k j then some x else ag l j
theorem lj(h:Nat.beq a b=true):a=b:=Sj h
theorem oQ(h:a≠b):Nat.beq a b=false:=by
 cases hb:Nat.beq a b with
 |false=>rfl
 |true=>exact absurd (lj hb) h
theorem wB(c:Nat->Option Obj):∀(l:aL) (k:Nat),l9 c l k=match ag l k with|some x=>some x|none=>c k
 |[],k=>rfl
 |(j,x)::l,k=>by
  show(if k=j then some x else l9 c l k)=match (if Nat.beq j k then some x else ag l k)with|some x=>some x|none=>c k
  by_cases h:k=j
  ·subst h;simp
  ·rw[av h,oQ (kR h)];exact wB c l k
theorem iH:∀(l m:aL) (k:Nat),ag (l++m) k=match ag l k with|some x=>some x|none=>ag m k
 |[],m,k=>rfl
 |(j,x)::l,m,k=>by
  show(if Nat.beq j k then some x else ag (l++m) k)=match (if Nat.beq j k then some x else ag l k)with|some x=>some x|none=>ag m k
  by_cases h:Nat.beq j k=true
  ·simp only[aB h]
  ·simp only[av h];exact iH l m k
theorem kD:∀{l:aL} {k:Nat} {x:Obj},ag l k=some x->(k,x)∈l
 |(j,y)::l,k,x,h=>by
  unfold ag at h;split at h
  ·rename_i hb;injection h with h;rw[lj hb,h];exact aT ..
  ·exact bF _ (kD h)
def cY(c:Nat->Option Obj)(M:aL):Prop:=∀ k x,ag M k=some x->c k=some x
def eF(c:Nat->Option Obj)(next:Nat):Prop:=∀ k,next<=k->c k=none
inductive Ex where
 |normal
 |exit (id:Nat)
 |ret
def Ex.Bx:Ex->Exit
 |.normal=>.normal
 |.exit id=>.exit id
 |.ret=>.ret
def wl:Code->List Nat
 |.region _ ops _=>ops.toList.filterMap (·.dst)
 |.seq x y=>wl x++wl y
 |.cond _ x y=>wl x++wl y
 |.block _ b=>wl b
 |.loop b=>wl b
 |.scope b=>wl b
 |.rangeFunc _ ps x y=>ps.toList++(wl x++wl y)
 |_=>[]
def vj(c:Code)(t:Nat):Bool:=(wl c).any λd=>Nat.beq d t
structure mQ where
 ex:Ex
 fr:aX
 M:aL
 next:Nat
variable{r1:mQ}
def ai(P:j_)(B:aa)(N:Nat)(c:Code)(fr:aX)(M:aL)(next:Nat)(r:mQ):Prop:=
 ∀(R:Option Nat) (ι:Map) (cc:Nat->Option Obj) (a:Act) (w:h_) (Q:Exit->Act->World->Prop),fR B ι (bJ fr) N a->aO B ι cc w->cY cc M->eF cc next->
  (∀ az cr a' w',Map.le ι az->fR B az (bJ r.fr) N a'->aO B az cr w'->cY cr r.M->eF cr r.next->(∀ k,k<next->ag M k=none->cr k=cc k)->(∀ t,vj c t=false->a'.tmps.getD t undef=a.tmps.getD t undef)->Q r.ex.Bx a' w')->c.wpIn (FW R) 0 P Q a w
inductive bd(P:j_)(B:aa)(N:Nat) where
 |step (key:Nat) (o:Oper) (eU:ak) (need:List (Nat×Option Obj)) (val:i_) (cZ:aL) (ok:cI P B o eU need val cZ)
 |call (key:Nat) (f:FuncId) (args:ak) (res:i_) (ok:∀ w,B.G w->Calls P f args.toArray w λe w'=>e=.returned res/\Below w.heap.size w w')
 |rw(key:Nat) (v v':i_) (ok:v=v')
 |code (key:Nat) (c:Code) (fr:aX) (M:aL) (next:Nat) (r:mQ) (ok:ai P B N c fr M next r)
inductive oR where
 |eU (l:ak)
 |obj (x:Option Obj)
 |op (o:Oper)
 |code (c:Code)
 |nat (n:Nat)
variable{e:Nat}{f:FuncId}{args:ak}{v' res:i_}
def callee(look:Nat->Value)(o:Oper):Option (FuncId×ak):=
 match o.op with
 |.call c=>match c.callee with
  |.value x=>match gE look x with
   |.func (.func f) fi ca=>some (f,fi.toList++c.args.toList.map (gE look)++ca.toList)
   |_=>none
  |_=>none
 |_=>none
variable{c:Nat->Option Obj}{eU:ak}
def gO(P:j_)(f:FuncId):Bool:=
 match P.funcs[f]? with
 | some fn => fn.body.isSome && !(fn.name == "runtime.NumGoroutine")
 |none=>false
def NJ(o:Oper):Nat:=match o.dst with
 |some t=>t
 |none=>match o.op with
  |.store _ (.tmp t) _=>100000+t
  |_=>99999
abbrev bM(P:j_)(B:aa)(N:Nat):=List (bd P B N)
abbrev wC:=List (oR×oR)
def Zj(next:Nat)(need:List (Nat×Option Obj)):Bool:=need.all λp=>match p.2 with|some _=>true|none=>Nat.ble next p.1
def Zk(cZ:aL)(need:List (Nat×Option Obj)):Bool:=cZ.all λp=>need.any λq=>Nat.beq q.1 p.1
def HE{P:j_}{B:aa}{N:Nat}(look:Nat->Value)(g:Nat->Option Obj)(next:Nat)(o:Oper)(rs:bM P B N):Option (rz×bM P B N×wC):=
 match rC P look g next o with
 |some e=>some (e,rs,[])
 |none=>none
def SF{P:j_}{B:aa}{N:Nat}(look:Nat->Value)(g:Nat->Option Obj)(next:Nat)(o:Oper)(rs:bM P B N):Option (rz×bM P B N×wC):=
 if Bv look o then
  match rs with
  |.step key o' eU need val cZ _::xz=>
   if Nat.beq key (NJ o)then
    (if Zj next need&&Zk cZ need then
     some (⟨val,cZ,need⟩,xz,(.op o,.op o')::(.eU (o.op.operands.toList.map (gE look)),.eU eU)::need.filterMap λp=>match p.2 with|some x=>some (.obj (g p.1),.obj (some x))|none=>none)
    else none)
   else HE look g next o rs
  |.call key f args res _::xz=>
   if Nat.beq key (NJ o)then
    (match callee look o with
    |some (f',args')=>if gO P f&&args.all flat&&flat res then some (⟨res,[],[]⟩,xz,[(.nat f',.nat f),(.eU args',.eU args)])else none
    |none=>none)
   else HE look g next o rs
  |.rw key v v' _::xz=>
   if Nat.beq key (NJ o)then
    (match rC P look g next o with
    |some e=>some (⟨v',e.cZ,e.need⟩,xz,[(.eU [e.val],.eU [v])])
    |none=>none)
   else HE look g next o rs
  |_=>HE look g next o rs
 else none
theorem NK{P:j_}(h:gO P f=true)(args:p_)(w:h_):(callFunc f args).run P w=.ok (.enter f args) w:=by
 unfold gO at h;split at h
 ·rename_i fn hf;simp only[dr,zr]at h;obtain⟨c,hb⟩:=Option.isSome_iff_exists.1 h.1
  have h1 : fn.name ≠ "runtime.NumGoroutine" := by simpa using h.2
  simp[callFunc,hf,h1,hb]
 ·cases h
def sH(tr:wC):Prop:=∀ p∈tr,p.1=p.2
theorem Kd{R:Option Nat}{P:j_}{args:p_}{w:h_}{Rs:Ending->World->Prop}{n:Nat}:CallsIn (FW R) n P f args w Rs↔Calls P f args w Rs:=
 (callsIn_wide (n:=n):CallsIn Fence.wide n P f args w Rs↔Calls P f args w Rs)
theorem aIb{P:j_}{B:aa}{o:Oper}(aC:Bv look o=true)(hc:callee look o=some (f,args))(e8:gO P f=true)
  (du:∀ v∈args,flat v=true) (Bz:flat res=true) (h:∀ w,B.G w->Calls P f args.toArray w λe w'=>e=.returned res/\Below w.heap.size w w') :
  cI P B o (o.op.operands.toList.map (gE look)) [] res []:=by
 intro R ι c a w hv hm hn K Q hK;obtain⟨dst,op,ty,pos,after,guard⟩:=o;unfold callee at hc;split at hc
 ·rename_i cl ho;dsimp only at ho;subst ho;split at hc
  ·rename_i x hx;split at hc
   ·rename_i f' fi ca iv;injection hc with hc;injection hc with gP dp;subst gP;obtain⟨cal,lN,xA⟩:=cl;dsimp only at hx dp;subst hx;have zk:(Op.operands (.call ⟨.value x,lN,xA⟩)).toList=x::lN.toList:=by simp[Op.operands,Call.operands]
    dsimp only at hv;rw[zk]at hv;cases hv with
    |cons hx sG=>
    rw[iv]at hx;obtain⟨kg,eh,he,h1,h2⟩:=hx.Bo;have bh:=(h1.append sG).append h2;rw[dp]at bh;have e2:=oc bh du;have e3:execOp a.eval ⟨dst,.call ⟨.value x,lN,xA⟩,ty,pos,after,guard⟩=callFunc f' (kg++lN.map a.eval++eh):=by have:execOp a.eval ⟨dst,.call ⟨.value x,lN,xA⟩,ty,pos,after,guard⟩=(do let d <-Deferred.ofValue (a.eval x) (lN.map a.eval);invoke d.target d.args):=rfl;rw[this,he];rfl
    have e4:(kg++lN.map a.eval++eh:p_)=args.toArray:=by rw[<-e2];apply E9;simp
    refine⟨λ_ _=>trivial,?_⟩;rw[Nv _ _ _ n_,e3,e4,NK e8,Oper.uponIn_enter];refine⟨λe=>(by cases e),Kd.2 ((h w hm.base).mono ?_)⟩
    rintro e w' ⟨rfl,hb⟩
    exact hK ι res w' (Map.le.refl _) (.same Bz) (hm.call hb)
   ·cases hc
  ·cases hc
 ·cases hc
theorem SG{P:j_}{B:aa}{N:Nat}{g:Nat->Option Obj}{next:Nat}{o:Oper}{rs xz:bM P B N}{e:rz}{tr:wC}
  (h:SF look g next o rs=some (e,xz,tr)) (hs:sH tr):Bv look o=true/\cI P B o (o.op.operands.toList.map (gE look)) e.need e.val e.cZ/\Da g next e:=by
 unfold SF at h;split at h
 ·rename_i aC;refine⟨aC,?_⟩;have auto:∀{rs:bM P B N},HE look g next o rs=some (e,xz,tr)->cI P B o (o.op.operands.toList.map (gE look)) e.need e.val e.cZ/\Da g next e:=by
   intro rs h;unfold HE at h;split at h
   ·rename_i e' he;injection h with h;injection h with h1 h2;subst h1;obtain⟨q1,q2⟩:=Ze (B:=B) aC he;exact⟨q1.step,q2⟩
   ·cases h
  split at h
  ·rename_i key o' eU need val cZ ok Fb;split at h
   ·split at h
    ·rename_i qA;injection h with h;injection h with h1 h;injection h with h2 h3;subst h1;subst h3;simp only[dr]at qA;have e1:oR.op o=.op o':=hs _ (aT ..);have e2:oR.eU _=.eU eU:=hs _ (bF _ (aT ..));injection e1 with e1;injection e2 with e2;subst e1;rw[e2];refine⟨ok,λp hp=>?_,λp hp=>?_⟩
     ·have gP:=qA.1;unfold Zj at gP;rw[bB]at gP;have gQ:=gP p hp;cases xB:p.2 with
      |none=>rw[xB]at gQ;exact .inr ⟨rfl,sF gQ⟩
      |some x=>
       left;refine⟨x,rfl,?_⟩;have:oR.obj (g p.1)=.obj (some x):=hs _ (bF _ (bF _ (Zl.2 ⟨p,hp,by rw[xB]⟩)));injection this
     ·have dp:=qA.2;unfold Zk at dp;rw[bB]at dp;have:=dp p hp;rw[rD]at this;obtain⟨q,hq,hb⟩:=this;exact⟨q,hq,lj hb⟩
    ·cases h
   ·exact auto h
  ·rename_i key f args res ok Fb;split at h
   ·split at h
    ·rename_i f' args' hc;split at h
     ·rename_i qA;injection h with h;injection h with h1 h;injection h with h2 h3;subst h1;subst h3;simp only[dr,bB]at qA;have e1:oR.nat f'=.nat f:=hs _ (aT ..);have e2:oR.eU args'=.eU args:=hs _ (bF _ (aT ..));injection e1 with e1;injection e2 with e2;subst e1;subst e2;exact⟨aIb aC hc qA.1.1 qA.1.2 qA.2 ok,λp hp=>(by cases hp),λp hp=>(by cases hp)⟩
     ·cases h
    ·cases h
   ·exact auto h
  ·rename_i key v v' ok Fb;split at h
   ·split at h
    ·rename_i e' he;injection h with h;injection h with h1 h;injection h with h2 h3;subst h1;subst h3;have e1:oR.eU [e'.val]=.eU [v]:=hs _ (aT ..);injection e1 with e1;injection e1 with e1 _;obtain⟨q1,q2⟩:=Ze (B:=B) aC he;rw[e1,ok]at q1;exact⟨q1.step,q2⟩
    ·cases h
   ·exact auto h
  ·exact auto h
 ·cases h
def Ke(fr:aX)(d:Option Nat)(v:i_):aX:=match d with|some t=>(t,v)::fr|none=>fr
def NL(fr:aX)(ops:Array Oper)(j:Nat):Option Bool:=
 match (ops[j]?).bind (·.dst)with
 |some t=>match bJ fr t with|.bool b=>some b|_=>none
 |none=>none
def Dc(fr:aX)(ops:Array Oper)(o:Oper):Bool:=
 match o.guard with
 |none=>true
 |some (j,want)=>match NL fr ops j with|some b=>b==want|none=>false
def Dd(N:Nat)(fr:aX)(ops:Array Oper)(o:Oper):Bool:=
 (match o.guard with
 |none=>true
 |some (j,_)=>match (ops[j]?).bind (·.dst)with|some t=>flat (bJ fr t)&&!mK (bJ fr t)&&Nat.blt t N|none=>true)&&
 (match o.dst with|some d=>Nat.blt d N|none=>true)
theorem SH(fr:aX)(d:Option Nat)(v:i_)(t:Nat):bJ (Ke fr d v) t=if d=some t then v else bJ fr t:=by
 cases d with
 |none=>rfl
 |some s=>
  show(if Nat.beq s t then v else bJ fr t)=_;by_cases h:s=t
  ·subst h;simp
  ·rw[oQ h];simp[h]
theorem fR.put{B:aa}(hle:Map.le ι κ){Zm:Nat->Value}{N:Nat}{a:Act}(h:fR B ι look N a){v:i_}(hv:n9 κ v v')(d:Option Nat)(hd:∀ t,d=some t->t<N)
  (hl:∀ t,Zm t=if d=some t then v else look t):fR B κ Zm N (a.put d v'):=by
 refine⟨by cases d<;>exact h.defers,by cases d<;>simp[Act.put,h.size],λt=>?_⟩;rw[hl t];by_cases Fc:d=some t
 ·rw[aB Fc];subst Fc;have:t<a.tmps.size:=by rw[h.size];exact hd t rfl
  have e:(a.put (some t) v').tmps.getD t undef=v':=by simp[Act.put,qC,this]
  rw[e];exact hv
 ·rw[av Fc];have e:(a.put d v').tmps.getD t undef=a.tmps.getD t undef:=by
   cases d with
   |none=>rfl
   |some s=>
    have:s≠t:=λe=>Fc (by rw[e]);simp[Act.put,qC,SI this]
  rw[e];exact(h.slot t).mono hle
theorem SJ(a:Act)(d:Option Nat)(v:i_){t:Nat}(h:d≠some t):(a.put d v).tmps.getD t undef=a.tmps.getD t undef:=by
 cases d with
 |none=>rfl
 |some s=>
  have:s≠t:=λe=>h (by rw[e]);simp[Act.put,qC,SI this]
theorem aIc{B:aa}{fr:aX}{N:Nat}{a:Act}(h:fR B ι look N a)(ops:Array Oper)(j:Nat)
  (hn:∀ t,(ops[j]?).bind (·.dst)=some t->look t=bJ fr t/\flat (bJ fr t)=true/\mK (bJ fr t)=false/\t<N):yielded ops a.tmps j=NL fr ops j:=by
 unfold yielded NL;cases hd:(ops[j]?).bind (·.dst)with
 |none=>rfl
 |some t=>
  simp only[Zn];obtain⟨h1,cR,h2,h3⟩:=hn t hd;have al:t<a.tmps.size:=by rw[h.size];exact h3
  have hs:=h.slot t;rw[h1]at hs;have hs:=(hs.Bp h2).eZ cR;rw[show a.tmps.getD t undef=a.tmps[t]by simp[qC,al]]at hs;rw[zt al,hs];cases bJ fr t<;>rfl
theorem Zo{B:aa}{fr:aX}{N:Nat}{a:Act}(h:fR B ι look N a)(ops:Array Oper)(o:Oper)(hg:Dd N fr ops o=true)
  (hl:∀ j b,o.guard=some (j,b)->∀ t,(ops[j]?).bind (·.dst)=some t->look t=bJ fr t):Region.wanted o (yielded ops a.tmps)=Dc fr ops o:=by
 unfold Region.wanted Dc;unfold Dd at hg;simp only[dr]at hg;have hg:=hg.1;cases oS:o.guard with
 |none=>rfl
 |some gd=>
  obtain⟨j,want⟩:=gd;rw[oS]at hg;dsimp only at hg ⊢;rw[aIc h ops j λt ht=>by rw[ht]at hg;simp only[dr,zr]at hg;exact⟨hl j want oS t ht,hg.1.1,hg.1.2,by simpa[BB]using hg.2⟩]
  cases NL fr ops j with
  |none=>rfl
  |some b=>cases b<;>cases want<;>rfl
theorem Zp{N:Nat}{fr:aX}{ops:Array Oper}{o:Oper}(hg:Dd N fr ops o=true):∀ t,o.dst=some t->t<N:=by intro t ht;unfold Dd at hg;simp only[dr]at hg;have:=hg.2;rw[ht]at this;simpa[BB]using this
def BC(next:Nat)(cZ:aL):Nat:=cZ.foldl (λn p=>if Nat.ble n p.1 then p.1+1 else n) next
theorem HF:∀(cZ:aL) (next:Nat),next<=BC next cZ
 |[],next=>bC _
 |p::l,next=>by
  show next<=BC (if Nat.ble next p.1 then p.1+1 else next) l;refine dq ?_ (HF l _);split
  ·rename_i h;have:=sF h;omega
  ·exact bC _
theorem Zq:∀(cZ:aL) (next:Nat),∀ p∈cZ,p.1<BC next cZ
 |q::l,next,p,hp=>by
  show p.1<BC (if Nat.ble next q.1 then q.1+1 else next) l;rcases cC.1 hp with rfl|hp
  ·refine cG ?_ (HF l _);split
   ·omega
   ·rename_i h;rcases e7 p.1 next with h1|h1
    ·exact h1
    ·exact absurd (NM h1) h
  ·exact Zq l _ p hp
theorem SK{cc:Nat->Option Obj}{M:aL}{next:Nat}{e:rz}(hn:Da (ag M) next e)(ha:cY cc M)(hu:eF cc next):
  (∀ p∈e.need,cc p.1=p.2)/\cY (l9 cc e.cZ) (e.cZ++M)/\eF (l9 cc e.cZ) (BC next e.cZ)/\(∀ k,k<next->ag M k=none->ag (e.cZ++M) k=none/\l9 cc e.cZ k=cc k):=by
 refine⟨λp hp=>?_,λk x hk=>?_,λk hk=>?_,λk hk hM=>?_⟩
 ·rcases hn.1 p hp with ⟨x,h1,h2⟩|⟨h1,h2⟩
  ·rw[h1];exact ha _ _ h2
  ·rw[h1];exact hu _ h2
 ·rw[iH]at hk;rw[wB];cases h:ag e.cZ k with
  |some y=>rw[h]at hk;exact hk
  |none=>rw[h]at hk;exact ha k x hk
 ·rw[wB];cases h:ag e.cZ k with
  |some y=>have:=Zq e.cZ next _ (kD h);dsimp only at this;omega
  |none=>exact hu k (dq (HF _ _) hk)
 ·have:ag e.cZ k=none:=by
   cases h:ag e.cZ k with
   |none=>rfl
   |some y=>
    exfalso;obtain⟨q,hq,xC⟩:=hn.2 _ (kD h);dsimp only at xC;rcases hn.1 q hq with ⟨x,h1,h2⟩|⟨h1,h2⟩
    ·rw[xC,hM]at h2;cases h2
    ·omega
  exact⟨by rw[iH,this];exact hM,by rw[wB,this]⟩
structure rE(P:j_)(B:aa)(N:Nat) where
 fr:aX
 M:aL
 next:Nat
 rs:bM P B N
 tr:wC
 od:List (List Nat×List Nat)
def keys(l:List (Nat×α)):List Nat:=l.map (·.1)
def rE.more{P:j_}{B:aa}{N:Nat}(r:rE P B N)(tr:wC)(e:List Nat×List Nat):rE P B N:=⟨r.fr,r.M,r.next,r.rs,tr++r.tr,e::r.od⟩
def zu{P:j_}{B:aa}{N:Nat}(ops:Array Oper):List Oper->aX->aL->Nat->bM P B N->Option (rE P B N)
 |[],fr,M,next,rs=>some ⟨fr,M,next,rs,[],[]⟩
 |o::l,fr,M,next,rs=>
  if Dd N fr ops o then
   if Dc fr ops o then
    match SF (P:=P) (bJ fr) (ag M) next o rs with
    |some (e,Fb,Fe)=>match zu ops l (Ke fr o.dst e.val) (e.cZ++M) (BC next e.cZ) Fb with
     |some r=>some (r.more Fe (keys e.need,keys e.cZ))
     |none=>none
    |none=>none
   else match zu ops l (Ke fr o.dst undef) M next rs with
    |some r=>some (r.more [] ([],[]))
    |none=>none
  else none
def xD(l:List Oper)(t:Nat):Bool:=l.any λo=>match o.dst with|some d=>Nat.beq d t|none=>false
theorem Zr{o:Oper}{l:List Oper}{t:Nat}(h:xD (o::l) t=false):o.dst≠some t/\xD l t=false:=by unfold xD at h;rw[List.any_cons,NN]at h;refine⟨λe=>?_,h.2⟩;rw[e]at h;simp at h
def SL{P:j_}(B:aa)(N:Nat)(cc:Nat->Option Obj)(M:aL)(next:Nat)(ι:Map)(a:Act)(wr:Nat->Bool)(r:rE P B N)(K:Act->World->Prop):Prop:=
 ∀ az cr a' w',Map.le ι az->fR B az (bJ r.fr) N a'->aO B az cr w'->cY cr r.M->eF cr r.next->(∀ k,k<next->ag M k=none->cr k=cc k)->
  (∀ t,wr t=false->a'.tmps.getD t undef=a.tmps.getD t undef)->K a' w'
theorem SM{R:Option Nat}{P:j_}{B:aa}{N:Nat}{ops:Array Oper}{Q:Exit->Act->World->Prop}:∀(l:List Oper) {fr:aX} {M:aL} {next:Nat} {rs:bM P B N} {r:rE P B N} {ι:Map} {cc:Nat->Option Obj} {a:Act} {w:h_},
  zu ops l fr M next rs=some r->sH r.tr->fR B ι (bJ fr) N a->aO B ι cc w->cY cc M->eF cc next->
  SL B N cc M next ι a (xD l) r (Q .normal)->wpListIn (FW R) 0 P ops Q l a w
 |[],fr,M,next,rs,r,ι,cc,a,w,h,_,hf,hm,ha,hu,hQ=>by injection h with h;subst h;exact hQ ι cc a w (Map.le.refl _) hf hm ha hu (λ_ _ _=>rfl) (λ_ _=>rfl)
 |o::l,fr,M,next,rs,r,ι,cc,a,w,h,hs,hf,hm,ha,hu,hQ=>by
  unfold zu at h;unfold wpListIn;by_cases oS:Dd N fr ops o=true
  case neg=>rw[av oS]at h;cases h
  rw[aB oS]at h;have De:=Zp oS;rw[Zo hf ops o oS λ_ _ _ _ _=>rfl];split at h
  ·rename_i hw;rw[aB hw];split at h
   ·rename_i e Fb Fe bP;split at h
    ·rename_i r2 vk;injection h with h;subst h;have tY:sH Fe:=λp hp=>hs p (eW.2 (.inl hp));have Kf:sH r2.tr:=λp hp=>hs p (eW.2 (.inr hp));obtain⟨aC,wD,pk⟩:=SG (B:=B) bP tY;simp only[Bv,dr,bB,zr]at aC;obtain⟨q1,q2,q3,q4⟩:=SK pk ha hu;refine(wD R ι cc a w (SE hf _ λx hx=>aC.1 x hx) hm q1 _ _ λaz v' w' hle hv bE=>?_);refine SM l vk Kf (hf.put hle (.inr hv) o.dst De λt=>SH _ _ _ _) bE q2 q3 λdP rF a2 w2 lk jd dH gV e6 fP sI=>?_;refine hQ dP rF a2 w2 (hle.trans lk) jd dH gV e6 (λk hk hM=>?_) λt ht=>?_
     ·obtain⟨q5,q6⟩:=q4 k hk hM;rw[fP k (cG hk (HF _ _)) q5,q6]
     ·obtain⟨t1,t2⟩:=Zr ht;rw[sI t t2,SJ _ _ _ t1]
    ·cases h
   ·cases h
  ·rename_i hw;rw[av hw];split at h
   ·rename_i r2 vk;injection h with h;subst h;refine⟨λ_ _=>trivial,?_⟩;refine SM l vk (λp hp=>hs p (eW.2 (.inr hp))) (hf.put (Map.le.refl _) (v:=undef) (v':=undef) (.inr (.same rfl)) o.dst De λt=>SH _ _ _ _) hm ha hu λdP rF a2 w2 lk jd dH gV e6 fP sI=>?_;refine hQ dP rF a2 w2 lk jd dH gV e6 fP λt ht=>?_;obtain⟨t1,t2⟩:=Zr ht;rw[sI t t2,SJ _ _ _ t1]
   ·cases h
theorem aId{R:Option Nat}{P:j_}{ops:Array Oper}{Q:Exit->Act->World->Prop}(Inv:(Nat->Bool)->Act->World->Prop)
  (aIe:∀ i o,ops[i]?=some o->∀ e∈o.after,Region.binds .any e=true->e.on<i)
  (step:∀ L a w i o,Inv L a w->ops[i]?=some o->L i=false->(∀ e∈o.after,Region.binds .any e=true->L e.on=true)->wpOpIn (FW R) 0 P ops Q i (λa' w'=>Inv (λj=>L j||j==i) a' w') a w)
  (fin:∀ L a w,(∀ i,i<ops.size->L i=true)->Inv L a w->Q .normal a w)
  (aIf:∀ L L' a w,(∀ j,L j=L' j)->Inv L a w->Inv L' a w) :
  ∀(fuel:Nat) (listed:Array Bool) (a:Act) (w:h_),listed.size=ops.size->(listed.toList.countP (λb=>b=false))=fuel->Inv (λj=>listed.getD j false) a w->
   wpAnyIn (FW R) 0 P .any ops Q fuel listed a w:=by
 have aIg:∀ listed:Array Bool,listed.size=ops.size->Region.ready .any ops listed=[]->∀ i,i<ops.size->listed.getD i false=true:=by
  intro listed bH hr i;induction i using Nat.strongRecOn with
  |_ i ih=>
   intro hi;cases h:listed.getD i false with
   |true=>rfl
   |false=>
    exfalso;have:i∈Region.ready .any ops listed:=by
     rw[mem_ready];refine⟨?_,ops[i],zt hi,λe he hb=>?_⟩
     ·have gu:i<listed.size:=by omega
      simp[qC,gu]at h ⊢;exact h
     ·have:=aIe i ops[i] (zt hi) e he hb;exact ih e.on this o_
    rw[hr]at this;cases this
 intro fuel;induction fuel with
 |zero=>
  intro listed a w bH hc hI;have bh:∀ i,i<ops.size->listed.getD i false=true:=by
   intro i hi;have gu:i<listed.size:=by omega
   have h0:=List.countP_eq_zero.1 hc listed[i] s_;simp[qC,gu];simpa using h0
  refine⟨?_,fin _ a w bh hI⟩;cases hr:Region.ready .any ops listed with
  |nil=>rfl
  |cons i l=>
   have:i∈Region.ready .any ops listed:=by rw[hr];exact aT ..
   rw[mem_ready]at this;obtain⟨h1,o,ho,_⟩:=this;have hi:i<ops.size:=by
    rcases e7 i ops.size with h|h
    ·exact h
    ·rw[Zs h]at ho;cases ho
   have h2:=bh i hi;have gu:i<listed.size:=by omega
   simp[qC,gu]at h1 h2;rw[h1]at h2;cases h2
 |succ fuel ih=>
  intro listed a w bH hc hI;refine⟨λhr=>fin _ a w (aIg listed bH hr) hI,λi hi=>?_⟩;rw[mem_ready]at hi;obtain⟨h1,o,ho,bh⟩:=hi;have hi:i<ops.size:=by
   rcases e7 i ops.size with h|h
   ·exact h
   ·rw[Zs h]at ho;cases ho
  have gu:i<listed.size:=by omega
  have pj:listed.getD i false=false:=by simp[qC,gu]at h1 ⊢;exact h1
  refine wpOpIn_mono (λa' w' h=>?_) (step _ a w i o hI ho pj bh);refine ih (listed.setIfInBounds i true) a' w' (by simp[bH]) ?_ (aIf _ _ a' w' (λj=>?_) h)
  ·have al:i<listed.toList.length:=by simpa using gu
   have Kg:listed.toList[i]=false:=by simp[qC,gu]at pj;simpa using pj
   rw[aIh];have key:∀(l:List Bool) (i:Nat) (h:i<l.length),l[i]=false->(l.set i true).countP (λb=>b=false)+1=l.countP (λb=>b=false):=by
    intro l;induction l with
    |nil=>intro i h;simp at h
    |cons b l ih=>
     intro i h hb;cases i with
     |zero=>simp at hb;subst hb;simp
     |succ i=>
      simp at hb h;have:=ih i h hb;simp only[List.set_cons_succ,List.countP_cons];omega
   have:=key listed.toList i al Kg;omega
  ·by_cases oT:j=i
   ·subst oT;simp[qC,gu]
   ·have:(listed.setIfInBounds i true).getD j false=listed.getD j false:=by simp[qC,SI (kR oT)]
    rw[this];simp[oT]
def Kh(acc:l_)(o:Oper):Nat:=o.after.toList.foldl (λs e=>if Region.binds .any e then s||| (2^e.on||| acc.getD e.on 0)else s) 0
def Df:List Oper->List Nat->List Nat
 |[],acc=>acc
 |o::l,acc=>Df l (acc++[Kh acc o])
def Ki(o:Oper):List Nat:=o.op.operands.toList.filterMap λ| .tmp t=>some t|_=>none
theorem Zt(acc:l_):∀(es:List Edge) (s j:Nat),(es.foldl (λs e=>if Region.binds .any e then s||| (2^e.on||| acc.getD e.on 0)else s) s).testBit j=true->
  s.testBit j=true\/∃ e∈es,Region.binds .any e=true/\(e.on=j\/(acc.getD e.on 0).testBit j=true)
 |[],s,j,h=>.inl h
 |e::es,s,j,h=>by
  rw[wE]at h;rcases Zt acc es _ j h with h|⟨e',pT,h⟩
  ·by_cases hb:Region.binds .any e=true
   ·rw[aB hb,Zu,Zu,Nat.testBit_two_pow]at h;simp only[vl,tZ]at h;rcases h with h|h|h
    ·exact .inl h
    ·exact .inr ⟨e,aT ..,hb,.inl h⟩
    ·exact .inr ⟨e,aT ..,hb,.inr h⟩
   ·rw[av hb]at h;exact .inl h
  ·exact .inr ⟨e',bF _ pT,h⟩
def Zv(ops:List Oper)(acc:l_):Prop:=
 ∀ k,k<acc.length->∀ j,(acc.getD k 0).testBit j=true->∃ o,ops[k]?=some o/\∃ e∈o.after,Region.binds .any e=true/\(e.on=j\/(acc.getD e.on 0).testBit j=true)
theorem Zw:∀(l pre:List Oper) (acc:l_),acc.length=pre.length->Zv (pre++l) acc->
  (∀ i o,(pre++l)[i]?=some o->∀ e∈o.after,Region.binds .any e=true->e.on<i)->Zv (pre++l) (Df l acc)/\(Df l acc).length=(pre++l).length
 |[],pre,acc,hl,hg,_=>⟨hg,by simp[Df,hl]⟩
 |o::l,pre,acc,hl,hg,hd=>by
  have e:pre++o::l=(pre++[o])++l:=by simp
  rw[e]at hg hd ⊢;refine Zw l (pre++[o]) (acc++[Kh acc o]) (by simp[hl]) ?_ hd;have da:∀ k,k<acc.length->(acc++[Kh acc o]).getD k 0=acc.getD k 0:=λk hk=>by rw[Ff,Ff,Kj hk]
  intro k hk j hj;rcases e7 k acc.length with al|ep
  ·rw[da k al]at hj;obtain⟨o',sJ,e',pT,hb,h⟩:=hg k al j hj;refine⟨o',sJ,e',pT,hb,?_⟩;rcases h with h|h
   ·exact .inl h
   ·right;have:e'.on<k:=hd k o' sJ e' pT hb;rw[da _ o_];exact h
  ·have gN:k=acc.length:=by simp at hk;omega
   subst gN;have ho:((pre++[o])++l)[acc.length]?=some o:=by rw[hl];simp
   have hm:(acc++[Kh acc o]).getD acc.length 0=Kh acc o:=by rw[Ff,Fg (bC _)];simp
   rw[hm]at hj;rcases Zt acc o.after.toList 0 j hj with h|⟨e',pT,hb,h⟩
   ·simp at h
   ·have pT:e'∈o.after:=NI.1 pT;refine⟨o,ho,e',pT,hb,?_⟩;rcases h with h|h
    ·exact .inl h
    ·right;have:e'.on<acc.length:=hd acc.length o ho e' pT hb;rw[da _ this];exact h
def iy{α:Type}(u:Nat->Nat->Option α)(c0:Nat->α)(L:Nat->Bool):Nat->Nat->α
 |0,k=>c0 k
 |i+1,k=>if L i then(match u i k with|some x=>x|none=>iy u c0 L i k)else iy u c0 L i k
theorem Zx(u:Nat->Nat->Option α)(c0:Nat->α)(L:Nat->Bool)(i k:Nat):iy u c0 L (i+1) k=if L i then(match u i k with|some x=>x|none=>iy u c0 L i k)else iy u c0 L i k:=rfl
theorem SN{u:Nat->Nat->Option α}{c0:Nat->α}{L:Nat->Bool}{k i:Nat}:∀(n:Nat),i<=n->(∀ j,j<n->u j k≠none->(L j=true↔j<i))->iy u c0 L n k=iy u c0 (λ_=>true) i k:=by
 have below:∀ m,m<=i->(∀ j,j<m->u j k≠none->L j=true)->iy u c0 L m k=iy u c0 (λ_=>true) m k:=by
  intro m;induction m with
  |zero=>intro _ _;rfl
  |succ m ih=>
   intro hm h;show(if L m then _ else _)=(if true then _ else _);have ih:=ih o_ λj hj=>h j o_;cases hu:u m k with
   |none=>simp only[ih];simp
   |some x=>rw[h m o_ (by rw[hu];exact n_)];rfl
 intro n;induction n with
 |zero=>
  intro hi _;have:i=0:=by omega
  subst this;rfl
 |succ n ih=>
  intro hi h;rcases e7 n i with al|ep
  ·have:i=n+1:=by omega
   subst this;exact below (n+1) (bC _) λj hj hu=>(h j hj hu).2 hj
  ·have ih:=ih ep λj hj=>h j o_;show(if L n then _ else _)=_;cases hu:u n k with
   |none=>simp only[ih];simp
   |some x=>
    have:L n=false:=by
     cases hL:L n with
     |false=>rfl
     |true=>have:=(h n o_ (by rw[hu];exact n_)).1 hL;omega
    rw[this,ih];rfl
theorem Zy{u:Nat->Nat->Option α}{c0:Nat->α}{L:Nat->Bool}{i k:Nat}(hi:L i=false)(hk:∀ j,j<m->i<j->L j=true->u i k≠none->u j k=none):
  ∀(n:Nat),n<=m->i<n->iy u c0 (λj=>L j||j==i) n k=match u i k with|some x=>x|none=>iy u c0 L n k:=by
 have before:∀ m,m<=i->iy u c0 (λj=>L j||j==i) m k=iy u c0 L m k:=by
  intro m;induction m with
  |zero=>intro _;rfl
  |succ m ih=>
   intro hm;show(if(L m||m==i)then _ else _)=(if L m then _ else _);rw[ih o_];have:(m==i)=false:=by simp;omega
   rw[this,Bool.or_false]
 intro n;induction n with
 |zero=>intro _ h;omega
 |succ n ih=>
  intro kE h;show(if(L n||n==i)then(match u n k with|some x=>x|none=>iy u c0 (λj=>L j||j==i) n k)else iy u c0 (λj=>L j||j==i) n k)=match u i k with|some x=>x|none=>(if L n then(match u n k with|some x=>x|none=>iy u c0 L n k)else iy u c0 L n k)
  rcases e7 i n with al|ep
  ·rw[ih o_ al];have e:(n==i)=false:=by simp;omega
   rw[e,Bool.or_false];cases hL:L n with
   |false=>simp
   |true=>
    cases hu:u i k with
    |none=>rfl
    |some x=>rw[hk n o_ al hL (by rw[hu];exact n_)];rfl
  ·have:i=n:=by omega
   subst this;rw[before i (bC _),hi];simp
def NO(ops:List Oper)(o:Oper):List Nat:=match o.guard with
 |some (j,_)=>match (ops[j]?).bind (·.dst)with|some t=>[t]|none=>[]
 |none=>[]
def SO(ops:List Oper)(o:Oper)(t:Nat):Bool:=(Ki o++NO ops o).any λs=>Nat.beq s t
def NP(l m:l_):Bool:=l.any λa=>m.any λb=>Nat.beq a b
def xE(ops:List Oper)(o:Oper)(e:List Nat×List Nat)(p:Oper)(f:List Nat×List Nat):Bool:=
 (match p.dst with|some t=>SO ops o t||(match o.dst with|some d=>Nat.beq d t|none=>false)|none=>false)||NP f.2 e.1
def Fh(ops:List Oper)(od:List (List Nat×List Nat)):Bool:=
 (List.range ops.length).all λi=>match ops[i]?,od[i]? with
  |some o,some e=>(o.after.toList.all λg=>!Region.binds .any g||Nat.blt g.on i)&&
   (List.range i).all λj=>Nat.testBit ((Df ops []).getD i 0) j||(match ops[j]?,od[j]? with|some p,some f=>!xE ops o e p f&&!xE ops p f o e|_,_=>false)
  |_,_=>false
section
variable{P:j_}{B:aa}{N:Nat}{ops:Array Oper}
structure SP(P:j_)(B:aa)(N:Nat)(ops:Array Oper)(l:List Oper)(fr:aX)(M:aL)(next:Nat)(r:rE P B N) where
 sK:Nat->aX
 Ms:Nat->aL
 BD:Nat->Nat
 es:Nat->rz
 Zz:sK 0=fr
 SQ:Ms 0=M
 SR:BD 0=next
 ZA:sK l.length=r.fr
 ZB:Ms l.length=r.M
 ZC:BD l.length=r.next
 od:∀ i,i<l.length->r.od[i]?=some (keys (es i).need,keys (es i).cZ)
 step:∀ i o,l[i]?=some o->Dd N (sK i) ops o=true/\sK (i+1)=Ke (sK i) o.dst (es i).val/\Ms (i+1)=(es i).cZ++Ms i/\BD (i+1)=BC (BD i) (es i).cZ/\Da (ag (Ms i)) (BD i) (es i)/\
  ((Dc (sK i) ops o=true/\Bv (bJ (sK i)) o=true/\cI P B o (o.op.operands.toList.map (gE (bJ (sK i)))) (es i).need (es i).val (es i).cZ)\/(Dc (sK i) ops o=false/\es i=⟨undef,[],[]⟩))
theorem SS:∀(l:List Oper) {fr:aX} {M:aL} {next:Nat} {rs:bM P B N} {r:rE P B N},zu ops l fr M next rs=some r->sH r.tr->Nonempty (SP P B N ops l fr M next r)
 |[],fr,M,next,rs,r,h,_=>by injection h with h;subst h;exact⟨⟨λ_=>fr,λ_=>M,λ_=>next,λ_=>⟨undef,[],[]⟩,rfl,rfl,rfl,rfl,rfl,rfl,λi hi=>by simp at hi,λi o h=>by simp at h⟩⟩
 |o::l,fr,M,next,rs,r,h,hs=>by
  unfold zu at h;by_cases oS:Dd N fr ops o=true
  case neg=>rw[av oS]at h;cases h
  rw[aB oS]at h;have build:∀(e:rz) (r2:rE P B N) (tr:wC),r=r2.more tr (keys e.need,keys e.cZ)->Da (ag M) next e->Nonempty (SP P B N ops l (Ke fr o.dst e.val) (e.cZ++M) (BC next e.cZ) r2)->
    ((Dc fr ops o=true/\Bv (bJ fr) o=true/\cI P B o (o.op.operands.toList.map (gE (bJ fr))) e.need e.val e.cZ)\/(Dc fr ops o=false/\e=⟨undef,[],[]⟩))->Nonempty (SP P B N ops (o::l) fr M next r):=by
   rintro e r2 tr rfl aQ ⟨T⟩ bP
   refine⟨⟨λi=>match i with|0=>fr|i+1=>T.sK i,λi=>match i with|0=>M|i+1=>T.Ms i,λi=>match i with|0=>next|i+1=>T.BD i,λi=>match i with|0=>e|i+1=>T.es i,rfl,rfl,rfl,T.ZA,T.ZB,T.ZC,λi hi=>?_,λi o' ho=>?_⟩⟩
   ·cases i with
    |zero=>rfl
    |succ i=>exact T.od i (by simpa using hi)
   ·cases i with
    |zero=>
     simp at ho;subst ho;exact⟨oS,T.Zz,T.SQ,T.SR,aQ,bP⟩
    |succ i=>exact T.step i o' (by simpa using ho)
  split at h
  ·rename_i hw;split at h
   ·rename_i e Fb Fe bP;split at h
    ·rename_i r2 vk;injection h with h;have pU:sH Fe/\sH r2.tr:=by subst h;exact⟨λp hp=>hs p (eW.2 (.inl hp)),λp hp=>hs p (eW.2 (.inr hp))⟩
     obtain⟨aC,wD,pk⟩:=SG (B:=B) bP pU.1;exact build e r2 Fe h.symm pk (SS l vk pU.2) (.inl ⟨hw,aC,wD⟩)
    ·cases h
   ·cases h
  ·rename_i hw;split at h
   ·rename_i r2 vk;injection h with h;have pU:sH r2.tr:=by subst h;exact λp hp=>hs p (eW.2 (.inr hp))
    exact build ⟨undef,[],[]⟩ r2 [] h.symm ⟨λp hp=>(by cases hp),λp hp=>(by cases hp)⟩ (SS l vk pU) (.inr ⟨by simpa using hw,rfl⟩)
   ·cases h
def NQ(ops:List Oper)(L:Nat->Bool):Prop:=∀ i o,ops[i]?=some o->L i=true->∀ e∈o.after,Region.binds .any e=true->L e.on=true
theorem HG{l:List α}{i:Nat}{x:α}(h:l[i]?=some x):i<l.length:=by
 rcases e7 i l.length with h1|h1
 ·exact h1
 ·rw[Br h1]at h;cases h
theorem SV{l:List Oper}{od:List (List Nat×List Nat)}(h:Fh l od=true){i:Nat}{o:Oper}(ho:l[i]?=some o):∀ e∈o.after,Region.binds .any e=true->e.on<i:=by
 intro e he hb;unfold Fh at h;rw[bB]at h;have:=h i (jT.2 (HG ho));rw[ho]at this;split at this
 ·rename_i o' e' h1 h2;injection h1 with h1;subst h1;simp only[dr,bB]at this;have:=this.1 e (NI.2 he);rw[hb]at this;simpa[BB]using this
 ·cases this
theorem ZD{l:List Oper}{od:List (List Nat×List Nat)}(h:Fh l od=true){i:Nat}{o p:Oper}{e f:List Nat×List Nat}(ho:l[i]?=some o)(he:od[i]?=some e)(hp:l[j]?=some p)(hf:od[j]?=some f)(hj:j<i):
  ((Df l []).getD i 0).testBit j=true\/(xE l o e p f=false/\xE l p f o e=false):=by
 unfold Fh at h;rw[bB]at h;have:=h i (jT.2 (HG ho));rw[ho,he]at this;dsimp only at this;simp only[dr,bB]at this;have:=this.2 j (jT.2 hj);rw[hp,hf]at this;simpa using this
theorem ZE{l:List Oper}{od:List (List Nat×List Nat)}(h:Fh l od=true){L:Nat->Bool}(hL:NQ l L):∀(i:Nat) (o:Oper),l[i]?=some o->(∀ e∈o.after,Region.binds .any e=true->L e.on=true)->
  ∀ j,((Df l []).getD i 0).testBit j=true->L j=true/\j<i:=by
 obtain⟨hg,hlen⟩:=Zw l [] [] rfl (λk hk=>by simp at hk) (λi o ho e he hb=>SV h (by simpa using ho) e he hb);simp only[jg]at hg hlen;intro i;induction i using Nat.strongRecOn with
 |_ i ih=>
  intro o ho hd j hj;have hi:i<(Df l []).length:=by rw[hlen];exact HG ho
  obtain⟨o',sJ,e,he,hb,lO⟩:=hg i hi j hj;rw[ho]at sJ;injection sJ with sJ;subst sJ;have al:=SV h ho e he hb;have ZF:=hd e he hb;rcases lO with rfl|lO
  ·exact⟨ZF,al⟩
  ·have aIi:e.on<l.length:=by
    have:i<l.length:=by rw[<-hlen];exact hi
    omega
   have ZG:=bo aIi;obtain⟨h1,h2⟩:=ih e.on al _ ZG (λe' pT jU=>hL e.on _ ZG ZF e' pT jU) j lO;exact⟨h1,by omega⟩
theorem ZH{l m:l_}(h1:a∈l)(h2:a∈m):NP l m=true:=by unfold NP;rw[rD];refine⟨a,h1,?_⟩;rw[rD];exact⟨a,h2,by simp⟩
theorem aIj{l:List Oper}{o:Oper}{t:Nat}(h:t∈Ki o++NO l o):SO l o t=true:=by unfold SO;rw[rD];exact⟨t,h,by simp⟩
theorem SX{l:List (Nat×α)}{p:Nat×α}(h:p∈l):p.1∈keys l:=db.2 ⟨p,h,rfl⟩
theorem aIk{o:Oper}{t:Nat}(h:Operand.tmp t∈o.op.operands):t∈Ki o:=by unfold Ki;exact Zl.2 ⟨.tmp t,NI.2 h,rfl⟩
def uS(ops:List Oper)(es:Nat->rz)(j t:Nat):Option Value:=match (ops[j]?).bind (·.dst)with|some d=>if d=t then some (es j).val else none|none=>none
def uM(es:Nat->rz)(j k:Nat):Option (Option Obj):=match ag (es j).cZ k with|some x=>some (some x)|none=>none
theorem ZI{es:Nat->rz}{i:Nat}(k:Nat):l9 c (es i).cZ k=match uM es i k with|some x=>x|none=>c k:=by rw[wB];unfold uM;cases ag (es i).cZ k<;>rfl
theorem SY{es:Nat->rz}{i k:Nat}(h:uM es i k≠none):k∈keys (es i).cZ:=by
 unfold uM at h;cases hk:ag (es i).cZ k with
 |none=>rw[hk]at h;exact absurd rfl h
 |some x=>exact SX (kD hk)
theorem SZ{l:List Oper}{es:Nat->rz}{t:Nat}(h:uS l es j t≠none):∃ p,l[j]?=some p/\p.dst=some t:=by
 unfold uS at h;cases hp:l[j]? with
 |none=>rw[hp]at h;exact absurd rfl h
 |some p=>
  rw[hp]at h;simp only[Zn]at h;cases hd:p.dst with
  |none=>rw[hd]at h;exact absurd rfl h
  |some d=>
   rw[hd]at h;dsimp only at h;by_cases Fc:d=t
   ·exact⟨p,rfl,by rw[hd,Fc]⟩
   ·rw[av Fc]at h;exact absurd rfl h
theorem ZJ{l:List Oper}{es:Nat->rz}{t:Nat}{p:Oper}(hp:l[j]?=some p):uS l es j t=if p.dst=some t then some (es j).val else none:=by
 unfold uS;rw[hp];simp only[Zn];cases p.dst with
 |none=>rfl
 |some d=>by_cases h:d=t<;>simp[h]
theorem aIl{R:Option Nat}{fr:aX}{M:aL}{next:Nat}{rs:bM P B N}{r:rE P B N}{cc:Nat->Option Obj}{Q:Exit->Act->World->Prop}{a:Act}{w:h_}{id:Nat}(gW:P.follows .mixedOrders=true)
  (hs:zu ops ops.toList fr M next rs=some r) (Bq:sH r.tr) (h:Fh ops.toList r.od=true) (hf:fR B ι (bJ fr) N a) (hm:aO B ι cc w) (ha:cY cc M) (hu:eF cc next)
  (hQ:SL B N cc M next ι a (xD ops.toList) r (Q .normal)):(Code.region id ops true).wpIn (FW R) 0 P Q a w:=by
 obtain⟨T⟩:=SS _ hs Bq;have zi:ops.size=ops.toList.length:=by simp
 have Kg:∀(i:Nat),ops[i]?=ops.toList[i]?:=λi=>by simp
 generalize hn:ops.toList.length=n at *
 -- the order of the text
 have text:∀ i,i<=n->(∀ t,bJ (T.sK i) t=iy (uS ops.toList T.es) (bJ fr) (λ_=>true) i t)/\cY (iy (uM T.es) cc (λ_=>true) i) (T.Ms i)/\eF (iy (uM T.es) cc (λ_=>true) i) (T.BD i)/\next<=T.BD i/\
   (∀ k,k<next->ag M k=none->ag (T.Ms i) k=none/\iy (uM T.es) cc (λ_=>true) i k=cc k):=by
  intro i;induction i with
  |zero=>intro _;exact⟨λt=>by rw[T.Zz];rfl,by rw[T.SQ];exact ha,by rw[T.SR];exact hu,by rw[T.SR];exact bC _,λk _ hk=>⟨by rw[T.SQ];exact hk,rfl⟩⟩
  |succ i ih=>
   intro hi;obtain⟨h1,h2,h3,h4,h5⟩:=ih o_;have ho:=bo (l:=ops.toList) (i:=i) o_;obtain⟨_,s2,s3,s4,s5,_⟩:=T.step i _ ho;obtain⟨q1,q2,q3,q4⟩:=SK s5 h2 h3;have e:iy (uM T.es) cc (λ_=>true) (i+1)=l9 (iy (uM T.es) cc (λ_=>true) i) (T.es i).cZ:=funext λk=>by rw[ZI,Zx];cases uM T.es i k<;>rfl
   refine⟨λt=>?_,by rw[s3,e];exact q2,by rw[s4,e];exact q3,by rw[s4];exact dq h4 (HF _ _),λk hk hM=>?_⟩
   ·rw[s2,SH];rw[Zx,ZJ ho,h1 t];by_cases hd:(ops.toList[i]).dst=some t
    ·rw[aB hd,aB hd];rfl
    ·rw[av hd,av hd];rfl
   ·obtain⟨p1,p2⟩:=h5 k hk hM;obtain⟨p3,p4⟩:=q4 k o_ p1;exact⟨by rw[s3];exact p3,by rw[e,p4,p2]⟩
 -- which of two that xE has ZK up
 have ordered:∀{L:Nat->Bool} (hL:NQ ops.toList L) {i:Nat} {o:Oper},ops.toList[i]?=some o->L i=false->(∀ e∈o.after,Region.binds .any e=true->L e.on=true)->∀{j:Nat} {p:Oper},ops.toList[j]?=some p->j≠i->
   xE ops.toList o (keys (T.es i).need,keys (T.es i).cZ) p (keys (T.es j).need,keys (T.es j).cZ)=true\/xE ops.toList p (keys (T.es j).need,keys (T.es j).cZ) o (keys (T.es i).need,keys (T.es i).cZ)=true->(L j=true↔j<i):=by
  intro L hL i o ho Fi NR j p hp oT ua;have ei:=T.od i (HG ho);have ej:=T.od j (HG hp);rcases Fj oT with al|ub
  ·rcases ZD h ho ei hp ej al with hb|⟨nB,gF⟩
   ·have:=(ZE h hL i o ho NR j hb).1;exact⟨λ_=>al,λ_=>this⟩
   ·rcases ua with ua|ua
    ·rw[nB]at ua;cases ua
    ·rw[gF]at ua;cases ua
  ·rcases ZD h hp ej ho ei ub with hb|⟨nB,gF⟩
   ·refine⟨λBE=>?_,λal=>by omega⟩;have:=(ZE h hL j p hp (λe he Fk=>hL j p hp BE e he Fk) i hb).1;rw[Fi]at this;cases this
   ·rcases ua with ua|ua
    ·rw[gF]at ua;cases ua
    ·rw[nB]at ua;cases ua
 have ZL:∀{α:Type} (u:Nat->Nat->Option α) (c0:Nat->α) (L:Nat->Bool) (k:Nat),(∀ j,L j=false)->∀ m,iy u c0 L m k=c0 k:=by
  intro α u c0 L k hL m;induction m with
  |zero=>rfl
  |succ m ih=>show(if L m then _ else _)=_;rw[hL m,ih];rfl
 have aWt:∀{α:Type} (u:Nat->Nat->Option α) (c0:Nat->α) (L L':Nat->Bool) (k:Nat),(∀ j,L j=L' j)->∀ m,iy u c0 L m k=iy u c0 L' m k:=by intro α u c0 L L' k hL m;rw[show L=L' from funext hL]
 refine wpIn_region_any gW (aId (λL a' w'=>∃ az,Map.le ι az/\fR B az (iy (uS ops.toList T.es) (bJ fr) L n) N a'/\NQ ops.toList L/\aO B az (iy (uM T.es) cc L n) w'/\(∀ t,xD ops.toList t=false->a'.tmps.getD t undef=a.tmps.getD t undef))
  (λi o ho e he hb=>SV h (by rw[<-Kg];exact ho) e he hb) ?_ ?_ ?_ ops.size _ a _ s_ (by simp[List.countP_replicate]) ?_)
 ·-- one operation
  rintro L a' w' i o ⟨az,hle,nC,iG,oe,zv⟩ ho Fi NR
  have sJ:ops.toList[i]?=some o:=by rw[<-Kg];exact ho
  have cz:i<n:=by rw[<-hn];exact HG sJ
  obtain⟨t1,t2,t3,t4,t5⟩:=text i o_;obtain⟨s1,s2,s3,s4,s5,s6⟩:=T.step i o sJ;have ord:=λ{j:Nat} {p:Oper}=>ordered iG sJ Fi NR (j:=j) (p:=p)
  -- the jh that it looks at
  have slot:∀ t,t∈Ki o++NO ops.toList o->iy (uS ops.toList T.es) (bJ fr) L n t=bJ (T.sK i) t:=by
   intro t ht;rw[t1 t];refine SN n o_ λj hj hu=>?_;obtain⟨p,hp,HH⟩:=SZ hu;by_cases oT:j=i
   ·subst oT;rw[Fi];exact⟨λe=>(by cases e),λe=>o_⟩
   ·refine ord hp oT (.inl ?_);unfold xE;rw[HH];simp only[aIj ht,HI]
  have marks:∀ p∈(T.es i).need,iy (uM T.es) cc L n p.1=p.2:=by
   intro q hq;rw[<-(SK s5 t2 t3).1 q hq];refine SN n o_ λj hj hu=>?_;have hk:=SY hu;by_cases oT:j=i
   ·subst oT;rw[Fi];exact⟨λe=>(by cases e),λe=>o_⟩
   ·have hp:=bo (l:=ops.toList) (i:=j) o_;refine ord hp oT (.inl ?_);unfold xE;rw[ZH hk (SX hq),Bool.or_true]
  -- what stands behind it
  have ZM:NQ ops.toList (λj=>L j||j==i):=by
   intro k p hp wF e he hb;simp only[vl,beq_iff_eq]at wF ⊢;rcases wF with wF|rfl
   ·exact .inl (iG k p hp wF e he hb)
   ·rw[sJ]at hp;injection hp with hp;subst hp;exact .inl (NR e he hb)
  have ZN:∀ t,iy (uS ops.toList T.es) (bJ fr) (λj=>L j||j==i) n t=if o.dst=some t then(T.es i).val else iy (uS ops.toList T.es) (bJ fr) L n t:=by
   intro t;rw[Zy (i:=i) (m:=n) Fi (λj hjn hj BE hu=>?_) n (bC _) cz,ZJ sJ]
   ·by_cases hd:o.dst=some t<;>simp[hd]
   ·obtain⟨q,hq,hqd⟩:=SZ hu;rw[sJ]at hq;injection hq with hq;subst hq;apply gR;intro aQ;obtain⟨p,hp,HH⟩:=SZ aQ;have:=(ord hp o_ (.inl (by unfold xE;rw[HH,hqd];simp))).1 BE;omega
  have ZO:iy (uM T.es) cc (λj=>L j||j==i) n=l9 (iy (uM T.es) cc L n) (T.es i).cZ:=by
   funext k
   rw[Zy (i:=i) (m:=n) Fi (λj hjn hj BE hu=>?_) n (bC _) cz,ZI]
   ·cases uM T.es i k<;>rfl
   ·apply gR;intro aQ;have hp:=bo (l:=ops.toList) (i:=j) o_;have hk:=SY aQ;have fP:=SY hu;obtain⟨q,hq,xC⟩:=db.1 fP;obtain⟨q2,oh,aIm⟩:=s5.2 q hq;have:=(ord hp o_ (.inl (by unfold xE;rw[ZH hk (by rw[<-xC,<-aIm];exact SX oh),Bool.or_true]))).1 BE;omega
  have other:∀ v,∀ t,xD ops.toList t=false->(a'.put o.dst v).tmps.getD t undef=a.tmps.getD t undef:=by intro v t ht;rw[SJ _ _ _ λhd=>?_,zv t ht];unfold xD at ht;rw[Kk]at ht;have:=ht o (cL sJ);rw[hd]at this;simp at this
  have De:=Zp s1;have aIn:Region.wanted o (yielded ops a'.tmps)=Dc (T.sK i) ops o:=by refine Zo nC ops o s1 λj b hg t ht=>slot t (eW.2 (.inr ?_));unfold NO;rw[hg];dsimp only;rw[<-Kg,ht];exact aT ..
  unfold wpOpIn;rw[ho];dsimp only;rw[aIn];rcases s6 with ⟨hw,aC,wD⟩|⟨hw,he⟩
  ·rw[aB hw];simp only[Bv,dr,bB,zr]at aC;have Fl:∀ x∈o.op.operands.toList,gE (iy (uS ops.toList T.es) (bJ fr) L n) x=gE (bJ (T.sK i)) x:=by
    intro x hx;cases x with
    |tmp t=>exact slot t (eW.2 (.inl (aIk (NI.1 hx))))
    |_=>rfl
   have ZP:=SE nC o.op.operands.toList (λx hx=>by rw[Fl x hx];exact aC.1 x hx);rw[vm Fl]at ZP;refine wD R az _ a' w' ZP oe marks _ _ λdP v2 w2 lk iz dH=>?_;exact⟨dP,hle.trans lk,nC.put lk (.inr iz) o.dst De ZN,ZM,by rw[ZO];exact dH,other v2⟩
  ·rw[av (by rw[hw];decide)];refine⟨λ_ _=>trivial,?_⟩;refine⟨az,hle,nC.put (Map.le.refl _) (v':=undef) (.inr (by rw[he];exact .same rfl)) o.dst De ZN,ZM,by rw[ZO,he];exact oe,other undef⟩
 ·-- all have ZK up
  rintro L a' w' bh ⟨az,hle,nC,iG,oe,zv⟩
  obtain⟨t1,t2,t3,t4,t5⟩:=text n (bC _);have eN:∀{α:Type} (u:Nat->Nat->Option α) (c0:Nat->α),iy u c0 L n=iy u c0 (λ_=>true) n:=λu c0=>funext λk=>
   SN n (bC _) λj hj _=>⟨λ_=>hj,λ_=>bh j o_⟩
  have e1:T.sK n=r.fr:=by rw[<-hn];exact T.ZA
  have e2:T.Ms n=r.M:=by rw[<-hn];exact T.ZB
  have e3:T.BD n=r.next:=by rw[<-hn];exact T.ZC
  rw[eN]at oe;refine hQ az _ a' w' hle ⟨nC.defers,nC.size,λt=>?_⟩ oe (by rw[<-e2];exact t2) (by rw[<-e3];exact t3) (λk hk hM=>(t5 k hk hM).2) zv;rw[<-e1,t1 t,<-eN];exact nC.slot t
 ·-- the numbers alone
  rintro L L' a' w' ZQ ⟨az,hle,nC,iG,oe,zv⟩
  have e:L=L':=funext ZQ;subst e;exact⟨az,hle,nC,iG,oe,zv⟩
 ·-- none has ZK up
  have hL:∀ j,(Array.replicate ops.size false).getD j false=false:=λj=>by simp[qC,Array.getElem?_replicate];split<;>rfl
  refine⟨ι,Map.le.refl _,⟨hf.defers,hf.size,λt=>?_⟩,λi o _ hi=>?_,?_,λ_ _=>rfl⟩
  ·rw[ZL _ _ _ _ hL];exact hf.slot t
  ·have:=(hL i).symm.trans hi;cases this
  ·exact(hm.drew _ (zq _)).ext λk=>ZL _ _ _ _ hL n
end
variable{i:Nat}{o:Oper}{need:List (Nat×Option Obj)}
def Fm(M:aL)(ks:aL):aL:=M.filter λp=>match ag ks p.1 with|some _=>false|none=>true
theorem S0{ks:aL}:∀(M:aL) (k:Nat),ag (Fm M ks) k=match ag ks k with|some _=>none|none=>ag M k
 |[],k=>by cases h:ag ks k<;>simp[Fm,ag]
 |(j,x)::M,k=>by
  have ih:=S0 (ks:=ks) M k;unfold Fm at ih ⊢;by_cases hj:j=k
  ·subst hj;cases h:ag ks j with
   |some y=>rw[h]at ih;rw[NS,av (by simp[h])];exact ih
   |none=>rw[NS,aB (by simp[h])];simp[ag]
  ·have e:∀ M,ag ((j,x)::M) k=ag M k:=λM=>by show(if Nat.beq j k then _ else _)=_;rw[oQ hj];rfl
   rw[e,<-ih];cases h:ag ks j with
   |some y=>rw[NS,av (by simp[h])]
   |none=>rw[NS,aB (by simp[h]),e]
theorem aIo{cc cr:Nat->Option Obj}{M M0 M1:aL}{next:Nat}(ha:cY cc M)(hu:eF cc next)(h1:cY cr M1)(hk:∀ k,k<next->ag M0 k=none->cr k=cc k):cY cr (M1++Fm M M0):=by
 intro k x hx;rw[iH]at hx;cases h:ag M1 k with
 |some y=>rw[h]at hx;exact h1 k x (by rw[h];exact hx)
 |none=>
  rw[h]at hx;dsimp only at hx;rw[S0]at hx;cases h0:ag M0 k with
  |some y=>rw[h0]at hx;cases hx
  |none=>
   rw[h0]at hx;have hc:=ha k x hx;have:k<next:=by
    rcases e7 k next with h|h
    ·exact h
    ·rw[hu k h]at hc;cases hc
   rw[hk k this h0];exact hc
structure kj(P:j_)(B:aa)(N:Nat) where
 ex:Ex
 fr:aX
 M:aL
 next:Nat
 rs:bM P B N
 tr:wC
section
variable{P:j_}{B:aa}{N:Nat}
def kj.more(r:kj P B N)(tr:wC):kj P B N:=⟨r.ex,r.fr,r.M,r.next,r.rs,tr++r.tr⟩
def kj.after(o:Option (kj P B N))(tr:wC):Option (kj P B N):=match o with|some r=>some (r.more tr)|none=>none
def kj.aIp(r:kj P B N)(e:Ex):kj P B N:=⟨e,r.fr,r.M,r.next,r.rs,r.tr⟩
def kj.out(r:kj P B N):mQ:=⟨r.ex,r.fr,r.M,r.next⟩
def Keys(M:aL)(next:Nat)(M':aL)(next':Nat):Prop:=next<=next'/\∀ k,k<next->ag M k=none->ag M' k=none
theorem Keys.refl(M:aL)(next:Nat):Keys M next M next:=⟨bC _,λ_ _ h=>h⟩
theorem Keys.trans{M M1 M2:aL}{n:Nat}(h:Keys M n M1 n1)(k:Keys M1 n1 M2 n2):Keys M n M2 n2:=⟨dq h.1 k.1,λj hj hM=>k.2 j (cG hj h.1) (h.2 j hj hM)⟩
def NT(fr:aX)(M:aL)(next:Nat)(c:Code)(key:Nat)(rs:bM P B N):Option (kj P B N):=
 match rs with
 |.code ZR c' Kl M0 S1 r _::xz=>
  if Nat.beq ZR key&&(Nat.ble next r.next&&r.M.all λp=>Nat.ble next p.1||(match ag M0 p.1 with|some _=>true|none=>false))then
   some ⟨r.ex,r.fr++((wl c).map λt=>(t,Hz))++fr,r.M++Fm M M0,r.next,xz,(.code c,.code c')::(.nat next,.nat S1)::(Kl.map λp=>(oR.eU [bJ fr p.1],oR.eU [p.2]))++M0.map λp=>(oR.obj (ag M p.1),oR.obj (some p.2))⟩
  else none
 |_=>none
def aIq:Bool->List Oper->List (List Nat×List Nat)->Bool
 |true,ops,od=>Fh ops od
 |false,_,_=>true
def ji:Nat->Code->aX->aL->Nat->bM P B N->Option (kj P B N)
 |0,_,_,_,_,_=>none
 |n+1,c,fr,M,next,rs=>
  match c with
  |.skip=>some ⟨.normal,fr,M,next,rs,[]⟩
  |.exit id=>some ⟨.exit id,fr,M,next,rs,[]⟩
  |.ret=>some ⟨.ret,fr,M,next,rs,[]⟩
  |.region id ops draw=>
   match NT fr M next (.region id ops draw) (200000+id) rs with
   |some r=>some r
   |none=>
    match zu ops ops.toList fr M next rs with
    |some r=>if aIq draw ops.toList r.od then some ⟨.normal,r.fr,r.M,r.next,r.rs,r.tr⟩else none
    |none=>none
  |.seq x y=>match ji n x fr M next rs with
   |some r=>match r.ex with
    |.normal=>kj.after (ji n y r.fr r.M r.next r.rs) r.tr
    |_=>some r
   |none=>none
  |.cond c x y=>match gE (bJ fr) c with
   |.bool b=>if b then ji n x fr M next rs else ji n y fr M next rs
   |_=>none
  |.block id b=>
   match NT fr M next (.block id b) id rs with
   |some r=>some r
   |none=>match ji n b fr M next rs with
    |some r=>match r.ex with
     |.exit k=>some (r.aIp (if Nat.beq k id then .normal else .exit k))
     |_=>some r
    |none=>none
  |.loop b=>match ji n b fr M next rs with
   |some r=>match r.ex with
    |.normal=>kj.after (ji n (.loop b) r.fr r.M r.next r.rs) r.tr
    |_=>some r
   |none=>none
  |_=>none
theorem ZS{o:Option (kj P B N)}{tr:wC}{r:kj P B N}(h:kj.after o tr=some r):∃ r',o=some r'/\r=r'.more tr:=by
 cases o with
 |none=>cases h
 |some r'=>injection h with h;exact⟨r',rfl,h.symm⟩
theorem S2:∀(l m:aX) (t:Nat),(∃ v,(t,v)∈l/\bJ (l++m) t=v/\bJ l t=v)\/((∀ v,(t,v)∉l)/\bJ (l++m) t=bJ m t)
 |[],m,t=>.inr ⟨λv h=>(by cases h),rfl⟩
 |(s,v)::l,m,t=>by
  by_cases h:s=t
  ·subst h;exact .inl ⟨v,aT ..,by simp[bJ],by simp[bJ]⟩
  ·have e1:bJ ((s,v)::l++m) t=bJ (l++m) t:=by show(if Nat.beq s t then _ else _)=_;rw[oQ h];rfl
   have e2:bJ ((s,v)::l) t=bJ l t:=by show(if Nat.beq s t then _ else _)=_;rw[oQ h];rfl
   rcases S2 l m t with ⟨u,h1,h2,h3⟩|⟨h1,h2⟩
   ·exact .inl ⟨u,bF _ h1,by rw[e1,h2],by rw[e2,h3]⟩
   ·refine .inr ⟨λu hu=>?_,by rw[e1,h2]⟩;rcases cC.1 hu with hu|hu
    ·injection hu with dT e6;exact h dT.symm
    ·exact h1 u hu
theorem aIr{c:Code}{t:Nat}(h:t∈wl c):vj c t=true:=by unfold vj;rw[rD];exact⟨t,h,by simp⟩
theorem NU{c:Code}{t:Nat}(h:vj c t=false):t∉wl c:=λhm=>by rw[aIr hm]at h;cases h
theorem Km{c:Code}{t:Nat}(h:t∉wl c):vj c t=false:=by
 cases hb:vj c t with
 |false=>rfl
 |true=>
  unfold vj at hb;rw[rD]at hb;obtain⟨d,hd,he⟩:=hb;exact absurd (lj he▸hd) h
theorem aIs{c:Code}{fr BF:aX}{a a':Act}(hle:Map.le ι az)(hf:fR B ι (bJ fr) N a)(h1:fR B az (bJ BF) N a')(ht:∀ t,vj c t=false->a'.tmps.getD t undef=a.tmps.getD t undef):
  fR B az (bJ (BF++((wl c).map λt=>(t,Hz))++fr)) N a':=by
 refine⟨h1.defers,h1.size,λt=>?_⟩;rw[Fo];rcases S2 BF (((wl c).map λt=>(t,Hz))++fr) t with ⟨v,_,h2,h3⟩|⟨_,h2⟩
 ·rw[h2,<-h3];exact h1.slot t
 ·rw[h2];rcases S2 ((wl c).map λt=>(t,Hz)) fr t with ⟨v,hv,h3,_⟩|⟨hn,h3⟩
  ·obtain⟨s,_,he⟩:=db.1 hv;injection he with _ he;rw[h3,<-he];exact .inl rfl
  ·rw[h3,ht t (Km λhm=>hn Hz (db.2 ⟨t,hm,rfl⟩))];exact(hf.slot t).mono hle
theorem ZT{fr:aX}{M:aL}{next:Nat}{c:Code}{rs:bM P B N}{r:kj P B N}(h:NT fr M next c n2 rs=some r)(hs:sH r.tr):ai P B N c fr M next r.out/\Keys M next r.M r.next:=by
 unfold NT at h;split at h
 ·rename_i ZR c' Kl M0 S1 r0 ok xz;split at h
  ·rename_i qA;injection h with h;subst h;simp only[dr,bB,vl]at qA;have e1:oR.code c=.code c':=hs _ (aT ..);have e2:oR.nat next=.nat S1:=hs _ (bF _ (aT ..));injection e1 with e1;injection e2 with e2;subst e1;subst e2;have e3:∀ p∈Kl,bJ fr p.1=p.2:=λp hp=>by have:oR.eU [bJ fr p.1]=.eU [p.2]:=hs _ (eW.2 (.inl (bF _ (bF _ (db.2 ⟨p,hp,rfl⟩)))));injection this with this;injection this
   have e4:∀ p∈M0,ag M p.1=some p.2:=λp hp=>by have:oR.obj (ag M p.1)=.obj (some p.2):=hs _ (eW.2 (.inr (db.2 ⟨p,hp,rfl⟩)));injection this
   refine⟨?_,sF qA.2.1,λk hk hM=>?_⟩;rotate_left
   ·show ag (r0.M++Fm M M0) k=none;rw[iH];have h1:ag r0.M k=none:=by
     cases h1:ag r0.M k with
     |none=>rfl
     |some x=>
      rcases qA.2.2 _ (kD h1)with h2|h2
      ·have:=sF h2;dsimp only at this;omega
      ·dsimp only at h2;cases h0:ag M0 k with
       |none=>rw[h0]at h2;cases h2
       |some y=>have:=e4 _ (kD h0);dsimp only at this;rw[hM]at this;cases this
    rw[h1];show ag (Fm M M0) k=none;rw[S0,hM];cases ag M0 k<;>rfl
   intro R ι cc a w Q hf hm ha hu hQ;have BG:fR B ι (bJ Kl) N a:=⟨hf.defers,hf.size,λt=>by
    have:∀(l:aX),(∀ p∈l,bJ fr p.1=p.2)->n9 ι (bJ l t) (a.tmps.getD t undef):=by
     intro l;induction l with
     |nil=>intro _;exact .inl rfl
     |cons p l ih=>
      intro hl;obtain⟨s,v⟩:=p;by_cases bP:s=t
      ·subst bP;have this:bJ fr s=v:=hl _ (aT ..);have e:bJ ((s,v)::l) s=v:=by simp[bJ]
       rw[e,<-this];exact hf.slot s
      ·have e:bJ ((s,v)::l) t=bJ l t:=by show(if Nat.beq s t then _ else _)=_;rw[oQ bP];rfl
       rw[e];exact ih λp hp=>hl p (bF _ hp)
    exact this Kl e3⟩
   have oj:cY cc M0:=λk x hk=>ha k x (by have:=e4 _ (kD hk);exact this);refine ok R ι cc a w Q BG hm oj hu λaz cr a' w' hle xF bE jk ki gN xG=>?_;refine hQ az cr a' w' hle (aIs hle hf xF xG) bE (aIo ha hu jk gN) ki (λk hk hM=>gN k hk ?_) xG;cases h0:ag M0 k with
   |none=>rfl
   |some x=>have:=e4 _ (kD h0);dsimp only at this;rw[hM]at this;cases this
  ·cases h
 ·cases h
theorem S3{ops:Array Oper}:∀(l:List Oper) {fr:aX} {M:aL} {next:Nat} {rs:bM P B N} {r:rE P B N},zu ops l fr M next rs=some r->sH r.tr->Keys M next r.M r.next
 |[],fr,M,next,rs,r,h,_=>by injection h with h;subst h;exact Keys.refl _ _
 |o::l,fr,M,next,rs,r,h,hs=>by
  unfold zu at h;split at h
  ·split at h
   ·split at h
    ·rename_i e Fb Fe bP;split at h
     ·rename_i r2 vk;injection h with h;subst h;obtain⟨_,_,pk⟩:=SG (B:=B) bP (λp hp=>hs p (eW.2 (.inl hp)));have k2:=S3 l vk λp hp=>hs p (eW.2 (.inr hp));refine Keys.trans (M1:=e.cZ++M) (n1:=BC next e.cZ) ⟨HF _ _,λk hk hM=>?_⟩ k2;rw[iH];cases h1:ag e.cZ k with
      |none=>exact hM
      |some x=>
       exfalso;obtain⟨q,hq,xC⟩:=pk.2 _ (kD h1);dsimp only at xC;rcases pk.1 q hq with ⟨y,h2,h3⟩|⟨h2,h3⟩
       ·rw[xC,hM]at h3;cases h3
       ·omega
     ·cases h
    ·cases h
   ·split at h
    ·rename_i r2 vk;injection h with h;subst h;have k2:=S3 l vk λp hp=>hs p (eW.2 (.inr hp));exact k2
    ·cases h
  ·cases h
theorem aIt{x y:Code}{fr:aX}{M:aL}{next:Nat}{r2:mQ}(h1:ai P B N x fr M next r1)(hn:r1.ex=.normal)(hk:Keys M next r1.M r1.next)(h2:ai P B N y r1.fr r1.M r1.next r2):ai P B N (.seq x y) fr M next r2:=by intro R ι cc a w Q hf hm ha hu hQ;refine mR (h1 R ι cc a w _ hf hm ha hu λbX gG a1 w1 jx iI c8 eG dT iA kk=>?_);rw[hn];refine h2 R bX gG a1 w1 Q iI c8 eG dT λdP rF a2 w2 lk jd dH gV e6 fP sI=>?_;refine hQ dP rF a2 w2 (jx.trans lk) jd dH gV e6 (λk oU hM=>by rw[fP k (cG oU hk.1) (hk.2 k oU hM),iA k oU hM]) λt ht=>?_;have Dg:t∉wl x++wl y:=NU ht;rw[sI t (Km λh=>Dg (eW.2 (.inr h))),kk t (Km λh=>Dg (eW.2 (.inl h)))]
theorem ZU{x y:Code}{fr:aX}{M:aL}{next:Nat}(h1:ai P B N x fr M next r1)(hn:r1.ex≠.normal):ai P B N (.seq x y) fr M next r1:=by
 intro R ι cc a w Q hf hm ha hu hQ;refine mR (h1 R ι cc a w _ hf hm ha hu λbX gG a1 w1 jx iI c8 eG dT iA kk=>?_);have:=hQ bX gG a1 w1 jx iI c8 eG dT iA λt ht=>kk t (Km λh=>(NU ht:t∉wl x++wl y) (eW.2 (.inl h)));cases hx:r1.ex with
 |normal=>exact absurd hx hn
 |exit id=>rw[hx]at this;exact this
 |ret=>rw[hx]at this;exact this
theorem cd{b:Code}{id:Nat}{fr:aX}{M:aL}{next:Nat}(h1:ai P B N b fr M next r1):
  ai P B N (.block id b) fr M next ⟨(match r1.ex with|.exit k=>if Nat.beq k id then .normal else .exit k|e=>e),r1.fr,r1.M,r1.next⟩:=by
 intro R ι cc a w Q hf hm ha hu hQ;refine Kn (h1 R ι cc a w _ hf hm ha hu λbX gG a1 w1 jx iI c8 eG dT iA kk=>?_);have:=hQ bX gG a1 w1 jx iI c8 eG dT iA kk;cases hx:r1.ex with
 |normal=>rw[hx]at this;exact this
 |ret=>rw[hx]at this;exact this
 |exit k=>
  rw[hx]at this;dsimp only at this;show(if k=id then Q .normal a1 w1 else Q (.exit k) a1 w1);by_cases hk:k=id
  ·rw[aB hk];subst hk;rw[show Nat.beq k k=true from HJ k]at this;exact this
  ·rw[av hk];rw[oQ hk]at this;exact this
theorem S4(gW:P.follows .mixedOrders=true):∀(n:Nat),
  (∀(c:Code) (fr:aX) (M:aL) (next:Nat) (rs:bM P B N) (r:kj P B N),ji n c fr M next rs=some r->sH r.tr->ai P B N c fr M next r.out/\Keys M next r.M r.next)/\
  (∀(b:Code) (fr:aX) (M:aL) (next:Nat) (rs:bM P B N) (r:kj P B N),ji n (.loop b) fr M next rs=some r->sH r.tr->Keys M next r.M r.next/\∀(R:Option Nat) (ι:Map) (cc:Nat->Option Obj) (a:Act) (w:h_) (Q:Exit->Act->World->Prop),fR B ι (bJ fr) N a->aO B ι cc w->cY cc M->eF cc next->(∀ az cr a' w',Map.le ι az->fR B az (bJ r.fr) N a'->aO B az cr w'->cY cr r.M->eF cr r.next->(∀ k,k<next->ag M k=none->cr k=cc k)->(∀ t,vj b t=false->a'.tmps.getD t undef=a.tmps.getD t undef)->Q r.ex.Bx a' w')->Code.roundsIn (FW R) 0 P b Q n a w):=by
 intro n;induction n with
 |zero=>exact⟨λc fr M next rs r h=>by simp[ji]at h,λb fr M next rs r h=>by simp[ji]at h⟩
 |succ n ih=>
  obtain⟨xH,ihl⟩:=ih;have loop:∀(b:Code) (fr:aX) (M:aL) (next:Nat) (rs:bM P B N) (r:kj P B N),ji (n+1) (.loop b) fr M next rs=some r->sH r.tr->
   Keys M next r.M r.next/\∀(R:Option Nat) (ι:Map) (cc:Nat->Option Obj) (a:Act) (w:h_) (Q:Exit->Act->World->Prop),fR B ι (bJ fr) N a->aO B ι cc w->cY cc M->eF cc next->
  (∀ az cr a' w',Map.le ι az->fR B az (bJ r.fr) N a'->aO B az cr w'->cY cr r.M->eF cr r.next->(∀ k,k<next->ag M k=none->cr k=cc k)->(∀ t,vj b t=false->a'.tmps.getD t undef=a.tmps.getD t undef)->Q r.ex.Bx a' w')->Code.roundsIn (FW R) 0 P b Q (n+1) a w:=by
   intro b fr M next rs r h hs;simp only[ji]at h;cases hb:ji n b fr M next rs with
   |none=>rw[hb]at h;cases h
   |some r1=>
    rw[hb]at h;dsimp only at h;have out:r1.ex≠.normal->r=r1->_:=λaQ (e:r=r1)=>by
     subst e;obtain⟨g1,k1⟩:=xH b fr M next rs r hb hs;refine(⟨k1,λR ι cc a w Q hf hm ha hu hQ=>?_⟩:Keys M next r.M r.next/\∀(R:Option Nat) (ι:Map) (cc:Nat->Option Obj) (a:Act) (w:h_) (Q:Exit->Act->World->Prop),fR B ι (bJ fr) N a->aO B ι cc w->cY cc M->eF cc next->(∀ az cr a' w',Map.le ι az->fR B az (bJ r.fr) N a'->aO B az cr w'->cY cr r.M->eF cr r.next->(∀ k,k<next->ag M k=none->cr k=cc k)->(∀ t,vj b t=false->a'.tmps.getD t undef=a.tmps.getD t undef)->Q r.ex.Bx a' w')->Code.roundsIn (FW R) 0 P b Q (n+1) a w);rw[Fp];refine g1 R ι cc a w _ hf hm ha hu λbX gG a1 w1 jx iI c8 eG dT iA kk=>?_;have:=hQ bX gG a1 w1 jx iI c8 eG dT iA kk;show Exit.then _ Q r.ex.Bx a1 w1;cases hx:r.ex with
     |normal=>exact absurd hx aQ
     |exit id=>rw[hx]at this;exact this
     |ret=>rw[hx]at this;exact this
    cases hex:r1.ex with
    |normal=>
     rw[hex]at h;obtain⟨r2,h2,he⟩:=ZS h;subst he;obtain⟨g1,k1⟩:=xH b fr M next rs r1 hb (λp hp=>hs p (eW.2 (.inl hp)));obtain⟨k2,g2⟩:=ihl b r1.fr r1.M r1.next r1.rs r2 h2 (λp hp=>hs p (eW.2 (.inr hp)));refine⟨k1.trans k2,λR ι cc a w Q hf hm ha hu hQ=>?_⟩;rw[Fp];refine g1 R ι cc a w _ hf hm ha hu λbX gG a1 w1 jx iI c8 eG dT iA kk=>?_;show Exit.then _ Q r1.ex.Bx a1 w1;rw[hex];refine g2 R bX gG a1 w1 Q iI c8 eG dT λdP rF a2 w2 lk jd dH gV e6 fP sI=>?_;exact hQ dP rF a2 w2 (jx.trans lk) jd dH gV e6 (λk oU hM=>(fP k (cG oU k1.1) (k1.2 k oU hM)).trans (iA k oU hM)) λt ht=>(sI t ht).trans (kk t ht)
    |exit id=>rw[hex]at h;injection h with h;exact out (by rw[hex];exact n_) h.symm
    |ret=>rw[hex]at h;injection h with h;exact out (by rw[hex];exact n_) h.symm
  refine⟨λc fr M next rs r h hs=>?_,loop⟩;cases c with
  |skip=>
   simp only[ji]at h;injection h with h;subst h;exact⟨λR ι cc a w Q hf hm ha hu hQ=>wpIn_skip (hQ ι cc a w (Map.le.refl _) hf hm ha hu (λ_ _ _=>rfl) λ_ _=>rfl),Keys.refl _ _⟩
  |exit id=>
   simp only[ji]at h;injection h with h;subst h;exact⟨λR ι cc a w Q hf hm ha hu hQ=>wpIn_exit (hQ ι cc a w (Map.le.refl _) hf hm ha hu (λ_ _ _=>rfl) λ_ _=>rfl),Keys.refl _ _⟩
  |ret=>
   simp only[ji]at h;injection h with h;subst h;exact⟨λR ι cc a w Q hf hm ha hu hQ=>wpIn_ret (hQ ι cc a w (Map.le.refl _) hf hm ha hu (λ_ _ _=>rfl) λ_ _=>rfl),Keys.refl _ _⟩
  |region id ops draw=>
   simp only[ji]at h;split at h
   ·rename_i r1 h1;injection h with h;subst h;exact ZT h1 hs
   ·split at h
    ·rename_i r1 h1;split at h
     ·rename_i hd;injection h with h;subst h;refine⟨λR ι cc a w Q hf hm ha hu hQ=>?_,S3 _ h1 hs⟩;have ZV:SL B N cc M next ι a (xD ops.toList) r1 (Q .normal):=λaz cr a' w' hle xF bE jk ki gN xG=>hQ az cr a' w' hle xF bE jk ki gN λt ht=>xG t (by
       have hn:t∉ops.toList.filterMap (·.dst):=NU ht;cases hb:xD ops.toList t with
       |false=>rfl
       |true=>
        unfold xD at hb;rw[rD]at hb;obtain⟨o,ho,NV⟩:=hb;exfalso;refine hn (Zl.2 ⟨o,ho,?_⟩);cases De:o.dst with
        |none=>rw[De]at NV;cases NV
        |some d=>rw[De]at NV;rw[lj NV])
      cases draw with
      |false=>exact wpIn_region_list (SM _ h1 hs hf hm ha hu ZV)
      |true=>exact aIl gW h1 hs hd hf hm ha hu ZV
     ·cases h
    ·cases h
  |seq x y=>
   simp only[ji]at h;cases hx:ji n x fr M next rs with
   |none=>rw[hx]at h;cases h
   |some r1=>
    rw[hx]at h;dsimp only at h;cases hex:r1.ex with
    |normal=>
     rw[hex]at h;obtain⟨r2,h2,he⟩:=ZS h;subst he;obtain⟨g1,k1⟩:=xH x fr M next rs r1 hx (λp hp=>hs p (eW.2 (.inl hp)));obtain⟨g2,k2⟩:=xH y r1.fr r1.M r1.next r1.rs r2 h2 (λp hp=>hs p (eW.2 (.inr hp)));exact⟨aIt g1 hex k1 g2,k1.trans k2⟩
    |exit id=>
     rw[hex]at h;injection h with h;subst h;obtain⟨g1,k1⟩:=xH x fr M next rs r1 hx hs;exact⟨ZU g1 (by show r1.ex≠_;rw[hex];exact n_),k1⟩
    |ret=>
     rw[hex]at h;injection h with h;subst h;obtain⟨g1,k1⟩:=xH x fr M next rs r1 hx hs;exact⟨ZU g1 (by show r1.ex≠_;rw[hex];exact n_),k1⟩
  |cond Fq x y=>
   simp only[ji]at h;cases hc:gE (bJ fr) Fq with
   |bool b=>
    rw[hc]at h;have he:∀(ι:Map) (a:Act),fR B ι (bJ fr) N a->a.eval Fq=.bool b:=by
     intro ι a hf;cases Fq with
     |tmp t=>
      have:bJ fr t=.bool b:=hc;have hs:=hf.slot t;rw[this]at hs;exact(hs.Bp rfl).bool
     |const v=>exact hc
     |global g=>exact hc
     |func f=>exact hc
    have fin:∀ z:Code,(∀ t,t∈wl z->t∈wl (Code.cond Fq x y))->ai P B N z fr M next r.out->(∀(R:Option Nat) (Q:Exit->Act->World->Prop) (a:Act) (w:h_),a.eval Fq=.bool b->z.wpIn (FW R) 0 P Q a w->(Code.cond Fq x y).wpIn (FW R) 0 P Q a w)->ai P B N (.cond Fq x y) fr M next r.out:=by intro z hz g hw R ι cc a w Q hf hm ha hu hQ;refine hw R Q a w (he ι a hf) (g R ι cc a w Q hf hm ha hu λbX gG a1 w1 jx iI c8 eG dT iA kk=>hQ bX gG a1 w1 jx iI c8 eG dT iA λt ht=>kk t (Km λhm=>NU ht (hz t hm)))
    cases b with
    |true=>
     obtain⟨g1,k1⟩:=xH x fr M next rs r h hs;exact⟨fin x (λt ht=>eW.2 (.inl ht)) g1 (λR Q a w e h=>wpIn_cond e h),k1⟩
    |false=>
     obtain⟨g1,k1⟩:=xH y fr M next rs r h hs;exact⟨fin y (λt ht=>eW.2 (.inr ht)) g1 (λR Q a w e h=>wpIn_cond e h),k1⟩
   |_=>rw[hc]at h;cases h
  |block id b=>
   simp only[ji]at h;split at h
   ·rename_i r1 h1;injection h with h;subst h;exact ZT h1 hs
   ·cases hb:ji n b fr M next rs with
    |none=>rw[hb]at h;cases h
    |some r1=>
     rw[hb]at h;dsimp only at h;cases hex:r1.ex with
     |normal=>
      rw[hex]at h;injection h with h;subst h;obtain⟨g1,k1⟩:=xH b fr M next rs r1 hb hs;have:=cd (id:=id) g1;rw[show r1.out.ex=Ex.normal from hex]at this;refine⟨?_,k1⟩;have e:r1.out=⟨.normal,r1.fr,r1.M,r1.next⟩:=by unfold kj.out;rw[hex]
      rw[e];exact this
     |ret=>
      rw[hex]at h;injection h with h;subst h;obtain⟨g1,k1⟩:=xH b fr M next rs r1 hb hs;have:=cd (id:=id) g1;rw[show r1.out.ex=Ex.ret from hex]at this;refine⟨?_,k1⟩;have e:r1.out=⟨.ret,r1.fr,r1.M,r1.next⟩:=by unfold kj.out;rw[hex]
      rw[e];exact this
     |exit k=>
      rw[hex]at h;injection h with h;subst h;obtain⟨g1,k1⟩:=xH b fr M next rs r1 hb hs;have:=cd (id:=id) g1;rw[show r1.out.ex=Ex.exit k from hex]at this;exact⟨this,k1⟩
  |loop b=>
   obtain⟨k1,g1⟩:=loop b fr M next rs r h hs;exact⟨λR ι cc a w Q hf hm ha hu hQ=>S5 (n+1) (g1 R ι cc a w Q hf hm ha hu hQ),k1⟩
  |_=>simp[ji]at h
end
variable{N:Nat}{B:aa}{fr:aX}{M:aL}
section
variable{P:j_}{B:aa}{N:Nat}
theorem ZW{S6:aX}{a:Act}(hf:fR B ι (bJ fr) N a)(h:∀ p∈S6,bJ fr p.1=p.2):fR B ι (bJ S6) N a:=by
 refine⟨hf.defers,hf.size,λt=>?_⟩;induction S6 with
 |nil=>exact .inl rfl
 |cons p l ih=>
  obtain⟨s,v⟩:=p;by_cases bP:s=t
  ·subst bP;have this:bJ fr s=v:=h _ (aT ..);have e:bJ ((s,v)::l) s=v:=by simp[bJ]
   rw[e,<-this];exact hf.slot s
  ·have e:bJ ((s,v)::l) t=bJ l t:=by show(if Nat.beq s t then _ else _)=_;rw[oQ bP];rfl
   rw[e];exact ih λp hp=>h p (bF _ hp)
theorem ai.to{c:Code}{next:Nat}{r2:mQ}(h:ai P B N c fr M next r1)(hex:r1.ex=r2.ex)(nC:∀ p∈r2.fr,bJ r1.fr p.1=p.2)
  (hM:∀ p∈r2.M,ag r1.M p.1=some p.2) (hn:r1.next<=r2.next):ai P B N c fr M next r2:=by
 intro R ι cc a w Q hf hm ha hu hQ;refine h R ι cc a w Q hf hm ha hu λbX gG a1 w1 jx iI c8 eG dT iA kk=>?_;rw[hex];exact hQ bX gG a1 w1 jx (ZW iI nC) c8 (λk x hk=>eG k x (hM _ (kD hk))) (λk hk=>dT k (dq hn hk)) iA kk
theorem km:∀{l m:aL},keys l=keys m->∀ k,(ag l k=none↔ag m k=none)
 |[],[],_,k=>Iff.rfl
 |[],_::_,h,k=>by cases h
 |_::_,[],h,k=>by cases h
 |(i,x)::l,(j,y)::m,h,k=>by
  injection h with h1 h2;dsimp only at h1;subst h1;show(if Nat.beq i k then some x else ag l k)=none↔(if Nat.beq i k then some y else ag m k)=none;cases Nat.beq i k
  ·exact km h2 k
  ·simp
theorem cA{b:Code}{next:Nat}{r:mQ}(n:Nat)(I:Nat->aX)(J:Nat->aL)(ko:∀ i k,i<=n->(ag (J i) k=none↔ag (J 0) k=none))
  (body:∀ i,i<n->ai P B N b (I i) (J i) next ⟨.normal,I (i+1),J (i+1),next⟩) (last:ai P B N b (I n) (J n) next r) (hr:r.ex≠.normal):ai P B N (.loop b) (I 0) (J 0) next r:=by
 intro R ι cc a w Q hf hm ha hu hQ;refine S5 (n+1) ?_;have key:∀ d i,i+d=n->∀(bX:Map) (gG:Nat->Option Obj) (a1:Act) (w1:h_),Map.le ι bX->fR B bX (bJ (I i)) N a1->aO B bX gG w1->cY gG (J i)->eF gG next->(∀ k,k<next->ag (J 0) k=none->gG k=cc k)->
   (∀ t,vj (.loop b) t=false->a1.tmps.getD t undef=a.tmps.getD t undef)->Code.roundsIn (FW R) 0 P b Q (d+1) a1 w1:=by
  intro d;induction d with
  |zero=>
   intro i hi bX gG a1 w1 jx iI c8 eG dT iA kk;have:i=n:=by omega
   subst this;rw[Fp];refine last R bX gG a1 w1 _ iI c8 eG dT λdP rF a2 w2 lk jd dH gV e6 fP sI=>?_;have:=hQ dP rF a2 w2 (jx.trans lk) jd dH gV e6 (λk hk h0=>(fP k hk ((ko i k (bC _)).2 h0)).trans (iA k hk h0)) λt ht=>(sI t ht).trans (kk t ht);show Exit.then _ Q r.ex.Bx a2 w2;cases hx:r.ex with
   |normal=>exact absurd hx hr
   |exit id=>rw[hx]at this;exact this
   |ret=>rw[hx]at this;exact this
  |succ d ih=>
   intro i hi bX gG a1 w1 jx iI c8 eG dT iA kk;rw[Fp];refine body i o_ R bX gG a1 w1 _ iI c8 eG dT λdP rF a2 w2 lk jd dH gV e6 fP sI=>?_;exact ih (i+1) o_ dP rF a2 w2 (jx.trans lk) jd dH gV e6 (λk hk h0=>(fP k hk ((ko i k o_).2 h0)).trans (iA k hk h0)) λt ht=>(sI t ht).trans (kk t ht)
 exact key n 0 o_ ι cc a w (Map.le.refl _) hf hm ha hu (λ_ _ _=>rfl) λ_ _=>rfl
theorem Ko:∀{v v1 v2:i_},aK ι v v1->aK ι v v2->v1=v2:=by
 intro v v1 v2 h;revert v2;apply aK.rec (motive_1:=λv v1 _=>∀ v2,aK ι v v2->v1=v2) (motive_2:=λl l1 _=>∀ l2,bW (aK ι) l l2->l1=l2) (t:=h)
 case same=>intro v hf v2 h2;exact(h2.eZ hf).symm
 case ptr=>
  intro k off b o cap hk v2 h2;obtain⟨b',o',aU,h3,h4⟩:=h2.xt rfl;rw[hk]at h3;injection h3 with h3;injection h3 with h3 h5 _;subst h3;subst h5;rw[h4]
 case slc=>
  intro k off b o n c c' cap hk h1 h2 v2 h3;rcases h3.iF rfl with ⟨h4,_⟩|⟨b',o',aU,c2,h4,_,h6,h7⟩
  ·rw[hk]at h4;cases h4
  ·rw[hk]at h4;injection h4 with h4;injection h4 with h4 h5 h8;subst h4;subst h5;subst h8;rw[h7,show c'=c2 by omega]
 case slcN=>
  intro k hk v2 h3;rcases h3.iF rfl with ⟨_,_,_,_,h4⟩|⟨b',o',aU,c2,h4,_⟩
  ·exact h4.symm
  ·rw[hk]at h4;cases h4
 case opq=>
  intro k v hk h1 h2 v2 h3;cases h3 with
  |same hf=>simp[flat,rk,oL,mJ,nt]at hf
  |opq gN _ _=>rw[hk]at gN;injection gN with gN;injection gN
 case fn=>
  intro f fi kg ca eh _ _ S7 S8 v2 h3;obtain⟨fi2,ZX,e,h4,h5⟩:=h3.Bo;rw[e,S7 _ h4,S8 _ h5]
 case agg=>
  intro cs bL _ ih v2 h3;obtain⟨cs2,e,h4⟩:=h3.Hy;rw[e,ih _ h4]
 case tup=>
  intro cs bL _ ih v2 h3;obtain⟨cs2,e,h4⟩:=h3.uY;rw[e,ih _ h4]
 case nil=>intro l2 h2;cases h2;rfl
 case cons=>
  intro a b l m _ _ S7 S8 l2 h2;cases h2 with
  |cons h3 h4=>rw[S7 _ h3,S8 _ h4]
theorem Ft{ι:Map}:∀{l l1 l2:ak},bW (aK ι) l l1->bW (aK ι) l l2->l1=l2
 |_,_,_,.nil,h=>by cases h;rfl
 |_,_,_,.cons h t,h2=>by cases h2 with|cons h3 t3=>rw[Ko h h3,Ft t t3]
def HK(m:Nat)(a:Addr):Bool:=nt a||Nat.blt a.block m
def Dh(m:Nat):Value->Bool
 |.pointer (some a)=>HK m a
 |.slice (some a) _ _=>HK m a
 |.agg _=>false
 |.tuple _=>false
 |.func _ _ _=>false
 |_=>true
def Di(m:Nat):Value->Bool
 |.func _ fi ca=>fi.toList.all (Dh m)&&ca.toList.all (Dh m)
 |v=>Dh m v
def Fu(m:Nat):Value->Bool
 |.agg cs=>cs.toList.all (Di m)
 |v=>Di m v
def om(m:Nat):Value->Bool
 |.tuple vs=>vs.toList.all (Fu m)
 |v=>Fu m v
theorem NW{v:i_}(h:mJ v=true):Dh m v=true:=by
 cases v with
 |pointer a=>cases a with
  |none=>rfl
  |some a=>show(nt a||_)=true;rw[show nt a=true from h];rfl
 |slice a n c=>cases a with
  |none=>rfl
  |some a=>show(nt a||_)=true;rw[show nt a=true from h];rfl
 |_=>exact h
theorem NX{v:i_}(h:oL v=true):Di m v=true:=by
 cases v with
 |func f fi ca=>
  simp only[oL,dr,bB]at h;simp only[Di,dr,bB];exact⟨λc hc=>NW (h.1 c hc),λc hc=>NW (h.2 c hc)⟩
 |pointer a=>exact NW (v:=.pointer a) h
 |slice a n c=>exact NW (v:=.slice a n c) h
 |_=>first|rfl|exact h
theorem Kp{v:i_}(h:rk v=true):Fu m v=true:=by
 cases v with
 |agg cs=>
  simp only[rk,bB]at h;simp only[Fu,bB];exact λc hc=>NX (h c hc)
 |pointer a=>exact NX (v:=.pointer a) h
 |slice a n c=>exact NX (v:=.slice a n c) h
 |func f fi ca=>exact NX (v:=.func f fi ca) h
 |_=>first|rfl|exact h
theorem iW{v:i_}(h:flat v=true):om m v=true:=by
 cases v with
 |tuple cs=>
  simp only[flat,bB]at h;simp only[om,bB];exact λc hc=>Kp (h c hc)
 |pointer a=>exact Kp (v:=.pointer a) h
 |slice a n c=>exact Kp (v:=.slice a n c) h
 |func f fi ca=>exact Kp (v:=.func f fi ca) h
 |agg cs=>exact Kp (v:=.agg cs) h
 |_=>first|rfl|exact h
theorem aK.low(sL:∀ k,k<m->∀ l,ι k=some l->κ k=some l){v:i_}(h:aK ι v v')(hb:om m v=true):aK κ v v':=by
 have addr:∀(a:Addr) (s:Nat),a.spot=some s->HK m a=true->a.block<m:=by intro a s hs h;unfold HK nt at h;rw[hs]at h;simpa[BB]using h
 have hP:∀ v v',aK ι v v'->Dh m v=true->aK κ v v':=by
  intro v v' h hb;cases h with
  |same hf=>exact .same hf
  |ptr hk=>exact .ptr (sL _ (addr _ 7 rfl hb) _ hk)
  |slc hk h1 h2=>exact .slc (sL _ (addr _ 7 rfl hb) _ hk) h1 h2
  |slcN hk=>exact .slcN (sL _ (addr _ 7 rfl hb) _ hk)
  |opq hk h1 h2=>exact .opq (sL _ (addr _ 9 rfl hb) _ hk) h1 h2
  |_=>simp[Dh]at hb
 have uX:∀(Q:Value->Bool),(∀ v v',aK ι v v'->Q v=true->aK κ v v')->∀ l l',bW (aK ι) l l'->(∀ c∈l,Q c=true)->bW (aK κ) l l':=by
  intro Q hQ l l' h;induction h with
  |nil=>intro _;exact .nil
  |cons h t ih=>
   intro hl;exact .cons (hQ _ _ h (hl _ (aT ..))) (ih λc hc=>hl c (bF _ hc))
 have h0:∀ v v',aK ι v v'->Di m v=true->aK κ v v':=by
  intro v v' h hb;cases h with
  |fn h1 h2=>
   simp only[Di,dr,bB]at hb;exact .fn (uX _ hP _ _ h1 hb.1) (uX _ hP _ _ h2 hb.2)
  |same hf=>exact .same hf
  |ptr hk=>exact hP _ _ (.ptr hk) hb
  |slc hk h1 h2=>exact hP _ _ (.slc hk h1 h2) hb
  |slcN hk=>exact hP _ _ (.slcN hk) hb
  |opq hk h1 h2=>exact hP _ _ (.opq hk h1 h2) hb
  |_=>simp[Di,Dh]at hb
 have h1:∀ v v',aK ι v v'->Fu m v=true->aK κ v v':=by
  intro v v' h hb;cases h with
  |agg h1=>
   simp only[Fu,bB]at hb;exact .agg (uX _ h0 _ _ h1 hb)
  |same hf=>exact .same hf
  |ptr hk=>exact h0 _ _ (.ptr hk) hb
  |slc hk h1 h2=>exact h0 _ _ (.slc hk h1 h2) hb
  |slcN hk=>exact h0 _ _ (.slcN hk) hb
  |opq hk h1 h2=>exact h0 _ _ (.opq hk h1 h2) hb
  |fn h1 h2=>exact h0 _ _ (.fn h1 h2) hb
  |_=>simp[Fu,Di,Dh]at hb
 cases h with
 |tup h2=>
  simp only[om,bB]at hb;exact .tup (uX _ h1 _ _ h2 hb)
 |same hf=>exact .same hf
 |ptr hk=>exact h1 _ _ (.ptr hk) hb
 |slc hk q1 q2=>exact h1 _ _ (.slc hk q1 q2) hb
 |slcN hk=>exact h1 _ _ (.slcN hk) hb
 |opq hk q1 q2=>exact h1 _ _ (.opq hk q1 q2) hb
 |fn q1 q2=>exact h1 _ _ (.fn q1 q2) hb
 |agg q1=>exact h1 _ _ (.agg q1) hb
def fV(m:Nat)(x:Obj):Prop:=∀ v∈x.cells,om m v=true
theorem jR.below(sL:∀ k,k<m->∀ l,ι k=some l->κ k=some l){w:h_}{l:pR}{x:Obj}(h:jR ι w l x)(hb:fV m x):jR κ w l x:=by
 have uX:∀{l l':ak},bW (aK ι) l l'->(∀ c∈l,om m c=true)->bW (aK κ) l l':=by
  intro l l' h hl;induction h with
  |nil=>exact .nil
  |cons h t ih=>exact .cons (h.low sL (hl _ (aT ..))) (ih λc hc=>hl c (bF _ hc))
 cases x with
 |aM cells ty=>obtain⟨b,bL,h1,h2,h3⟩:=h;exact⟨b,bL,h1,uX h2 hb,h3⟩
 |row cells ty size=>
  rcases h with h|⟨b,cap,cur,h1,h2,h3,h4,h5⟩
  ·exact .inl h
  ·exact .inr ⟨b,cap,cur,h1,h2,h3,h4,uX h5 hb⟩
 |view cells=>
  rcases h with h|⟨b,o,cap,bL,h1,h2,h3⟩
  ·exact .inl h
  ·exact .inr ⟨b,o,cap,bL,h1,uX h2 hb,h3⟩
 |fact F=>exact h
 |dead=>trivial
theorem ai.reset{c:Code}{next:Nat}{r2:mQ}(h:ai P B N c fr M next r1)(hex:r1.ex=r2.ex)(nC:∀ p∈r2.fr,bJ r1.fr p.1=p.2)(NY:∀ p∈r2.fr,om next p.2=true)
  (hM:∀ p∈r2.M,ag r1.M p.1=some p.2) (S9:∀ p∈r2.M,fV next p.2) (NZ:∀ p∈r2.M,p.1<next) (hn:next<=r2.next):ai P B N c fr M next r2:=by
 intro R ι cc a w Q hf hm ha hu hQ;refine h R ι cc a w Q hf hm ha hu λbX gG a1 w1 jx iI c8 eG dT iA kk=>?_;rw[hex];have sL:∀ k,k<next->∀ l,bX k=some l->(λk=>if k<next then bX k else none) k=some l:=λk hk l e=>by simp[hk,e]
 have BH:∀ k l,(λk=>if k<next then bX k else none) k=some l->k<next/\bX k=some l:=λk l e=>by
  dsimp only at e;split at e
  ·rename_i hk;exact⟨hk,e⟩
  ·cases e
 generalize (λk=>if k<next then bX k else none)=κ at sL BH;have hle:Map.le ι κ:=λk l e=>by
  have hk:k<next:=by
   rcases e7 k next with h|h
   ·exact h
   ·rw[hm.dF k (hu k h)]at e;cases e
  exact sL k hk l (jx k l e)
 -- what is kept: what ZY not looked at,and what is known;the rest is dead
 have aIu:∃ c2:Nat->Option Obj,(∀ k,c2 k=none↔(next<=k\/gG k=none))/\(∀ k x,c2 k=some x->x=.dead\/(gG k=some x/\((ag M k=none)\/ag r2.M k=some x)))/\(∀ k x,ag r2.M k=some x->c2 k=some x)/\(∀ k,k<next->ag M k=none->ag r2.M k=none->c2 k=gG k):=by
  refine⟨λk=>if k<next then(match gG k with|none=>none|some x=>match ag r2.M k with|some y=>some y|none=>match ag M k with|none=>some x|some _=>some .dead)else none,?_,?_,?_,?_⟩
  ·intro k;dsimp only;by_cases hk:k<next
   ·rw[aB hk];cases hc:gG k with
    |none=>simp
    |some x=>cases h2:ag r2.M k<;>cases h3:ag M k<;>simp<;>omega
   ·rw[av hk];simp;left;omega
  ·intro k x hx;dsimp only at hx;split at hx
   ·cases hc:gG k with
    |none=>rw[hc]at hx;cases hx
    |some y=>
     rw[hc]at hx;dsimp only at hx;cases h2:ag r2.M k with
     |some z=>
      rw[h2]at hx;injection hx with hx;subst hx;have:=eG k z (hM _ (kD h2));rw[hc]at this;exact .inr ⟨this,.inr rfl⟩
     |none=>
      rw[h2]at hx;dsimp only at hx;cases h3:ag M k with
      |none=>rw[h3]at hx;injection hx with hx;subst hx;exact .inr ⟨rfl,.inl rfl⟩
      |some z=>rw[h3]at hx;injection hx with hx;exact .inl hx.symm
   ·cases hx
  ·intro k x hx;have h1:=eG k x (hM _ (kD hx));have h2:=NZ _ (kD hx);dsimp only at h2 ⊢;rw[aB h2,h1];dsimp only;rw[hx]
  ·intro k hk h1 h2;dsimp only;rw[aB hk];cases hc:gG k with
   |none=>rfl
   |some x=>rw[h2,h1]
 obtain⟨c2,d1,d2,d3,d4⟩:=aIu;have Fv:∀ k x,c2 k=some x->x.owns=true->gG k=some x:=λk x hk hx=>by
  rcases d2 k x hk with rfl|⟨h1,_⟩
  ·cases hx
  ·exact h1
 have dH:aO B κ c2 w1:=by
  refine⟨c8.base,?_,?_,?_,?_,?_,?_,?_,?_,hm.pg.trans hle⟩
  ·intro k hk;cases aIv:κ k with
   |none=>rfl
   |some l=>
    obtain⟨q1,q2⟩:=BH k l aIv;rcases(d1 k).1 hk with q|q
    ·omega
    ·rw[c8.dF k q]at q2;cases q2
  ·intro k x hk;have oU:k<next:=by
    rcases e7 k next with h|h
    ·exact h
    ·rw[(d1 k).2 (.inl h)]at hk;cases hk
   have gP:∃ y,gG k=some y:=by
    cases hc:gG k with
    |some y=>exact⟨y,rfl⟩
    |none=>rw[(d1 k).2 (.inr hc)]at hk;cases hk
   obtain⟨y,hy⟩:=gP;obtain⟨l,q1,q2⟩:=c8.born k y hy;refine⟨l,sL k oU l q1,?_⟩;rcases d2 k x hk with rfl|⟨h1,h2⟩
   ·trivial
   ·rw[hy]at h1;injection h1 with h1;subst h1;rcases h2 with h2|h2
    ·-- as it ZY
     have e0:cc k=some y:=(iA k oU h2).symm.trans hy;obtain⟨l0,p1,p2⟩:=hm.born k y e0;have p3:=jx k l0 p1;rw[q1]at p3;injection p3 with p3;subst p3;cases y with
     |aM cells ty=>
      obtain⟨b,bL,e1,e2,e3⟩:=q2;obtain⟨b0,ZZ,f1,f2,f3⟩:=p2;rw[e1]at f1;injection f1 with f1 _ _;subst f1;have:bL=ZZ:=Ft e2 (oM jx f2);subst this;exact⟨b,bL,e1,oM hle f2,e3⟩
     |row cells ty size=>
      rcases q2 with q2|⟨b,cap,cur,e1,e2,e3,e4,e5⟩
      ·exact .inl q2
      ·rcases p2 with p2|⟨b0,aIw,aWu,f1,f2,f3,f4,f5⟩
       ·rw[e1]at p2;cases p2.1
       ·have:=Ft e5 (oM jx f5);exact .inr ⟨b,cap,cur,e1,e2,e3,e4,by rw[this];exact oM hle f5⟩
     |view cells=>
      rcases q2 with q2|⟨b,o,cap,bL,e1,e2,e3⟩
      ·exact .inl q2
      ·rcases p2 with p2|⟨b0,o0,aIw,ZZ,f1,f2,f3⟩
       ·rw[e1]at p2;cases p2.1
       ·have:=Ft e2 (oM jx f2);subst this;exact .inr ⟨b,o,cap,bL,e1,oM hle f2,e3⟩
     |fact F=>exact q2
     |dead=>trivial
    ·exact q2.below sL (S9 _ (kD h2))
  ·intro k x b o cap hk hx hl;exact c8.own k x b o cap (Fv k x hk hx) hx (BH k _ hl).2
  ·intro i j x y b o1 c1 o3 c3 hi hx hj hy hl cB;exact c8.inj i j x y b o1 c1 o3 c3 (Fv i x hi hx) hx (Fv j y hj hy) hy (BH i _ hl).2 (BH j _ cB).2
  ·intro i j x F b o cap v hi hx hl hj hv;have gM:gG j=some (.fact F):=by
    rcases d2 j _ hj with h|⟨h,_⟩
    ·cases h
    ·exact h
   exact c8.apart i j x F b o cap v (Fv i x hi hx) hx (BH i _ hl).2 gM (BH j _ hv).2
  ·intro k x b o cap hk hx hl;have aIx:gG k=some x:=by
    rcases d2 k x hk with rfl|⟨h1,_⟩
    ·cases hx
    ·exact h1
   obtain⟨q1,q2⟩:=c8.seen k x b o cap aIx hx (BH k _ hl).2;exact⟨q1,λj y o' aU hj hy hm=>q2 j y o' aU (Fv j y hj hy) hy (BH j _ hm).2⟩
  ·intro j F hj;rcases d2 j _ hj with h|⟨h,_⟩
   ·cases h
   ·exact c8.fa j F h
  ·intro i j F F' hi hj;rcases d2 i _ hi with h|⟨h,_⟩
   ·cases h
   ·rcases d2 j _ hj with h'|⟨h',_⟩
    ·cases h'
    ·exact c8.one i j F F' h h'
 refine hQ κ c2 a1 w1 hle ⟨iI.defers,iI.size,λt=>?_⟩ dH (λk x hk=>d3 k x hk) (λk hk=>(d1 k).2 (.inl (dq hn hk))) (λk hk h1=>?_) kk
 ·have hs:=(ZW iI nC).slot t;have:∀(l:aX),(∀ p∈l,om next p.2=true)->n9 bX (bJ l t) (a1.tmps.getD t undef)->n9 κ (bJ l t) (a1.tmps.getD t undef):=by
   intro l;induction l with
   |nil=>intro _ _;exact .inl rfl
   |cons p l ih=>
    intro hl hc;obtain⟨s,v⟩:=p;by_cases bP:s=t
    ·subst bP;have e:bJ ((s,v)::l) s=v:=by simp[bJ]
     rw[e]at hc ⊢;exact hc.imp id λhc=>hc.low sL (hl _ (aT ..))
    ·have e:bJ ((s,v)::l) t=bJ l t:=by show(if Nat.beq s t then _ else _)=_;rw[oQ bP];rfl
     rw[e]at hc ⊢;exact ih (λp hp=>hl p (bF _ hp)) hc
  exact this r2.fr NY hs
 ·cases h2:ag r2.M k with
  |none=>rw[d4 k hk h1 h2,iA k hk h1]
  |some x=>rw[d3 k x h2,<-iA k hk h1];exact(eG k x (hM _ (kD h2))).symm
end
section
variable{P:j_}{B:aa}{N:Nat}
def N0(P:j_)(fr:aX)(M:aL):ResultVar->Option Value
 |.tmp t=>if mK (bJ fr t)then none else some (bJ fr t)
 |.cell t ty=>match bJ fr t with
  |.pointer (some ad)=>if nu ad then(match ag M ad.block with|some x=>if x.reads then dI P ty x.cells ad.off else none|none=>none)else none
  |_=>none
def Kq(P:j_)(fr:aX)(M:aL):List ResultVar->Option ak
 |[]=>some []
 |r::l=>match N0 P fr M r with
  |some v=>match Kq P fr M l with|some vs=>some (v::vs)|none=>none
  |none=>none
def BI(P:j_)(fn:Func)(fr:aX)(M:aL):Option Value:=
 match Kq P fr M fn.results.toList with
 |some [v]=>some v
 |some vs=>some (.tuple vs.toArray)
 |none=>none
def rv(tmps:p_):ResultVar->Sem Value
 |.tmp t=>pure (tmps.getD t undef)
 |.cell x t=>do loadVar t (<-asAddr (tmps.getD x undef))
theorem aIy{cc:Nat->Option Obj}{a:Act}{w:h_}(hf:fR B ι (bJ fr) N a)(hm:aO B ι cc w)(ha:cY cc M){r:ResultVar}{v:i_}
  (h:N0 P fr M r=some v):∃ v',aK ι v v'/\(rv a.tmps r).run P w=.ok v' w:=by
 cases r with
 |tmp t=>
  unfold N0 at h;dsimp only at h;split at h
  ·cases h
  ·rename_i hn;injection h with h;subst h;exact⟨_,(hf.slot t).Bp (by simpa using hn),rfl⟩
 |cell t ty=>
  unfold N0 at h;dsimp only at h;split at h
  ·rename_i ad hx;split at h
   ·rename_i dX;split at h
    ·rename_i x hblk;split at h
     ·rename_i hrd;have hc:=hf.slot t;rw[hx]at hc;have hc:=hc.Bp rfl;rw[Db dX]at hc;obtain⟨v',a',he,tW,qy⟩:=Y0 hm (ha _ _ hblk) hrd h hc;refine⟨v',tW,?_⟩;unfold rv;dsimp only;rw[he];simp[asAddr,qy]
     ·cases h
    ·cases h
   ·cases h
  ·cases h
theorem Z0{ι:Map}{cc:Nat->Option Obj}{fr:aX}{M:aL}{a:Act}{w:h_}(hf:fR B ι (bJ fr) N a)(hm:aO B ι cc w)(ha:cY cc M):∀(l:List ResultVar) {vs:ak},
  Kq P fr M l=some vs->∃ cT,bW (aK ι) vs cT/\(l.mapM (rv a.tmps)).run P w=.ok cT w
 |[],vs,h=>by injection h with h;subst h;exact⟨[],.nil,rfl⟩
 |r::l,vs,h=>by
  unfold Kq at h;split at h
  ·rename_i v hv;split at h
   ·rename_i vs1 aZ;injection h with h;subst h;obtain⟨v',hc,qy⟩:=aIy hf hm ha hv;obtain⟨cT,gh,aIz⟩:=Z0 hf hm ha l aZ;refine⟨v'::cT,.cons hc gh,?_⟩;rw[Kr,J8,qy,Result.andThen_ok,J8,aIz,Result.andThen_ok];rfl
   ·cases h
  ·cases h
theorem N1{cc:Nat->Option Obj}{a:Act}{w:h_}(hf:fR B ι (bJ fr) N a)(hm:aO B ι cc w)(ha:cY cc M){v:i_}
  (h:BI P fn fr M=some v):∃ v',aK ι v v'/\(results fn a.tmps).run P w=.ok v' w:=by
 unfold BI at h;cases hr:Kq P fr M fn.results.toList with
 |none=>rw[hr]at h;cases h
 |some vs=>
  obtain⟨cT,gh,qy⟩:=Z0 hf hm ha _ hr;have e:(results fn a.tmps).run P w=.ok (if h:cT.toArray.size=1 then cT.toArray[0]else .tuple cT.toArray) w:=by
   have e0:results fn a.tmps=(do let vs <-fn.results.mapM (rv a.tmps);pure (if h:vs.size=1 then vs[0]else .tuple vs)):=by
    unfold results
    congr 1
   rw[e0];rw[Array.mapM_eq_mapM_toList,J8,Sem.run_map,qy];rfl
  rw[e];rw[hr]at h;cases gh with
  |nil=>injection h with h;subst h;exact⟨_,.same rfl,by simp⟩
  |cons h1 t1=>
   cases t1 with
   |nil=>injection h with h;subst h;exact⟨_,h1,by simp⟩
   |cons h2 t2=>injection h with h;subst h;exact⟨_,.tup (.cons h1 (.cons h2 t2)),by simp⟩
def jh:Nat->ak->aX
 |_,[]=>[]
 |i,v::l=>(i,v)::jh (i+1) l
theorem N2{ι:Map}:∀{l l':ak},bW (aK ι) l l'->∀(i t:Nat) (tail:ak),n9 ι (bJ (jh i l) t) (if i<=t then(l'++tail).getD (t-i) undef else undef)\/mK (bJ (jh i l) t)=true
 |_,_,.nil,i,t,tail=>.inr rfl
 |_,_,.cons (a:=v) (b:=v') (l:=l) (m:=m) h k,i,t,tail=>by
  by_cases zw:i=t
  ·subst zw;left;right;have e:bJ (jh i (v::l)) i=v:=by simp[jh,bJ]
   rw[e];simpa using h
  ·have e:bJ (jh i (v::l)) t=bJ (jh (i+1) l) t:=by show(if Nat.beq i t then _ else _)=_;rw[oQ zw];rfl
   rw[e];rcases N2 k (i+1) t tail with h1|h1
   ·left;by_cases al:i+1<=t
    ·rw[aB al]at h1;rw[aB o_];have:t-i=(t-(i+1))+1:=by omega
     rw[this];simpa using h1
    ·by_cases hle:i<=t
     ·omega
     ·rw[av al]at h1;rw[av hle];exact h1
   ·exact .inr h1
theorem Z1{c:Code}{Q:Exit->Act->World->Prop}{a:Act}{w:h_}{n:Nat}(h:c.wpIn (FW none) n P Q a w):c.wp P Q a w:=wpIn_wide.1 h
theorem aIA{c:Code}{next:Nat}{r:mQ}{v:i_}{cc:Nat->Option Obj}{w:h_}
  (hf:P.funcs[f]?=some fn) (hb:fn.body=some c) (hN:N=args.length+(fn.ntmps-args.length)) (g:ai P B N c (jh 0 args) M next r) (hex:(match r.ex with|.exit _=>false|_=>true)=true)
  (hv:BI P fn r.fr r.M=some v) (du:bW (aK ι) args args') (hm:aO B ι cc w) (ha:cY cc M) (hu:eF cc next)
  (hQ:∀ az cr v' w',Map.le ι az->aK az v v'->aO B az cr w'->cY cr r.M->eF cr r.next->(∀ k,k<next->ag M k=none->cr k=cc k)->Q (.returned v') w') (nD:B.ds=[]:=by rfl):Calls P f args'.toArray w Q:=by
 refine calls_of_wp hf hb ?_;have nC:fR B ι (bJ (jh 0 args)) N { tmps:=args'.toArray++Array.replicate (fn.ntmps-args'.toArray.size) undef,defers:=[]}:=by
  refine⟨nD.symm,by simp[hN,du.length],λt=>?_⟩;rcases N2 du 0 t (List.replicate (fn.ntmps-args'.length) undef)with h|h
  ·simp only[lM,rm,HL]at h;have e:(args'.toArray++Array.replicate (fn.ntmps-args'.toArray.size) undef).getD t undef=(args'++List.replicate (fn.ntmps-args'.length) undef).getD t undef:=by simp[qC,Ff,<-Array.getElem?_toList]
   dsimp only;rw[e];exact h
  ·exact .inl h
 refine Z1 (g none ι cc _ w _ nC hm ha hu λaz cr a' w' hle xF bE jk ki gN _=>by
  obtain⟨v',hc,qy⟩:=N1 (fn:=fn) xF bE jk hv;have fin:=hQ az cr v' w' hle hc bE jk ki gN;cases hx:r.ex with
  |normal=>exact⟨xF.defers.trans nD,v',qy,fin⟩
  |ret=>exact⟨xF.defers.trans nD,v',qy,fin⟩
  |exit id=>rw[hx]at hex;cases hex)
def gv(fn:Func)(n:Nat)(args:ak)(M:aL)(next:Nat)(rs:bM P B N):Option (Value×kj P B N):=
 match fn.body with
 |some c=>match ji n c (jh 0 args) M next rs with
  |some r=>match (match r.ex with|.exit _=>none|_=>BI P fn r.fr r.M)with
   |some v=>some (v,r)
   |none=>none
  |none=>none
 |none=>none
def oq(o:Option (Value×kj P B N))(ms:aL):Bool×Option (Value×List (Option Obj)×List oR):=
 match o with
 |some r=>(true,some (r.1,ms.map λp=>ag r.2.M p.1,r.2.tr.map (·.1)))
 |none=>(true,none)
def ou(o:Option (Value×kj P B N))(v:i_)(ms:aL):Bool×Option (Value×List (Option Obj)×List oR):=
 match o with
 |some r=>(true,some (v,ms.map λp=>some p.2,r.2.tr.map (·.2)))
 |none=>(false,none)
theorem N3:∀{tr:wC},tr.map (·.1)=tr.map (·.2)->sH tr
 |[],_=>λp hp=>by cases hp
 |q::l,h=>by
  simp only[nE]at h;injection h with h1 h2;intro p hp;rcases cC.1 hp with rfl|hp
  ·exact h1
  ·exact N3 h2 p hp
theorem N4{M:aL}:∀{ms:aL},(ms.map λp=>ag M p.1)=(ms.map λp=>some p.2)->∀ p∈ms,ag M p.1=some p.2
 |[],_=>λp hp=>by cases hp
 |q::l,h=>by
  simp only[nE]at h;injection h with h1 h2;intro p hp;rcases cC.1 hp with rfl|hp
  ·exact h1
  ·exact N4 h2 p hp
theorem Ta{next:Nat}{rs:bM P B N}{v:i_}{cc:Nat->Option Obj}{w:h_}(gW:P.follows .mixedOrders=true)
  (hf:P.funcs[f]?=some fn) (hN:N=args.length+(fn.ntmps-args.length)) (n:Nat) (h:oq (gv (P:=P) fn n args M next rs) ms=ou (gv fn n args M next rs) v ms)
  (du:bW (aK ι) args args') (hm:aO B ι cc w) (ha:cY cc M) (hu:eF cc next)
  (hQ:∀ az cr v' w',Map.le ι az->aK az v v'->aO B az cr w'->(∀ p∈ms,cr p.1=some p.2)->(∀ k,k<next->ag M k=none->cr k=cc k)->Q (.returned v') w') (nD:B.ds=[]:=by rfl):Calls P f args'.toArray w Q:=by
 cases ho:gv (P:=P) fn n args M next rs with
 |none=>rw[ho]at h;cases h
 |some r=>
  rw[ho]at h;unfold oq ou at h;dsimp only at h;injection h with _ h;injection h with h;injection h with h1 h;injection h with h2 h3;have hs:=N3 h3;have dQ:=N4 h2;unfold gv at ho;split at ho
  ·rename_i c hb;split at ho
   ·rename_i r' hr;split at ho
    ·rename_i v' hv;injection ho with ho;subst ho;dsimp only at h1 hs dQ;subst h1;have g:=((S4 (P:=P) (B:=B) (N:=N) gW n).1 c _ M next rs r' hr hs).1;have hex:(match r'.out.ex with|.exit _=>false|_=>true)=true:=by
      show(match r'.ex with|.exit _=>false|_=>true)=true;cases hx:r'.ex with
      |exit id=>rw[hx]at hv;cases hv
      |normal=>rfl
      |ret=>rfl
     have rq:BI P fn r'.out.fr r'.out.M=some v':=by
      show BI P fn r'.fr r'.M=some v';cases hx:r'.ex with
      |exit id=>rw[hx]at hv;cases hv
      |normal=>rw[hx]at hv;exact hv
      |ret=>rw[hx]at hv;exact hv
     exact aIA hf hb hN g hex rq du hm ha hu (λaz cr v2 w' hle hc bE jk ki gN=>hQ az cr v2 w' hle hc bE (λp hp=>jk _ _ (dQ p hp)) gN) nD
    ·cases ho
   ·cases ho
  ·cases ho
theorem sO{next:Nat}{rs:bM P B N}{v:i_}{cc:Nat->Option Obj}{w:h_}(gW:P.follows .mixedOrders=true)
  (hf:P.funcs[f]?=some fn) (hN:N=args.length+(fn.ntmps-args.length)) (n:Nat) (h:oq (gv (P:=P) fn n args M next rs) ms=ou (gv fn n args M next rs) v ms)
  (du:bW (aK ι) args args') (hm:aO B ι cc w) (ha:cY cc M) (hu:eF cc next)
  (hQ:∀ az cr v' w',Map.le ι az->aK az v v'->aO B az cr w'->(∀ p∈ms,cr p.1=some p.2)->Q (.returned v') w') (nD:B.ds=[]:=by rfl):Calls P f args'.toArray w Q:=
 Ta gW hf hN n h du hm ha hu (λaz cr v' w' h1 h2 h3 h4 _=>hQ az cr v' w' h1 h2 h3 h4) nD
def Ks(o:Option (kj P B N))(fr:aX)(M:aL):Bool×Option (Ex×ak×List (Option Obj)×Bool×List oR):=
 match o with
 |some r=>(true,some (r.ex,fr.map λp=>bJ r.fr p.1,M.map λp=>ag r.M p.1,true,r.tr.map (·.1)))
 |none=>(true,none)
def Ku(o:Option (kj P B N))(ex:Ex)(fr:aX)(M:aL)(next:Nat):Bool×Option (Ex×ak×List (Option Obj)×Bool×List oR):=
 match o with
 |some r=>(true,some (ex,fr.map λp=>p.2,M.map λp=>some p.2,Nat.ble r.next next,r.tr.map (·.2)))
 |none=>(false,none)
theorem N5{BF:aX}:∀{fr:aX},(fr.map λp=>bJ BF p.1)=(fr.map λp=>p.2)->∀ p∈fr,bJ BF p.1=p.2
 |[],_=>λp hp=>by cases hp
 |q::l,h=>by
  simp only[nE]at h;injection h with h1 h2;intro p hp;rcases cC.1 hp with rfl|hp
  ·exact h1
  ·exact N5 h2 p hp
theorem fD(gW:P.follows .mixedOrders=true){c:Code}{next:Nat}(n:Nat)(rs:bM P B N){r:mQ}
  (h:Ks (ji n c fr M next rs) r.fr r.M=Ku (ji n c fr M next rs) r.ex r.fr r.M r.next):ai P B N c fr M next r:=by
 cases ho:ji n c fr M next rs with
 |none=>rw[ho]at h;cases h
 |some r1=>
  rw[ho]at h;unfold Ks Ku at h;dsimp only at h;injection h with _ h;injection h with h;injection h with h1 h;injection h with h2 h;injection h with h3 h;injection h with h4 h5;obtain⟨g,_⟩:=(S4 (P:=P) (B:=B) (N:=N) gW n).1 c fr M next rs r1 ho (N3 h5);exact g.to h1 (N5 h2) (N4 h3) (sF h4.symm)
theorem vn(gW:P.follows .mixedOrders=true){c:Code}{next:Nat}(n:Nat)(rs:bM P B N){r:mQ}{gH:Nat}
  (h:Ks (ji n c fr M next rs) r.fr r.M=Ku (ji n c fr M next rs) r.ex r.fr r.M gH) (hn:r.next=next) (NY:(r.fr.all λp=>om next p.2)=true) (S9:∀ p∈r.M,fV next p.2) (NZ:(r.M.all λp=>Nat.blt p.1 next)=true) :
  ai P B N c fr M next r:=by
 cases ho:ji n c fr M next rs with
 |none=>rw[ho]at h;cases h
 |some r1=>
  rw[ho]at h;unfold Ks Ku at h;dsimp only at h;injection h with _ h;injection h with h;injection h with h1 h;injection h with h2 h;injection h with h3 h;injection h with h4 h5;obtain⟨g,_⟩:=(S4 (P:=P) (B:=B) (N:=N) gW n).1 c fr M next rs r1 ho (N3 h5);rw[bB]at NY NZ;exact g.reset h1 (N5 h2) NY (N4 h3) S9 (λp hp=>by simpa[BB]using NZ p hp) (u5 hn.symm)
def aF(P:j_)(f:FuncId)(args:ak)(res:i_):Prop:=
 ∀ w:World,Calls P f args.toArray w λe w'=>e=.returned res/\Below w.heap.size w w'
theorem rG(w:h_):aO (aa.at w) (λ_=>none) (λ_=>none) w:=
 ⟨Below.refl _ _,λ_ _=>rfl,λk x h=>(by cases h),λk x b o cap h=>(by cases h),λk j x y b o cap o' aU h=>(by cases h),λk j x F b o cap v h=>(by cases h),λk x b o cap h=>(by cases h),λj F h=>(by cases h),λj k F F' h=>(by cases h),λ_ _ h=>(by cases h)⟩
theorem fW{v:i_}(gW:P.follows .mixedOrders=true)(hf:P.funcs[f]?=some fn)(n:Nat)(rs:∀ w,bM P (aa.at w) (args.length+(fn.ntmps-args.length)))
  (h:∀ w,oq (gv (P:=P) fn n args [] 0 (rs w)) []=ou (gv fn n args [] 0 (rs w)) v []) (du:args.all flat=true) (hv:flat v=true):aF P f args v:=by
 intro w;rw[bB]at du;exact sO gW hf rfl n (h w) (kO du) (rG w) n_ (λ_ _=>rfl) λaz cr v' w' _ hc hm _=>⟨by rw[hc.eZ hv],hm.base⟩
def aF.at(h:aF P f args res)(key:Nat):bd P B N:=.call key f args res λw _=>h w
end
def cW(w:h_)(v:i_)(n:Nat)(xs:ak):Prop:=
 (v=.slice none 0 0/\n=0/\xs=[])\/∃ b o c',v=.slice (some ⟨b,o,none⟩) n c'/\n<=c'/\b<w.heap.size/\∀ j u,xs[j]?=some u->w.cell? ⟨b,o+j,none⟩=some u
section
variable{P:j_}{B:aa}{N:Nat}
theorem cW.iu{w w':h_}{v:i_}{n:Nat}{xs:ak}(h:cW w v n xs)(hb:Below w.heap.size w w'):cW w' v n xs:=by
 rcases h with h|⟨b,o,c',h1,h2,h3,h4⟩
 ·exact .inl h
 ·exact .inr ⟨b,o,c',h1,h2,cG h3 hb.size,λj u hj=>by rw[hb.cell h3];exact h4 j u hj⟩
theorem cW.Z2{w:h_}{base:Nat}{size:Nat}{v:i_}{n:Nat}{xs:ak}(h:w.ownsRow base ty size v n xs):cW w v n xs:=by
 rcases h.2 with ⟨h1,h2⟩|⟨g,cap,cur,h1,h2,h3,h4,h5,h6,h7⟩
 ·have:=h.1;rw[h2,lP]at this;exact .inl ⟨h1,h2,mf this⟩
 ·refine .inr ⟨g,0,cap,h1,h4,(zx.1 h3).1,λj u hj=>?_⟩;rw[<-h7,u4]at hj;split at hj
  ·have:cur[j]?=some u:=by simpa using hj
   simp[World.cell?,h3,this]
  ·cases hj
theorem po{w:h_}(hm:aO B ι c w){k n:Nat}{x:Obj}{v:i_}(hk:c k=some x)(hx:x.reads=true)(cR:∀ u∈x.cells,flat u=true)
  (hlen:n=0->len=0) (hc:aK ι (.slice (some ⟨k,off,some 7⟩) n cc) v):cW w v n ((x.cells.drop off).take len):=by
 rcases hc.iF rfl with ⟨hb,kQ,qB,zo,he⟩|⟨b,oo,cap,c',hb,lg,nA,he⟩
 ·exact .inl ⟨he,kQ,by rw[hlen kQ];rfl⟩
 ·dsimp only at hb he;obtain⟨l,h1,h2⟩:=hm.born k x hk;rw[hb]at h1;injection h1 with h1;subst h1;obtain⟨bL,gh,lK⟩:=h2.at hx;have gh:=oc gh cR;subst gh;refine .inr ⟨b,oo+off,c',he,lg,?_,λj u hj=>?_⟩
  ·by_cases ho:x.owns=true
   ·exact(hm.own k x b oo cap hk ho hb).1
   ·have hv:x.kh=true:=by unfold Obj.reads at hx;rw[vl]at hx;exact hx.resolve_left ho
    exact(hm.seen k x b oo cap hk hv hb).1
  ·rw[u4]at hj;split at hj
   ·rw[E5]at hj;rw[u9];exact lK _ _ hj
   ·cases hj
theorem zy{w:h_}(hm:aO B ι c w){k n:Nat}{v:i_}{xs:ak}(hk:c k=none)(h:cW w v n xs)(cR:∀ u∈xs,flat u=true)
  (fX:∀ b o c',v=.slice (some ⟨b,o,none⟩) n c'->∀ j y o' aU,c j=some y->y.owns=true->ι j≠some (.at b o' aU)) :
  ∃ az,Map.le ι az/\aO B az (bA c k (.view xs)) w/\aK az (.slice (some ⟨k,0,some 7⟩) n 0) v:=by
 rcases h with ⟨h1,h2,h3⟩|⟨b,o,c',h1,h2,h3,h4⟩
 ·subst h1;subst h2;subst h3;exact⟨dS ι k .nil,ij (hm.dF k hk),hm.add hk (.inl ⟨rfl,rfl⟩) n_ n_ n_,.slcN (gg _ _ _)⟩
 ·subst h1;refine⟨dS ι k (.at b o c'),ij (hm.dF k hk),hm.add hk (.inr ⟨b,o,c',xs,rfl,kO cR,h4⟩) n_ n_ (λb1 o1 l8 _ e=>?_),.slc (off:=0) (gg _ _ _) h2 o_⟩;injection e with e1 e2 e3;subst e1;exact⟨h3,λj y o' aU hj hy=>fX b o c' rfl j y o' aU hj hy⟩
theorem Fw{w w':h_}(hm:aO B ι c w)(hb:Below w.heap.size w w'){k n size:Nat}{v:i_}{xs:ak}(hk:c k=none)(h:w'.ownsRow w.heap.size ty size v n xs)(cR:∀ u∈xs,flat u=true):
  ∃ az,Map.le ι az/\aO B az (bA c k (.row xs ty size)) w'/\aK az (.slice (some ⟨k,0,some 7⟩) n 0) v:=by
 have bE:=hm.call hb;rcases h.2 with ⟨h1,h2⟩|⟨g,cap,cur,h1,h2,h3,h4,h5,h6,h7⟩
 ·have hl:=h.1;rw[h2,lP]at hl;have hx:xs=[]:=mf hl;subst h1;subst h2;subst hx;exact⟨dS ι k .nil,ij (hm.dF k hk),bE.add hk (.inl ⟨rfl,rfl⟩) n_ n_ n_,.slcN (gg _ _ _)⟩
 ·subst h1;refine⟨dS ι k (.at g 0 cap),ij (hm.dF k hk),hm.new hb hk (.inr ⟨g,cap,cur,rfl,h3,h5,h6,?_⟩) (λb o cap _ e=>?_) n_ rfl,.slc (o:=0) (off:=0) (gg _ _ _) h4 o_⟩
  ·rw[h.1,h7];exact kO cR
  ·injection e with e1 e2 e3;subst e1;exact⟨h2,(zx.1 h3).1⟩
theorem Z3{w w':h_}(hm:aO B ι c w)(hb:Below w.heap.size w w'){k n size:Nat}{v:i_}{xs:ak}(hk:c k=none)(h:w'.ownsRow w.heap.size ty size v n xs)(cR:∀ u∈xs,flat u=true):
  ∃ az,Map.le ι az/\aO B az (bA c k (.view xs)) w'/\aK az (.slice (some ⟨k,0,some 7⟩) n 0) v:=by
 refine zy (hm.call hb) hk (.Z2 h) cR λb o c' e j y o' aU hj hy he=>?_;have h1:=(hm.own j y b o' aU hj hy he).1;rcases h.2 with ⟨h2,_⟩|⟨g,cap,cur,h2,h3,_⟩
 ·rw[h2]at e;cases e
 ·rw[h2]at e;injection e with e1 e2;injection e1 with e1;injection e1 with e1;omega
theorem xI{w w':h_}(hm:aO (aa.at w) ι c w'){k n size:Nat}{cells:ak}{v:i_}(hk:c k=some (.row cells ty size))(hv:aK ι (.slice (some ⟨k,0,some 7⟩) n 0) v)
  (hn:n*size<=cells.length) (cR:∀ u∈cells,flat u=true):w'.ownsRow w.heap.size ty size v n (cells.take (n*size)):=by
 have hl:(cells.take (n*size)).length=n*size:=by rw[jH];omega
 refine⟨hl,?_⟩;rcases hv.iF rfl with ⟨hb,kQ,qB,zo,he⟩|⟨b,oo,cap,c',hb,lg,nA,he⟩
 ·exact .inl ⟨he,kQ⟩
 ·dsimp only at hb he;have kS:c'=cap:=by omega
  subst kS;obtain⟨l,h1,h2⟩:=hm.born k _ hk;rw[hb]at h1;injection h1 with h1;subst h1;have dX:=hm.own k _ b oo c' hk rfl hb;rcases h2 with h2|⟨b',aU,cur,e1,mN,dO,gh,jw⟩
  ·cases h2.1
  ·injection e1 with e1 e2 e3;subst e1;subst e2;subst e3;refine .inr ⟨b,c',cur,by rw[he],?_,mN,lg,dO,gh,?_⟩
   ·rcases e7 b w.heap.size with h|h
    ·exact absurd h dX.2
    ·exact h
   ·have:=oc jw cR;have h3:=cO (List.take (n*size)) this;rw[NC,oP hn]at h3;exact h3
inductive cH where
 |plain (v:i_)
 |row (v:i_) (n:Nat) (xs:ak)
def cH.real:cH->Value
 |.plain v=>v
 |.row v _ _=>v
def cH.OK(w:h_):cH->Prop
 |.plain v=>flat v=true
 |.row v n xs=>cW w v n xs/\∀ u∈xs,flat u=true
def sP:Nat->List cH->ak
 |_,[]=>[]
 |k,.plain v::l=>v::sP k l
 |k,.row _ n _::l=>.slice (some ⟨k,0,some 7⟩) n 0::sP (k+1) l
def vo:Nat->List cH->aL
 |_,[]=>[]
 |k,.plain _::l=>vo k l
 |k,.row _ _ xs::l=>(k,.view xs)::vo (k+1) l
def uc:Nat->List cH->Nat
 |k,[]=>k
 |k,.plain _::l=>uc k l
 |k,.row _ _ _::l=>uc (k+1) l
theorem Tb{w:h_}:∀(l:List cH) (k:Nat) (ι:Map) (c:Nat->Option Obj),aO B ι c w->(∀ j x,c j=some x->x.owns=false)->eF c k->(∀ s∈l,cH.OK w s)->
  ∃ az c',Map.le ι az/\aO B az c' w/\(∀ j x,c' j=some x->x.owns=false)/\eF c' (uc k l)/\cY c' (vo k l)/\(∀ j,j<k->c' j=c j)/\bW (aK az) (sP k l) (l.map cH.real)/\k<=uc k l
 |[],k,ι,c,hm,ho,hu,_=>⟨ι,c,Map.le.refl _,hm,ho,hu,λk x h=>(by cases h),λ_ _=>rfl,.nil,bC _⟩
 |.plain v::l,k,ι,c,hm,ho,hu,hl=>by obtain⟨az,c',h1,h2,h3,h4,h5,h6,h7,h8⟩:=Tb l k ι c hm ho hu λs hs=>hl s (bF _ hs);exact⟨az,c',h1,h2,h3,h4,h5,h6,.cons (.same (hl _ (aT ..))) h7,h8⟩
 |.row v n xs::l,k,ι,c,hm,ho,hu,hl=>by
  obtain⟨hr,cR⟩:=hl _ (aT ..);obtain⟨bX,q1,q2,q3⟩:=zy hm (hu k (bC _)) hr cR λb o c' _ j y o' aU hj hy=>by rw[ho j y hj]at hy;cases hy
  obtain⟨az,c',h1,h2,h3,h4,h5,h6,h7,h8⟩:=Tb l (k+1) bX _ q2 (λj x hj=>by
   unfold bA at hj;split at hj
   ·injection hj with hj;subst hj;rfl
   ·exact ho j x hj) (λj hj=>by
   unfold bA;rw[av o_];exact hu j o_) λs hs=>hl s (bF _ hs)
  refine⟨az,c',q1.trans h1,h2,h3,h4,λj x hj=>?_,λj hj=>?_,.cons (q3.mono h1) h7,by show k<=uc (k+1) l;omega⟩
  ·unfold vo ag at hj;split at hj
   ·rename_i hb;injection hj with hj;subst hj;rw[<-lj hb,h6 k o_];unfold bA;rw[aB rfl]
   ·exact h5 j x hj
  ·rw[h6 j o_];unfold bA;rw[av o_]
theorem mh{w:h_}{v:i_}(gW:P.follows .mixedOrders=true)(hf:P.funcs[f]?=some fn)(l:List cH)(hl:∀ s∈l,cH.OK w s)(n:Nat){N:Nat}(hN:N=(sP 0 l).length+(fn.ntmps-(sP 0 l).length))
  {rs:bM P (aa.at w) N}
  (h:oq (gv (P:=P) fn n (sP 0 l) (vo 0 l) (uc 0 l) rs) ms=ou (gv fn n (sP 0 l) (vo 0 l) (uc 0 l) rs) v ms)
  (hQ:∀ az cr v' w',aK az v v'->aO (aa.at w) az cr w'->(∀ p∈ms,cr p.1=some p.2)->bW (aK az) (sP 0 l) (l.map cH.real)->Q (.returned v') w'):Calls P f (l.map cH.real).toArray w Q:=by
 obtain⟨ι,c,h1,h2,h3,h4,h5,h6,h7,h8⟩:=Tb (B:=aa.at w) l 0 _ _ (rG w) n_ (λ_ _=>rfl) hl;exact sO gW hf hN n h h7 h2 h5 h4 λaz cr v' w' hle hc hm dQ=>hQ az cr v' w' hc hm dQ (h7.imp λ_ _ _ h=>h.mono hle)
def dD:Op->Option Operand
 |.call ⟨.value x,_,_⟩=>some x
 |_=>none
theorem jV{x:m_}{fi:ak}{val:i_}{cZ:aL}(ho:dD o.op=some x)(e8:gO P f=true)
  (h:∀ ι c w,aO B ι c w->(∀ p∈need,c p.1=p.2)->∀ args',bW (aK ι) (fi++args++ca) args'->Calls P f args'.toArray w λe w'=>∃ az v',e=.returned v'/\Map.le ι az/\aK az val v'/\aO B az (l9 c cZ) w') :
  cI P B o (.func (.func f) fi.toArray ca.toArray::args) need val cZ:=by
 intro R ι c a w hv hm hn K Q hK;obtain⟨dst,op,ty,pos,after,guard⟩:=o;dsimp only at ho hv;unfold dD at ho;split at ho
 ·rename_i x' lN xA;injection ho with ho;subst ho;have zk:(Op.operands (.call ⟨.value x',lN,xA⟩)).toList=x'::lN.toList:=by simp[Op.operands,Call.operands]
  rw[zk]at hv;cases hv with
  |cons hx sG=>
  obtain⟨kg,eh,he,h1,h2⟩:=hx.Bo;have bh:=(h1.append sG).append h2;dsimp only at bh;have e3:execOp a.eval ⟨dst,.call ⟨.value x',lN,xA⟩,ty,pos,after,guard⟩=callFunc f (kg++lN.map a.eval++eh):=by have:execOp a.eval ⟨dst,.call ⟨.value x',lN,xA⟩,ty,pos,after,guard⟩=(do let d <-Deferred.ofValue (a.eval x') (lN.map a.eval);invoke d.target d.args):=rfl;rw[this,he];rfl
  have e4:(kg++lN.map a.eval++eh:p_)=(kg.toList++List.map a.eval lN.toList++eh.toList).toArray:=by apply E9;simp
  refine⟨λ_ _=>trivial,?_⟩;rw[Nv _ _ _ n_,e3,e4,NK e8,Oper.uponIn_enter];refine⟨λe=>(by cases e),Kd.2 ((h ι c w hm hn _ bh).mono ?_)⟩
  rintro e w' ⟨az,v',rfl,q1,q2,q3⟩
  exact hK az v' w' q1 q2 q3
 ·cases ho
end
def zz:Code->Nat->Option Oper
 |.region _ ops _,k=>ops.toList.find? λo=>Nat.beq (NJ o) k
 |.seq x y,k=>match zz x k with|some o=>some o|none=>zz y k
 |.cond _ x y,k=>match zz x k with|some o=>some o|none=>zz y k
 |.block _ b,k=>zz b k
 |.loop b,k=>zz b k
 |.scope b,k=>zz b k
 |.rangeFunc _ _ x y,k=>match zz x k with|some o=>some o|none=>zz y k
 |_,_=>none
def aw(fn:Func)(k:Nat):Oper:=match fn.body with|some c=>(match zz c k with|some o=>o|none=>default)|none=>default
def zC:Code->Nat->Option Code
 |.seq x y,k=>match zC x k with|some o=>some o|none=>zC y k
 |.cond _ x y,k=>match zC x k with|some o=>some o|none=>zC y k
 |.block id b,k=>if Nat.beq id k then some b else zC b k
 |.loop b,k=>zC b k
 |.scope b,k=>zC b k
 |.rangeFunc _ _ x y,k=>match zC x k with|some o=>some o|none=>zC y k
 |_,_=>none
def ah(fn:Func)(k:Nat):Code:=match fn.body with|some c=>(match zC c k with|some o=>o|none=>.skip)|none=>.skip
def aJ(c:Code):Code:=match c with|.loop b=>b|_=>.skip
section
variable{P:j_}{B:aa}{N:Nat}
def vI(n:Nat):Value:=.int .i64 n
def bd.sum(key i j s:Nat)(h:s=i+j)(hs:s<9223372036854775808):bd P B N:=
 .rw key (.int .i64 (IntKind.i64.wrap ((i:Int)+(j:Int)))) (vI s) (by
  have e:IntKind.i64.wrap ((i:Int)+(j:Int))=(s:Int):=by rw[dh];omega
  rw[e];rfl)
def bd.fp(key i j s:Nat)(h:i=s+j)(hs:i<9223372036854775808):bd P B N:=
 .rw key (.int .i64 (IntKind.i64.wrap ((i:Int)-(j:Int)))) (vI s) (by
  have e:IntKind.i64.wrap ((i:Int)-(j:Int))=(s:Int):=by rw[dh];omega
  rw[e];rfl)
def bd.lt(key i n:Nat)(b:Bool)(h:decide (i<n)=b):bd P B N:=
 .rw key (.bool (decide ((i:Int)<(n:Int)))) (.bool b) (by rw[<-h];congr 1;rw[sQ];omega)
def bd.gt(key i n:Nat)(b:Bool)(h:decide (n<i)=b):bd P B N:=
 .rw key (.bool (decide ((i:Int)>(n:Int)))) (.bool b) (by rw[<-h];congr 1;rw[sQ];omega)
def bd.ge(key i n:Nat)(b:Bool)(h:decide (n<=i)=b):bd P B N:=
 .rw key (.bool (decide ((i:Int)>=(n:Int)))) (.bool b) (by rw[<-h];congr 1;rw[sQ];omega)
def bd.fN(key i n:Nat)(b:Bool)(h:decide (i=n)=b):bd P B N:=
 .rw key (.bool ((i:Int)==(n:Int))) (.bool b) (by
  rw[<-h];congr 1
  by_cases hi:i=n
  ·subst hi;simp
  ·have:¬((i:Int)=(n:Int)):=by omega
   rw[aP hi];simpa using this)
def bd.wr(key:Nat)(k:IntKind)(m m':Int)(h:k.wrap m=m'):bd P B N:=.rw key (.int k (k.wrap m)) (.int k m') (by rw[h])
def bd.quo(key:Nat)(k:IntKind)(m m':Int)(h:m=m'):bd P B N:=.rw key (.int k m) (.int k m') (by rw[h])
def xJ(P:j_)(o:Oper):Option Nat:=match o.op with
 |.indexAddr t _ _=>match P.underlying t with|some (.slice e)=>(match P.info? e with|some i=>some i.size|none=>none)|_=>none
 |_=>none
theorem N6{s:Nat}(ho:xJ P o=some s){k n:Nat}{kd:IntKind}(hi:i<n):
  cI P B o [.slice (some ⟨k,off,some 7⟩) n cc,.int kd i] [] (.pointer (some ⟨k,off+i*s,some 7⟩)) []:=by
 unfold xJ at ho;split at ho
 ·rename_i t x y cg;split at ho
  ·rename_i e ht;split at ho
   ·rename_i inf Bt;injection ho with ho;have:=Y7 (P:=P) (B:=B) cg ht Bt (kd:=kd) (n:=(i:Int)) (len:=n) (cc:=cc) o_ o_ k off;rw[Int.toNat_natCast,ho]at this;exact this.step
   ·cases ho
  ·cases ho
 ·cases ho
def bd.ix(fn:Func)(key k n i:Nat)(hi:i<n)(ho:xJ P (aw fn key)=some 1):bd P B N:=
 .step key (aw fn key) [.slice (some ⟨k,0,some 7⟩) n 0,vI i] [] (.pointer (some ⟨k,i,some 7⟩)) [] (by have:=N6 (B:=B) ho (k:=k) (off:=0) (cc:=0) (kd:=.i64) hi;rw[kA,gS]at this;exact this)
def bd.xK(fn:Func)(key k off n cc i:Nat)(hi:i<n)(ho:xJ P (aw fn key)=some 1):bd P B N:=
 .step key (aw fn key) [.slice (some ⟨k,off,some 7⟩) n cc,vI i] [] (.pointer (some ⟨k,off+i,some 7⟩)) [] (by have:=N6 (B:=B) ho (k:=k) (off:=off) (cc:=cc) (kd:=.i64) hi;rw[gS]at this;exact this)
def bd.dj(fn:Func)(key k n i s:Nat)(hi:i<n)(ho:xJ P (aw fn key)=some s):bd P B N:=
 .step key (aw fn key) [.slice (some ⟨k,0,some 7⟩) n 0,vI i] [] (.pointer (some ⟨k,i*s,some 7⟩)) [] (by have:=N6 (B:=B) ho (k:=k) (off:=0) (cc:=0) (kd:=.i64) hi;rw[kA]at this;exact this)
def Tc(o:Oper):Option TypeId:=match o.op with|.load t _=>some t|_=>none
theorem aIB{t:TypeId}(ho:Tc o=some t){k:Nat}{x:Obj}{v:i_}(hx:x.reads=true)(hv:dI P t x.cells off=some v):cI P B o [.pointer (some ⟨k,off,some 7⟩)] [(k,some x)] v []:=by
 unfold Tc at ho;split at ho
 ·rename_i t' y cg;injection ho with ho;subst ho;exact(Y2 cg hx hv).step
 ·cases ho
def bd.ld(fn:Func)(key t k off:Nat)(x:Obj)(v:i_)(hx:x.reads=true)(hv:dI P t x.cells off=some v)(ho:Tc (aw fn key)=some t):bd P B N:=
 .step key (aw fn key) [.pointer (some ⟨k,off,some 7⟩)] [(k,some x)] v [] (aIB ho hx hv)
def Z4(o:Oper):Option TypeId:=match o.op with|.store t _ _=>some t|_=>none
def bd.st(fn:Func)(key t k off:Nat)(x:Obj)(v:i_)(y:Obj)(hx:x.owns=true)(hv:fo P t x.cells off v=some y.cells)(hy:y=x.Nu y.cells)(ho:Z4 (aw fn key)=some t):bd P B N:=
 .step key (aw fn key) [.pointer (some ⟨k,off,some 7⟩),v] [(k,some x)] undef [(k,y)] (by
  unfold Z4 at ho;split at ho
  ·rename_i t' a b cg;injection ho with ho;subst ho;rw[hy];exact(Y3 cg hx hv).step
  ·cases ho)
def N7(P:j_)(o:Oper):Option (TypeId×Nat×Nat×Value):=match o.op with
 |.makeSlice t _ _=>match P.underlying t with
  |some (.slice e)=>(match P.info? e with|some i=>(match i.zero with|some z=>some (e,i.size,i.bytes,z)|none=>none)|none=>none)
  |_=>none
 |_=>none
def bd.qD(fn:Func)(key k n e bytes:Nat)(z:i_)(cells:ak)(hc:List.replicate n z=cells)(hf:flat z=true)(hz:z.cells=#[z])(hb:bytes*n<=281474976710656)(hn:n<=maxLen)(ho:N7 P (aw fn key)=some (e,1,bytes,z)):bd P B N:=
 .step key (aw fn key) [vI n,vI n] [(k,none)] (.slice (some ⟨k,0,some 7⟩) n 0) [(k,.row cells e 1)] (by
  subst hc;unfold N7 at ho;split at ho
  ·rename_i t a b cg;split at ho
   ·rename_i e' ht;split at ho
    ·rename_i i hi;split at ho
     ·rename_i z' oN;injection ho with ho;injection ho with h1 ho;injection ho with h2 ho;injection ho with h3 h4;subst h1;subst h4;have:=Y9 (P:=P) (B:=B) cg ht hi oN (kl:=.i64) (kc:=.i64) (l:=n) (cp:=n) (bC _) (by rw[h3];exact hb) hn (cells:=List.replicate n z') (by rw[h2,gS,hz,toList_madeCells_one,kT s_]) (by rw[h2];simp) (λv hv=>by rw[List.eq_of_mem_replicate hv];exact hf) k
      rw[h2]at this;exact this.step
     ·cases ho
    ·cases ho
   ·cases ho
  ·cases ho)
def sR(P:j_)(o:Oper):Option (Bool×Bool×Nat):=match o.op with
 |.slice t _ lo hi none=>match P.underlying t with
  |some (.slice e)=>(match P.info? e with|some i=>some (lo.isSome,hi.isSome,i.size)|none=>none)
  |_=>none
 |_=>none
theorem HM{lo hi:Bool}{s:Nat}(ho:sR P o=some (lo,hi,s)){k n l h:Nat}(hl:lo=false->l=0)(hh:hi=false->h=n)(Nx:l<=h)(Y8:h<=n)(hz:l<h\/l=0):
  cI P B o (.slice (some ⟨k,off,some 7⟩) n cc::((if lo then[vI l]else[])++(if hi then[vI h]else[]))) [] (.slice (some ⟨k,off+l*s,some 7⟩) (h-l) (cc+l)) []:=by
 unfold sR at ho;split at ho
 ·rename_i t x Dj gu cg;split at ho
  ·rename_i e ht;split at ho
   ·rename_i i Td;injection ho with ho;injection ho with h1 ho;injection ho with h2 h3;have:=aH5 (P:=P) (B:=B) cg ht Td (k:=k) (off:=off) (n:=n) (cc:=cc) (l:=l) (h:=h) (λe=>hl (by rw[<-h1,e];rfl)) (λe=>hh (by rw[<-h2,e];rfl)) Nx Y8 hz;rw[h3]at this;have e1:bound Dj l=if lo then[vI l]else[]:=by rw[<-h1];cases Dj<;>rfl
    have e2:bound gu h=if hi then[vI h]else[]:=by rw[<-h2];cases gu<;>rfl
    rw[e1,e2]at this;exact this.step
   ·cases ho
  ·cases ho
 ·cases ho
def bd.upto(fn:Func)(key k n h s:Nat)(hh:h<=n)(ho:sR P (aw fn key)=some (false,true,s)):bd P B N:=
 .step key (aw fn key) [.slice (some ⟨k,0,some 7⟩) n 0,vI h] [] (.slice (some ⟨k,0,some 7⟩) h 0) [] (by have:=HM (B:=B) ho (k:=k) (off:=0) (n:=n) (cc:=0) (l:=0) (h:=h) (λ_=>rfl) n_ (lM _) hh (.inr rfl);simpa using this)
end
def ae(B n a:Nat):List Nat:=(List.range n).map λi=>a/B^i%B
def nd(B a:Nat):Nat:=if h:2<=B/\a≠0 then nd B (a/B)+1 else 0
termination_by a
decreasing_by exact Z5 (ue h.2) h.1
section
variable{B:Nat}
theorem pq(n a:Nat):(ae B n a).length=n:=by simp[ae]
theorem eP{n:Nat}(h:i<n):(ae B n a)[i]?=some (a/B^i%B):=by simp[ae,h]
theorem Kv{n:Nat}(h:m<=n):(ae B n a).take m=ae B m a:=by unfold ae;rw[<-Dk,List.take_range,oP h]
theorem nF:nd B 0=0:=by unfold nd;simp
theorem Te(hB:2<=B)(ha:a≠0):nd B a=nd B (a/B)+1:=by rw[nd,dif_pos ⟨hB,ha⟩]
theorem ew(hB:2<=B):∀ a,a<B^nd B a:=by
 intro a;induction a using Nat.strongRecOn with
 |_ a ih=>
  by_cases ha:a=0
  ·subst ha;rw[nF];simp
  ·rw[Te hB ha,dG];have:=ih (a/B) (Z5 (ue ha) hB);exact(iP o_).1 this
theorem jy(hB:2<=B):∀{a n:Nat},a<B^n->nd B a<=n:=by
 intro a;induction a using Nat.strongRecOn with
 |_ a ih=>
  intro n h;by_cases ha:a=0
  ·subst ha;rw[nF];omega
  ·cases n with
   |zero=>simp at h;omega
   |succ n=>
    rw[Te hB ha];rw[dG]at h;have:=ih (a/B) (Z5 (ue ha) hB) (n:=n) ((iP o_).2 h);omega
theorem Z6(hB:2<=B){n:Nat}(h:n<nd B a):B^n<=a:=by
 rcases e7 a (B^n)with h1|h1
 ·have:=jy hB h1;omega
 ·exact h1
theorem iX(hB:2<=B)(h:a<=b):nd B a<=nd B b:=jy hB (fq h (ew hB b))
theorem vp(hB:2<=B)(h:a≠0):0<nd B a:=by rw[Te hB h];omega
theorem Fx{n:Nat}(h:a<B^(n+1)):a/B^n%B=a/B^n:=by
 refine dW ?_;have hp:0<B^n:=by
  rcases oV B with hB|hB
  ·subst hB;simp at h
  ·exact cP hB
 rw[iP hp,cX,<-dG];exact h
theorem HN(hB:2<=B){n:Nat}(h:a<B^(n+1)):a/B^n%B=0↔a<B^n:=by
 rw[Fx h,Nat.div_eq_zero_iff];have:B^n≠0:=by have:=cP (n:=n) (show 0<B by omega);omega
 exact⟨λh=>h.resolve_left this,.inr⟩
def e9(B a b i:Nat):Nat:=(a%B^i+b%B^i)/B^i
def eQ(B n i a:Nat):List Nat:=(List.range n).map λj=>if j<i then a/B^j%B else 0
theorem N8(n i a:Nat):(eQ B n i a).length=n:=by simp[eQ]
theorem Tf(n a:Nat):eQ B n 0 a=List.replicate n 0:=by apply xL<;>simp[eQ]
theorem HO(n a:Nat):eQ B n n a=ae B n a:=by unfold eQ ae;exact vm λj hj=>by rw[aB (jT.1 hj)]
theorem N9{n:Nat}(h:i<n)(hd:d=a/B^i%B):(eQ B n i a).set i d=eQ B n (i+1) a:=by
 subst hd;apply xL
 ·simp[eQ]
 ·intro j h1 h2;simp only[eQ,eH,zD]at h2;rw[HP];simp only[eQ,Dl,Dm];by_cases hj:i=j
  ·subst hj;simp
  ·rw[av hj];by_cases h3:j<i
   ·rw[aB h3,aB o_]
   ·rw[av h3,av o_]
theorem pV(a i:Nat):a%B^(i+1)=a%B^i+a/B^i%B*B^i:=by rw[dG,Oa];rw[cX]
theorem Ob(a b:Nat):e9 B a b 0=0:=by simp[e9,uf]
theorem Fy(hB:0<B)(a b i:Nat):(a/B^i%B+b/B^i%B+e9 B a b i)/B=e9 B a b (i+1):=by
 unfold e9;rw[pV a i,pV b i];have hp:0<B^i:=cP hB;have e:a%B^i+a/B^i%B*B^i+(b%B^i+b/B^i%B*B^i)=(a%B^i+b%B^i)+(a/B^i%B+b/B^i%B)*B^i:=by rw[fQ];omega
 rw[e,dG,<-ll,pW _ _ hp,nG]
theorem HQ(hB:0<B)(a b i:Nat):(a/B^i%B+b/B^i%B+e9 B a b i)%B=(a+b)/B^i%B:=by
 unfold e9;have hp:0<B^i:=cP hB;have e:(a+b)/B^i=a/B^i+b/B^i+(a%B^i+b%B^i)/B^i:=by
  have h1:=jz a (B^i);have h2:=jz b (B^i);have e2:a+b=(a%B^i+b%B^i)+(a/B^i+b/B^i)*B^i:=by rw[fQ,cX (a/B^i),cX (b/B^i)];omega
  conv=>lhs;rw[e2]
  rw[pW _ _ hp];omega
 rw[e];rw[Nat.add_mod (a/B^i+b/B^i),Nat.add_mod (a/B^i%B+b/B^i%B),<-Nat.add_mod (a/B^i)]
theorem BJ(hB:0<B)(a b i:Nat):e9 B a b i<=1:=by
 unfold e9;have hp:0<B^i:=cP hB;have h1:=cM a hp;have h2:=cM b hp;have:(a%B^i+b%B^i)/B^i<2:=by rw[iP hp];omega
 omega
theorem iB(hB:0<B)(a i:Nat):a/B^i%B<B:=cM _ hB
theorem rH(h:a<B^m)(hi:m<=i)(hB:0<B):a/B^i%B=0:=by rw[mS (cG h (df hB hi))];simp
theorem Tg{n:Nat}(ha:a<B^n)(hb:b<B^n):e9 B a b n=(a+b)/B^n:=by unfold e9;rw[dW ha,dW hb]
def lp(B a b i:Nat):Nat:=if a%B^i<b%B^i then 1 else 0
theorem Th(a b:Nat):lp B a b 0=0:=by simp[lp,uf]
theorem Oc(a b i:Nat):lp B a b i<=1:=by unfold lp;split<;>omega
theorem Ti(hB:0<B)(a b i:Nat):(if a/B^i%B<b/B^i%B+lp B a b i then 1 else 0)=lp B a b (i+1):=by
 unfold lp;rw[pV a i,pV b i];have hp:0<B^i:=cP hB;have h1:=cM a hp;have h2:=cM b hp;generalize a%B^i=r at *;generalize b%B^i=s at *;generalize a/B^i%B=x at *;generalize b/B^i%B=y at *;generalize B^i=p at *;have lt:∀ u v:Nat,u<v->u*p+p<=v*p:=λu v h=>by rw[<-sS];exact eV _ h
 have le:∀ u v:Nat,u<=v->u*p<=v*p:=λu v h=>eV _ h;by_cases BK:r<s
 ·rw[aB BK];by_cases kU:x<y+1
  ·have:=le x y o_;rw[aB kU,aB o_]
  ·have:=lt y x o_;rw[av kU,av o_]
 ·rw[av BK];by_cases kU:x<y+0
  ·have:=lt x y o_;rw[aB kU,aB o_]
  ·have:=le y x o_;rw[av kU,av o_]
theorem Tj(hB:0<B)(ch:b<=a)(i:Nat):(a/B^i%B+2*B-b/B^i%B-lp B a b i)%B=(a-b)/B^i%B:=by
 unfold lp;have hp:0<B^i:=cP hB;have h1:=cM a hp;have h2:=cM b hp;have ea:=jz a (B^i);have eb:=jz b (B^i);generalize hA:a/B^i=A at *;generalize hA':b/B^i=A' at *;generalize a%B^i=r at *;generalize b%B^i=s at *;generalize B^i=p at *;have lt:∀ u v:Nat,u<v->p*u+p<=p*v:=λu v h=>by rw[<-Od];exact jK _ h
 have hx:=cM A hB;have hy:=cM A' hB;have dA:=jz A B;have dA':=jz A' B
 -- the quotient of the aWv
 have key:∀ br:Nat,br=(if r<s then 1 else 0)->A'+br<=A/\(a-b)/p=A-A'-br:=by
  intro br Kw;by_cases BK:r<s
  ·rw[aB BK]at Kw;subst Kw;have Oe:A'<A:=by
    rcases e7 A' A with h|h
    ·exact h
    ·have:=jK p h;omega
   refine⟨Oe,?_⟩;have e:a-b=(p+r-s)+p*(A-A'-1):=by
    have:=lt A' A Oe;have e2:p*A=p*A'+p+p*(A-A'-1):=by rw[<-Od,<-pr];congr 1;omega
    omega
   rw[e,Kx _ _ hp,mS o_,kA]
  ·rw[av BK]at Kw;subst Kw;have Oe:A'<=A:=by
    rcases e7 A A' with h|h
    ·have:=lt A A' h;omega
    ·exact h
   refine⟨Oe,?_⟩;have e:a-b=(r-s)+p*(A-A'):=by
    have e2:p*A=p*A'+p*(A-A'):=by rw[<-pr];congr 1;omega
    omega
   rw[e,Kx _ _ hp,mS o_,kA];rfl
 have Kw:(if r<s then 1 else 0)<=1:=by split<;>omega
 obtain⟨k1,k2⟩:=key _ rfl;rw[k2];generalize (if r<s then 1 else 0)=br at *;have e:A%B+2*B-A'%B-br+B*(A/B)=(A-A'-br)+B*(A'/B+2):=by rw[pr];omega
 have:=cO (·%B) e;simpa only[Fz]using this
theorem zE(p:Nat->Prop)[DecidablePred p]:∀ n,p n->∃ e,e<=n/\p e/\∀ j,j<e->¬p j
 |0,h=>⟨0,bC _,h,λj hj=>by omega⟩
 |n+1,h=>by
  by_cases h0:p 0
  ·exact⟨0,by omega,h0,λj hj=>by omega⟩
  ·obtain⟨e,h1,h2,h3⟩:=zE (λj=>p (j+1)) n h;refine⟨e+1,by omega,h2,λj hj=>?_⟩;cases j with
   |zero=>exact h0
   |succ j=>exact h3 j o_
def dc(B n i s p:Nat):List Nat:=(List.range n).map λj=>if j<i then s/B^j%B else p/B^j%B
theorem xM(n i s p:Nat):(dc B n i s p).length=n:=by simp[dc]
theorem Dn{n s p:Nat}(hj:j<n)(h:i<=j):(dc B n i s p)[j]?=some (p/B^j%B):=by simp[dc,hj];omega
theorem zF{n s p:Nat}(h:i<n)(hd:d=s/B^i%B):(dc B n i s p).set i d=dc B n (i+1) s p:=by
 subst hd;apply xL
 ·simp[dc]
 ·intro j h1 h2;simp only[dc,eH,zD]at h2;rw[HP];simp only[dc,Dl,Dm];by_cases hj:i=j
  ·subst hj;simp
  ·rw[av hj];by_cases h3:j<i
   ·rw[aB h3,aB o_]
   ·rw[av h3,av o_]
theorem aIC(hB:0<B)(p t i:Nat):(p+t)/B^i=p/B^i+t/B^i+e9 B p t i:=by
 have hp:0<B^i:=cP hB;unfold e9;have h1:=jz p (B^i);have h2:=jz t (B^i);have e2:p+t=(p%B^i+t%B^i)+(p/B^i+t/B^i)*B^i:=by rw[fQ,cX (p/B^i),cX (t/B^i)];omega
 conv=>lhs;rw[e2]
 rw[pW _ _ hp];omega
theorem Z7(hB:0<B)(n at' p c:Nat):dc B n at' (p+c*B^at') p=ae B n p:=by
 unfold dc ae;refine vm λj _=>?_;by_cases h:j<at'
 ·rw[aB h];have e:B^at'=B^j*(B*B^(at'-j-1)):=by rw[<-Nat.pow_succ',<-eR];congr 1;omega
  rw[e,show c*(B^j*(B*B^(at'-j-1)))=B^j*(B*(c*B^(at'-j-1)))by rw[nH,nH c B],Kx _ _ (cP hB),Fz]
 ·rw[av h]
theorem aID(hB:0<B)(at' p c:Nat):e9 B p (c*B^at') at'=0:=by unfold e9;rw[Z8,jf,mS (cM _ (cP hB))]
theorem aIE(hB:0<B){n p t:Nat}(ht:t<B^i)(hc:e9 B p t i=0):dc B n i (p+t) p=ae B n (p+t):=by
 unfold dc ae;refine vm λj _=>?_;by_cases h:j<i
 ·rw[aB h]
 ·rw[av h];have e:=aIC hB p t i;rw[hc,mS ht,jf]at e;have e2:B^j=B^i*B^(j-i):=by rw[<-eR];congr 1;omega
  rw[e2,<-ll,<-ll,e]
theorem aIF(hB:0<B)(at' c:Nat):c*B^at'/B^at'%B=c%B:=by rw[Tk _ (cP hB)]
theorem aIG(hB:0<B){at' c:Nat}(h:c<B*B):c*B^at'/B^(at'+1)%B=c/B:=by rw[dG,<-ll,Tk _ (cP hB)];exact dW ((iP hB).2 h)
theorem aIH(hB:0<B){at' c:Nat}(h:c<B*B):c*B^at'<B^(at'+2):=by rw[dG,dG,gi,cX];exact Z9 h (cP hB)
def part(B a b i k:Nat):Nat:=(a%B^i)*b+a/B^i%B*(b%B^k)*B^i
theorem Dp(a b i:Nat):part B a b i 0=(a%B^i)*b:=by simp[part,uf]
theorem aAa(a b i k:Nat):part B a b i (k+1)=part B a b i k+a/B^i%B*(b/B^k%B)*B^(i+k):=by
 unfold part;rw[pV b k,eR,pr,fQ,u9]
 congr 2
 simp only[cX,nH]
theorem aII(hb:b<B^m):part B a b i m=part B a b (i+1) 0:=by
 rw[Dp,pV a i];unfold part;rw[dW hb,fQ]
 congr 1
 simp only[cX,nH]
theorem aAb(hB:0<B)(a b i k:Nat):part B a b i k<=a*b:=by
 have h1:a%B^(i+1)<=a:=Ky _ _;have h2:part B a b i k<=(a%B^(i+1))*b:=by
  rw[pV a i];unfold part;rw[fQ];refine aAc ?_ _;have h3:b%B^k<=b:=Ky _ _;have:=jK (a/B^i%B) h3;have:=eV (B^i) this
  calc _<=_:=this
   _=_:=by simp only[cX,nH]
 exact dq h2 (eV _ h1)
theorem aAd{n:Nat}(hB:0<B)(ha:a<B^n)(hb:b<B^m):a*b<B^(n+m+1):=by
 have h1:a*b<B^(n+m):=by rw[eR];exact qE ha hb
 exact cG h1 (df hB o_)
theorem aAe(hB:0<B)(hd:0<d)(nI:d<=B)(a j:Nat):(a/B^(j+1)%d*B+a/B^j%B)/d=(a/d)/B^j%B/\(a/B^(j+1)%d*B+a/B^j%B)%d=a/B^j%d:=by
 have e1:a/B^(j+1)=a/B^j/B:=by rw[dG,ll]
 have e2:a/d/B^j=a/B^j/d:=by rw[ll,ll,cX]
 rw[e1,e2];generalize a/B^j=c;have h1:=jz c B;have h2:=jz (c/B) d;have h3:c/B%d<d:=cM _ hd;have h4:c%B<B:=cM _ hB;have h5:c=(c/B%d*B+c%B)+d*(B*(c/B/d)):=by
  have:B*(c/B)=B*(d*(c/B/d)+c/B%d):=by rw[h2]
  rw[pr,nH]at this;rw[cX (c/B%d)];omega
 have h6:(c/B%d*B+c%B)/d<B:=by rw[iP hd];have:=eV B (show c/B%d+1<=d by omega);rw[fQ,pv]at this;rw[cX B d];omega
 constructor
 ·conv=>rhs;rw[h5]
  rw[Kx _ _ hd,Fz,dW h6]
 ·conv=>rhs;rw[h5]
  rw[Fz]
def gY(B n i a:Nat):List Nat:=(List.range n).map λj=>if j<i then 0 else a/B^j%B
theorem Of(n i a:Nat):(gY B n i a).length=n:=by simp[gY]
theorem Og(n a:Nat):gY B n n a=List.replicate n 0:=by
 apply xL
 ·simp[gY]
 ·intro j h1 h2;simp only[gY,eH,zD]at h1;simp[gY,h1]
theorem Kz(n a:Nat):gY B n 0 a=ae B n a:=by unfold gY ae;exact vm λj _=>by rw[av o_]
theorem Oh{n:Nat}(h:j<n)(hd:d=a/B^j%B):(gY B n (j+1) a).set j d=gY B n j a:=by
 subst hd;apply xL
 ·simp[gY]
 ·intro i h1 h2;simp only[gY,eH,zD]at h2;rw[HP];simp only[gY,Dl,Dm];by_cases hi:j=i
  ·subst hi;simp
  ·rw[av hi];by_cases h3:i<j
   ·rw[aB h3,aB o_]
   ·rw[av h3,av o_]
theorem xN(a j:Nat):a/B^j=a/B^(j+1)*B+a/B^j%B:=by have:=jz (a/B^j) B;rw[ll,<-dG,cX]at this;exact this.symm
theorem aAf{n:Nat}(ha:a<B^n)(hb:b<B^n)(t:Nat)(ht:t<=n)(h:∀ s,s<t->a/B^(n-1-s)%B=b/B^(n-1-s)%B):a/B^(n-t)=b/B^(n-t):=by
 induction t with
 |zero=>rw[HL,mS ha,mS hb]
 |succ t ih=>
  have ih:=ih o_ λs hs=>h s o_;have e:n-t=(n-(t+1))+1:=by omega
  rw[e]at ih;have h1:=h t o_;rw[show n-1-t=n-(t+1)by omega]at h1;rw[xN (B:=B) a,xN (B:=B) b,ih,h1]
theorem Oi(h:a/B^(j+1)=b/B^(j+1))(al:a/B^j%B<b/B^j%B):a<b:=by
 have h1:a/B^j<b/B^j:=by rw[xN (B:=B) a,xN (B:=B) b,h];omega
 rcases e7 a b with h2|h2
 ·exact h2
 ·have:=Nat.div_le_div_right (c:=B^j) h2;omega
end
theorem mixed:prog.follows .mixedOrders=true:=by kernel_rfl
def aY(x:Nat):Value:=.int .u32 (x:Int)
def ao(l:l_):ak:=l.map aY
theorem fT(l:l_):∀ u∈ao l,flat u=true:=λu hu=>by obtain⟨x,_,rfl⟩:=db.1 hu;rfl
theorem lq{l:l_}{x:Nat}(h:l[i]?=some x):(ao l)[i]?=some (aY x):=by simp[ao,h]
abbrev base:Nat:=4294967296
theorem gj(cells:ak)(i:Nat):dI prog 181 cells i=cells[i]?:=by kernel_rfl
theorem aE{c:Code}{next:Nat}(rs:bM prog B N){r:mQ}(h:Ks (ji 100 c fr M next rs) r.fr r.M=Ku (ji 100 c fr M next rs) r.ex r.fr r.M r.next:=by kernel_rfl):ai prog B N c fr M next r:=fD mixed 100 rs h
theorem aIJ{n:Nat}(hm:m+1<=n)(ha:a<base^m)(h63:n<=9223372036854775807):
  ai prog Bs 21 (aJ (ah f196 0)) [(0,.slice (some ⟨0,0,some 7⟩) (m+1) 0)] [(0,.view (ao (ae base n a)))] 1
   ⟨.normal,[(0,.slice (some ⟨0,0,some 7⟩) m 0)],[(0,.view (ao (ae base n a)))],1⟩:=by
 have hd:a/base^m%base=0:=(HN d_ (cG ha (df d_ (zq m)))).2 ha;exact aE [
  .gt 5 (m+1) 0 true s_,
  .fp 10 (m+1) 1 m rfl o_,
  .ix f196 11 0 (m+1) m o_ k_,
  .ld f196 12 181 0 m (.view (ao (ae base n a))) (aY (a/base^m%base)) rfl (by rw[gj];exact lq (eP o_)) k_,
  .fN 13 (a/base^m%base) 0 true (by simp[hd]),
  .fp 18 (m+1) 1 m rfl o_,
  .upto f196 19 0 (m+1) m 1 o_ k_]
theorem aIK{n:Nat}(hm:m<=n)(ha:a<base^m)(hl:m=nd base a)(h63:n<=9223372036854775807):
  ai prog Bs 21 (aJ (ah f196 0)) [(0,.slice (some ⟨0,0,some 7⟩) m 0)] [(0,.view (ao (ae base n a)))] 1
   ⟨.exit 0,[(0,.slice (some ⟨0,0,some 7⟩) m 0)],[(0,.view (ao (ae base n a)))],1⟩:=by
 cases m with
 |zero=>exact aE [.gt 5 0 0 false s_]
 |succ m=>
  have hd:a/base^m%base≠0:=λe=>by have:=jy (B:=base) d_ ((HN d_ ha).1 e);omega
  exact aE [
   .gt 5 (m+1) 0 true s_,
   .fp 10 (m+1) 1 m rfl o_,
   .ix f196 11 0 (m+1) m o_ k_,
   .ld f196 12 181 0 m (.view (ao (ae base n a))) (aY (a/base^m%base)) rfl (by rw[gj];exact lq (eP o_)) k_,
   .fN 13 (a/base^m%base) 0 false (by simp[hd])]
theorem aIL{n:Nat}(ha:a<base^n)(h63:n<=9223372036854775807):
  ai prog Bs 21 (.block 0 (ah f196 0)) [(0,.slice (some ⟨0,0,some 7⟩) n 0)] [(0,.view (ao (ae base n a)))] 1
   ⟨.normal,[(0,.slice (some ⟨0,0,some 7⟩) (nd base a) 0)],[(0,.view (ao (ae base n a)))],1⟩:=by
 have hle:=jy (B:=base) d_ ha;have al:=ew (B:=base) d_ a
 have:=cA (P:=prog) (B:=Bs) (N:=21) (b:=aJ (ah f196 0)) (next:=1) (n-nd base a) (λi=>[(0,.slice (some ⟨0,0,some 7⟩) (n-i) 0)]) (λ_=>[(0,.view (ao (ae base n a)))])
  (r:=⟨.exit 0,[(0,.slice (some ⟨0,0,some 7⟩) (nd base a) 0)],[(0,.view (ao (ae base n a)))],1⟩) (λ_ _ _=>Iff.rfl)
  (λi hi=>by
   have e:n-i=(n-(i+1))+1:=by omega
   simp only[e];exact aIJ o_ (cG al (df d_ o_)) h63)
  (by
   have e:n-(n-nd base a)=nd base a:=by omega
   simp only[e];exact aIK hle al rfl h63) n_
 exact cd this
def Oj(v:i_)(m:Nat):Value:=match v with|.slice a _ c=>.slice a m c|v=>v
theorem aAg{w:h_}{v:i_}{n:Nat}(hv:cW w v n (ao (ae base n a)))(ha:a<base^n)(h63:n<=9223372036854775807):
  Calls prog 196 #[v] w λe w'=>e=.returned (Oj v (nd base a))/\Below w.heap.size w w':=by
 refine mh (Q:=λe w'=>e=.returned (Oj v (nd base a))/\Below w.heap.size w w') mixed func196 [.row v n (ao (ae base n a))] (λs hs=>by simp at hs;subst hs;exact⟨hv,fT _⟩) 100 (N:=21) k_
  (rs:=[.code 0 _ _ _ _ _ (aIL ha h63)]) (v:=.slice (some ⟨0,0,some 7⟩) (nd base a) 0) (ms:=[]) k_ λaz cr v' w' hc hm _ du=>⟨?_,hm.base⟩
 cases du with
 |cons h1 _=>
 congr 1
 rcases hc.iF rfl with ⟨q1,q2,_,_,q5⟩|⟨b,o,cap,c',q1,q2,q3,q5⟩<;>rcases h1.iF rfl with ⟨p1,p2,_,_,p5⟩|⟨b2,o2,qx,c2,p1,p2,p3,p5⟩
 ·have p5:v=.slice none 0 0:=p5;rw[q5,p5,q2];rfl
 ·rw[q1]at p1;cases p1
 ·rw[q1]at p1;cases p1
 ·rw[q1]at p1;injection p1 with p1;injection p1 with e1 e2 e3;subst e1;subst e2;subst e3;have p5:v=_:=p5;rw[q5,p5,show c'=c2 by omega];rfl
theorem aN{v:i_}(hf:prog.funcs[f]?=some fn)(rs:∀ w,bM prog (aa.at w) (args.length+(fn.ntmps-args.length)))(h:∀ w,oq (gv (P:=prog) fn 100 args [] 0 (rs w)) []=ou (gv fn 100 args [] 0 (rs w)) v []:=by intro _;kernel_rfl)(du:args.all flat=true:=by kernel_rfl)(hv:flat v=true:=by kernel_rfl):aF prog f args v:=fW mixed hf 100 rs h du hv
theorem KA{x y c:Nat}(hx:x<base)(hy:y<base)(hc:c<base):
  aF prog 205 [aY x,aY y,aY c] (.tuple #[aY ((x+y+c)%base),aY ((x+y+c)/base)]):=
 aN func205 (λ_=>[
  .wr 10 .u64 x x (by rw[kp];unfold base at *;omega),.wr 12 .u64 y y (by rw[kp];unfold base at *;omega),
  .wr 13 .u64 (x+y) ((x+y:Nat):Int) (by rw[kp];unfold base at *;omega),.wr 15 .u64 c c (by rw[kp];unfold base at *;omega),
  .wr 16 .u64 (((x+y:Nat):Int)+c) ((x+y+c:Nat):Int) (by rw[kp];unfold base at *;omega),
  .wr 18 .u32 ((x+y+c:Nat):Int) (((x+y+c)%base:Nat):Int) (by rw[ow];unfold base at *;omega),
  .quo 20 .u64 (((x+y+c:Nat):Int).fdiv (2^32)) (((x+y+c)/base:Nat):Int) (by rw[sT _ d_];unfold base at *;omega),
  .wr 21 .u32 (((x+y+c)/base:Nat):Int) (((x+y+c)/base:Nat):Int) (by rw[ow];unfold base at *;omega)])
theorem FA(n:Nat):List.replicate n (aY 0)=ao (List.replicate n 0):=by simp[ao]
theorem zG(cells:ak)(i d:Nat)(h:i<cells.length):fo prog 181 cells i (aY d)=some (cells.set i (aY d)):=by
 have e:fo prog 181 cells i (aY d)=if(Nat.ble (i+1) cells.length&&true)then some (je cells i [aY d])else none:=by kernel_rfl
 rw[e,NM h];rfl
theorem zH(l:l_)(i d:Nat):(ao l).set i (aY d)=ao (l.set i d):=by simp[ao,List.map_set]
theorem aIM{y:m_}(ho:dD o.op=some y){k n:Nat}{x:Obj}(hx:x.reads=true)(hc:x.cells=ao (ae base n a))(ha:a<base^n)(h63:n<=9223372036854775807):
  cI prog Bs o [.func (.func 196) #[] #[],.slice (some ⟨k,0,some 7⟩) n 0] [(k,some x)] (.slice (some ⟨k,0,some 7⟩) (nd base a) 0) []:=by
 refine jV (fi:=[]) (ca:=[]) ho k_ λι c w hm hn args' du=>?_;obtain⟨v,rfl,h1⟩:=ob du;have hk:c k=some x:=hn _ (aT ..);have hr:=po (len:=n) hm hk hx (by rw[hc];exact fT _) (λh=>h) h1;rw[hc,mT,kT (by simp[ao,pq])]at hr;refine(aAg hr ha h63).mono ?_
 rintro e w' ⟨rfl,hb⟩
 refine⟨ι,_,rfl,Map.le.refl _,?_,hm.call hb⟩;have fv:=jy (B:=base) d_ ha;rcases h1.iF rfl with ⟨q1,q2,_,_,q5⟩|⟨b,oo,cap,c',q1,q2,q3,q5⟩
 ·rw[q5];have:nd base a=0:=by omega
  rw[this];exact .slcN q1
 ·rw[q5];exact .slc q1 o_ q3
def bd.trim(fn:Func)(key k n a:Nat)(x:Obj)(hx:x.reads=true)(hc:x.cells=ao (ae base n a))(ha:a<base^n)(h63:n<=9223372036854775807){y:m_}(ho:dD (aw fn key).op=some y):bd prog Bs N:=
 .step key (aw fn key) [.func (.func 196) #[] #[],.slice (some ⟨k,0,some 7⟩) n 0] [(k,some x)] (.slice (some ⟨k,0,some 7⟩) (nd base a) 0) [] (aIM ho hx hc ha h63)
section
variable{Bs:aa}{ka kb n m a b:Nat}
def sl(k n:Nat):Value:=.slice (some ⟨k,0,some 7⟩) n 0
def Dq(ka kb n m a b i:Nat):aX:=[(23,vI i),(22,vI n),(21,sl ka n),(0,sl ka n),(1,sl kb m),(5,sl 2 (n+1)),(6,aY (e9 base a b i))]
def zJ(ka kb n m a b i:Nat):aL:=[(ka,.view (ao (ae base n a))),(kb,.view (ao (ae base m b))),(2,.row (ao (eQ base (n+1) i (a+b))) 181 1)]
theorem aIN(hk:(ka=0/\kb=1)\/(ka=1/\kb=0))(hi:i<n)(hb:b<base^m)(hm:m<=n)(h63:n<9223372036854775807):
  ai prog Bs 54 (aJ (ah f177 0)) (Dq ka kb n m a b i) (zJ ka kb n m a b i) 3 ⟨.normal,Dq ka kb n m a b (i+1),zJ ka kb n m a b (i+1),3⟩:=by
 have hx:=iB (B:=base) d_ a i;have hy:=iB (B:=base) d_ b i;have hc:=BJ (B:=base) d_ a b i;have zK:=KA (c:=e9 base a b i) hx hy (fq hc d_);rw[HQ d_,Fy d_]at zK;have bP:fo prog 181 (ao (eQ base (n+1) i (a+b))) i (aY ((a+b)/base^i%base))=some (ao (eQ base (n+1) (i+1) (a+b))):=by rw[zG _ i _ (by simp[ao,N8];omega),zH,N9 o_ rfl]
 by_cases jW:i<m
 ·let S:Nat->Nat->bM prog Bs 54:=λka kb=>[.lt 24 i n true (by simp[hi]),.ix f177 26 ka n i hi k_,.ld f177 27 181 ka i (.view (ao (ae base n a))) (aY (a/base^i%base)) rfl (by rw[gj];exact lq (eP hi)) k_,.lt 31 i m true (by simp[jW]),.ix f177 34 kb m i jW k_,.ld f177 35 181 kb i (.view (ao (ae base m b))) (aY (b/base^i%base)) rfl (by rw[gj];exact lq (eP jW)) k_,zK.at 42,.ix f177 45 2 (n+1) i o_ k_,.st f177 100045 181 2 i (.row (ao (eQ base (n+1) i (a+b))) 181 1) (aY ((a+b)/base^i%base)) (.row (ao (eQ base (n+1) (i+1) (a+b))) 181 1) rfl bP rfl k_,.sum 46 i 1 (i+1) rfl o_]
  rcases hk with ⟨rfl,rfl⟩|⟨rfl,rfl⟩
  ·exact aE (S 0 1)
  ·exact aE (S 1 0)
 ·have xO:b/base^i%base=0:=rH hb o_ d_;rw[xO]at zK
  let S:Nat->Nat->bM prog Bs 54:=λka kb=>[.lt 24 i n true (by simp[hi]),.ix f177 26 ka n i hi k_,.ld f177 27 181 ka i (.view (ao (ae base n a))) (aY (a/base^i%base)) rfl (by rw[gj];exact lq (eP hi)) k_,.lt 31 i m false (by simp[jW]),zK.at 42,.ix f177 45 2 (n+1) i o_ k_,.st f177 100045 181 2 i (.row (ao (eQ base (n+1) i (a+b))) 181 1) (aY ((a+b)/base^i%base)) (.row (ao (eQ base (n+1) (i+1) (a+b))) 181 1) rfl bP rfl k_,.sum 46 i 1 (i+1) rfl o_]
  rcases hk with ⟨rfl,rfl⟩|⟨rfl,rfl⟩
  ·exact aE (S 0 1)
  ·exact aE (S 1 0)
theorem aIO(hk:(ka=0/\kb=1)\/(ka=1/\kb=0)):
  ai prog Bs 54 (aJ (ah f177 0)) (Dq ka kb n m a b n) (zJ ka kb n m a b n) 3 ⟨.exit 0,Dq ka kb n m a b n,zJ ka kb n m a b n,3⟩:=by
 rcases hk with ⟨rfl,rfl⟩|⟨rfl,rfl⟩
 all_goals exact aE [.lt 24 n n false s_]
theorem aIP(hk:(ka=0/\kb=1)\/(ka=1/\kb=0))(hb:b<base^m)(hm:m<=n)(h63:n<9223372036854775807):
  ai prog Bs 54 (.block 0 (ah f177 0)) (Dq ka kb n m a b 0) (zJ ka kb n m a b 0) 3 ⟨.normal,Dq ka kb n m a b n,zJ ka kb n m a b n,3⟩:=
 cd (cA (b:=aJ (ah f177 0)) (r:=⟨.exit 0,Dq ka kb n m a b n,zJ ka kb n m a b n,3⟩) n (Dq ka kb n m a b) (zJ ka kb n m a b) (λi k _=>km (l:=zJ ka kb n m a b i) (m:=zJ ka kb n m a b 0) rfl k) (λi hi=>aIN hk hi hb hm h63) (aIO hk) n_)
noncomputable def aAh(hk:(ka=0/\kb=1)\/(ka=1/\kb=0))(ha:a<base^n)(hb:b<base^m)(hm:m<=n)(h63:n<35184372088832)(hs:a+b<base^(n+1))
  (bP:fo prog 181 (ao (eQ base (n+1) n (a+b))) n (aY (e9 base a b n))=some (ao (ae base (n+1) (a+b)))):bM prog Bs 54:=
 [.sum 19 n 1 (n+1) rfl o_,.qD f177 20 2 (n+1) 181 4 (aY 0) (ao (eQ base (n+1) 0 (a+b))) (by rw[Tf,FA]) rfl rfl o_ (by simp[maxLen];omega) k_,.rw 6 (.int .u32 0) (aY (e9 base a b 0)) (by rw[Ob];rfl),.code 0 _ _ _ _ _ (aIP (ka:=ka) (kb:=kb) (a:=a) hk hb hm o_),.ix f177 51 2 (n+1) n o_ k_,.st f177 100051 181 2 n (.row (ao (eQ base (n+1) n (a+b))) 181 1) (aY (e9 base a b n)) (.row (ao (ae base (n+1) (a+b))) 181 1) rfl bP rfl k_,.trim f177 53 2 (n+1) (a+b) (.row (ao (ae base (n+1) (a+b))) 181 1) rfl rfl hs o_ (y:=.func 196) k_]
end
def jX(w w':h_)(v:i_)(a:Nat):Prop:=w'.ownsRow w.heap.size 181 1 v (nd base a) (ao (ae base (nd base a) a))
def iQ(w:h_)(v:i_)(a:Nat):Prop:=cW w v (nd base a) (ao (ae base (nd base a) a))
theorem xP{w w':h_}(hm:aO (aa.at w) ι c w'){k n:Nat}{v:i_}(hk:c k=some (.row (ao (ae base n a)) 181 1))(ha:a<base^n)(hv:aK ι (.slice (some ⟨k,0,some 7⟩) (nd base a) 0) v):jX w w' v a:=by
 have hle:=jy (B:=base) d_ ha;have:=xI hm hk hv (by simp[ao,pq];exact hle) (fT _);have e:(ao (ae base n a)).take (nd base a*1)=ao (ae base (nd base a) a):=by rw[gS];unfold ao;rw[<-Dk,Kv hle]
 rw[e]at this;exact this
theorem KB{n:Nat}(ha:a<base^n)(hb:b<base^n):fo prog 181 (ao (eQ base (n+1) n (a+b))) n (aY (e9 base a b n))=some (ao (ae base (n+1) (a+b))):=by have h1:=BJ (B:=base) d_ a b n;have h2:=Tg ha hb;rw[zG _ n _ (by simp[ao,N8]),zH,N9 o_ (by rw[<-h2];exact(dW (fq h1 d_)).symm),HO]
theorem KC{n:Nat}(ha:a<base^n)(hb:b<base^n):a+b<base^(n+1):=by have h1:base^n*2<=base^n*base:=jK _ d_;rw[dG];omega
theorem aIQ{w:h_}{vb:i_}(gJ:iQ w va a)(lQ:iQ w vb b)(h1:nd base a<35184372088832)(h2:nd base b<35184372088832):
  Calls prog 177 #[va,vb] w λe w'=>∃ v,e=.returned v/\jX w w' v (a+b)/\Below w.heap.size w w':=by
 have ha:=ew (B:=base) d_ a;have hb:=ew (B:=base) d_ b;have hl:∀ s∈[cH.row va (nd base a) (ao (ae base (nd base a) a)),cH.row vb (nd base b) (ao (ae base (nd base b) b))],s.OK w:=by
  intro s hs;simp at hs;rcases hs with rfl|rfl
  ·exact⟨gJ,fT _⟩
  ·exact⟨lQ,fT _⟩
 unfold iQ at gJ lQ;generalize nd base a=n at *;generalize nd base b=m at *;by_cases kE:n<m
 ·have hs:=KC hb (cG ha (df d_ o_))
  refine mh (Q:=λe w'=>∃ v,e=.returned v/\jX w w' v (a+b)/\Below w.heap.size w w') mixed func177 [cH.row va n (ao (ae base n a)),cH.row vb m (ao (ae base m b))] hl 100 (N:=54) k_
   (rs:=(bd.lt 14 n m true (by simp[kE]):bd prog (aa.at w) 54)::aAh (ka:=1) (kb:=0) (a:=b) (b:=a) (.inr ⟨rfl,rfl⟩) hb ha o_ o_ hs (KB hb (cG ha (df d_ o_))))
   (v:=.slice (some ⟨2,0,some 7⟩) (nd base (b+a)) 0) (ms:=[(2,.row (ao (ae base (m+1) (b+a))) 181 1)]) k_ λaz cr v' w' hc bE dQ _=>⟨v',rfl,?_,bE.base⟩
  rw[nG a b];exact xP bE (dQ _ (aT ..)) hs hc
 ·have hs:=KC ha (cG hb (df d_ (show m<=n by omega)))
  refine mh (Q:=λe w'=>∃ v,e=.returned v/\jX w w' v (a+b)/\Below w.heap.size w w') mixed func177 [cH.row va n (ao (ae base n a)),cH.row vb m (ao (ae base m b))] hl 100 (N:=54) k_
   (rs:=(bd.lt 14 n m false (by simp[kE]):bd prog (aa.at w) 54)::aAh (ka:=0) (kb:=1) (a:=a) (b:=b) (.inl ⟨rfl,rfl⟩) ha hb o_ o_ hs (KB ha (cG hb (df d_ o_))))
   (v:=.slice (some ⟨2,0,some 7⟩) (nd base (a+b)) 0) (ms:=[(2,.row (ao (ae base (n+1) (a+b))) 181 1)]) k_ λaz cr v' w' hc bE dQ _=>⟨v',rfl,?_,bE.base⟩
  exact xP bE (dQ _ (aT ..)) hs hc
theorem Dr{x:Nat}(h:x<base):x.testBit 31=decide (2147483648<=x):=by rw[Nat.testBit_eq_decide_div_mod_eq,sQ];unfold base at h;omega
theorem aIR{x:Nat}(h:x<base):x/2147483648=if x.testBit 31 then 1 else 0:=by
 rw[Dr h];unfold base at h;by_cases h1:2147483648<=x
 ·rw[aH h1,aB rfl];omega
 ·rw[aP h1,av d_];omega
theorem aIS{x y:Nat}(hx:x<base)(hy:y<base)(hb:b<=1):
  (((base-1-x)&&& y)||| ((base-1-(x ^^^ y))&&& ((x+2*base-y-b)%base)))/2147483648=if x<y+b then 1 else 0:=by
 have kU:x ^^^ y<base:=aAi (n:=32) hx hy;have hd:(x+2*base-y-b)%base<base:=cM _ d_;have h1:base-1-x<base:=by unfold base at *;omega
 have h2:base-1-(x ^^^ y)<base:=by unfold base at *;omega
 rw[aIR (aAj (n:=32) (Ol _ hy) (Ol _ hd))];rw[Zu,Nat.testBit_and,Nat.testBit_and,Dr h1,Dr h2,Dr hy,Dr hd];have h3:(decide (2147483648<=x ^^^ y))=((decide (2147483648<=x))!=(decide (2147483648<=y))):=by rw[<-Dr kU,Nat.testBit_xor,Dr hx,Dr hy]
 have h4:decide (2147483648<=base-1-(x ^^^ y))=!(decide (2147483648<=x ^^^ y)):=by
  unfold base at *;by_cases h:2147483648<=x ^^^ y
  ·rw[aH h,aP o_];rfl
  ·rw[aP h,aH o_];rfl
 rw[h4,h3];unfold base at *;have e1:decide (2147483648<=4294967296-1-x)=!decide (2147483648<=x):=by
  by_cases h:2147483648<=x
  ·rw[aH h,aP o_];rfl
  ·rw[aP h,aH o_];rfl
 rw[e1];have fin:∀ p:Prop,[Decidable p]->(p↔x<y+b)->(if decide p=true then 1 else 0)=(if x<y+b then 1 else 0):=by
  intro p _ h;by_cases hp:p
  ·rw[aB (aH hp),aB (h.1 hp)]
  ·rw[av (by simpa using hp),av λh'=>hp (h.2 h')]
 by_cases c1:2147483648<=x<;>by_cases c2:2147483648<=y
 ·rw[aH c1,aH c2];simp only[KD,zL,zM,bne_self_eq_false,Om,kF];exact fin _ o_
 ·rw[aH c1,aP c2,av (show ¬x<y+b by omega)];rfl
 ·rw[aP c1,aH c2,aB (show x<y+b by omega)];rfl
 ·rw[aP c1,aP c2];simp only[Om,kF,On,zM,bne_self_eq_false];exact fin _ o_
theorem HR{x:Nat}(h:x<base):(BitVec.ofInt 32 (x:Int))=BitVec.ofNat 32 x:=by simp
theorem FB{x:Nat}(h:x<base):(BitVec.ofNat 32 x).toNat=x:=by rw[BitVec.toNat_ofNat];exact dW h
theorem aAk{x y:Nat}(hx:x<base)(hy:y<base):IntKind.u32.wrap (((BitVec.ofInt IntKind.u32.bits (x:Int))&&& (BitVec.ofInt IntKind.u32.bits (y:Int))).toNat:Int)=((x&&& y:Nat):Int):=by show IntKind.u32.wrap (((BitVec.ofInt 32 (x:Int))&&& (BitVec.ofInt 32 (y:Int))).toNat:Int)=_;rw[HR hx,HR hy,BitVec.toNat_and,FB hx,FB hy,ow];have:x&&& y<base:=Ol (n:=32) _ hy;unfold base at this;omega
theorem Tl{x y:Nat}(hx:x<base)(hy:y<base):IntKind.u32.wrap (((BitVec.ofInt IntKind.u32.bits (x:Int))||| (BitVec.ofInt IntKind.u32.bits (y:Int))).toNat:Int)=((x||| y:Nat):Int):=by
 show IntKind.u32.wrap (((BitVec.ofInt 32 (x:Int))||| (BitVec.ofInt 32 (y:Int))).toNat:Int)=_;rw[HR hx,HR hy,BitVec.toNat_or,FB hx,FB hy,ow];have:x||| y<base:=aAj (n:=32) hx hy
 unfold base at this;omega
theorem aAl{x y:Nat}(hx:x<base)(hy:y<base):IntKind.u32.wrap (((BitVec.ofInt IntKind.u32.bits (x:Int)) ^^^ (BitVec.ofInt IntKind.u32.bits (y:Int))).toNat:Int)=((x ^^^ y:Nat):Int):=by show IntKind.u32.wrap (((BitVec.ofInt 32 (x:Int)) ^^^ (BitVec.ofInt 32 (y:Int))).toNat:Int)=_;rw[HR hx,HR hy,BitVec.toNat_xor,FB hx,FB hy,ow];have:x ^^^ y<base:=aAi (n:=32) hx hy;unfold base at this;omega
theorem aAm{x:Nat}(hx:x<base):IntKind.u32.wrap (((BitVec.ofInt IntKind.u32.bits (if IntKind.u32.signed then -1 else IntKind.u32.max)) ^^^ (BitVec.ofInt IntKind.u32.bits (x:Int))).toNat:Int)=((base-1-x:Nat):Int):=by
 have h0:(if IntKind.u32.signed then -1 else IntKind.u32.max)=((base-1:Nat):Int):=by decide
 rw[h0,aAl d_ hx]
 congr 1
 have h1:=BitVec.toNat_not (x:=BitVec.ofNat 32 x);rw[show ~~~(BitVec.ofNat 32 x)=BitVec.allOnes 32 ^^^ BitVec.ofNat 32 x from rfl,BitVec.toNat_xor,FB hx]at h1;have h2:(BitVec.allOnes 32).toNat=base-1:=by decide
 rw[h2]at h1;exact h1
theorem aAn{x y:Nat}(hx:x<base)(hy:y<base)(hb:b<=1):
  aF prog 206 [aY x,aY y,aY b] (.tuple #[aY ((x+2*base-y-b)%base),aY (if x<y+b then 1 else 0)]):=by
 have hd:(x+2*base-y-b)%base<base:=cM _ d_;have kU:x ^^^ y<base:=aAi (n:=32) hx hy;have h1:base-1-x<base:=by unfold base at *;omega
 have h2:base-1-(x ^^^ y)<base:=by unfold base at *;omega
 have h3:(base-1-x)&&& y<base:=Ol (n:=32) _ hy;have h4:(base-1-(x ^^^ y))&&& ((x+2*base-y-b)%base)<base:=Ol (n:=32) _ hd;exact aN func206 (λ_=>[
  .wr 10 .u32 ((x:Int)-y) (((x+base-y)%base:Nat):Int) (by rw[ow];unfold base at *;omega),
  .wr 12 .u32 ((((x+base-y)%base:Nat):Int)-b) (((x+2*base-y-b)%base:Nat):Int) (by rw[ow];unfold base at *;omega),
  .quo 14 .u32 _ ((base-1-x:Nat):Int) (aAm hx),
  .quo 16 .u32 _ (((base-1-x)&&& y:Nat):Int) (aAk h1 hy),
  .quo 19 .u32 _ ((x ^^^ y:Nat):Int) (aAl hx hy),
  .quo 20 .u32 _ ((base-1-(x ^^^ y):Nat):Int) (aAm kU),
  .quo 22 .u32 _ (((base-1-(x ^^^ y))&&& ((x+2*base-y-b)%base):Nat):Int) (aAk h2 hd),
  .quo 23 .u32 _ ((((base-1-x)&&& y)||| ((base-1-(x ^^^ y))&&& ((x+2*base-y-b)%base)):Nat):Int) (Tl h3 h4),
  .quo 24 .u32 (((((base-1-x)&&& y)||| ((base-1-(x ^^^ y))&&& ((x+2*base-y-b)%base)):Nat):Int).fdiv (2^31)) ((if x<y+b then 1 else 0:Nat):Int) (by rw[<-aIS hx hy hb,sT _ d_];rfl)])
section
variable{Bs:aa}{n m a b:Nat}
def HT(n m a b i:Nat):aX:=[(15,vI i),(14,vI n),(13,sl 0 n),(1,sl 1 m),(5,sl 2 n),(6,aY (lp base a b i))]
def Ds(n m a b i:Nat):aL:=[(0,.view (ao (ae base n a))),(1,.view (ao (ae base m b))),(2,.row (ao (eQ base n i (a-b))) 181 1)]
theorem aIT(hi:i<n)(hb:b<base^m)(ch:b<=a)(h63:n<9223372036854775807):
  ai prog Bs 41 (aJ (ah f179 0)) (HT n m a b i) (Ds n m a b i) 3 ⟨.normal,HT n m a b (i+1),Ds n m a b (i+1),3⟩:=by
 have hx:=iB (B:=base) d_ a i;have hy:=iB (B:=base) d_ b i;have hc:=Oc (B:=base) a b i;have xQ:=aAn hx hy hc;rw[show a/base^i%base+2*base-b/base^i%base-lp base a b i=a/base^i%base+2*base-b/base^i%base-lp base a b i from rfl,Tj d_ ch,Ti d_]at xQ;have bP:fo prog 181 (ao (eQ base n i (a-b))) i (aY ((a-b)/base^i%base))=some (ao (eQ base n (i+1) (a-b))):=by rw[zG _ i _ (by simp[ao,N8];omega),zH,N9 hi rfl]
 by_cases jW:i<m
 ·exact aE [.lt 16 i n true (by simp[hi]),.ix f179 18 0 n i hi k_,.ld f179 19 181 0 i (.view (ao (ae base n a))) (aY (a/base^i%base)) rfl (by rw[gj];exact lq (eP hi)) k_,.lt 23 i m true (by simp[jW]),.ix f179 26 1 m i jW k_,.ld f179 27 181 1 i (.view (ao (ae base m b))) (aY (b/base^i%base)) rfl (by rw[gj];exact lq (eP jW)) k_,xQ.at 34,.ix f179 37 2 n i hi k_,.st f179 100037 181 2 i (.row (ao (eQ base n i (a-b))) 181 1) (aY ((a-b)/base^i%base)) (.row (ao (eQ base n (i+1) (a-b))) 181 1) rfl bP rfl k_,.sum 38 i 1 (i+1) rfl o_]
 ·have xO:b/base^i%base=0:=rH hb o_ d_;rw[xO]at xQ;exact aE [.lt 16 i n true (by simp[hi]),.ix f179 18 0 n i hi k_,.ld f179 19 181 0 i (.view (ao (ae base n a))) (aY (a/base^i%base)) rfl (by rw[gj];exact lq (eP hi)) k_,.lt 23 i m false (by simp[jW]),xQ.at 34,.ix f179 37 2 n i hi k_,.st f179 100037 181 2 i (.row (ao (eQ base n i (a-b))) 181 1) (aY ((a-b)/base^i%base)) (.row (ao (eQ base n (i+1) (a-b))) 181 1) rfl bP rfl k_,.sum 38 i 1 (i+1) rfl o_]
theorem aIU(hb:b<base^m)(ch:b<=a)(h63:n<9223372036854775807):
  ai prog Bs 41 (.block 0 (ah f179 0)) (HT n m a b 0) (Ds n m a b 0) 3 ⟨.normal,HT n m a b n,Ds n m a b n,3⟩:=
 cd (cA (b:=aJ (ah f179 0)) (r:=⟨.exit 0,HT n m a b n,Ds n m a b n,3⟩) n (HT n m a b) (Ds n m a b)
  (λi k _=>km (l:=Ds n m a b i) (m:=Ds n m a b 0) rfl k) (λi hi=>aIT hi hb ch h63) (aE [.lt 16 n n false s_]) n_)
end
theorem aIV{w:h_}{vb:i_}(gJ:iQ w va a)(lQ:iQ w vb b)(ch:b<=a)(h1:nd base a<35184372088832):
  Calls prog 179 #[va,vb] w λe w'=>∃ v,e=.returned v/\jX w w' v (a-b)/\Below w.heap.size w w':=by
 have ha:=ew (B:=base) d_ a;have hb:=ew (B:=base) d_ b;have hl:∀ s∈[cH.row va (nd base a) (ao (ae base (nd base a) a)),cH.row vb (nd base b) (ao (ae base (nd base b) b))],s.OK w:=by
  intro s hs;simp at hs;rcases hs with rfl|rfl
  ·exact⟨gJ,fT _⟩
  ·exact⟨lQ,fT _⟩
 unfold iQ at gJ lQ;generalize nd base a=n at *;generalize nd base b=m at *;have hs:a-b<base^n:=by omega
 refine mh (Q:=λe w'=>∃ v,e=.returned v/\jX w w' v (a-b)/\Below w.heap.size w w') mixed func179 [cH.row va n (ao (ae base n a)),cH.row vb m (ao (ae base m b))] hl 100 (N:=41) k_
  (rs:=[(bd.qD f179 12 2 n 181 4 (aY 0) (ao (eQ base n 0 (a-b))) (by rw[Tf,FA]) rfl rfl o_ (by simp[maxLen];omega) k_:bd prog (aa.at w) 41),.rw 6 (.int .u32 0) (aY (lp base a b 0)) (by rw[Th];rfl),.code 0 _ _ _ _ _ (aIU (n:=n) hb ch o_),.trim f179 40 2 n (a-b) (.row (ao (eQ base n n (a-b))) 181 1) rfl (by rw[<-HO];rfl) hs o_ (y:=.func 196) k_])
  (v:=.slice (some ⟨2,0,some 7⟩) (nd base (a-b)) 0) (ms:=[(2,.row (ao (eQ base n n (a-b))) 181 1)]) k_ λaz cr v' w' hc bE dQ _=>⟨v',rfl,?_,bE.base⟩
 have hk:=dQ _ (aT ..);rw[HO]at hk;exact xP bE hk hs hc
structure BL(g:Nat)(w w':h_):Prop where
 os:tV w w'
 tape:w'.tape=w.tape
 output:w'.output=w.output
 size:w.heap.size<=w'.heap.size
 block:∀ k,k<w.heap.size->k≠g->w'.heap[k]?=w.heap[k]?
def aa.wG(w0:h_)(g:Nat):aa where
 G w:=BL g w0 w
 cU k:=k<w0.heap.size/\k≠g
 lt w k h hk:=cG hk.1 h.size
 dep w w' h h1 h2 h3 h4 h5:=⟨h1.trans h.os,h2.trans h.tape,h3.trans h.output,dq h.size h4,λk hk hg=>(h5 k ⟨hk,hg⟩).trans (h.block k hk hg)⟩
variable{k size:Nat}{w w':h_}
section
variable{P:j_}{B:aa}{N:Nat}
theorem Tm{g:Nat}{cells:ak}(hg:w.heap[g]?=some (.cells cur ty (0,0)))(jS:cap<=maxLen)(bH:cur.size=cap*size)(hc:cur.toList.take cells.length=cells)(cR:∀ v∈cells,flat v=true):
  aO (aa.wG w g) (dS (λ_=>none) 0 (.at g 0 cap)) (bA (λ_=>none) 0 (.row cells ty size)) w:=by
 have h0:aO (aa.wG w g) (λ_=>none) (λ_=>none) w:=
  ⟨⟨.refl w,rfl,rfl,bC _,λ_ _ _=>rfl⟩,λ_ _=>rfl,λk x h=>(by cases h),λk x b o cap h=>(by cases h),λk j x y b o cap o' aU h=>(by cases h),λk j x F b o cap v h=>(by cases h),λk x b o cap h=>(by cases h),λj F h=>(by cases h),λj k F F' h=>(by cases h),λ_ _ h=>(by cases h)⟩
 refine h0.add rfl (.inr ⟨g,cap,cur,rfl,hg,jS,bH,by rw[hc];exact kO cR⟩) (λb o cp _ e=>?_) n_ n_;injection e with e1 e2 e3;subst e1;exact⟨(zx.1 hg).1,λh=>h.2 rfl,λj y o' aU h=>(by cases h),λj F v h=>(by cases h),λj y o' aU h=>(by cases h)⟩
theorem Tn{g:Nat}{cells:ak}(hm:aO (aa.wG w g) ι c w')(rl:ι 0=some (.at g 0 cap))(hk:c 0=some (.row cells ty size))(cR:∀ v∈cells,flat v=true):
  BL g w w'/\∃ cur,w'.heap[g]?=some (.cells cur ty (0,0))/\cur.size=cap*size/\cur.toList.take cells.length=cells:=by
 refine⟨hm.base,?_⟩;obtain⟨l,h1,h2⟩:=hm.born 0 _ hk;rw[rl]at h1;injection h1 with h1;subst h1;rcases h2 with h2|⟨b,aU,cur,e1,e2,e3,e4,e5⟩
 ·cases h2.1
 ·injection e1 with e1 Dt Du;subst e1;subst Du;exact⟨cur,e2,e4,oc e5 cR⟩
theorem aAo(c:Nat->Option Obj)(k:Nat)(x:Obj):cY (bA c k x) [(k,x)]:=by
 intro j y hj;by_cases h:k=j
 ·subst h;have:ag [(k,x)] k=some x:=by simp[ag]
  rw[this]at hj;rw[<-hj];unfold bA;rw[aB rfl]
 ·have:ag [(k,x)] j=none:=by show(if Nat.beq k j then _ else _)=_;rw[oQ h];rfl
  rw[this]at hj;cases hj
theorem aIW{v:i_}(h1:∀ u∈pre,flat u=true)(h2:∀ u∈post,flat u=true):∀{l:ak},bW (aK ι) (pre++v::post) l->∃ v',aK ι v v'/\l=pre++v'::post:=by
 induction pre with
 |nil=>
  intro l h;cases h with
  |cons hv t=>exact⟨_,hv,by rw[oc t h2];rfl⟩
 |cons u pre ih=>
  intro l h;cases h with
  |cons hu t=>
   obtain⟨v',q1,q2⟩:=ih (λx hx=>h1 x (bF _ hx)) t;exact⟨v',q1,by rw[q2,hu.eZ (h1 _ (aT ..))];rfl⟩
theorem aIX{x:m_}{fi:ak}{n:Nat}{cells:ak}{val:i_}(ho:dD o.op=some x)(e8:gO P f=true)
  (du:fi++args++ca=pre++.slice (some ⟨k,0,some 7⟩) n 0::post) (NB:∀ u∈pre,flat u=true) (To:∀ u∈post,flat u=true) (hn:0<n) (cR:∀ v∈cells,flat v=true) (BM:∀ v∈cells',flat v=true) (kV:flat val=true)
  (h:∀ w g cap cur,w.heap[g]?=some (.cells cur ty (0,0))->n<=cap->cap<=maxLen->cur.size=cap*size->cur.toList.take cells.length=cells->Calls P f (pre++.slice (some ⟨g,0,none⟩) n cap::post).toArray w λe w'=>e=.returned val/\BL g w w'/\∃ gn,w'.heap[g]?=some (.cells gn ty (0,0))/\gn.size=cap*size/\gn.toList.take cells'.length=cells') :
  cI P B o (.func (.func f) fi.toArray ca.toArray::args) [(k,some (.row cells ty size))] val [(k,.row cells' ty size)]:=by
 refine jV ho e8 λι c w hm fv args' bh=>?_;rw[du]at bh;have hk:c k=some (.row cells ty size):=fv _ (aT ..);obtain⟨v,hv,rfl⟩:=aIW NB To bh;rcases hv.iF rfl with ⟨_,h0,_⟩|⟨g,oo,cap,c',hb,lg,nA,he⟩
 ·omega
 ·dsimp only at hb he;have kS:c'=cap:=by omega
  subst kS;obtain⟨l,q1,q2⟩:=hm.born k _ hk;rw[hb]at q1;injection q1 with q1;subst q1;rcases q2 with q2|⟨b,aU,cur,e1,mN,dO,gh,jw⟩
  ·cases q2.1
  ·injection e1 with e1 e2 e3;subst e1;subst e2;subst e3;rw[he];refine(h w g c' cur mN lg dO gh (oc jw cR)).mono ?_
   rintro e w' ⟨rfl,qF,gn,p1,p2,p3⟩
   refine⟨ι,val,rfl,Map.le.refl _,.same kV,hm.write hk rfl hb qF.os qF.tape qF.output qF.size (λj hj FC=>qF.block j hj FC) (.inr ⟨g,c',gn,rfl,p1,dO,p2,?_⟩) n_ rfl⟩;rw[p3];exact kO BM
end
theorem aIY{x y:Nat}(hx:x<base)(hy:y<base):aF prog 224 [aY x,aY y] (.tuple #[aY (x*y/base),aY (x*y%base)]):=by
 have h:x*y<base*base:=qE hx hy;exact aN func224 (λ_=>[
  .wr 8 .u64 x x (by rw[kp];unfold base at *;omega),.wr 10 .u64 y y (by rw[kp];unfold base at *;omega),
  .wr 11 .u64 ((x:Int)*y) ((x*y:Nat):Int) (by rw[kp,<-oO];unfold base at *;omega),
  .quo 13 .u64 (((x*y:Nat):Int).fdiv (2^32)) ((x*y/base:Nat):Int) (by rw[sT _ d_];rfl),
  .wr 14 .u32 ((x*y/base:Nat):Int) ((x*y/base:Nat):Int) (by rw[ow];have:x*y/base<base:=(iP d_).2 h;unfold base at *;omega),
  .wr 16 .u32 ((x*y:Nat):Int) ((x*y%base:Nat):Int) (by rw[ow];unfold base at *;omega)])
section
variable{Bs:aa}{n p t:Nat}
def zO(n i p t:Nat):aL:=[(0,.row (ao (dc base n i (p+t) p)) 181 1)]
def KE(n i p t:Nat):aX:=[(0,sl 0 n),(11,vI i),(10,aY (e9 base p t i))]
theorem Tp(hi:i<n):fo prog 181 (ao (dc base n i (p+t) p)) i (aY ((p+t)/base^i%base))=some (ao (dc base n (i+1) (p+t) p)):=by rw[zG _ i _ (by simp[ao,xM];omega),zH,zF hi rfl]
theorem aIZ(hi:i<n)(ht:t<base^i)(hc:e9 base p t i≠0)(h63:n<9223372036854775807):
  ai prog Bs 63 (aJ (ah f207 0)) (KE n i p t) (zO n i p t) 1 ⟨.normal,KE n (i+1) p t,zO n (i+1) p t,1⟩:=by
 have gP:=BJ (B:=base) d_ p t i;have zK:=KA (x:=p/base^i%base) (y:=t/base^i%base) (c:=e9 base p t i) (iB d_ _ _) (iB d_ _ _) (fq gP d_);rw[HQ d_,Fy d_,rH ht (bC _) d_]at zK;exact aE [.rw 48 (.bool (((e9 base p t i:Nat):Int)!=0)) b_ (by congr 1;rw[vt];omega),.ix f207 56 0 n i hi k_,.ld f207 57 181 0 i (.row (ao (dc base n i (p+t) p)) 181 1) (aY (p/base^i%base)) rfl (by rw[gj];exact lq (Dn hi (bC _))) k_,zK.at 59,.ix f207 62 0 n i hi k_,.st f207 100062 181 0 i (.row (ao (dc base n i (p+t) p)) 181 1) (aY ((p+t)/base^i%base)) (.row (ao (dc base n (i+1) (p+t) p)) 181 1) rfl (Tp hi) rfl k_,.sum 50 i 1 (i+1) rfl o_]
theorem aI0(hc:e9 base p t i=0):ai prog Bs 63 (aJ (ah f207 0)) (KE n i p t) (zO n i p t) 1 ⟨.exit 0,[],zO n i p t,1⟩:=
 aE [.rw 48 (.bool (((e9 base p t i:Nat):Int)!=0)) a_ (by rw[hc];rfl)]
theorem aI1(hi:i<=n)(ht:t<base^i)(hp:p<base^n)(hs:p+t<base^n)(h63:n<9223372036854775807):
  ai prog Bs 63 (.block 0 (ah f207 0)) (KE n i p t) (zO n i p t) 1 ⟨.normal,[],[(0,.row (ao (ae base n (p+t))) 181 1)],1⟩:=by
 have h0:e9 base p t (i+(n-i))=0:=by rw[show i+(n-i)=n by omega,Tg hp o_,mS hs]
 obtain⟨e,h1,h2,h3⟩:=zE (λj=>e9 base p t (i+j)=0) (n-i) h0;have Oo:t<base^(i+e):=cG ht (df d_ o_)
 have:=cA (P:=prog) (B:=Bs) (N:=63) (b:=aJ (ah f207 0)) (next:=1) (r:=⟨.exit 0,[],zO n (i+e) p t,1⟩) e (λj=>KE n (i+j) p t) (λj=>zO n (i+j) p t)
  (λj k _=>km (l:=zO n (i+j) p t) (m:=zO n (i+0) p t) rfl k)
  (λj hj=>aIZ o_ (cG ht (df d_ o_)) (h3 j hj) h63) (aI0 h2) n_
 have:=cd (id:=0) this;unfold zO at this;rw[aIE d_ Oo h2]at this;exact this
end
theorem aI2{g n at' p x y:Nat}(hg:w.heap[g]?=some (.cells cur 181 (0,0)))(lg:n<=cap)(jS:cap<=maxLen)(bH:cur.size=cap*1)(hc:cur.toList.take (ao (ae base n p)).length=ao (ae base n p))
  (hx:x<base) (hy:y<base) (mg:at'+1<n) (hp:p<base^n) (hs:p+x*y*base^at'<base^n) (h63:n<35184372088832) :
  Calls prog 207 #[.slice (some ⟨g,0,none⟩) n cap,vI at',aY x,aY y] w λe w'=>e=.returned (.tuple #[])/\BL g w w'/\∃ gn,w'.heap[g]?=some (.cells gn 181 (0,0))/\gn.size=cap*1/\
   gn.toList.take (ao (ae base n (p+x*y*base^at'))).length=ao (ae base n (p+x*y*base^at')):=by
 have hm:=Tm hg jS bH hc (fT _);have kU:x*y<base*base:=qE hx hy;have ht:=aIH (B:=base) d_ (at':=at') kU;have d0:=aIF (B:=base) d_ at' (x*y);have d1:=aIG (B:=base) d_ (at':=at') kU;have c0:=aID (B:=base) d_ at' p (x*y);have m0:=Z7 (B:=base) d_ n at' p (x*y);have s1:fo prog 181 (ao (dc base n at' (p+x*y*base^at') p)) at' (aY ((p+x*y*base^at')/base^at'%base))=some (ao (dc base n (at'+1) (p+x*y*base^at') p)):=Tp o_;have s2:fo prog 181 (ao (dc base n (at'+1) (p+x*y*base^at') p)) (at'+1) (aY ((p+x*y*base^at')/base^(at'+1)%base))=some (ao (dc base n (at'+2) (p+x*y*base^at') p)):=Tp mg;have lo:=aI1 (Bs:=aa.wG w g) (i:=at'+2) o_ ht hp hs o_;generalize x*y*base^at'=t at *;have aAp:=KA (x:=p/base^at'%base) (y:=t/base^at'%base) (c:=e9 base p t at') (iB d_ _ _) (iB d_ _ _) (by rw[c0];decide);rw[HQ d_,Fy d_,d0,c0]at aAp;have gP:=BJ (B:=base) d_ p t (at'+1);have aAq:=KA (x:=p/base^(at'+1)%base) (y:=t/base^(at'+1)%base) (c:=e9 base p t (at'+1)) (iB d_ _ _) (iB d_ _ _) (fq gP d_);rw[HQ d_,Fy d_,d1]at aAq
 refine sO (M:=[(0,.row (ao (ae base n p)) 181 1)]) (next:=1) (args:=[sl 0 n,vI at',aY x,aY y]) (args':=[.slice (some ⟨g,0,none⟩) n cap,vI at',aY x,aY y]) (v:=.tuple #[])
  (ms:=[(0,.row (ao (ae base n (p+t))) 181 1)]) (N:=63) mixed func207 k_ 100
  (rs:=[((aIY hx hy).at 15:bd prog (aa.wG w g) 63),.ix f207 23 0 n at' o_ k_,.ld f207 24 181 0 at' (.row (ao (ae base n p)) 181 1) (aY (p/base^at'%base)) rfl (by rw[gj];exact lq (eP o_)) k_,aAp.at 26,.ix f207 29 0 n at' o_ k_,.st f207 100029 181 0 at' (.row (ao (ae base n p)) 181 1) (aY ((p+t)/base^at'%base)) (.row (ao (dc base n (at'+1) (p+t) p)) 181 1) rfl (by rw[<-m0];exact s1) rfl k_,.sum 33 at' 1 (at'+1) rfl o_,.sum 36 at' 1 (at'+1) rfl o_,.ix f207 37 0 n (at'+1) mg k_,.ld f207 38 181 0 (at'+1) (.row (ao (dc base n (at'+1) (p+t) p)) 181 1) (aY (p/base^(at'+1)%base)) rfl (by rw[gj];exact lq (Dn mg (bC _))) k_,aAq.at 41,.ix f207 44 0 n (at'+1) mg k_,.st f207 100044 181 0 (at'+1) (.row (ao (dc base n (at'+1) (p+t) p)) 181 1) (aY ((p+t)/base^(at'+1)%base)) (.row (ao (dc base n (at'+2) (p+t) p)) 181 1) rfl s2 rfl k_,.sum 46 at' 2 (at'+2) rfl o_,.code 0 _ _ _ _ _ lo]) k_ ?_ hm ?_ ?_ ?_
 ·exact .cons (.slc (off:=0) (gg _ _ _) lg o_) (.cons (.same rfl) (.cons (.same rfl) (.cons (.same rfl) .nil)))
 ·exact aAo _ _ _
 ·intro k hk;unfold bA;rw[av o_]
 ·intro az cr v' w' hle tW bE dQ;obtain⟨q1,q2⟩:=Tn bE (hle 0 _ (gg _ _ _)) (dQ _ (aT ..)) (fT _);exact⟨by rw[tW.eZ rfl],q1,q2⟩
section
variable{Bs:aa}{n m a b:Nat}
def zQ(n m a b i k:Nat):Obj:=.row (ao (ae base (n+m+1) (part base a b i k))) 181 1
def Tq(N:Nat):Value:=.func (.func 207) #[sl 2 N] #[]
theorem aI3{x:m_}(ho:dD o.op=some x)(hi:i<n)(hk:k<m)(ha:a<base^n)(hb:b<base^m)(h63:n+m+1<35184372088832):
  cI prog Bs o [Tq (n+m+1),vI (i+k),aY (a/base^i%base),aY (b/base^k%base)] [(2,some (zQ n m a b i k))] (.tuple #[]) [(2,zQ n m a b i (k+1))]:=by
 refine aIX (fi:=[sl 2 (n+m+1)]) (args:=[vI (i+k),aY (a/base^i%base),aY (b/base^k%base)]) (ca:=[]) (pre:=[]) (post:=[vI (i+k),aY (a/base^i%base),aY (b/base^k%base)]) ho k_ rfl n_
  (λu hu=>by simp at hu;rcases hu with rfl|rfl|rfl<;>rfl) o_ (fT _) (fT _) rfl λw g cap cur h1 h2 h3 h4 h5=>?_
 have al:=aAd (B:=base) d_ ha hb;rw[aAa]
 exact aI2 h1 h2 h3 h4 h5 (iB d_ _ _) (iB d_ _ _) o_ (fq (aAb d_ _ _ _ _) al)
  (by rw[<-aAa];exact fq (aAb d_ _ _ _ _) al) h63
def HU(n m a b i k:Nat):aX:=[(29,vI k),(28,vI m),(27,sl 1 m),(6,Tq (n+m+1)),(7,vI i),(8,aY (a/base^i%base))]
def Dv(n m a b i k:Nat):aL:=[(1,.view (ao (ae base m b))),(2,zQ n m a b i k)]
theorem aI4(hi:i<n)(hk:k<m)(ha:a<base^n)(hb:b<base^m)(h63:n+m+1<35184372088832):
  ai prog Bs 45 (aJ (ah f180 2)) (HU n m a b i k) (Dv n m a b i k) 3 ⟨.normal,HU n m a b i (k+1),Dv n m a b i (k+1),3⟩:=
 aE [.lt 30 k m true (by simp[hk]),.ix f180 32 1 m k hk k_,.ld f180 33 181 1 k (.view (ao (ae base m b))) (aY (b/base^k%base)) rfl (by rw[gj];exact lq (eP hk)) k_,.sum 37 i k (i+k) rfl o_,.step 40 (aw f180 40) _ _ _ _ (aI3 (x:=.tmp 34) k_ hi hk ha hb h63),.sum 41 k 1 (k+1) rfl o_]
theorem aI5(hi:i<n)(ha:a<base^n)(hb:b<base^m)(h63:n+m+1<35184372088832):
  ai prog Bs 45 (.block 2 (ah f180 2)) (HU n m a b i 0) (Dv n m a b i 0) 3 ⟨.normal,HU n m a b i m,[(1,.view (ao (ae base m b))),(2,zQ n m a b (i+1) 0)],3⟩:=by
 have:=cA (P:=prog) (B:=Bs) (N:=45) (b:=aJ (ah f180 2)) (r:=⟨.exit 2,HU n m a b i m,Dv n m a b i m,3⟩) m (HU n m a b i) (Dv n m a b i)
  (λk j _=>km (l:=Dv n m a b i k) (m:=Dv n m a b i 0) rfl j) (λk hk=>aI4 hi hk ha hb h63) (aE [.lt 30 m m false s_]) n_
 have:=cd (id:=2) this;unfold Dv zQ at this;rw[aII hb]at this;exact this
def HV(n m i:Nat):aX:=[(22,vI i),(21,vI n),(20,sl 0 n),(1,sl 1 m),(5,sl 2 (n+m+1)),(6,Tq (n+m+1))]
def Dw(n m a b i:Nat):aL:=[(0,.view (ao (ae base n a))),(1,.view (ao (ae base m b))),(2,zQ n m a b i 0)]
theorem aI6(hi:i<n)(ha:a<base^n)(hb:b<base^m)(h63:n+m+1<35184372088832):
  ai prog Bs 45 (aJ (ah f180 0)) (HV n m i) (Dw n m a b i) 3 ⟨.normal,HV n m (i+1),Dw n m a b (i+1),3⟩:=
 aE [.lt 23 i n true (by simp[hi]),.ix f180 25 0 n i hi k_,.ld f180 26 181 0 i (.view (ao (ae base n a))) (aY (a/base^i%base)) rfl (by rw[gj];exact lq (eP hi)) k_,.code 2 _ _ _ _ _ (aI5 hi ha hb h63),.sum 42 i 1 (i+1) rfl o_]
theorem aI7(ha:a<base^n)(hb:b<base^m)(h63:n+m+1<35184372088832):
  ai prog Bs 45 (.block 0 (ah f180 0)) (HV n m 0) (Dw n m a b 0) 3 ⟨.normal,HV n m n,Dw n m a b n,3⟩:=
 cd (cA (b:=aJ (ah f180 0)) (r:=⟨.exit 0,HV n m n,Dw n m a b n,3⟩) n (HV n m) (Dw n m a b)
  (λi k _=>km (l:=Dw n m a b i) (m:=Dw n m a b 0) rfl k) (λi hi=>aI6 hi ha hb h63) (aE [.lt 23 n n false s_]) n_)
end
theorem Tr(B n:Nat):ae B n 0=List.replicate n 0:=by apply xL<;>simp[ae]
theorem aI8{vb:i_}(gJ:iQ w va a)(lQ:iQ w vb b)(h63:nd base a+nd base b+1<35184372088832):
  Calls prog 180 #[va,vb] w λe w'=>∃ v,e=.returned v/\jX w w' v (a*b)/\Below w.heap.size w w':=by
 have ha:=ew (B:=base) d_ a;have hb:=ew (B:=base) d_ b;have hl:∀ s∈[cH.row va (nd base a) (ao (ae base (nd base a) a)),cH.row vb (nd base b) (ao (ae base (nd base b) b))],s.OK w:=by
  intro s hs;simp at hs;rcases hs with rfl|rfl
  ·exact⟨gJ,fT _⟩
  ·exact⟨lQ,fT _⟩
 unfold iQ at gJ lQ;generalize nd base a=n at *;generalize nd base b=m at *;have hs:=aAd (B:=base) d_ ha hb;have bh:part base a b n 0=a*b:=by rw[Dp,dW ha]
 refine mh (Q:=λe w'=>∃ v,e=.returned v/\jX w w' v (a*b)/\Below w.heap.size w w') mixed func180 [cH.row va n (ao (ae base n a)),cH.row vb m (ao (ae base m b))] hl 100 (N:=45) k_
  (rs:=[(bd.sum 15 n m (n+m) rfl o_:bd prog (aa.at w) 45),.sum 16 (n+m) 1 (n+m+1) rfl o_,.qD f180 17 2 (n+m+1) 181 4 (aY 0) (zQ n m a b 0 0).cells (by show _=ao (ae base (n+m+1) (part base a b 0 0));rw[Dp,sU,uf,lP,Tr,FA]) rfl rfl o_ (by simp[maxLen];omega) k_,.code 0 _ _ _ _ _ (aI7 (n:=n) (m:=m) ha hb h63),.trim f180 44 2 (n+m+1) (a*b) (zQ n m a b n 0) rfl (by rw[<-bh];rfl) hs o_ (y:=.func 196) k_])
  (v:=.slice (some ⟨2,0,some 7⟩) (nd base (a*b)) 0) (ms:=[(2,zQ n m a b n 0)]) k_ λaz cr v' w' hc bE dQ _=>⟨v',rfl,?_,bE.base⟩
 have hk:=dQ _ (aT ..);unfold zQ at hk;rw[bh]at hk;exact xP bE hk hs hc
section
variable{P:j_}{B:aa}{N:Nat}
def HW(o:Oper):Option BinOp:=match o.op with|.binOp b _ _ _ _=>some b|_=>none
theorem Oq{b:BinOp}(ho:HW o=some b)(hb:b≠.eql/\b≠.neq){x y v:i_}(hx:flat x=true)(hy:flat y=true)(hv:flat v=true)(h:∀ t w,(binOp b t x y).run P w=.ok v w):
  cI P B o [x,y] [] v []:=by
 unfold HW at ho;split at ho
 ·rename_i b' t p q t2 cg;injection ho with ho;subst ho;refine(C7 (λu hu=>by simp at hu;rcases hu with rfl|rfl<;>assumption) hv λρ gp w _=>?_).step;rw[cg]at gp;simp[Op.operands]at gp;have hg:(eqGuard b' t p q (ρ p) (ρ q)).run P w=.ok () w:=by unfold eqGuard;cases b'<;>first|rfl|exact absurd rfl hb.1|exact absurd rfl hb.2
  simp only[execOp,cg,gp.1,gp.2];rw[gp.1,gp.2]at hg;simp[hg,h]
 ·cases ho
def bd.shl(fn:Func)(key:Nat)(k:IntKind)(x r:Int)(n:Nat)(hr:k.wrap (x*2^(min n k.bits))=r)(ho:HW (aw fn key)=some .shl):bd P B N:=
 .step key (aw fn key) [.int k x,vI n] [] (.int k r) [] (Oq ho ⟨λe=>(by cases e),λe=>(by cases e)⟩ rfl rfl rfl λt w=>by
  have h0:¬((n:Int)<0):=by omega
  simp[binOp,Op.shift,vI,h0,hr])
def bd.shr(fn:Func)(key:Nat)(k:IntKind)(x r:Int)(n:Nat)(hr:x.fdiv (2^(min n k.bits))=r)(ho:HW (aw fn key)=some .shr):bd P B N:=
 .step key (aw fn key) [.int k x,vI n] [] (.int k r) [] (Oq ho ⟨λe=>(by cases e),λe=>(by cases e)⟩ rfl rfl rfl λt w=>by
  have h0:¬((n:Int)<0):=by omega
  simp[binOp,Op.shift,vI,h0,hr])
def bd.rI(fn:Func)(key:Nat)(k:IntKind)(x y r:Int)(hy:y≠0)(hr:k.wrap (x.tdiv y)=r)(ho:HW (aw fn key)=some .quo):bd P B N:=
 .step key (aw fn key) [.int k x,.int k y] [] (.int k r) [] (Oq ho ⟨λe=>(by cases e),λe=>(by cases e)⟩ rfl rfl rfl λt w=>by simp[binOp,Op.intDiv,hy,hr])
def bd.vu(fn:Func)(key:Nat)(k:IntKind)(x y r:Int)(hy:y≠0)(hr:x.tmod y=r)(ho:HW (aw fn key)=some .rem):bd P B N:=
 .step key (aw fn key) [.int k x,.int k y] [] (.int k r) [] (Oq ho ⟨λe=>(by cases e),λe=>(by cases e)⟩ rfl rfl rfl λt w=>by simp[binOp,Op.intDiv,hy,hr])
def HX(P:j_)(o:Oper):Bool:=match o.op with
 |.index t _ _=>match P.underlying t with|some .string=>true|_=>false
 |_=>false
theorem aI9(ho:HX P o=true){s:ByteArray}{c:UInt8}(hc:s[i]?=some c):cI P B o [.string s,vI i] [] (.int .u8 (c.toNat:Int)) []:=by
 unfold HX at ho;split at ho
 ·rename_i t p q cg;split at ho
  ·rename_i ht;refine(C7 (λu hu=>by simp at hu;rcases hu with rfl|rfl<;>rfl) rfl λρ gp w _=>?_).step;rw[cg]at gp;simp[Op.operands]at gp;have h0:(0:Int)<=(i:Int):=by omega
   simp[execOp,cg,gp.1,gp.2,Instr.index,vI,asIntOf,jJ ht,h0,hc]
  ·cases ho
 ·cases ho
def bd.sx(fn:Func)(key:Nat)(s:ByteArray)(i:Nat)(c:UInt8)(hc:s[i]?=some c)(ho:HX P (aw fn key)=true):bd P B N:=
 .step key (aw fn key) [.string s,vI i] [] (.int .u8 (c.toNat:Int)) [] (aI9 ho hc)
def Ts(P:j_)(o:Oper):Bool:=match o.op with
 |.slice t _ (some _) none none=>match P.underlying t with|some .string=>true|_=>false
 |_=>false
theorem aJa(ho:Ts P o=true){s:ByteArray}(hi:i<=s.size):cI P B o [.string s,vI i] [] (.string (s.extract i s.size)) []:=by
 unfold Ts at ho;split at ho
 ·rename_i t p q cg;split at ho
  ·rename_i ht;refine(C7 (λu hu=>by simp at hu;rcases hu with rfl|rfl<;>rfl) rfl λρ gp w _=>?_).step;rw[cg]at gp;simp[Op.operands]at gp;have h0:(0:Int)<=(i:Int):=by omega
   have h1:(i:Int)<=(s.size:Int):=by omega
   simp[execOp,cg,gp.1,gp.2,Instr.sliceAt,Instr.slice,Instr.sliceBounds,Instr.sliceBound,vI,asIntOf,jJ ht,h0,hi]
  ·cases ho
 ·cases ho
def bd.sf(fn:Func)(key:Nat)(s:ByteArray)(i:Nat)(hi:i<=s.size)(ho:Ts P (aw fn key)=true):bd P B N:=
 .step key (aw fn key) [.string s,vI i] [] (.string (s.extract i s.size)) [] (aJa ho hi)
end
def gw(l:List UInt8):Nat:=l.foldl (λa c=>a*256+c.toNat) 0
theorem Tt:∀(l:List UInt8) (a:Nat),l.foldl (λa c=>a*256+c.toNat) a=a*256^l.length+gw l
 |[],a=>by simp[gw]
 |c::l,a=>by have e:gw (c::l)=(0*256+c.toNat)*256^l.length+gw l:=Tt l (0*256+c.toNat);rw[wE,Tt l,e,pS,dG,fQ,lP,kA,gi,cX 256];omega
theorem KF(c:UInt8)(l:List UInt8):gw (c::l)=c.toNat*256^l.length+gw l:=by have:=Tt l (0*256+c.toNat);have e:gw (c::l)=List.foldl (λa c=>a*256+c.toNat) (0*256+c.toNat) l:=rfl;rw[e,this,lP,kA]
theorem BN:∀(l:List UInt8),gw l<256^l.length
 |[]=>by simp[gw]
 |c::l=>by
  have h1:=BN l;have h2:c.toNat<256:=c.toNat_lt;rw[KF,pS,dG];have:c.toNat*256^l.length+256^l.length<=256^l.length*256:=by rw[<-sS,cX];exact jK _ o_
  omega
theorem aAr:∀(l:List UInt8) (i:Nat),i<l.length->∃ c,l[l.length-1-i]?=some c/\c.toNat=gw l/256^i%256
 |[],i,h=>by simp at h
 |c::l,i,h=>by
  rw[pS]at h;rw[KF];rcases e7 i l.length with hi|hi
  ·obtain⟨d,h1,h2⟩:=aAr l i hi;refine⟨d,?_,?_⟩
   ·rw[pS,show l.length+1-1-i=(l.length-1-i)+1 by omega,List.getElem?_cons_succ];exact h1
   ·rw[h2];have e:256^l.length=256^i*(256*256^(l.length-i-1)):=by rw[<-Nat.pow_succ',<-eR];congr 1;omega
    rw[e,show c.toNat*(256^i*(256*256^(l.length-i-1)))=256^i*(256*(c.toNat*256^(l.length-i-1)))by rw[nH,nH c.toNat],nG,Kx _ _ (cP d_),Fz]
  ·have e:i=l.length:=by omega
   subst e;refine⟨c,by simp,?_⟩;have h1:=BN l;have h2:c.toNat<256:=c.toNat_lt;rw[cX,nG,Kx _ _ (cP d_),mS h1,kA,dW h2]
def kW(s:ByteArray):Nat:=gw s.data.toList
theorem aAs(s:ByteArray)(i:Nat):s[i]?=s.data.toList[i]?:=by
 by_cases h:i<s.size
 ·rw[getElem?_pos s i h,bo (by simpa using h)];rfl
 ·rw[getElem?_neg s i h,Br (by simpa using h)]
theorem aAt(s:ByteArray):kW s<256^s.size:=BN _
theorem Tu(s:ByteArray)(h:i<s.size):∃ c,s[s.size-1-i]?=some c/\c.toNat=kW s/256^i%256:=by rw[aAs];exact aAr s.data.toList i (by simpa using h)
theorem aJb:(a%256^i/4294967296^(i/4)%4294967296)||| (a/256^i%256*2^(8*(i%4)))=a%256^(i+1)/4294967296^(i/4)%4294967296:=by
 have hB:(4294967296:Nat)=256^4:=by decide
 have e1:(4294967296:Nat)^(i/4)=256^(4*(i/4)):=by rw[hB,<-sV]
 have e2:(2:Nat)^(8*(i%4))=256^(i%4):=by rw[sV]
 have e3:256^i=256^(4*(i/4))*256^(i%4):=by rw[<-eR];congr 1;omega
 have hq:0<256^(4*(i/4)):=cP d_;have hr:256^(i%4)*256<=4294967296:=by rw[hB,<-dG];exact df d_ o_
 rw[e1,e2];have m1:a%256^i/256^(4*(i/4))=a/256^(4*(i/4))%256^(i%4):=by rw[e3,BO]
 have m2:a%256^(i+1)/256^(4*(i/4))=a/256^(4*(i/4))%(256^(i%4)*256):=by rw[dG,e3,gi,BO]
 have m3:a/256^i%256=a/256^(4*(i/4))/256^(i%4)%256:=by rw[e3,ll]
 rw[m1,m2,m3];generalize a/256^(4*(i/4))=c;have hp:0<256^(i%4):=cP d_;have h1:=cM c hp;have h2:c/256^(i%4)%256<256:=cM _ d_;have h3:c%(256^(i%4)*256)=c%256^(i%4)+256^(i%4)*(c/256^(i%4)%256):=Oa;have h4:c%(256^(i%4)*256)<256^(i%4)*256:=cM _ o_;rw[dW (show c%256^(i%4)<4294967296 by omega),dW (show c%(256^(i%4)*256)<4294967296 by omega),h3];have e4:(256:Nat)^(i%4)=2^(8*(i%4)):=by rw[sV]
 rw[e4]at h1 ⊢;rw[Nat.or_comm,cX,<-Ot h1,nG]
theorem aJc(h:j≠i/4):a%256^i/4294967296^j%4294967296=a%256^(i+1)/4294967296^j%4294967296:=by
 have hB:(4294967296:Nat)=256^4:=by decide
 have e1:(4294967296:Nat)^j=256^(4*j):=by rw[hB,<-sV]
 rw[e1];rcases Fj h with h1|h1
 ·-- lower digits
  have k:∀ i,4*j+4<=i->a%256^i/256^(4*j)%4294967296=a/256^(4*j)%4294967296:=by
   intro i hi;have e3:256^i=256^(4*j)*(4294967296*256^(i-4*j-4)):=by rw[hB,<-eR,<-eR];congr 1;omega
   rw[e3,BO,KG]
  rw[k i o_,k (i+1) o_]
 ·have hp:∀ i,i<=4*j->a%256^i/256^(4*j)=0:=by intro i hi;exact mS (cG (cM _ (cP d_)) (df d_ hi))
  rw[hp i o_,hp (i+1) o_]
theorem aJd{n:Nat}(hi:i/4<n):(ae 4294967296 n (a%256^i)).set (i/4) (a%256^(i+1)/4294967296^(i/4)%4294967296)=ae 4294967296 n (a%256^(i+1)):=by
 apply xL
 ·simp[ae]
 ·intro j h1 h2;simp only[ae,eH,zD]at h2;rw[HP];simp only[ae,Dl,Dm];by_cases hj:i/4=j
  ·rw[aB hj,hj]
  ·rw[av hj];exact aJc (kR hj)
def BA(l:List UInt8):ByteArray:=⟨l.toArray⟩
theorem pw(l:List UInt8):(BA l).size=l.length:=rfl
theorem KH(l:List UInt8)(i:Nat):(BA l)[i]?=l[i]?:=by rw[aAs];rfl
theorem aJe(l:List UInt8)(i:Nat):(BA l).extract i (BA l).size=BA (l.drop i):=by apply ByteArray.ext;rw[ByteArray.data_extract];show(l.toArray).extract i l.length=(l.drop i).toArray;apply E9;simp[kT]
def jY:List UInt8->Nat
 |[]=>0
 |c::l=>if c=0 then jY l+1 else 0
theorem aAu:∀ l:List UInt8,jY l<=l.length
 |[]=>bC _
 |c::l=>by unfold jY;have:=aAu l;split<;>simp<;>omega
theorem aAv:∀(l:List UInt8) (i:Nat),i<jY l->l[i]?=some 0
 |[],i,h=>by simp[jY]at h
 |c::l,i,h=>by
  unfold jY at h;split at h
  ·rename_i hc;cases i with
   |zero=>rw[hc];rfl
   |succ i=>exact aAv l i o_
  ·omega
theorem aAw:∀(l:List UInt8),jY l<l.length->∃ c,l[jY l]?=some c/\c≠0
 |[],h=>by simp at h
 |c::l,h=>by
  unfold jY at h ⊢;split at h
  ·rename_i hc;rw[aB hc];obtain⟨d,h1,h2⟩:=aAw l (by simpa using h);exact⟨d,h1,h2⟩
  ·rename_i hc;rw[av hc];exact⟨c,rfl,hc⟩
def KI(l:List UInt8):List UInt8:=l.drop (jY l)
theorem aJf{x n:Nat}(hn:n<=32)(h:x*2^n<base):IntKind.u32.wrap ((x:Int)*2^(min n IntKind.u32.bits))=((x*2^n:Nat):Int):=by
 have e:(x:Int)*2^n=((x*2^n:Nat):Int):=by simp
 rw[show min n IntKind.u32.bits=n from oP hn,ow,e];unfold base at h;omega
section
variable{Bs:aa}{n N a:Nat}{s:ByteArray}
def HY(s:ByteArray)(n N i:Nat):aX:=[(13,vI i),(12,vI n),(0,.string s),(3,sl 0 N)]
def Dx(N a i:Nat):aL:=[(0,.row (ao (ae base N (a%256^i))) 181 1)]
theorem aJg(hn:n=s.size)(hN:N=(n+3)/4)(ha:a=kW s)(hi:i<n)(h63:n<35184372088832):
  ai prog Bs 39 (aJ (ah f176 0)) (HY s n N i) (Dx N a i) 1 ⟨.normal,HY s n N (i+1),Dx N a (i+1),1⟩:=by
 obtain⟨c,gP,dp⟩:=Tu s (show i<s.size by omega);rw[<-hn]at gP;rw[<-ha]at dp;have xR:i/4<N:=by omega
 have hb:=aJb (a:=a) (i:=i);have h1:a%256^i/base^(i/4)%base<base:=iB d_ _ _;have h2:c.toNat*2^(8*(i%4))<base:=by have:c.toNat<256:=c.toNat_lt;have h3:2^(8*(i%4))<=2^24:=df d_ o_;have:=qG (show c.toNat<=255 by omega) h3;unfold base;omega
 have bP:fo prog 181 (ao (ae base N (a%256^i))) (i/4) (aY (a%256^(i+1)/base^(i/4)%base))=some (ao (ae base N (a%256^(i+1)))):=by rw[zG _ _ _ (by simp[ao,pq];exact xR),zH,aJd xR]
 have lO:((a%256^i/base^(i/4)%base||| c.toNat*2^(8*(i%4)):Nat):Int)=((a%256^(i+1)/base^(i/4)%base:Nat):Int):=by rw[dp];exact cO _ hb
 have hlen:(s.size:Int)=((n:Nat):Int):=by rw[hn]
 exact aE [.lt 14 i n true (by simp[hi]),.rw 17 (.int .i64 (s.size:Int)) (vI n) (by rw[hlen];rfl),.fp 18 n 1 (n-1) o_ o_,.fp 20 (n-1) i (n-1-i) o_ o_,.wr 23 .i64 (Int.tdiv (i:Int) 4) ((i/4:Nat):Int) (by rw[dh,BP o_];omega),.ix f176 24 0 N (i/4) xR k_,.ld f176 25 181 0 (i/4) (.row (ao (ae base N (a%256^i))) 181 1) (aY (a%256^i/base^(i/4)%base)) rfl (by rw[gj];exact lq (eP xR)) k_,.sx f176 28 s (n-1-i) c gP k_,.wr 29 .u32 (c.toNat:Int) (c.toNat:Int) (by rw[ow];have:=c.toNat_lt;omega),.quo 31 .i64 (Int.tmod (i:Int) 4) ((i%4:Nat):Int) (by rw[wH o_];omega),.wr 32 .i64 (8*((i%4:Nat):Int)) ((8*(i%4):Nat):Int) (by rw[dh];omega),.shl f176 33 .u32 (c.toNat:Int) ((c.toNat*2^(8*(i%4)):Nat):Int) (8*(i%4)) (aJf o_ h2) k_,.quo 34 .u32 _ _ ((Tl h1 h2).trans lO),.ix f176 35 0 N (i/4) xR k_,.st f176 100035 181 0 (i/4) (.row (ao (ae base N (a%256^i))) 181 1) (aY (a%256^(i+1)/base^(i/4)%base)) (.row (ao (ae base N (a%256^(i+1)))) 181 1) rfl bP rfl k_,.sum 36 i 1 (i+1) rfl o_]
theorem aJh(hn:n=s.size)(hN:N=(n+3)/4)(ha:a=kW s)(h63:n<35184372088832):
  ai prog Bs 39 (.block 0 (ah f176 0)) (HY s n N 0) (Dx N a 0) 1 ⟨.normal,HY s n N n,Dx N a n,1⟩:=
 cd (cA (b:=aJ (ah f176 0)) (r:=⟨.exit 0,HY s n N n,Dx N a n,1⟩) n (HY s n N) (Dx N a)
  (λi k _=>km (l:=Dx N a i) (m:=Dx N a 0) rfl k) (λi hi=>aJg hn hN ha hi h63) (aE [.lt 14 n n false s_]) n_)
end
theorem aJi{s:ByteArray}(h63:s.size<35184372088832):
  Calls prog 176 #[.string s] w λe w'=>∃ v,e=.returned v/\jX w w' v (kW s)/\Below w.heap.size w w':=by
 have al:=aAt s;have hs:kW s<base^((s.size+3)/4):=by
  have:(base:Nat)=256^4:=by decide
  rw[this,<-sV];exact cG al (df d_ o_)
 have bh:kW s%256^s.size=kW s:=dW al
 refine mh (Q:=λe w'=>∃ v,e=.returned v/\jX w w' v (kW s)/\Below w.heap.size w w') mixed func176 [cH.plain (.string s)] (λx hx=>by simp at hx;subst hx;rfl) 100 (N:=39) k_
  (rs:=[(bd.sum 8 s.size 3 (s.size+3) rfl o_:bd prog (aa.at w) 39),.wr 9 .i64 (Int.tdiv ((s.size+3:Nat):Int) 4) (((s.size+3)/4:Nat):Int) (by rw[dh,BP o_];omega),.qD f176 10 0 ((s.size+3)/4) 181 4 (aY 0) (ao (ae base ((s.size+3)/4) (kW s%256^0))) (by rw[sU,uf,Tr,FA]) rfl rfl o_ (by simp[maxLen];omega) k_,.code 0 _ _ _ _ _ (aJh (n:=s.size) (N:=(s.size+3)/4) (a:=kW s) rfl rfl rfl h63),.trim f176 38 0 ((s.size+3)/4) (kW s) (.row (ao (ae base ((s.size+3)/4) (kW s%256^s.size))) 181 1) rfl (by rw[bh];rfl) hs o_ (y:=.func 196) k_])
  (v:=.slice (some ⟨0,0,some 7⟩) (nd base (kW s)) 0) (ms:=[(0,.row (ao (ae base ((s.size+3)/4) (kW s%256^s.size))) 181 1)]) k_ λaz cr v' w' hc bE dQ _=>⟨v',rfl,?_,bE.base⟩
 have hk:=dQ _ (aT ..);rw[bh]at hk;exact xP bE hk hs hc
section
variable{Bs:aa}{l:List UInt8}
def Dy(l:List UInt8)(i:Nat):aX:=[(0,.string (BA (l.drop i))),(1,.int .u8 0)]
theorem Tv:(((BA (l.drop i)).size:Nat):Int)=((l.length-i:Nat):Int):=by rw[pw,wy]
theorem aJj(hi:i<jY l):ai prog Bs 17 (aJ (ah f239 0)) (Dy l i) [] 0 ⟨.normal,Dy l (i+1),[],0⟩:=by
 have hz:=aAv l i hi;have hle:=aAu l;have e:(BA (l.drop i)).extract 1 (BA (l.drop i)).size=BA (l.drop (i+1)):=by rw[aJe,Ou]
 have h1:1<=(BA (l.drop i)).size:=by rw[pw,wy];omega
 exact aE [.rw 6 (.int .i64 (((BA (l.drop i)).size:Nat):Int)) (vI (l.length-i)) (by rw[Tv];rfl),.gt 7 (l.length-i) 0 true (by simp;omega),.sx f239 10 (BA (l.drop i)) 0 0 (by rw[KH,E5];exact hz) k_,.sf f239 15 (BA (l.drop i)) 1 h1 k_,.rw 0 (.string ((BA (l.drop i)).extract 1 (BA (l.drop i)).size)) (.string (BA (l.drop (i+1)))) (by rw[e])]
theorem aJk:ai prog Bs 17 (aJ (ah f239 0)) (Dy l (jY l)) [] 0 ⟨.exit 0,Dy l (jY l),[],0⟩:=by
 by_cases h:jY l<l.length
 ·obtain⟨c,h1,h2⟩:=aAw l h;have h3:c.toNat≠0:=λe=>h2 (Ov.1 (by rw[e];rfl));exact aE [.rw 6 (.int .i64 (((BA (l.drop (jY l))).size:Nat):Int)) (vI (l.length-jY l)) (by rw[Tv];rfl),.gt 7 (l.length-jY l) 0 true (by simp;omega),.sx f239 10 (BA (l.drop (jY l))) 0 c (by rw[KH,E5];exact h1) k_,.fN 12 c.toNat 0 false (by simp[h3])]
 ·exact aE [.rw 6 (.int .i64 (((BA (l.drop (jY l))).size:Nat):Int)) (vI (l.length-jY l)) (by rw[Tv];rfl),.gt 7 (l.length-jY l) 0 false (by simp;omega)]
theorem aJl:ai prog Bs 17 (.block 0 (ah f239 0)) (Dy l 0) [] 0 ⟨.normal,Dy l (jY l),[],0⟩:=
 cd (cA (b:=aJ (ah f239 0)) (r:=⟨.exit 0,Dy l (jY l),[],0⟩) (jY l) (Dy l) (λ_=>[]) (λi k _=>Iff.rfl) (λi hi=>aJj hi) aJk n_)
end
theorem aJm(l:List UInt8):aF prog 239 [.string (BA l),.int .u8 0] (.string (BA (KI l))):=
 aN func239 (λ_=>[.code 0 _ _ _ _ _ (aJl (l:=l))])
theorem aAx(l:List UInt8):(BA l).toList=l:=by rw[ByteArray.toList_eq];rfl
theorem FD(l:List UInt8):((BA l).toList==(ByteArray.mk #[]).toList)=decide (l=[]):=by rw[aAx,show(ByteArray.mk #[]).toList=[]from aAx []];cases l<;>rfl
theorem aJn(l:List UInt8):aF prog 222 [.string (BA l),.string ⟨#[0]⟩] (.string (BA (KI l))):=by
 by_cases h:l=[]
 ·subst h;exact aN func222 (λ_=>[.rw 8 (.bool ((BA []).toList==(ByteArray.mk #[]).toList)) b_ (by rw[FD];rfl)])
 ·exact aN func222 (λ_=>[.rw 8 (.bool ((BA l).toList==(ByteArray.mk #[]).toList)) a_ (by rw[FD,aP h]),(aJm l).at 25])
theorem Tw{x y:Nat}(hx:x<18446744073709551616)(hy:y<18446744073709551616):IntKind.u64.wrap (((BitVec.ofInt IntKind.u64.bits (x:Int))||| (BitVec.ofInt IntKind.u64.bits (y:Int))).toNat:Int)=((x||| y:Nat):Int):=by
 show IntKind.u64.wrap (((BitVec.ofInt 64 (x:Int))||| (BitVec.ofInt 64 (y:Int))).toNat:Int)=_;have e:∀ x:Nat,(BitVec.ofInt 64 (x:Int))=BitVec.ofNat 64 x:=λx=>by simp
 have t:∀ x:Nat,x<18446744073709551616->(BitVec.ofNat 64 x).toNat=x:=λx h=>by rw[BitVec.toNat_ofNat];exact dW h
 rw[e,e,BitVec.toNat_or,t x hx,t y hy,kp];have:x||| y<18446744073709551616:=aAj (n:=64) hx hy
 omega
theorem aJo{hi lo y:Nat}(hh:hi<y)(hl:lo<base)(hy:y<base):
  aF prog 238 [aY hi,aY lo,aY y] (.tuple #[aY ((hi*base+lo)/y),aY ((hi*base+lo)%y)]):=by
 have lO:hi*base||| lo=hi*base+lo:=by have:=Ot (i:=32) hl hi;rw[cX];exact this.symm
 have hs:hi*base+lo<18446744073709551616:=by clear lO;unfold base at *;omega
 have hq:(hi*base+lo)/y<base:=by rw[iP o_];have:=eV base (show hi+1<=y by omega);rw[cX base y];clear lO;unfold base at *;omega
 have hr:(hi*base+lo)%y<base:=mU (cM _ o_) hy;have xO:(y:Int)≠0:=by omega
 have h64:base=4294967296:=rfl;have hA:hi*base<18446744073709551616:=fq (KJ _ _) hs;have HZ:IntKind.u64.wrap ((hi:Int)*2^32)=((hi*base:Nat):Int):=by
  have e:(hi:Int)*2^32=((hi*base:Nat):Int):=by rw[oO];rfl
  rw[e,kp];generalize hi*base=H at hA ⊢;omega
 have hB:lo<18446744073709551616:=mU hl d_;have key:∀ H:Nat,H=hi*base->IntKind.u64.wrap (((BitVec.ofInt IntKind.u64.bits (H:Int))||| (BitVec.ofInt IntKind.u64.bits (lo:Int))).toNat:Int)=((hi*base+lo:Nat):Int):=by intro H hH;rw[Tw (by rw[hH];exact hA) hB,hH,lO]
 obtain⟨H,hH⟩:∃ H,H=hi*base:=⟨_,rfl⟩;have h22:=key H hH;rw[<-hH]at HZ;generalize hi*base+lo=S at *;have u64:∀{z:Nat},z<base->IntKind.u64.wrap (z:Int)=z:=λ{z} h=>by rw[kp];unfold base at h;omega
 have u32:∀{z:Nat},z<base->IntKind.u32.wrap (z:Int)=z:=λ{z} h=>by rw[ow];unfold base at h;omega
 have oh:IntKind.u64.wrap (Int.tdiv (S:Int) y)=((S/y:Nat):Int):=by rw[BP o_,<-ug];exact u64 hq
 have lv:Int.tmod (S:Int) y=((S%y:Nat):Int):=by rw[wH o_];rfl
 exact aN func238 (λ_=>[
  .rw 10 (.bool ((y:Int)!=0)) b_ (by congr 1;rw[vt];exact xO),
  .rw 14 (.bool (decide ((y:Int)<=(hi:Int)))) a_ (by congr 1;rw[aAy];omega),
  .wr 18 .u64 hi hi (u64 o_),.wr 19 .u64 ((hi:Int)*2^32) (H:Int) HZ,.wr 21 .u64 lo lo (u64 hl),
  .quo 22 .u64 _ (S:Int) h22,.wr 25 .u64 y y (u64 hy),
  .rI f238 26 .u64 (S:Int) y ((S/y:Nat):Int) xO oh k_,.wr 27 .u32 ((S/y:Nat):Int) ((S/y:Nat):Int) (u32 hq),
  .wr 30 .u64 y y (u64 hy),
  .vu f238 31 .u64 (S:Int) y ((S%y:Nat):Int) xO lv k_,.wr 32 .u32 ((S%y:Nat):Int) ((S%y:Nat):Int) (u32 hr)])
def dw(i:Nat):Value:=.int .i64 ((i:Int)-1)
theorem eB(j:Nat):dw (j+1)=vI j:=by
 unfold dw vI;have e:((j+1:Nat):Int)-1=(j:Int):=by omega
 rw[e]
theorem pA(h:j<9223372036854775807):IntKind.i64.wrap ((j:Int)-1)=(j:Int)-1:=by rw[dh];omega
section
variable{Bs:aa}{n a d:Nat}
def sW(n a d i:Nat):aX:=[(8,dw i),(6,sl 1 n),(7,aY (a/base^i%d)),(0,sl 0 n),(1,aY d)]
def Dz(n a d i:Nat):aL:=[(0,.view (ao (ae base n a))),(1,.row (ao (gY base n i (a/d))) 181 1)]
theorem Ow(hj:j<n)(hd:0<d)(nI:d<base)(h63:n<35184372088832):
  ai prog Bs 35 (aJ (ah f218 0)) (sW n a d (j+1)) (Dz n a d (j+1)) 2 ⟨.normal,sW n a d j,Dz n a d j,2⟩:=by
 have bP:fo prog 181 (ao (gY base n (j+1) (a/d))) j (aY (a/d/base^j%base))=some (ao (gY base n j (a/d))):=by rw[zG _ _ _ (by simp[ao,Of];exact hj),zH,Oh hj rfl]
 have hdiv:=aJo (hi:=a/base^(j+1)%d) (lo:=a/base^j%base) (y:=d) (cM _ hd) (iB d_ _ _) nI;obtain⟨q1,q2⟩:=aAe (B:=base) d_ hd (jl nI) a j;rw[q1,q2]at hdiv;exact aE [.rw 15 (dw (j+1)) (vI j) (eB j),.ge 16 j 0 true s_,.rw 21 (dw (j+1)) (vI j) (eB j),.rw 24 (dw (j+1)) (vI j) (eB j),.ix f218 25 0 n j hj k_,.ld f218 26 181 0 j (.view (ao (ae base n a))) (aY (a/base^j%base)) rfl (by rw[gj];exact lq (eP hj)) k_,hdiv.at 28,.ix f218 31 1 n j hj k_,.st f218 100031 181 1 j (.row (ao (gY base n (j+1) (a/d))) 181 1) (aY (a/d/base^j%base)) (.row (ao (gY base n j (a/d))) 181 1) rfl bP rfl k_,.rw 17 (dw (j+1)) (vI j) (eB j),.wr 18 .i64 ((j:Int)-1) ((j:Int)-1) (pA o_)]
theorem aJp(hd:0<d)(nI:d<base)(h63:n<35184372088832):
  ai prog Bs 35 (.block 0 (ah f218 0)) (sW n a d n) (Dz n a d n) 2 ⟨.normal,sW n a d 0,Dz n a d 0,2⟩:=by
 have:=cA (P:=prog) (B:=Bs) (N:=35) (b:=aJ (ah f218 0)) (next:=2) (r:=⟨.exit 0,sW n a d 0,Dz n a d 0,2⟩) n (λi=>sW n a d (n-i)) (λi=>Dz n a d (n-i))
  (λi k _=>km (l:=Dz n a d (n-i)) (m:=Dz n a d (n-0)) rfl k)
  (λi hi=>by
   have e:n-i=(n-(i+1))+1:=by omega
   simp only[e];exact Ow o_ hd nI h63)
  (by
   have e:n-n=0:=by omega
   simp only[e];exact aE [.rw 16 (.bool (decide (((0:Nat):Int)-1>=0))) a_ rfl]) n_
 exact cd this
end
theorem aJq(gJ:iQ w va a)(hd:0<d)(nI:d<base)(h1:nd base a<35184372088832):
  Calls prog 218 #[va,aY d] w λe w'=>∃ v,e=.returned (.tuple #[v,aY (a%d)])/\jX w w' v (a/d)/\Below w.heap.size w w':=by
 have ha:=ew (B:=base) d_ a;have hl:∀ s∈[cH.row va (nd base a) (ao (ae base (nd base a) a)),cH.plain (aY d)],s.OK w:=by
  intro s hs;simp at hs;rcases hs with rfl|rfl
  ·exact⟨gJ,fT _⟩
  ·rfl
 unfold iQ at gJ;generalize nd base a=n at *;have hs:a/d<base^n:=fq (uh _ _) ha;have e0:a/base^n%d=0:=by rw[mS ha];exact Nat.zero_mod _
 have e1:a/base^0%d=a%d:=by simp
 refine mh (Q:=λe w'=>∃ v,e=.returned (.tuple #[v,aY (a%d)])/\jX w w' v (a/d)/\Below w.heap.size w w') mixed func218 [cH.row va n (ao (ae base n a)),cH.plain (aY d)] hl 100 (N:=35) k_
  (rs:=[(bd.qD f218 11 1 n 181 4 (aY 0) (ao (gY base n n (a/d))) (by rw[Og,FA]) rfl rfl o_ (by simp[maxLen];omega) k_:bd prog (aa.at w) 35),.rw 7 (.int .u32 0) (aY (a/base^n%d)) (by rw[e0];rfl),.wr 14 .i64 ((n:Int)-1) ((n:Int)-1) (pA o_),.code 0 _ _ _ _ _ (aJp (n:=n) (a:=a) hd nI h1),.trim f218 33 1 n (a/d) (.row (ao (gY base n 0 (a/d))) 181 1) rfl (by rw[<-Kz];rfl) hs o_ (y:=.func 196) k_])
  (v:=.tuple #[.slice (some ⟨1,0,some 7⟩) (nd base (a/d)) 0,aY (a/base^0%d)]) (ms:=[(1,.row (ao (gY base n 0 (a/d))) 181 1)]) k_ λaz cr v' w' hc bE dQ _=>?_
 obtain⟨vs,he,bh⟩:=hc.uY;obtain⟨v1,v2,aZ,c1,c2⟩:=jv bh;have hk:=dQ _ (aT ..);rw[Kz]at hk;refine⟨v1,?_,xP bE hk hs c1,bE.base⟩;rw[he,show vs=#[v1,v2]from wz.1 aZ,c2.eZ rfl,e1]
def iC(a b:Nat):Int:=if a<b then -1 else if b<a then 1 else 0
section
variable{Bs:aa}{n a b:Nat}
def BQ(n i:Nat):aX:=[(5,dw i),(0,sl 0 n),(1,sl 1 n)]
def sY(n a b:Nat):aL:=[(0,.view (ao (ae base n a))),(1,.view (ao (ae base n b)))]
noncomputable def Tx(n a b j:Nat)(hj:j<n)(t1 t2:Bool)(h1:decide (a/base^j%base<b/base^j%base)=t1)(h2:decide (b/base^j%base<a/base^j%base)=t2)(more:bM prog Bs 43):bM prog Bs 43:=
 .rw 19 (dw (j+1)) (vI j) (eB j)::.ge 20 j 0 true s_::.rw 25 (dw (j+1)) (vI j) (eB j)::.ix f178 26 0 n j hj k_::
  .ld f178 27 181 0 j (.view (ao (ae base n a))) (aY (a/base^j%base)) rfl (by rw[gj];exact lq (eP hj)) k_::
  .rw 29 (dw (j+1)) (vI j) (eB j)::.ix f178 30 1 n j hj k_::
  .ld f178 31 181 1 j (.view (ao (ae base n b))) (aY (b/base^j%base)) rfl (by rw[gj];exact lq (eP hj)) k_::
  .lt 32 (a/base^j%base) (b/base^j%base) t1 h1::(if t1 then[]else
  .rw 35 (dw (j+1)) (vI j) (eB j)::.ix f178 36 0 n j hj k_::
  .ld f178 37 181 0 j (.view (ao (ae base n a))) (aY (a/base^j%base)) rfl (by rw[gj];exact lq (eP hj)) k_::
  .rw 39 (dw (j+1)) (vI j) (eB j)::.ix f178 40 1 n j hj k_::
  .ld f178 41 181 1 j (.view (ao (ae base n b))) (aY (b/base^j%base)) rfl (by rw[gj];exact lq (eP hj)) k_::
  .gt 42 (a/base^j%base) (b/base^j%base) t2 h2::more)
theorem aJr(hj:j<n)(he:a/base^j%base=b/base^j%base)(h63:n<35184372088832):
  ai prog Bs 43 (aJ (ah f178 0)) (BQ n (j+1)) (sY n a b) 2 ⟨.normal,BQ n j,sY n a b,2⟩:=
 aE (Tx n a b j hj false false (by simp[he]) (by simp[he]) [.rw 21 (dw (j+1)) (vI j) (eB j),.wr 22 .i64 ((j:Int)-1) ((j:Int)-1) (pA o_)])
theorem aJs(hj:j<n)(al:a/base^j%base<b/base^j%base):
  ai prog Bs 43 (aJ (ah f178 0)) (BQ n (j+1)) (sY n a b) 2 ⟨.ret,[(4,.int .i64 (-1))],sY n a b,2⟩:=
 aE (Tx n a b j hj true false (by simp[al]) (by simp;omega) [])
theorem aJt(hj:j<n)(al:b/base^j%base<a/base^j%base):
  ai prog Bs 43 (aJ (ah f178 0)) (BQ n (j+1)) (sY n a b) 2 ⟨.ret,[(4,.int .i64 1)],sY n a b,2⟩:=
 aE (Tx n a b j hj false true (by simp;omega) (by simp[al]) [])
theorem aJu:ai prog Bs 43 (aJ (ah f178 0)) (BQ n 0) (sY n a b) 2 ⟨.exit 0,[],sY n a b,2⟩:=
 aE [.rw 20 (.bool (decide (((0:Nat):Int)-1>=0))) a_ rfl]
theorem aJv(ha:a<base^n)(hb:b<base^n)(h63:n<35184372088832):
  ai prog Bs 43 (.block 0 (ah f178 0)) (BQ n n) (sY n a b) 2 (if a=b then⟨.normal,[],sY n a b,2⟩else⟨.ret,[(4,.int .i64 (iC a b))],sY n a b,2⟩):=by
 obtain⟨e,h1,h2,h3⟩:=zE (λt=>¬(t<n/\a/base^(n-1-t)%base=b/base^(n-1-t)%base)) n o_;have vx:=aAf ha hb e h1 λs hs=>(FE.1 (h3 s hs)).2;have go:∀(r:mQ),r.ex≠.normal->ai prog Bs 43 (aJ (ah f178 0)) (BQ n (n-e)) (sY n a b) 2 r->ai prog Bs 43 (.loop (aJ (ah f178 0))) (BQ n n) (sY n a b) 2 r:=by
  intro r hr ui
  exact cA (P:=prog) (B:=Bs) (N:=43) (b:=aJ (ah f178 0)) (next:=2) (r:=r) e (λi=>BQ n (n-i)) (λ_=>sY n a b) (λi k _=>Iff.rfl)
   (λi hi=>by
    have q:=FE.1 (h3 i hi);have e1:n-i=(n-(i+1))+1:=by omega
    have e2:n-1-i=n-(i+1):=by omega
    simp only[e1];exact aJr o_ (by rw[<-e2];exact q.2) h63) ui hr
 by_cases DA:e=n
 ·have ch:a=b:=by rw[DA,wI,sU,FF,FF]at vx;exact vx
  rw[aB ch];have:=go ⟨.exit 0,[],sY n a b,2⟩ n_ (by rw[DA,wI];exact aJu);exact cd (id:=0) this
 ·have hj:n-e=(n-1-e)+1:=by omega
  have aQ:a/base^(n-1-e)%base≠b/base^(n-1-e)%base:=λh=>h2 ⟨by omega,h⟩;rw[hj]at vx go;have ch:a≠b:=λh=>aQ (by rw[h]);rw[av ch];rcases Fj aQ with al|ub
  ·have hl:=Oi vx al;have e1:iC a b=-1:=by unfold iC;rw[aB hl]
   rw[e1];exact cd (id:=0) (go _ n_ (aJs o_ al))
  ·have hl:=Oi vx.symm ub;have e1:iC a b=1:=by unfold iC;rw[av o_,aB hl]
   rw[e1];exact cd (id:=0) (go _ n_ (aJt o_ ub))
end
def ox(a b:Nat):Int:=if nd base a=nd base b then iC a b else(nd base a:Int)-nd base b
theorem KK{a b:Nat}:0<=ox a b↔b<=a:=by
 unfold ox;by_cases h:nd base a=nd base b
 ·rw[aB h];unfold iC;by_cases h1:a<b
  ·rw[aB h1];omega
  ·rw[av h1];by_cases h2:b<a
   ·rw[aB h2];omega
   ·rw[av h2];omega
 ·rw[av h];rcases e7 a b with h1|h1
  ·have:=iX (B:=base) d_ (jl h1);omega
  ·have:=iX (B:=base) d_ h1;omega
theorem Ox{vb:i_}(gJ:iQ w va a)(lQ:iQ w vb b)(h1:nd base a<35184372088832)(h2:nd base b<35184372088832):
  Calls prog 178 #[va,vb] w λe w'=>e=.returned (.int .i64 (ox a b))/\Below w.heap.size w w':=by
 have ha:=ew (B:=base) d_ a;have hb:=ew (B:=base) d_ b;have hl:∀ s∈[cH.row va (nd base a) (ao (ae base (nd base a) a)),cH.row vb (nd base b) (ao (ae base (nd base b) b))],s.OK w:=by
  intro s hs;simp at hs;rcases hs with rfl|rfl
  ·exact⟨gJ,fT _⟩
  ·exact⟨lQ,fT _⟩
 unfold iQ at gJ lQ;unfold ox;generalize nd base a=n at *;generalize nd base b=m at *;have fin:∀{az:Map} {cr:Nat->Option Obj} {v':i_} {w':h_} {z:Int},aK az (.int .i64 z) v'->aO (aa.at w) az cr w'->Ending.returned v'=.returned (.int .i64 z)/\Below w.heap.size w w':=λhc hm=>⟨by rw[hc.eZ rfl],hm.base⟩;have aQ:∀ t:Bool,decide (n=m)=!t->(Value.bool (((n:Nat):Int)!=((m:Nat):Int)))=.bool t:=by
  intro t h
  congr 1
  by_cases kE:n=m
  ·subst kE;simp at h;subst h;simp
  ·rw[aP kE]at h;have:t=true:=by cases t<;>simp at h ⊢
   subst this;rw[vt];omega
 by_cases kE:n=m
 ·subst kE;rw[aB rfl];have lo:=aJv (Bs:=aa.at w) ha hb h1;by_cases ch:a=b
  ·rw[aB ch]at lo;have ho:iC a b=0:=by unfold iC;rw[av o_,av o_]
   rw[ho]
   exact mh (Q:=λe w'=>e=.returned (.int .i64 0)/\Below w.heap.size w w') mixed func178 [cH.row va n (ao (ae base n a)),cH.row vb n (ao (ae base n b))] hl 100 (N:=43) k_
    (rs:=[(bd.rw 10 (.bool (((n:Nat):Int)!=((n:Nat):Int))) a_ (aQ false s_):bd prog (aa.at w) 43),.wr 18 .i64 ((n:Int)-1) ((n:Int)-1) (pA o_),.code 0 _ _ _ _ _ lo])
    (v:=.int .i64 0) (ms:=[]) k_ λaz cr v' w' hc bE _ _=>fin hc bE
  ·rw[av ch]at lo
   exact mh (Q:=λe w'=>e=.returned (.int .i64 (iC a b))/\Below w.heap.size w w') mixed func178 [cH.row va n (ao (ae base n a)),cH.row vb n (ao (ae base n b))] hl 100 (N:=43) k_
    (rs:=[(bd.rw 10 (.bool (((n:Nat):Int)!=((n:Nat):Int))) a_ (aQ false s_):bd prog (aa.at w) 43),.wr 18 .i64 ((n:Int)-1) ((n:Int)-1) (pA o_),.code 0 _ _ _ _ _ lo])
    (v:=.int .i64 (iC a b)) (ms:=[]) k_ λaz cr v' w' hc bE _ _=>fin hc bE
 ·rw[av kE]
  exact mh (Q:=λe w'=>e=.returned (.int .i64 ((n:Int)-m))/\Below w.heap.size w w') mixed func178 [cH.row va n (ao (ae base n a)),cH.row vb m (ao (ae base m b))] hl 100 (N:=43) k_
   (rs:=[(bd.rw 10 (.bool (((n:Nat):Int)!=((m:Nat):Int))) b_ (aQ true (by simp[kE])):bd prog (aa.at w) 43),.wr 15 .i64 ((n:Int)-(m:Int)) ((n:Int)-m) (by rw[dh];omega)])
   (v:=.int .i64 ((n:Int)-m)) (ms:=[]) k_ λaz cr v' w' hc bE _ _=>fin hc bE
section
variable{P:j_}{B:aa}{N:Nat}
def BR(P:j_)(o:Oper):Option (Nat×List Nat×TypeId×Nat×Value):=match o.op with
 |.buildSlice t len parts=>match P.underlying t with
  |some (.slice e)=>(match P.info? e with|some i=>(match i.zero with|some z=>some (len,parts.toList.map (·.1),e,i.size,z)|none=>none)|none=>none)
  |_=>none
 |_=>none
def KL(size len:Nat)(z:i_)(ps:aX):Option (Array Value):=
 Instr.fill (λi=>some (i*size,size)) ((Array.range (len*size)).map (z.cells[·%z.cells.size]!)) ps
theorem Oy{ρ:Operand->Value}:∀(l:List (Nat×Operand)) {vs:ak},(l.map (·.2)).map ρ=vs->(l.map λp=>(p.1,ρ p.2))=(l.map (·.1)).zip vs
 |[],vs,h=>by subst h;rfl
 |p::l,vs,h=>by subst h;simp only[nE,List.zip_cons_cons];rw[Oy l rfl]
theorem aJw{idx:l_}{z:i_}(ho:BR P o=some (len,idx,e,size,z)){cells:p_}(cR:∀ v∈vs,flat v=true)(Ty:∀ v∈cells.toList,flat v=true)
  (DB:KL size len z (idx.zip vs)=some cells) (bH:cells.size=len*size) (zR:0<len*size) (hle:len*size<=16777216) (k:Nat) :
  cI P B o vs [(k,none)] (.slice (some ⟨k,0,some 7⟩) len 0) [(k,.row cells.toList e size)]:=by
 unfold BR at ho;split at ho
 ·rename_i t mn parts cg;split at ho
  ·rename_i e' ht;split at ho
   ·rename_i i hi;split at ho
    ·rename_i z' hz;injection ho with ho;injection ho with h1 ho;injection ho with h2 ho;injection ho with h3 ho;injection ho with h4 h5;subst h1;subst h2;subst h3;subst h4;subst h5;refine iN.step λι c ρ w aZ hm hn=>?_;have hk:c k=none:=hn _ (aT ..);rw[cg]at aZ;have aZ:=oc aZ cR;have ck:List.map (λx=>(x.fst,ρ x.snd)) parts.toList=(parts.toList.map (·.1)).zip vs:=
      Oy parts.toList (by simpa[Op.operands]using aZ)
     have Oz:mn<=maxLen:=by have:mn<=mn*i.size:=FG _ (Nat.pos_of_mul_pos_left zR);simp[maxLen];omega
     have u7:Map.le ι _:=ij (l:=.at w.heap.size 0 mn) (hm.dF k hk);have lL:=HC (ty:=e') (size:=i.size) (cap:=mn) (rest:=#[]) hm hk (kO Ty:bW (aK ι) cells.toList cells.toList) Oz (by simpa using bH);refine⟨_,.slice (some ⟨w.heap.size,0,none⟩) mn mn,_,u7,.slc (o:=0) (off:=0) (gg _ _ _) (bC _) o_,lL,.inl ?_⟩;have h0:¬(mn*i.size=0):=by omega
     have h1:¬(16777216<mn*i.size):=by omega
     unfold KL at DB;simp only[execOp,cg];simp[Instr.buildSlice,jJ ht,sizeOf,typeInfo,hi,zeroValue,hz,h0,h1,newRow];rw[ck,DB];simp[newObj,Sem.run]
    ·cases ho
   ·cases ho
  ·cases ho
 ·cases ho
def FH(P:j_)(o:Oper):Option (TypeId×Nat×Nat×Nat×Bool):=match o.op with
 |.call c=>match c.callee,c.args.toList,c.argTypes.toList with
  |.builtin .append,[_,_],[t,t']=>if Nat.beq t t' then(match P.underlying t with
   |some (.slice e)=>(match P.info? e with|some i=>(match i.zero with|some z=>some (e,i.size,i.bytes,z.cells.size,true)|none=>none)|none=>none)
   |_=>none)else none
  |_,_,_=>none
 |_=>none
theorem aAz(ho:FH P o=some (e,size,n2,A,true)):∃ s x t i z,o.op=.call { callee:=.builtin .append,args:=#[s,x],argTypes:=#[t,t]}/\P.underlying t=some (.slice e)/\P.info? e=some i/\i.zero=some z/\i.size=size/\i.bytes=n2/\z.cells.size=A:=by
 unfold FH at ho;split at ho
 ·rename_i c cg;split at ho
  ·rename_i s x t t' hc ha mg;split at ho
   ·rename_i htt;split at ho
    ·rename_i e' ht;split at ho
     ·rename_i i hi;split at ho
      ·rename_i z hz;injection ho with ho;injection ho with h1 ho;injection ho with h2 ho;injection ho with h3 ho;injection ho with h4 h5;subst h1;have:=lj htt;subst this;refine⟨s,x,t,i,z,?_,ht,hi,hz,h2,h3,h4⟩;rw[cg];obtain⟨c1,c2,c3⟩:=c;dsimp only at hc ha mg;subst hc
       congr 2
       ·exact wz.1 ha
       ·exact wz.1 mg
      ·cases ho
     ·cases ho
    ·cases ho
   ·cases ho
  ·cases ho
 ·cases ho
theorem aAA(ho:FH P o=some (e,size,n2,size,true))(bH:0<size){sv:i_}(zp:C9 B sv m eU need)(hl:eU.length=m*size)(SB:∀ v∈eU,v.oneCell'=true)
  {j n:Nat} {cells:ak} (mP:n*size<=cells.length) (h63:n+m<=maxLen) (C8:(n+m)*n2<=140737488355328) (k:Nat) :
  cI P B o [.slice (some ⟨j,0,some 7⟩) n 0,sv] ((k,none)::(j,some (.row cells e size))::need) (.slice (some ⟨k,0,some 7⟩) (n+m) 0) [(k,.row (cells.take (n*size)++eU) e size),(j,.dead)]:=by
 obtain⟨s,x,t,i,z,cg,ht,hi,hz,h1,h2,h3⟩:=aAz ho;subst h1;subst h2;exact(aH8 cg ht hi hz h3 bH zp hl SB mP h63 C8 k).step
theorem aJx(ho:FH P o=some (e,size,n2,size,true))(bH:0<size){sv:i_}(zp:C9 B sv m eU need)(hl:eU.length=m*size)
  (h63:m<=maxLen) (C8:m*n2<=140737488355328) (k:Nat) :
  cI P B o [.slice none 0 0,sv] ((k,none)::need) (.slice (some ⟨k,0,some 7⟩) m 0) [(k,.row eU e size)]:=by
 obtain⟨s,x,t,i,z,cg,ht,hi,hz,h1,h2,h3⟩:=aAz ho;subst h1;subst h2;exact(aH7 cg ht hi hz h3 bH zp hl h63 C8 k).step
def bd.bs(fn:Func)(key k len e size:Nat)(idx:l_)(z:i_)(vs:ak)(cells:p_)(x:Obj)(hx:Obj.row cells.toList e size=x)(cR:∀ v∈vs,flat v=true)(Ty:∀ v∈cells.toList,flat v=true)
  (DB:KL size len z (idx.zip vs)=some cells) (bH:cells.size=len*size) (zR:0<len*size) (hle:len*size<=16777216) (ho:BR P (aw fn key)=some (len,idx,e,size,z)):bd P B N:=
 .step key (aw fn key) vs [(k,none)] (.slice (some ⟨k,0,some 7⟩) len 0) [(k,x)] (by subst hx;exact aJw ho cR Ty DB bH zR hle k)
end
theorem Tz{n:Nat}(hn:n<18446744073709551616):
  Calls prog 160 #[.int .u64 n] w λe w'=>∃ v,e=.returned v/\jX w w' v n/\Below w.heap.size w w':=by
 have hs:n<base^2:=by unfold base;omega
 have e0:n/base^0%base=n%base:=by simp
 have e1:n/base^1%base=n/base:=by rw[BS];exact dW (by rw[iP d_];unfold base;omega)
 refine mh (Q:=λe w'=>∃ v,e=.returned v/\jX w w' v n/\Below w.heap.size w w') mixed func160 [cH.plain (.int .u64 n)] (λx hx=>by simp at hx;subst hx;rfl) 100 (N:=10) k_
  (rs:=[(bd.wr 4 .u32 (n:Int) ((n/base^0%base:Nat):Int) (by rw[ow,e0];unfold base;omega):bd prog (aa.at w) 10),.quo 6 .u64 ((n:Int).fdiv (2^32)) ((n/base:Nat):Int) (by rw[sT _ d_];unfold base;omega),.wr 7 .u32 ((n/base:Nat):Int) ((n/base^1%base:Nat):Int) (by rw[ow,e1];unfold base;omega),.bs f160 8 0 2 181 1 [0,1] (aY 0) [aY (n/base^0%base),aY (n/base^1%base)] #[aY (n/base^0%base),aY (n/base^1%base)] (.row (ao (ae base 2 n)) 181 1) rfl
    (λv hv=>by simp at hv;rcases hv with rfl|rfl<;>rfl) (λv hv=>by simp at hv;rcases hv with rfl|rfl<;>rfl) k_ rfl o_ o_ k_,
   .trim f160 9 0 2 n (.row (ao (ae base 2 n)) 181 1) rfl rfl hs d_ (y:=.func 196) k_])
  (v:=.slice (some ⟨0,0,some 7⟩) (nd base n) 0) (ms:=[(0,.row (ao (ae base 2 n)) 181 1)]) k_ λaz cr v' w' hc bE dQ _=>⟨v',rfl,?_,bE.base⟩
 exact xP bE (dQ _ (aT ..)) hs hc
section
variable{Bs:aa}{n a:Nat}
def BT(n a i:Nat):aX:=[(4,dw i),(0,sl 0 n),(3,.int .u64 ((a/base^i:Nat):Int))]
def DC(n a:Nat):aL:=[(0,.view (ao (ae base n a)))]
theorem aJy(hj:j<n)(ha:a<18446744073709551616)(h63:n<35184372088832):
  ai prog Bs 21 (aJ (ah f195 0)) (BT n a (j+1)) (DC n a) 1 ⟨.normal,BT n a j,DC n a,1⟩:=by
 have hd:=iB (B:=base) d_ a j;have he:=xN (B:=base) a j;have hle:a/base^j<18446744073709551616:=fq (uh _ _) ha;generalize hA:a/base^(j+1)=A at *;generalize hx:a/base^j%base=x at *;have hAB:A*base<18446744073709551616:=by omega
 have lO:A*base||| x=a/base^j:=by have:=Ot (i:=32) hd A;rw[he,cX];exact this.symm
 have h13:IntKind.u64.wrap ((A:Int)*2^32)=((A*base:Nat):Int):=by
  have e:(A:Int)*2^32=((A*base:Nat):Int):=by rw[oO];rfl
  rw[e,kp];generalize A*base=H at hAB ⊢;omega
 have HZ:∀ H:Nat,H=A*base->IntKind.u64.wrap (((BitVec.ofInt IntKind.u64.bits (H:Int))||| (BitVec.ofInt IntKind.u64.bits (x:Int))).toNat:Int)=((a/base^j:Nat):Int):=by intro H hH;rw[Tw (by rw[hH];exact hAB) (mU hd d_),hH,lO]
 obtain⟨H,hH⟩:∃ H,H=A*base:=⟨_,rfl⟩;have HZ:=HZ H hH;rw[<-hH]at h13
 have:=fD (P:=prog) (B:=Bs) (N:=21) mixed (c:=aJ (ah f195 0)) (fr:=[(4,dw (j+1)),(0,sl 0 n),(3,.int .u64 (A:Int))]) (M:=DC n a) (next:=1) (r:=⟨.normal,BT n a j,DC n a,1⟩) 100
  [.rw 8 (dw (j+1)) (vI j) (eB j),.ge 9 j 0 true s_,.wr 13 .u64 ((A:Int)*2^32) (H:Int) h13,.rw 15 (dw (j+1)) (vI j) (eB j),.ix f195 16 0 n j hj k_,.ld f195 17 181 0 j (.view (ao (ae base n a))) (aY x) rfl (by rw[gj,<-hx];exact lq (eP hj)) k_,.wr 18 .u64 (x:Int) (x:Int) (by rw[kp];unfold base at hd;omega),.quo 19 .u64 _ ((a/base^j:Nat):Int) HZ,.rw 10 (dw (j+1)) (vI j) (eB j),.wr 11 .i64 ((j:Int)-1) ((j:Int)-1) (pA o_)] k_
 have e:BT n a (j+1)=[(4,dw (j+1)),(0,sl 0 n),(3,.int .u64 (A:Int))]:=by unfold BT;rw[hA]
 rw[e];exact this
theorem aJz(ha:a<18446744073709551616)(h63:n<35184372088832):
  ai prog Bs 21 (.block 0 (ah f195 0)) (BT n a n) (DC n a) 1 ⟨.normal,BT n a 0,DC n a,1⟩:=by
 have:=cA (P:=prog) (B:=Bs) (N:=21) (b:=aJ (ah f195 0)) (next:=1) (r:=⟨.exit 0,BT n a 0,DC n a,1⟩) n (λi=>BT n a (n-i)) (λ_=>DC n a) (λi k _=>Iff.rfl)
  (λi hi=>by
   have e:n-i=(n-(i+1))+1:=by omega
   simp only[e];exact aJy o_ ha h63)
  (by
   have e:n-n=0:=by omega
   simp only[e];exact aE [.rw 9 (.bool (decide (((0:Nat):Int)-1>=0))) a_ rfl]) n_
 exact cd this
end
theorem aAB(gJ:iQ w va a)(ha:a<18446744073709551616)(h1:nd base a<35184372088832):
  Calls prog 195 #[va] w λe w'=>e=.returned (.int .u64 (a:Int))/\Below w.heap.size w w':=by
 have al:=ew (B:=base) d_ a;have hl:∀ s∈[cH.row va (nd base a) (ao (ae base (nd base a) a))],s.OK w:=by intro s hs;simp at hs;subst hs;exact⟨gJ,fT _⟩
 unfold iQ at gJ;generalize nd base a=n at *;have e0:a/base^n=0:=mS al;have e1:a/base^0=a:=by simp
 refine mh (Q:=λe w'=>e=.returned (.int .u64 (a:Int))/\Below w.heap.size w w') mixed func195 [cH.row va n (ao (ae base n a))] hl 100 (N:=21) k_
  (rs:=[(bd.rw 3 (.int .u64 0) (.int .u64 ((a/base^n:Nat):Int)) (by rw[e0];rfl):bd prog (aa.at w) 21),.wr 7 .i64 ((n:Int)-1) ((n:Int)-1) (pA o_),.code 0 _ _ _ _ _ (aJz (n:=n) (a:=a) ha h1)])
  (v:=.int .u64 ((a/base^0:Nat):Int)) (ms:=[]) k_ λaz cr v' w' hc bE _ _=>⟨?_,bE.base⟩
 rw[hc.eZ rfl,e1]
end Go.Proofs.YtmocejjfkdcgkaaGreatDoor
