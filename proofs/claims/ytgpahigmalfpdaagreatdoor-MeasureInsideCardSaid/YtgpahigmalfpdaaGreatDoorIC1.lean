/- Centroid and extent of solids: the proof of MeasureInsideCardSaid (the law's function answers true at every record and every direction it can be given; theorem measureInside_card, last part), part 1 of 7; no condition. -/
import Derived.WalkKit
import Derived.Orders
import Derived.KernelRfl
import Derived.Deep.MidRow
import Derived.Below
import Derived.OwnWalk
import Derived.OwnWalkIn
import Derived.OrdersIn
import Derived.LoopNIn
import Derived.TacticsIn
import Derived.LoopN
import Derived.DeepKeys
import Derived.RangeFuncLeaves
import Derived.RangeFuncSeq
import Derived.Lib.SliceRun
import Derived.Shelf.SlSortCmp.WholeK
import Derived.OpenShut
import Derived.ProofKit
import Derived.Carry
import Derived.ChangeOld
import Derived.Deep.DeepHandedRow
import Derived.Test.YtgpahigmalfpdaaGreatDoorProg
namespace Go.Proofs.YtgpahigmalfpdaaGreatDoor
open Go Go.RowKit Tryz
abbrev p_:=Array Value
abbrev m_:=Operand
abbrev l_:=List Nat
abbrev j_:=Program
abbrev i_:=Value
abbrev h_:=World
abbrev f_:=List (Int×List Int)
abbrev b_:=Value.bool true
abbrev a_:=Value.bool false
variable{i j size e d N cc n2 len n1 A U:Nat}{w w':h_}{ty:TypeId}{α β:Type}{fn:Func}{u v' va res:i_}{P:j_}{look:Nat->Value}{Q:Ending->World->Prop}{cur:p_}
theorem k_{p:Prop}(h:p:=by kernel_rfl):p:=h
theorem o_{p:Prop}(h:p:=by omega):p:=h
theorem d_{p:Prop}(h:p:=by decide):p:=h
theorem n_{p:Prop}(h:p:=by nofun):p:=h
theorem s_{p:Prop}(h:p:=by simp):p:=h
abbrev zW:=@Go.Addr.add_mid
abbrev Fx:=@Array.ext'
abbrev aCv:=@Array.foldl_toList
abbrev qO:=@Array.getD_eq_getD_getElem?
abbrev aDU:=@Array.getElem?_append_left
abbrev z7:=@Array.getElem?_eq_getElem
abbrev ZY:=@Array.getElem?_eq_none
abbrev Ac:=@Array.getElem?_eq_some_iff
abbrev Zt:=@Array.getElem?_modify
abbrev Te:=@Array.getElem?_setIfInBounds_ne
abbrev zT:=@Array.length_toList
abbrev N1:=@Array.mem_toList_iff
abbrev yL:=@Array.toArray_toList
abbrev Je:=@Array.toList_eq_nil_iff
abbrev wK:=@Array.toList_inj
abbrev aIQ:=@Array.toList_setIfInBounds
abbrev dc:=@Bool.and_eq_true
abbrev OJ:=@Bool.and_false
abbrev A3:=@Bool.and_self
abbrev iz:=@Bool.and_true
abbrev aED:=@Bool.eq_false_iff
abbrev An:=@Bool.false_and
abbrev Pj:=@Bool.false_bne
abbrev vO:=@Bool.false_eq_true
abbrev Ao:=@Bool.false_or
abbrev QE:=@Bool.not_eq_true
abbrev zZ:=@Bool.not_eq_true'
abbrev OI:=@Bool.not_false
abbrev KN:=@Bool.not_true
abbrev N5:=@Bool.or_eq_false_iff
abbrev vG:=@Bool.or_eq_true
abbrev kp:=@Bool.true_and
abbrev Pk:=@Bool.true_bne
abbrev FI:=@Bool.true_or
abbrev iP:=@Classical.byContradiction
abbrev F3:=@Classical.not_not
abbrev aHk:=@Go.DataW.trod_struct
abbrev S0:=@Go.RowKit.Below.heap_alloc
abbrev WO:=@Go.Sort.size_flatK
abbrev aBM:=@Int.add_mul_ediv_right
abbrev aPP:=@Int.add_mul_emod_self_left
abbrev PB:=@Int.ediv_mul_cancel
abbrev Vb:=@Int.eq_of_mul_eq_mul_right
abbrev ti:=@Int.fdiv_eq_ediv_of_nonneg
abbrev Pv:=@Int.lt_trichotomy
abbrev MK:=@Int.mul_assoc
abbrev UO:=@Int.mul_comm
abbrev Ej:=@Int.mul_ne_zero
abbrev IL:=@Int.mul_neg
abbrev Vk:=@Int.mul_pos
abbrev aB7:=@Int.natAbs_add_le
abbrev aLE:=@Int.natAbs_ediv_le_natAbs
abbrev yx:=@Int.natAbs_mul
abbrev AB:=@Int.natAbs_natCast
abbrev K7:=@Int.natAbs_neg
abbrev wT:=@Int.natCast_add
abbrev uJ:=@Int.natCast_ediv
abbrev Xd:=@Int.natCast_emod
abbrev oP:=@Int.natCast_mul
abbrev Iw:=@Int.natCast_pow
abbrev IK:=@Int.neg_mul
abbrev K8:=@Int.neg_neg
abbrev Pl:=@Int.one_mul
abbrev Iv:=@Int.pow_nonneg
abbrev aLx:=@Int.sign_eq_neg_one_iff_neg
abbrev Ge:=@Int.sign_eq_neg_one_of_neg
abbrev Cz:=@Int.sign_eq_one_of_pos
abbrev aLy:=@Int.sign_eq_zero_iff_zero
abbrev Cd:=@Int.tdiv_eq_ediv_of_nonneg
abbrev Ar:=@Int.tmod_eq_emod_of_nonneg
abbrev eD:=@Go.IntKind.wrap_i64
abbrev ox:=@Go.IntKind.wrap_u32
abbrev kK:=@Go.IntKind.wrap_u64
abbrev aBf:=@Go.IntKind.wrap_u8
abbrev aGY:=@List.Pairwise.imp_of_mem
abbrev aDk:=@List.Pairwise.nil
abbrev eA:=@List.all_cons
abbrev JX:=@List.all_eq_false
abbrev bC:=@List.all_eq_true
abbrev e8:=@List.all_nil
abbrev Kw:=@List.any_eq_false
abbrev rS:=@List.any_eq_true
abbrev FL:=@List.append_assoc
abbrev jZ:=@List.append_nil
abbrev DZ:=@List.cons_append
abbrev aHK:=@List.cons_ne_nil
abbrev OO:=@List.drop_drop
abbrev aDq:=@List.drop_eq_getElem_cons
abbrev S2:=@List.drop_left'
abbrev nk:=@List.drop_zero
abbrev lG:=@List.eq_nil_of_length_eq_zero
abbrev x8:=@List.ext_getElem
abbrev Um:=@List.ext_getElem?
abbrev Oa:=@List.filter_cons
abbrev aT2:=@List.findIdx_lt_length_of_exists
abbrev Wt:=@List.flatMap_append
abbrev WH:=@List.foldl_append
abbrev vF:=@List.foldl_cons
abbrev aDc:=@List.foldl_nil
abbrev UW:=@List.foldr_cons
abbrev UU:=@List.foldr_nil
abbrev FC:=@List.getD_eq_getElem?_getD
abbrev Kv:=@List.getElem?_append_left
abbrev FD:=@List.getElem?_append_right
abbrev Ft:=@List.getElem?_drop
abbrev bt:=@List.getElem?_eq_getElem
abbrev BP:=@List.getElem?_eq_none
abbrev aA3:=@List.getElem?_eq_none_iff
abbrev eP:=@List.getElem?_eq_some_iff
abbrev wJ:=@List.getElem?_map
abbrev ZA:=@List.getElem?_of_mem
abbrev Mi:=@List.getElem?_range
abbrev vx:=@List.getElem?_take
abbrev DD:=@List.getElem_map
abbrev dy:=@List.getElem_mem
abbrev lA:=@List.getElem_of_mem
abbrev DF:=@List.getElem_range
abbrev Ib:=@List.getElem_set
abbrev RM:=@List.getElem_take
abbrev Qg:=@List.getLast?_cons_cons
abbrev lH:=@List.length_append
abbrev qd:=@List.length_cons
abbrev wI:=@List.length_drop
abbrev eO:=@List.length_map
abbrev Ag:=@List.length_range
abbrev Jx:=@List.length_replicate
abbrev Hu:=@List.length_reverse
abbrev Xj:=@List.length_set
abbrev QA:=@List.length_singleton
abbrev jV:=@List.length_take
abbrev KC:=@List.mapM_cons
abbrev Vl:=@List.mapM_nil
abbrev vA:=@List.map_append
abbrev uD:=@List.map_congr_left
abbrev mL:=@List.map_cons
abbrev Ub:=@List.map_map
abbrev Ud:=@List.map_nil
abbrev DC:=@List.map_take
abbrev fh:=@List.mem_append
abbrev uh:=@List.mem_append_left
abbrev zG:=@List.mem_append_right
abbrev cE:=@List.mem_cons
abbrev bK:=@List.mem_cons_of_mem
abbrev aR:=@List.mem_cons_self
abbrev aFP:=@List.mem_filter
abbrev ZR:=@List.mem_filterMap
abbrev xk:=@List.mem_flatMap
abbrev df:=@List.mem_map
abbrev cM:=@List.mem_of_getElem?
abbrev XX:=@List.mem_of_mem_drop
abbrev Jn:=@List.mem_of_mem_take
abbrev kh:=@List.mem_range
abbrev LX:=@List.mem_reverse
abbrev CQ:=@List.mem_singleton
abbrev jJ:=@List.nil_append
abbrev Yw:=@List.nodup_cons
abbrev jR:=@List.not_mem_nil
abbrev tP:=@List.pairwise_cons
abbrev RA:=@List.pairwise_iff_getElem
abbrev aC0:=@List.pairwise_reverse
abbrev V8:=@List.pairwise_singleton
abbrev aT0:=@List.perm_ext_iff_of_nodup
abbrev Lt:=@List.range_succ
abbrev xg:=@List.reverse_cons
abbrev aCZ:=@List.reverse_eq_nil_iff
abbrev Ww:=@List.set_append_right
abbrev NY:=@List.size_toArray
abbrev uZ:=@List.take_add_one
abbrev aDp:=@List.take_append
abbrev My:=@List.take_append_drop
abbrev S5:=@List.take_left
abbrev S1:=@List.take_left'
abbrev oD:=@List.take_length
abbrev lh:=@List.take_of_length_le
abbrev NW:=@List.take_take
abbrev aA9:=@List.take_zero
abbrev vz:=@Nat.add_assoc
abbrev nN:=@Nat.add_comm
abbrev Lw:=@Nat.add_le_add
abbrev aAA:=@Nat.add_le_add_left
abbrev Nd:=@Nat.add_le_add_right
abbrev K0:=@Nat.add_mod_right
abbrev fZ:=@Nat.add_mul
abbrev KH:=@Nat.add_mul_div_left
abbrev qj:=@Nat.add_mul_div_right
abbrev FX:=@Nat.add_mul_mod_self_left
abbrev D1:=@Nat.add_mul_mod_self_right
abbrev O0:=@Nat.add_sub_cancel
abbrev F7:=@Nat.add_sub_cancel_left
abbrev jv:=@Nat.add_zero
abbrev OH:=@Nat.and_lt_two_pow
abbrev H5:=@Nat.beq_refl
abbrev Tg:=@Nat.ble_eq_true_of_le
abbrev BX:=@Nat.blt_eq
abbrev jM:=@Nat.div_add_mod
abbrev lJ:=@Nat.div_div_eq_div_mul
abbrev nj:=@Nat.div_eq_of_lt
abbrev uK:=@Nat.div_le_self
abbrev jc:=@Nat.div_lt_iff_lt_mul
abbrev aAt:=@Nat.div_lt_self
abbrev D6:=@Nat.div_mul_le_self
abbrev F4:=@Nat.div_one
abbrev O4:=@Nat.div_pos
abbrev I7:=@Nat.dvd_gcd
abbrev Lo:=@Nat.dvd_of_mod_eq_zero
abbrev Eh:=@Nat.dvd_trans
abbrev SP:=@Nat.eq_of_beq_eq_true
abbrev aLD:=@Nat.eq_of_mul_eq_mul_right
abbrev ow:=@Nat.eq_zero_or_pos
abbrev IM:=@Nat.gcd_comm
abbrev CC:=@Nat.gcd_dvd_left
abbrev Va:=@Nat.gcd_dvd_right
abbrev aCe:=@Nat.gcd_le_left
abbrev Vo:=@Nat.gcd_zero_left
abbrev UM:=@Nat.gcd_zero_right
abbrev KT:=@Nat.le_add_right
abbrev aA8:=@Nat.le_antisymm
abbrev D5:=@Nat.le_div_iff_mul_le
abbrev WI:=@Nat.le_mul_of_pos_left
abbrev F5:=@Nat.le_mul_of_pos_right
abbrev sY:=@Nat.le_of_ble_eq_true
abbrev wG:=@Nat.le_of_eq
abbrev kv:=@Nat.le_of_lt
abbrev P3:=@Nat.le_of_not_lt
abbrev bF:=@Nat.le_refl
abbrev zY:=@Nat.le_succ
abbrev Pe:=@Nat.le_total
abbrev dq:=@Nat.le_trans
abbrev aBz:=@Nat.log2_self_le
abbrev fA:=@Nat.lt_of_le_of_lt
abbrev cH:=@Nat.lt_of_lt_of_le
abbrev aKx:=@Nat.lt_of_mul_lt_mul_right
abbrev fo:=@Nat.lt_or_ge
abbrev FG:=@Nat.lt_or_gt_of_ne
abbrev aCw:=@Nat.lt_succ_of_lt
abbrev Cp:=@Nat.lt_succ_self
abbrev nq:=@Nat.lt_trans
abbrev uf:=@Nat.lt_trichotomy
abbrev aER:=@Nat.max_eq_left
abbrev aEQ:=@Nat.max_eq_right
abbrev oQ:=@Nat.min_eq_left
abbrev Xg:=@Nat.min_eq_right
abbrev dZ:=@Nat.mod_eq_of_lt
abbrev KI:=@Nat.mod_le
abbrev cU:=@Nat.mod_lt
abbrev Ow:=@Nat.mod_mul
abbrev Cc:=@Nat.mod_mul_right_div_self
abbrev KQ:=@Nat.mod_mul_right_mod
abbrev uH:=@Nat.mod_one
abbrev U8:=@Nat.mod_two_eq_zero_or_one
abbrev pC:=@Nat.mul_add
abbrev gA:=@Nat.mul_assoc
abbrev c7:=@Nat.mul_comm
abbrev TO:=@Nat.mul_div_cancel
abbrev aBw:=@Nat.mul_div_mul_right
abbrev yf:=@Nat.mul_le_mul
abbrev jY:=@Nat.mul_le_mul_left
abbrev fe:=@Nat.mul_le_mul_right
abbrev nO:=@Nat.mul_left_comm
abbrev qS:=@Nat.mul_lt_mul''
abbrev aBx:=@Nat.mul_lt_mul_of_lt_of_le
abbrev aAx:=@Nat.mul_lt_mul_of_pos_left
abbrev Co:=@Nat.mul_lt_mul_of_pos_right
abbrev Ln:=@Nat.mul_mod
abbrev aAw:=@Nat.mul_mod_left
abbrev aBv:=@Nat.mul_mod_mul_right
abbrev gZ:=@Nat.mul_one
abbrev rZ:=@Nat.mul_pos
abbrev Cs:=@Nat.mul_right_comm
abbrev Oz:=@Nat.mul_succ
abbrev KZ:=@Nat.not_lt
abbrev qT:=@Nat.one_mul
abbrev aAH:=@Nat.or_lt_two_pow
abbrev uG:=@Nat.pos_of_ne_zero
abbrev eW:=@Nat.pow_add
abbrev aBH:=@Nat.pow_le_pow_left
abbrev dj:=@Nat.pow_le_pow_right
abbrev tu:=@Nat.pow_mul
abbrev Cg:=@Nat.pow_one
abbrev cT:=@Nat.pow_pos
abbrev dH:=@Nat.pow_succ
abbrev tn:=@Nat.pow_zero
abbrev Gf:=@Nat.sub_le
abbrev wR:=@Nat.sub_self
abbrev H7:=@Nat.sub_zero
abbrev uI:=@Nat.succ_mul
abbrev Uz:=@Nat.succ_pos
abbrev Z0:=@Nat.testBit_or
abbrev ON:=@Nat.two_pow_add_eq_or_of_lt
abbrev aAG:=@Nat.xor_lt_two_pow
abbrev kT:=@Nat.zero_add
abbrev lY:=@Nat.zero_le
abbrev l9:=@Nat.zero_mul
abbrev kV:=@Ne.symm
abbrev NP:=@Go.Oper.semAt_eq
abbrev aHo:=@Option.bind_eq_some_iff
abbrev ZT:=@Option.bind_some
abbrev aCB:=@Option.map_none
abbrev SX:=@Option.map_some
abbrev Ve:=@Rat.divInt_add_divInt
abbrev CD:=@Rat.divInt_eq_div
abbrev Gu:=@Rat.div_def
abbrev aBZ:=@Rat.div_mul_cancel
abbrev PF:=@Rat.intCast_add
abbrev Eg:=@Rat.intCast_mul
abbrev aCa:=@Rat.intCast_sub
abbrev I6:=@Rat.mul_inv_cancel
abbrev U7:=@Rat.mul_pos
abbrev aB6:=@Rat.num_divInt_den
abbrev Kj:=@Go.Sem.run_bind
abbrev OP:=@UInt8.toNat_inj
abbrev OW:=@UInt8.toNat_ofNat'
abbrev aCq:=@Go.World.putObj_heap_other
abbrev vV:=@Go.World.putObj_size
abbrev rW:=@bne_iff_ne
abbrev cS:=@congrArg
abbrev qh:=@decide_eq_decide
abbrev aY:=@decide_eq_false
abbrev aAW:=@decide_eq_false_iff_not
abbrev aJ:=@decide_eq_true
abbrev uA:=@decide_eq_true_eq
abbrev uV:=@decide_eq_true_iff
abbrev C2:=@getElem!_pos
abbrev ZG:=@Go.grownCap_le_maxLen
abbrev vP:=@if_false
abbrev au:=@if_neg
abbrev aA:=@if_pos
abbrev rO:=@if_true
abbrev Ed:=@of_decide_eq_false
abbrev jN:=@of_decide_eq_true
abbrev jS:=@or_false
abbrev FN:=@Go.roundsIn_succ
abbrev jX:=@Go.run_underlying
abbrev NU:=@Go.size_zeroCells
abbrev H4:=@Go.wpIn_block
abbrev Tz:=@Go.wpIn_loop_rounds
abbrev kY:=@Go.wpIn_seq
def nH(a:Addr):Bool:=match a.spot with|some _=>false|none=>true
def pY:Value->Bool
 |.pointer (some a)=>nH a
 |.slice (some a) _ _=>nH a
 |.agg _=>false
 |.tuple _=>false
 |.func _ _ _=>false
 |_=>true
def qa:Value->Bool
 |.func _ fi ca=>fi.toList.all pY&&ca.toList.all pY
 |v=>pY v
def rM:Value->Bool
 |.agg cs=>cs.toList.all qa
 |v=>qa v
def flat:Value->Bool
 |.tuple vs=>vs.toList.all rM
 |v=>rM v
inductive bY{α β:Type}(R:α->β->Prop):List α->List β->Prop
 |nil:bY R [] []
 |cons {a b l m}:R a b->bY R l m->bY R (a::l) (b::m)
inductive qc where
 |at (b o cap:Nat)
 |nil
 |val (v:i_)
variable{m a:Nat}
abbrev Map:=Nat->Option qc
variable{ι κ aB:Map}
def Map.le(ι κ:Map):Prop:=∀ k l,ι k=some l->κ k=some l
theorem Map.le.refl(ι:Map):Map.le ι ι:=λ_ _ h=>h
theorem Map.le.trans{a b c:Map}(h:Map.le a b)(k:Map.le b c):Map.le a c:=λi l e=>k i l (h i l e)
inductive aM(ι:Map):Value->Value->Prop
 |same {v}:flat v=true->aM ι v v
 |ptr {k off b o cap}:ι k=some (.at b o cap)->aM ι (.pointer (some ⟨k,off,some 7⟩)) (.pointer (some ⟨b,o+off,none⟩))
 |slc {k off b o n c c' cap}:ι k=some (.at b o cap)->n<=c'->c+c'=cap->aM ι (.slice (some ⟨k,off,some 7⟩) n c) (.slice (some ⟨b,o+off,none⟩) n c')
 |slcN {k}:ι k=some .nil->aM ι (.slice (some ⟨k,0,some 7⟩) 0 0) (.slice none 0 0)
 |opq {k v}:ι k=some (.val v)->v.cells=#[v]->v.oneCell'=true->aM ι (.pointer (some ⟨k,0,some 9⟩)) v
 |fn {f fi kE ca dM}:bY (aM ι) fi kE->bY (aM ι) ca dM->aM ι (.func f fi.toArray ca.toArray) (.func f kE.toArray dM.toArray)
 |agg {cs ct}:bY (aM ι) cs ct->aM ι (.agg cs.toArray) (.agg ct.toArray)
 |tup {vs cX}:bY (aM ι) vs cX->aM ι (.tuple vs.toArray) (.tuple cX.toArray)
theorem bY.imp{R R':α->β->Prop}:∀{l:List α} {m:List β},bY R l m->(∀ a∈l,∀ b,R a b->R' a b)->bY R' l m
 |_,_,.nil,_=>.nil
 |_,_,.cons h t,k=>.cons (k _ (aR ..) _ h) (t.imp λa ha=>k a (bK _ ha))
variable{k b off cap:Nat}{o:Oper}{f:FuncId}
theorem bY.length{R:α->β->Prop}:∀{l:List α} {m:List β},bY R l m->l.length=m.length
 |_,_,.nil=>rfl
 |_,_,.cons _ t=>by simp[t.length]
theorem bY.get{R:α->β->Prop}:∀{l:List α} {m:List β},bY R l m->∀(i:Nat) a,l[i]?=some a->∃ b,m[i]?=some b/\R a b
 |_,_,.nil,i,a,h=>by simp at h
 |_,_,.cons h t,0,a,e=>⟨_,rfl,by simp at e;exact e▸h⟩
 |_,_,.cons _ t,i+1,a,e=>by simpa using t.get i a (by simpa using e)
theorem bY.get'{R:α->β->Prop}:∀{l:List α} {m:List β},bY R l m->∀(i:Nat) b,m[i]?=some b->∃ a,l[i]?=some a/\R a b
 |_,_,.nil,i,a,h=>by simp at h
 |_,_,.cons h t,0,a,e=>⟨_,rfl,by simp at e;exact e▸h⟩
 |_,_,.cons _ t,i+1,a,e=>by simpa using t.get' i a (by simpa using e)
theorem bY.set{R:α->β->Prop}{a:α}{b:β}(h:R a b):∀{l:List α} {m:List β},bY R l m->∀(i:Nat),bY R (l.set i a) (m.set i b)
 |_,_,.nil,i=>by simpa using .nil
 |_,_,.cons _ t,0=>.cons h t
 |_,_,.cons k t,i+1=>.cons k (t.set h i)
theorem bY.append{R:α->β->Prop}:∀{l:List α} {m:List β},bY R l m->∀{l' m'},bY R l' m'->bY R (l++l') (m++m')
 |_,_,.nil,_,_,h=>h
 |_,_,.cons k t,_,_,h=>.cons k (t.append h)
theorem bY.take{R:α->β->Prop}:∀{l:List α} {m:List β},bY R l m->∀(n:Nat),bY R (l.take n) (m.take n)
 |_,_,.nil,n=>by simpa using .nil
 |_,_,.cons k t,0=>.nil
 |_,_,.cons k t,n+1=>.cons k (t.take n)
theorem bY.drop{R:α->β->Prop}:∀{l:List α} {m:List β},bY R l m->∀(n:Nat),bY R (l.drop n) (m.drop n)
 |_,_,.nil,n=>by simpa using .nil
 |_,_,.cons k t,0=>.cons k t
 |_,_,.cons k t,n+1=>t.drop n
theorem SO{v:i_}(h:qa v=true):flat v=true:=by cases v<;>first|exact h|(simp[qa,pY]at h)
theorem Zm{v:i_}(h:pY v=true):qa v=true:=by cases v<;>first|exact h|(simp[pY]at h)
theorem aIq{v:i_}(h:rM v=true):flat v=true:=by cases v<;>first|exact h|(simp[rM,qa,pY]at h)
theorem Zn{cs:p_}(h:flat (.agg cs)=true):∀ c∈cs.toList,flat c=true:=by simp only[flat,rM,bC]at h;exact λc hc=>SO (h c hc)
theorem aIr{cs:p_}(h:flat (.tuple cs)=true):∀ c∈cs.toList,flat c=true:=by simp only[flat,bC]at h;exact λc hc=>aIq (h c hc)
theorem Zo{f:Fn}{fi ca:p_}(h:flat (.func f fi ca)=true):(∀ c∈fi.toList,flat c=true)/\(∀ c∈ca.toList,flat c=true):=by simp only[flat,rM,qa,dc,bC]at h;exact⟨λc hc=>SO (Zm (h.1 c hc)),λc hc=>SO (Zm (h.2 c hc))⟩
abbrev al:=List Value
variable{xs args vs ca cells' args' e6 pre post:al}
theorem lE{ι:Map}:∀{l:al},(∀ c∈l,flat c=true)->bY (aM ι) l l
 |[],_=>.nil
 |c::l,h=>.cons (.same (h c (aR ..))) (lE λc hc=>h c (bK _ hc))
theorem aM.fH{v:i_}(h:aM ι v v')(hf:flat v=true):v'=v:=by
 suffices H:∀ v v',aM ι v v'->flat v=true->v'=v from H v v' h hf
 have hP:∀ v v',aM ι v v'->pY v=true->v'=v:=by
  intro v v' h hf;cases h with
  |same _=>rfl
  |_=>simp[pY,nH]at hf
 have vp:∀(Q:Value->Bool),(∀ v v',aM ι v v'->Q v=true->v'=v)->∀ l l',bY (aM ι) l l'->(∀ c∈l,Q c=true)->l'=l:=by
  intro Q hQ l l' h;induction h with
  |nil=>intro _;rfl
  |cons h t ih=>
   intro hl;rw[hQ _ _ h (hl _ (aR ..)),ih λc hc=>hl c (bK _ hc)]
 have h0:∀ v v',aM ι v v'->qa v=true->v'=v:=by
  intro v v' h hf;cases h with
  |same _=>rfl
  |fn h1 h2=>
   simp only[qa,dc,bC]at hf;rw[vp pY hP _ _ h1 hf.1,vp pY hP _ _ h2 hf.2]
  |_=>simp[qa,pY,nH]at hf
 have h1:∀ v v',aM ι v v'->rM v=true->v'=v:=by
  intro v v' h hf;cases h with
  |same _=>rfl
  |fn a b=>exact h0 _ _ (.fn a b) hf
  |agg h1=>
   simp only[rM,bC]at hf;rw[vp qa h0 _ _ h1 hf]
  |_=>simp[rM,qa,pY,nH]at hf
 intro v v' h hf;cases h with
 |same _=>rfl
 |fn a b=>exact h0 _ _ (.fn a b) hf
 |agg a=>exact h1 _ _ (.agg a) hf
 |tup a=>
  simp only[flat,bC]at hf;rw[vp rM h1 _ _ a hf]
 |_=>simp[flat,rM,qa,pY,nH]at hf
theorem aM.mono(hle:Map.le ι κ){v:i_}(h:aM ι v v'):aM κ v v':=by
 apply aM.rec (motive_1:=λv v' _=>aM κ v v') (motive_2:=λl l' _=>bY (aM κ) l l') (t:=h)
 case same=>intro v h;exact .same h
 case ptr=>intro k off b o cap h;exact .ptr (hle _ _ h)
 case slc=>intro k off b o n c c' cap h h1 h2;exact .slc (hle _ _ h) h1 h2
 case slcN=>intro k h;exact .slcN (hle _ _ h)
 case opq=>intro k v h h1 h2;exact .opq (hle _ _ h) h1 h2
 case fn=>intro f fi kE ca dM _ _ h1 h2;exact .fn h1 h2
 case agg=>intro cs ct _ h;exact .agg h
 case tup=>intro cs ct _ h;exact .tup h
 case nil=>exact .nil
 case cons=>intro a b l m _ _ h1 h2;exact .cons h1 h2
theorem oN(hle:Map.le ι κ){l l':al}(h:bY (aM ι) l l'):bY (aM κ) l l':=h.imp λ_ _ _ h=>h.mono hle
def nI(a:Addr):Bool:=match a.spot with|some s=>Nat.beq s 7|none=>false
theorem HT{a:Addr}(h:nI a=true):a.spot=some 7:=by
 unfold nI at h;split at h
 ·rename_i s hs;rw[hs,SP h]
 ·cases h
theorem SQ{a:Addr}(h:nI a=true):nH a=false:=by unfold nH;rw[HT h]
theorem aM.xK{a:Addr}(h:aM ι (.pointer (some a)) v')(ho:nI a=true):∃ b o cap,ι a.block=some (.at b o cap)/\v'=.pointer (some ⟨b,o+a.off,none⟩):=by
 cases h with
 |same hf=>simp[flat,rM,qa,pY,SQ ho]at hf
 |ptr hb=>exact⟨_,_,_,hb,rfl⟩
 |opq _ _ _=>cases ho
theorem aM.iM{a:Addr}{n c:Nat}(h:aM ι (.slice (some a) n c) v')(ho:nI a=true):
  (ι a.block=some .nil/\n=0/\c=0/\a.off=0/\v'=.slice none 0 0)\/∃ b o cap c',ι a.block=some (.at b o cap)/\n<=c'/\c+c'=cap/\v'=.slice (some ⟨b,o+a.off,none⟩) n c':=by
 cases h with
 |same hf=>simp[flat,rM,qa,pY,SQ ho]at hf
 |slc hb h1 h2=>exact .inr ⟨_,_,_,_,hb,h1,h2,rfl⟩
 |slcN hb=>exact .inl ⟨hb,rfl,rfl,rfl,rfl⟩
theorem aM.bool{b:Bool}(h:aM ι (.bool b) v'):v'=.bool b:=h.fH rfl
theorem aM.vt{vs:p_}(h:aM ι (.tuple vs) v'):∃ cX,v'=.tuple cX/\bY (aM ι) vs.toList cX.toList:=by
 cases h with
 |same hf=>exact⟨vs,rfl,lE (aIr hf)⟩
 |tup h=>exact⟨_,rfl,by simpa using h⟩
theorem aM.HU{vs:p_}(h:aM ι (.agg vs) v'):∃ cX,v'=.agg cX/\bY (aM ι) vs.toList cX.toList:=by
 cases h with
 |same hf=>exact⟨vs,rfl,lE (Zn hf)⟩
 |agg h=>exact⟨_,rfl,by simpa using h⟩
theorem aM.BL{f:Fn}{fi ca:p_}(h:aM ι (.func f fi ca) v'):∃ kE dM,v'=.func f kE dM/\bY (aM ι) fi.toList kE.toList/\bY (aM ι) ca.toList dM.toList:=by
 cases h with
 |same hf=>exact⟨fi,ca,rfl,lE (Zo hf).1,lE (Zo hf).2⟩
 |fn h1 h2=>exact⟨_,_,rfl,by simpa using h1,by simpa using h2⟩
theorem aM.cells{ι:Map}{v v':i_}(h:aM ι v v'):bY (aM ι) v.cells.toList v'.cells.toList:=by
 cases h with
 |same hf=>
  apply lE;cases v<;>first|(intro c hc;simp[Value.cells]at hc;subst hc;exact hf)|exact Zn hf
 |ptr hb=>exact .cons (.ptr hb) .nil
 |slc hb h1 h2=>exact .cons (.slc hb h1 h2) .nil
 |slcN hb=>exact .cons (.slcN hb) .nil
 |opq hb h1 h2=>rw[h1];exact .cons (.opq hb h1 h2) .nil
 |fn a b=>exact .cons (.fn a b) .nil
 |agg h=>simpa[Value.cells]using h
 |tup h=>exact .cons (.tup h) .nil
theorem aM.Zp{v:i_}(h:aM ι v v'):v'.oneCell'=v.oneCell':=by
 cases h with
 |opq _ _ h=>rw[h];rfl
 |_=>rfl
def HV:Value:=.tuple #[.tuple #[]]
def nJ:Value->Bool
 |.tuple vs=>match vs.toList with|[.tuple us]=>Nat.beq us.size 0|_=>false
 |_=>false
def oe(ι:Map)(v v':i_):Prop:=nJ v=true\/aM ι v v'
theorem oe.BM{v:i_}(h:oe ι v v')(hn:nJ v=false):aM ι v v':=by
 rcases h with h|h
 ·rw[hn]at h;cases h
 ·exact h
theorem oe.mono(hle:Map.le ι κ){v:i_}(h:oe ι v v'):oe κ v v':=h.imp id (aM.mono hle)
def uk(w w':h_):Prop:=w'.os=w.os/\w.drawn<=w'.drawn
theorem uk.refl(w:h_):uk w w:=⟨rfl,bF _⟩
theorem uk.trans{a b c:h_}(h:uk b c)(k:uk a b):uk a c:=⟨h.1.trans k.1,dq k.2 h.2⟩
structure Below(B:Nat)(w w':h_):Prop where
 os:uk w w'
 tape:w'.tape=w.tape
 output:w'.output=w.output
 size:w.heap.size<=w'.heap.size
 block:∀ k,k<B->w'.heap[k]?=w.heap[k]?
theorem Below.Ke{B:Nat}(h:Below B w w'):Go.RowKit.Below B w w':=⟨h.os.1,h.tape,h.output,h.size,h.block⟩
theorem Below.refl(B:Nat)(w:h_):Below B w w:=⟨.refl w,rfl,rfl,bF _,λ_ _=>rfl⟩
theorem Below.cell{B:Nat}(h:Below B w w'){p:Addr}(hp:p.block<B):w'.cell? p=w.cell? p:=h.Ke.cell hp
theorem Below.alloc{B:Nat}{a:h_}(h:Below B a w)(hB:B<=w.heap.size)(o:Go.Obj):Below B a (w.alloc o):=
 have k:=h.Ke.alloc hB o
 ⟨⟨k.os,h.os.2⟩,k.tape,k.output,k.size,k.block⟩
structure Fact where
 G:Value->World->Prop
 cY:Value->World->Nat->Prop
 lt:∀ v w k,G v w->cY v w k->k<w.heap.size
 dep:∀ v w w',G v w->w.heap.size<=w'.heap.size->(∀ k,cY v w k->w'.heap[k]?=w.heap[k]?)->G v w'/\∀ k,cY v w' k->cY v w k
 rc:Bool:=false
 soft:rc=false->∀ v w w',G v w->w.heap.size<=w'.heap.size->(∀ k,cY v w k->∀ cs ty f,w.heap[k]?=some (Go.Obj.cells cs ty f)->w'.heap[k]?=some (Go.Obj.cells cs ty f))->G v w'/\∀ k,cY v w' k->cY v w k
structure aa where
 G:World->Prop
 cY:Nat->Prop
 ds:List Deferred:=[]
 Fa:Fact->Prop:=λ_=>False
 mp:Map:=λ_=>none
 lt:∀ w k,G w->cY k->k<w.heap.size
 dep:∀ w w',G w->uk w w'->w'.tape=w.tape->w'.output=w.output->w.heap.size<=w'.heap.size->(∀ k,cY k->w'.heap[k]?=w.heap[k]?)->G w'
variable{B Bs:aa}
def aa.at(w0:h_):aa where
 G w:=Below w0.heap.size w0 w
 cY k:=k<w0.heap.size
 lt w k h hk:=cH hk h.size
 dep w w' h h1 h2 h3 h4 h5:=⟨h1.trans h.os,h2.trans h.tape,h3.trans h.output,dq h.size h4,λk hk=>(h5 k hk).trans (h.block k hk)⟩
inductive Obj where
 |aI (cells:al) (ty:TypeId)
 |row (cells:al) (ty:TypeId) (size:Nat)
 |view (cells:al)
 |fact (F:Fact)
 |dead
variable{c:Nat->Option Obj}{need:List (Nat×Option Obj)}
def Obj.owns:Obj->Bool
 |.aI _ _=>true
 |.row _ _ _=>true
 |_=>false
def ke(ι:Map)(w:h_)(l:qc):Obj->Prop
 |.aI cells ty=>∃ b ct,l=.at b 0 0/\bY (aM ι) cells ct/\w.heap[b]?=some (.cells ct.toArray ty (0,0))
 |.row cells ty size=>(l=.nil/\cells=[])\/∃ b cap cur,l=.at b 0 cap/\w.heap[b]?=some (.cells cur ty (0,0))/\cap<=maxLen/\cur.size=cap*size/\bY (aM ι) cells (cur.toList.take cells.length)
 |.view cells=>(l=.nil/\cells=[])\/∃ b o cap ct,l=.at b o cap/\bY (aM ι) cells ct/\∀ j u,ct[j]?=some u->w.cell? ⟨b,o+j,none⟩=some u
 |.fact F=>∃ v,l=.val v/\F.G v w
 |.dead=>True
def Obj.kF:Obj->Bool
 |.view _=>true
 |_=>false
structure aO(B:aa)(ι:Map)(c:Nat->Option Obj)(w:h_):Prop where
 base:B.G w
 dD:∀ k,c k=none->ι k=none
 born:∀ k x,c k=some x->∃ l,ι k=some l/\ke ι w l x
 own:∀ k x b o cap,c k=some x->x.owns=true->ι k=some (.at b o cap)->b<w.heap.size/\¬B.cY b
 inj:∀ k j x y b o cap o' aT,c k=some x->x.owns=true->c j=some y->y.owns=true->ι k=some (.at b o cap)->ι j=some (.at b o' aT)->k=j
 apart:∀ k j x F b o cap v,c k=some x->x.owns=true->ι k=some (.at b o cap)->c j=some (.fact F)->ι j=some (.val v)->¬F.cY v w b
 seen:∀ k x b o cap,c k=some x->x.kF=true->ι k=some (.at b o cap)->b<w.heap.size/\∀ j y o' aT,c j=some y->y.owns=true->ι j≠some (.at b o' aT)
 fa:∀ j F,c j=some (.fact F)->F.rc=true->B.Fa F
 one:∀ j k F F',c j=some (.fact F)->c k=some (.fact F')->F.rc=true->F'.rc=true->j=k
 pk:Map.le B.mp ι
theorem ke.mono(hle:Map.le ι κ){l:qc}{x:Obj}(h:ke ι w l x):ke κ w l x:=by
 cases x with
 |aI cells ty=>obtain⟨b,ct,h1,h2,h3⟩:=h;exact⟨b,ct,h1,oN hle h2,h3⟩
 |row cells ty size=>
  rcases h with h|⟨b,cap,cur,h1,h2,h3,h4,h5⟩
  ·exact .inl h
  ·exact .inr ⟨b,cap,cur,h1,h2,h3,h4,oN hle h5⟩
 |view cells=>
  rcases h with h|⟨b,o,cap,ct,h1,h2,h3⟩
  ·exact .inl h
  ·exact .inr ⟨b,o,cap,ct,h1,oN hle h2,h3⟩
 |fact F=>exact h
 |dead=>trivial
theorem ke.jU{l:qc}{x:Obj}(h:ke ι w l x)(hs:w.heap.size<=w'.heap.size)
  (hb:∀ b o cap,x.owns=true\/x.kF=true->l=.at b o cap->w'.heap[b]?=w.heap[b]?) (hf:∀ F v b,x=.fact F->l=.val v->F.cY v w b->w'.heap[b]?=w.heap[b]?):ke ι w' l x:=by
 cases x with
 |aI cells ty=>obtain⟨b,ct,h1,h2,h3⟩:=h;exact⟨b,ct,h1,h2,by rw[hb b 0 0 (.inl rfl) h1];exact h3⟩
 |row cells ty size=>
  rcases h with h|⟨b,cap,cur,h1,h2,h3,h4,h5⟩
  ·exact .inl h
  ·exact .inr ⟨b,cap,cur,h1,by rw[hb b 0 cap (.inl rfl) h1];exact h2,h3,h4,h5⟩
 |view cells=>
  rcases h with h|⟨b,o,cap,ct,h1,h2,h3⟩
  ·exact .inl h
  ·exact .inr ⟨b,o,cap,ct,h1,h2,λj u hj=>by rw[World.cell?_of_block (w:=w) (w':=w') (a:=⟨b,o+j,none⟩) (hb b o cap (.inr rfl) h1)];exact h3 j u hj⟩
 |fact F=>obtain⟨v,h1,h2⟩:=h;exact⟨v,h1,(F.dep v w w' h2 hs λk hk=>hf F v k rfl h1 hk).1⟩
 |dead=>trivial
theorem ke.xL{l:qc}{F:Fact}{v:i_}(h:ke ι w l (.fact F))(hl:l=.val v)(hb:F.cY v w b):b<w.heap.size:=by obtain⟨v',h1,h2⟩:=h;rw[hl]at h1;injection h1 with h1;subst h1;exact F.lt _ w b h2 hb
theorem aO.Dq(h:aO B ι c w){F:Fact}{v:i_}(hj:c j=some (.fact F))(hv:ι j=some (.val v))(hs:w.heap.size<=w'.heap.size)
  (BN:∀ k,k<w.heap.size->F.cY v w k->w'.heap[k]?=w.heap[k]?) {b:Nat} (hF:F.cY v w' b):F.cY v w b:=by
 obtain⟨l,q1,v',q2,q3⟩:=h.born j _ hj;rw[hv]at q1;injection q1 with q1;subst q1;injection q2 with q2;subst q2;exact(F.dep v w w' q3 hs λk hk=>BN k (F.lt v w k q3 hk) hk).2 b hF
theorem aO.call(h:aO B ι c w)(hb:Below w.heap.size w w'):aO B ι c w' where
 base:=B.dep w w' h.base hb.os hb.tape hb.output hb.size λk hk=>hb.block k (B.lt w k h.base hk)
 dD:=h.dD
 born k x hk:=by
  obtain⟨l,h1,h2⟩:=h.born k x hk;refine⟨l,h1,h2.jU hb.size (λb o cap hx hl=>?_) λF v b hx hl hf=>?_⟩
  ·rcases hx with hx|hx
   ·exact hb.block b (h.own k x b o cap hk hx (by rw[h1,hl])).1
   ·exact hb.block b (h.seen k x b o cap hk hx (by rw[h1,hl])).1
  ·subst hx;exact hb.block b (h2.xL hl hf)
 own k x b o cap hk hx hl:=⟨cH (h.own k x b o cap hk hx hl).1 hb.size,(h.own k x b o cap hk hx hl).2⟩
 inj:=h.inj
 apart k j x F b o cap v hk hx hl hj hv hF:=h.apart k j x F b o cap v hk hx hl hj hv (h.Dq hj hv hb.size (λk hk _=>hb.block k hk) hF)
 seen k x b o cap hk hx hl:=⟨cH (h.seen k x b o cap hk hx hl).1 hb.size,(h.seen k x b o cap hk hx hl).2⟩
 fa:=h.fa
 one:=h.one
 pk:=h.pk
def bA(c:Nat->Option Obj)(k:Nat)(x:Obj):Nat->Option Obj:=λj=>if j=k then some x else c j
def dT(ι:Map)(k:Nat)(l:qc):Map:=λj=>if j=k then some l else ι j
theorem hZ{l:qc}(h:ι k=none):Map.le ι (dT ι k l):=λj m e=>by
 unfold dT;by_cases hj:j=k
 ·subst hj;rw[h]at e;cases e
 ·rw[au hj];exact e
theorem gu(ι:Map)(k:Nat)(l:qc):dT ι k l k=some l:=by simp[dT]
theorem aO.add(h:aO B ι c w)(hk:c k=none){x:Obj}{l:qc}(hx:ke (dT ι k l) w l x)
  (ee:∀ b o cap,x.owns=true->l=.at b o cap->b<w.heap.size/\¬B.cY b/\(∀ j y o' aT,c j=some y->y.owns=true->ι j≠some (.at b o' aT))/\(∀ j F v,c j=some (.fact F)->ι j=some (.val v)->¬F.cY v w b)/\(∀ j y o' aT,c j=some y->y.kF=true->ι j≠some (.at b o' aT)))
  (Kf:∀ F v b,x=.fact F->l=.val v->F.cY v w b->∀ j y o' aT,c j=some y->y.owns=true->ι j≠some (.at b o' aT))
  (aIs:∀ b o cap,x.kF=true->l=.at b o cap->b<w.heap.size/\∀ j y o' aT,c j=some y->y.owns=true->ι j≠some (.at b o' aT)) (qI:∀ F,x=.fact F->F.rc=true->(B.Fa F/\∀ j F',c j=some (.fact F')->F'.rc=false):=by intro F e;cases e):aO B (dT ι k l) (bA c k x) w:=by
 have rN:=h.dD k hk;have hle:=hZ (l:=l) rN;have de:∀ j y,j≠k->bA c k x j=some y->c j=some y:=λj y hj e=>by unfold bA at e;rw[au hj]at e;exact e
 have vu:∀ j m,j≠k->dT ι k l j=some m->ι j=some m:=λj m hj e=>by unfold dT at e;rw[au hj]at e;exact e
 have new:∀ y,bA c k x k=some y->y=x:=λy e=>by unfold bA at e;rw[aA rfl]at e;injection e with e;exact e.symm
 have mW:∀ m,dT ι k l k=some m->m=l:=λm e=>by rw[gu]at e;injection e with e;exact e.symm
 refine⟨h.base,?_,?_,?_,?_,?_,?_,?_,?_,h.pk.trans hle⟩
 ·intro j hj;unfold bA at hj;unfold dT;by_cases ch:j=k
  ·rw[aA ch]at hj;cases hj
  ·rw[au ch]at hj ⊢;exact h.dD j hj
 ·intro j y hj;by_cases ch:j=k
  ·subst ch;rw[new y hj];exact⟨l,gu _ _ _,hx⟩
  ·obtain⟨m,h1,h2⟩:=h.born j y (de j y ch hj);exact⟨m,hle _ _ h1,h2.mono hle⟩
 ·intro j y b o cap hj hy hl;by_cases ch:j=k
  ·subst ch;rw[new y hj]at hy;have:=ee b o cap hy (mW _ hl).symm;exact⟨this.1,this.2.1⟩
  ·exact h.own j y b o cap (de j y ch hj) hy (vu _ _ ch hl)
 ·intro i j y z b o cap o' aT hi hy hj hz hl hm;by_cases fJ:i=k<;>by_cases ch:j=k
  ·rw[fJ,ch]
  ·exfalso;subst fJ;rw[new y hi]at hy;exact(ee b o cap hy (mW _ hl).symm).2.2.1 j z o' aT (de j z ch hj) hz (vu _ _ ch hm)
  ·exfalso;subst ch;rw[new z hj]at hz;exact(ee b o' aT hz (mW _ hm).symm).2.2.1 i y o cap (de i y fJ hi) hy (vu _ _ fJ hl)
  ·exact h.inj i j y z b o cap o' aT (de i y fJ hi) hy (de j z ch hj) hz (vu _ _ fJ hl) (vu _ _ ch hm)
 ·intro i j y F b o cap v hi hy hl hj hv hF;by_cases fJ:i=k<;>by_cases ch:j=k
  ·subst fJ;subst ch;have e:y=.fact F:=(new y hi).trans (new _ hj).symm;rw[e]at hy;cases hy
  ·subst fJ;rw[new y hi]at hy;exact(ee b o cap hy (mW _ hl).symm).2.2.2.1 j F v (de j _ ch hj) (vu _ _ ch hv) hF
  ·subst ch;exact Kf F v b (new _ hj).symm (mW _ hv).symm hF i y o cap (de i y fJ hi) hy (vu _ _ fJ hl)
  ·exact h.apart i j y F b o cap v (de i y fJ hi) hy (vu _ _ fJ hl) (de j _ ch hj) (vu _ _ ch hv) hF
 ·intro j y b o cap hj hy hl;by_cases ch:j=k
  ·subst ch;rw[new y hj]at hy;obtain⟨q1,q2⟩:=aIs b o cap hy (mW _ hl).symm;refine⟨q1,λi z o' aT hi hz hm=>?_⟩;by_cases mX:i=j
   ·subst mX;rw[new z hi]at hz;cases x<;>simp[Obj.owns,Obj.kF]at hy hz
   ·exact q2 i z o' aT (de i z mX hi) hz (vu _ _ mX hm)
  ·obtain⟨q1,q2⟩:=h.seen j y b o cap (de j y ch hj) hy (vu _ _ ch hl);refine⟨q1,λi z o' aT hi hz hm=>?_⟩;by_cases fJ:i=k
   ·subst fJ;rw[new z hi]at hz;exact(ee b o' aT hz (mW _ hm).symm).2.2.2.2 j y o cap (de j y ch hj) hy (vu _ _ ch hl)
   ·exact q2 i z o' aT (de i z fJ hi) hz (vu _ _ fJ hm)
 ·intro j F hj;by_cases ch:j=k
  ·subst ch;exact λxM=>(qI F (new _ hj).symm xM).1
  ·exact h.fa j F (de j _ ch hj)
 ·intro i j F F' hi hj hr sW;by_cases fJ:i=k<;>by_cases ch:j=k
  ·rw[fJ,ch]
  ·subst fJ;have:=(qI F (new _ hi).symm hr).2 j F' (de j _ ch hj);rw[sW]at this;cases this
  ·subst ch;have:=(qI F' (new _ hj).symm sW).2 i F (de i _ fJ hi);rw[hr]at this;cases this
  ·exact h.one i j F F' (de i _ fJ hi) (de j _ ch hj) hr sW
theorem aO.new(h:aO B ι c w)(hb:Below w.heap.size w w')(hk:c k=none){x:Obj}{l:qc}
  (hx:ke (dT ι k l) w' l x) (ee:∀ b o cap,x.owns=true->l=.at b o cap->w.heap.size<=b/\b<w'.heap.size)
  (Kf:∀ F v b,x=.fact F->l=.val v->F.cY v w' b->w.heap.size<=b\/B.cY b) (qJ:x.kF=false) (qI:∀ F,x=.fact F->F.rc=true->(B.Fa F/\∀ j F',c j=some (.fact F')->F'.rc=false):=by intro F e;cases e):aO B (dT ι k l) (bA c k x) w':=by
 refine(h.call hb).add hk hx (λb o cap Fq hl=>?_) (λF v b Zq hl hF j y o' aT hj hy he=>?_) (λb o cap hv=>by rw[qJ]at hv;cases hv) qI
 ·obtain⟨h1,h2⟩:=ee b o cap Fq hl;refine⟨h2,λhF=>by have:=B.lt w b h.base hF;omega,λj y o' aT hj hy he=>?_,λj F v hj he hF=>?_,λj y o' aT hj hy he=>?_⟩
  ·have:=(h.own j y b o' aT hj hy he).1;omega
  ·have hF:=h.Dq hj he hb.size (λk hk _=>hb.block k hk) hF;obtain⟨m,q1,q2⟩:=h.born j _ hj;rw[he]at q1;injection q1 with q1;have:=q2.xL q1.symm hF;omega
  ·have:=(h.seen j y b o' aT hj hy he).1;omega
 ·have h1:=h.own j y b o' aT hj hy he;rcases Kf F v b Zq hl hF with h2|h2
  ·omega
  ·exact h1.2 h2
theorem aO.write(h:aO B ι c w){o:Nat}{x y:Obj}(hk:c k=some x)(hx:x.owns=true)(hl:ι k=some (.at b o cap))
  (hos:uk w w') (aIt:w'.tape=w.tape) (SR:w'.output=w.output) (zR:w.heap.size<=w'.heap.size) (Kg:∀ j,j<w.heap.size->j≠b->w'.heap[j]?=w.heap[j]?)
  (hy:ke ι w' (.at b o cap) y) (Kh:∀ F,y≠.fact F) (Ki:y.kF=false):aO B ι (bA c k y) w':=by
 obtain⟨gD,Zr⟩:=h.own k x b o cap hk hx hl;have de:∀ j z,j≠k->bA c k y j=some z->c j=some z:=λj z hj e=>by unfold bA at e;rw[au hj]at e;exact e
 have new:∀ z,bA c k y k=some z->z=y:=λz e=>by unfold bA at e;rw[aA rfl]at e;injection e with e;exact e.symm
 refine⟨B.dep w w' h.base hos aIt SR zR λj hj=>Kg j (B.lt w j h.base hj) λe=>Zr (e▸hj),?_,?_,?_,?_,?_,?_,?_,?_,h.pk⟩
 ·intro j hj;unfold bA at hj;by_cases ch:j=k
  ·rw[aA ch]at hj;cases hj
  ·rw[au ch]at hj;exact h.dD j hj
 ·intro j z hj;by_cases ch:j=k
  ·subst ch;rw[new z hj];exact⟨_,hl,hy⟩
  ·have gU:=de j z ch hj;obtain⟨m,h1,h2⟩:=h.born j z gU;refine⟨m,h1,h2.jU zR (λb' o' aT hz hm=>?_) λF v b' hz hm hF=>?_⟩
   ·subst hm;rcases hz with hz|hz
    ·exact Kg b' (h.own j z b' o' aT gU hz h1).1 λe=>ch (h.inj j k z x b o' aT o cap gU hz hk hx (e▸h1) hl)
    ·obtain⟨q1,q2⟩:=h.seen j z b' o' aT gU hz h1;exact Kg b' q1 λe=>q2 k x o cap hk hx (e▸hl)
   ·subst hz;subst hm;exact Kg b' (h2.xL rfl hF) λe=>h.apart k j x F b o cap v hk hx hl gU h1 (e▸hF)
 ·intro j z b' o' aT hj hz hm;by_cases ch:j=k
  ·subst ch;rw[hl]at hm;injection hm with hm;injection hm with c8 dE um;subst c8;exact⟨cH gD zR,Zr⟩
  ·have:=h.own j z b' o' aT (de j z ch hj) hz hm;exact⟨cH this.1 zR,this.2⟩
 ·intro i j z z' b' o1 mG o2 qK hi hz hj oO wF jG;by_cases fJ:i=k<;>by_cases ch:j=k
  ·rw[fJ,ch]
  ·subst fJ;exact h.inj i j x z' b' o1 mG o2 qK hk hx (de j z' ch hj) oO wF jG
  ·subst ch;exact h.inj i j z x b' o1 mG o2 qK (de i z fJ hi) hz hk hx wF jG
  ·exact h.inj i j z z' b' o1 mG o2 qK (de i z fJ hi) hz (de j z' ch hj) oO wF jG
 ·intro i j z F b' o' aT v hi hz hm hj hv hF;by_cases ch:j=k
  ·subst ch;exact absurd (new _ hj).symm (Kh F)
  ·have gU:=de j _ ch hj;have hF:=h.Dq gU hv zR (λk2 fX iX=>Kg k2 fX λe=>h.apart k j x F b o cap v hk hx hl gU hv (e▸iX)) hF;by_cases fJ:i=k
   ·subst fJ;exact h.apart i j x F b' o' aT v hk hx hm gU hv hF
   ·exact h.apart i j z F b' o' aT v (de i z fJ hi) hz hm gU hv hF
 ·intro j z b' o' aT hj hz hm;by_cases ch:j=k
  ·subst ch;rw[new z hj,Ki]at hz;cases hz
  ·obtain⟨q1,q2⟩:=h.seen j z b' o' aT (de j z ch hj) hz hm;refine⟨cH q1 zR,λi z' o2 qK hi oO bJ=>?_⟩;by_cases fJ:i=k
   ·subst fJ;exact q2 i x o2 qK hk hx bJ
   ·exact q2 i z' o2 qK (de i z' fJ hi) oO bJ
 ·intro j F hj;by_cases ch:j=k
  ·subst ch;exact absurd (new _ hj).symm (Kh F)
  ·exact h.fa j F (de j _ ch hj)
 ·intro i j F F' hi hj;by_cases fJ:i=k
  ·subst fJ;exact absurd (new _ hi).symm (Kh F)
  ·by_cases ch:j=k
   ·subst ch;exact absurd (new _ hj).symm (Kh F')
   ·exact h.one i j F F' (de i _ fJ hi) (de j _ ch hj)
theorem aO.kill(h:aO B ι c w)(k:Nat)(hk:c k≠none):aO B ι (bA c k .dead) w:=by
 have de:∀ j z,j≠k->bA c k .dead j=some z->c j=some z:=λj z hj e=>by unfold bA at e;rw[au hj]at e;exact e
 have new:∀ z,bA c k .dead k=some z->z=.dead:=λz e=>by unfold bA at e;rw[aA rfl]at e;injection e with e;exact e.symm
 refine⟨h.base,?_,?_,?_,?_,?_,?_,?_,?_,h.pk⟩
 ·intro j hj;unfold bA at hj;by_cases ch:j=k
  ·rw[aA ch]at hj;cases hj
  ·rw[au ch]at hj;exact h.dD j hj
 ·intro j z hj;by_cases ch:j=k
  ·subst ch;rw[new z hj];cases hc:c j with
   |none=>exact absurd hc hk
   |some x=>obtain⟨l,h1,_⟩:=h.born j x hc;exact⟨l,h1,trivial⟩
  ·exact h.born j z (de j z ch hj)
 ·intro j z b o cap hj hz;by_cases ch:j=k
  ·subst ch;rw[new z hj]at hz;cases hz
  ·exact h.own j z b o cap (de j z ch hj) hz
 ·intro i j z z' b o1 c1 o2 c2 hi hz hj oO;by_cases fJ:i=k
  ·subst fJ;rw[new z hi]at hz;cases hz
  ·by_cases ch:j=k
   ·subst ch;rw[new z' hj]at oO;cases oO
   ·exact h.inj i j z z' b o1 c1 o2 c2 (de i z fJ hi) hz (de j z' ch hj) oO
 ·intro i j z F b o cap v hi hz hl hj;by_cases fJ:i=k
  ·subst fJ;rw[new z hi]at hz;cases hz
  ·by_cases ch:j=k
   ·subst ch;cases new _ hj
   ·exact h.apart i j z F b o cap v (de i z fJ hi) hz hl (de j _ ch hj)
 ·intro j z b o cap hj hz;by_cases ch:j=k
  ·subst ch;rw[new z hj]at hz;cases hz
  ·intro hl;obtain⟨q1,q2⟩:=h.seen j z b o cap (de j z ch hj) hz hl;refine⟨q1,λi z' o' aT hi oO hm=>?_⟩;by_cases fJ:i=k
   ·subst fJ;rw[new z' hi]at oO;cases oO
   ·exact q2 i z' o' aT (de i z' fJ hi) oO hm
 ·intro j F hj;by_cases ch:j=k
  ·subst ch;cases new _ hj
  ·exact h.fa j F (de j _ ch hj)
 ·intro i j F F' hi hj;by_cases fJ:i=k
  ·subst fJ;cases new _ hi
  ·by_cases ch:j=k
   ·subst ch;cases new _ hj
   ·exact h.one i j F F' (de i _ fJ hi) (de j _ ch hj)
theorem aO.ext{c':Nat->Option Obj}(h:aO B ι c w)(e:∀ k,c' k=c k):aO B ι c' w:=by have:c'=c:=funext e;rw[this];exact h
theorem aO.drew(h:aO B ι c w)(n:Nat)(hn:w.drawn<=n):aO B ι c { w with drawn:=n }:=
 h.call ⟨⟨rfl,hn⟩,rfl,rfl,bF _,λ_ _=>rfl⟩
def ju:al->Nat->al->al
 |l,_,[]=>l
 |l,o,v::r=>ju (l.set o v) (o+1) r
theorem SS:∀(vs l:al) (o:Nat),(ju l o vs).length=l.length
 |[],_,_=>rfl
 |v::r,l,o=>by rw[ju,SS r];simp
theorem bY.ju{ι:Map}:∀{vs cX:al},bY (aM ι) vs cX->∀{l l':al},bY (aM ι) l l'->∀ o,bY (aM ι) (ju l o vs) (ju l' o cX)
 |_,_,.nil,_,_,h,_=>h
 |_,_,.cons hv hr,_,_,h,o=>hr.ju (h.set hv o) (o+1)
theorem Zs:∀(vs l:al) (o n:Nat),o+vs.length<=n->(ju l o vs).take n=ju (l.take n) o vs
 |[],_,_,_,_=>rfl
 |v::r,l,o,n,h=>by simp only[qd]at h;rw[ju,ju,Zs r (l.set o v) (o+1) n o_,List.take_set]
theorem SV(b:Nat)(ty:TypeId)(fr:Nat×Nat):∀(vs cs:al) (o:Nat) (w:h_),w.heap[b]?=some (.cells cs.toArray ty fr)->
  (w.setCells b o vs).heap[b]?=some (.cells (ju cs o vs).toArray ty fr)/\(∀ k,k≠b->(w.setCells b o vs).heap[k]?=w.heap[k]?)/\(w.setCells b o vs).heap.size=w.heap.size/\
   uk w (w.setCells b o vs)/\(w.setCells b o vs).tape=w.tape/\(w.setCells b o vs).output=w.output
 |[],cs,o,w,h=>⟨h,λ_ _=>rfl,rfl,.refl w,rfl,rfl⟩
 |v::r,cs,o,w,h=>by
  have h1:(w.setCell ⟨b,o,none⟩ v).heap[b]?=some (.cells (cs.set o v).toArray ty fr):=by simp only[World.setCell,Zt,rO,h,SX];simp
  obtain⟨a1,a2,a3,a4,a5,a6⟩:=SV b ty fr r (cs.set o v) (o+1) _ h1;refine⟨a1,λk hk=>?_,?_,a4,a5,a6⟩
  ·rw[World.setCells,a2 k hk,Go.RowKit.Below.heap_setCell _ _ _ _ hk]
  ·rw[World.setCells,a3];simp[World.setCell]
def Obj.cells:Obj->al
 |.aI cs _=>cs
 |.row cs _ _=>cs
 |.view cs=>cs
 |_=>[]
def Obj.NO:Obj->al->Obj
 |.aI _ ty,cs=>.aI cs ty
 |.row _ ty s,cs=>.row cs ty s
 |x,_=>x
def Obj.reads(x:Obj):Bool:=x.owns||x.kF
theorem ke.at{ι:Map}{w:h_}{b o cap:Nat}{x:Obj}(h:ke ι w (.at b o cap) x)(hx:x.reads=true):
  ∃ ct:al,bY (aM ι) x.cells ct/\∀ j u,ct[j]?=some u->w.cell? ⟨b,o+j,none⟩=some u:=by
 cases x with
 |aI cells ty=>
  obtain⟨b',ct,h1,h2,h3⟩:=h;injection h1 with h1 po Zu;subst h1;subst po;exact⟨ct,h2,λj u hj=>by simp[World.cell?,h3,hj]⟩
 |row cells ty size=>
  rcases h with h|⟨b',aT,cur,h1,h2,h3,h4,h5⟩
  ·cases h.1
  ·injection h1 with h1 po Zu;subst h1;subst po;refine⟨_,h5,λj u hj=>?_⟩;rw[vx]at hj;split at hj
   ·have gU:cur[j]?=some u:=by simpa using hj
    simp[World.cell?,h2,gU]
   ·cases hj
 |view cells=>
  rcases h with h|⟨b',o',aT,ct,h1,h2,h3⟩
  ·cases h.1
  ·injection h1 with h1 po Zu;subst h1;subst po;exact⟨ct,h2,h3⟩
 |fact F=>cases hx
 |dead=>cases hx
theorem aO.store(h:aO B ι c w){o:Nat}{x:Obj}(hk:c k=some x)(hx:x.owns=true)(hb:ι k=some (.at b A cap))
  (hv:bY (aM ι) vs e6) (hle:o+vs.length<=x.cells.length) :
  A=0/\aO B ι (bA c k (x.NO (ju x.cells o vs))) (w.setCells b o e6)/\∃(ct:al) (ty:TypeId),w.heap[b]?=some (.cells ct.toArray ty (0,0))/\o+vs.length<=ct.length:=by
 obtain⟨l,h1,h2⟩:=h.born k x hk;rw[hb]at h1;injection h1 with h1;subst h1;cases x with
 |aI cells ty=>
  obtain⟨b',ct,q1,q2,q3⟩:=h2;injection q1 with q1 BO SY;subst q1;subst BO;subst SY;obtain⟨a1,a2,a3,a4,a5,a6⟩:=SV b ty (0,0) e6 ct o w q3;exact⟨rfl,h.write hk hx hb a4 a5 a6 (wG a3.symm) (λj _ hj=>a2 j hj) ⟨b,_,rfl,hv.ju q2 o,a1⟩ n_ rfl,ct,ty,q3,by rw[<-q2.length];exact hle⟩
 |row cells ty size=>
  rcases h2 with h2|⟨b',aT,cur,q1,q2,q3,q4,q5⟩
  ·cases h2.1
  ·injection q1 with q1 BO SY;subst q1;subst BO;subst SY;obtain⟨a1,a2,a3,a4,a5,a6⟩:=SV b ty (0,0) e6 cur.toList o w (by simpa using q2);have vy:o+e6.length<=cells.length:=by rw[<-hv.length];exact hle
   have iN:cells.length<=cur.toList.length:=by have:=q5.length;rw[jV]at this;omega
   refine⟨rfl,h.write hk hx hb a4 a5 a6 (wG a3.symm) (λj _ hj=>a2 j hj) (.inr ⟨b,cap,_,rfl,a1,q3,by simp[SS,q4],?_⟩) n_ rfl,cur.toList,ty,by simpa using q2,?_⟩
   ·rw[SS];show bY (aM ι) (ju cells o vs) (List.take cells.length (ju cur.toList o e6));rw[Zs _ _ _ _ vy];exact hv.ju q5 o
   ·rw[hv.length];omega
 |view cells=>cases hx
 |fact F=>cases hx
 |dead=>cases hx
abbrev aL:=List (Nat×Obj)
variable{M ms:aL}
def mH(c:Nat->Option Obj):aL->Nat->Option Obj
 |[]=>c
 |(k,x)::l=>bA (mH c l) k x
def iY(P:j_)(B:aa)(o:Oper)(e6:al)(need:List (Nat×Option Obj))(val:i_)(c9:aL):Prop:=
 ∀(ι:Map) (c:Nat->Option Obj) (ρ:Operand->Value) (w:h_),bY (aM ι) e6 (o.op.operands.toList.map ρ)->aO B ι c w->(∀ p∈need,c p.1=p.2)->
  ∃ aB v' w',Map.le ι aB/\aM aB val v'/\aO B aB (mH c c9) w'/\((execOp ρ o).run P w=.ok (.value v') w'\/(v'=undef/\(execOp ρ o).run P w=.ok .skip w'))
def FW(R:Option Nat):Fence:={ fn:=λ_=>True,depth:=none,alive:=false,round:=R }
theorem Zv{ρ:Operand->Value}{n:Next}(h:(execOp ρ o).run P w=.ok n w')(hn:∀ d,n≠.defer d):∀ c,o.op≠.defer c:=by
 intro c hc;have e:execOp ρ o=(do let d <-resolve ρ c o.type;pure (.defer d)):=by unfold execOp;rw[hc]
 rw[e,Kj]at h;cases hr:(resolve ρ c o.type).run P w with
 |ok d w1=>rw[hr]at h;injection h with h _;exact hn d h.symm
 |halt x w1=>rw[hr]at h;cases h
def cI(P:j_)(B:aa)(o:Oper)(e6:al)(need:List (Nat×Option Obj))(val:i_)(c9:aL):Prop:=
 ∀(R:Option Nat) (ι:Map) (c:Nat->Option Obj) (a:Act) (w:h_),bY (aM ι) e6 (o.op.operands.toList.map a.eval)->aO B ι c w->(∀ p∈need,c p.1=p.2)->
  ∀(K:Act->World->Prop) (Q:Exit->Act->World->Prop),(∀ aB v' w',Map.le ι aB->aM aB val v'->aO B aB (mH c c9) w'->K (a.put o.dst v') w')->o.wpIn (FW R) 0 P a w K Q
theorem iY.step{val:i_}{c9:aL}(h:iY P B o e6 need val c9):cI P B o e6 need val c9:=by
 intro R ι c a w hv hm hn K Q hK;refine⟨λ_ _=>trivial,?_⟩;obtain⟨aB,v',w',h1,h2,h3,h4|⟨h4,h5⟩⟩:=h ι c a.eval w hv hm hn
 ·rw[NP _ _ _ (Zv h4 n_),h4,Oper.uponIn_value];exact hK aB v' w' h1 h2 h3
 ·rw[NP _ _ _ (Zv h5 n_),h5,Oper.uponIn_skip];subst h4;exact hK aB undef w' h1 h2 h3
section
variable{P:j_}{B:aa}{o:Oper}
theorem oh{R:α->β->Prop}{a:α}{m:List β}(h:bY R [a] m):∃ b,m=[b]/\R a b:=by cases h with|cons h t=>cases t;exact⟨_,rfl,h⟩
theorem jH{R:α->β->Prop}{a a2:α}{m:List β}(h:bY R [a,a2] m):∃ b b2,m=[b,b2]/\R a b/\R a2 b2:=by cases h with|cons h t=>obtain⟨b2,rfl,h2⟩:=oh t;exact⟨_,_,rfl,h,h2⟩
def dU(P:j_)(t:TypeId)(cells:al)(off:Nat):Option Value:=
 match P.underlying t,P.info? t with
 |some d,some i=>
  if d.isRow then(if Nat.ble (off+i.size) cells.length then some (.agg ((cells.drop off).take i.size).toArray)else none)
  else cells[off]?
 |_,_=>none
def fK(P:j_)(t:TypeId)(cells:al)(off:Nat)(v:i_):Option al:=
 match P.info? t with
 |some i=>if Nat.beq i.size v.cells.size&&Nat.ble (off+v.cells.size) cells.length&&v.cells.toList.all (·.oneCell')then some (ju cells off v.cells.toList)else none
 |none=>none
theorem Zw(hm:aO B ι c w){x:Obj}{t:TypeId}{v:i_}
  (hk:c k=some x) (hx:x.reads=true) (hv:dU P t x.cells off=some v) (hc:aM ι (.pointer (some ⟨k,off,some 7⟩)) u) :
  ∃ v' a',u=.pointer (some a')/\aM ι v v'/\(loadVar t a').run P w=.ok v' w:=by
 obtain⟨b,o,cap,hb,he⟩:=hc.xK rfl;dsimp only at hb he;obtain⟨l,h1,h2⟩:=hm.born k x hk;rw[hb]at h1;injection h1 with h1;subst h1;obtain⟨ct,gv,lW⟩:=h2.at hx;unfold dU at hv;split at hv
 ·rename_i d i hd hi;split at hv
  ·rename_i jW;split at hv
   ·rename_i Zx;have Zx:=sY Zx;have hlen:=gv.length;injection hv with hv;refine⟨.agg ((ct.drop off).take i.size).toArray,⟨b,o+off,none⟩,he,by rw[<-hv];exact .agg ((gv.drop _).take _),?_⟩;exact run_loadVar_mid (P:=P) w b (o+off) t ((ct.drop off).take i.size) d (λj u hj=>by
      rw[vx]at hj;split at hj
      ·rw[Ft]at hj;rw[vz];exact lW _ _ hj
      ·cases hj) hd jW (by rw[hi];simp;omega)
   ·cases hv
  ·rename_i jW;obtain⟨u',qe,SZ⟩:=gv.get _ _ hv;refine⟨u',⟨b,o+off,none⟩,he,SZ,?_⟩;have aIu:(isAgg t).run P w=.ok false w:=by unfold isAgg;rw[Kj,jX hd w];cases d<;>first|rfl|(simp[TypeDesc.isRow]at jW)
   simp[loadVar,Kj,aIu,load,Sem.run,lW _ _ qe]
 ·cases hv
theorem Zy{t:TypeId}{x:m_}(ho:o.op=.load t x){y:Obj}{v:i_}(hx:y.reads=true)(hv:dU P t y.cells off=some v):
  iY P B o [.pointer (some ⟨k,off,some 7⟩)] [(k,some y)] v []:=by
 intro ι c ρ w aW hm hn;rw[ho]at aW;obtain⟨u,hu,hc⟩:=oh aW;have hu:ρ x=u:=by simpa[Op.operands]using hu
 obtain⟨v',a',e,kS,qL⟩:=Zw hm (hn _ (aR ..)) hx hv hc;refine⟨ι,v',w,Map.le.refl _,kS,hm,.inl ?_⟩;simp only[execOp,ho,hu,e,Instr.loadAt,Instr.sureAddr];simp[qL]
theorem Zz{t:TypeId}{x y:m_}(ho:o.op=.store t x y){z:Obj}{v:i_}{cs:al}(hx:z.owns=true)(hv:fK P t z.cells off v=some cs):
  iY P B o [.pointer (some ⟨k,off,some 7⟩),v] [(k,some z)] undef [(k,z.NO cs)]:=by
 intro ι c ρ w aW hm hn;rw[ho]at aW;obtain⟨u,u2,hu,hc,hy⟩:=jH aW;have dO:ρ x=u:=by simp[Op.operands]at hu;exact hu.1
 have eM:ρ y=u2:=by simp[Op.operands]at hu;exact hu.2
 have hk:c k=some z:=hn _ (aR ..);obtain⟨b,oo,cap,hb,he⟩:=hc.xK rfl;dsimp only at hb he;unfold fK at hv;split at hv
 ·rename_i i hi;split at hv
  ·rename_i qM;injection hv with hv;simp only[dc,bC]at qM;obtain⟨⟨bL,hle⟩,Fu⟩:=qM;have bL:=SP bL;have hle:=sY hle;have HW:=hy.cells.length;simp only[zT]at HW;obtain⟨h0,bW,ct,ty,mY,vy⟩:=hm.store hk hx hb hy.cells (o:=off) (by simpa using hle);subst h0;rw[kT]at he;refine⟨ι,undef,w.setCells b off u2.cells.toList,Map.le.refl _,.same rfl,by rw[<-hv];exact bW,.inr ⟨rfl,?_⟩⟩
   have run:=run_storeCells_cells (P:=P) b off u2.cells.toList 0 w
     (λj hj=>by
      simp at hj;simp only[zT]at vy;have:j+off<ct.length:=by omega
      simp[World.cell?,mY];omega)
     (λj hj=>by simp[World.frozen?,mY])
     (λv1 kU=>by
      obtain⟨j,hj⟩:=ZA kU;have ao:j<v.cells.toList.length:=by
       have:j<u2.cells.toList.length:=by
        rcases fo j u2.cells.toList.length with h|h
        ·exact h
        ·rw[BP h]at hj;cases hj
       rw[hy.cells.length];exact this
      obtain⟨v',rP,uo⟩:=hy.cells.get j _ (bt ao);rw[hj]at rP;injection rP with rP;rw[rP,uo.Zp];exact Fu _ (dy ao))
   simp only[jv]at run;simp only[execOp,ho,dO,he,eM,Instr.storeAt,Instr.sureAddr];simp[storeVar,sizeOf,typeInfo,hi,bL,<-HW,run]
  ·cases hv
 ·cases hv
theorem ZB{x:m_}(ho:o.op=.move x\/o.op=.assign x){v:i_}:iY P B o [v] [] v []:=by
 intro ι c ρ w aW hm hn;have zU:o.op.operands=#[x]:=by rcases ho with ho|ho<;>rw[ho]<;>rfl
 rw[zU]at aW;obtain⟨u,hu,hc⟩:=oh aW;have hu:ρ x=u:=by simpa using hu
 refine⟨ι,u,w,Map.le.refl _,hc,hm,.inl ?_⟩;rcases ho with ho|ho<;>simp[execOp,ho,hu]
theorem Kk{R:α->β->Prop}{a a2 a3:α}{m:List β}(h:bY R [a,a2,a3] m):∃ b b2 b3,m=[b,b2,b3]/\R a b/\R a2 b2/\R a3 b3:=by cases h with|cons h t=>obtain⟨b2,b3,rfl,h2,h3⟩:=jH t;exact⟨_,_,_,rfl,h,h2,h3⟩
theorem aIv{x y z:m_}(ho:o.op=.pick x y z){b:Bool}{v1 v2:i_}:iY P B o [.bool b,v1,v2] [] (if b then v1 else v2) []:=by
 intro ι c ρ w aW hm hn;rw[ho]at aW;obtain⟨u0,u1,u2,hu,h0,h1,h2⟩:=Kk aW;simp[Op.operands]at hu;obtain⟨e0,e1,e2⟩:=hu;have h0:=h0.bool;cases b
 ·exact⟨ι,u2,w,Map.le.refl _,h2,hm,.inl (by simp[execOp,ho,e0,e1,e2,h0,asBool])⟩
 ·exact⟨ι,u1,w,Map.le.refl _,h1,hm,.inl (by simp[execOp,ho,e0,e1,e2,h0,asBool])⟩
theorem ZC(hm:aO B ι c w)(hk:c k=none)(cs ct:al)(ty:TypeId)(hc:bY (aM ι) cs ct):
  aO B (dT ι k (.at w.heap.size 0 0)) (bA c k (.aI cs ty)) (w.alloc (.cells ct.toArray ty (0,0))):=by
 have hle:=hZ (l:=.at w.heap.size 0 0) (hm.dD k hk)
 exact hm.new (w':=w.alloc (.cells ct.toArray ty (0,0))) (x:=.aI cs ty) (l:=.at w.heap.size 0 0) ⟨⟨rfl,bF _⟩,rfl,rfl,by simp,λj hj=>S0 _ _ _ hj⟩ hk
  ⟨_,ct,rfl,oN hle hc,by show(w.heap.push _)[w.heap.size]?=_;simp⟩ (λb o cap _ e=>by injection e with e1 e2;subst e1;simp) n_ rfl
theorem aIw{t:TypeId}(ho:o.op=.alloc t){i:TypeInfo}{z:i_}(hi:P.info? t=some i)(hz:i.zero=some z)(hf:flat z=true)(k:Nat):
  iY P B o [] [(k,none)] (.pointer (some ⟨k,0,some 7⟩)) [(k,.aI z.cells.toList t)]:=by
 intro ι c ρ w aW hm hn;have hk:c k=none:=hn _ (aR ..);refine⟨_,.pointer (some ⟨w.heap.size,0,none⟩),_,hZ (hm.dD k hk),.ptr (o:=0) (off:=0) (gu _ _ _),ZC hm hk z.cells.toList z.cells.toList t ((aM.same hf:aM ι z z).cells),.inl ?_⟩;simp[execOp,ho,Instr.alloc,zeroValue,typeInfo,hi,hz,newVar,newRow,newObj,Sem.run]
theorem aIx{t:TypeId}{x:m_}(ho:o.op=.box t x)(v:i_)(k:Nat):
  iY P B o [v] [(k,none)] (.pointer (some ⟨k,0,some 7⟩)) [(k,.aI v.cells.toList t)]:=by
 intro ι c ρ w aW hm hn;have hk:c k=none:=hn _ (aR ..);rw[ho]at aW;obtain⟨u,hu,hc⟩:=oh aW;have hu:ρ x=u:=by simpa[Op.operands]using hu
 refine⟨_,.pointer (some ⟨w.heap.size,0,none⟩),_,hZ (hm.dD k hk),.ptr (o:=0) (off:=0) (gu _ _ _),ZC hm hk v.cells.toList u.cells.toList t hc.cells,.inl ?_⟩;simp[execOp,ho,hu,Instr.box,newVar,newRow,newObj,Sem.run]
theorem aIy{s:TypeId}{x:m_}{f:Nat}(ho:o.op=.fieldAddr s x f){fs:Array Field}{fd:Field}{i:TypeInfo}(hs:P.underlying s=some (.struct fs))(wH:fs[f]?=some fd)
  (hi:P.info? fd.type=some i) (bL:1<=i.size) (k off:Nat) :
  iY P B o [.pointer (some ⟨k,off,some 7⟩)] [] (.pointer (some ⟨k,off+fd.offset,some 7⟩)) []:=by
 intro ι c ρ w aW hm hn;rw[ho]at aW;obtain⟨u,hu,hc⟩:=oh aW;have hu:ρ x=u:=by simpa[Op.operands]using hu
 obtain⟨b,oo,cap,hb,he⟩:=hc.xK rfl;have bB:i.size≠0:=by omega
 refine⟨ι,.pointer (some ⟨b,oo+(off+fd.offset),none⟩),w,Map.le.refl _,.ptr hb,hm,.inl ?_⟩;simp only[execOp,ho,hu,he];simp[Instr.fieldAt,Instr.sureAddr,jX hs,wH,fieldPlace,sizeOf,typeInfo,hi,bB,zW,vz]
theorem aIz{t:TypeId}{x ix:m_}(ho:o.op=.indexAddr t x ix){e:TypeId}{i:TypeInfo}(ht:P.underlying t=some (.array len e))(hi:P.info? e=some i)
  {kd:IntKind} {n:Int} (h0:0<=n) (h1:n<len) (k off:Nat) :
  iY P B o [.pointer (some ⟨k,off,some 7⟩),.int kd n] [] (.pointer (some ⟨k,off+n.toNat*i.size,some 7⟩)) []:=by
 intro ι c ρ w aW hm hn;rw[ho]at aW;obtain⟨u,u2,hu,hc,hx⟩:=jH aW;have dO:ρ x=u:=by simp[Op.operands]at hu;exact hu.1
 have eM:ρ ix=u2:=by simp[Op.operands]at hu;exact hu.2
 have hx:=hx.fH rfl;obtain⟨b,oo,cap,hb,he⟩:=hc.xK rfl;refine⟨ι,.pointer (some ⟨b,oo+(off+n.toNat*i.size),none⟩),w,Map.le.refl _,.ptr hb,hm,.inl ?_⟩;simp only[execOp,ho,dO,he,eM,hx];simp[Instr.indexAt,Instr.sureAddr,asIntOf,jX ht,sizeOf,typeInfo,hi,h0,h1,zW,vz]
theorem ZD{t:TypeId}{x ix:m_}(ho:o.op=.indexAddr t x ix){e:TypeId}{i:TypeInfo}(ht:P.underlying t=some (.slice e))(hi:P.info? e=some i)
  {kd:IntKind} {n:Int} {len cc:Nat} (h0:0<=n) (h1:n<len) (k off:Nat) :
  iY P B o [.slice (some ⟨k,off,some 7⟩) len cc,.int kd n] [] (.pointer (some ⟨k,off+n.toNat*i.size,some 7⟩)) []:=by
 intro ι c ρ w aW hm hn;rw[ho]at aW;obtain⟨u,u2,hu,hc,hx⟩:=jH aW;have dO:ρ x=u:=by simp[Op.operands]at hu;exact hu.1
 have eM:ρ ix=u2:=by simp[Op.operands]at hu;exact hu.2
 have hx:=hx.fH rfl;rcases hc.iM rfl with ⟨_,h,_⟩|⟨b,oo,cap,c',hb,_,_,he⟩
 ·omega
 ·refine⟨ι,.pointer (some ⟨b,oo+(off+n.toNat*i.size),none⟩),w,Map.le.refl _,.ptr hb,hm,.inl ?_⟩;simp only[execOp,ho,dO,he,eM,hx];simp[Instr.indexAt,asIntOf,jX ht,sizeOf,typeInfo,hi,h0,h1,zW,vz]
theorem aIA{x:m_}(ho:o.op=.extract x i){vs:p_}{v:i_}(hv:vs[i]?=some v):iY P B o [.tuple vs] [] v []:=by
 intro ι c ρ w aW hm hn;rw[ho]at aW;obtain⟨u,hu,hc⟩:=oh aW;have hu:ρ x=u:=by simpa[Op.operands]using hu
 obtain⟨cX,he,bo⟩:=hc.vt;obtain⟨v',rP,uo⟩:=bo.get i v (by simpa using hv);refine⟨ι,v',w,Map.le.refl _,uo,hm,.inl ?_⟩;have aIB:cX[i]?=some v':=by simpa using rP
 simp only[execOp,ho,hu,he];simp[Instr.extract,aIB]
theorem aIC{f:Fn}{fi ca:Array Operand}(ho:o.op=.makeFunc f fi ca):iY P B o vs [] (.func f (vs.take fi.size).toArray (vs.drop fi.size).toArray) []:=by intro ι c ρ w aW hm hn;rw[ho]at aW;simp only[Op.operands,Array.toList_append,vA]at aW;have h1:=aW.take fi.size;have h2:=aW.drop fi.size;rw[S1 s_]at h1;rw[S2 s_]at h2;refine⟨ι,_,w,Map.le.refl _,.fn h1 h2,hm,.inl ?_⟩;simp[execOp,ho,Instr.makeFunc,<-Array.toList_map]
theorem aID{t:TypeId}{x:m_}{e:TypeId}(ho:o.op=.call { callee:=.builtin .len,args:=#[x],argTypes:=#[t]})(ht:P.underlying t=some (.slice e))(k off n cc:Nat):
  iY P B o [.slice (some ⟨k,off,some 7⟩) n cc] [] (.int .i64 n) []:=by
 intro ι c ρ w aW hm hn;rw[ho]at aW;obtain⟨u,hu,hc⟩:=oh aW;have hu:ρ x=u:=by simpa[Op.operands,Call.operands]using hu
 refine⟨ι,.int .i64 n,w,Map.le.refl _,.same rfl,hm,.inl ?_⟩;rcases hc.iM rfl with ⟨_,h,_,_,he⟩|⟨b,oo,cap,c',hb,_,_,he⟩
 ·subst h;simp[execOp,ho,resolve,invoke,builtin,Builtin.len_,hu,he,jX ht,goInt]
 ·simp[execOp,ho,resolve,invoke,builtin,Builtin.len_,hu,he,jX ht,goInt]
def NQ{α:Type}(P:j_):Sem α->Option α
 |.pure a=>some a
 |.program k=>NQ P (k P)
 |.mark _ k=>NQ P k
 |_=>none
theorem S3{α:Type}{P:j_}:∀{e:Sem α} {a:α},NQ P e=some a->∀ w,e.run P w=.ok a w
 |.pure _,a,h,w=>by injection h with h;subst h;rfl
 |.program k,a,h,w=>by rw[Sem.run];exact S3 (e:=k P) h w
 |.mark _ k,a,h,w=>by rw[Sem.run];exact S3 (e:=k) h w
 |.load _ _ _,_,h,_=>by cases h
 |.store _ _ _ _,_,h,_=>by cases h
 |.new _ _,_,h,_=>by cases h
 |.shape _ _,_,h,_=>by cases h
 |.freeze _ _ _,_,h,_=>by cases h
 |.frozen _ _,_,h,_=>by cases h
 |.getObj _ _,_,h,_=>by cases h
 |.setObj _ _ _,_,h,_=>by cases h
 |.choose _ _,_,h,_=>by cases h
 |.sys _ _,_,h,_=>by cases h
 |.halt _,_,h,_=>by cases h
theorem oj{l l':al}(h:bY (aM ι) l l')(hf:∀ v∈l,flat v=true):l'=l:=by
 induction h with
 |nil=>rfl
 |cons h t ih=>rw[h.fH (hf _ (aR ..)),ih λv hv=>hf v (bK _ hv)]
theorem BQ{val:i_}(S4:∀ v∈e6,flat v=true)(hf:flat val=true)
  (h:∀ ρ:Operand->Value,o.op.operands.toList.map ρ=e6->∀ w,B.G w->(execOp ρ o).run P w=.ok (.value val) w):iY P B o e6 [] val []:=by
 intro ι c ρ w aW hm hn;exact⟨ι,val,w,Map.le.refl _,.same hf,hm,.inl (h ρ (oj aW S4) w hm.base)⟩
end
section
variable{P:j_}{B:aa}{o:Oper}
def bound(x:Option Operand)(n:Nat):al:=match x with|some _=>[.int .i64 n]|none=>[]
theorem aIE{t:TypeId}{x:m_}{lo hi:Option Operand}(ho:o.op=.slice t x lo hi none){e:TypeId}{i:TypeInfo}(ht:P.underlying t=some (.slice e))(BR:P.info? e=some i)
  {k off n cc l h:Nat} (hl:lo=none->l=0) (hh:hi=none->h=n) (NR:l<=h) (ZE:h<=n) (hz:l<h\/l=0) :
  iY P B o (.slice (some ⟨k,off,some 7⟩) n cc::(bound lo l++bound hi h)) [] (.slice (some ⟨k,off+l*i.size,some 7⟩) (h-l) (cc+l)) []:=by
 intro ι c ρ w aW hm hn;rw[ho]at aW;have hb:∀(x:Option Operand) (q:Nat),bY (aM ι) (bound x q) ((x.toArray).toList.map ρ)->∀ y,x=some y->ρ y=.int .i64 q:=by
  intro x q h y hy;subst hy;obtain⟨u,hu,hc⟩:=oh h;have hu:ρ y=u:=by simpa using hu
  rw[hu];exact hc.fH rfl
 have zU:(Op.operands (.slice t x lo hi none)).toList.map ρ=ρ x::(lo.toArray.toList.map ρ++hi.toArray.toList.map ρ):=by simp[Op.operands]
 rw[zU]at aW;cases aW with
 |cons hc sZ=>
 have hlen:(bound lo l).length=(lo.toArray.toList.map ρ).length:=by cases lo<;>rfl
 have h1:bY (aM ι) (bound lo l) (lo.toArray.toList.map ρ):=by have:=sZ.take (bound lo l).length;rwa[S5,hlen,S5]at this
 have h2:bY (aM ι) (bound hi h) (hi.toArray.toList.map ρ):=by have:=sZ.drop (bound lo l).length;rwa[List.drop_left,hlen,List.drop_left]at this
 have eT:∀ y,lo=some y->ρ y=.int .i64 l:=hb lo l h1;have iZ:∀ y,hi=some y->ρ y=.int .i64 h:=hb hi h h2;have ur:∀(y:Nat) (q:Nat) (code:BoundsCode),q<=y->(Instr.sliceBound (.int .i64 q) y code).run P w=.ok q w:=by intro y q code hq;have:(0:Int)<=q/\(q:Int)<=y:=⟨by omega,by omega⟩;simp[Instr.sliceBound,asIntOf,this]
 have S6:∀ cap,n<=cap->(Instr.sliceBounds true n cap (lo.map ρ) (hi.map ρ) none).run P w=.ok (l,h,cap) w:=by
  intro cap kf;cases lo with
  |none=>
   have:=hl rfl;subst this;cases hi with
   |none=>have:=hh rfl;subst this;simp[Instr.sliceBounds]
   |some y=>simp[Instr.sliceBounds,iZ y rfl,ur cap h _ o_]
  |some x=>
   cases hi with
   |none=>have:=hh rfl;subst this;simp[Instr.sliceBounds,eT x rfl,ur h l _ NR]
   |some y=>simp[Instr.sliceBounds,iZ y rfl,eT x rfl,ur cap h _ o_,ur h l _ NR]
 rcases hc.iM rfl with ⟨hb,k9,qN,zX,he⟩|⟨b,oo,cap,c',hb,lF,nK,he⟩
 ·dsimp only at zX;have hh0:h=0:=by omega
  have uu:l=0:=by omega
  subst k9;subst qN;subst zX;subst hh0;subst uu;refine⟨ι,.slice none 0 0,w,Map.le.refl _,by simpa using aM.slcN hb,hm,.inl ?_⟩;simp only[execOp,ho];simp[Instr.sliceAt,jX ht,Instr.slice,he,S6 0 (bF _),sizeOf,typeInfo,BR]
 ·refine⟨ι,.slice (some ⟨b,oo+(off+l*i.size),none⟩) (h-l) (c'-l),w,Map.le.refl _,.slc hb o_ o_,hm,.inl ?_⟩;simp only[execOp,ho];by_cases iN:c'=l
  ·have uu:l=0:=by omega
   simp[Instr.sliceAt,jX ht,Instr.slice,he,S6 c' lF,sizeOf,typeInfo,BR,uu,zW,vz]
  ·simp[Instr.sliceAt,jX ht,Instr.slice,he,S6 c' lF,sizeOf,typeInfo,BR,iN,zW,vz]
theorem ZF{t:TypeId}{x y:m_}(ho:o.op=.makeSlice t x y){e:TypeId}{i:TypeInfo}{z:i_}(ht:P.underlying t=some (.slice e))(hi:P.info? e=some i)(hz:i.zero=some z)
  {kl kc:IntKind} {l cp:Nat} (hlc:l<=cp) (Dr:i.bytes*cp<=281474976710656) (h63:cp<=maxLen) {cells:al} (jI:(madeCells z.cells (cp*i.size)).toList.take (l*i.size)=cells)
  (hlen:cells.length=l*i.size) (cV:∀ v∈cells,flat v=true) (k:Nat) :
  iY P B o [.int kl l,.int kc cp] [(k,none)] (.slice (some ⟨k,0,some 7⟩) l 0) [(k,.row cells e i.size)]:=by
 intro ι c ρ w aW hm hn;have hk:c k=none:=hn _ (aR ..);rw[ho]at aW;obtain⟨u,u2,hu,hc,hx⟩:=jH aW;have dO:ρ x=u:=by simp[Op.operands]at hu;exact hu.1
 have eM:ρ y=u2:=by simp[Op.operands]at hu;exact hu.2
 have hc:=hc.fH rfl;have hx:=hx.fH rfl;have hle:=hZ (l:=.at w.heap.size 0 cp) (hm.dD k hk);have hr:=run_make (P:=P) w t e i z ht hi hz kl kc l cp o_ o_ (by
  have h:((i.bytes*cp:Nat):Int)<=281474976710656:=by omega
  rwa[oP]at h) (by have h:=h63;simp[maxLen]at h;omega)
 simp only[Int.toNat_natCast]at hr;refine⟨dT ι k (.at w.heap.size 0 cp),.slice (some ⟨w.heap.size,0,none⟩) l cp,w.alloc (.cells (madeCells z.cells (cp*i.size)) e),hle,.slc (o:=0) (off:=0) (gu _ _ _) hlc o_,?_,.inl ?_⟩
 ·refine hm.new (w':=w.alloc (.cells (madeCells z.cells (cp*i.size)) e)) (x:=.row cells e i.size) ⟨⟨rfl,bF _⟩,rfl,rfl,by simp,λj hj=>S0 _ _ _ hj⟩ hk
   (.inr ⟨w.heap.size,cp,_,rfl,by show(w.heap.push _)[w.heap.size]?=_;simp;rfl,h63,size_madeCells _ _,?_⟩) (λb o cap _ e=>by injection e with e1 e2;subst e1;simp) n_ rfl
  rw[hlen,jI];exact lE cV
 ·simp only[execOp,ho,dO,eM,hc,hx];simp[hr]
def Ds(B:aa)(sv:i_)(m:Nat)(news:al)(need:List (Nat×Option Obj)):Prop:=
 ∀(ι:Map) (c:Nat->Option Obj) (w:h_) (u:i_),aO B ι c w->(∀ p∈need,c p.1=p.2)->aM ι sv u->
  (m=0/\news=[]/\u=.slice none 0 0)\/∃ ad c' mZ,u=.slice (some ad) m c'/\bY (aM ι) news mZ/\∀ j v,mZ[j]?=some v->w.cell? (ad.add j)=some v
theorem NS{x:Obj}(hx:x.reads=true)(h0:m=0->len=0):Ds B (.slice (some ⟨k,off,some 7⟩) m cc) m ((x.cells.drop off).take len) [(k,some x)]:=by
 intro ι c w u hm hn hc;have hk:c k=some x:=hn _ (aR ..);rcases hc.iM rfl with ⟨hb,k9,qN,zX,he⟩|⟨b,oo,cap,c',hb,lF,nK,he⟩
 ·refine .inl ⟨k9,?_,he⟩;rw[h0 k9];rfl
 ·dsimp only at hb he;obtain⟨l,h1,h2⟩:=hm.born k x hk;rw[hb]at h1;injection h1 with h1;subst h1;obtain⟨ct,gv,lW⟩:=h2.at hx;refine .inr ⟨⟨b,oo+off,none⟩,c',_,he,(gv.drop off).take len,λj v hj=>?_⟩;rw[vx]at hj;split at hj
  ·rw[Ft]at hj;rw[zW,vz];exact lW _ _ hj
  ·cases hj
theorem HX(hm:aO B ι c w)(hk:c k=none){cells:al}{rest:p_}(hc:bY (aM ι) cells cells')
  (kf:cap<=maxLen) (bL:cells'.length+rest.size=cap*size) :
  aO B (dT ι k (.at w.heap.size 0 cap)) (bA c k (.row cells ty size)) (w.alloc (.cells (cells'.toArray++rest) ty)):=by
 have hle:=hZ (l:=.at w.heap.size 0 cap) (hm.dD k hk)
 refine hm.new (w':=w.alloc (.cells (cells'.toArray++rest) ty)) (x:=.row cells ty size) ⟨⟨rfl,bF _⟩,rfl,rfl,by simp,λj hj=>S0 _ _ _ hj⟩ hk
  (.inr ⟨w.heap.size,cap,cells'.toArray++rest,rfl,by show(w.heap.push _)[w.heap.size]?=_;simp,kf,by simpa using bL,?_⟩) (λb o cap _ e=>by injection e with e1 e2;subst e1;simp) n_ rfl
 rw[hc.length,Array.toList_append];show bY _ _ (List.take cells'.length (cells'++rest.toList));rw[S5];exact oN hle hc
theorem aIF{l l':al}(h:bY (aM ι) l l')(h1:∀ v∈l,v.oneCell'=true):∀ v∈l',v.oneCell'=true:=by intro v hv;obtain⟨j,hj⟩:=ZA hv;obtain⟨u,hu,hc⟩:=h.get' j v hj;rw[hc.Zp];exact h1 u (cM hu)
theorem aIG{s x:m_}{t:TypeId}(ho:o.op=.call { callee:=.builtin .append,args:=#[s,x],argTypes:=#[t,t]})
  {e:TypeId} {i:TypeInfo} {z:i_} (ht:P.underlying t=some (.slice e)) (hi:P.info? e=some i) (hz:i.zero=some z) (NT:z.cells.size=i.size) (bL:0<i.size)
  {sv:i_} {m:Nat} {news:al} {need:List (Nat×Option Obj)} (vB:Ds B sv m news need) (hl:news.length=m*i.size)
  (h63:m<=maxLen) (Dr:m*i.bytes<=140737488355328) (k:Nat) :
  iY P B o [.slice none 0 0,sv] ((k,none)::need) (.slice (some ⟨k,0,some 7⟩) m 0) [(k,.row news e i.size)]:=by
 intro ι c ρ w aW hm hn;have hk:c k=none:=hn _ (aR ..);rw[ho]at aW;obtain⟨u,u2,hu,hc,hx⟩:=jH aW;have dO:ρ s=u:=by simp[Op.operands,Call.operands]at hu;exact hu.1
 have eM:ρ x=u2:=by simp[Op.operands,Call.operands]at hu;exact hu.2
 have hc:=hc.fH rfl;have Kl:m=0->(Builtin.append_ #[t,t] o.type #[u,u2]).run P w=.ok (.slice none 0 0) w->
   ∃ aB v' w',Map.le ι aB/\aM aB (.slice (some ⟨k,0,some 7⟩) m 0) v'/\aO B aB (mH c [(k,.row news e i.size)]) w'/\((execOp ρ o).run P w=.ok (.value v') w'\/(v'=undef/\(execOp ρ o).run P w=.ok .skip w')):=by
  intro kg hr;subst kg;have k9:news=[]:=lG (by simpa using hl);subst k9;refine⟨dT ι k .nil,.slice none 0 0,w,hZ (hm.dD k hk),.slcN (gu _ _ _),hm.add hk (.inl ⟨rfl,rfl⟩) n_ n_ n_,.inl ?_⟩;simp[execOp,ho,resolve,invoke,builtin,dO,eM,hr]
 rcases vB ι c w u2 hm (λp hp=>hn p (bK _ hp)) hx with ⟨h1,h2,h3⟩|⟨ad,c',mZ,h1,h2,h3⟩
 ·refine Kl h1 ?_;rw[hc,h3];simp[Builtin.append_,jX ht,sizeOf,typeInfo,hi,Builtin.lenOf,Builtin.firstCells]
 ·have cD:mZ.length=m*i.size:=by rw[<-h2.length];exact hl
  by_cases kg:m=0
  ·refine Kl kg ?_;rw[hc,h1,kg];simp[Builtin.append_,jX ht,sizeOf,typeInfo,hi,Builtin.lenOf,Builtin.firstCells,loadCells,loadCellsFrom]
  ·have hr:=run_append_nil (P:=P) w t o.type e i z ht hi hz ad m c' mZ cD h3 o_ (by have h:=h63;simp[maxLen]at h;omega) o_;have gw:=grownCap_ge w m 0 e;have dV:=ZG w m 0 e h63;have bJ:aO B ι c w.drew:=hm.call ⟨⟨rfl,zY _⟩,rfl,rfl,bF _,λ_ _=>rfl⟩;have lX:=HX (ty:=e) (size:=i.size) (cap:=grownCap w m 0 e) (rest:=Builtin.zeroCells z.cells (grownCap w m 0 e-m)) bJ hk h2 dV (by
    have h:=NU z.cells (grownCap w m 0 e-m);rw[cD,h,NT,<-fZ]
    congr 1;omega)
   refine⟨_,_,_,hZ (hm.dD k hk),.slc (o:=0) (off:=0) (gu _ _ _) gw o_,lX,.inl ?_⟩;rw[<-hc,<-h1]at hr;simp[execOp,ho,resolve,invoke,builtin,dO,eM,hr]
theorem aIH{s x:m_}{t:TypeId}(ho:o.op=.call { callee:=.builtin .append,args:=#[s,x],argTypes:=#[t,t]})
  {e:TypeId} {i:TypeInfo} {z:i_} (ht:P.underlying t=some (.slice e)) (hi:P.info? e=some i) (hz:i.zero=some z) (NT:z.cells.size=i.size) (bL:0<i.size)
  {sv:i_} {m:Nat} {news:al} {need:List (Nat×Option Obj)} (vB:Ds B sv m news need) (hl:news.length=m*i.size) (S7:∀ v∈news,v.oneCell'=true)
  {j n:Nat} {cells:al} (pq:n*i.size<=cells.length) (h63:n+m<=maxLen) (Dr:(n+m)*i.bytes<=140737488355328) (k:Nat) :
  iY P B o [.slice (some ⟨j,0,some 7⟩) n 0,sv] ((k,none)::(j,some (.row cells e i.size))::need) (.slice (some ⟨k,0,some 7⟩) (n+m) 0)
   [(k,.row (cells.take (n*i.size)++news) e i.size),(j,.dead)]:=by
 intro ι c ρ w aW hm hn;have hk:c k=none:=hn _ (aR ..);have hj:c j=some (.row cells e i.size):=hn _ (bK _ (aR ..));have hkj:j≠k:=λe=>by rw[e,hk]at hj;cases hj
 have gV:bA c j .dead k=none:=by unfold bA;rw[au (kV hkj)];exact hk
 rw[ho]at aW;obtain⟨u,u2,hu,hc,hx⟩:=jH aW;have dO:ρ s=u:=by simp[Op.operands,Call.operands]at hu;exact hu.1
 have eM:ρ x=u2:=by simp[Op.operands,Call.operands]at hu;exact hu.2
 have ex:∀ v' w',(Builtin.append_ #[t,t] o.type #[u,u2]).run P w=.ok v' w'->(execOp ρ o).run P w=.ok (.value v') w':=by intro v' w' hr;simp[execOp,ho,resolve,invoke,builtin,dO,eM,hr]
 have HY:aO B ι (bA c j .dead) w:=hm.kill j (by rw[hj];exact n_);rcases hc.iM rfl with ⟨hb,k9,_,_,he⟩|⟨b,oo,cap,c',hb,lF,nK,he⟩
 ·-- nothing is there yet
  subst k9;subst he;have S8:=vB ι c w u2 hm (λp hp=>hn p (bK _ (bK _ hp))) hx;have ux:cells.take (0*i.size)=[]:=by simp
  rw[ux,jJ,kT];simp only[kT]at h63 Dr;have Kl:m=0->(Builtin.append_ #[t,t] o.type #[.slice none 0 0,u2]).run P w=.ok (.slice none 0 0) w->
    ∃ aB v' w',Map.le ι aB/\aM aB (.slice (some ⟨k,0,some 7⟩) m 0) v'/\aO B aB (mH c [(k,.row news e i.size),(j,.dead)]) w'/\((execOp ρ o).run P w=.ok (.value v') w'\/(v'=undef/\(execOp ρ o).run P w=.ok .skip w')):=by
   intro kg hr;subst kg;have k9:news=[]:=lG (by simpa using hl);subst k9;exact⟨dT ι k .nil,.slice none 0 0,w,hZ (hm.dD k hk),.slcN (gu _ _ _),HY.add gV (.inl ⟨rfl,rfl⟩) n_ n_ n_,.inl (ex _ _ hr)⟩
  rcases S8 with ⟨h1,h2,h3⟩|⟨ad,c',mZ,h1,h2,h3⟩
  ·refine Kl h1 ?_;rw[h3];simp[Builtin.append_,jX ht,sizeOf,typeInfo,hi,Builtin.lenOf,Builtin.firstCells]
  ·have cD:mZ.length=m*i.size:=by rw[<-h2.length];exact hl
   by_cases kg:m=0
   ·refine Kl kg ?_;rw[h1,kg];simp[Builtin.append_,jX ht,sizeOf,typeInfo,hi,Builtin.lenOf,Builtin.firstCells,loadCells,loadCellsFrom]
   ·have hr:=run_append_nil (P:=P) w t o.type e i z ht hi hz ad m c' mZ cD h3 o_ (by have h:=h63;simp[maxLen]at h;omega) o_;have gw:=grownCap_ge w m 0 e;have dV:=ZG w m 0 e h63;have bJ:aO B ι (bA c j .dead) w.drew:=HY.call ⟨⟨rfl,zY _⟩,rfl,rfl,bF _,λ_ _=>rfl⟩;have lX:=HX (ty:=e) (size:=i.size) (cap:=grownCap w m 0 e) (rest:=Builtin.zeroCells z.cells (grownCap w m 0 e-m)) bJ gV h2 dV (by
     have h:=NU z.cells (grownCap w m 0 e-m);rw[cD,h,NT,<-fZ]
     congr 1;omega)
    refine⟨_,_,_,hZ (hm.dD k hk),.slc (o:=0) (off:=0) (gu _ _ _) gw o_,lX,.inl (ex _ _ ?_)⟩;rw[h1,hr];rfl
 ·-- a row
  dsimp only at hb he;subst he;have lf:c'=cap:=by omega
  subst lf;obtain⟨l,q1,q2⟩:=hm.born j _ hj;rw[hb]at q1;injection q1 with q1;subst q1;rcases q2 with q2|⟨b',aT,cur,e1,mY,dV,gv,jI⟩
  ·cases q2.1
  injection e1 with e1 e2 e3;subst e1;subst e2;subst e3;have iN:cells.length<=cur.size:=by have:=jI.length;rw[jV,zT]at this;change cells.length=min cells.length cur.size at this;omega
  have NV:bY (aM ι) (cells.take (n*i.size)) (cur.toList.take (n*i.size)):=by have:=jI.take (n*i.size);rwa[NW,oQ pq]at this
  have holds:∀(jj:Nat) (v:i_),(cur.toList.take (n*i.size))[jj]?=some v->w.cell? ((⟨b,0,none⟩:Addr).add jj)=some v:=by
   intro jj v hv;rw[vx]at hv;split at hv
   ·have rP:cur[jj]?=some v:=by simpa using hv
    simp[World.cell?,zW,mY,rP]
   ·cases hv
  have eT:(cur.toList.take (n*i.size)).length=n*i.size:=by rw[jV,zT];omega
  -- the source
  have S8:∃ ad c' mZ,u2=.slice ad m c'/\bY (aM ι) news mZ/\(ad=none->m=0/\c'=0)/\∀ a,ad=some a->∀ j v,mZ[j]?=some v->w.cell? (a.add j)=some v:=by
   rcases vB ι c w u2 hm (λp hp=>hn p (bK _ (bK _ hp))) hx with ⟨h1,h2,h3⟩|⟨ad,c',mZ,h1,h2,h3⟩
   ·subst h1;subst h2;exact⟨none,0,[],h3,.nil,λ_=>⟨rfl,rfl⟩,λa e=>by cases e⟩
   ·exact⟨some ad,c',mZ,h1,h2,λe=>(by cases e),λa e=>by injection e with e;subst e;exact h3⟩
  obtain⟨ad,c2,mZ,S9,Km,NX,lW⟩:=S8;have cD:mZ.length=m*i.size:=by rw[<-Km.length];exact hl
  have ee:=hm.own j _ b 0 c' hj rfl hb
  -- where the block is kept
  have jU:∀ w' (gE:p_),uk w w'->w'.tape=w.tape->w'.output=w.output->w.heap.size<=w'.heap.size->(∀ q,q≠b->w'.heap[q]?=w.heap[q]?)->w'.heap[b]?=some (.cells gE e (0,0))->
    gE.size=c'*i.size->gE.toList.take (n*i.size+m*i.size)=cur.toList.take (n*i.size)++mZ->n+m<=c'->(Builtin.append_ #[t,t] o.type #[.slice (some ⟨b,0,none⟩) n c',u2]).run P w=.ok (.slice (some ⟨b,0,none⟩) (n+m) c') w'->
    ∃ aB v' w',Map.le ι aB/\aM aB (.slice (some ⟨k,0,some 7⟩) (n+m) 0) v'/\aO B aB (mH c [(k,.row (cells.take (n*i.size)++news) e i.size),(j,.dead)]) w'/\((execOp ρ o).run P w=.ok (.value v') w'\/(v'=undef/\(execOp ρ o).run P w=.ok .skip w')):=by
   intro w' gE p1 p2 p3 p4 p5 p6 p7 p8 p9 hr;have hle:=hZ (l:=.at b 0 c') (hm.dD k hk);have c8:aO B ι (bA c j .dead) w':=hm.write hj rfl hb p1 p2 p3 p4 (λq _ hq=>p5 q hq) trivial n_ rfl;refine⟨dT ι k (.at b 0 c'),_,w',hle,.slc (o:=0) (off:=0) (gu _ _ _) p9 o_,c8.add gV (.inr ⟨b,c',gE,rfl,p6,dV,p7,?_⟩) (λb1 o1 mG _ e1=>?_) n_ n_,.inl (ex _ _ hr)⟩
   ·have e1:(cells.take (n*i.size)++news).length=n*i.size+m*i.size:=by rw[lH,jV,hl];omega
    rw[e1,p8];exact(oN hle NV).append (oN hle Km)
   ·injection e1 with e1 e2;subst e1;refine⟨cH ee.1 p4,ee.2,λq y o' aT hq hy BS=>?_,λq F v hq BS=>?_,λq y o' aT hq hy BS=>?_⟩
    ·unfold bA at hq;by_cases xN:q=j
     ·rw[aA xN]at hq;injection hq with hq;subst hq;cases hy
     ·rw[au xN]at hq;exact xN (hm.inj q j y _ b o' aT 0 c' hq hy hj rfl BS hb)
    ·unfold bA at hq;by_cases xN:q=j
     ·rw[aA xN]at hq;cases hq
     ·rw[au xN]at hq;exact λhF=>hm.apart j q _ F b 0 c' v hj rfl hb hq BS (hm.Dq hq BS p4 (λk2 fX iX=>p5 k2 λe=>hm.apart j q _ F b 0 c' v hj rfl hb hq BS (e▸iX)) hF)
    ·unfold bA at hq;by_cases xN:q=j
     ·rw[aA xN]at hq;injection hq with hq;subst hq;cases hy
     ·rw[au xN]at hq;exact(hm.seen q y b o' aT hq hy BS).2 j _ 0 c' hj rfl hb
  by_cases Kn:n+m<=c'
  ·cases ad with
   |none=>
    obtain⟨kg,qN⟩:=NX rfl;subst kg;subst qN;have k9:mZ=[]:=lG (by simpa using cD);subst k9;refine jU w cur (.refl w) rfl rfl (bF _) (λ_ _=>rfl) mY gv s_ Kn ?_;rw[S9];have hr:=run_append_owned_none (P:=P) (w:=w) 0 t o.type e i i.size ht hi (.slice (some ⟨b,0,none⟩) n c') n (cur.toList.take (n*i.size)) ⟨eT,.inr ⟨b,c',cur,rfl,lY _,mY,by omega,dV,gv,rfl⟩⟩;simpa using hr
   |some a=>
    have hr:=run_append_room (P:=P) w t o.type e i ht hi b n c' cur mY a m c2 mZ cD (lW a rfl) (aIF Km S7) Kn (by rw[cD,gv,<-fZ];exact fe _ Kn);refine jU (w.setRow b (cur.toList.take (n*i.size)++mZ++cur.toList.drop (n*i.size+mZ.length)).toArray) _ ⟨rfl,bF _⟩ rfl rfl s_ (λq hq=>setRow_other w b q _ hq) (setRow_heap w b cur _ e _ mY) ?_ ?_ Kn (by rw[S9];exact hr)
    ·have:=fe i.size Kn;rw[fZ]at this;simp only[NY,lH,eT,wI,zT,cD];omega
    ·have e1:(cur.toList.take (n*i.size)++mZ).length=n*i.size+m*i.size:=by rw[lH,eT,cD]
     rw[<-e1];exact S5
  ·cases ad with
   |none=>
    obtain⟨kg,_⟩:=NX rfl;omega
   |some a=>
    have hr:=run_append_grow (P:=P) w t o.type e i z ht hi hz ⟨b,0,none⟩ n c' _ eT holds a m c2 mZ cD (lW a rfl) o_ (by have h:=h63;simp[maxLen]at h;omega) (growslice_fits o_ Dr);have gw:=grownCap_ge w (n+m) c' e;have aII:=ZG w (n+m) c' e h63;have bJ:aO B ι (bA c j .dead) w.drew:=HY.call ⟨⟨rfl,zY _⟩,rfl,rfl,bF _,λ_ _=>rfl⟩;have lX:=HX (ty:=e) (size:=i.size) (cap:=grownCap w (n+m) c' e) (rest:=Builtin.zeroCells z.cells (grownCap w (n+m) c' e-(n+m))) bJ gV (NV.append Km) aII (by
     have h:=NU z.cells (grownCap w (n+m) c' e-(n+m));rw[lH,eT,cD,h,NT,<-fZ,<-fZ]
     congr 1;omega)
    refine⟨_,_,_,hZ (hm.dD k hk),.slc (o:=0) (off:=0) (gu _ _ _) gw o_,lX,.inl (ex _ _ ?_)⟩;rw[S9,hr];simp
theorem ZH{src dst e:TypeId}{x:m_}(ho:o.op=.convert src dst x)(hs:P.underlying src=some (.slice e))(he:P.underlying e=some (.int .u8))(hd:P.underlying dst=some .string)
  {k off n cc:Nat} {y:Obj} {ns:List Int} (hy:y.reads=true) (Fv:(y.cells.drop off).take n=ns.map (Value.int .u8)) (hlen:ns.length=n) :
  iY P B o [.slice (some ⟨k,off,some 7⟩) n cc] [(k,some y)] (.string (ns.foldl (λr n=>r.push (UInt8.ofNat n.toNat)) ByteArray.empty)) []:=by
 intro ι c ρ w aW hm hn;rw[ho]at aW;obtain⟨u,hu,hc⟩:=oh aW;have hu:ρ x=u:=by simpa[Op.operands]using hu
 refine⟨ι,_,w,Map.le.refl _,.same rfl,hm,.inl ?_⟩;have kS:=λa l c=>run_convert_bytes_string (P:=P) w src dst e a l c hs he hd;rcases NS (B:=B) (k:=k) (off:=off) (m:=n) (cc:=cc) hy (len:=n) (λh=>h) ι c w u hm hn hc with ⟨h1,h2,h3⟩|⟨ad,c',mZ,h1,h2,h3⟩
 ·subst h1;have:ns=[]:=lG hlen;subst this;simp only[execOp,ho,hu,h3];simp[kS,Conv.bytesToString]
 ·rw[Fv]at h2;have h2:=oj h2 (λv hv=>by obtain⟨q,_,rfl⟩:=df.1 hv;rfl);subst h2;have aIJ:(loadCells ad n).run P w=.ok (ns.map (Value.int .u8)).toArray w:=by have:=run_loadCells_list (P:=P) (w:=w) ad (ns.map (Value.int .u8)) h3;simpa[hlen]using this
  simp only[execOp,ho,hu,h1];simp[kS,run_bytesToString w ad n c' ns aIJ]
end
def gN(look:Nat->Value):Operand->Value
 |.tmp t=>look t
 |.const v=>v
 |.global g=>.pointer (some ⟨g,0,none⟩)
 |.func f=>.func (.func f) #[] #[]
def NZ:Operand->Bool
 |.const v=>flat v
 |_=>true
structure fp(B:aa)(ι:Map)(look:Nat->Value)(N:Nat)(a:Act):Prop where
 defers:a.defers=B.ds
 size:a.tmps.size=N
 slot:∀ t,oe ι (look t) (a.tmps.getD t undef)
theorem fp.mono(hle:Map.le ι κ){a:Act}(h:fp B ι look N a):fp B κ look N a:=⟨h.defers,h.size,λt=>(h.slot t).mono hle⟩
theorem ZI{a:Act}(hf:fp B ι look N a){x:m_}(hx:NZ x=true)(hn:nJ (gN look x)=false):aM ι (gN look x) (a.eval x):=by
 cases x with
 |tmp t=>exact(hf.slot t).BM hn
 |const v=>exact .same hx
 |global g=>exact .same rfl
 |func f=>exact .same rfl
theorem Ta{B:aa}{ι:Map}{look:Nat->Value}{N:Nat}{a:Act}(hf:fp B ι look N a):∀(l:List Operand),(∀ x∈l,NZ x=true/\nJ (gN look x)=false)->bY (aM ι) (l.map (gN look)) (l.map a.eval)
 |[],_=>.nil
 |x::l,h=>(.cons (ZI hf (h x (aR ..)).1 (h x (aR ..)).2) (Ta hf l λy hy=>h y (bK _ hy)))
structure rQ where
 val:Value
 c9:aL
 need:List (Nat×Option Obj)
variable{es:Nat->rQ}
def N0(P:j_)(look:Nat->Value)(o:Oper):Option rQ:=
 if o.op.operands.toList.all (λx=>flat (gN look x))then(match NQ P (execOp (gN look) o)with
   |some (.value v)=>if flat v then some ⟨v,[],[]⟩else none
   |_=>none)else none
def ZJ(look:Nat->Value)(c:Call):Option (Nat×TypeId×Operand×Addr×Nat):=
 match c.callee,c.args.toList,c.argTypes.toList with
 |.builtin .len,[x],[t]=>match gN look x with
  |.slice (some ad) n cc=>if nI ad then some (n,t,x,ad,cc)else none
  |_=>none
 |_,_,_=>none
def rR(P:j_)(look:Nat->Value)(g:Nat->Option Obj)(next:Nat)(o:Oper):Option rQ:=
 match o.op with
 |.move x=>some ⟨gN look x,[],[]⟩
 |.assign x=>some ⟨gN look x,[],[]⟩
 |.pick c x y=>match gN look c with
  |.bool b=>some ⟨if b then gN look x else gN look y,[],[]⟩
  |_=>none
 |.alloc t=>match P.info? t with
  |some i=>match i.zero with
   |some z=>if flat z then some ⟨.pointer (some ⟨next,0,some 7⟩),[(next,.aI z.cells.toList t)],[(next,none)]⟩else none
   |none=>none
  |none=>none
 |.box t x=>some ⟨.pointer (some ⟨next,0,some 7⟩),[(next,.aI (gN look x).cells.toList t)],[(next,none)]⟩
 |.load t x=>match gN look x with
  |.pointer (some ad)=>if nI ad then(match g ad.block with
   |some y=>if y.reads then(match dU P t y.cells ad.off with|some v=>some ⟨v,[],[(ad.block,some y)]⟩|none=>none)else none
   |none=>none)else none
  |_=>none
 |.store t x y=>match gN look x with
  |.pointer (some ad)=>if nI ad then(match g ad.block with
   |some z=>if z.owns then(match fK P t z.cells ad.off (gN look y)with|some cs=>some ⟨undef,[(ad.block,z.NO cs)],[(ad.block,some z)]⟩|none=>none)else none
   |none=>none)else none
  |_=>none
 |.fieldAddr s x f=>match gN look x with
  |.pointer (some ad)=>if nI ad then(match P.underlying s with
   |some (.struct fs)=>(match fs[f]? with
    |some fd=>(match P.info? fd.type with
     |some i=>if Nat.ble 1 i.size then some ⟨.pointer (some ⟨ad.block,ad.off+fd.offset,some 7⟩),[],[]⟩else none
     |none=>none)
    |none=>none)
   |_=>none)else none
  |_=>none
 |.indexAddr t x ix=>match gN look x,gN look ix with
  |.pointer (some ad),.int _ n=>if nI ad then(match P.underlying t with
   |some (.array len e)=>(match P.info? e with
    |some i=>if 0<=n/\n<len then some ⟨.pointer (some ⟨ad.block,ad.off+n.toNat*i.size,some 7⟩),[],[]⟩else none
    |none=>none)
   |_=>none)else none
  |.slice (some ad) len _,.int _ n=>if nI ad then(match P.underlying t with
   |some (.slice e)=>(match P.info? e with
    |some i=>if 0<=n/\n<len then some ⟨.pointer (some ⟨ad.block,ad.off+n.toNat*i.size,some 7⟩),[],[]⟩else none
    |none=>none)
   |_=>none)else none
  |_,_=>none
 |.extract x i=>match gN look x with
  |.tuple vs=>(match vs[i]? with|some v=>some ⟨v,[],[]⟩|none=>none)
  |_=>none
 |.makeFunc f fi ca=>some ⟨.func f (((fi++ca).toList.map (gN look)).take fi.size).toArray (((fi++ca).toList.map (gN look)).drop fi.size).toArray,[],[]⟩
 |.call c=>match ZJ look c with
  |some (n,t,_)=>(match P.underlying t with|some (.slice _)=>some ⟨.int .i64 n,[],[]⟩|_=>none)
  |none=>N0 P look o
 |_=>N0 P look o
def BT(look:Nat->Value)(o:Oper):Bool:=o.op.operands.toList.all (λx=>NZ x&&!nJ (gN look x))&&(match o.op with|.select _ _=>false|_=>true)
def Dt(g:Nat->Option Obj)(next:Nat)(e:rQ):Prop:=(∀ p∈e.need,(∃ x,p.2=some x/\g p.1=some x)\/(p.2=none/\next<=p.1))/\∀ p∈e.c9,∃ q∈e.need,q.1=p.1
theorem Du{a:Addr}(h:nI a=true):a=⟨a.block,a.off,some 7⟩:=by obtain⟨b,o,s⟩:=a;have:=HT h;dsimp only at this;subst this;rfl
theorem ZK{g:Nat->Option Obj}{next:Nat}{e:rQ}(aC:BT look o=true)(h:rR P look g next o=some e):
  iY P B o (o.op.operands.toList.map (gN look)) e.need e.val e.c9/\Dt g next e:=by
 simp only[BT,dc,bC]at aC;obtain⟨zU,ZL⟩:=aC;have vC:Dt g next ⟨e.val,[],[]⟩:=⟨λp hp=>(by cases hp),λp hp=>(by cases hp)⟩;have ZM:N0 P look o=some e->iY P B o (o.op.operands.toList.map (gN look)) e.need e.val e.c9/\Dt g next e:=by
  intro h;unfold N0 at h;split at h
  ·rename_i cV;rw[bC]at cV;split at h
   ·rename_i v hp;split at h
    ·rename_i S4;injection h with h;subst h;refine⟨BQ (λv hv=>by obtain⟨x,hx,rfl⟩:=df.1 hv;exact cV x hx) S4 λρ fP w _=>?_,vC⟩;rw[execOp_congr (ρ:=ρ) (ρ':=gN look) o (λcs b e=>by rw[e]at ZL;cases ZL) (λx hx=>by obtain⟨j,hj⟩:=ZA (N1.2 hx);have:=cS (λl=>l[j]?) fP;simp only[wJ,hj,SX]at this;injection this)]
     exact S3 hp w
    ·cases h
   ·cases h
  ·cases h
 cases ck:o.op with
 |move x=>
  simp only[rR,ck]at h;injection h with h;subst h;exact⟨ZB (.inl ck),vC⟩
 |assign x=>
  simp only[rR,ck]at h;injection h with h;subst h;exact⟨ZB (.inr ck),vC⟩
 |pick c x y=>
  simp only[rR,ck]at h;split at h
  ·rename_i b hb;injection h with h;subst h;refine⟨?_,vC⟩;have:=aIv (P:=P) (B:=B) ck (b:=b) (v1:=gN look x) (v2:=gN look y);rw[<-hb]at this;exact this
  ·cases h
 |alloc t=>
  simp only[rR,ck]at h;split at h
  ·rename_i i hi;split at h
   ·rename_i z hz;split at h
    ·rename_i ZN;injection h with h;subst h;exact⟨aIw ck hi hz ZN next,λp hp=>.inr (by simp at hp;subst hp;exact⟨rfl,bF _⟩),λp hp=>⟨_,aR ..,by simp at hp;subst hp;rfl⟩⟩
    ·cases h
   ·cases h
  ·cases h
 |box t x=>
  simp only[rR,ck]at h;injection h with h;subst h;exact⟨aIx ck _ next,λp hp=>.inr (by simp at hp;subst hp;exact⟨rfl,bF _⟩),λp hp=>⟨_,aR ..,by simp at hp;subst hp;rfl⟩⟩
 |load t x=>
  simp only[rR,ck]at h;split at h
  ·rename_i ad hx;split at h
   ·rename_i ee;split at h
    ·rename_i y hy;split at h
     ·rename_i Fw;split at h
      ·rename_i v hv;injection h with h;subst h;refine⟨?_,λp hp=>.inl ⟨y,by simp at hp;subst hp;exact⟨rfl,hy⟩⟩,λp hp=>(by cases hp)⟩;have:=Zy (P:=P) (B:=B) ck (k:=ad.block) Fw hv;rw[<-Du ee,<-hx]at this;exact this
      ·cases h
     ·cases h
    ·cases h
   ·cases h
  ·cases h
 |store t x y=>
  simp only[rR,ck]at h;split at h
  ·rename_i ad hx;split at h
   ·rename_i ee;split at h
    ·rename_i z hz;split at h
     ·rename_i hzo;split at h
      ·rename_i cs gv;injection h with h;subst h;refine⟨?_,λp hp=>.inl ⟨z,by simp at hp;subst hp;exact⟨rfl,hz⟩⟩,λp hp=>⟨_,aR ..,by simp at hp;subst hp;rfl⟩⟩;have:=Zz (P:=P) (B:=B) ck (k:=ad.block) hzo gv;rw[<-Du ee,<-hx]at this;exact this
      ·cases h
     ·cases h
    ·cases h
   ·cases h
  ·cases h
 |fieldAddr s x f=>
  simp only[rR,ck]at h;split at h
  ·rename_i ad hx;split at h
   ·rename_i ee;split at h
    ·rename_i fs hs;split at h
     ·rename_i fd wH;split at h
      ·rename_i i hi;split at h
       ·rename_i bL;injection h with h;subst h;refine⟨?_,vC⟩;have:=aIy (P:=P) (B:=B) ck hs wH hi (sY bL) ad.block ad.off;rw[<-Du ee,<-hx]at this;exact this
       ·cases h
      ·cases h
     ·cases h
    ·cases h
   ·cases h
  ·cases h
 |indexAddr t x ix=>
  simp only[rR,ck]at h;split at h
  ·rename_i ad kd n hx BU;split at h
   ·rename_i ee;split at h
    ·rename_i len el ht;split at h
     ·rename_i i hi;split at h
      ·rename_i hr;injection h with h;subst h;refine⟨?_,vC⟩;have:=aIz (P:=P) (B:=B) ck ht hi (kd:=kd) hr.1 hr.2 ad.block ad.off;rw[<-Du ee,<-hx,<-BU]at this;exact this
      ·cases h
     ·cases h
    ·cases h
   ·cases h
  ·rename_i ad len cc kd n hx BU;split at h
   ·rename_i ee;split at h
    ·rename_i el ht;split at h
     ·rename_i i hi;split at h
      ·rename_i hr;injection h with h;subst h;refine⟨?_,vC⟩;have:=ZD (P:=P) (B:=B) ck ht hi (kd:=kd) (cc:=cc) hr.1 hr.2 ad.block ad.off;rw[<-Du ee,<-hx,<-BU]at this;exact this
      ·cases h
     ·cases h
    ·cases h
   ·cases h
  ·cases h
 |extract x i=>
  simp only[rR,ck]at h;split at h
  ·rename_i vs hx;split at h
   ·rename_i v hv;injection h with h;subst h;refine⟨?_,vC⟩;have:=aIA (P:=P) (B:=B) ck hv;rw[<-hx]at this;exact this
   ·cases h
  ·cases h
 |makeFunc f fi ca=>
  simp only[rR,ck]at h;injection h with h;subst h;exact⟨aIC ck,vC⟩
 |call c=>
  simp only[rR,ck]at h;split at h
  ·rename_i n t rest hl;obtain⟨x,ad,cc⟩:=rest;split at h
   ·rename_i el ht;injection h with h;subst h;refine⟨?_,vC⟩;unfold ZJ at hl;split at hl
    ·rename_i x' t' hc ha mI;split at hl
     ·rename_i ZO n' cr hx;split at hl
      ·rename_i ee;injection hl with hl;injection hl with h1 hl;injection hl with h2 hl;injection hl with h3 hl;injection hl with h4 h5;subst h1;subst h2;subst h3;subst h4;subst h5;have lf:c={ callee:=.builtin .len,args:=#[x'],argTypes:=#[t']}:=by
        obtain⟨c1,c2,c3⟩:=c;dsimp only at hc ha mI;subst hc
        congr 1
        ·exact wK.1 ha
        ·exact wK.1 mI
       rw[lf]at ck ⊢;have:=aID (P:=P) (B:=B) ck ht ZO.block ZO.off n' cr;rw[<-Du ee,<-hx]at this;exact this
      ·cases hl
     ·cases hl
    ·cases hl
   ·cases h
  ·rw[<-ck];exact ZM h
 |_=>rw[<-ck];refine ZM ?_;simp only[rR,ck]at h;exact h
abbrev aU:=List (Nat×Value)
variable{fr:aU}
def bM:aU->Nat->Value
 |[],_=>HV
 |(t,v)::l,s=>if Nat.beq t s then v else bM l s
def ak:aL->Nat->Option Obj
 |[],_=>none
 |(k,x)::l,j=>if Nat.beq k j then some x else ak l j
theorem lI(h:Nat.beq a b=true):a=b:=SP h
theorem om(h:a≠b):Nat.beq a b=false:=by
 cases hb:Nat.beq a b with
 |false=>rfl
 |true=>exact absurd (lI hb) h
theorem wL(c:Nat->Option Obj):∀(l:aL) (k:Nat),mH c l k=match ak l k with|some x=>some x|none=>c k
 |[],k=>rfl
 |(j,x)::l,k=>by
  show(if k=j then some x else mH c l k)=match (if Nat.beq j k then some x else ak l k)with|some x=>some x|none=>c k
  by_cases h:k=j
  ·subst h;simp
  ·rw[au h,om (kV h)];exact wL c l k
theorem iO:∀(l m:aL) (k:Nat),ak (l++m) k=match ak l k with|some x=>some x|none=>ak m k
 |[],m,k=>rfl
 |(j,x)::l,m,k=>by
  show(if Nat.beq j k then some x else ak (l++m) k)=match (if Nat.beq j k then some x else ak l k)with|some x=>some x|none=>ak m k
  by_cases h:Nat.beq j k=true
  ·simp only[aA h]
  ·simp only[au h];exact iO l m k
theorem kW:∀{l:aL} {k:Nat} {x:Obj},ak l k=some x->(k,x)∈l
 |(j,y)::l,k,x,h=>by
  unfold ak at h;split at h
  ·rename_i hb;injection h with h;rw[lI hb,h];exact aR ..
  ·exact bK _ (kW h)
def cZ(c:Nat->Option Obj)(M:aL):Prop:=∀ k x,ak M k=some x->c k=some x
def eG(c:Nat->Option Obj)(next:Nat):Prop:=∀ k,next<=k->c k=none
inductive Ex where
 |normal
 |exit (id:Nat)
 |ret
def Ex.BV:Ex->Exit
 |.normal=>.normal
 |.exit id=>.exit id
 |.ret=>.ret
def wl:Code->List Nat
 |.region _ ops _=>ops.toList.filterMap (·.dst)
 |.seq x y=>wl x++wl y
 |.cond _ x y=>wl x++wl y
 |.block _ b=>wl b
 |.loop b=>wl b
 |.scope b=>wl b
 |.rangeFunc _ ps x y=>ps.toList++(wl x++wl y)
 |_=>[]
def vD(c:Code)(t:Nat):Bool:=(wl c).any λd=>Nat.beq d t
structure nh where
 ex:Ex
 fr:aU
 M:aL
 next:Nat
variable{r1:nh}
def ah(P:j_)(B:aa)(N:Nat)(c:Code)(fr:aU)(M:aL)(next:Nat)(r:nh):Prop:=
 ∀(R:Option Nat) (ι:Map) (cc:Nat->Option Obj) (a:Act) (w:h_) (Q:Exit->Act->World->Prop),fp B ι (bM fr) N a->aO B ι cc w->cZ cc M->eG cc next->
  (∀ aB cr a' w',Map.le ι aB->fp B aB (bM r.fr) N a'->aO B aB cr w'->cZ cr r.M->eG cr r.next->(∀ k,k<next->ak M k=none->cr k=cc k)->(∀ t,vD c t=false->a'.tmps.getD t undef=a.tmps.getD t undef)->Q r.ex.BV a' w')->c.wpIn (FW R) 0 P Q a w
inductive aZ(P:j_)(B:aa)(N:Nat) where
 |step (key:Nat) (o:Oper) (e6:al) (need:List (Nat×Option Obj)) (val:i_) (c9:aL) (ok:cI P B o e6 need val c9)
 |call (key:Nat) (f:FuncId) (args:al) (res:i_) (ok:∀ w,B.G w->Calls P f args.toArray w λe w'=>e=.returned res/\Below w.heap.size w w')
 |rw(key:Nat) (v v':i_) (ok:v=v')
 |code (key:Nat) (c:Code) (fr:aU) (M:aL) (next:Nat) (r:nh) (ok:ah P B N c fr M next r)
inductive oR where
 |e6 (l:al)
 |obj (x:Option Obj)
 |op (o:Oper)
 |code (c:Code)
 |nat (n:Nat)
def callee(look:Nat->Value)(o:Oper):Option (FuncId×al):=
 match o.op with
 |.call c=>match c.callee with
  |.value x=>match gN look x with
   |.func (.func f) fi ca=>some (f,fi.toList++c.args.toList.map (gN look)++ca.toList)
   |_=>none
  |_=>none
 |_=>none
def gW(P:j_)(f:FuncId):Bool:=
 match P.funcs[f]? with
 | some fn => fn.body.isSome && !(fn.name == "runtime.NumGoroutine")
 |none=>false
def N2(o:Oper):Nat:=match o.dst with
 |some t=>t
 |none=>match o.op with
  |.store _ (.tmp t) _=>100000+t
  |_=>99999
abbrev bN(P:j_)(B:aa)(N:Nat):=List (aZ P B N)
abbrev wM:=List (oR×oR)
def ZP(next:Nat)(need:List (Nat×Option Obj)):Bool:=need.all λp=>match p.2 with|some _=>true|none=>Nat.ble next p.1
def ZQ(c9:aL)(need:List (Nat×Option Obj)):Bool:=c9.all λp=>need.any λq=>Nat.beq q.1 p.1
def HZ(look:Nat->Value)(g:Nat->Option Obj)(next:Nat)(o:Oper)(rs:bN P B N):Option (rQ×bN P B N×wM):=
 match rR P look g next o with
 |some e=>some (e,rs,[])
 |none=>none
def Tb(look:Nat->Value)(g:Nat->Option Obj)(next:Nat)(o:Oper)(rs:bN P B N):Option (rQ×bN P B N×wM):=
 if BT look o then
  match rs with
  |.step key o' e6 need val c9 _::xO=>
   if Nat.beq key (N2 o)then
    (if ZP next need&&ZQ c9 need then
     some (⟨val,c9,need⟩,xO,(.op o,.op o')::(.e6 (o.op.operands.toList.map (gN look)),.e6 e6)::need.filterMap λp=>match p.2 with|some x=>some (.obj (g p.1),.obj (some x))|none=>none)
    else none)
   else HZ look g next o rs
  |.call key f args res _::xO=>
   if Nat.beq key (N2 o)then
    (match callee look o with
    |some (f',args')=>if gW P f&&args.all flat&&flat res then some (⟨res,[],[]⟩,xO,[(.nat f',.nat f),(.e6 args',.e6 args)])else none
    |none=>none)
   else HZ look g next o rs
  |.rw key v v' _::xO=>
   if Nat.beq key (N2 o)then
    (match rR P look g next o with
    |some e=>some (⟨v',e.c9,e.need⟩,xO,[(.e6 [e.val],.e6 [v])])
    |none=>none)
   else HZ look g next o rs
  |_=>HZ look g next o rs
 else none
theorem N3(h:gW P f=true)(args:p_)(w:h_):(callFunc f args).run P w=.ok (.enter f args) w:=by
 unfold gW at h;split at h
 ·rename_i fn hf;simp only[dc,zZ]at h;obtain⟨c,hb⟩:=Option.isSome_iff_exists.1 h.1
  have h1 : fn.name ≠ "runtime.NumGoroutine" := by simpa using h.2
  simp[callFunc,hf,h1,hb]
 ·cases h
def s7(tr:wM):Prop:=∀ p∈tr,p.1=p.2
theorem Ko{R:Option Nat}{args:p_}{Rs:Ending->World->Prop}{n:Nat}:CallsIn (FW R) n P f args w Rs↔Calls P f args w Rs:=
 (callsIn_wide (n:=n):CallsIn Fence.wide n P f args w Rs↔Calls P f args w Rs)
theorem aIK(aC:BT look o=true)(hc:callee look o=some (f,args))(fq:gW P f=true)
  (dP:∀ v∈args,flat v=true) (BW:flat res=true) (h:∀ w,B.G w->Calls P f args.toArray w λe w'=>e=.returned res/\Below w.heap.size w w') :
  cI P B o (o.op.operands.toList.map (gN look)) [] res []:=by
 intro R ι c a w hv hm hn K Q hK;obtain⟨dst,op,ty,pos,after,guard⟩:=o;unfold callee at hc;split at hc
 ·rename_i cl ho;dsimp only at ho;subst ho;split at hc
  ·rename_i x hx;split at hc
   ·rename_i f' fi ca iD;injection hc with hc;injection hc with gY du;subst gY;obtain⟨cal,lZ,xP⟩:=cl;dsimp only at hx du;subst hx;have zU:(Op.operands (.call ⟨.value x,lZ,xP⟩)).toList=x::lZ.toList:=by simp[Op.operands,Call.operands]
    dsimp only at hv;rw[zU]at hv;cases hv with
    |cons hx sZ=>
    rw[iD]at hx;obtain⟨kE,dM,he,h1,h2⟩:=hx.BL;have bo:=(h1.append sZ).append h2;rw[du]at bo;have e2:=oj bo dP;have e3:execOp a.eval ⟨dst,.call ⟨.value x,lZ,xP⟩,ty,pos,after,guard⟩=callFunc f' (kE++lZ.map a.eval++dM):=by have:execOp a.eval ⟨dst,.call ⟨.value x,lZ,xP⟩,ty,pos,after,guard⟩=(do let d <-Deferred.ofValue (a.eval x) (lZ.map a.eval);invoke d.target d.args):=rfl;rw[this,he];rfl
    have e4:(kE++lZ.map a.eval++dM:p_)=args.toArray:=by rw[<-e2];apply Fx;simp
    refine⟨λ_ _=>trivial,?_⟩;rw[NP _ _ _ n_,e3,e4,N3 fq,Oper.uponIn_enter];refine⟨λe=>(by cases e),Ko.2 ((h w hm.base).mono ?_)⟩
    rintro e w' ⟨rfl,hb⟩
    exact hK ι res w' (Map.le.refl _) (.same BW) (hm.call hb)
   ·cases hc
  ·cases hc
 ·cases hc
theorem Tc{g:Nat->Option Obj}{next:Nat}{rs xO:bN P B N}{e:rQ}{tr:wM}
  (h:Tb look g next o rs=some (e,xO,tr)) (hs:s7 tr):BT look o=true/\cI P B o (o.op.operands.toList.map (gN look)) e.need e.val e.c9/\Dt g next e:=by
 unfold Tb at h;split at h
 ·rename_i aC;refine⟨aC,?_⟩;have auto:∀{rs:bN P B N},HZ look g next o rs=some (e,xO,tr)->cI P B o (o.op.operands.toList.map (gN look)) e.need e.val e.c9/\Dt g next e:=by
   intro rs h;unfold HZ at h;split at h
   ·rename_i e' he;injection h with h;injection h with h1 h2;subst h1;obtain⟨q1,q2⟩:=ZK (B:=B) aC he;exact⟨q1.step,q2⟩
   ·cases h
  split at h
  ·rename_i key o' e6 need val c9 ok Fy;split at h
   ·split at h
    ·rename_i qM;injection h with h;injection h with h1 h;injection h with h2 h3;subst h1;subst h3;simp only[dc]at qM;have e1:oR.op o=.op o':=hs _ (aR ..);have e2:oR.e6 _=.e6 e6:=hs _ (bK _ (aR ..));injection e1 with e1;injection e2 with e2;subst e1;rw[e2];refine⟨ok,λp hp=>?_,λp hp=>?_⟩
     ·have gY:=qM.1;unfold ZP at gY;rw[bC]at gY;have jk:=gY p hp;cases Fz:p.2 with
      |none=>rw[Fz]at jk;exact .inr ⟨rfl,sY jk⟩
      |some x=>
       left;refine⟨x,rfl,?_⟩;have:oR.obj (g p.1)=.obj (some x):=hs _ (bK _ (bK _ (ZR.2 ⟨p,hp,by rw[Fz]⟩)));injection this
     ·have du:=qM.2;unfold ZQ at du;rw[bC]at du;have:=du p hp;rw[rS]at this;obtain⟨q,hq,hb⟩:=this;exact⟨q,hq,lI hb⟩
    ·cases h
   ·exact auto h
  ·rename_i key f args res ok Fy;split at h
   ·split at h
    ·rename_i f' args' hc;split at h
     ·rename_i qM;injection h with h;injection h with h1 h;injection h with h2 h3;subst h1;subst h3;simp only[dc,bC]at qM;have e1:oR.nat f'=.nat f:=hs _ (aR ..);have e2:oR.e6 args'=.e6 args:=hs _ (bK _ (aR ..));injection e1 with e1;injection e2 with e2;subst e1;subst e2;exact⟨aIK aC hc qM.1.1 qM.1.2 qM.2 ok,λp hp=>(by cases hp),λp hp=>(by cases hp)⟩
     ·cases h
    ·cases h
   ·exact auto h
  ·rename_i key v v' ok Fy;split at h
   ·split at h
    ·rename_i e' he;injection h with h;injection h with h1 h;injection h with h2 h3;subst h1;subst h3;have e1:oR.e6 [e'.val]=.e6 [v]:=hs _ (aR ..);injection e1 with e1;injection e1 with e1 _;obtain⟨q1,q2⟩:=ZK (B:=B) aC he;rw[e1,ok]at q1;exact⟨q1.step,q2⟩
    ·cases h
   ·exact auto h
  ·exact auto h
 ·cases h
def Kp(fr:aU)(d:Option Nat)(v:i_):aU:=match d with|some t=>(t,v)::fr|none=>fr
def N4(fr:aU)(ops:Array Oper)(j:Nat):Option Bool:=
 match (ops[j]?).bind (·.dst)with
 |some t=>match bM fr t with|.bool b=>some b|_=>none
 |none=>none
def Dv(fr:aU)(ops:Array Oper)(o:Oper):Bool:=
 match o.guard with
 |none=>true
 |some (j,want)=>match N4 fr ops j with|some b=>b==want|none=>false
def Dw(N:Nat)(fr:aU)(ops:Array Oper)(o:Oper):Bool:=
 (match o.guard with
 |none=>true
 |some (j,_)=>match (ops[j]?).bind (·.dst)with|some t=>flat (bM fr t)&&!nJ (bM fr t)&&Nat.blt t N|none=>true)&&
 (match o.dst with|some d=>Nat.blt d N|none=>true)
theorem Td(fr:aU)(d:Option Nat)(v:i_)(t:Nat):bM (Kp fr d v) t=if d=some t then v else bM fr t:=by
 cases d with
 |none=>rfl
 |some s=>
  show(if Nat.beq s t then v else bM fr t)=_;by_cases h:s=t
  ·subst h;simp
  ·rw[om h];simp[h]
theorem fp.put(hle:Map.le ι κ){ZS:Nat->Value}{a:Act}(h:fp B ι look N a){v:i_}(hv:oe κ v v')(d:Option Nat)(hd:∀ t,d=some t->t<N)
  (hl:∀ t,ZS t=if d=some t then v else look t):fp B κ ZS N (a.put d v'):=by
 refine⟨by cases d<;>exact h.defers,by cases d<;>simp[Act.put,h.size],λt=>?_⟩;rw[hl t];by_cases FA:d=some t
 ·rw[aA FA];subst FA;have:t<a.tmps.size:=by rw[h.size];exact hd t rfl
  have e:(a.put (some t) v').tmps.getD t undef=v':=by simp[Act.put,qO,this]
  rw[e];exact hv
 ·rw[au FA];have e:(a.put d v').tmps.getD t undef=a.tmps.getD t undef:=by
   cases d with
   |none=>rfl
   |some s=>
    have:s≠t:=λe=>FA (by rw[e]);simp[Act.put,qO,Te this]
  rw[e];exact(h.slot t).mono hle
theorem Tf(a:Act)(d:Option Nat)(v:i_){t:Nat}(h:d≠some t):(a.put d v).tmps.getD t undef=a.tmps.getD t undef:=by
 cases d with
 |none=>rfl
 |some s=>
  have:s≠t:=λe=>h (by rw[e]);simp[Act.put,qO,Te this]
theorem aIL{a:Act}(h:fp B ι look N a)(ops:Array Oper)(j:Nat)
  (hn:∀ t,(ops[j]?).bind (·.dst)=some t->look t=bM fr t/\flat (bM fr t)=true/\nJ (bM fr t)=false/\t<N):yielded ops a.tmps j=N4 fr ops j:=by
 unfold yielded N4;cases hd:(ops[j]?).bind (·.dst)with
 |none=>rfl
 |some t=>
  simp only[ZT];obtain⟨h1,cV,h2,h3⟩:=hn t hd;have ao:t<a.tmps.size:=by rw[h.size];exact h3
  have hs:=h.slot t;rw[h1]at hs;have hs:=(hs.BM h2).fH cV;rw[show a.tmps.getD t undef=a.tmps[t]by simp[qO,ao]]at hs;rw[z7 ao,hs];cases bM fr t<;>rfl
theorem ZU{a:Act}(h:fp B ι look N a)(ops:Array Oper)(o:Oper)(hg:Dw N fr ops o=true)
  (hl:∀ j b,o.guard=some (j,b)->∀ t,(ops[j]?).bind (·.dst)=some t->look t=bM fr t):Region.wanted o (yielded ops a.tmps)=Dv fr ops o:=by
 unfold Region.wanted Dv;unfold Dw at hg;simp only[dc]at hg;have hg:=hg.1;cases oS:o.guard with
 |none=>rfl
 |some gd=>
  obtain⟨j,want⟩:=gd;rw[oS]at hg;dsimp only at hg ⊢;rw[aIL h ops j λt ht=>by rw[ht]at hg;simp only[dc,zZ]at hg;exact⟨hl j want oS t ht,hg.1.1,hg.1.2,by simpa[BX]using hg.2⟩]
  cases N4 fr ops j with
  |none=>rfl
  |some b=>cases b<;>cases want<;>rfl
theorem ZV{ops:Array Oper}(hg:Dw N fr ops o=true):∀ t,o.dst=some t->t<N:=by intro t ht;unfold Dw at hg;simp only[dc]at hg;have:=hg.2;rw[ht]at this;simpa[BX]using this
def BZ(next:Nat)(c9:aL):Nat:=c9.foldl (λn p=>if Nat.ble n p.1 then p.1+1 else n) next
theorem H0:∀(c9:aL) (next:Nat),next<=BZ next c9
 |[],next=>bF _
 |p::l,next=>by
  show next<=BZ (if Nat.ble next p.1 then p.1+1 else next) l;refine dq ?_ (H0 l _);split
  ·rename_i h;have:=sY h;omega
  ·exact bF _
theorem ZW:∀(c9:aL) (next:Nat),∀ p∈c9,p.1<BZ next c9
 |q::l,next,p,hp=>by
  show p.1<BZ (if Nat.ble next q.1 then q.1+1 else next) l;rcases cE.1 hp with rfl|hp
  ·refine cH ?_ (H0 l _);split
   ·omega
   ·rename_i h;rcases fo p.1 next with h1|h1
    ·exact h1
    ·exact absurd (Tg h1) h
  ·exact ZW l _ p hp
theorem Th{cc:Nat->Option Obj}{next:Nat}{e:rQ}(hn:Dt (ak M) next e)(ha:cZ cc M)(hu:eG cc next):
  (∀ p∈e.need,cc p.1=p.2)/\cZ (mH cc e.c9) (e.c9++M)/\eG (mH cc e.c9) (BZ next e.c9)/\(∀ k,k<next->ak M k=none->ak (e.c9++M) k=none/\mH cc e.c9 k=cc k):=by
 refine⟨λp hp=>?_,λk x hk=>?_,λk hk=>?_,λk hk hM=>?_⟩
 ·rcases hn.1 p hp with ⟨x,h1,h2⟩|⟨h1,h2⟩
  ·rw[h1];exact ha _ _ h2
  ·rw[h1];exact hu _ h2
 ·rw[iO]at hk;rw[wL];cases h:ak e.c9 k with
  |some y=>rw[h]at hk;exact hk
  |none=>rw[h]at hk;exact ha k x hk
 ·rw[wL];cases h:ak e.c9 k with
  |some y=>have:=ZW e.c9 next _ (kW h);dsimp only at this;omega
  |none=>exact hu k (dq (H0 _ _) hk)
 ·have:ak e.c9 k=none:=by
   cases h:ak e.c9 k with
   |none=>rfl
   |some y=>
    exfalso;obtain⟨q,hq,xQ⟩:=hn.2 _ (kW h);dsimp only at xQ;rcases hn.1 q hq with ⟨x,h1,h2⟩|⟨h1,h2⟩
    ·rw[xQ,hM]at h2;cases h2
    ·omega
  exact⟨by rw[iO,this];exact hM,by rw[wL,this]⟩
structure rT(P:j_)(B:aa)(N:Nat) where
 fr:aU
 M:aL
 next:Nat
 rs:bN P B N
 tr:wM
 oq:List (List Nat×List Nat)
def keys(l:List (Nat×α)):List Nat:=l.map (·.1)
def rT.more(r:rT P B N)(tr:wM)(e:List Nat×List Nat):rT P B N:=⟨r.fr,r.M,r.next,r.rs,tr++r.tr,e::r.oq⟩
def z8{P:j_}{B:aa}{N:Nat}(ops:Array Oper):List Oper->aU->aL->Nat->bN P B N->Option (rT P B N)
 |[],fr,M,next,rs=>some ⟨fr,M,next,rs,[],[]⟩
 |o::l,fr,M,next,rs=>
  if Dw N fr ops o then
   if Dv fr ops o then
    match Tb (P:=P) (bM fr) (ak M) next o rs with
    |some (e,Fy,FB)=>match z8 ops l (Kp fr o.dst e.val) (e.c9++M) (BZ next e.c9) Fy with
     |some r=>some (r.more FB (keys e.need,keys e.c9))
     |none=>none
    |none=>none
   else match z8 ops l (Kp fr o.dst undef) M next rs with
    |some r=>some (r.more [] ([],[]))
    |none=>none
  else none
def xR(l:List Oper)(t:Nat):Bool:=l.any λo=>match o.dst with|some d=>Nat.beq d t|none=>false
theorem ZX{l:List Oper}{t:Nat}(h:xR (o::l) t=false):o.dst≠some t/\xR l t=false:=by unfold xR at h;rw[List.any_cons,N5]at h;refine⟨λe=>?_,h.2⟩;rw[e]at h;simp at h
def Ti(B:aa)(N:Nat)(cc:Nat->Option Obj)(M:aL)(next:Nat)(ι:Map)(a:Act)(wr:Nat->Bool)(r:rT P B N)(K:Act->World->Prop):Prop:=
 ∀ aB cr a' w',Map.le ι aB->fp B aB (bM r.fr) N a'->aO B aB cr w'->cZ cr r.M->eG cr r.next->(∀ k,k<next->ak M k=none->cr k=cc k)->
  (∀ t,wr t=false->a'.tmps.getD t undef=a.tmps.getD t undef)->K a' w'
theorem Tj{R:Option Nat}{P:j_}{B:aa}{N:Nat}{ops:Array Oper}{Q:Exit->Act->World->Prop}:∀(l:List Oper) {fr:aU} {M:aL} {next:Nat} {rs:bN P B N} {r:rT P B N} {ι:Map} {cc:Nat->Option Obj} {a:Act} {w:h_},
  z8 ops l fr M next rs=some r->s7 r.tr->fp B ι (bM fr) N a->aO B ι cc w->cZ cc M->eG cc next->
  Ti B N cc M next ι a (xR l) r (Q .normal)->wpListIn (FW R) 0 P ops Q l a w
 |[],fr,M,next,rs,r,ι,cc,a,w,h,_,hf,hm,ha,hu,hQ=>by injection h with h;subst h;exact hQ ι cc a w (Map.le.refl _) hf hm ha hu (λ_ _ _=>rfl) (λ_ _=>rfl)
 |o::l,fr,M,next,rs,r,ι,cc,a,w,h,hs,hf,hm,ha,hu,hQ=>by
  unfold z8 at h;unfold wpListIn;by_cases oS:Dw N fr ops o=true
  case neg=>rw[au oS]at h;cases h
  rw[aA oS]at h;have Dx:=ZV oS;rw[ZU hf ops o oS λ_ _ _ _ _=>rfl];split at h
  ·rename_i hw;rw[aA hw];split at h
   ·rename_i e Fy FB bW;split at h
    ·rename_i r2 vE;injection h with h;subst h;have uy:s7 FB:=λp hp=>hs p (fh.2 (.inl hp));have Kq:s7 r2.tr:=λp hp=>hs p (fh.2 (.inr hp));obtain⟨aC,uz,pr⟩:=Tc (B:=B) bW uy;simp only[BT,dc,bC,zZ]at aC;obtain⟨q1,q2,q3,q4⟩:=Th pr ha hu;refine(uz R ι cc a w (Ta hf _ λx hx=>aC.1 x hx) hm q1 _ _ λaB v' w' hle hv bJ=>?_);refine Tj l vE Kq (hf.put hle (.inr hv) o.dst Dx λt=>Td _ _ _ _) bJ q2 q3 λdQ qP a2 w2 lg iX dE gO eM fX oT=>?_;refine hQ dQ qP a2 w2 (hle.trans lg) iX dE gO eM (λk hk hM=>?_) λt ht=>?_
     ·obtain⟨q5,q6⟩:=q4 k hk hM;rw[fX k (cH hk (H0 _ _)) q5,q6]
     ·obtain⟨t1,t2⟩:=ZX ht;rw[oT t t2,Tf _ _ _ t1]
    ·cases h
   ·cases h
  ·rename_i hw;rw[au hw];split at h
   ·rename_i r2 vE;injection h with h;subst h;refine⟨λ_ _=>trivial,?_⟩;refine Tj l vE (λp hp=>hs p (fh.2 (.inr hp))) (hf.put (Map.le.refl _) (v:=undef) (v':=undef) (.inr (.same rfl)) o.dst Dx λt=>Td _ _ _ _) hm ha hu λdQ qP a2 w2 lg iX dE gO eM fX oT=>?_;refine hQ dQ qP a2 w2 lg iX dE gO eM fX λt ht=>?_;obtain⟨t1,t2⟩:=ZX ht;rw[oT t t2,Tf _ _ _ t1]
   ·cases h
theorem aIM{R:Option Nat}{ops:Array Oper}{Q:Exit->Act->World->Prop}(Inv:(Nat->Bool)->Act->World->Prop)
  (aIN:∀ i o,ops[i]?=some o->∀ e∈o.after,Region.binds .any e=true->e.on<i)
  (step:∀ L a w i o,Inv L a w->ops[i]?=some o->L i=false->(∀ e∈o.after,Region.binds .any e=true->L e.on=true)->wpOpIn (FW R) 0 P ops Q i (λa' w'=>Inv (λj=>L j||j==i) a' w') a w)
  (fin:∀ L a w,(∀ i,i<ops.size->L i=true)->Inv L a w->Q .normal a w)
  (aIO:∀ L L' a w,(∀ j,L j=L' j)->Inv L a w->Inv L' a w) :
  ∀(fuel:Nat) (listed:Array Bool) (a:Act) (w:h_),listed.size=ops.size->(listed.toList.countP (λb=>b=false))=fuel->Inv (λj=>listed.getD j false) a w->
   wpAnyIn (FW R) 0 P .any ops Q fuel listed a w:=by
 have aIP:∀ listed:Array Bool,listed.size=ops.size->Region.ready .any ops listed=[]->∀ i,i<ops.size->listed.getD i false=true:=by
  intro listed bL hr i;induction i using Nat.strongRecOn with
  |_ i ih=>
   intro hi;cases h:listed.getD i false with
   |true=>rfl
   |false=>
    exfalso;have:i∈Region.ready .any ops listed:=by
     rw[mem_ready];refine⟨?_,ops[i],z7 hi,λe he hb=>?_⟩
     ·have fQ:i<listed.size:=by omega
      simp[qO,fQ]at h ⊢;exact h
     ·have:=aIN i ops[i] (z7 hi) e he hb;exact ih e.on this o_
    rw[hr]at this;cases this
 intro fuel;induction fuel with
 |zero=>
  intro listed a w bL hc hI;have bo:∀ i,i<ops.size->listed.getD i false=true:=by
   intro i hi;have fQ:i<listed.size:=by omega
   have h0:=List.countP_eq_zero.1 hc listed[i] s_;simp[qO,fQ];simpa using h0
  refine⟨?_,fin _ a w bo hI⟩;cases hr:Region.ready .any ops listed with
  |nil=>rfl
  |cons i l=>
   have:i∈Region.ready .any ops listed:=by rw[hr];exact aR ..
   rw[mem_ready]at this;obtain⟨h1,o,ho,_⟩:=this;have hi:i<ops.size:=by
    rcases fo i ops.size with h|h
    ·exact h
    ·rw[ZY h]at ho;cases ho
   have h2:=bo i hi;have fQ:i<listed.size:=by omega
   simp[qO,fQ]at h1 h2;rw[h1]at h2;cases h2
 |succ fuel ih=>
  intro listed a w bL hc hI;refine⟨λhr=>fin _ a w (aIP listed bL hr) hI,λi hi=>?_⟩;rw[mem_ready]at hi;obtain⟨h1,o,ho,bo⟩:=hi;have hi:i<ops.size:=by
   rcases fo i ops.size with h|h
   ·exact h
   ·rw[ZY h]at ho;cases ho
  have fQ:i<listed.size:=by omega
  have po:listed.getD i false=false:=by simp[qO,fQ]at h1 ⊢;exact h1
  refine wpOpIn_mono (λa' w' h=>?_) (step _ a w i o hI ho po bo);refine ih (listed.setIfInBounds i true) a' w' (by simp[bL]) ?_ (aIO _ _ a' w' (λj=>?_) h)
  ·have ao:i<listed.toList.length:=by simpa using fQ
   have Kr:listed.toList[i]=false:=by simp[qO,fQ]at po;simpa using po
   rw[aIQ];have key:∀(l:List Bool) (i:Nat) (h:i<l.length),l[i]=false->(l.set i true).countP (λb=>b=false)+1=l.countP (λb=>b=false):=by
    intro l;induction l with
    |nil=>intro i h;simp at h
    |cons b l ih=>
     intro i h hb;cases i with
     |zero=>simp at hb;subst hb;simp
     |succ i=>
      simp at hb h;have:=ih i h hb;simp only[List.set_cons_succ,List.countP_cons];omega
   have:=key listed.toList i ao Kr;omega
  ·by_cases mJ:j=i
   ·subst mJ;simp[qO,fQ]
   ·have:(listed.setIfInBounds i true).getD j false=listed.getD j false:=by simp[qO,Te (kV mJ)]
    rw[this];simp[mJ]
def Ks(acc:l_)(o:Oper):Nat:=o.after.toList.foldl (λs e=>if Region.binds .any e then s||| (2^e.on||| acc.getD e.on 0)else s) 0
def Dy:List Oper->List Nat->List Nat
 |[],acc=>acc
 |o::l,acc=>Dy l (acc++[Ks acc o])
def Ku(o:Oper):List Nat:=o.op.operands.toList.filterMap λ| .tmp t=>some t|_=>none
theorem ZZ(acc:l_):∀(es:List Edge) (s j:Nat),(es.foldl (λs e=>if Region.binds .any e then s||| (2^e.on||| acc.getD e.on 0)else s) s).testBit j=true->
  s.testBit j=true\/∃ e∈es,Region.binds .any e=true/\(e.on=j\/(acc.getD e.on 0).testBit j=true)
 |[],s,j,h=>.inl h
 |e::es,s,j,h=>by
  rw[vF]at h;rcases ZZ acc es _ j h with h|⟨e',qf,h⟩
  ·by_cases hb:Region.binds .any e=true
   ·rw[aA hb,Z0,Z0,Nat.testBit_two_pow]at h;simp only[vG,uA]at h;rcases h with h|h|h
    ·exact .inl h
    ·exact .inr ⟨e,aR ..,hb,.inl h⟩
    ·exact .inr ⟨e,aR ..,hb,.inr h⟩
   ·rw[au hb]at h;exact .inl h
  ·exact .inr ⟨e',bK _ qf,h⟩
def Z1(ops:List Oper)(acc:l_):Prop:=
 ∀ k,k<acc.length->∀ j,(acc.getD k 0).testBit j=true->∃ o,ops[k]?=some o/\∃ e∈o.after,Region.binds .any e=true/\(e.on=j\/(acc.getD e.on 0).testBit j=true)
theorem Z2:∀(l pre:List Oper) (acc:l_),acc.length=pre.length->Z1 (pre++l) acc->
  (∀ i o,(pre++l)[i]?=some o->∀ e∈o.after,Region.binds .any e=true->e.on<i)->Z1 (pre++l) (Dy l acc)/\(Dy l acc).length=(pre++l).length
 |[],pre,acc,hl,hg,_=>⟨hg,by simp[Dy,hl]⟩
 |o::l,pre,acc,hl,hg,hd=>by
  have e:pre++o::l=(pre++[o])++l:=by simp
  rw[e]at hg hd ⊢;refine Z2 l (pre++[o]) (acc++[Ks acc o]) (by simp[hl]) ?_ hd;have de:∀ k,k<acc.length->(acc++[Ks acc o]).getD k 0=acc.getD k 0:=λk hk=>by rw[FC,FC,Kv hk]
  intro k hk j hj;rcases fo k acc.length with ao|gw
  ·rw[de k ao]at hj;obtain⟨o',s8,e',qf,hb,h⟩:=hg k ao j hj;refine⟨o',s8,e',qf,hb,?_⟩;rcases h with h|h
   ·exact .inl h
   ·right;have:e'.on<k:=hd k o' s8 e' qf hb;rw[de _ o_];exact h
  ·have gV:k=acc.length:=by simp at hk;omega
   subst gV;have ho:((pre++[o])++l)[acc.length]?=some o:=by rw[hl];simp
   have hm:(acc++[Ks acc o]).getD acc.length 0=Ks acc o:=by rw[FC,FD (bF _)];simp
   rw[hm]at hj;rcases ZZ acc o.after.toList 0 j hj with h|⟨e',qf,hb,h⟩
   ·simp at h
   ·have qf:e'∈o.after:=N1.1 qf;refine⟨o,ho,e',qf,hb,?_⟩;rcases h with h|h
    ·exact .inl h
    ·right;have:e'.on<acc.length:=hd acc.length o ho e' qf hb;rw[de _ this];exact h
def iE{α:Type}(u:Nat->Nat->Option α)(c0:Nat->α)(L:Nat->Bool):Nat->Nat->α
 |0,k=>c0 k
 |i+1,k=>if L i then(match u i k with|some x=>x|none=>iE u c0 L i k)else iE u c0 L i k
theorem Z3(u:Nat->Nat->Option α)(c0:Nat->α)(L:Nat->Bool)(i k:Nat):iE u c0 L (i+1) k=if L i then(match u i k with|some x=>x|none=>iE u c0 L i k)else iE u c0 L i k:=rfl
theorem Tk{u:Nat->Nat->Option α}{c0:Nat->α}{L:Nat->Bool}:∀(n:Nat),i<=n->(∀ j,j<n->u j k≠none->(L j=true↔j<i))->iE u c0 L n k=iE u c0 (λ_=>true) i k:=by
 have below:∀ m,m<=i->(∀ j,j<m->u j k≠none->L j=true)->iE u c0 L m k=iE u c0 (λ_=>true) m k:=by
  intro m;induction m with
  |zero=>intro _ _;rfl
  |succ m ih=>
   intro hm h;show(if L m then _ else _)=(if true then _ else _);have ih:=ih o_ λj hj=>h j o_;cases hu:u m k with
   |none=>simp only[ih];simp
   |some x=>rw[h m o_ (by rw[hu];exact n_)];rfl
 intro n;induction n with
 |zero=>
  intro hi _;have:i=0:=by omega
  subst this;rfl
 |succ n ih=>
  intro hi h;rcases fo n i with ao|gw
  ·have:i=n+1:=by omega
   subst this;exact below (n+1) (bF _) λj hj hu=>(h j hj hu).2 hj
  ·have ih:=ih gw λj hj=>h j o_;show(if L n then _ else _)=_;cases hu:u n k with
   |none=>simp only[ih];simp
   |some x=>
    have:L n=false:=by
     cases hL:L n with
     |false=>rfl
     |true=>have:=(h n o_ (by rw[hu];exact n_)).1 hL;omega
    rw[this,ih];rfl
theorem Z4{u:Nat->Nat->Option α}{c0:Nat->α}{L:Nat->Bool}(hi:L i=false)(hk:∀ j,j<m->i<j->L j=true->u i k≠none->u j k=none):
  ∀(n:Nat),n<=m->i<n->iE u c0 (λj=>L j||j==i) n k=match u i k with|some x=>x|none=>iE u c0 L n k:=by
 have before:∀ m,m<=i->iE u c0 (λj=>L j||j==i) m k=iE u c0 L m k:=by
  intro m;induction m with
  |zero=>intro _;rfl
  |succ m ih=>
   intro hm;show(if(L m||m==i)then _ else _)=(if L m then _ else _);rw[ih o_];have:(m==i)=false:=by simp;omega
   rw[this,Bool.or_false]
 intro n;induction n with
 |zero=>intro _ h;omega
 |succ n ih=>
  intro kX h;show(if(L n||n==i)then(match u n k with|some x=>x|none=>iE u c0 (λj=>L j||j==i) n k)else iE u c0 (λj=>L j||j==i) n k)=match u i k with|some x=>x|none=>(if L n then(match u n k with|some x=>x|none=>iE u c0 L n k)else iE u c0 L n k)
  rcases fo i n with ao|gw
  ·rw[ih o_ ao];have e:(n==i)=false:=by simp;omega
   rw[e,Bool.or_false];cases hL:L n with
   |false=>simp
   |true=>
    cases hu:u i k with
    |none=>rfl
    |some x=>rw[hk n o_ ao hL (by rw[hu];exact n_)];rfl
  ·have:i=n:=by omega
   subst this;rw[before i (bF _),hi];simp
def N6(ops:List Oper)(o:Oper):List Nat:=match o.guard with
 |some (j,_)=>match (ops[j]?).bind (·.dst)with|some t=>[t]|none=>[]
 |none=>[]
def Tl(ops:List Oper)(o:Oper)(t:Nat):Bool:=(Ku o++N6 ops o).any λs=>Nat.beq s t
def N7(l m:l_):Bool:=l.any λa=>m.any λb=>Nat.beq a b
def xT(ops:List Oper)(o:Oper)(e:List Nat×List Nat)(p:Oper)(f:List Nat×List Nat):Bool:=
 (match p.dst with|some t=>Tl ops o t||(match o.dst with|some d=>Nat.beq d t|none=>false)|none=>false)||N7 f.2 e.1
def FE(ops:List Oper)(oq:List (List Nat×List Nat)):Bool:=
 (List.range ops.length).all λi=>match ops[i]?,oq[i]? with
  |some o,some e=>(o.after.toList.all λg=>!Region.binds .any g||Nat.blt g.on i)&&
   (List.range i).all λj=>Nat.testBit ((Dy ops []).getD i 0) j||(match ops[j]?,oq[j]? with|some p,some f=>!xT ops o e p f&&!xT ops p f o e|_,_=>false)
  |_,_=>false
section
variable{P:j_}{B:aa}{N:Nat}{ops:Array Oper}
structure Tm(P:j_)(B:aa)(N:Nat)(ops:Array Oper)(l:List Oper)(fr:aU)(M:aL)(next:Nat)(r:rT P B N) where
 s9:Nat->aU
 Ms:Nat->aL
 B0:Nat->Nat
 es:Nat->rQ
 Z5:s9 0=fr
 Tn:Ms 0=M
 To:B0 0=next
 Z6:s9 l.length=r.fr
 Z7:Ms l.length=r.M
 Z8:B0 l.length=r.next
 oq:∀ i,i<l.length->r.oq[i]?=some (keys (es i).need,keys (es i).c9)
 step:∀ i o,l[i]?=some o->Dw N (s9 i) ops o=true/\s9 (i+1)=Kp (s9 i) o.dst (es i).val/\Ms (i+1)=(es i).c9++Ms i/\B0 (i+1)=BZ (B0 i) (es i).c9/\Dt (ak (Ms i)) (B0 i) (es i)/\
  ((Dv (s9 i) ops o=true/\BT (bM (s9 i)) o=true/\cI P B o (o.op.operands.toList.map (gN (bM (s9 i)))) (es i).need (es i).val (es i).c9)\/(Dv (s9 i) ops o=false/\es i=⟨undef,[],[]⟩))
theorem Tp:∀(l:List Oper) {fr:aU} {M:aL} {next:Nat} {rs:bN P B N} {r:rT P B N},z8 ops l fr M next rs=some r->s7 r.tr->Nonempty (Tm P B N ops l fr M next r)
 |[],fr,M,next,rs,r,h,_=>by injection h with h;subst h;exact⟨⟨λ_=>fr,λ_=>M,λ_=>next,λ_=>⟨undef,[],[]⟩,rfl,rfl,rfl,rfl,rfl,rfl,λi hi=>by simp at hi,λi o h=>by simp at h⟩⟩
 |o::l,fr,M,next,rs,r,h,hs=>by
  unfold z8 at h;by_cases oS:Dw N fr ops o=true
  case neg=>rw[au oS]at h;cases h
  rw[aA oS]at h;have build:∀(e:rQ) (r2:rT P B N) (tr:wM),r=r2.more tr (keys e.need,keys e.c9)->Dt (ak M) next e->Nonempty (Tm P B N ops l (Kp fr o.dst e.val) (e.c9++M) (BZ next e.c9) r2)->
    ((Dv fr ops o=true/\BT (bM fr) o=true/\cI P B o (o.op.operands.toList.map (gN (bM fr))) e.need e.val e.c9)\/(Dv fr ops o=false/\e=⟨undef,[],[]⟩))->Nonempty (Tm P B N ops (o::l) fr M next r):=by
   rintro e r2 tr rfl bB ⟨T⟩ bW
   refine⟨⟨λi=>match i with|0=>fr|i+1=>T.s9 i,λi=>match i with|0=>M|i+1=>T.Ms i,λi=>match i with|0=>next|i+1=>T.B0 i,λi=>match i with|0=>e|i+1=>T.es i,rfl,rfl,rfl,T.Z6,T.Z7,T.Z8,λi hi=>?_,λi o' ho=>?_⟩⟩
   ·cases i with
    |zero=>rfl
    |succ i=>exact T.oq i (by simpa using hi)
   ·cases i with
    |zero=>
     simp at ho;subst ho;exact⟨oS,T.Z5,T.Tn,T.To,bB,bW⟩
    |succ i=>exact T.step i o' (by simpa using ho)
  split at h
  ·rename_i hw;split at h
   ·rename_i e Fy FB bW;split at h
    ·rename_i r2 vE;injection h with h;have qg:s7 FB/\s7 r2.tr:=by subst h;exact⟨λp hp=>hs p (fh.2 (.inl hp)),λp hp=>hs p (fh.2 (.inr hp))⟩
     obtain⟨aC,uz,pr⟩:=Tc (B:=B) bW qg.1;exact build e r2 FB h.symm pr (Tp l vE qg.2) (.inl ⟨hw,aC,uz⟩)
    ·cases h
   ·cases h
  ·rename_i hw;split at h
   ·rename_i r2 vE;injection h with h;have qg:s7 r2.tr:=by subst h;exact λp hp=>hs p (fh.2 (.inr hp))
    exact build ⟨undef,[],[]⟩ r2 [] h.symm ⟨λp hp=>(by cases hp),λp hp=>(by cases hp)⟩ (Tp l vE qg) (.inr ⟨by simpa using hw,rfl⟩)
   ·cases h
def N8(ops:List Oper)(L:Nat->Bool):Prop:=∀ i o,ops[i]?=some o->L i=true->∀ e∈o.after,Region.binds .any e=true->L e.on=true
theorem H2{l:List α}{x:α}(h:l[i]?=some x):i<l.length:=by
 rcases fo i l.length with h1|h1
 ·exact h1
 ·rw[BP h1]at h;cases h
theorem Tq{l:List Oper}{oq:List (List Nat×List Nat)}(h:FE l oq=true)(ho:l[i]?=some o):∀ e∈o.after,Region.binds .any e=true->e.on<i:=by
 intro e he hb;unfold FE at h;rw[bC]at h;have:=h i (kh.2 (H2 ho));rw[ho]at this;split at this
 ·rename_i o' e' h1 h2;injection h1 with h1;subst h1;simp only[dc,bC]at this;have:=this.1 e (N1.2 he);rw[hb]at this;simpa[BX]using this
 ·cases this
theorem Z9{l:List Oper}{oq:List (List Nat×List Nat)}(h:FE l oq=true){p:Oper}{e f:List Nat×List Nat}(ho:l[i]?=some o)(he:oq[i]?=some e)(hp:l[j]?=some p)(hf:oq[j]?=some f)(hj:j<i):
  ((Dy l []).getD i 0).testBit j=true\/(xT l o e p f=false/\xT l p f o e=false):=by
 unfold FE at h;rw[bC]at h;have:=h i (kh.2 (H2 ho));rw[ho,he]at this;dsimp only at this;simp only[dc,bC]at this;have:=this.2 j (kh.2 hj);rw[hp,hf]at this;simpa using this
theorem anc{l:List Oper}{oq:List (List Nat×List Nat)}(h:FE l oq=true){L:Nat->Bool}(hL:N8 l L):∀(i:Nat) (o:Oper),l[i]?=some o->(∀ e∈o.after,Region.binds .any e=true->L e.on=true)->
  ∀ j,((Dy l []).getD i 0).testBit j=true->L j=true/\j<i:=by
 obtain⟨hg,hlen⟩:=Z2 l [] [] rfl (λk hk=>by simp at hk) (λi o ho e he hb=>Tq h (by simpa using ho) e he hb);simp only[jJ]at hg hlen;intro i;induction i using Nat.strongRecOn with
 |_ i ih=>
  intro o ho hd j hj;have hi:i<(Dy l []).length:=by rw[hlen];exact H2 ho
  obtain⟨o',s8,e,he,hb,l4⟩:=hg i hi j hj;rw[ho]at s8;injection s8 with s8;subst s8;have ao:=Tq h ho e he hb;have hLe:=hd e he hb;rcases l4 with rfl|l4
  ·exact⟨hLe,ao⟩
  ·have aIR:e.on<l.length:=by
    have:i<l.length:=by rw[<-hlen];exact hi
    omega
   have hoe:=bt aIR;obtain⟨h1,h2⟩:=ih e.on ao _ hoe (λe' qf ki=>hL e.on _ hoe hLe e' qf ki) j l4;exact⟨h1,by omega⟩
theorem aAa{l m:l_}(h1:a∈l)(h2:a∈m):N7 l m=true:=by unfold N7;rw[rS];refine⟨a,h1,?_⟩;rw[rS];exact⟨a,h2,by simp⟩
theorem aIS{l:List Oper}{t:Nat}(h:t∈Ku o++N6 l o):Tl l o t=true:=by unfold Tl;rw[rS];exact⟨t,h,by simp⟩
theorem Tr{l:List (Nat×α)}{p:Nat×α}(h:p∈l):p.1∈keys l:=df.2 ⟨p,h,rfl⟩
theorem aIT{t:Nat}(h:Operand.tmp t∈o.op.operands):t∈Ku o:=by unfold Ku;exact ZR.2 ⟨.tmp t,N1.2 h,rfl⟩
def uS(ops:List Oper)(es:Nat->rQ)(j t:Nat):Option Value:=match (ops[j]?).bind (·.dst)with|some d=>if d=t then some (es j).val else none|none=>none
def uM(es:Nat->rQ)(j k:Nat):Option (Option Obj):=match ak (es j).c9 k with|some x=>some (some x)|none=>none
theorem aAb(k:Nat):mH c (es i).c9 k=match uM es i k with|some x=>x|none=>c k:=by rw[wL];unfold uM;cases ak (es i).c9 k<;>rfl
theorem Ts(h:uM es i k≠none):k∈keys (es i).c9:=by
 unfold uM at h;cases hk:ak (es i).c9 k with
 |none=>rw[hk]at h;exact absurd rfl h
 |some x=>exact Tr (kW hk)
theorem Tt{l:List Oper}{t:Nat}(h:uS l es j t≠none):∃ p,l[j]?=some p/\p.dst=some t:=by
 unfold uS at h;cases hp:l[j]? with
 |none=>rw[hp]at h;exact absurd rfl h
 |some p=>
  rw[hp]at h;simp only[ZT]at h;cases hd:p.dst with
  |none=>rw[hd]at h;exact absurd rfl h
  |some d=>
   rw[hd]at h;dsimp only at h;by_cases FA:d=t
   ·exact⟨p,rfl,by rw[hd,FA]⟩
   ·rw[au FA]at h;exact absurd rfl h
theorem aAc{l:List Oper}{t:Nat}{p:Oper}(hp:l[j]?=some p):uS l es j t=if p.dst=some t then some (es j).val else none:=by
 unfold uS;rw[hp];simp only[ZT];cases p.dst with
 |none=>rfl
 |some d=>by_cases h:d=t<;>simp[h]
theorem aIU{R:Option Nat}{next:Nat}{rs:bN P B N}{r:rT P B N}{cc:Nat->Option Obj}{Q:Exit->Act->World->Prop}{a:Act}{id:Nat}(ja:P.follows .mixedOrders=true)
  (hs:z8 ops ops.toList fr M next rs=some r) (BN:s7 r.tr) (h:FE ops.toList r.oq=true) (hf:fp B ι (bM fr) N a) (hm:aO B ι cc w) (ha:cZ cc M) (hu:eG cc next)
  (hQ:Ti B N cc M next ι a (xR ops.toList) r (Q .normal)):(Code.region id ops true).wpIn (FW R) 0 P Q a w:=by
 obtain⟨T⟩:=Tp _ hs BN;have zR:ops.size=ops.toList.length:=by simp
 have Kr:∀(i:Nat),ops[i]?=ops.toList[i]?:=λi=>by simp
 generalize hn:ops.toList.length=n at *
 -- the order of the text
 have text:∀ i,i<=n->(∀ t,bM (T.s9 i) t=iE (uS ops.toList T.es) (bM fr) (λ_=>true) i t)/\cZ (iE (uM T.es) cc (λ_=>true) i) (T.Ms i)/\eG (iE (uM T.es) cc (λ_=>true) i) (T.B0 i)/\next<=T.B0 i/\
   (∀ k,k<next->ak M k=none->ak (T.Ms i) k=none/\iE (uM T.es) cc (λ_=>true) i k=cc k):=by
  intro i;induction i with
  |zero=>intro _;exact⟨λt=>by rw[T.Z5];rfl,by rw[T.Tn];exact ha,by rw[T.To];exact hu,by rw[T.To];exact bF _,λk _ hk=>⟨by rw[T.Tn];exact hk,rfl⟩⟩
  |succ i ih=>
   intro hi;obtain⟨h1,h2,h3,h4,h5⟩:=ih o_;have ho:=bt (l:=ops.toList) (i:=i) o_;obtain⟨_,s2,s3,s4,s5,_⟩:=T.step i _ ho;obtain⟨q1,q2,q3,q4⟩:=Th s5 h2 h3;have e:iE (uM T.es) cc (λ_=>true) (i+1)=mH (iE (uM T.es) cc (λ_=>true) i) (T.es i).c9:=funext λk=>by rw[aAb,Z3];cases uM T.es i k<;>rfl
   refine⟨λt=>?_,by rw[s3,e];exact q2,by rw[s4,e];exact q3,by rw[s4];exact dq h4 (H0 _ _),λk hk hM=>?_⟩
   ·rw[s2,Td];rw[Z3,aAc ho,h1 t];by_cases hd:(ops.toList[i]).dst=some t
    ·rw[aA hd,aA hd];rfl
    ·rw[au hd,au hd];rfl
   ·obtain⟨p1,p2⟩:=h5 k hk hM;obtain⟨p3,p4⟩:=q4 k o_ p1;exact⟨by rw[s3];exact p3,by rw[e,p4,p2]⟩
 -- which of two that xT has aAd up
 have ordered:∀{L:Nat->Bool} (hL:N8 ops.toList L) {i:Nat} {o:Oper},ops.toList[i]?=some o->L i=false->(∀ e∈o.after,Region.binds .any e=true->L e.on=true)->∀{j:Nat} {p:Oper},ops.toList[j]?=some p->j≠i->
   xT ops.toList o (keys (T.es i).need,keys (T.es i).c9) p (keys (T.es j).need,keys (T.es j).c9)=true\/xT ops.toList p (keys (T.es j).need,keys (T.es j).c9) o (keys (T.es i).need,keys (T.es i).c9)=true->(L j=true↔j<i):=by
  intro L hL i o ho FF N9 j p hp mJ uB;have ei:=T.oq i (H2 ho);have ej:=T.oq j (H2 hp);rcases FG mJ with ao|uC
  ·rcases Z9 h ho ei hp ej ao with hb|⟨mK,gy⟩
   ·have:=(anc h hL i o ho N9 j hb).1;exact⟨λ_=>ao,λ_=>this⟩
   ·rcases uB with uB|uB
    ·rw[mK]at uB;cases uB
    ·rw[gy]at uB;cases uB
  ·rcases Z9 h hp ej ho ei uC with hb|⟨mK,gy⟩
   ·refine⟨λB3=>?_,λao=>by omega⟩;have:=(anc h hL j p hp (λe he FH=>hL j p hp B3 e he FH) i hb).1;rw[FF]at this;cases this
   ·rcases uB with uB|uB
    ·rw[gy]at uB;cases uB
    ·rw[mK]at uB;cases uB
 have aAe:∀{α:Type} (u:Nat->Nat->Option α) (c0:Nat->α) (L:Nat->Bool) (k:Nat),(∀ j,L j=false)->∀ m,iE u c0 L m k=c0 k:=by
  intro α u c0 L k hL m;induction m with
  |zero=>rfl
  |succ m ih=>show(if L m then _ else _)=_;rw[hL m,ih];rfl
 have aWI:∀{α:Type} (u:Nat->Nat->Option α) (c0:Nat->α) (L L':Nat->Bool) (k:Nat),(∀ j,L j=L' j)->∀ m,iE u c0 L m k=iE u c0 L' m k:=by intro α u c0 L L' k hL m;rw[show L=L' from funext hL]
 refine wpIn_region_any ja (aIM (λL a' w'=>∃ aB,Map.le ι aB/\fp B aB (iE (uS ops.toList T.es) (bM fr) L n) N a'/\N8 ops.toList L/\aO B aB (iE (uM T.es) cc L n) w'/\(∀ t,xR ops.toList t=false->a'.tmps.getD t undef=a.tmps.getD t undef))
  (λi o ho e he hb=>Tq h (by rw[<-Kr];exact ho) e he hb) ?_ ?_ ?_ ops.size _ a _ s_ (by simp[List.countP_replicate]) ?_)
 ·-- one operation
  rintro L a' w' i o ⟨aB,hle,nL,iN,ou,Aa⟩ ho FF N9
  have s8:ops.toList[i]?=some o:=by rw[<-Kr];exact ho
  have cy:i<n:=by rw[<-hn];exact H2 s8
  obtain⟨t1,t2,t3,t4,t5⟩:=text i o_;obtain⟨s1,s2,s3,s4,s5,s6⟩:=T.step i o s8;have ord:=λ{j:Nat} {p:Oper}=>ordered iN s8 FF N9 (j:=j) (p:=p)
  -- the jb that it looks at
  have slot:∀ t,t∈Ku o++N6 ops.toList o->iE (uS ops.toList T.es) (bM fr) L n t=bM (T.s9 i) t:=by
   intro t ht;rw[t1 t];refine Tk n o_ λj hj hu=>?_;obtain⟨p,hp,H3⟩:=Tt hu;by_cases mJ:j=i
   ·subst mJ;rw[FF];exact⟨λe=>(by cases e),λe=>o_⟩
   ·refine ord hp mJ (.inl ?_);unfold xT;rw[H3];simp only[aIS ht,FI]
  have marks:∀ p∈(T.es i).need,iE (uM T.es) cc L n p.1=p.2:=by
   intro q hq;rw[<-(Th s5 t2 t3).1 q hq];refine Tk n o_ λj hj hu=>?_;have hk:=Ts hu;by_cases mJ:j=i
   ·subst mJ;rw[FF];exact⟨λe=>(by cases e),λe=>o_⟩
   ·have hp:=bt (l:=ops.toList) (i:=j) o_;refine ord hp mJ (.inl ?_);unfold xT;rw[aAa hk (Tr hq),Bool.or_true]
  -- what stands behind it
  have aAf:N8 ops.toList (λj=>L j||j==i):=by
   intro k p hp wO e he hb;simp only[vG,beq_iff_eq]at wO ⊢;rcases wO with wO|rfl
   ·exact .inl (iN k p hp wO e he hb)
   ·rw[s8]at hp;injection hp with hp;subst hp;exact .inl (N9 e he hb)
  have aAg:∀ t,iE (uS ops.toList T.es) (bM fr) (λj=>L j||j==i) n t=if o.dst=some t then(T.es i).val else iE (uS ops.toList T.es) (bM fr) L n t:=by
   intro t;rw[Z4 (i:=i) (m:=n) FF (λj hjn hj B3 hu=>?_) n (bF _) cy,aAc s8]
   ·by_cases hd:o.dst=some t<;>simp[hd]
   ·obtain⟨q,hq,hqd⟩:=Tt hu;rw[s8]at hq;injection hq with hq;subst hq;apply iP;intro bB;obtain⟨p,hp,H3⟩:=Tt bB;have:=(ord hp o_ (.inl (by unfold xT;rw[H3,hqd];simp))).1 B3;omega
  have aAh:iE (uM T.es) cc (λj=>L j||j==i) n=mH (iE (uM T.es) cc L n) (T.es i).c9:=by
   funext k
   rw[Z4 (i:=i) (m:=n) FF (λj hjn hj B3 hu=>?_) n (bF _) cy,aAb]
   ·cases uM T.es i k<;>rfl
   ·apply iP;intro bB;have hp:=bt (l:=ops.toList) (i:=j) o_;have hk:=Ts bB;have fX:=Ts hu;obtain⟨q,hq,xQ⟩:=df.1 fX;obtain⟨q2,qQ,aIV⟩:=s5.2 q hq;have:=(ord hp o_ (.inl (by unfold xT;rw[aAa hk (by rw[<-xQ,<-aIV];exact Tr qQ),Bool.or_true]))).1 B3;omega
  have other:∀ v,∀ t,xR ops.toList t=false->(a'.put o.dst v).tmps.getD t undef=a.tmps.getD t undef:=by intro v t ht;rw[Tf _ _ _ λhd=>?_,Aa t ht];unfold xR at ht;rw[Kw]at ht;have:=ht o (cM s8);rw[hd]at this;simp at this
  have Dx:=ZV s1;have aIW:Region.wanted o (yielded ops a'.tmps)=Dv (T.s9 i) ops o:=by refine ZU nL ops o s1 λj b hg t ht=>slot t (fh.2 (.inr ?_));unfold N6;rw[hg];dsimp only;rw[<-Kr,ht];exact aR ..
  unfold wpOpIn;rw[ho];dsimp only;rw[aIW];rcases s6 with ⟨hw,aC,uz⟩|⟨hw,he⟩
  ·rw[aA hw];simp only[BT,dc,bC,zZ]at aC;have FJ:∀ x∈o.op.operands.toList,gN (iE (uS ops.toList T.es) (bM fr) L n) x=gN (bM (T.s9 i)) x:=by
    intro x hx;cases x with
    |tmp t=>exact slot t (fh.2 (.inl (aIT (N1.1 hx))))
    |_=>rfl
   have aAi:=Ta nL o.op.operands.toList (λx hx=>by rw[FJ x hx];exact aC.1 x hx);rw[uD FJ]at aAi;refine uz R aB _ a' w' aAi ou marks _ _ λdQ v2 w2 lg iF dE=>?_;exact⟨dQ,hle.trans lg,nL.put lg (.inr iF) o.dst Dx aAg,aAf,by rw[aAh];exact dE,other v2⟩
  ·rw[au (by rw[hw];decide)];refine⟨λ_ _=>trivial,?_⟩;refine⟨aB,hle,nL.put (Map.le.refl _) (v':=undef) (.inr (by rw[he];exact .same rfl)) o.dst Dx aAg,aAf,by rw[aAh,he];exact ou,other undef⟩
 ·-- all have aAd up
  rintro L a' w' bo ⟨aB,hle,nL,iN,ou,Aa⟩
  obtain⟨t1,t2,t3,t4,t5⟩:=text n (bF _);have eN:∀{α:Type} (u:Nat->Nat->Option α) (c0:Nat->α),iE u c0 L n=iE u c0 (λ_=>true) n:=λu c0=>funext λk=>
   Tk n (bF _) λj hj _=>⟨λ_=>hj,λ_=>bo j o_⟩
  have e1:T.s9 n=r.fr:=by rw[<-hn];exact T.Z6
  have e2:T.Ms n=r.M:=by rw[<-hn];exact T.Z7
  have e3:T.B0 n=r.next:=by rw[<-hn];exact T.Z8
  rw[eN]at ou;refine hQ aB _ a' w' hle ⟨nL.defers,nL.size,λt=>?_⟩ ou (by rw[<-e2];exact t2) (by rw[<-e3];exact t3) (λk hk hM=>(t5 k hk hM).2) Aa;rw[<-e1,t1 t,<-eN];exact nL.slot t
 ·-- the numbers alone
  rintro L L' a' w' hLL ⟨aB,hle,nL,iN,ou,Aa⟩
  have e:L=L':=funext hLL;subst e;exact⟨aB,hle,nL,iN,ou,Aa⟩
 ·-- none has aAd up
  have hL:∀ j,(Array.replicate ops.size false).getD j false=false:=λj=>by simp[qO,Array.getElem?_replicate];split<;>rfl
  refine⟨ι,Map.le.refl _,⟨hf.defers,hf.size,λt=>?_⟩,λi o _ hi=>?_,?_,λ_ _=>rfl⟩
  ·rw[aAe _ _ _ _ hL];exact hf.slot t
  ·have:=(hL i).symm.trans hi;cases this
  ·exact(hm.drew _ (zY _)).ext λk=>aAe _ _ _ _ hL n
end
def FK(M:aL)(ks:aL):aL:=M.filter λp=>match ak ks p.1 with|some _=>false|none=>true
theorem Tu{ks:aL}:∀(M:aL) (k:Nat),ak (FK M ks) k=match ak ks k with|some _=>none|none=>ak M k
 |[],k=>by cases h:ak ks k<;>simp[FK,ak]
 |(j,x)::M,k=>by
  have ih:=Tu (ks:=ks) M k;unfold FK at ih ⊢;by_cases hj:j=k
  ·subst hj;cases h:ak ks j with
   |some y=>rw[h]at ih;rw[Oa,au (by simp[h])];exact ih
   |none=>rw[Oa,aA (by simp[h])];simp[ak]
  ·have e:∀ M,ak ((j,x)::M) k=ak M k:=λM=>by show(if Nat.beq j k then _ else _)=_;rw[om hj];rfl
   rw[e,<-ih];cases h:ak ks j with
   |some y=>rw[Oa,au (by simp[h])]
   |none=>rw[Oa,aA (by simp[h]),e]
theorem aIX{cc cr:Nat->Option Obj}{M0 M1:aL}{next:Nat}(ha:cZ cc M)(hu:eG cc next)(h1:cZ cr M1)(hk:∀ k,k<next->ak M0 k=none->cr k=cc k):cZ cr (M1++FK M M0):=by
 intro k x hx;rw[iO]at hx;cases h:ak M1 k with
 |some y=>rw[h]at hx;exact h1 k x (by rw[h];exact hx)
 |none=>
  rw[h]at hx;dsimp only at hx;rw[Tu]at hx;cases h0:ak M0 k with
  |some y=>rw[h0]at hx;cases hx
  |none=>
   rw[h0]at hx;have hc:=ha k x hx;have:k<next:=by
    rcases fo k next with h|h
    ·exact h
    ·rw[hu k h]at hc;cases hc
   rw[hk k this h0];exact hc
structure kG(P:j_)(B:aa)(N:Nat) where
 ex:Ex
 fr:aU
 M:aL
 next:Nat
 rs:bN P B N
 tr:wM
section
variable{P:j_}{B:aa}{N:Nat}
def kG.more(r:kG P B N)(tr:wM):kG P B N:=⟨r.ex,r.fr,r.M,r.next,r.rs,tr++r.tr⟩
def kG.after(o:Option (kG P B N))(tr:wM):Option (kG P B N):=match o with|some r=>some (r.more tr)|none=>none
def kG.aIY(r:kG P B N)(e:Ex):kG P B N:=⟨e,r.fr,r.M,r.next,r.rs,r.tr⟩
def kG.out(r:kG P B N):nh:=⟨r.ex,r.fr,r.M,r.next⟩
def Keys(M:aL)(next:Nat)(M':aL)(next':Nat):Prop:=next<=next'/\∀ k,k<next->ak M k=none->ak M' k=none
theorem Keys.refl(M:aL)(next:Nat):Keys M next M next:=⟨bF _,λ_ _ h=>h⟩
theorem Keys.trans{M1 M2:aL}{n:Nat}(h:Keys M n M1 n1)(k:Keys M1 n1 M2 n2):Keys M n M2 n2:=⟨dq h.1 k.1,λj hj hM=>k.2 j (cH hj h.1) (h.2 j hj hM)⟩
def Ob(fr:aU)(M:aL)(next:Nat)(c:Code)(key:Nat)(rs:bN P B N):Option (kG P B N):=
 match rs with
 |.code aAj c' Kx M0 Tv r _::xO=>
  if Nat.beq aAj key&&(Nat.ble next r.next&&r.M.all λp=>Nat.ble next p.1||(match ak M0 p.1 with|some _=>true|none=>false))then
   some ⟨r.ex,r.fr++((wl c).map λt=>(t,HV))++fr,r.M++FK M M0,r.next,xO,(.code c,.code c')::(.nat next,.nat Tv)::(Kx.map λp=>(oR.e6 [bM fr p.1],oR.e6 [p.2]))++M0.map λp=>(oR.obj (ak M p.1),oR.obj (some p.2))⟩
  else none
 |_=>none
def aIZ:Bool->List Oper->List (List Nat×List Nat)->Bool
 |true,ops,oq=>FE ops oq
 |false,_,_=>true
def jw:Nat->Code->aU->aL->Nat->bN P B N->Option (kG P B N)
 |0,_,_,_,_,_=>none
 |n+1,c,fr,M,next,rs=>
  match c with
  |.skip=>some ⟨.normal,fr,M,next,rs,[]⟩
  |.exit id=>some ⟨.exit id,fr,M,next,rs,[]⟩
  |.ret=>some ⟨.ret,fr,M,next,rs,[]⟩
  |.region id ops draw=>
   match Ob fr M next (.region id ops draw) (200000+id) rs with
   |some r=>some r
   |none=>
    match z8 ops ops.toList fr M next rs with
    |some r=>if aIZ draw ops.toList r.oq then some ⟨.normal,r.fr,r.M,r.next,r.rs,r.tr⟩else none
    |none=>none
  |.seq x y=>match jw n x fr M next rs with
   |some r=>match r.ex with
    |.normal=>kG.after (jw n y r.fr r.M r.next r.rs) r.tr
    |_=>some r
   |none=>none
  |.cond c x y=>match gN (bM fr) c with
   |.bool b=>if b then jw n x fr M next rs else jw n y fr M next rs
   |_=>none
  |.block id b=>
   match Ob fr M next (.block id b) id rs with
   |some r=>some r
   |none=>match jw n b fr M next rs with
    |some r=>match r.ex with
     |.exit k=>some (r.aIY (if Nat.beq k id then .normal else .exit k))
     |_=>some r
    |none=>none
  |.loop b=>match jw n b fr M next rs with
   |some r=>match r.ex with
    |.normal=>kG.after (jw n (.loop b) r.fr r.M r.next r.rs) r.tr
    |_=>some r
   |none=>none
  |_=>none
theorem aAk{o:Option (kG P B N)}{tr:wM}{r:kG P B N}(h:kG.after o tr=some r):∃ r',o=some r'/\r=r'.more tr:=by
 cases o with
 |none=>cases h
 |some r'=>injection h with h;exact⟨r',rfl,h.symm⟩
theorem Tw:∀(l m:aU) (t:Nat),(∃ v,(t,v)∈l/\bM (l++m) t=v/\bM l t=v)\/((∀ v,(t,v)∉l)/\bM (l++m) t=bM m t)
 |[],m,t=>.inr ⟨λv h=>(by cases h),rfl⟩
 |(s,v)::l,m,t=>by
  by_cases h:s=t
  ·subst h;exact .inl ⟨v,aR ..,by simp[bM],by simp[bM]⟩
  ·have e1:bM ((s,v)::l++m) t=bM (l++m) t:=by show(if Nat.beq s t then _ else _)=_;rw[om h];rfl
   have e2:bM ((s,v)::l) t=bM l t:=by show(if Nat.beq s t then _ else _)=_;rw[om h];rfl
   rcases Tw l m t with ⟨u,h1,h2,h3⟩|⟨h1,h2⟩
   ·exact .inl ⟨u,bK _ h1,by rw[e1,h2],by rw[e2,h3]⟩
   ·refine .inr ⟨λu hu=>?_,by rw[e1,h2]⟩;rcases cE.1 hu with hu|hu
    ·injection hu with dO eM;exact h dO.symm
    ·exact h1 u hu
theorem aI0{c:Code}{t:Nat}(h:t∈wl c):vD c t=true:=by unfold vD;rw[rS];exact⟨t,h,by simp⟩
theorem Oc{c:Code}{t:Nat}(h:vD c t=false):t∉wl c:=λhm=>by rw[aI0 hm]at h;cases h
theorem Ky{c:Code}{t:Nat}(h:t∉wl c):vD c t=false:=by
 cases hb:vD c t with
 |false=>rfl
 |true=>
  unfold vD at hb;rw[rS]at hb;obtain⟨d,hd,he⟩:=hb;exact absurd (lI he▸hd) h
theorem aI1{c:Code}{B4:aU}{a a':Act}(hle:Map.le ι aB)(hf:fp B ι (bM fr) N a)(h1:fp B aB (bM B4) N a')(ht:∀ t,vD c t=false->a'.tmps.getD t undef=a.tmps.getD t undef):
  fp B aB (bM (B4++((wl c).map λt=>(t,HV))++fr)) N a':=by
 refine⟨h1.defers,h1.size,λt=>?_⟩;rw[FL];rcases Tw B4 (((wl c).map λt=>(t,HV))++fr) t with ⟨v,_,h2,h3⟩|⟨_,h2⟩
 ·rw[h2,<-h3];exact h1.slot t
 ·rw[h2];rcases Tw ((wl c).map λt=>(t,HV)) fr t with ⟨v,hv,h3,_⟩|⟨hn,h3⟩
  ·obtain⟨s,_,he⟩:=df.1 hv;injection he with _ he;rw[h3,<-he];exact .inl rfl
  ·rw[h3,ht t (Ky λhm=>hn HV (df.2 ⟨t,hm,rfl⟩))];exact(hf.slot t).mono hle
theorem aAl{next:Nat}{c:Code}{rs:bN P B N}{r:kG P B N}(h:Ob fr M next c A rs=some r)(hs:s7 r.tr):ah P B N c fr M next r.out/\Keys M next r.M r.next:=by
 unfold Ob at h;split at h
 ·rename_i aAj c' Kx M0 Tv r0 ok xO;split at h
  ·rename_i qM;injection h with h;subst h;simp only[dc,bC,vG]at qM;have e1:oR.code c=.code c':=hs _ (aR ..);have e2:oR.nat next=.nat Tv:=hs _ (bK _ (aR ..));injection e1 with e1;injection e2 with e2;subst e1;subst e2;have e3:∀ p∈Kx,bM fr p.1=p.2:=λp hp=>by have:oR.e6 [bM fr p.1]=.e6 [p.2]:=hs _ (fh.2 (.inl (bK _ (bK _ (df.2 ⟨p,hp,rfl⟩)))));injection this with this;injection this
   have e4:∀ p∈M0,ak M p.1=some p.2:=λp hp=>by have:oR.obj (ak M p.1)=.obj (some p.2):=hs _ (fh.2 (.inr (df.2 ⟨p,hp,rfl⟩)));injection this
   refine⟨?_,sY qM.2.1,λk hk hM=>?_⟩;rotate_left
   ·show ak (r0.M++FK M M0) k=none;rw[iO];have h1:ak r0.M k=none:=by
     cases h1:ak r0.M k with
     |none=>rfl
     |some x=>
      rcases qM.2.2 _ (kW h1)with h2|h2
      ·have:=sY h2;dsimp only at this;omega
      ·dsimp only at h2;cases h0:ak M0 k with
       |none=>rw[h0]at h2;cases h2
       |some y=>have:=e4 _ (kW h0);dsimp only at this;rw[hM]at this;cases this
    rw[h1];show ak (FK M M0) k=none;rw[Tu,hM];cases ak M0 k<;>rfl
   intro R ι cc a w Q hf hm ha hu hQ;have xU:fp B ι (bM Kx) N a:=⟨hf.defers,hf.size,λt=>by
    have:∀(l:aU),(∀ p∈l,bM fr p.1=p.2)->oe ι (bM l t) (a.tmps.getD t undef):=by
     intro l;induction l with
     |nil=>intro _;exact .inl rfl
     |cons p l ih=>
      intro hl;obtain⟨s,v⟩:=p;by_cases bW:s=t
      ·subst bW;have this:bM fr s=v:=hl _ (aR ..);have e:bM ((s,v)::l) s=v:=by simp[bM]
       rw[e,<-this];exact hf.slot s
      ·have e:bM ((s,v)::l) t=bM l t:=by show(if Nat.beq s t then _ else _)=_;rw[om bW];rfl
       rw[e];exact ih λp hp=>hl p (bK _ hp)
    exact this Kx e3⟩
   have ni:cZ cc M0:=λk x hk=>ha k x (by have:=e4 _ (kW hk);exact this);refine ok R ι cc a w Q xU hm ni hu λaB cr a' w' hle xV bJ jx qe gV FM=>?_;refine hQ aB cr a' w' hle (aI1 hle hf xV FM) bJ (aIX ha hu jx gV) qe (λk hk hM=>gV k hk ?_) FM;cases h0:ak M0 k with
   |none=>rfl
   |some x=>have:=e4 _ (kW h0);dsimp only at this;rw[hM]at this;cases this
  ·cases h
 ·cases h
theorem Tx{ops:Array Oper}:∀(l:List Oper) {fr:aU} {M:aL} {next:Nat} {rs:bN P B N} {r:rT P B N},z8 ops l fr M next rs=some r->s7 r.tr->Keys M next r.M r.next
 |[],fr,M,next,rs,r,h,_=>by injection h with h;subst h;exact Keys.refl _ _
 |o::l,fr,M,next,rs,r,h,hs=>by
  unfold z8 at h;split at h
  ·split at h
   ·split at h
    ·rename_i e Fy FB bW;split at h
     ·rename_i r2 vE;injection h with h;subst h;obtain⟨_,_,pr⟩:=Tc (B:=B) bW (λp hp=>hs p (fh.2 (.inl hp)));have k2:=Tx l vE λp hp=>hs p (fh.2 (.inr hp));refine Keys.trans (M1:=e.c9++M) (n1:=BZ next e.c9) ⟨H0 _ _,λk hk hM=>?_⟩ k2;rw[iO];cases h1:ak e.c9 k with
      |none=>exact hM
      |some x=>
       exfalso;obtain⟨q,hq,xQ⟩:=pr.2 _ (kW h1);dsimp only at xQ;rcases pr.1 q hq with ⟨y,h2,h3⟩|⟨h2,h3⟩
       ·rw[xQ,hM]at h3;cases h3
       ·omega
     ·cases h
    ·cases h
   ·split at h
    ·rename_i r2 vE;injection h with h;subst h;have k2:=Tx l vE λp hp=>hs p (fh.2 (.inr hp));exact k2
    ·cases h
  ·cases h
theorem aI2{x y:Code}{next:Nat}{r2:nh}(h1:ah P B N x fr M next r1)(hn:r1.ex=.normal)(hk:Keys M next r1.M r1.next)(h2:ah P B N y r1.fr r1.M r1.next r2):ah P B N (.seq x y) fr M next r2:=by intro R ι cc a w Q hf hm ha hu hQ;refine kY (h1 R ι cc a w _ hf hm ha hu λb9 gF a1 w1 jy iq c8 eC dO iu jn=>?_);rw[hn];refine h2 R b9 gF a1 w1 Q iq c8 eC dO λdQ qP a2 w2 lg iX dE gO eM fX oT=>?_;refine hQ dQ qP a2 w2 (jy.trans lg) iX dE gO eM (λk oU hM=>by rw[fX k (cH oU hk.1) (hk.2 k oU hM),iu k oU hM]) λt ht=>?_;have Dz:t∉wl x++wl y:=Oc ht;rw[oT t (Ky λh=>Dz (fh.2 (.inr h))),jn t (Ky λh=>Dz (fh.2 (.inl h)))]
theorem aAm{x y:Code}{next:Nat}(h1:ah P B N x fr M next r1)(hn:r1.ex≠.normal):ah P B N (.seq x y) fr M next r1:=by
 intro R ι cc a w Q hf hm ha hu hQ;refine kY (h1 R ι cc a w _ hf hm ha hu λb9 gF a1 w1 jy iq c8 eC dO iu jn=>?_);have:=hQ b9 gF a1 w1 jy iq c8 eC dO iu λt ht=>jn t (Ky λh=>(Oc ht:t∉wl x++wl y) (fh.2 (.inl h)));cases hx:r1.ex with
 |normal=>exact absurd hx hn
 |exit id=>rw[hx]at this;exact this
 |ret=>rw[hx]at this;exact this
theorem cg{b:Code}{id:Nat}{next:Nat}(h1:ah P B N b fr M next r1):
  ah P B N (.block id b) fr M next ⟨(match r1.ex with|.exit k=>if Nat.beq k id then .normal else .exit k|e=>e),r1.fr,r1.M,r1.next⟩:=by
 intro R ι cc a w Q hf hm ha hu hQ;refine H4 (h1 R ι cc a w _ hf hm ha hu λb9 gF a1 w1 jy iq c8 eC dO iu jn=>?_);have:=hQ b9 gF a1 w1 jy iq c8 eC dO iu jn;cases hx:r1.ex with
 |normal=>rw[hx]at this;exact this
 |ret=>rw[hx]at this;exact this
 |exit k=>
  rw[hx]at this;dsimp only at this;show(if k=id then Q .normal a1 w1 else Q (.exit k) a1 w1);by_cases hk:k=id
  ·rw[aA hk];subst hk;rw[show Nat.beq k k=true from H5 k]at this;exact this
  ·rw[au hk];rw[om hk]at this;exact this
theorem Ty(ja:P.follows .mixedOrders=true):∀(n:Nat),
  (∀(c:Code) (fr:aU) (M:aL) (next:Nat) (rs:bN P B N) (r:kG P B N),jw n c fr M next rs=some r->s7 r.tr->ah P B N c fr M next r.out/\Keys M next r.M r.next)/\
  (∀(b:Code) (fr:aU) (M:aL) (next:Nat) (rs:bN P B N) (r:kG P B N),jw n (.loop b) fr M next rs=some r->s7 r.tr->Keys M next r.M r.next/\∀(R:Option Nat) (ι:Map) (cc:Nat->Option Obj) (a:Act) (w:h_) (Q:Exit->Act->World->Prop),fp B ι (bM fr) N a->aO B ι cc w->cZ cc M->eG cc next->(∀ aB cr a' w',Map.le ι aB->fp B aB (bM r.fr) N a'->aO B aB cr w'->cZ cr r.M->eG cr r.next->(∀ k,k<next->ak M k=none->cr k=cc k)->(∀ t,vD b t=false->a'.tmps.getD t undef=a.tmps.getD t undef)->Q r.ex.BV a' w')->Code.roundsIn (FW R) 0 P b Q n a w):=by
 intro n;induction n with
 |zero=>exact⟨λc fr M next rs r h=>by simp[jw]at h,λb fr M next rs r h=>by simp[jw]at h⟩
 |succ n ih=>
  obtain⟨xW,ihl⟩:=ih;have loop:∀(b:Code) (fr:aU) (M:aL) (next:Nat) (rs:bN P B N) (r:kG P B N),jw (n+1) (.loop b) fr M next rs=some r->s7 r.tr->
   Keys M next r.M r.next/\∀(R:Option Nat) (ι:Map) (cc:Nat->Option Obj) (a:Act) (w:h_) (Q:Exit->Act->World->Prop),fp B ι (bM fr) N a->aO B ι cc w->cZ cc M->eG cc next->
  (∀ aB cr a' w',Map.le ι aB->fp B aB (bM r.fr) N a'->aO B aB cr w'->cZ cr r.M->eG cr r.next->(∀ k,k<next->ak M k=none->cr k=cc k)->(∀ t,vD b t=false->a'.tmps.getD t undef=a.tmps.getD t undef)->Q r.ex.BV a' w')->Code.roundsIn (FW R) 0 P b Q (n+1) a w:=by
   intro b fr M next rs r h hs;simp only[jw]at h;cases hb:jw n b fr M next rs with
   |none=>rw[hb]at h;cases h
   |some r1=>
    rw[hb]at h;dsimp only at h;have out:r1.ex≠.normal->r=r1->_:=λbB (e:r=r1)=>by
     subst e;obtain⟨g1,k1⟩:=xW b fr M next rs r hb hs;refine(⟨k1,λR ι cc a w Q hf hm ha hu hQ=>?_⟩:Keys M next r.M r.next/\∀(R:Option Nat) (ι:Map) (cc:Nat->Option Obj) (a:Act) (w:h_) (Q:Exit->Act->World->Prop),fp B ι (bM fr) N a->aO B ι cc w->cZ cc M->eG cc next->(∀ aB cr a' w',Map.le ι aB->fp B aB (bM r.fr) N a'->aO B aB cr w'->cZ cr r.M->eG cr r.next->(∀ k,k<next->ak M k=none->cr k=cc k)->(∀ t,vD b t=false->a'.tmps.getD t undef=a.tmps.getD t undef)->Q r.ex.BV a' w')->Code.roundsIn (FW R) 0 P b Q (n+1) a w);rw[FN];refine g1 R ι cc a w _ hf hm ha hu λb9 gF a1 w1 jy iq c8 eC dO iu jn=>?_;have:=hQ b9 gF a1 w1 jy iq c8 eC dO iu jn;show Exit.then _ Q r.ex.BV a1 w1;cases hx:r.ex with
     |normal=>exact absurd hx bB
     |exit id=>rw[hx]at this;exact this
     |ret=>rw[hx]at this;exact this
    cases hex:r1.ex with
    |normal=>
     rw[hex]at h;obtain⟨r2,h2,he⟩:=aAk h;subst he;obtain⟨g1,k1⟩:=xW b fr M next rs r1 hb (λp hp=>hs p (fh.2 (.inl hp)));obtain⟨k2,g2⟩:=ihl b r1.fr r1.M r1.next r1.rs r2 h2 (λp hp=>hs p (fh.2 (.inr hp)));refine⟨k1.trans k2,λR ι cc a w Q hf hm ha hu hQ=>?_⟩;rw[FN];refine g1 R ι cc a w _ hf hm ha hu λb9 gF a1 w1 jy iq c8 eC dO iu jn=>?_;show Exit.then _ Q r1.ex.BV a1 w1;rw[hex];refine g2 R b9 gF a1 w1 Q iq c8 eC dO λdQ qP a2 w2 lg iX dE gO eM fX oT=>?_;exact hQ dQ qP a2 w2 (jy.trans lg) iX dE gO eM (λk oU hM=>(fX k (cH oU k1.1) (k1.2 k oU hM)).trans (iu k oU hM)) λt ht=>(oT t ht).trans (jn t ht)
    |exit id=>rw[hex]at h;injection h with h;exact out (by rw[hex];exact n_) h.symm
    |ret=>rw[hex]at h;injection h with h;exact out (by rw[hex];exact n_) h.symm
  refine⟨λc fr M next rs r h hs=>?_,loop⟩;cases c with
  |skip=>
   simp only[jw]at h;injection h with h;subst h;exact⟨λR ι cc a w Q hf hm ha hu hQ=>wpIn_skip (hQ ι cc a w (Map.le.refl _) hf hm ha hu (λ_ _ _=>rfl) λ_ _=>rfl),Keys.refl _ _⟩
  |exit id=>
   simp only[jw]at h;injection h with h;subst h;exact⟨λR ι cc a w Q hf hm ha hu hQ=>wpIn_exit (hQ ι cc a w (Map.le.refl _) hf hm ha hu (λ_ _ _=>rfl) λ_ _=>rfl),Keys.refl _ _⟩
  |ret=>
   simp only[jw]at h;injection h with h;subst h;exact⟨λR ι cc a w Q hf hm ha hu hQ=>wpIn_ret (hQ ι cc a w (Map.le.refl _) hf hm ha hu (λ_ _ _=>rfl) λ_ _=>rfl),Keys.refl _ _⟩
  |region id ops draw=>
   simp only[jw]at h;split at h
   ·rename_i r1 h1;injection h with h;subst h;exact aAl h1 hs
   ·split at h
    ·rename_i r1 h1;split at h
     ·rename_i hd;injection h with h;subst h;refine⟨λR ι cc a w Q hf hm ha hu hQ=>?_,Tx _ h1 hs⟩;have hQ':Ti B N cc M next ι a (xR ops.toList) r1 (Q .normal):=λaB cr a' w' hle xV bJ jx qe gV FM=>hQ aB cr a' w' hle xV bJ jx qe gV λt ht=>FM t (by
       have hn:t∉ops.toList.filterMap (·.dst):=Oc ht;cases hb:xR ops.toList t with
       |false=>rfl
       |true=>
        unfold xR at hb;rw[rS]at hb;obtain⟨o,ho,Od⟩:=hb;exfalso;refine hn (ZR.2 ⟨o,ho,?_⟩);cases Dx:o.dst with
        |none=>rw[Dx]at Od;cases Od
        |some d=>rw[Dx]at Od;rw[lI Od])
      cases draw with
      |false=>exact wpIn_region_list (Tj _ h1 hs hf hm ha hu hQ')
      |true=>exact aIU ja h1 hs hd hf hm ha hu hQ'
     ·cases h
    ·cases h
  |seq x y=>
   simp only[jw]at h;cases hx:jw n x fr M next rs with
   |none=>rw[hx]at h;cases h
   |some r1=>
    rw[hx]at h;dsimp only at h;cases hex:r1.ex with
    |normal=>
     rw[hex]at h;obtain⟨r2,h2,he⟩:=aAk h;subst he;obtain⟨g1,k1⟩:=xW x fr M next rs r1 hx (λp hp=>hs p (fh.2 (.inl hp)));obtain⟨g2,k2⟩:=xW y r1.fr r1.M r1.next r1.rs r2 h2 (λp hp=>hs p (fh.2 (.inr hp)));exact⟨aI2 g1 hex k1 g2,k1.trans k2⟩
    |exit id=>
     rw[hex]at h;injection h with h;subst h;obtain⟨g1,k1⟩:=xW x fr M next rs r1 hx hs;exact⟨aAm g1 (by show r1.ex≠_;rw[hex];exact n_),k1⟩
    |ret=>
     rw[hex]at h;injection h with h;subst h;obtain⟨g1,k1⟩:=xW x fr M next rs r1 hx hs;exact⟨aAm g1 (by show r1.ex≠_;rw[hex];exact n_),k1⟩
  |cond FO x y=>
   simp only[jw]at h;cases hc:gN (bM fr) FO with
   |bool b=>
    rw[hc]at h;have he:∀(ι:Map) (a:Act),fp B ι (bM fr) N a->a.eval FO=.bool b:=by
     intro ι a hf;cases FO with
     |tmp t=>
      have:bM fr t=.bool b:=hc;have hs:=hf.slot t;rw[this]at hs;exact(hs.BM rfl).bool
     |const v=>exact hc
     |global g=>exact hc
     |func f=>exact hc
    have fin:∀ z:Code,(∀ t,t∈wl z->t∈wl (Code.cond FO x y))->ah P B N z fr M next r.out->(∀(R:Option Nat) (Q:Exit->Act->World->Prop) (a:Act) (w:h_),a.eval FO=.bool b->z.wpIn (FW R) 0 P Q a w->(Code.cond FO x y).wpIn (FW R) 0 P Q a w)->ah P B N (.cond FO x y) fr M next r.out:=by intro z hz g hw R ι cc a w Q hf hm ha hu hQ;refine hw R Q a w (he ι a hf) (g R ι cc a w Q hf hm ha hu λb9 gF a1 w1 jy iq c8 eC dO iu jn=>hQ b9 gF a1 w1 jy iq c8 eC dO iu λt ht=>jn t (Ky λhm=>Oc ht (hz t hm)))
    cases b with
    |true=>
     obtain⟨g1,k1⟩:=xW x fr M next rs r h hs;exact⟨fin x (λt ht=>fh.2 (.inl ht)) g1 (λR Q a w e h=>wpIn_cond e h),k1⟩
    |false=>
     obtain⟨g1,k1⟩:=xW y fr M next rs r h hs;exact⟨fin y (λt ht=>fh.2 (.inr ht)) g1 (λR Q a w e h=>wpIn_cond e h),k1⟩
   |_=>rw[hc]at h;cases h
  |block id b=>
   simp only[jw]at h;split at h
   ·rename_i r1 h1;injection h with h;subst h;exact aAl h1 hs
   ·cases hb:jw n b fr M next rs with
    |none=>rw[hb]at h;cases h
    |some r1=>
     rw[hb]at h;dsimp only at h;cases hex:r1.ex with
     |normal=>
      rw[hex]at h;injection h with h;subst h;obtain⟨g1,k1⟩:=xW b fr M next rs r1 hb hs;have:=cg (id:=id) g1;rw[show r1.out.ex=Ex.normal from hex]at this;refine⟨?_,k1⟩;have e:r1.out=⟨.normal,r1.fr,r1.M,r1.next⟩:=by unfold kG.out;rw[hex]
      rw[e];exact this
     |ret=>
      rw[hex]at h;injection h with h;subst h;obtain⟨g1,k1⟩:=xW b fr M next rs r1 hb hs;have:=cg (id:=id) g1;rw[show r1.out.ex=Ex.ret from hex]at this;refine⟨?_,k1⟩;have e:r1.out=⟨.ret,r1.fr,r1.M,r1.next⟩:=by unfold kG.out;rw[hex]
      rw[e];exact this
     |exit k=>
      rw[hex]at h;injection h with h;subst h;obtain⟨g1,k1⟩:=xW b fr M next rs r1 hb hs;have:=cg (id:=id) g1;rw[show r1.out.ex=Ex.exit k from hex]at this;exact⟨this,k1⟩
  |loop b=>
   obtain⟨k1,g1⟩:=loop b fr M next rs r h hs;exact⟨λR ι cc a w Q hf hm ha hu hQ=>Tz (n+1) (g1 R ι cc a w Q hf hm ha hu hQ),k1⟩
  |_=>simp[jw]at h
end
section
variable{P:j_}{B:aa}{N:Nat}
theorem aAn{TA:aU}{a:Act}(hf:fp B ι (bM fr) N a)(h:∀ p∈TA,bM fr p.1=p.2):fp B ι (bM TA) N a:=by
 refine⟨hf.defers,hf.size,λt=>?_⟩;induction TA with
 |nil=>exact .inl rfl
 |cons p l ih=>
  obtain⟨s,v⟩:=p;by_cases bW:s=t
  ·subst bW;have this:bM fr s=v:=h _ (aR ..);have e:bM ((s,v)::l) s=v:=by simp[bM]
   rw[e,<-this];exact hf.slot s
  ·have e:bM ((s,v)::l) t=bM l t:=by show(if Nat.beq s t then _ else _)=_;rw[om bW];rfl
   rw[e];exact ih λp hp=>h p (bK _ hp)
theorem ah.to{c:Code}{next:Nat}{r2:nh}(h:ah P B N c fr M next r1)(hex:r1.ex=r2.ex)(nL:∀ p∈r2.fr,bM r1.fr p.1=p.2)
  (hM:∀ p∈r2.M,ak r1.M p.1=some p.2) (hn:r1.next<=r2.next):ah P B N c fr M next r2:=by
 intro R ι cc a w Q hf hm ha hu hQ;refine h R ι cc a w Q hf hm ha hu λb9 gF a1 w1 jy iq c8 eC dO iu jn=>?_;rw[hex];exact hQ b9 gF a1 w1 jy (aAn iq nL) c8 (λk x hk=>eC k x (hM _ (kW hk))) (λk hk=>dO k (dq hn hk)) iu jn
theorem kH:∀{l m:aL},keys l=keys m->∀ k,(ak l k=none↔ak m k=none)
 |[],[],_,k=>Iff.rfl
 |[],_::_,h,k=>by cases h
 |_::_,[],h,k=>by cases h
 |(i,x)::l,(j,y)::m,h,k=>by
  injection h with h1 h2;dsimp only at h1;subst h1;show(if Nat.beq i k then some x else ak l k)=none↔(if Nat.beq i k then some y else ak m k)=none;cases Nat.beq i k
  ·exact kH h2 k
  ·simp
theorem cz{b:Code}{next:Nat}{r:nh}(n:Nat)(I:Nat->aU)(J:Nat->aL)(kJ:∀ i k,i<=n->(ak (J i) k=none↔ak (J 0) k=none))
  (body:∀ i,i<n->ah P B N b (I i) (J i) next ⟨.normal,I (i+1),J (i+1),next⟩) (last:ah P B N b (I n) (J n) next r) (hr:r.ex≠.normal):ah P B N (.loop b) (I 0) (J 0) next r:=by
 intro R ι cc a w Q hf hm ha hu hQ;refine Tz (n+1) ?_;have key:∀ d i,i+d=n->∀(b9:Map) (gF:Nat->Option Obj) (a1:Act) (w1:h_),Map.le ι b9->fp B b9 (bM (I i)) N a1->aO B b9 gF w1->cZ gF (J i)->eG gF next->(∀ k,k<next->ak (J 0) k=none->gF k=cc k)->
   (∀ t,vD (.loop b) t=false->a1.tmps.getD t undef=a.tmps.getD t undef)->Code.roundsIn (FW R) 0 P b Q (d+1) a1 w1:=by
  intro d;induction d with
  |zero=>
   intro i hi b9 gF a1 w1 jy iq c8 eC dO iu jn;have:i=n:=by omega
   subst this;rw[FN];refine last R b9 gF a1 w1 _ iq c8 eC dO λdQ qP a2 w2 lg iX dE gO eM fX oT=>?_;have:=hQ dQ qP a2 w2 (jy.trans lg) iX dE gO eM (λk hk h0=>(fX k hk ((kJ i k (bF _)).2 h0)).trans (iu k hk h0)) λt ht=>(oT t ht).trans (jn t ht);show Exit.then _ Q r.ex.BV a2 w2;cases hx:r.ex with
   |normal=>exact absurd hx hr
   |exit id=>rw[hx]at this;exact this
   |ret=>rw[hx]at this;exact this
  |succ d ih=>
   intro i hi b9 gF a1 w1 jy iq c8 eC dO iu jn;rw[FN];refine body i o_ R b9 gF a1 w1 _ iq c8 eC dO λdQ qP a2 w2 lg iX dE gO eM fX oT=>?_;exact ih (i+1) o_ dQ qP a2 w2 (jy.trans lg) iX dE gO eM (λk hk h0=>(fX k hk ((kJ i k o_).2 h0)).trans (iu k hk h0)) λt ht=>(oT t ht).trans (jn t ht)
 exact key n 0 o_ ι cc a w (Map.le.refl _) hf hm ha hu (λ_ _ _=>rfl) λ_ _=>rfl
theorem Kz:∀{v v1 v2:i_},aM ι v v1->aM ι v v2->v1=v2:=by
 intro v v1 v2 h;revert v2;apply aM.rec (motive_1:=λv v1 _=>∀ v2,aM ι v v2->v1=v2) (motive_2:=λl l1 _=>∀ l2,bY (aM ι) l l2->l1=l2) (t:=h)
 case same=>intro v hf v2 h2;exact(h2.fH hf).symm
 case ptr=>
  intro k off b o cap hk v2 h2;obtain⟨b',o',aT,h3,h4⟩:=h2.xK rfl;rw[hk]at h3;injection h3 with h3;injection h3 with h3 h5 _;subst h3;subst h5;rw[h4]
 case slc=>
  intro k off b o n c c' cap hk h1 h2 v2 h3;rcases h3.iM rfl with ⟨h4,_⟩|⟨b',o',aT,c2,h4,_,h6,h7⟩
  ·rw[hk]at h4;cases h4
  ·rw[hk]at h4;injection h4 with h4;injection h4 with h4 h5 h8;subst h4;subst h5;subst h8;rw[h7,show c'=c2 by omega]
 case slcN=>
  intro k hk v2 h3;rcases h3.iM rfl with ⟨_,_,_,_,h4⟩|⟨b',o',aT,c2,h4,_⟩
  ·exact h4.symm
  ·rw[hk]at h4;cases h4
 case opq=>
  intro k v hk h1 h2 v2 h3;cases h3 with
  |same hf=>simp[flat,rM,qa,pY,nH]at hf
  |opq gV _ _=>rw[hk]at gV;injection gV with gV;injection gV
 case fn=>
  intro f fi kE ca dM _ _ TB TC v2 h3;obtain⟨fi2,ca2,e,h4,h5⟩:=h3.BL;rw[e,TB _ h4,TC _ h5]
 case agg=>
  intro cs ct _ ih v2 h3;obtain⟨cs2,e,h4⟩:=h3.HU;rw[e,ih _ h4]
 case tup=>
  intro cs ct _ ih v2 h3;obtain⟨cs2,e,h4⟩:=h3.vt;rw[e,ih _ h4]
 case nil=>intro l2 h2;cases h2;rfl
 case cons=>
  intro a b l m _ _ TB TC l2 h2;cases h2 with
  |cons h3 h4=>rw[TB _ h3,TC _ h4]
theorem FP{ι:Map}:∀{l l1 l2:al},bY (aM ι) l l1->bY (aM ι) l l2->l1=l2
 |_,_,_,.nil,h=>by cases h;rfl
 |_,_,_,.cons h t,h2=>by cases h2 with|cons h3 t3=>rw[Kz h h3,FP t t3]
def H6(m:Nat)(a:Addr):Bool:=nH a||Nat.blt a.block m
def DA(m:Nat):Value->Bool
 |.pointer (some a)=>H6 m a
 |.slice (some a) _ _=>H6 m a
 |.agg _=>false
 |.tuple _=>false
 |.func _ _ _=>false
 |_=>true
def DB(m:Nat):Value->Bool
 |.func _ fi ca=>fi.toList.all (DA m)&&ca.toList.all (DA m)
 |v=>DA m v
def FQ(m:Nat):Value->Bool
 |.agg cs=>cs.toList.all (DB m)
 |v=>DB m v
def l5(m:Nat):Value->Bool
 |.tuple vs=>vs.toList.all (FQ m)
 |v=>FQ m v
theorem Oe{v:i_}(h:pY v=true):DA m v=true:=by
 cases v with
 |pointer a=>cases a with
  |none=>rfl
  |some a=>show(nH a||_)=true;rw[show nH a=true from h];rfl
 |slice a n c=>cases a with
  |none=>rfl
  |some a=>show(nH a||_)=true;rw[show nH a=true from h];rfl
 |_=>exact h
theorem Of{v:i_}(h:qa v=true):DB m v=true:=by
 cases v with
 |func f fi ca=>
  simp only[qa,dc,bC]at h;simp only[DB,dc,bC];exact⟨λc hc=>Oe (h.1 c hc),λc hc=>Oe (h.2 c hc)⟩
 |pointer a=>exact Oe (v:=.pointer a) h
 |slice a n c=>exact Oe (v:=.slice a n c) h
 |_=>first|rfl|exact h
theorem KA{v:i_}(h:rM v=true):FQ m v=true:=by
 cases v with
 |agg cs=>
  simp only[rM,bC]at h;simp only[FQ,bC];exact λc hc=>Of (h c hc)
 |pointer a=>exact Of (v:=.pointer a) h
 |slice a n c=>exact Of (v:=.slice a n c) h
 |func f fi ca=>exact Of (v:=.func f fi ca) h
 |_=>first|rfl|exact h
theorem gP{v:i_}(h:flat v=true):l5 m v=true:=by
 cases v with
 |tuple cs=>
  simp only[flat,bC]at h;simp only[l5,bC];exact λc hc=>KA (h c hc)
 |pointer a=>exact KA (v:=.pointer a) h
 |slice a n c=>exact KA (v:=.slice a n c) h
 |func f fi ca=>exact KA (v:=.func f fi ca) h
 |agg cs=>exact KA (v:=.agg cs) h
 |_=>first|rfl|exact h
theorem aM.low(tf:∀ k,k<m->∀ l,ι k=some l->κ k=some l){v:i_}(h:aM ι v v')(hb:l5 m v=true):aM κ v v':=by
 have addr:∀(a:Addr) (s:Nat),a.spot=some s->H6 m a=true->a.block<m:=by intro a s hs h;unfold H6 nH at h;rw[hs]at h;simpa[BX]using h
 have hP:∀ v v',aM ι v v'->DA m v=true->aM κ v v':=by
  intro v v' h hb;cases h with
  |same hf=>exact .same hf
  |ptr hk=>exact .ptr (tf _ (addr _ 7 rfl hb) _ hk)
  |slc hk h1 h2=>exact .slc (tf _ (addr _ 7 rfl hb) _ hk) h1 h2
  |slcN hk=>exact .slcN (tf _ (addr _ 7 rfl hb) _ hk)
  |opq hk h1 h2=>exact .opq (tf _ (addr _ 9 rfl hb) _ hk) h1 h2
  |_=>simp[DA]at hb
 have vp:∀(Q:Value->Bool),(∀ v v',aM ι v v'->Q v=true->aM κ v v')->∀ l l',bY (aM ι) l l'->(∀ c∈l,Q c=true)->bY (aM κ) l l':=by
  intro Q hQ l l' h;induction h with
  |nil=>intro _;exact .nil
  |cons h t ih=>
   intro hl;exact .cons (hQ _ _ h (hl _ (aR ..))) (ih λc hc=>hl c (bK _ hc))
 have h0:∀ v v',aM ι v v'->DB m v=true->aM κ v v':=by
  intro v v' h hb;cases h with
  |fn h1 h2=>
   simp only[DB,dc,bC]at hb;exact .fn (vp _ hP _ _ h1 hb.1) (vp _ hP _ _ h2 hb.2)
  |same hf=>exact .same hf
  |ptr hk=>exact hP _ _ (.ptr hk) hb
  |slc hk h1 h2=>exact hP _ _ (.slc hk h1 h2) hb
  |slcN hk=>exact hP _ _ (.slcN hk) hb
  |opq hk h1 h2=>exact hP _ _ (.opq hk h1 h2) hb
  |_=>simp[DB,DA]at hb
 have h1:∀ v v',aM ι v v'->FQ m v=true->aM κ v v':=by
  intro v v' h hb;cases h with
  |agg h1=>
   simp only[FQ,bC]at hb;exact .agg (vp _ h0 _ _ h1 hb)
  |same hf=>exact .same hf
  |ptr hk=>exact h0 _ _ (.ptr hk) hb
  |slc hk h1 h2=>exact h0 _ _ (.slc hk h1 h2) hb
  |slcN hk=>exact h0 _ _ (.slcN hk) hb
  |opq hk h1 h2=>exact h0 _ _ (.opq hk h1 h2) hb
  |fn h1 h2=>exact h0 _ _ (.fn h1 h2) hb
  |_=>simp[FQ,DB,DA]at hb
 cases h with
 |tup h2=>
  simp only[l5,bC]at hb;exact .tup (vp _ h1 _ _ h2 hb)
 |same hf=>exact .same hf
 |ptr hk=>exact h1 _ _ (.ptr hk) hb
 |slc hk q1 q2=>exact h1 _ _ (.slc hk q1 q2) hb
 |slcN hk=>exact h1 _ _ (.slcN hk) hb
 |opq hk q1 q2=>exact h1 _ _ (.opq hk q1 q2) hb
 |fn q1 q2=>exact h1 _ _ (.fn q1 q2) hb
 |agg q1=>exact h1 _ _ (.agg q1) hb
def fR(m:Nat)(x:Obj):Prop:=∀ v∈x.cells,l5 m v=true
theorem ke.below(tf:∀ k,k<m->∀ l,ι k=some l->κ k=some l){l:qc}{x:Obj}(h:ke ι w l x)(hb:fR m x):ke κ w l x:=by
 have vp:∀{l l':al},bY (aM ι) l l'->(∀ c∈l,l5 m c=true)->bY (aM κ) l l':=by
  intro l l' h hl;induction h with
  |nil=>exact .nil
  |cons h t ih=>exact .cons (h.low tf (hl _ (aR ..))) (ih λc hc=>hl c (bK _ hc))
 cases x with
 |aI cells ty=>obtain⟨b,ct,h1,h2,h3⟩:=h;exact⟨b,ct,h1,vp h2 hb,h3⟩
 |row cells ty size=>
  rcases h with h|⟨b,cap,cur,h1,h2,h3,h4,h5⟩
  ·exact .inl h
  ·exact .inr ⟨b,cap,cur,h1,h2,h3,h4,vp h5 hb⟩
 |view cells=>
  rcases h with h|⟨b,o,cap,ct,h1,h2,h3⟩
  ·exact .inl h
  ·exact .inr ⟨b,o,cap,ct,h1,vp h2 hb,h3⟩
 |fact F=>exact h
 |dead=>trivial
theorem ah.reset{c:Code}{next:Nat}{r2:nh}(h:ah P B N c fr M next r1)(hex:r1.ex=r2.ex)(nL:∀ p∈r2.fr,bM r1.fr p.1=p.2)(Og:∀ p∈r2.fr,l5 next p.2=true)
  (hM:∀ p∈r2.M,ak r1.M p.1=some p.2) (TD:∀ p∈r2.M,fR next p.2) (Oh:∀ p∈r2.M,p.1<next) (hn:next<=r2.next):ah P B N c fr M next r2:=by
 intro R ι cc a w Q hf hm ha hu hQ;refine h R ι cc a w Q hf hm ha hu λb9 gF a1 w1 jy iq c8 eC dO iu jn=>?_;rw[hex];have tf:∀ k,k<next->∀ l,b9 k=some l->(λk=>if k<next then b9 k else none) k=some l:=λk hk l e=>by simp[hk,e]
 have B5:∀ k l,(λk=>if k<next then b9 k else none) k=some l->k<next/\b9 k=some l:=λk l e=>by
  dsimp only at e;split at e
  ·rename_i hk;exact⟨hk,e⟩
  ·cases e
 generalize (λk=>if k<next then b9 k else none)=κ at tf B5;have hle:Map.le ι κ:=λk l e=>by
  have hk:k<next:=by
   rcases fo k next with h|h
   ·exact h
   ·rw[hm.dD k (hu k h)]at e;cases e
  exact tf k hk l (jy k l e)
 -- what is kept: what was not looked at,and what is known;the rest is dead
 have aI3:∃ c2:Nat->Option Obj,(∀ k,c2 k=none↔(next<=k\/gF k=none))/\(∀ k x,c2 k=some x->x=.dead\/(gF k=some x/\((ak M k=none)\/ak r2.M k=some x)))/\(∀ k x,ak r2.M k=some x->c2 k=some x)/\(∀ k,k<next->ak M k=none->ak r2.M k=none->c2 k=gF k):=by
  refine⟨λk=>if k<next then(match gF k with|none=>none|some x=>match ak r2.M k with|some y=>some y|none=>match ak M k with|none=>some x|some _=>some .dead)else none,?_,?_,?_,?_⟩
  ·intro k;dsimp only;by_cases hk:k<next
   ·rw[aA hk];cases hc:gF k with
    |none=>simp
    |some x=>cases h2:ak r2.M k<;>cases h3:ak M k<;>simp<;>omega
   ·rw[au hk];simp;left;omega
  ·intro k x hx;dsimp only at hx;split at hx
   ·cases hc:gF k with
    |none=>rw[hc]at hx;cases hx
    |some y=>
     rw[hc]at hx;dsimp only at hx;cases h2:ak r2.M k with
     |some z=>
      rw[h2]at hx;injection hx with hx;subst hx;have:=eC k z (hM _ (kW h2));rw[hc]at this;exact .inr ⟨this,.inr rfl⟩
     |none=>
      rw[h2]at hx;dsimp only at hx;cases h3:ak M k with
      |none=>rw[h3]at hx;injection hx with hx;subst hx;exact .inr ⟨rfl,.inl rfl⟩
      |some z=>rw[h3]at hx;injection hx with hx;exact .inl hx.symm
   ·cases hx
  ·intro k x hx;have h1:=eC k x (hM _ (kW hx));have h2:=Oh _ (kW hx);dsimp only at h2 ⊢;rw[aA h2,h1];dsimp only;rw[hx]
  ·intro k hk h1 h2;dsimp only;rw[aA hk];cases hc:gF k with
   |none=>rfl
   |some x=>rw[h2,h1]
 obtain⟨c2,d1,d2,d3,d4⟩:=aI3;have FR:∀ k x,c2 k=some x->x.owns=true->gF k=some x:=λk x hk hx=>by
  rcases d2 k x hk with rfl|⟨h1,_⟩
  ·cases hx
  ·exact h1
 have dE:aO B κ c2 w1:=by
  refine⟨c8.base,?_,?_,?_,?_,?_,?_,?_,?_,hm.pk.trans hle⟩
  ·intro k hk;cases aI4:κ k with
   |none=>rfl
   |some l=>
    obtain⟨q1,q2⟩:=B5 k l aI4;rcases(d1 k).1 hk with q|q
    ·omega
    ·rw[c8.dD k q]at q2;cases q2
  ·intro k x hk;have oU:k<next:=by
    rcases fo k next with h|h
    ·exact h
    ·rw[(d1 k).2 (.inl h)]at hk;cases hk
   have gY:∃ y,gF k=some y:=by
    cases hc:gF k with
    |some y=>exact⟨y,rfl⟩
    |none=>rw[(d1 k).2 (.inr hc)]at hk;cases hk
   obtain⟨y,hy⟩:=gY;obtain⟨l,q1,q2⟩:=c8.born k y hy;refine⟨l,tf k oU l q1,?_⟩;rcases d2 k x hk with rfl|⟨h1,h2⟩
   ·trivial
   ·rw[hy]at h1;injection h1 with h1;subst h1;rcases h2 with h2|h2
    ·-- as it was
     have e0:cc k=some y:=(iu k oU h2).symm.trans hy;obtain⟨l0,p1,p2⟩:=hm.born k y e0;have p3:=jy k l0 p1;rw[q1]at p3;injection p3 with p3;subst p3;cases y with
     |aI cells ty=>
      obtain⟨b,ct,e1,e2,e3⟩:=q2;obtain⟨b0,cs0,f1,f2,f3⟩:=p2;rw[e1]at f1;injection f1 with f1 _ _;subst f1;have:ct=cs0:=FP e2 (oN jy f2);subst this;exact⟨b,ct,e1,oN hle f2,e3⟩
     |row cells ty size=>
      rcases q2 with q2|⟨b,cap,cur,e1,e2,e3,e4,e5⟩
      ·exact .inl q2
      ·rcases p2 with p2|⟨b0,aI5,aWJ,f1,f2,f3,f4,f5⟩
       ·rw[e1]at p2;cases p2.1
       ·have:=FP e5 (oN jy f5);exact .inr ⟨b,cap,cur,e1,e2,e3,e4,by rw[this];exact oN hle f5⟩
     |view cells=>
      rcases q2 with q2|⟨b,o,cap,ct,e1,e2,e3⟩
      ·exact .inl q2
      ·rcases p2 with p2|⟨b0,o0,aI5,cs0,f1,f2,f3⟩
       ·rw[e1]at p2;cases p2.1
       ·have:=FP e2 (oN jy f2);subst this;exact .inr ⟨b,o,cap,ct,e1,oN hle f2,e3⟩
     |fact F=>exact q2
     |dead=>trivial
    ·exact q2.below tf (TD _ (kW h2))
  ·intro k x b o cap hk hx hl;exact c8.own k x b o cap (FR k x hk hx) hx (B5 k _ hl).2
  ·intro i j x y b o1 c1 o3 c3 hi hx hj hy hl cD;exact c8.inj i j x y b o1 c1 o3 c3 (FR i x hi hx) hx (FR j y hj hy) hy (B5 i _ hl).2 (B5 j _ cD).2
  ·intro i j x F b o cap v hi hx hl hj hv;have gU:gF j=some (.fact F):=by
    rcases d2 j _ hj with h|⟨h,_⟩
    ·cases h
    ·exact h
   exact c8.apart i j x F b o cap v (FR i x hi hx) hx (B5 i _ hl).2 gU (B5 j _ hv).2
  ·intro k x b o cap hk hx hl;have aI6:gF k=some x:=by
    rcases d2 k x hk with rfl|⟨h1,_⟩
    ·cases hx
    ·exact h1
   obtain⟨q1,q2⟩:=c8.seen k x b o cap aI6 hx (B5 k _ hl).2;exact⟨q1,λj y o' aT hj hy hm=>q2 j y o' aT (FR j y hj hy) hy (B5 j _ hm).2⟩
  ·intro j F hj;rcases d2 j _ hj with h|⟨h,_⟩
   ·cases h
   ·exact c8.fa j F h
  ·intro i j F F' hi hj;rcases d2 i _ hi with h|⟨h,_⟩
   ·cases h
   ·rcases d2 j _ hj with h'|⟨h',_⟩
    ·cases h'
    ·exact c8.one i j F F' h h'
 refine hQ κ c2 a1 w1 hle ⟨iq.defers,iq.size,λt=>?_⟩ dE (λk x hk=>d3 k x hk) (λk hk=>(d1 k).2 (.inl (dq hn hk))) (λk hk h1=>?_) jn
 ·have hs:=(aAn iq nL).slot t;have:∀(l:aU),(∀ p∈l,l5 next p.2=true)->oe b9 (bM l t) (a1.tmps.getD t undef)->oe κ (bM l t) (a1.tmps.getD t undef):=by
   intro l;induction l with
   |nil=>intro _ _;exact .inl rfl
   |cons p l ih=>
    intro hl hc;obtain⟨s,v⟩:=p;by_cases bW:s=t
    ·subst bW;have e:bM ((s,v)::l) s=v:=by simp[bM]
     rw[e]at hc ⊢;exact hc.imp id λhc=>hc.low tf (hl _ (aR ..))
    ·have e:bM ((s,v)::l) t=bM l t:=by show(if Nat.beq s t then _ else _)=_;rw[om bW];rfl
     rw[e]at hc ⊢;exact ih (λp hp=>hl p (bK _ hp)) hc
  exact this r2.fr Og hs
 ·cases h2:ak r2.M k with
  |none=>rw[d4 k hk h1 h2,iu k hk h1]
  |some x=>rw[d3 k x h2,<-iu k hk h1];exact(eC k x (hM _ (kW h2))).symm
end
section
variable{P:j_}{B:aa}{N:Nat}
def Oi(P:j_)(fr:aU)(M:aL):ResultVar->Option Value
 |.tmp t=>if nJ (bM fr t)then none else some (bM fr t)
 |.cell t ty=>match bM fr t with
  |.pointer (some ad)=>if nI ad then(match ak M ad.block with|some x=>if x.reads then dU P ty x.cells ad.off else none|none=>none)else none
  |_=>none
def KB(P:j_)(fr:aU)(M:aL):List ResultVar->Option al
 |[]=>some []
 |r::l=>match Oi P fr M r with
  |some v=>match KB P fr M l with|some vs=>some (v::vs)|none=>none
  |none=>none
def B6(P:j_)(fn:Func)(fr:aU)(M:aL):Option Value:=
 match KB P fr M fn.results.toList with
 |some [v]=>some v
 |some vs=>some (.tuple vs.toArray)
 |none=>none
def rv(tmps:p_):ResultVar->Sem Value
 |.tmp t=>pure (tmps.getD t undef)
 |.cell x t=>do loadVar t (<-asAddr (tmps.getD x undef))
theorem aI7{cc:Nat->Option Obj}{a:Act}(hf:fp B ι (bM fr) N a)(hm:aO B ι cc w)(ha:cZ cc M){r:ResultVar}{v:i_}
  (h:Oi P fr M r=some v):∃ v',aM ι v v'/\(rv a.tmps r).run P w=.ok v' w:=by
 cases r with
 |tmp t=>
  unfold Oi at h;dsimp only at h;split at h
  ·cases h
  ·rename_i hn;injection h with h;subst h;exact⟨_,(hf.slot t).BM (by simpa using hn),rfl⟩
 |cell t ty=>
  unfold Oi at h;dsimp only at h;split at h
  ·rename_i ad hx;split at h
   ·rename_i ee;split at h
    ·rename_i x hblk;split at h
     ·rename_i hrd;have hc:=hf.slot t;rw[hx]at hc;have hc:=hc.BM rfl;rw[Du ee]at hc;obtain⟨v',a',he,uo,qL⟩:=Zw hm (ha _ _ hblk) hrd h hc;refine⟨v',uo,?_⟩;unfold rv;dsimp only;rw[he];simp[asAddr,qL]
     ·cases h
    ·cases h
   ·cases h
  ·cases h
theorem aAo{ι:Map}{cc:Nat->Option Obj}{fr:aU}{M:aL}{a:Act}{w:h_}(hf:fp B ι (bM fr) N a)(hm:aO B ι cc w)(ha:cZ cc M):∀(l:List ResultVar) {vs:al},
  KB P fr M l=some vs->∃ cX,bY (aM ι) vs cX/\(l.mapM (rv a.tmps)).run P w=.ok cX w
 |[],vs,h=>by injection h with h;subst h;exact⟨[],.nil,rfl⟩
 |r::l,vs,h=>by
  unfold KB at h;split at h
  ·rename_i v hv;split at h
   ·rename_i vs1 aW;injection h with h;subst h;obtain⟨v',hc,qL⟩:=aI7 hf hm ha hv;obtain⟨cX,gv,aI8⟩:=aAo hf hm ha l aW;refine⟨v'::cX,.cons hc gv,?_⟩;rw[KC,Kj,qL,Result.andThen_ok,Kj,aI8,Result.andThen_ok];rfl
   ·cases h
  ·cases h
theorem Oj{cc:Nat->Option Obj}{a:Act}(hf:fp B ι (bM fr) N a)(hm:aO B ι cc w)(ha:cZ cc M){v:i_}
  (h:B6 P fn fr M=some v):∃ v',aM ι v v'/\(results fn a.tmps).run P w=.ok v' w:=by
 unfold B6 at h;cases hr:KB P fr M fn.results.toList with
 |none=>rw[hr]at h;cases h
 |some vs=>
  obtain⟨cX,gv,qL⟩:=aAo hf hm ha _ hr;have e:(results fn a.tmps).run P w=.ok (if h:cX.toArray.size=1 then cX.toArray[0]else .tuple cX.toArray) w:=by
   have e0:results fn a.tmps=(do let vs <-fn.results.mapM (rv a.tmps);pure (if h:vs.size=1 then vs[0]else .tuple vs)):=by
    unfold results
    congr 1
   rw[e0];rw[Array.mapM_eq_mapM_toList,Kj,Sem.run_map,qL];rfl
  rw[e];rw[hr]at h;cases gv with
  |nil=>injection h with h;subst h;exact⟨_,.same rfl,by simp⟩
  |cons h1 t1=>
   cases t1 with
   |nil=>injection h with h;subst h;exact⟨_,h1,by simp⟩
   |cons h2 t2=>injection h with h;subst h;exact⟨_,.tup (.cons h1 (.cons h2 t2)),by simp⟩
def jb:Nat->al->aU
 |_,[]=>[]
 |i,v::l=>(i,v)::jb (i+1) l
theorem Ol{ι:Map}:∀{l l':al},bY (aM ι) l l'->∀(i t:Nat) (tail:al),oe ι (bM (jb i l) t) (if i<=t then(l'++tail).getD (t-i) undef else undef)\/nJ (bM (jb i l) t)=true
 |_,_,.nil,i,t,tail=>.inr rfl
 |_,_,.cons (a:=v) (b:=v') (l:=l) (m:=m) h k,i,t,tail=>by
  by_cases Ab:i=t
  ·subst Ab;left;right;have e:bM (jb i (v::l)) i=v:=by simp[jb,bM]
   rw[e];simpa using h
  ·have e:bM (jb i (v::l)) t=bM (jb (i+1) l) t:=by show(if Nat.beq i t then _ else _)=_;rw[om Ab];rfl
   rw[e];rcases Ol k (i+1) t tail with h1|h1
   ·left;by_cases ao:i+1<=t
    ·rw[aA ao]at h1;rw[aA o_];have:t-i=(t-(i+1))+1:=by omega
     rw[this];simpa using h1
    ·by_cases hle:i<=t
     ·omega
     ·rw[au ao]at h1;rw[au hle];exact h1
   ·exact .inr h1
theorem aAp{c:Code}{Q:Exit->Act->World->Prop}{a:Act}{n:Nat}(h:c.wpIn (FW none) n P Q a w):c.wp P Q a w:=wpIn_wide.1 h
theorem aI9{c:Code}{next:Nat}{r:nh}{v:i_}{cc:Nat->Option Obj}
  (hf:P.funcs[f]?=some fn) (hb:fn.body=some c) (hN:N=args.length+(fn.ntmps-args.length)) (g:ah P B N c (jb 0 args) M next r) (hex:(match r.ex with|.exit _=>false|_=>true)=true)
  (hv:B6 P fn r.fr r.M=some v) (dP:bY (aM ι) args args') (hm:aO B ι cc w) (ha:cZ cc M) (hu:eG cc next)
  (hQ:∀ aB cr v' w',Map.le ι aB->aM aB v v'->aO B aB cr w'->cZ cr r.M->eG cr r.next->(∀ k,k<next->ak M k=none->cr k=cc k)->Q (.returned v') w') (nM:B.ds=[]:=by rfl):Calls P f args'.toArray w Q:=by
 refine calls_of_wp hf hb ?_;have nL:fp B ι (bM (jb 0 args)) N { tmps:=args'.toArray++Array.replicate (fn.ntmps-args'.toArray.size) undef,defers:=[]}:=by
  refine⟨nM.symm,by simp[hN,dP.length],λt=>?_⟩;rcases Ol dP 0 t (List.replicate (fn.ntmps-args'.length) undef)with h|h
  ·simp only[lY,rO,H7]at h;have e:(args'.toArray++Array.replicate (fn.ntmps-args'.toArray.size) undef).getD t undef=(args'++List.replicate (fn.ntmps-args'.length) undef).getD t undef:=by simp[qO,FC,<-Array.getElem?_toList]
   dsimp only;rw[e];exact h
  ·exact .inl h
 refine aAp (g none ι cc _ w _ nL hm ha hu λaB cr a' w' hle xV bJ jx qe gV _=>by
  obtain⟨v',hc,qL⟩:=Oj (fn:=fn) xV bJ jx hv;have fin:=hQ aB cr v' w' hle hc bJ jx qe gV;cases hx:r.ex with
  |normal=>exact⟨xV.defers.trans nM,v',qL,fin⟩
  |ret=>exact⟨xV.defers.trans nM,v',qL,fin⟩
  |exit id=>rw[hx]at hex;cases hex)
def iv(fn:Func)(n:Nat)(args:al)(M:aL)(next:Nat)(rs:bN P B N):Option (Value×kG P B N):=
 match fn.body with
 |some c=>match jw n c (jb 0 args) M next rs with
  |some r=>match (match r.ex with|.exit _=>none|_=>B6 P fn r.fr r.M)with
   |some v=>some (v,r)
   |none=>none
  |none=>none
 |none=>none
def pv(o:Option (Value×kG P B N))(ms:aL):Bool×Option (Value×List (Option Obj)×List oR):=
 match o with
 |some r=>(true,some (r.1,ms.map λp=>ak r.2.M p.1,r.2.tr.map (·.1)))
 |none=>(true,none)
def pw(o:Option (Value×kG P B N))(v:i_)(ms:aL):Bool×Option (Value×List (Option Obj)×List oR):=
 match o with
 |some r=>(true,some (v,ms.map λp=>some p.2,r.2.tr.map (·.2)))
 |none=>(false,none)
theorem Om:∀{tr:wM},tr.map (·.1)=tr.map (·.2)->s7 tr
 |[],_=>λp hp=>by cases hp
 |q::l,h=>by
  simp only[mL]at h;injection h with h1 h2;intro p hp;rcases cE.1 hp with rfl|hp
  ·exact h1
  ·exact Om h2 p hp
theorem On{M:aL}:∀{ms:aL},(ms.map λp=>ak M p.1)=(ms.map λp=>some p.2)->∀ p∈ms,ak M p.1=some p.2
 |[],_=>λp hp=>by cases hp
 |q::l,h=>by
  simp only[mL]at h;injection h with h1 h2;intro p hp;rcases cE.1 hp with rfl|hp
  ·exact h1
  ·exact On h2 p hp
theorem TE{next:Nat}{rs:bN P B N}{v:i_}{cc:Nat->Option Obj}(ja:P.follows .mixedOrders=true)
  (hf:P.funcs[f]?=some fn) (hN:N=args.length+(fn.ntmps-args.length)) (n:Nat) (h:pv (iv (P:=P) fn n args M next rs) ms=pw (iv fn n args M next rs) v ms)
  (dP:bY (aM ι) args args') (hm:aO B ι cc w) (ha:cZ cc M) (hu:eG cc next)
  (hQ:∀ aB cr v' w',Map.le ι aB->aM aB v v'->aO B aB cr w'->(∀ p∈ms,cr p.1=some p.2)->(∀ k,k<next->ak M k=none->cr k=cc k)->Q (.returned v') w') (nM:B.ds=[]:=by rfl):Calls P f args'.toArray w Q:=by
 cases ho:iv (P:=P) fn n args M next rs with
 |none=>rw[ho]at h;cases h
 |some r=>
  rw[ho]at h;unfold pv pw at h;dsimp only at h;injection h with _ h;injection h with h;injection h with h1 h;injection h with h2 h3;have hs:=Om h3;have dW:=On h2;unfold iv at ho;split at ho
  ·rename_i c hb;split at ho
   ·rename_i r' hr;split at ho
    ·rename_i v' hv;injection ho with ho;subst ho;dsimp only at h1 hs dW;subst h1;have g:=((Ty (P:=P) (B:=B) (N:=N) ja n).1 c _ M next rs r' hr hs).1;have hex:(match r'.out.ex with|.exit _=>false|_=>true)=true:=by
      show(match r'.ex with|.exit _=>false|_=>true)=true;cases hx:r'.ex with
      |exit id=>rw[hx]at hv;cases hv
      |normal=>rfl
      |ret=>rfl
     have rP:B6 P fn r'.out.fr r'.out.M=some v':=by
      show B6 P fn r'.fr r'.M=some v';cases hx:r'.ex with
      |exit id=>rw[hx]at hv;cases hv
      |normal=>rw[hx]at hv;exact hv
      |ret=>rw[hx]at hv;exact hv
     exact aI9 hf hb hN g hex rP dP hm ha hu (λaB cr v2 w' hle hc bJ jx qe gV=>hQ aB cr v2 w' hle hc bJ (λp hp=>jx _ _ (dW p hp)) gV) nM
    ·cases ho
   ·cases ho
  ·cases ho
theorem vH{next:Nat}{rs:bN P B N}{v:i_}{cc:Nat->Option Obj}(ja:P.follows .mixedOrders=true)
  (hf:P.funcs[f]?=some fn) (hN:N=args.length+(fn.ntmps-args.length)) (n:Nat) (h:pv (iv (P:=P) fn n args M next rs) ms=pw (iv fn n args M next rs) v ms)
  (dP:bY (aM ι) args args') (hm:aO B ι cc w) (ha:cZ cc M) (hu:eG cc next)
  (hQ:∀ aB cr v' w',Map.le ι aB->aM aB v v'->aO B aB cr w'->(∀ p∈ms,cr p.1=some p.2)->Q (.returned v') w') (nM:B.ds=[]:=by rfl):Calls P f args'.toArray w Q:=
 TE ja hf hN n h dP hm ha hu (λaB cr v' w' h1 h2 h3 h4 _=>hQ aB cr v' w' h1 h2 h3 h4) nM
def KD(o:Option (kG P B N))(fr:aU)(M:aL):Bool×Option (Ex×al×List (Option Obj)×Bool×List oR):=
 match o with
 |some r=>(true,some (r.ex,fr.map λp=>bM r.fr p.1,M.map λp=>ak r.M p.1,true,r.tr.map (·.1)))
 |none=>(true,none)
def KE(o:Option (kG P B N))(ex:Ex)(fr:aU)(M:aL)(next:Nat):Bool×Option (Ex×al×List (Option Obj)×Bool×List oR):=
 match o with
 |some r=>(true,some (ex,fr.map λp=>p.2,M.map λp=>some p.2,Nat.ble r.next next,r.tr.map (·.2)))
 |none=>(false,none)
theorem Oo{B4:aU}:∀{fr:aU},(fr.map λp=>bM B4 p.1)=(fr.map λp=>p.2)->∀ p∈fr,bM B4 p.1=p.2
 |[],_=>λp hp=>by cases hp
 |q::l,h=>by
  simp only[mL]at h;injection h with h1 h2;intro p hp;rcases cE.1 hp with rfl|hp
  ·exact h1
  ·exact Oo h2 p hp
theorem fv(ja:P.follows .mixedOrders=true){c:Code}{next:Nat}(n:Nat)(rs:bN P B N){r:nh}
  (h:KD (jw n c fr M next rs) r.fr r.M=KE (jw n c fr M next rs) r.ex r.fr r.M r.next):ah P B N c fr M next r:=by
 cases ho:jw n c fr M next rs with
 |none=>rw[ho]at h;cases h
 |some r1=>
  rw[ho]at h;unfold KD KE at h;dsimp only at h;injection h with _ h;injection h with h;injection h with h1 h;injection h with h2 h;injection h with h3 h;injection h with h4 h5;obtain⟨g,_⟩:=(Ty (P:=P) (B:=B) (N:=N) ja n).1 c fr M next rs r1 ho (Om h5);exact g.to h1 (Oo h2) (On h3) (sY h4.symm)
theorem rU(ja:P.follows .mixedOrders=true){c:Code}{next:Nat}(n:Nat)(rs:bN P B N){r:nh}{gG:Nat}
  (h:KD (jw n c fr M next rs) r.fr r.M=KE (jw n c fr M next rs) r.ex r.fr r.M gG) (hn:r.next=next) (Og:(r.fr.all λp=>l5 next p.2)=true) (TD:∀ p∈r.M,fR next p.2) (Oh:(r.M.all λp=>Nat.blt p.1 next)=true) :
  ah P B N c fr M next r:=by
 cases ho:jw n c fr M next rs with
 |none=>rw[ho]at h;cases h
 |some r1=>
  rw[ho]at h;unfold KD KE at h;dsimp only at h;injection h with _ h;injection h with h;injection h with h1 h;injection h with h2 h;injection h with h3 h;injection h with h4 h5;obtain⟨g,_⟩:=(Ty (P:=P) (B:=B) (N:=N) ja n).1 c fr M next rs r1 ho (Om h5);rw[bC]at Og Oh;exact g.reset h1 (Oo h2) Og (On h3) TD (λp hp=>by simpa[BX]using Oh p hp) (wG hn.symm)
def aH(P:j_)(f:FuncId)(args:al)(res:i_):Prop:=
 ∀ w:World,Calls P f args.toArray w λe w'=>e=.returned res/\Below w.heap.size w w'
theorem uE(w:h_):aO (aa.at w) (λ_=>none) (λ_=>none) w:=
 ⟨Below.refl _ _,λ_ _=>rfl,λk x h=>(by cases h),λk x b o cap h=>(by cases h),λk j x y b o cap o' aT h=>(by cases h),λk j x F b o cap v h=>(by cases h),λk x b o cap h=>(by cases h),λj F h=>(by cases h),λj k F F' h=>(by cases h),λ_ _ h=>(by cases h)⟩
theorem fk{v:i_}(ja:P.follows .mixedOrders=true)(hf:P.funcs[f]?=some fn)(n:Nat)(rs:∀ w,bN P (aa.at w) (args.length+(fn.ntmps-args.length)))
  (h:∀ w,pv (iv (P:=P) fn n args [] 0 (rs w)) []=pw (iv fn n args [] 0 (rs w)) v []) (dP:args.all flat=true) (hv:flat v=true):aH P f args v:=by
 intro w;rw[bC]at dP;exact vH ja hf rfl n (h w) (lE dP) (uE w) n_ (λ_ _=>rfl) λaB cr v' w' _ hc hm _=>⟨by rw[hc.fH hv],hm.base⟩
def aH.at(h:aH P f args res)(key:Nat):aZ P B N:=.call key f args res λw _=>h w
end
def dr(w:h_)(v:i_)(n:Nat)(xs:al):Prop:=
 (v=.slice none 0 0/\n=0/\xs=[])\/∃ b o c',v=.slice (some ⟨b,o,none⟩) n c'/\n<=c'/\b<w.heap.size/\∀ j u,xs[j]?=some u->w.cell? ⟨b,o+j,none⟩=some u
section
variable{P:j_}{B:aa}{N:Nat}
theorem dr.jU{v:i_}{n:Nat}(h:dr w v n xs)(hb:Below w.heap.size w w'):dr w' v n xs:=by
 rcases h with h|⟨b,o,c',h1,h2,h3,h4⟩
 ·exact .inl h
 ·exact .inr ⟨b,o,c',h1,h2,cH h3 hb.size,λj u hj=>by rw[hb.cell h3];exact h4 j u hj⟩
theorem dr.aAq{base:Nat}{v:i_}{n:Nat}(h:w.ownsRow base ty size v n xs):dr w v n xs:=by
 rcases h.2 with ⟨h1,h2⟩|⟨g,cap,cur,h1,h2,h3,h4,h5,h6,h7⟩
 ·have:=h.1;rw[h2,l9]at this;exact .inl ⟨h1,h2,lG this⟩
 ·refine .inr ⟨g,0,cap,h1,h4,(Ac.1 h3).1,λj u hj=>?_⟩;rw[<-h7,vx]at hj;split at hj
  ·have:cur[j]?=some u:=by simpa using hj
   simp[World.cell?,h3,this]
  ·cases hj
theorem pA(hm:aO B ι c w){n:Nat}{x:Obj}{v:i_}(hk:c k=some x)(hx:x.reads=true)(cV:∀ u∈x.cells,flat u=true)
  (hlen:n=0->len=0) (hc:aM ι (.slice (some ⟨k,off,some 7⟩) n cc) v):dr w v n ((x.cells.drop off).take len):=by
 rcases hc.iM rfl with ⟨hb,k9,qN,zX,he⟩|⟨b,oo,cap,c',hb,lF,nK,he⟩
 ·exact .inl ⟨he,k9,by rw[hlen k9];rfl⟩
 ·dsimp only at hb he;obtain⟨l,h1,h2⟩:=hm.born k x hk;rw[hb]at h1;injection h1 with h1;subst h1;obtain⟨ct,gv,lW⟩:=h2.at hx;have gv:=oj gv cV;subst gv;refine .inr ⟨b,oo+off,c',he,lF,?_,λj u hj=>?_⟩
  ·by_cases ho:x.owns=true
   ·exact(hm.own k x b oo cap hk ho hb).1
   ·have hv:x.kF=true:=by unfold Obj.reads at hx;rw[vG]at hx;exact hx.resolve_left ho
    exact(hm.seen k x b oo cap hk hv hb).1
  ·rw[vx]at hj;split at hj
   ·rw[Ft]at hj;rw[vz];exact lW _ _ hj
   ·cases hj
theorem Ad(hm:aO B ι c w){n:Nat}{v:i_}(hk:c k=none)(h:dr w v n xs)(cV:∀ u∈xs,flat u=true)
  (gi:∀ b o c',v=.slice (some ⟨b,o,none⟩) n c'->∀ j y o' aT,c j=some y->y.owns=true->ι j≠some (.at b o' aT)) :
  ∃ aB,Map.le ι aB/\aO B aB (bA c k (.view xs)) w/\aM aB (.slice (some ⟨k,0,some 7⟩) n 0) v:=by
 rcases h with ⟨h1,h2,h3⟩|⟨b,o,c',h1,h2,h3,h4⟩
 ·subst h1;subst h2;subst h3;exact⟨dT ι k .nil,hZ (hm.dD k hk),hm.add hk (.inl ⟨rfl,rfl⟩) n_ n_ n_,.slcN (gu _ _ _)⟩
 ·subst h1;refine⟨dT ι k (.at b o c'),hZ (hm.dD k hk),hm.add hk (.inr ⟨b,o,c',xs,rfl,lE cV,h4⟩) n_ n_ (λb1 o1 mG _ e=>?_),.slc (off:=0) (gu _ _ _) h2 o_⟩;injection e with e1 e2 e3;subst e1;exact⟨h3,λj y o' aT hj hy=>gi b o c' rfl j y o' aT hj hy⟩
theorem FT(hm:aO B ι c w)(hb:Below w.heap.size w w'){n:Nat}{v:i_}(hk:c k=none)(h:w'.ownsRow w.heap.size ty size v n xs)(cV:∀ u∈xs,flat u=true):
  ∃ aB,Map.le ι aB/\aO B aB (bA c k (.row xs ty size)) w'/\aM aB (.slice (some ⟨k,0,some 7⟩) n 0) v:=by
 have bJ:=hm.call hb;rcases h.2 with ⟨h1,h2⟩|⟨g,cap,cur,h1,h2,h3,h4,h5,h6,h7⟩
 ·have hl:=h.1;rw[h2,l9]at hl;have hx:xs=[]:=lG hl;subst h1;subst h2;subst hx;exact⟨dT ι k .nil,hZ (hm.dD k hk),bJ.add hk (.inl ⟨rfl,rfl⟩) n_ n_ n_,.slcN (gu _ _ _)⟩
 ·subst h1;refine⟨dT ι k (.at g 0 cap),hZ (hm.dD k hk),hm.new hb hk (.inr ⟨g,cap,cur,rfl,h3,h5,h6,?_⟩) (λb o cap _ e=>?_) n_ rfl,.slc (o:=0) (off:=0) (gu _ _ _) h4 o_⟩
  ·rw[h.1,h7];exact lE cV
  ·injection e with e1 e2 e3;subst e1;exact⟨h2,(Ac.1 h3).1⟩
theorem aAr(hm:aO B ι c w)(hb:Below w.heap.size w w'){n:Nat}{v:i_}(hk:c k=none)(h:w'.ownsRow w.heap.size ty size v n xs)(cV:∀ u∈xs,flat u=true):
  ∃ aB,Map.le ι aB/\aO B aB (bA c k (.view xs)) w'/\aM aB (.slice (some ⟨k,0,some 7⟩) n 0) v:=by
 refine Ad (hm.call hb) hk (.aAq h) cV λb o c' e j y o' aT hj hy he=>?_;have h1:=(hm.own j y b o' aT hj hy he).1;rcases h.2 with ⟨h2,_⟩|⟨g,cap,cur,h2,h3,_⟩
 ·rw[h2]at e;cases e
 ·rw[h2]at e;injection e with e1 e2;injection e1 with e1;injection e1 with e1;omega
theorem xX(hm:aO (aa.at w) ι c w'){n:Nat}{cells:al}{v:i_}(hk:c k=some (.row cells ty size))(hv:aM ι (.slice (some ⟨k,0,some 7⟩) n 0) v)
  (hn:n*size<=cells.length) (cV:∀ u∈cells,flat u=true):w'.ownsRow w.heap.size ty size v n (cells.take (n*size)):=by
 have hl:(cells.take (n*size)).length=n*size:=by rw[jV];omega
 refine⟨hl,?_⟩;rcases hv.iM rfl with ⟨hb,k9,qN,zX,he⟩|⟨b,oo,cap,c',hb,lF,nK,he⟩
 ·exact .inl ⟨he,k9⟩
 ·dsimp only at hb he;have lf:c'=cap:=by omega
  subst lf;obtain⟨l,h1,h2⟩:=hm.born k _ hk;rw[hb]at h1;injection h1 with h1;subst h1;have ee:=hm.own k _ b oo c' hk rfl hb;rcases h2 with h2|⟨b',aT,cur,e1,mY,dV,gv,jI⟩
  ·cases h2.1
  ·injection e1 with e1 e2 e3;subst e1;subst e2;subst e3;refine .inr ⟨b,c',cur,by rw[he],?_,mY,lF,dV,gv,?_⟩
   ·rcases fo b w.heap.size with h|h
    ·exact absurd h ee.2
    ·exact h
   ·have:=oj jI cV;have h3:=cS (List.take (n*size)) this;rw[NW,oQ hn]at h3;exact h3
inductive cJ where
 |plain (v:i_)
 |row (v:i_) (n:Nat) (xs:al)
def cJ.real:cJ->Value
 |.plain v=>v
 |.row v _ _=>v
def cJ.OK(w:h_):cJ->Prop
 |.plain v=>flat v=true
 |.row v n xs=>dr w v n xs/\∀ u∈xs,flat u=true
def tg:Nat->List cJ->al
 |_,[]=>[]
 |k,.plain v::l=>v::tg k l
 |k,.row _ n _::l=>.slice (some ⟨k,0,some 7⟩) n 0::tg (k+1) l
def vJ:Nat->List cJ->aL
 |_,[]=>[]
 |k,.plain _::l=>vJ k l
 |k,.row _ _ xs::l=>(k,.view xs)::vJ (k+1) l
def uF:Nat->List cJ->Nat
 |k,[]=>k
 |k,.plain _::l=>uF k l
 |k,.row _ _ _::l=>uF (k+1) l
theorem TF{w:h_}:∀(l:List cJ) (k:Nat) (ι:Map) (c:Nat->Option Obj),aO B ι c w->(∀ j x,c j=some x->x.owns=false)->eG c k->(∀ s∈l,cJ.OK w s)->
  ∃ aB c',Map.le ι aB/\aO B aB c' w/\(∀ j x,c' j=some x->x.owns=false)/\eG c' (uF k l)/\cZ c' (vJ k l)/\(∀ j,j<k->c' j=c j)/\bY (aM aB) (tg k l) (l.map cJ.real)/\k<=uF k l
 |[],k,ι,c,hm,ho,hu,_=>⟨ι,c,Map.le.refl _,hm,ho,hu,λk x h=>(by cases h),λ_ _=>rfl,.nil,bF _⟩
 |.plain v::l,k,ι,c,hm,ho,hu,hl=>by obtain⟨aB,c',h1,h2,h3,h4,h5,h6,h7,h8⟩:=TF l k ι c hm ho hu λs hs=>hl s (bK _ hs);exact⟨aB,c',h1,h2,h3,h4,h5,h6,.cons (.same (hl _ (aR ..))) h7,h8⟩
 |.row v n xs::l,k,ι,c,hm,ho,hu,hl=>by
  obtain⟨hr,cV⟩:=hl _ (aR ..);obtain⟨b9,q1,q2,q3⟩:=Ad hm (hu k (bF _)) hr cV λb o c' _ j y o' aT hj hy=>by rw[ho j y hj]at hy;cases hy
  obtain⟨aB,c',h1,h2,h3,h4,h5,h6,h7,h8⟩:=TF l (k+1) b9 _ q2 (λj x hj=>by
   unfold bA at hj;split at hj
   ·injection hj with hj;subst hj;rfl
   ·exact ho j x hj) (λj hj=>by
   unfold bA;rw[au o_];exact hu j o_) λs hs=>hl s (bK _ hs)
  refine⟨aB,c',q1.trans h1,h2,h3,h4,λj x hj=>?_,λj hj=>?_,.cons (q3.mono h1) h7,by show k<=uF (k+1) l;omega⟩
  ·unfold vJ ak at hj;split at hj
   ·rename_i hb;injection hj with hj;subst hj;rw[<-lI hb,h6 k o_];unfold bA;rw[aA rfl]
   ·exact h5 j x hj
  ·rw[h6 j o_];unfold bA;rw[au o_]
theorem mN{v:i_}(ja:P.follows .mixedOrders=true)(hf:P.funcs[f]?=some fn)(l:List cJ)(hl:∀ s∈l,cJ.OK w s)(n:Nat){N:Nat}(hN:N=(tg 0 l).length+(fn.ntmps-(tg 0 l).length))
  {rs:bN P (aa.at w) N}
  (h:pv (iv (P:=P) fn n (tg 0 l) (vJ 0 l) (uF 0 l) rs) ms=pw (iv fn n (tg 0 l) (vJ 0 l) (uF 0 l) rs) v ms)
  (hQ:∀ aB cr v' w',aM aB v v'->aO (aa.at w) aB cr w'->(∀ p∈ms,cr p.1=some p.2)->bY (aM aB) (tg 0 l) (l.map cJ.real)->Q (.returned v') w'):Calls P f (l.map cJ.real).toArray w Q:=by
 obtain⟨ι,c,h1,h2,h3,h4,h5,h6,h7,h8⟩:=TF (B:=aa.at w) l 0 _ _ (uE w) n_ (λ_ _=>rfl) hl;exact vH ja hf hN n h h7 h2 h5 h4 λaB cr v' w' hle hc hm dW=>hQ aB cr v' w' hc hm dW (h7.imp λ_ _ _ h=>h.mono hle)
def dC:Op->Option Operand
 |.call ⟨.value x,_,_⟩=>some x
 |_=>none
theorem kj{x:m_}{fi:al}{val:i_}{c9:aL}(ho:dC o.op=some x)(fq:gW P f=true)
  (h:∀ ι c w,aO B ι c w->(∀ p∈need,c p.1=p.2)->∀ args',bY (aM ι) (fi++args++ca) args'->Calls P f args'.toArray w λe w'=>∃ aB v',e=.returned v'/\Map.le ι aB/\aM aB val v'/\aO B aB (mH c c9) w') :
  cI P B o (.func (.func f) fi.toArray ca.toArray::args) need val c9:=by
 intro R ι c a w hv hm hn K Q hK;obtain⟨dst,op,ty,pos,after,guard⟩:=o;dsimp only at ho hv;unfold dC at ho;split at ho
 ·rename_i x' lZ xP;injection ho with ho;subst ho;have zU:(Op.operands (.call ⟨.value x',lZ,xP⟩)).toList=x'::lZ.toList:=by simp[Op.operands,Call.operands]
  rw[zU]at hv;cases hv with
  |cons hx sZ=>
  obtain⟨kE,dM,he,h1,h2⟩:=hx.BL;have bo:=(h1.append sZ).append h2;dsimp only at bo;have e3:execOp a.eval ⟨dst,.call ⟨.value x',lZ,xP⟩,ty,pos,after,guard⟩=callFunc f (kE++lZ.map a.eval++dM):=by have:execOp a.eval ⟨dst,.call ⟨.value x',lZ,xP⟩,ty,pos,after,guard⟩=(do let d <-Deferred.ofValue (a.eval x') (lZ.map a.eval);invoke d.target d.args):=rfl;rw[this,he];rfl
  have e4:(kE++lZ.map a.eval++dM:p_)=(kE.toList++List.map a.eval lZ.toList++dM.toList).toArray:=by apply Fx;simp
  refine⟨λ_ _=>trivial,?_⟩;rw[NP _ _ _ n_,e3,e4,N3 fq,Oper.uponIn_enter];refine⟨λe=>(by cases e),Ko.2 ((h ι c w hm hn _ bo).mono ?_)⟩
  rintro e w' ⟨aB,v',rfl,q1,q2,q3⟩
  exact hK aB v' w' q1 q2 q3
 ·cases ho
end
def Ae:Code->Nat->Option Oper
 |.region _ ops _,k=>ops.toList.find? λo=>Nat.beq (N2 o) k
 |.seq x y,k=>match Ae x k with|some o=>some o|none=>Ae y k
 |.cond _ x y,k=>match Ae x k with|some o=>some o|none=>Ae y k
 |.block _ b,k=>Ae b k
 |.loop b,k=>Ae b k
 |.scope b,k=>Ae b k
 |.rangeFunc _ _ x y,k=>match Ae x k with|some o=>some o|none=>Ae y k
 |_,_=>none
def az(fn:Func)(k:Nat):Oper:=match fn.body with|some c=>(match Ae c k with|some o=>o|none=>default)|none=>default
def Af:Code->Nat->Option Code
 |.seq x y,k=>match Af x k with|some o=>some o|none=>Af y k
 |.cond _ x y,k=>match Af x k with|some o=>some o|none=>Af y k
 |.block id b,k=>if Nat.beq id k then some b else Af b k
 |.loop b,k=>Af b k
 |.scope b,k=>Af b k
 |.rangeFunc _ _ x y,k=>match Af x k with|some o=>some o|none=>Af y k
 |_,_=>none
def ai(fn:Func)(k:Nat):Code:=match fn.body with|some c=>(match Af c k with|some o=>o|none=>.skip)|none=>.skip
def aK(c:Code):Code:=match c with|.loop b=>b|_=>.skip
section
variable{P:j_}{B:aa}{N:Nat}
def vI(n:Nat):Value:=.int .i64 n
def aZ.sum(key i j s:Nat)(h:s=i+j)(hs:s<9223372036854775808):aZ P B N:=
 .rw key (.int .i64 (IntKind.i64.wrap ((i:Int)+(j:Int)))) (vI s) (by
  have e:IntKind.i64.wrap ((i:Int)+(j:Int))=(s:Int):=by rw[eD];omega
  rw[e];rfl)
def aZ.fN(key i j s:Nat)(h:i=s+j)(hs:i<9223372036854775808):aZ P B N:=
 .rw key (.int .i64 (IntKind.i64.wrap ((i:Int)-(j:Int)))) (vI s) (by
  have e:IntKind.i64.wrap ((i:Int)-(j:Int))=(s:Int):=by rw[eD];omega
  rw[e];rfl)
def aZ.lt(key i n:Nat)(b:Bool)(h:decide (i<n)=b):aZ P B N:=
 .rw key (.bool (decide ((i:Int)<(n:Int)))) (.bool b) (by rw[<-h];congr 1;rw[qh];omega)
def aZ.gt(key i n:Nat)(b:Bool)(h:decide (n<i)=b):aZ P B N:=
 .rw key (.bool (decide ((i:Int)>(n:Int)))) (.bool b) (by rw[<-h];congr 1;rw[qh];omega)
def aZ.ge(key i n:Nat)(b:Bool)(h:decide (n<=i)=b):aZ P B N:=
 .rw key (.bool (decide ((i:Int)>=(n:Int)))) (.bool b) (by rw[<-h];congr 1;rw[qh];omega)
def aZ.gH(key i n:Nat)(b:Bool)(h:decide (i=n)=b):aZ P B N:=
 .rw key (.bool ((i:Int)==(n:Int))) (.bool b) (by
  rw[<-h];congr 1
  by_cases hi:i=n
  ·subst hi;simp
  ·have:¬((i:Int)=(n:Int)):=by omega
   rw[aY hi];simpa using this)
def aZ.wr(key:Nat)(k:IntKind)(m m':Int)(h:k.wrap m=m'):aZ P B N:=.rw key (.int k (k.wrap m)) (.int k m') (by rw[h])
def aZ.quo(key:Nat)(k:IntKind)(m m':Int)(h:m=m'):aZ P B N:=.rw key (.int k m) (.int k m') (by rw[h])
def xY(P:j_)(o:Oper):Option Nat:=match o.op with
 |.indexAddr t _ _=>match P.underlying t with|some (.slice e)=>(match P.info? e with|some i=>some i.size|none=>none)|_=>none
 |_=>none
theorem Oq{s:Nat}(ho:xY P o=some s){n:Nat}{kd:IntKind}(hi:i<n):
  cI P B o [.slice (some ⟨k,off,some 7⟩) n cc,.int kd i] [] (.pointer (some ⟨k,off+i*s,some 7⟩)) []:=by
 unfold xY at ho;split at ho
 ·rename_i t x y ck;split at ho
  ·rename_i e ht;split at ho
   ·rename_i inf BR;injection ho with ho;have:=ZD (P:=P) (B:=B) ck ht BR (kd:=kd) (n:=(i:Int)) (len:=n) (cc:=cc) o_ o_ k off;rw[Int.toNat_natCast,ho]at this;exact this.step
   ·cases ho
  ·cases ho
 ·cases ho
def aZ.ix(fn:Func)(key k n i:Nat)(hi:i<n)(ho:xY P (az fn key)=some 1):aZ P B N:=
 .step key (az fn key) [.slice (some ⟨k,0,some 7⟩) n 0,vI i] [] (.pointer (some ⟨k,i,some 7⟩)) [] (by have:=Oq (B:=B) ho (k:=k) (off:=0) (cc:=0) (kd:=.i64) hi;rw[kT,gZ]at this;exact this)
def aZ.xZ(fn:Func)(key k off n cc i:Nat)(hi:i<n)(ho:xY P (az fn key)=some 1):aZ P B N:=
 .step key (az fn key) [.slice (some ⟨k,off,some 7⟩) n cc,vI i] [] (.pointer (some ⟨k,off+i,some 7⟩)) [] (by have:=Oq (B:=B) ho (k:=k) (off:=off) (cc:=cc) (kd:=.i64) hi;rw[gZ]at this;exact this)
def aZ.di(fn:Func)(key k n i s:Nat)(hi:i<n)(ho:xY P (az fn key)=some s):aZ P B N:=
 .step key (az fn key) [.slice (some ⟨k,0,some 7⟩) n 0,vI i] [] (.pointer (some ⟨k,i*s,some 7⟩)) [] (by have:=Oq (B:=B) ho (k:=k) (off:=0) (cc:=0) (kd:=.i64) hi;rw[kT]at this;exact this)
def TG(o:Oper):Option TypeId:=match o.op with|.load t _=>some t|_=>none
theorem aJa{t:TypeId}(ho:TG o=some t){x:Obj}{v:i_}(hx:x.reads=true)(hv:dU P t x.cells off=some v):cI P B o [.pointer (some ⟨k,off,some 7⟩)] [(k,some x)] v []:=by
 unfold TG at ho;split at ho
 ·rename_i t' y ck;injection ho with ho;subst ho;exact(Zy ck hx hv).step
 ·cases ho
def aZ.ld(fn:Func)(key t k off:Nat)(x:Obj)(v:i_)(hx:x.reads=true)(hv:dU P t x.cells off=some v)(ho:TG (az fn key)=some t):aZ P B N:=
 .step key (az fn key) [.pointer (some ⟨k,off,some 7⟩)] [(k,some x)] v [] (aJa ho hx hv)
def aAs(o:Oper):Option TypeId:=match o.op with|.store t _ _=>some t|_=>none
def aZ.st(fn:Func)(key t k off:Nat)(x:Obj)(v:i_)(y:Obj)(hx:x.owns=true)(hv:fK P t x.cells off v=some y.cells)(hy:y=x.NO y.cells)(ho:aAs (az fn key)=some t):aZ P B N:=
 .step key (az fn key) [.pointer (some ⟨k,off,some 7⟩),v] [(k,some x)] undef [(k,y)] (by
  unfold aAs at ho;split at ho
  ·rename_i t' a b ck;injection ho with ho;subst ho;rw[hy];exact(Zz ck hx hv).step
  ·cases ho)
def Ot(P:j_)(o:Oper):Option (TypeId×Nat×Nat×Value):=match o.op with
 |.makeSlice t _ _=>match P.underlying t with
  |some (.slice e)=>(match P.info? e with|some i=>(match i.zero with|some z=>some (e,i.size,i.bytes,z)|none=>none)|none=>none)
  |_=>none
 |_=>none
def aZ.qR(fn:Func)(key k n e bytes:Nat)(z:i_)(cells:al)(hc:List.replicate n z=cells)(hf:flat z=true)(hz:z.cells=#[z])(hb:bytes*n<=281474976710656)(hn:n<=maxLen)(ho:Ot P (az fn key)=some (e,1,bytes,z)):aZ P B N:=
 .step key (az fn key) [vI n,vI n] [(k,none)] (.slice (some ⟨k,0,some 7⟩) n 0) [(k,.row cells e 1)] (by
  subst hc;unfold Ot at ho;split at ho
  ·rename_i t a b ck;split at ho
   ·rename_i e' ht;split at ho
    ·rename_i i hi;split at ho
     ·rename_i z' oO;injection ho with ho;injection ho with h1 ho;injection ho with h2 ho;injection ho with h3 h4;subst h1;subst h4;have:=ZF (P:=P) (B:=B) ck ht hi oO (kl:=.i64) (kc:=.i64) (l:=n) (cp:=n) (bF _) (by rw[h3];exact hb) hn (cells:=List.replicate n z') (by rw[h2,gZ,hz,toList_madeCells_one,lh s_]) (by rw[h2];simp) (λv hv=>by rw[List.eq_of_mem_replicate hv];exact hf) k
      rw[h2]at this;exact this.step
     ·cases ho
    ·cases ho
   ·cases ho
  ·cases ho)
def th(P:j_)(o:Oper):Option (Bool×Bool×Nat):=match o.op with
 |.slice t _ lo hi none=>match P.underlying t with
  |some (.slice e)=>(match P.info? e with|some i=>some (lo.isSome,hi.isSome,i.size)|none=>none)
  |_=>none
 |_=>none
theorem H8{lo hi:Bool}{s:Nat}(ho:th P o=some (lo,hi,s)){n l h:Nat}(hl:lo=false->l=0)(hh:hi=false->h=n)(NR:l<=h)(ZE:h<=n)(hz:l<h\/l=0):
  cI P B o (.slice (some ⟨k,off,some 7⟩) n cc::((if lo then[vI l]else[])++(if hi then[vI h]else[]))) [] (.slice (some ⟨k,off+l*s,some 7⟩) (h-l) (cc+l)) []:=by
 unfold th at ho;split at ho
 ·rename_i t x vK fQ ck;split at ho
  ·rename_i e ht;split at ho
   ·rename_i i TH;injection ho with ho;injection ho with h1 ho;injection ho with h2 h3;have:=aIE (P:=P) (B:=B) ck ht TH (k:=k) (off:=off) (n:=n) (cc:=cc) (l:=l) (h:=h) (λe=>hl (by rw[<-h1,e];rfl)) (λe=>hh (by rw[<-h2,e];rfl)) NR ZE hz;rw[h3]at this;have e1:bound vK l=if lo then[vI l]else[]:=by rw[<-h1];cases vK<;>rfl
    have e2:bound fQ h=if hi then[vI h]else[]:=by rw[<-h2];cases fQ<;>rfl
    rw[e1,e2]at this;exact this.step
   ·cases ho
  ·cases ho
 ·cases ho
def aZ.upto(fn:Func)(key k n h s:Nat)(hh:h<=n)(ho:th P (az fn key)=some (false,true,s)):aZ P B N:=
 .step key (az fn key) [.slice (some ⟨k,0,some 7⟩) n 0,vI h] [] (.slice (some ⟨k,0,some 7⟩) h 0) [] (by have:=H8 (B:=B) ho (k:=k) (off:=0) (n:=n) (cc:=0) (l:=0) (h:=h) (λ_=>rfl) n_ (lY _) hh (.inr rfl);simpa using this)
end
def ae(B n a:Nat):List Nat:=(List.range n).map λi=>a/B^i%B
def nd(B a:Nat):Nat:=if h:2<=B/\a≠0 then nd B (a/B)+1 else 0
termination_by a
decreasing_by exact aAt (uG h.2) h.1
section
variable{B:Nat}
theorem pB(n a:Nat):(ae B n a).length=n:=by simp[ae]
theorem eU{n:Nat}(h:i<n):(ae B n a)[i]?=some (a/B^i%B):=by simp[ae,h]
theorem KF{n:Nat}(h:m<=n):(ae B n a).take m=ae B m a:=by unfold ae;rw[<-DC,List.take_range,oQ h]
theorem oV:nd B 0=0:=by unfold nd;simp
theorem TI(hB:2<=B)(ha:a≠0):nd B a=nd B (a/B)+1:=by rw[nd,dif_pos ⟨hB,ha⟩]
theorem eE(hB:2<=B):∀ a,a<B^nd B a:=by
 intro a;induction a using Nat.strongRecOn with
 |_ a ih=>
  by_cases ha:a=0
  ·subst ha;rw[oV];simp
  ·rw[TI hB ha,dH];have:=ih (a/B) (aAt (uG ha) hB);exact(jc o_).1 this
theorem jK(hB:2<=B):∀{a n:Nat},a<B^n->nd B a<=n:=by
 intro a;induction a using Nat.strongRecOn with
 |_ a ih=>
  intro n h;by_cases ha:a=0
  ·subst ha;rw[oV];omega
  ·cases n with
   |zero=>simp at h;omega
   |succ n=>
    rw[TI hB ha];rw[dH]at h;have:=ih (a/B) (aAt (uG ha) hB) (n:=n) ((jc o_).2 h);omega
theorem aAu(hB:2<=B){n:Nat}(h:n<nd B a):B^n<=a:=by
 rcases fo a (B^n)with h1|h1
 ·have:=jK hB h1;omega
 ·exact h1
theorem jL(hB:2<=B)(h:a<=b):nd B a<=nd B b:=jK hB (fA h (eE hB b))
theorem x7(hB:2<=B)(h:a≠0):0<nd B a:=by rw[TI hB h];omega
theorem FU{n:Nat}(h:a<B^(n+1)):a/B^n%B=a/B^n:=by
 refine dZ ?_;have hp:0<B^n:=by
  rcases ow B with hB|hB
  ·subst hB;simp at h
  ·exact cT hB
 rw[jc hp,c7,<-dH];exact h
theorem H9(hB:2<=B){n:Nat}(h:a<B^(n+1)):a/B^n%B=0↔a<B^n:=by
 rw[FU h,Nat.div_eq_zero_iff];have:B^n≠0:=by have:=cT (n:=n) (show 0<B by omega);omega
 exact⟨λh=>h.resolve_left this,.inr⟩
def fB(B a b i:Nat):Nat:=(a%B^i+b%B^i)/B^i
def eV(B n i a:Nat):List Nat:=(List.range n).map λj=>if j<i then a/B^j%B else 0
theorem Ou(n i a:Nat):(eV B n i a).length=n:=by simp[eV]
theorem TJ(n a:Nat):eV B n 0 a=List.replicate n 0:=by apply x8<;>simp[eV]
theorem Ia(n a:Nat):eV B n n a=ae B n a:=by unfold eV ae;exact uD λj hj=>by rw[aA (kh.1 hj)]
theorem Ov{n:Nat}(h:i<n)(hd:d=a/B^i%B):(eV B n i a).set i d=eV B n (i+1) a:=by
 subst hd;apply x8
 ·simp[eV]
 ·intro j h1 h2;simp only[eV,eO,Ag]at h2;rw[Ib];simp only[eV,DD,DF];by_cases hj:i=j
  ·subst hj;simp
  ·rw[au hj];by_cases h3:j<i
   ·rw[aA h3,aA o_]
   ·rw[au h3,au o_]
theorem qi(a i:Nat):a%B^(i+1)=a%B^i+a/B^i%B*B^i:=by rw[dH,Ow];rw[c7]
theorem Ox(a b:Nat):fB B a b 0=0:=by simp[fB,uH]
theorem FV(hB:0<B)(a b i:Nat):(a/B^i%B+b/B^i%B+fB B a b i)/B=fB B a b (i+1):=by
 unfold fB;rw[qi a i,qi b i];have hp:0<B^i:=cT hB;have e:a%B^i+a/B^i%B*B^i+(b%B^i+b/B^i%B*B^i)=(a%B^i+b%B^i)+(a/B^i%B+b/B^i%B)*B^i:=by rw[fZ];omega
 rw[e,dH,<-lJ,qj _ _ hp,nN]
theorem Ic(hB:0<B)(a b i:Nat):(a/B^i%B+b/B^i%B+fB B a b i)%B=(a+b)/B^i%B:=by
 unfold fB;have hp:0<B^i:=cT hB;have e:(a+b)/B^i=a/B^i+b/B^i+(a%B^i+b%B^i)/B^i:=by
  have h1:=jM a (B^i);have h2:=jM b (B^i);have e2:a+b=(a%B^i+b%B^i)+(a/B^i+b/B^i)*B^i:=by rw[fZ,c7 (a/B^i),c7 (b/B^i)];omega
  conv=>lhs;rw[e2]
  rw[qj _ _ hp];omega
 rw[e];rw[Nat.add_mod (a/B^i+b/B^i),Nat.add_mod (a/B^i%B+b/B^i%B),<-Nat.add_mod (a/B^i)]
theorem B7(hB:0<B)(a b i:Nat):fB B a b i<=1:=by
 unfold fB;have hp:0<B^i:=cT hB;have h1:=cU a hp;have h2:=cU b hp;have:(a%B^i+b%B^i)/B^i<2:=by rw[jc hp];omega
 omega
theorem iG(hB:0<B)(a i:Nat):a/B^i%B<B:=cU _ hB
theorem rV(h:a<B^m)(hi:m<=i)(hB:0<B):a/B^i%B=0:=by rw[nj (cH h (dj hB hi))];simp
theorem TK{n:Nat}(ha:a<B^n)(hb:b<B^n):fB B a b n=(a+b)/B^n:=by unfold fB;rw[dZ ha,dZ hb]
def lK(B a b i:Nat):Nat:=if a%B^i<b%B^i then 1 else 0
theorem TL(a b:Nat):lK B a b 0=0:=by simp[lK,uH]
theorem Oy(a b i:Nat):lK B a b i<=1:=by unfold lK;split<;>omega
theorem TM(hB:0<B)(a b i:Nat):(if a/B^i%B<b/B^i%B+lK B a b i then 1 else 0)=lK B a b (i+1):=by
 unfold lK;rw[qi a i,qi b i];have hp:0<B^i:=cT hB;have h1:=cU a hp;have h2:=cU b hp;generalize a%B^i=r at *;generalize b%B^i=s at *;generalize a/B^i%B=x at *;generalize b/B^i%B=y at *;generalize B^i=p at *;have lt:∀ u v:Nat,u<v->u*p+p<=v*p:=λu v h=>by rw[<-uI];exact fe _ h
 have le:∀ u v:Nat,u<=v->u*p<=v*p:=λu v h=>fe _ h;by_cases B8:r<s
 ·rw[aA B8];by_cases lj:x<y+1
  ·have:=le x y o_;rw[aA lj,aA o_]
  ·have:=lt y x o_;rw[au lj,au o_]
 ·rw[au B8];by_cases lj:x<y+0
  ·have:=lt x y o_;rw[aA lj,aA o_]
  ·have:=le y x o_;rw[au lj,au o_]
theorem TN(hB:0<B)(cd:b<=a)(i:Nat):(a/B^i%B+2*B-b/B^i%B-lK B a b i)%B=(a-b)/B^i%B:=by
 unfold lK;have hp:0<B^i:=cT hB;have h1:=cU a hp;have h2:=cU b hp;have ea:=jM a (B^i);have eb:=jM b (B^i);generalize hA:a/B^i=A at *;generalize hA':b/B^i=A' at *;generalize a%B^i=r at *;generalize b%B^i=s at *;generalize B^i=p at *;have lt:∀ u v:Nat,u<v->p*u+p<=p*v:=λu v h=>by rw[<-Oz];exact jY _ h
 have hx:=cU A hB;have hy:=cU A' hB;have dA:=jM A B;have dA':=jM A' B
 -- the quotient of the aWK
 have key:∀ br:Nat,br=(if r<s then 1 else 0)->A'+br<=A/\(a-b)/p=A-A'-br:=by
  intro br KG;by_cases B8:r<s
  ·rw[aA B8]at KG;subst KG;have OA:A'<A:=by
    rcases fo A' A with h|h
    ·exact h
    ·have:=jY p h;omega
   refine⟨OA,?_⟩;have e:a-b=(p+r-s)+p*(A-A'-1):=by
    have:=lt A' A OA;have e2:p*A=p*A'+p+p*(A-A'-1):=by rw[<-Oz,<-pC];congr 1;omega
    omega
   rw[e,KH _ _ hp,nj o_,kT]
  ·rw[au B8]at KG;subst KG;have OA:A'<=A:=by
    rcases fo A A' with h|h
    ·have:=lt A A' h;omega
    ·exact h
   refine⟨OA,?_⟩;have e:a-b=(r-s)+p*(A-A'):=by
    have e2:p*A=p*A'+p*(A-A'):=by rw[<-pC];congr 1;omega
    omega
   rw[e,KH _ _ hp,nj o_,kT];rfl
 have KG:(if r<s then 1 else 0)<=1:=by split<;>omega
 obtain⟨k1,k2⟩:=key _ rfl;rw[k2];generalize (if r<s then 1 else 0)=br at *;have e:A%B+2*B-A'%B-br+B*(A/B)=(A-A'-br)+B*(A'/B+2):=by rw[pC];omega
 have:=cS (·%B) e;simpa only[FX]using this
theorem Ah(p:Nat->Prop)[DecidablePred p]:∀ n,p n->∃ e,e<=n/\p e/\∀ j,j<e->¬p j
 |0,h=>⟨0,bF _,h,λj hj=>by omega⟩
 |n+1,h=>by
  by_cases h0:p 0
  ·exact⟨0,by omega,h0,λj hj=>by omega⟩
  ·obtain⟨e,h1,h2,h3⟩:=Ah (λj=>p (j+1)) n h;refine⟨e+1,by omega,h2,λj hj=>?_⟩;cases j with
   |zero=>exact h0
   |succ j=>exact h3 j o_
def dh(B n i s p:Nat):List Nat:=(List.range n).map λj=>if j<i then s/B^j%B else p/B^j%B
theorem x9(n i s p:Nat):(dh B n i s p).length=n:=by simp[dh]
theorem DH{n s p:Nat}(hj:j<n)(h:i<=j):(dh B n i s p)[j]?=some (p/B^j%B):=by simp[dh,hj];omega
theorem Ai{n s p:Nat}(h:i<n)(hd:d=s/B^i%B):(dh B n i s p).set i d=dh B n (i+1) s p:=by
 subst hd;apply x8
 ·simp[dh]
 ·intro j h1 h2;simp only[dh,eO,Ag]at h2;rw[Ib];simp only[dh,DD,DF];by_cases hj:i=j
  ·subst hj;simp
  ·rw[au hj];by_cases h3:j<i
   ·rw[aA h3,aA o_]
   ·rw[au h3,au o_]
theorem aJb(hB:0<B)(p t i:Nat):(p+t)/B^i=p/B^i+t/B^i+fB B p t i:=by
 have hp:0<B^i:=cT hB;unfold fB;have h1:=jM p (B^i);have h2:=jM t (B^i);have e2:p+t=(p%B^i+t%B^i)+(p/B^i+t/B^i)*B^i:=by rw[fZ,c7 (p/B^i),c7 (t/B^i)];omega
 conv=>lhs;rw[e2]
 rw[qj _ _ hp];omega
theorem aAv(hB:0<B)(n at' p c:Nat):dh B n at' (p+c*B^at') p=ae B n p:=by
 unfold dh ae;refine uD λj _=>?_;by_cases h:j<at'
 ·rw[aA h];have e:B^at'=B^j*(B*B^(at'-j-1)):=by rw[<-Nat.pow_succ',<-eW];congr 1;omega
  rw[e,show c*(B^j*(B*B^(at'-j-1)))=B^j*(B*(c*B^(at'-j-1)))by rw[nO,nO c B],KH _ _ (cT hB),FX]
 ·rw[au h]
theorem aJc(hB:0<B)(at' p c:Nat):fB B p (c*B^at') at'=0:=by unfold fB;rw[aAw,jv,nj (cU _ (cT hB))]
theorem aJd(hB:0<B){n p t:Nat}(ht:t<B^i)(hc:fB B p t i=0):dh B n i (p+t) p=ae B n (p+t):=by
 unfold dh ae;refine uD λj _=>?_;by_cases h:j<i
 ·rw[aA h]
 ·rw[au h];have e:=aJb hB p t i;rw[hc,nj ht,jv]at e;have e2:B^j=B^i*B^(j-i):=by rw[<-eW];congr 1;omega
  rw[e2,<-lJ,<-lJ,e]
theorem aJe(hB:0<B)(at' c:Nat):c*B^at'/B^at'%B=c%B:=by rw[TO _ (cT hB)]
theorem aJf(hB:0<B){at' c:Nat}(h:c<B*B):c*B^at'/B^(at'+1)%B=c/B:=by rw[dH,<-lJ,TO _ (cT hB)];exact dZ ((jc hB).2 h)
theorem aJg(hB:0<B){at' c:Nat}(h:c<B*B):c*B^at'<B^(at'+2):=by rw[dH,dH,gA,c7];exact aAx h (cT hB)
def part(B a b i k:Nat):Nat:=(a%B^i)*b+a/B^i%B*(b%B^k)*B^i
theorem DI(a b i:Nat):part B a b i 0=(a%B^i)*b:=by simp[part,uH]
theorem aAy(a b i k:Nat):part B a b i (k+1)=part B a b i k+a/B^i%B*(b/B^k%B)*B^(i+k):=by
 unfold part;rw[qi b k,eW,pC,fZ,vz]
 congr 2
 simp only[c7,nO]
theorem aJh(hb:b<B^m):part B a b i m=part B a b (i+1) 0:=by
 rw[DI,qi a i];unfold part;rw[dZ hb,fZ]
 congr 1
 simp only[c7,nO]
theorem aAz(hB:0<B)(a b i k:Nat):part B a b i k<=a*b:=by
 have h1:a%B^(i+1)<=a:=KI _ _;have h2:part B a b i k<=(a%B^(i+1))*b:=by
  rw[qi a i];unfold part;rw[fZ];refine aAA ?_ _;have h3:b%B^k<=b:=KI _ _;have:=jY (a/B^i%B) h3;have:=fe (B^i) this
  calc _<=_:=this
   _=_:=by simp only[c7,nO]
 exact dq h2 (fe _ h1)
theorem aAB{n:Nat}(hB:0<B)(ha:a<B^n)(hb:b<B^m):a*b<B^(n+m+1):=by
 have h1:a*b<B^(n+m):=by rw[eW];exact qS ha hb
 exact cH h1 (dj hB o_)
theorem aAC(hB:0<B)(hd:0<d)(nP:d<=B)(a j:Nat):(a/B^(j+1)%d*B+a/B^j%B)/d=(a/d)/B^j%B/\(a/B^(j+1)%d*B+a/B^j%B)%d=a/B^j%d:=by
 have e1:a/B^(j+1)=a/B^j/B:=by rw[dH,lJ]
 have e2:a/d/B^j=a/B^j/d:=by rw[lJ,lJ,c7]
 rw[e1,e2];generalize a/B^j=c;have h1:=jM c B;have h2:=jM (c/B) d;have h3:c/B%d<d:=cU _ hd;have h4:c%B<B:=cU _ hB;have h5:c=(c/B%d*B+c%B)+d*(B*(c/B/d)):=by
  have:B*(c/B)=B*(d*(c/B/d)+c/B%d):=by rw[h2]
  rw[pC,nO]at this;rw[c7 (c/B%d)];omega
 have h6:(c/B%d*B+c%B)/d<B:=by rw[jc hd];have:=fe B (show c/B%d+1<=d by omega);rw[fZ,qT]at this;rw[c7 B d];omega
 constructor
 ·conv=>rhs;rw[h5]
  rw[KH _ _ hd,FX,dZ h6]
 ·conv=>rhs;rw[h5]
  rw[FX]
def ig(B n i a:Nat):List Nat:=(List.range n).map λj=>if j<i then 0 else a/B^j%B
theorem OB(n i a:Nat):(ig B n i a).length=n:=by simp[ig]
theorem OC(n a:Nat):ig B n n a=List.replicate n 0:=by
 apply x8
 ·simp[ig]
 ·intro j h1 h2;simp only[ig,eO,Ag]at h1;simp[ig,h1]
theorem KJ(n a:Nat):ig B n 0 a=ae B n a:=by unfold ig ae;exact uD λj _=>by rw[au o_]
theorem OD{n:Nat}(h:j<n)(hd:d=a/B^j%B):(ig B n (j+1) a).set j d=ig B n j a:=by
 subst hd;apply x8
 ·simp[ig]
 ·intro i h1 h2;simp only[ig,eO,Ag]at h2;rw[Ib];simp only[ig,DD,DF];by_cases hi:j=i
  ·subst hi;simp
  ·rw[au hi];by_cases h3:i<j
   ·rw[aA h3,aA o_]
   ·rw[au h3,au o_]
theorem ya(a j:Nat):a/B^j=a/B^(j+1)*B+a/B^j%B:=by have:=jM (a/B^j) B;rw[lJ,<-dH,c7]at this;exact this.symm
theorem aAD{n:Nat}(ha:a<B^n)(hb:b<B^n)(t:Nat)(ht:t<=n)(h:∀ s,s<t->a/B^(n-1-s)%B=b/B^(n-1-s)%B):a/B^(n-t)=b/B^(n-t):=by
 induction t with
 |zero=>rw[H7,nj ha,nj hb]
 |succ t ih=>
  have ih:=ih o_ λs hs=>h s o_;have e:n-t=(n-(t+1))+1:=by omega
  rw[e]at ih;have h1:=h t o_;rw[show n-1-t=n-(t+1)by omega]at h1;rw[ya (B:=B) a,ya (B:=B) b,ih,h1]
theorem OE(h:a/B^(j+1)=b/B^(j+1))(ao:a/B^j%B<b/B^j%B):a<b:=by
 have h1:a/B^j<b/B^j:=by rw[ya (B:=B) a,ya (B:=B) b,h];omega
 rcases fo a b with h2|h2
 ·exact h2
 ·have:=Nat.div_le_div_right (c:=B^j) h2;omega
end
theorem mixed:prog.follows .mixedOrders=true:=by kernel_rfl
def aX(x:Nat):Value:=.int .u32 (x:Int)
def av(l:l_):al:=l.map aX
theorem ga(l:l_):∀ u∈av l,flat u=true:=λu hu=>by obtain⟨x,_,rfl⟩:=df.1 hu;rfl
theorem lL{l:l_}{x:Nat}(h:l[i]?=some x):(av l)[i]?=some (aX x):=by simp[av,h]
abbrev base:Nat:=4294967296
theorem gB(cells:al)(i:Nat):dU prog 175 cells i=cells[i]?:=by kernel_rfl
theorem aG{c:Code}{next:Nat}(rs:bN prog B N){r:nh}(h:KD (jw 100 c fr M next rs) r.fr r.M=KE (jw 100 c fr M next rs) r.ex r.fr r.M r.next:=by kernel_rfl):ah prog B N c fr M next r:=fv mixed 100 rs h
theorem aJi{n:Nat}(hm:m+1<=n)(ha:a<base^m)(h63:n<=9223372036854775807):
  ah prog Bs 21 (aK (ai f178 0)) [(0,.slice (some ⟨0,0,some 7⟩) (m+1) 0)] [(0,.view (av (ae base n a)))] 1
   ⟨.normal,[(0,.slice (some ⟨0,0,some 7⟩) m 0)],[(0,.view (av (ae base n a)))],1⟩:=by
 have hd:a/base^m%base=0:=(H9 d_ (cH ha (dj d_ (zY m)))).2 ha;exact aG [
  .gt 5 (m+1) 0 true s_,
  .fN 10 (m+1) 1 m rfl o_,
  .ix f178 11 0 (m+1) m o_ k_,
  .ld f178 12 175 0 m (.view (av (ae base n a))) (aX (a/base^m%base)) rfl (by rw[gB];exact lL (eU o_)) k_,
  .gH 13 (a/base^m%base) 0 true (by simp[hd]),
  .fN 18 (m+1) 1 m rfl o_,
  .upto f178 19 0 (m+1) m 1 o_ k_]
theorem aJj{n:Nat}(hm:m<=n)(ha:a<base^m)(hl:m=nd base a)(h63:n<=9223372036854775807):
  ah prog Bs 21 (aK (ai f178 0)) [(0,.slice (some ⟨0,0,some 7⟩) m 0)] [(0,.view (av (ae base n a)))] 1
   ⟨.exit 0,[(0,.slice (some ⟨0,0,some 7⟩) m 0)],[(0,.view (av (ae base n a)))],1⟩:=by
 cases m with
 |zero=>exact aG [.gt 5 0 0 false s_]
 |succ m=>
  have hd:a/base^m%base≠0:=λe=>by have:=jK (B:=base) d_ ((H9 d_ ha).1 e);omega
  exact aG [
   .gt 5 (m+1) 0 true s_,
   .fN 10 (m+1) 1 m rfl o_,
   .ix f178 11 0 (m+1) m o_ k_,
   .ld f178 12 175 0 m (.view (av (ae base n a))) (aX (a/base^m%base)) rfl (by rw[gB];exact lL (eU o_)) k_,
   .gH 13 (a/base^m%base) 0 false (by simp[hd])]
theorem aJk{n:Nat}(ha:a<base^n)(h63:n<=9223372036854775807):
  ah prog Bs 21 (.block 0 (ai f178 0)) [(0,.slice (some ⟨0,0,some 7⟩) n 0)] [(0,.view (av (ae base n a)))] 1
   ⟨.normal,[(0,.slice (some ⟨0,0,some 7⟩) (nd base a) 0)],[(0,.view (av (ae base n a)))],1⟩:=by
 have hle:=jK (B:=base) d_ ha;have ao:=eE (B:=base) d_ a
 have:=cz (P:=prog) (B:=Bs) (N:=21) (b:=aK (ai f178 0)) (next:=1) (n-nd base a) (λi=>[(0,.slice (some ⟨0,0,some 7⟩) (n-i) 0)]) (λ_=>[(0,.view (av (ae base n a)))])
  (r:=⟨.exit 0,[(0,.slice (some ⟨0,0,some 7⟩) (nd base a) 0)],[(0,.view (av (ae base n a)))],1⟩) (λ_ _ _=>Iff.rfl)
  (λi hi=>by
   have e:n-i=(n-(i+1))+1:=by omega
   simp only[e];exact aJi o_ (cH ao (dj d_ o_)) h63)
  (by
   have e:n-(n-nd base a)=nd base a:=by omega
   simp only[e];exact aJj hle ao rfl h63) n_
 exact cg this
def OG(v:i_)(m:Nat):Value:=match v with|.slice a _ c=>.slice a m c|v=>v
theorem aAE{v:i_}{n:Nat}(hv:dr w v n (av (ae base n a)))(ha:a<base^n)(h63:n<=9223372036854775807):
  Calls prog 178 #[v] w λe w'=>e=.returned (OG v (nd base a))/\Below w.heap.size w w':=by
 refine mN (Q:=λe w'=>e=.returned (OG v (nd base a))/\Below w.heap.size w w') mixed func178 [.row v n (av (ae base n a))] (λs hs=>by simp at hs;subst hs;exact⟨hv,ga _⟩) 100 (N:=21) k_
  (rs:=[.code 0 _ _ _ _ _ (aJk ha h63)]) (v:=.slice (some ⟨0,0,some 7⟩) (nd base a) 0) (ms:=[]) k_ λaB cr v' w' hc hm _ dP=>⟨?_,hm.base⟩
 cases dP with
 |cons h1 _=>
 congr 1
 rcases hc.iM rfl with ⟨q1,q2,_,_,q5⟩|⟨b,o,cap,c',q1,q2,q3,q5⟩<;>rcases h1.iM rfl with ⟨p1,p2,_,_,p5⟩|⟨b2,o2,qK,c2,p1,p2,p3,p5⟩
 ·have p5:v=.slice none 0 0:=p5;rw[q5,p5,q2];rfl
 ·rw[q1]at p1;cases p1
 ·rw[q1]at p1;cases p1
 ·rw[q1]at p1;injection p1 with p1;injection p1 with e1 e2 e3;subst e1;subst e2;subst e3;have p5:v=_:=p5;rw[q5,p5,show c'=c2 by omega];rfl
theorem bI{v:i_}(hf:prog.funcs[f]?=some fn)(rs:∀ w,bN prog (aa.at w) (args.length+(fn.ntmps-args.length)))(h:∀ w,pv (iv (P:=prog) fn 100 args [] 0 (rs w)) []=pw (iv fn 100 args [] 0 (rs w)) v []:=by intro _;kernel_rfl)(dP:args.all flat=true:=by kernel_rfl)(hv:flat v=true:=by kernel_rfl):aH prog f args v:=fk mixed hf 100 rs h dP hv
theorem KK{x y c:Nat}(hx:x<base)(hy:y<base)(hc:c<base):
  aH prog 192 [aX x,aX y,aX c] (.tuple #[aX ((x+y+c)%base),aX ((x+y+c)/base)]):=
 bI func192 (λ_=>[
  .wr 10 .u64 x x (by rw[kK];unfold base at *;omega),.wr 12 .u64 y y (by rw[kK];unfold base at *;omega),
  .wr 13 .u64 (x+y) ((x+y:Nat):Int) (by rw[kK];unfold base at *;omega),.wr 15 .u64 c c (by rw[kK];unfold base at *;omega),
  .wr 16 .u64 (((x+y:Nat):Int)+c) ((x+y+c:Nat):Int) (by rw[kK];unfold base at *;omega),
  .wr 18 .u32 ((x+y+c:Nat):Int) (((x+y+c)%base:Nat):Int) (by rw[ox];unfold base at *;omega),
  .quo 20 .u64 (((x+y+c:Nat):Int).fdiv (2^32)) (((x+y+c)/base:Nat):Int) (by rw[ti _ d_];unfold base at *;omega),
  .wr 21 .u32 (((x+y+c)/base:Nat):Int) (((x+y+c)/base:Nat):Int) (by rw[ox];unfold base at *;omega)])
theorem FY(n:Nat):List.replicate n (aX 0)=av (List.replicate n 0):=by simp[av]
theorem Aj(cells:al)(i d:Nat)(h:i<cells.length):fK prog 175 cells i (aX d)=some (cells.set i (aX d)):=by
 have e:fK prog 175 cells i (aX d)=if(Nat.ble (i+1) cells.length&&true)then some (ju cells i [aX d])else none:=by kernel_rfl
 rw[e,Tg h];rfl
theorem Ak(l:l_)(i d:Nat):(av l).set i (aX d)=av (l.set i d):=by simp[av,List.map_set]
theorem aJl{y:m_}(ho:dC o.op=some y){n:Nat}{x:Obj}(hx:x.reads=true)(hc:x.cells=av (ae base n a))(ha:a<base^n)(h63:n<=9223372036854775807):
  cI prog Bs o [.func (.func 178) #[] #[],.slice (some ⟨k,0,some 7⟩) n 0] [(k,some x)] (.slice (some ⟨k,0,some 7⟩) (nd base a) 0) []:=by
 refine kj (fi:=[]) (ca:=[]) ho k_ λι c w hm hn args' dP=>?_;obtain⟨v,rfl,h1⟩:=oh dP;have hk:c k=some x:=hn _ (aR ..);have hr:=pA (len:=n) hm hk hx (by rw[hc];exact ga _) (λh=>h) h1;rw[hc,nk,lh (by simp[av,pB])]at hr;refine(aAE hr ha h63).mono ?_
 rintro e w' ⟨rfl,hb⟩
 refine⟨ι,_,rfl,Map.le.refl _,?_,hm.call hb⟩;have e7:=jK (B:=base) d_ ha;rcases h1.iM rfl with ⟨q1,q2,_,_,q5⟩|⟨b,oo,cap,c',q1,q2,q3,q5⟩
 ·rw[q5];have:nd base a=0:=by omega
  rw[this];exact .slcN q1
 ·rw[q5];exact .slc q1 o_ q3
def aZ.trim(fn:Func)(key k n a:Nat)(x:Obj)(hx:x.reads=true)(hc:x.cells=av (ae base n a))(ha:a<base^n)(h63:n<=9223372036854775807){y:m_}(ho:dC (az fn key).op=some y):aZ prog Bs N:=
 .step key (az fn key) [.func (.func 178) #[] #[],.slice (some ⟨k,0,some 7⟩) n 0] [(k,some x)] (.slice (some ⟨k,0,some 7⟩) (nd base a) 0) [] (aJl ho hx hc ha h63)
section
variable{Bs:aa}{ka kb n m a b:Nat}
def sl(k n:Nat):Value:=.slice (some ⟨k,0,some 7⟩) n 0
def DJ(ka kb n m a b i:Nat):aU:=[(23,vI i),(22,vI n),(21,sl ka n),(0,sl ka n),(1,sl kb m),(5,sl 2 (n+1)),(6,aX (fB base a b i))]
def Al(ka kb n m a b i:Nat):aL:=[(ka,.view (av (ae base n a))),(kb,.view (av (ae base m b))),(2,.row (av (eV base (n+1) i (a+b))) 175 1)]
theorem aJm(hk:(ka=0/\kb=1)\/(ka=1/\kb=0))(hi:i<n)(hb:b<base^m)(hm:m<=n)(h63:n<9223372036854775807):
  ah prog Bs 54 (aK (ai f161 0)) (DJ ka kb n m a b i) (Al ka kb n m a b i) 3 ⟨.normal,DJ ka kb n m a b (i+1),Al ka kb n m a b (i+1),3⟩:=by
 have hx:=iG (B:=base) d_ a i;have hy:=iG (B:=base) d_ b i;have hc:=B7 (B:=base) d_ a b i;have Am:=KK (c:=fB base a b i) hx hy (fA hc d_);rw[Ic d_,FV d_]at Am;have bW:fK prog 175 (av (eV base (n+1) i (a+b))) i (aX ((a+b)/base^i%base))=some (av (eV base (n+1) (i+1) (a+b))):=by rw[Aj _ i _ (by simp[av,Ou];omega),Ak,Ov o_ rfl]
 by_cases km:i<m
 ·let S:Nat->Nat->bN prog Bs 54:=λka kb=>[.lt 24 i n true (by simp[hi]),.ix f161 26 ka n i hi k_,.ld f161 27 175 ka i (.view (av (ae base n a))) (aX (a/base^i%base)) rfl (by rw[gB];exact lL (eU hi)) k_,.lt 31 i m true (by simp[km]),.ix f161 34 kb m i km k_,.ld f161 35 175 kb i (.view (av (ae base m b))) (aX (b/base^i%base)) rfl (by rw[gB];exact lL (eU km)) k_,Am.at 42,.ix f161 45 2 (n+1) i o_ k_,.st f161 100045 175 2 i (.row (av (eV base (n+1) i (a+b))) 175 1) (aX ((a+b)/base^i%base)) (.row (av (eV base (n+1) (i+1) (a+b))) 175 1) rfl bW rfl k_,.sum 46 i 1 (i+1) rfl o_]
  rcases hk with ⟨rfl,rfl⟩|⟨rfl,rfl⟩
  ·exact aG (S 0 1)
  ·exact aG (S 1 0)
 ·have yb:b/base^i%base=0:=rV hb o_ d_;rw[yb]at Am
  let S:Nat->Nat->bN prog Bs 54:=λka kb=>[.lt 24 i n true (by simp[hi]),.ix f161 26 ka n i hi k_,.ld f161 27 175 ka i (.view (av (ae base n a))) (aX (a/base^i%base)) rfl (by rw[gB];exact lL (eU hi)) k_,.lt 31 i m false (by simp[km]),Am.at 42,.ix f161 45 2 (n+1) i o_ k_,.st f161 100045 175 2 i (.row (av (eV base (n+1) i (a+b))) 175 1) (aX ((a+b)/base^i%base)) (.row (av (eV base (n+1) (i+1) (a+b))) 175 1) rfl bW rfl k_,.sum 46 i 1 (i+1) rfl o_]
  rcases hk with ⟨rfl,rfl⟩|⟨rfl,rfl⟩
  ·exact aG (S 0 1)
  ·exact aG (S 1 0)
theorem aJn(hk:(ka=0/\kb=1)\/(ka=1/\kb=0)):
  ah prog Bs 54 (aK (ai f161 0)) (DJ ka kb n m a b n) (Al ka kb n m a b n) 3 ⟨.exit 0,DJ ka kb n m a b n,Al ka kb n m a b n,3⟩:=by
 rcases hk with ⟨rfl,rfl⟩|⟨rfl,rfl⟩
 all_goals exact aG [.lt 24 n n false s_]
theorem aJo(hk:(ka=0/\kb=1)\/(ka=1/\kb=0))(hb:b<base^m)(hm:m<=n)(h63:n<9223372036854775807):
  ah prog Bs 54 (.block 0 (ai f161 0)) (DJ ka kb n m a b 0) (Al ka kb n m a b 0) 3 ⟨.normal,DJ ka kb n m a b n,Al ka kb n m a b n,3⟩:=
 cg (cz (b:=aK (ai f161 0)) (r:=⟨.exit 0,DJ ka kb n m a b n,Al ka kb n m a b n,3⟩) n (DJ ka kb n m a b) (Al ka kb n m a b) (λi k _=>kH (l:=Al ka kb n m a b i) (m:=Al ka kb n m a b 0) rfl k) (λi hi=>aJm hk hi hb hm h63) (aJn hk) n_)
noncomputable def aAF(hk:(ka=0/\kb=1)\/(ka=1/\kb=0))(ha:a<base^n)(hb:b<base^m)(hm:m<=n)(h63:n<35184372088832)(hs:a+b<base^(n+1))
  (bW:fK prog 175 (av (eV base (n+1) n (a+b))) n (aX (fB base a b n))=some (av (ae base (n+1) (a+b)))):bN prog Bs 54:=
 [.sum 19 n 1 (n+1) rfl o_,.qR f161 20 2 (n+1) 175 4 (aX 0) (av (eV base (n+1) 0 (a+b))) (by rw[TJ,FY]) rfl rfl o_ (by simp[maxLen];omega) k_,.rw 6 (.int .u32 0) (aX (fB base a b 0)) (by rw[Ox];rfl),.code 0 _ _ _ _ _ (aJo (ka:=ka) (kb:=kb) (a:=a) hk hb hm o_),.ix f161 51 2 (n+1) n o_ k_,.st f161 100051 175 2 n (.row (av (eV base (n+1) n (a+b))) 175 1) (aX (fB base a b n)) (.row (av (ae base (n+1) (a+b))) 175 1) rfl bW rfl k_,.trim f161 53 2 (n+1) (a+b) (.row (av (ae base (n+1) (a+b))) 175 1) rfl rfl hs o_ (y:=.func 178) k_]
end
def ko(w w':h_)(v:i_)(a:Nat):Prop:=w'.ownsRow w.heap.size 175 1 v (nd base a) (av (ae base (nd base a) a))
def jd(w:h_)(v:i_)(a:Nat):Prop:=dr w v (nd base a) (av (ae base (nd base a) a))
theorem yc(hm:aO (aa.at w) ι c w'){n:Nat}{v:i_}(hk:c k=some (.row (av (ae base n a)) 175 1))(ha:a<base^n)(hv:aM ι (.slice (some ⟨k,0,some 7⟩) (nd base a) 0) v):ko w w' v a:=by
 have hle:=jK (B:=base) d_ ha;have:=xX hm hk hv (by simp[av,pB];exact hle) (ga _);have e:(av (ae base n a)).take (nd base a*1)=av (ae base (nd base a) a):=by rw[gZ];unfold av;rw[<-DC,KF hle]
 rw[e]at this;exact this
theorem KL{n:Nat}(ha:a<base^n)(hb:b<base^n):fK prog 175 (av (eV base (n+1) n (a+b))) n (aX (fB base a b n))=some (av (ae base (n+1) (a+b))):=by have h1:=B7 (B:=base) d_ a b n;have h2:=TK ha hb;rw[Aj _ n _ (by simp[av,Ou]),Ak,Ov o_ (by rw[<-h2];exact(dZ (fA h1 d_)).symm),Ia]
theorem KM{n:Nat}(ha:a<base^n)(hb:b<base^n):a+b<base^(n+1):=by have h1:base^n*2<=base^n*base:=jY _ d_;rw[dH];omega
theorem aJp{vb:i_}(gQ:jd w va a)(mf:jd w vb b)(h1:nd base a<35184372088832)(h2:nd base b<35184372088832):
  Calls prog 161 #[va,vb] w λe w'=>∃ v,e=.returned v/\ko w w' v (a+b)/\Below w.heap.size w w':=by
 have ha:=eE (B:=base) d_ a;have hb:=eE (B:=base) d_ b;have hl:∀ s∈[cJ.row va (nd base a) (av (ae base (nd base a) a)),cJ.row vb (nd base b) (av (ae base (nd base b) b))],s.OK w:=by
  intro s hs;simp at hs;rcases hs with rfl|rfl
  ·exact⟨gQ,ga _⟩
  ·exact⟨mf,ga _⟩
 unfold jd at gQ mf;generalize nd base a=n at *;generalize nd base b=m at *;by_cases kX:n<m
 ·have hs:=KM hb (cH ha (dj d_ o_))
  refine mN (Q:=λe w'=>∃ v,e=.returned v/\ko w w' v (a+b)/\Below w.heap.size w w') mixed func161 [cJ.row va n (av (ae base n a)),cJ.row vb m (av (ae base m b))] hl 100 (N:=54) k_
   (rs:=(aZ.lt 14 n m true (by simp[kX]):aZ prog (aa.at w) 54)::aAF (ka:=1) (kb:=0) (a:=b) (b:=a) (.inr ⟨rfl,rfl⟩) hb ha o_ o_ hs (KL hb (cH ha (dj d_ o_))))
   (v:=.slice (some ⟨2,0,some 7⟩) (nd base (b+a)) 0) (ms:=[(2,.row (av (ae base (m+1) (b+a))) 175 1)]) k_ λaB cr v' w' hc bJ dW _=>⟨v',rfl,?_,bJ.base⟩
  rw[nN a b];exact yc bJ (dW _ (aR ..)) hs hc
 ·have hs:=KM ha (cH hb (dj d_ (show m<=n by omega)))
  refine mN (Q:=λe w'=>∃ v,e=.returned v/\ko w w' v (a+b)/\Below w.heap.size w w') mixed func161 [cJ.row va n (av (ae base n a)),cJ.row vb m (av (ae base m b))] hl 100 (N:=54) k_
   (rs:=(aZ.lt 14 n m false (by simp[kX]):aZ prog (aa.at w) 54)::aAF (ka:=0) (kb:=1) (a:=a) (b:=b) (.inl ⟨rfl,rfl⟩) ha hb o_ o_ hs (KL ha (cH hb (dj d_ o_))))
   (v:=.slice (some ⟨2,0,some 7⟩) (nd base (a+b)) 0) (ms:=[(2,.row (av (ae base (n+1) (a+b))) 175 1)]) k_ λaB cr v' w' hc bJ dW _=>⟨v',rfl,?_,bJ.base⟩
  exact yc bJ (dW _ (aR ..)) hs hc
theorem DK{x:Nat}(h:x<base):x.testBit 31=decide (2147483648<=x):=by rw[Nat.testBit_eq_decide_div_mod_eq,qh];unfold base at h;omega
theorem aJq{x:Nat}(h:x<base):x/2147483648=if x.testBit 31 then 1 else 0:=by
 rw[DK h];unfold base at h;by_cases h1:2147483648<=x
 ·rw[aJ h1,aA rfl];omega
 ·rw[aY h1,au d_];omega
theorem aJr{x y:Nat}(hx:x<base)(hy:y<base)(hb:b<=1):
  (((base-1-x)&&& y)||| ((base-1-(x ^^^ y))&&& ((x+2*base-y-b)%base)))/2147483648=if x<y+b then 1 else 0:=by
 have lj:x ^^^ y<base:=aAG (n:=32) hx hy;have hd:(x+2*base-y-b)%base<base:=cU _ d_;have h1:base-1-x<base:=by unfold base at *;omega
 have h2:base-1-(x ^^^ y)<base:=by unfold base at *;omega
 rw[aJq (aAH (n:=32) (OH _ hy) (OH _ hd))];rw[Z0,Nat.testBit_and,Nat.testBit_and,DK h1,DK h2,DK hy,DK hd];have h3:(decide (2147483648<=x ^^^ y))=((decide (2147483648<=x))!=(decide (2147483648<=y))):=by rw[<-DK lj,Nat.testBit_xor,DK hx,DK hy]
 have h4:decide (2147483648<=base-1-(x ^^^ y))=!(decide (2147483648<=x ^^^ y)):=by
  unfold base at *;by_cases h:2147483648<=x ^^^ y
  ·rw[aJ h,aY o_];rfl
  ·rw[aY h,aJ o_];rfl
 rw[h4,h3];unfold base at *;have e1:decide (2147483648<=4294967296-1-x)=!decide (2147483648<=x):=by
  by_cases h:2147483648<=x
  ·rw[aJ h,aY o_];rfl
  ·rw[aY h,aJ o_];rfl
 rw[e1];have fin:∀ p:Prop,[Decidable p]->(p↔x<y+b)->(if decide p=true then 1 else 0)=(if x<y+b then 1 else 0):=by
  intro p _ h;by_cases hp:p
  ·rw[aA (aJ hp),aA (h.1 hp)]
  ·rw[au (by simpa using hp),au λh'=>hp (h.2 h')]
 by_cases c1:2147483648<=x<;>by_cases c2:2147483648<=y
 ·rw[aJ c1,aJ c2];simp only[KN,An,Ao,bne_self_eq_false,OI,kp];exact fin _ o_
 ·rw[aJ c1,aY c2,au (show ¬x<y+b by omega)];rfl
 ·rw[aY c1,aJ c2,aA (show x<y+b by omega)];rfl
 ·rw[aY c1,aY c2];simp only[OI,kp,OJ,Ao,bne_self_eq_false];exact fin _ o_
theorem Ie{x:Nat}(h:x<base):(BitVec.ofInt 32 (x:Int))=BitVec.ofNat 32 x:=by simp
theorem FZ{x:Nat}(h:x<base):(BitVec.ofNat 32 x).toNat=x:=by rw[BitVec.toNat_ofNat];exact dZ h
theorem aAI{x y:Nat}(hx:x<base)(hy:y<base):IntKind.u32.wrap (((BitVec.ofInt IntKind.u32.bits (x:Int))&&& (BitVec.ofInt IntKind.u32.bits (y:Int))).toNat:Int)=((x&&& y:Nat):Int):=by show IntKind.u32.wrap (((BitVec.ofInt 32 (x:Int))&&& (BitVec.ofInt 32 (y:Int))).toNat:Int)=_;rw[Ie hx,Ie hy,BitVec.toNat_and,FZ hx,FZ hy,ox];have:x&&& y<base:=OH (n:=32) _ hy;unfold base at this;omega
theorem TP{x y:Nat}(hx:x<base)(hy:y<base):IntKind.u32.wrap (((BitVec.ofInt IntKind.u32.bits (x:Int))||| (BitVec.ofInt IntKind.u32.bits (y:Int))).toNat:Int)=((x||| y:Nat):Int):=by
 show IntKind.u32.wrap (((BitVec.ofInt 32 (x:Int))||| (BitVec.ofInt 32 (y:Int))).toNat:Int)=_;rw[Ie hx,Ie hy,BitVec.toNat_or,FZ hx,FZ hy,ox];have:x||| y<base:=aAH (n:=32) hx hy
 unfold base at this;omega
theorem aAJ{x y:Nat}(hx:x<base)(hy:y<base):IntKind.u32.wrap (((BitVec.ofInt IntKind.u32.bits (x:Int)) ^^^ (BitVec.ofInt IntKind.u32.bits (y:Int))).toNat:Int)=((x ^^^ y:Nat):Int):=by show IntKind.u32.wrap (((BitVec.ofInt 32 (x:Int)) ^^^ (BitVec.ofInt 32 (y:Int))).toNat:Int)=_;rw[Ie hx,Ie hy,BitVec.toNat_xor,FZ hx,FZ hy,ox];have:x ^^^ y<base:=aAG (n:=32) hx hy;unfold base at this;omega
theorem aAK{x:Nat}(hx:x<base):IntKind.u32.wrap (((BitVec.ofInt IntKind.u32.bits (if IntKind.u32.signed then -1 else IntKind.u32.max)) ^^^ (BitVec.ofInt IntKind.u32.bits (x:Int))).toNat:Int)=((base-1-x:Nat):Int):=by
 have h0:(if IntKind.u32.signed then -1 else IntKind.u32.max)=((base-1:Nat):Int):=by decide
 rw[h0,aAJ d_ hx]
 congr 1
 have h1:=BitVec.toNat_not (x:=BitVec.ofNat 32 x);rw[show ~~~(BitVec.ofNat 32 x)=BitVec.allOnes 32 ^^^ BitVec.ofNat 32 x from rfl,BitVec.toNat_xor,FZ hx]at h1;have h2:(BitVec.allOnes 32).toNat=base-1:=by decide
 rw[h2]at h1;exact h1
theorem aAL{x y:Nat}(hx:x<base)(hy:y<base)(hb:b<=1):
  aH prog 193 [aX x,aX y,aX b] (.tuple #[aX ((x+2*base-y-b)%base),aX (if x<y+b then 1 else 0)]):=by
 have hd:(x+2*base-y-b)%base<base:=cU _ d_;have lj:x ^^^ y<base:=aAG (n:=32) hx hy;have h1:base-1-x<base:=by unfold base at *;omega
 have h2:base-1-(x ^^^ y)<base:=by unfold base at *;omega
 have h3:(base-1-x)&&& y<base:=OH (n:=32) _ hy;have h4:(base-1-(x ^^^ y))&&& ((x+2*base-y-b)%base)<base:=OH (n:=32) _ hd;exact bI func193 (λ_=>[
  .wr 10 .u32 ((x:Int)-y) (((x+base-y)%base:Nat):Int) (by rw[ox];unfold base at *;omega),
  .wr 12 .u32 ((((x+base-y)%base:Nat):Int)-b) (((x+2*base-y-b)%base:Nat):Int) (by rw[ox];unfold base at *;omega),
  .quo 14 .u32 _ ((base-1-x:Nat):Int) (aAK hx),
  .quo 16 .u32 _ (((base-1-x)&&& y:Nat):Int) (aAI h1 hy),
  .quo 19 .u32 _ ((x ^^^ y:Nat):Int) (aAJ hx hy),
  .quo 20 .u32 _ ((base-1-(x ^^^ y):Nat):Int) (aAK lj),
  .quo 22 .u32 _ (((base-1-(x ^^^ y))&&& ((x+2*base-y-b)%base):Nat):Int) (aAI h2 hd),
  .quo 23 .u32 _ ((((base-1-x)&&& y)||| ((base-1-(x ^^^ y))&&& ((x+2*base-y-b)%base)):Nat):Int) (TP h3 h4),
  .quo 24 .u32 (((((base-1-x)&&& y)||| ((base-1-(x ^^^ y))&&& ((x+2*base-y-b)%base)):Nat):Int).fdiv (2^31)) ((if x<y+b then 1 else 0:Nat):Int) (by rw[<-aJr hx hy hb,ti _ d_];rfl)])
section
variable{Bs:aa}{n m a b:Nat}
def Ig(n m a b i:Nat):aU:=[(15,vI i),(14,vI n),(13,sl 0 n),(1,sl 1 m),(5,sl 2 n),(6,aX (lK base a b i))]
def DL(n m a b i:Nat):aL:=[(0,.view (av (ae base n a))),(1,.view (av (ae base m b))),(2,.row (av (eV base n i (a-b))) 175 1)]
theorem aJs(hi:i<n)(hb:b<base^m)(cd:b<=a)(h63:n<9223372036854775807):
  ah prog Bs 41 (aK (ai f163 0)) (Ig n m a b i) (DL n m a b i) 3 ⟨.normal,Ig n m a b (i+1),DL n m a b (i+1),3⟩:=by
 have hx:=iG (B:=base) d_ a i;have hy:=iG (B:=base) d_ b i;have hc:=Oy (B:=base) a b i;have yd:=aAL hx hy hc;rw[show a/base^i%base+2*base-b/base^i%base-lK base a b i=a/base^i%base+2*base-b/base^i%base-lK base a b i from rfl,TN d_ cd,TM d_]at yd;have bW:fK prog 175 (av (eV base n i (a-b))) i (aX ((a-b)/base^i%base))=some (av (eV base n (i+1) (a-b))):=by rw[Aj _ i _ (by simp[av,Ou];omega),Ak,Ov hi rfl]
 by_cases km:i<m
 ·exact aG [.lt 16 i n true (by simp[hi]),.ix f163 18 0 n i hi k_,.ld f163 19 175 0 i (.view (av (ae base n a))) (aX (a/base^i%base)) rfl (by rw[gB];exact lL (eU hi)) k_,.lt 23 i m true (by simp[km]),.ix f163 26 1 m i km k_,.ld f163 27 175 1 i (.view (av (ae base m b))) (aX (b/base^i%base)) rfl (by rw[gB];exact lL (eU km)) k_,yd.at 34,.ix f163 37 2 n i hi k_,.st f163 100037 175 2 i (.row (av (eV base n i (a-b))) 175 1) (aX ((a-b)/base^i%base)) (.row (av (eV base n (i+1) (a-b))) 175 1) rfl bW rfl k_,.sum 38 i 1 (i+1) rfl o_]
 ·have yb:b/base^i%base=0:=rV hb o_ d_;rw[yb]at yd;exact aG [.lt 16 i n true (by simp[hi]),.ix f163 18 0 n i hi k_,.ld f163 19 175 0 i (.view (av (ae base n a))) (aX (a/base^i%base)) rfl (by rw[gB];exact lL (eU hi)) k_,.lt 23 i m false (by simp[km]),yd.at 34,.ix f163 37 2 n i hi k_,.st f163 100037 175 2 i (.row (av (eV base n i (a-b))) 175 1) (aX ((a-b)/base^i%base)) (.row (av (eV base n (i+1) (a-b))) 175 1) rfl bW rfl k_,.sum 38 i 1 (i+1) rfl o_]
theorem aJt(hb:b<base^m)(cd:b<=a)(h63:n<9223372036854775807):
  ah prog Bs 41 (.block 0 (ai f163 0)) (Ig n m a b 0) (DL n m a b 0) 3 ⟨.normal,Ig n m a b n,DL n m a b n,3⟩:=
 cg (cz (b:=aK (ai f163 0)) (r:=⟨.exit 0,Ig n m a b n,DL n m a b n,3⟩) n (Ig n m a b) (DL n m a b)
  (λi k _=>kH (l:=DL n m a b i) (m:=DL n m a b 0) rfl k) (λi hi=>aJs hi hb cd h63) (aG [.lt 16 n n false s_]) n_)
end
theorem aJu{vb:i_}(gQ:jd w va a)(mf:jd w vb b)(cd:b<=a)(h1:nd base a<35184372088832):
  Calls prog 163 #[va,vb] w λe w'=>∃ v,e=.returned v/\ko w w' v (a-b)/\Below w.heap.size w w':=by
 have ha:=eE (B:=base) d_ a;have hb:=eE (B:=base) d_ b;have hl:∀ s∈[cJ.row va (nd base a) (av (ae base (nd base a) a)),cJ.row vb (nd base b) (av (ae base (nd base b) b))],s.OK w:=by
  intro s hs;simp at hs;rcases hs with rfl|rfl
  ·exact⟨gQ,ga _⟩
  ·exact⟨mf,ga _⟩
 unfold jd at gQ mf;generalize nd base a=n at *;generalize nd base b=m at *;have hs:a-b<base^n:=by omega
 refine mN (Q:=λe w'=>∃ v,e=.returned v/\ko w w' v (a-b)/\Below w.heap.size w w') mixed func163 [cJ.row va n (av (ae base n a)),cJ.row vb m (av (ae base m b))] hl 100 (N:=41) k_
  (rs:=[(aZ.qR f163 12 2 n 175 4 (aX 0) (av (eV base n 0 (a-b))) (by rw[TJ,FY]) rfl rfl o_ (by simp[maxLen];omega) k_:aZ prog (aa.at w) 41),.rw 6 (.int .u32 0) (aX (lK base a b 0)) (by rw[TL];rfl),.code 0 _ _ _ _ _ (aJt (n:=n) hb cd o_),.trim f163 40 2 n (a-b) (.row (av (eV base n n (a-b))) 175 1) rfl (by rw[<-Ia];rfl) hs o_ (y:=.func 178) k_])
  (v:=.slice (some ⟨2,0,some 7⟩) (nd base (a-b)) 0) (ms:=[(2,.row (av (eV base n n (a-b))) 175 1)]) k_ λaB cr v' w' hc bJ dW _=>⟨v',rfl,?_,bJ.base⟩
 have hk:=dW _ (aR ..);rw[Ia]at hk;exact yc bJ hk hs hc
structure B9(g:Nat)(w w':h_):Prop where
 os:uk w w'
 tape:w'.tape=w.tape
 output:w'.output=w.output
 size:w.heap.size<=w'.heap.size
 block:∀ k,k<w.heap.size->k≠g->w'.heap[k]?=w.heap[k]?
def aa.wP(w0:h_)(g:Nat):aa where
 G w:=B9 g w0 w
 cY k:=k<w0.heap.size/\k≠g
 lt w k h hk:=cH hk.1 h.size
 dep w w' h h1 h2 h3 h4 h5:=⟨h1.trans h.os,h2.trans h.tape,h3.trans h.output,dq h.size h4,λk hk hg=>(h5 k ⟨hk,hg⟩).trans (h.block k hk hg)⟩
section
variable{P:j_}{B:aa}{N:Nat}
theorem TQ{g:Nat}{cells:al}(hg:w.heap[g]?=some (.cells cur ty (0,0)))(kf:cap<=maxLen)(bL:cur.size=cap*size)(hc:cur.toList.take cells.length=cells)(cV:∀ v∈cells,flat v=true):
  aO (aa.wP w g) (dT (λ_=>none) 0 (.at g 0 cap)) (bA (λ_=>none) 0 (.row cells ty size)) w:=by
 have h0:aO (aa.wP w g) (λ_=>none) (λ_=>none) w:=
  ⟨⟨.refl w,rfl,rfl,bF _,λ_ _ _=>rfl⟩,λ_ _=>rfl,λk x h=>(by cases h),λk x b o cap h=>(by cases h),λk j x y b o cap o' aT h=>(by cases h),λk j x F b o cap v h=>(by cases h),λk x b o cap h=>(by cases h),λj F h=>(by cases h),λj k F F' h=>(by cases h),λ_ _ h=>(by cases h)⟩
 refine h0.add rfl (.inr ⟨g,cap,cur,rfl,hg,kf,bL,by rw[hc];exact lE cV⟩) (λb o cp _ e=>?_) n_ n_;injection e with e1 e2 e3;subst e1;exact⟨(Ac.1 hg).1,λh=>h.2 rfl,λj y o' aT h=>(by cases h),λj F v h=>(by cases h),λj y o' aT h=>(by cases h)⟩
theorem TR{g:Nat}{cells:al}(hm:aO (aa.wP w g) ι c w')(rN:ι 0=some (.at g 0 cap))(hk:c 0=some (.row cells ty size))(cV:∀ v∈cells,flat v=true):
  B9 g w w'/\∃ cur,w'.heap[g]?=some (.cells cur ty (0,0))/\cur.size=cap*size/\cur.toList.take cells.length=cells:=by
 refine⟨hm.base,?_⟩;obtain⟨l,h1,h2⟩:=hm.born 0 _ hk;rw[rN]at h1;injection h1 with h1;subst h1;rcases h2 with h2|⟨b,aT,cur,e1,e2,e3,e4,e5⟩
 ·cases h2.1
 ·injection e1 with e1 DM DN;subst e1;subst DN;exact⟨cur,e2,e4,oj e5 cV⟩
theorem aAM(c:Nat->Option Obj)(k:Nat)(x:Obj):cZ (bA c k x) [(k,x)]:=by
 intro j y hj;by_cases h:k=j
 ·subst h;have:ak [(k,x)] k=some x:=by simp[ak]
  rw[this]at hj;rw[<-hj];unfold bA;rw[aA rfl]
 ·have:ak [(k,x)] j=none:=by show(if Nat.beq k j then _ else _)=_;rw[om h];rfl
  rw[this]at hj;cases hj
theorem aJv{v:i_}(h1:∀ u∈pre,flat u=true)(h2:∀ u∈post,flat u=true):∀{l:al},bY (aM ι) (pre++v::post) l->∃ v',aM ι v v'/\l=pre++v'::post:=by
 induction pre with
 |nil=>
  intro l h;cases h with
  |cons hv t=>exact⟨_,hv,by rw[oj t h2];rfl⟩
 |cons u pre ih=>
  intro l h;cases h with
  |cons hu t=>
   obtain⟨v',q1,q2⟩:=ih (λx hx=>h1 x (bK _ hx)) t;exact⟨v',q1,by rw[q2,hu.fH (h1 _ (aR ..))];rfl⟩
theorem aJw{x:m_}{fi:al}{n:Nat}{cells:al}{val:i_}(ho:dC o.op=some x)(fq:gW P f=true)
  (dP:fi++args++ca=pre++.slice (some ⟨k,0,some 7⟩) n 0::post) (NV:∀ u∈pre,flat u=true) (TS:∀ u∈post,flat u=true) (hn:0<n) (cV:∀ v∈cells,flat v=true) (Ca:∀ v∈cells',flat v=true) (kt:flat val=true)
  (h:∀ w g cap cur,w.heap[g]?=some (.cells cur ty (0,0))->n<=cap->cap<=maxLen->cur.size=cap*size->cur.toList.take cells.length=cells->Calls P f (pre++.slice (some ⟨g,0,none⟩) n cap::post).toArray w λe w'=>e=.returned val/\B9 g w w'/\∃ gE,w'.heap[g]?=some (.cells gE ty (0,0))/\gE.size=cap*size/\gE.toList.take cells'.length=cells') :
  cI P B o (.func (.func f) fi.toArray ca.toArray::args) [(k,some (.row cells ty size))] val [(k,.row cells' ty size)]:=by
 refine kj ho fq λι c w hm e7 args' bo=>?_;rw[dP]at bo;have hk:c k=some (.row cells ty size):=e7 _ (aR ..);obtain⟨v,hv,rfl⟩:=aJv NV TS bo;rcases hv.iM rfl with ⟨_,h0,_⟩|⟨g,oo,cap,c',hb,lF,nK,he⟩
 ·omega
 ·dsimp only at hb he;have lf:c'=cap:=by omega
  subst lf;obtain⟨l,q1,q2⟩:=hm.born k _ hk;rw[hb]at q1;injection q1 with q1;subst q1;rcases q2 with q2|⟨b,aT,cur,e1,mY,dV,gv,jI⟩
  ·cases q2.1
  ·injection e1 with e1 e2 e3;subst e1;subst e2;subst e3;rw[he];refine(h w g c' cur mY lF dV gv (oj jI cV)).mono ?_
   rintro e w' ⟨rfl,qU,gE,p1,p2,p3⟩
   refine⟨ι,val,rfl,Map.le.refl _,.same kt,hm.write hk rfl hb qU.os qU.tape qU.output qU.size (λj hj F0=>qU.block j hj F0) (.inr ⟨g,c',gE,rfl,p1,dV,p2,?_⟩) n_ rfl⟩;rw[p3];exact lE Ca
end
theorem aJx{x y:Nat}(hx:x<base)(hy:y<base):aH prog 214 [aX x,aX y] (.tuple #[aX (x*y/base),aX (x*y%base)]):=by
 have h:x*y<base*base:=qS hx hy;exact bI func214 (λ_=>[
  .wr 8 .u64 x x (by rw[kK];unfold base at *;omega),.wr 10 .u64 y y (by rw[kK];unfold base at *;omega),
  .wr 11 .u64 ((x:Int)*y) ((x*y:Nat):Int) (by rw[kK,<-oP];unfold base at *;omega),
  .quo 13 .u64 (((x*y:Nat):Int).fdiv (2^32)) ((x*y/base:Nat):Int) (by rw[ti _ d_];rfl),
  .wr 14 .u32 ((x*y/base:Nat):Int) ((x*y/base:Nat):Int) (by rw[ox];have:x*y/base<base:=(jc d_).2 h;unfold base at *;omega),
  .wr 16 .u32 ((x*y:Nat):Int) ((x*y%base:Nat):Int) (by rw[ox];unfold base at *;omega)])
section
variable{Bs:aa}{n p t:Nat}
def Ap(n i p t:Nat):aL:=[(0,.row (av (dh base n i (p+t) p)) 175 1)]
def KO(n i p t:Nat):aU:=[(0,sl 0 n),(11,vI i),(10,aX (fB base p t i))]
theorem TT(hi:i<n):fK prog 175 (av (dh base n i (p+t) p)) i (aX ((p+t)/base^i%base))=some (av (dh base n (i+1) (p+t) p)):=by rw[Aj _ i _ (by simp[av,x9];omega),Ak,Ai hi rfl]
theorem aJy(hi:i<n)(ht:t<base^i)(hc:fB base p t i≠0)(h63:n<9223372036854775807):
  ah prog Bs 63 (aK (ai f194 0)) (KO n i p t) (Ap n i p t) 1 ⟨.normal,KO n (i+1) p t,Ap n (i+1) p t,1⟩:=by
 have gY:=B7 (B:=base) d_ p t i;have Am:=KK (x:=p/base^i%base) (y:=t/base^i%base) (c:=fB base p t i) (iG d_ _ _) (iG d_ _ _) (fA gY d_);rw[Ic d_,FV d_,rV ht (bF _) d_]at Am;exact aG [.rw 48 (.bool (((fB base p t i:Nat):Int)!=0)) b_ (by congr 1;rw[rW];omega),.ix f194 56 0 n i hi k_,.ld f194 57 175 0 i (.row (av (dh base n i (p+t) p)) 175 1) (aX (p/base^i%base)) rfl (by rw[gB];exact lL (DH hi (bF _))) k_,Am.at 59,.ix f194 62 0 n i hi k_,.st f194 100062 175 0 i (.row (av (dh base n i (p+t) p)) 175 1) (aX ((p+t)/base^i%base)) (.row (av (dh base n (i+1) (p+t) p)) 175 1) rfl (TT hi) rfl k_,.sum 50 i 1 (i+1) rfl o_]
theorem aJz(hc:fB base p t i=0):ah prog Bs 63 (aK (ai f194 0)) (KO n i p t) (Ap n i p t) 1 ⟨.exit 0,[],Ap n i p t,1⟩:=
 aG [.rw 48 (.bool (((fB base p t i:Nat):Int)!=0)) a_ (by rw[hc];rfl)]
theorem aJA(hi:i<=n)(ht:t<base^i)(hp:p<base^n)(hs:p+t<base^n)(h63:n<9223372036854775807):
  ah prog Bs 63 (.block 0 (ai f194 0)) (KO n i p t) (Ap n i p t) 1 ⟨.normal,[],[(0,.row (av (ae base n (p+t))) 175 1)],1⟩:=by
 have h0:fB base p t (i+(n-i))=0:=by rw[show i+(n-i)=n by omega,TK hp o_,nj hs]
 obtain⟨e,h1,h2,h3⟩:=Ah (λj=>fB base p t (i+j)=0) (n-i) h0;have OL:t<base^(i+e):=cH ht (dj d_ o_)
 have:=cz (P:=prog) (B:=Bs) (N:=63) (b:=aK (ai f194 0)) (next:=1) (r:=⟨.exit 0,[],Ap n (i+e) p t,1⟩) e (λj=>KO n (i+j) p t) (λj=>Ap n (i+j) p t)
  (λj k _=>kH (l:=Ap n (i+j) p t) (m:=Ap n (i+0) p t) rfl k)
  (λj hj=>aJy o_ (cH ht (dj d_ o_)) (h3 j hj) h63) (aJz h2) n_
 have:=cg (id:=0) this;unfold Ap at this;rw[aJd d_ OL h2]at this;exact this
end
theorem aJB{g n at' p x y:Nat}(hg:w.heap[g]?=some (.cells cur 175 (0,0)))(lF:n<=cap)(kf:cap<=maxLen)(bL:cur.size=cap*1)(hc:cur.toList.take (av (ae base n p)).length=av (ae base n p))
  (hx:x<base) (hy:y<base) (mI:at'+1<n) (hp:p<base^n) (hs:p+x*y*base^at'<base^n) (h63:n<35184372088832) :
  Calls prog 194 #[.slice (some ⟨g,0,none⟩) n cap,vI at',aX x,aX y] w λe w'=>e=.returned (.tuple #[])/\B9 g w w'/\∃ gE,w'.heap[g]?=some (.cells gE 175 (0,0))/\gE.size=cap*1/\
   gE.toList.take (av (ae base n (p+x*y*base^at'))).length=av (ae base n (p+x*y*base^at')):=by
 have hm:=TQ hg kf bL hc (ga _);have lj:x*y<base*base:=qS hx hy;have ht:=aJg (B:=base) d_ (at':=at') lj;have d0:=aJe (B:=base) d_ at' (x*y);have d1:=aJf (B:=base) d_ (at':=at') lj;have c0:=aJc (B:=base) d_ at' p (x*y);have m0:=aAv (B:=base) d_ n at' p (x*y);have s1:fK prog 175 (av (dh base n at' (p+x*y*base^at') p)) at' (aX ((p+x*y*base^at')/base^at'%base))=some (av (dh base n (at'+1) (p+x*y*base^at') p)):=TT o_;have s2:fK prog 175 (av (dh base n (at'+1) (p+x*y*base^at') p)) (at'+1) (aX ((p+x*y*base^at')/base^(at'+1)%base))=some (av (dh base n (at'+2) (p+x*y*base^at') p)):=TT mI;have lo:=aJA (Bs:=aa.wP w g) (i:=at'+2) o_ ht hp hs o_;generalize x*y*base^at'=t at *;have aAN:=KK (x:=p/base^at'%base) (y:=t/base^at'%base) (c:=fB base p t at') (iG d_ _ _) (iG d_ _ _) (by rw[c0];decide);rw[Ic d_,FV d_,d0,c0]at aAN;have gY:=B7 (B:=base) d_ p t (at'+1);have aAO:=KK (x:=p/base^(at'+1)%base) (y:=t/base^(at'+1)%base) (c:=fB base p t (at'+1)) (iG d_ _ _) (iG d_ _ _) (fA gY d_);rw[Ic d_,FV d_,d1]at aAO
 refine vH (M:=[(0,.row (av (ae base n p)) 175 1)]) (next:=1) (args:=[sl 0 n,vI at',aX x,aX y]) (args':=[.slice (some ⟨g,0,none⟩) n cap,vI at',aX x,aX y]) (v:=.tuple #[])
  (ms:=[(0,.row (av (ae base n (p+t))) 175 1)]) (N:=63) mixed func194 k_ 100
  (rs:=[((aJx hx hy).at 15:aZ prog (aa.wP w g) 63),.ix f194 23 0 n at' o_ k_,.ld f194 24 175 0 at' (.row (av (ae base n p)) 175 1) (aX (p/base^at'%base)) rfl (by rw[gB];exact lL (eU o_)) k_,aAN.at 26,.ix f194 29 0 n at' o_ k_,.st f194 100029 175 0 at' (.row (av (ae base n p)) 175 1) (aX ((p+t)/base^at'%base)) (.row (av (dh base n (at'+1) (p+t) p)) 175 1) rfl (by rw[<-m0];exact s1) rfl k_,.sum 33 at' 1 (at'+1) rfl o_,.sum 36 at' 1 (at'+1) rfl o_,.ix f194 37 0 n (at'+1) mI k_,.ld f194 38 175 0 (at'+1) (.row (av (dh base n (at'+1) (p+t) p)) 175 1) (aX (p/base^(at'+1)%base)) rfl (by rw[gB];exact lL (DH mI (bF _))) k_,aAO.at 41,.ix f194 44 0 n (at'+1) mI k_,.st f194 100044 175 0 (at'+1) (.row (av (dh base n (at'+1) (p+t) p)) 175 1) (aX ((p+t)/base^(at'+1)%base)) (.row (av (dh base n (at'+2) (p+t) p)) 175 1) rfl s2 rfl k_,.sum 46 at' 2 (at'+2) rfl o_,.code 0 _ _ _ _ _ lo]) k_ ?_ hm ?_ ?_ ?_
 ·exact .cons (.slc (off:=0) (gu _ _ _) lF o_) (.cons (.same rfl) (.cons (.same rfl) (.cons (.same rfl) .nil)))
 ·exact aAM _ _ _
 ·intro k hk;unfold bA;rw[au o_]
 ·intro aB cr v' w' hle uo bJ dW;obtain⟨q1,q2⟩:=TR bJ (hle 0 _ (gu _ _ _)) (dW _ (aR ..)) (ga _);exact⟨by rw[uo.fH rfl],q1,q2⟩
section
variable{Bs:aa}{n m a b:Nat}
def Aq(n m a b i k:Nat):Obj:=.row (av (ae base (n+m+1) (part base a b i k))) 175 1
def TU(N:Nat):Value:=.func (.func 194) #[sl 2 N] #[]
theorem aJC{x:m_}(ho:dC o.op=some x)(hi:i<n)(hk:k<m)(ha:a<base^n)(hb:b<base^m)(h63:n+m+1<35184372088832):
  cI prog Bs o [TU (n+m+1),vI (i+k),aX (a/base^i%base),aX (b/base^k%base)] [(2,some (Aq n m a b i k))] (.tuple #[]) [(2,Aq n m a b i (k+1))]:=by
 refine aJw (fi:=[sl 2 (n+m+1)]) (args:=[vI (i+k),aX (a/base^i%base),aX (b/base^k%base)]) (ca:=[]) (pre:=[]) (post:=[vI (i+k),aX (a/base^i%base),aX (b/base^k%base)]) ho k_ rfl n_
  (λu hu=>by simp at hu;rcases hu with rfl|rfl|rfl<;>rfl) o_ (ga _) (ga _) rfl λw g cap cur h1 h2 h3 h4 h5=>?_
 have ao:=aAB (B:=base) d_ ha hb;rw[aAy]
 exact aJB h1 h2 h3 h4 h5 (iG d_ _ _) (iG d_ _ _) o_ (fA (aAz d_ _ _ _ _) ao)
  (by rw[<-aAy];exact fA (aAz d_ _ _ _ _) ao) h63
def Ih(n m a b i k:Nat):aU:=[(29,vI k),(28,vI m),(27,sl 1 m),(6,TU (n+m+1)),(7,vI i),(8,aX (a/base^i%base))]
def DO(n m a b i k:Nat):aL:=[(1,.view (av (ae base m b))),(2,Aq n m a b i k)]
theorem aJD(hi:i<n)(hk:k<m)(ha:a<base^n)(hb:b<base^m)(h63:n+m+1<35184372088832):
  ah prog Bs 45 (aK (ai f164 2)) (Ih n m a b i k) (DO n m a b i k) 3 ⟨.normal,Ih n m a b i (k+1),DO n m a b i (k+1),3⟩:=
 aG [.lt 30 k m true (by simp[hk]),.ix f164 32 1 m k hk k_,.ld f164 33 175 1 k (.view (av (ae base m b))) (aX (b/base^k%base)) rfl (by rw[gB];exact lL (eU hk)) k_,.sum 37 i k (i+k) rfl o_,.step 40 (az f164 40) _ _ _ _ (aJC (x:=.tmp 34) k_ hi hk ha hb h63),.sum 41 k 1 (k+1) rfl o_]
theorem aJE(hi:i<n)(ha:a<base^n)(hb:b<base^m)(h63:n+m+1<35184372088832):
  ah prog Bs 45 (.block 2 (ai f164 2)) (Ih n m a b i 0) (DO n m a b i 0) 3 ⟨.normal,Ih n m a b i m,[(1,.view (av (ae base m b))),(2,Aq n m a b (i+1) 0)],3⟩:=by
 have:=cz (P:=prog) (B:=Bs) (N:=45) (b:=aK (ai f164 2)) (r:=⟨.exit 2,Ih n m a b i m,DO n m a b i m,3⟩) m (Ih n m a b i) (DO n m a b i)
  (λk j _=>kH (l:=DO n m a b i k) (m:=DO n m a b i 0) rfl j) (λk hk=>aJD hi hk ha hb h63) (aG [.lt 30 m m false s_]) n_
 have:=cg (id:=2) this;unfold DO Aq at this;rw[aJh hb]at this;exact this
def Ii(n m i:Nat):aU:=[(22,vI i),(21,vI n),(20,sl 0 n),(1,sl 1 m),(5,sl 2 (n+m+1)),(6,TU (n+m+1))]
def DP(n m a b i:Nat):aL:=[(0,.view (av (ae base n a))),(1,.view (av (ae base m b))),(2,Aq n m a b i 0)]
theorem aJF(hi:i<n)(ha:a<base^n)(hb:b<base^m)(h63:n+m+1<35184372088832):
  ah prog Bs 45 (aK (ai f164 0)) (Ii n m i) (DP n m a b i) 3 ⟨.normal,Ii n m (i+1),DP n m a b (i+1),3⟩:=
 aG [.lt 23 i n true (by simp[hi]),.ix f164 25 0 n i hi k_,.ld f164 26 175 0 i (.view (av (ae base n a))) (aX (a/base^i%base)) rfl (by rw[gB];exact lL (eU hi)) k_,.code 2 _ _ _ _ _ (aJE hi ha hb h63),.sum 42 i 1 (i+1) rfl o_]
theorem aJG(ha:a<base^n)(hb:b<base^m)(h63:n+m+1<35184372088832):
  ah prog Bs 45 (.block 0 (ai f164 0)) (Ii n m 0) (DP n m a b 0) 3 ⟨.normal,Ii n m n,DP n m a b n,3⟩:=
 cg (cz (b:=aK (ai f164 0)) (r:=⟨.exit 0,Ii n m n,DP n m a b n,3⟩) n (Ii n m) (DP n m a b)
  (λi k _=>kH (l:=DP n m a b i) (m:=DP n m a b 0) rfl k) (λi hi=>aJF hi ha hb h63) (aG [.lt 23 n n false s_]) n_)
end
theorem TV(B n:Nat):ae B n 0=List.replicate n 0:=by apply x8<;>simp[ae]
theorem aJH{vb:i_}(gQ:jd w va a)(mf:jd w vb b)(h63:nd base a+nd base b+1<35184372088832):
  Calls prog 164 #[va,vb] w λe w'=>∃ v,e=.returned v/\ko w w' v (a*b)/\Below w.heap.size w w':=by
 have ha:=eE (B:=base) d_ a;have hb:=eE (B:=base) d_ b;have hl:∀ s∈[cJ.row va (nd base a) (av (ae base (nd base a) a)),cJ.row vb (nd base b) (av (ae base (nd base b) b))],s.OK w:=by
  intro s hs;simp at hs;rcases hs with rfl|rfl
  ·exact⟨gQ,ga _⟩
  ·exact⟨mf,ga _⟩
 unfold jd at gQ mf;generalize nd base a=n at *;generalize nd base b=m at *;have hs:=aAB (B:=base) d_ ha hb;have bo:part base a b n 0=a*b:=by rw[DI,dZ ha]
 refine mN (Q:=λe w'=>∃ v,e=.returned v/\ko w w' v (a*b)/\Below w.heap.size w w') mixed func164 [cJ.row va n (av (ae base n a)),cJ.row vb m (av (ae base m b))] hl 100 (N:=45) k_
  (rs:=[(aZ.sum 15 n m (n+m) rfl o_:aZ prog (aa.at w) 45),.sum 16 (n+m) 1 (n+m+1) rfl o_,.qR f164 17 2 (n+m+1) 175 4 (aX 0) (Aq n m a b 0 0).cells (by show _=av (ae base (n+m+1) (part base a b 0 0));rw[DI,tn,uH,l9,TV,FY]) rfl rfl o_ (by simp[maxLen];omega) k_,.code 0 _ _ _ _ _ (aJG (n:=n) (m:=m) ha hb h63),.trim f164 44 2 (n+m+1) (a*b) (Aq n m a b n 0) rfl (by rw[<-bo];rfl) hs o_ (y:=.func 178) k_])
  (v:=.slice (some ⟨2,0,some 7⟩) (nd base (a*b)) 0) (ms:=[(2,Aq n m a b n 0)]) k_ λaB cr v' w' hc bJ dW _=>⟨v',rfl,?_,bJ.base⟩
 have hk:=dW _ (aR ..);unfold Aq at hk;rw[bo]at hk;exact yc bJ hk hs hc
section
variable{P:j_}{B:aa}{N:Nat}
def Ij(o:Oper):Option BinOp:=match o.op with|.binOp b _ _ _ _=>some b|_=>none
theorem OM{b:BinOp}(ho:Ij o=some b)(hb:b≠.eql/\b≠.neq){x y v:i_}(hx:flat x=true)(hy:flat y=true)(hv:flat v=true)(h:∀ t w,(binOp b t x y).run P w=.ok v w):
  cI P B o [x,y] [] v []:=by
 unfold Ij at ho;split at ho
 ·rename_i b' t p q t2 ck;injection ho with ho;subst ho;refine(BQ (λu hu=>by simp at hu;rcases hu with rfl|rfl<;>assumption) hv λρ fP w _=>?_).step;rw[ck]at fP;simp[Op.operands]at fP;have hg:(eqGuard b' t p q (ρ p) (ρ q)).run P w=.ok () w:=by unfold eqGuard;cases b'<;>first|rfl|exact absurd rfl hb.1|exact absurd rfl hb.2
  simp only[execOp,ck,fP.1,fP.2];rw[fP.1,fP.2]at hg;simp[hg,h]
 ·cases ho
def aZ.shl(fn:Func)(key:Nat)(k:IntKind)(x r:Int)(n:Nat)(hr:k.wrap (x*2^(min n k.bits))=r)(ho:Ij (az fn key)=some .shl):aZ P B N:=
 .step key (az fn key) [.int k x,vI n] [] (.int k r) [] (OM ho ⟨λe=>(by cases e),λe=>(by cases e)⟩ rfl rfl rfl λt w=>by
  have h0:¬((n:Int)<0):=by omega
  simp[binOp,Op.shift,vI,h0,hr])
def aZ.shr(fn:Func)(key:Nat)(k:IntKind)(x r:Int)(n:Nat)(hr:x.fdiv (2^(min n k.bits))=r)(ho:Ij (az fn key)=some .shr):aZ P B N:=
 .step key (az fn key) [.int k x,vI n] [] (.int k r) [] (OM ho ⟨λe=>(by cases e),λe=>(by cases e)⟩ rfl rfl rfl λt w=>by
  have h0:¬((n:Int)<0):=by omega
  simp[binOp,Op.shift,vI,h0,hr])
def aZ.wQ(fn:Func)(key:Nat)(k:IntKind)(x y r:Int)(hy:y≠0)(hr:k.wrap (x.tdiv y)=r)(ho:Ij (az fn key)=some .quo):aZ P B N:=
 .step key (az fn key) [.int k x,.int k y] [] (.int k r) [] (OM ho ⟨λe=>(by cases e),λe=>(by cases e)⟩ rfl rfl rfl λt w=>by simp[binOp,Op.intDiv,hy,hr])
def aZ.F1(fn:Func)(key:Nat)(k:IntKind)(x y r:Int)(hy:y≠0)(hr:x.tmod y=r)(ho:Ij (az fn key)=some .rem):aZ P B N:=
 .step key (az fn key) [.int k x,.int k y] [] (.int k r) [] (OM ho ⟨λe=>(by cases e),λe=>(by cases e)⟩ rfl rfl rfl λt w=>by simp[binOp,Op.intDiv,hy,hr])
def Ik(P:j_)(o:Oper):Bool:=match o.op with
 |.index t _ _=>match P.underlying t with|some .string=>true|_=>false
 |_=>false
theorem aJI(ho:Ik P o=true){s:ByteArray}{c:UInt8}(hc:s[i]?=some c):cI P B o [.string s,vI i] [] (.int .u8 (c.toNat:Int)) []:=by
 unfold Ik at ho;split at ho
 ·rename_i t p q ck;split at ho
  ·rename_i ht;refine(BQ (λu hu=>by simp at hu;rcases hu with rfl|rfl<;>rfl) rfl λρ fP w _=>?_).step;rw[ck]at fP;simp[Op.operands]at fP;have h0:(0:Int)<=(i:Int):=by omega
   simp[execOp,ck,fP.1,fP.2,Instr.index,vI,asIntOf,jX ht,h0,hc]
  ·cases ho
 ·cases ho
def aZ.sx(fn:Func)(key:Nat)(s:ByteArray)(i:Nat)(c:UInt8)(hc:s[i]?=some c)(ho:Ik P (az fn key)=true):aZ P B N:=
 .step key (az fn key) [.string s,vI i] [] (.int .u8 (c.toNat:Int)) [] (aJI ho hc)
def TW(P:j_)(o:Oper):Bool:=match o.op with
 |.slice t _ (some _) none none=>match P.underlying t with|some .string=>true|_=>false
 |_=>false
theorem aJJ(ho:TW P o=true){s:ByteArray}(hi:i<=s.size):cI P B o [.string s,vI i] [] (.string (s.extract i s.size)) []:=by
 unfold TW at ho;split at ho
 ·rename_i t p q ck;split at ho
  ·rename_i ht;refine(BQ (λu hu=>by simp at hu;rcases hu with rfl|rfl<;>rfl) rfl λρ fP w _=>?_).step;rw[ck]at fP;simp[Op.operands]at fP;have h0:(0:Int)<=(i:Int):=by omega
   have h1:(i:Int)<=(s.size:Int):=by omega
   simp[execOp,ck,fP.1,fP.2,Instr.sliceAt,Instr.slice,Instr.sliceBounds,Instr.sliceBound,vI,asIntOf,jX ht,h0,hi]
  ·cases ho
 ·cases ho
def aZ.sf(fn:Func)(key:Nat)(s:ByteArray)(i:Nat)(hi:i<=s.size)(ho:TW P (az fn key)=true):aZ P B N:=
 .step key (az fn key) [.string s,vI i] [] (.string (s.extract i s.size)) [] (aJJ ho hi)
end
def gJ(l:List UInt8):Nat:=l.foldl (λa c=>a*256+c.toNat) 0
theorem TX:∀(l:List UInt8) (a:Nat),l.foldl (λa c=>a*256+c.toNat) a=a*256^l.length+gJ l
 |[],a=>by simp[gJ]
 |c::l,a=>by have e:gJ (c::l)=(0*256+c.toNat)*256^l.length+gJ l:=TX l (0*256+c.toNat);rw[vF,TX l,e,qd,dH,fZ,l9,kT,gA,c7 256];omega
theorem KP(c:UInt8)(l:List UInt8):gJ (c::l)=c.toNat*256^l.length+gJ l:=by have:=TX l (0*256+c.toNat);have e:gJ (c::l)=List.foldl (λa c=>a*256+c.toNat) (0*256+c.toNat) l:=rfl;rw[e,this,l9,kT]
theorem Cb:∀(l:List UInt8),gJ l<256^l.length
 |[]=>by simp[gJ]
 |c::l=>by
  have h1:=Cb l;have h2:c.toNat<256:=c.toNat_lt;rw[KP,qd,dH];have:c.toNat*256^l.length+256^l.length<=256^l.length*256:=by rw[<-uI,c7];exact jY _ o_
  omega
theorem aAP:∀(l:List UInt8) (i:Nat),i<l.length->∃ c,l[l.length-1-i]?=some c/\c.toNat=gJ l/256^i%256
 |[],i,h=>by simp at h
 |c::l,i,h=>by
  rw[qd]at h;rw[KP];rcases fo i l.length with hi|hi
  ·obtain⟨d,h1,h2⟩:=aAP l i hi;refine⟨d,?_,?_⟩
   ·rw[qd,show l.length+1-1-i=(l.length-1-i)+1 by omega,List.getElem?_cons_succ];exact h1
   ·rw[h2];have e:256^l.length=256^i*(256*256^(l.length-i-1)):=by rw[<-Nat.pow_succ',<-eW];congr 1;omega
    rw[e,show c.toNat*(256^i*(256*256^(l.length-i-1)))=256^i*(256*(c.toNat*256^(l.length-i-1)))by rw[nO,nO c.toNat],nN,KH _ _ (cT d_),FX]
  ·have e:i=l.length:=by omega
   subst e;refine⟨c,by simp,?_⟩;have h1:=Cb l;have h2:c.toNat<256:=c.toNat_lt;rw[c7,nN,KH _ _ (cT d_),nj h1,kT,dZ h2]
def lk(s:ByteArray):Nat:=gJ s.data.toList
theorem aAQ(s:ByteArray)(i:Nat):s[i]?=s.data.toList[i]?:=by
 by_cases h:i<s.size
 ·rw[getElem?_pos s i h,bt (by simpa using h)];rfl
 ·rw[getElem?_neg s i h,BP (by simpa using h)]
theorem aAR(s:ByteArray):lk s<256^s.size:=Cb _
theorem TY(s:ByteArray)(h:i<s.size):∃ c,s[s.size-1-i]?=some c/\c.toNat=lk s/256^i%256:=by rw[aAQ];exact aAP s.data.toList i (by simpa using h)
theorem aJK:(a%256^i/4294967296^(i/4)%4294967296)||| (a/256^i%256*2^(8*(i%4)))=a%256^(i+1)/4294967296^(i/4)%4294967296:=by
 have hB:(4294967296:Nat)=256^4:=by decide
 have e1:(4294967296:Nat)^(i/4)=256^(4*(i/4)):=by rw[hB,<-tu]
 have e2:(2:Nat)^(8*(i%4))=256^(i%4):=by rw[tu]
 have e3:256^i=256^(4*(i/4))*256^(i%4):=by rw[<-eW];congr 1;omega
 have hq:0<256^(4*(i/4)):=cT d_;have hr:256^(i%4)*256<=4294967296:=by rw[hB,<-dH];exact dj d_ o_
 rw[e1,e2];have m1:a%256^i/256^(4*(i/4))=a/256^(4*(i/4))%256^(i%4):=by rw[e3,Cc]
 have m2:a%256^(i+1)/256^(4*(i/4))=a/256^(4*(i/4))%(256^(i%4)*256):=by rw[dH,e3,gA,Cc]
 have m3:a/256^i%256=a/256^(4*(i/4))/256^(i%4)%256:=by rw[e3,lJ]
 rw[m1,m2,m3];generalize a/256^(4*(i/4))=c;have hp:0<256^(i%4):=cT d_;have h1:=cU c hp;have h2:c/256^(i%4)%256<256:=cU _ d_;have h3:c%(256^(i%4)*256)=c%256^(i%4)+256^(i%4)*(c/256^(i%4)%256):=Ow;have h4:c%(256^(i%4)*256)<256^(i%4)*256:=cU _ o_;rw[dZ (show c%256^(i%4)<4294967296 by omega),dZ (show c%(256^(i%4)*256)<4294967296 by omega),h3];have e4:(256:Nat)^(i%4)=2^(8*(i%4)):=by rw[tu]
 rw[e4]at h1 ⊢;rw[Nat.or_comm,c7,<-ON h1,nN]
theorem aJL(h:j≠i/4):a%256^i/4294967296^j%4294967296=a%256^(i+1)/4294967296^j%4294967296:=by
 have hB:(4294967296:Nat)=256^4:=by decide
 have e1:(4294967296:Nat)^j=256^(4*j):=by rw[hB,<-tu]
 rw[e1];rcases FG h with h1|h1
 ·-- lower digits
  have k:∀ i,4*j+4<=i->a%256^i/256^(4*j)%4294967296=a/256^(4*j)%4294967296:=by
   intro i hi;have e3:256^i=256^(4*j)*(4294967296*256^(i-4*j-4)):=by rw[hB,<-eW,<-eW];congr 1;omega
   rw[e3,Cc,KQ]
  rw[k i o_,k (i+1) o_]
 ·have hp:∀ i,i<=4*j->a%256^i/256^(4*j)=0:=by intro i hi;exact nj (cH (cU _ (cT d_)) (dj d_ hi))
  rw[hp i o_,hp (i+1) o_]
theorem aJM{n:Nat}(hi:i/4<n):(ae 4294967296 n (a%256^i)).set (i/4) (a%256^(i+1)/4294967296^(i/4)%4294967296)=ae 4294967296 n (a%256^(i+1)):=by
 apply x8
 ·simp[ae]
 ·intro j h1 h2;simp only[ae,eO,Ag]at h2;rw[Ib];simp only[ae,DD,DF];by_cases hj:i/4=j
  ·rw[aA hj,hj]
  ·rw[au hj];exact aJL (kV hj)
def BA(l:List UInt8):ByteArray:=⟨l.toArray⟩
theorem pD(l:List UInt8):(BA l).size=l.length:=rfl
theorem KR(l:List UInt8)(i:Nat):(BA l)[i]?=l[i]?:=by rw[aAQ];rfl
theorem aJN(l:List UInt8)(i:Nat):(BA l).extract i (BA l).size=BA (l.drop i):=by apply ByteArray.ext;rw[ByteArray.data_extract];show(l.toArray).extract i l.length=(l.drop i).toArray;apply Fx;simp[lh]
def ku:List UInt8->Nat
 |[]=>0
 |c::l=>if c=0 then ku l+1 else 0
theorem aAS:∀ l:List UInt8,ku l<=l.length
 |[]=>bF _
 |c::l=>by unfold ku;have:=aAS l;split<;>simp<;>omega
theorem aAT:∀(l:List UInt8) (i:Nat),i<ku l->l[i]?=some 0
 |[],i,h=>by simp[ku]at h
 |c::l,i,h=>by
  unfold ku at h;split at h
  ·rename_i hc;cases i with
   |zero=>rw[hc];rfl
   |succ i=>exact aAT l i o_
  ·omega
theorem aAU:∀(l:List UInt8),ku l<l.length->∃ c,l[ku l]?=some c/\c≠0
 |[],h=>by simp at h
 |c::l,h=>by
  unfold ku at h ⊢;split at h
  ·rename_i hc;rw[aA hc];obtain⟨d,h1,h2⟩:=aAU l (by simpa using h);exact⟨d,h1,h2⟩
  ·rename_i hc;rw[au hc];exact⟨c,rfl,hc⟩
def KS(l:List UInt8):List UInt8:=l.drop (ku l)
theorem aJO{x n:Nat}(hn:n<=32)(h:x*2^n<base):IntKind.u32.wrap ((x:Int)*2^(min n IntKind.u32.bits))=((x*2^n:Nat):Int):=by
 have e:(x:Int)*2^n=((x*2^n:Nat):Int):=by simp
 rw[show min n IntKind.u32.bits=n from oQ hn,ox,e];unfold base at h;omega
section
variable{Bs:aa}{n N a:Nat}{s:ByteArray}
def Il(s:ByteArray)(n N i:Nat):aU:=[(13,vI i),(12,vI n),(0,.string s),(3,sl 0 N)]
def DQ(N a i:Nat):aL:=[(0,.row (av (ae base N (a%256^i))) 175 1)]
theorem aJP(hn:n=s.size)(hN:N=(n+3)/4)(ha:a=lk s)(hi:i<n)(h63:n<35184372088832):
  ah prog Bs 39 (aK (ai f160 0)) (Il s n N i) (DQ N a i) 1 ⟨.normal,Il s n N (i+1),DQ N a (i+1),1⟩:=by
 obtain⟨c,gY,du⟩:=TY s (show i<s.size by omega);rw[<-hn]at gY;rw[<-ha]at du;have ye:i/4<N:=by omega
 have hb:=aJK (a:=a) (i:=i);have h1:a%256^i/base^(i/4)%base<base:=iG d_ _ _;have h2:c.toNat*2^(8*(i%4))<base:=by have:c.toNat<256:=c.toNat_lt;have h3:2^(8*(i%4))<=2^24:=dj d_ o_;have:=yf (show c.toNat<=255 by omega) h3;unfold base;omega
 have bW:fK prog 175 (av (ae base N (a%256^i))) (i/4) (aX (a%256^(i+1)/base^(i/4)%base))=some (av (ae base N (a%256^(i+1)))):=by rw[Aj _ _ _ (by simp[av,pB];exact ye),Ak,aJM ye]
 have l4:((a%256^i/base^(i/4)%base||| c.toNat*2^(8*(i%4)):Nat):Int)=((a%256^(i+1)/base^(i/4)%base:Nat):Int):=by rw[du];exact cS _ hb
 have hlen:(s.size:Int)=((n:Nat):Int):=by rw[hn]
 exact aG [.lt 14 i n true (by simp[hi]),.rw 17 (.int .i64 (s.size:Int)) (vI n) (by rw[hlen];rfl),.fN 18 n 1 (n-1) o_ o_,.fN 20 (n-1) i (n-1-i) o_ o_,.wr 23 .i64 (Int.tdiv (i:Int) 4) ((i/4:Nat):Int) (by rw[eD,Cd o_];omega),.ix f160 24 0 N (i/4) ye k_,.ld f160 25 175 0 (i/4) (.row (av (ae base N (a%256^i))) 175 1) (aX (a%256^i/base^(i/4)%base)) rfl (by rw[gB];exact lL (eU ye)) k_,.sx f160 28 s (n-1-i) c gY k_,.wr 29 .u32 (c.toNat:Int) (c.toNat:Int) (by rw[ox];have:=c.toNat_lt;omega),.quo 31 .i64 (Int.tmod (i:Int) 4) ((i%4:Nat):Int) (by rw[Ar o_];omega),.wr 32 .i64 (8*((i%4:Nat):Int)) ((8*(i%4):Nat):Int) (by rw[eD];omega),.shl f160 33 .u32 (c.toNat:Int) ((c.toNat*2^(8*(i%4)):Nat):Int) (8*(i%4)) (aJO o_ h2) k_,.quo 34 .u32 _ _ ((TP h1 h2).trans l4),.ix f160 35 0 N (i/4) ye k_,.st f160 100035 175 0 (i/4) (.row (av (ae base N (a%256^i))) 175 1) (aX (a%256^(i+1)/base^(i/4)%base)) (.row (av (ae base N (a%256^(i+1)))) 175 1) rfl bW rfl k_,.sum 36 i 1 (i+1) rfl o_]
theorem aJQ(hn:n=s.size)(hN:N=(n+3)/4)(ha:a=lk s)(h63:n<35184372088832):
  ah prog Bs 39 (.block 0 (ai f160 0)) (Il s n N 0) (DQ N a 0) 1 ⟨.normal,Il s n N n,DQ N a n,1⟩:=
 cg (cz (b:=aK (ai f160 0)) (r:=⟨.exit 0,Il s n N n,DQ N a n,1⟩) n (Il s n N) (DQ N a)
  (λi k _=>kH (l:=DQ N a i) (m:=DQ N a 0) rfl k) (λi hi=>aJP hn hN ha hi h63) (aG [.lt 14 n n false s_]) n_)
end
theorem aJR{s:ByteArray}(h63:s.size<35184372088832):
  Calls prog 160 #[.string s] w λe w'=>∃ v,e=.returned v/\ko w w' v (lk s)/\Below w.heap.size w w':=by
 have ao:=aAR s;have hs:lk s<base^((s.size+3)/4):=by
  have:(base:Nat)=256^4:=by decide
  rw[this,<-tu];exact cH ao (dj d_ o_)
 have bo:lk s%256^s.size=lk s:=dZ ao
 refine mN (Q:=λe w'=>∃ v,e=.returned v/\ko w w' v (lk s)/\Below w.heap.size w w') mixed func160 [cJ.plain (.string s)] (λx hx=>by simp at hx;subst hx;rfl) 100 (N:=39) k_
  (rs:=[(aZ.sum 8 s.size 3 (s.size+3) rfl o_:aZ prog (aa.at w) 39),.wr 9 .i64 (Int.tdiv ((s.size+3:Nat):Int) 4) (((s.size+3)/4:Nat):Int) (by rw[eD,Cd o_];omega),.qR f160 10 0 ((s.size+3)/4) 175 4 (aX 0) (av (ae base ((s.size+3)/4) (lk s%256^0))) (by rw[tn,uH,TV,FY]) rfl rfl o_ (by simp[maxLen];omega) k_,.code 0 _ _ _ _ _ (aJQ (n:=s.size) (N:=(s.size+3)/4) (a:=lk s) rfl rfl rfl h63),.trim f160 38 0 ((s.size+3)/4) (lk s) (.row (av (ae base ((s.size+3)/4) (lk s%256^s.size))) 175 1) rfl (by rw[bo];rfl) hs o_ (y:=.func 178) k_])
  (v:=.slice (some ⟨0,0,some 7⟩) (nd base (lk s)) 0) (ms:=[(0,.row (av (ae base ((s.size+3)/4) (lk s%256^s.size))) 175 1)]) k_ λaB cr v' w' hc bJ dW _=>⟨v',rfl,?_,bJ.base⟩
 have hk:=dW _ (aR ..);rw[bo]at hk;exact yc bJ hk hs hc
section
variable{Bs:aa}{l:List UInt8}
def DR(l:List UInt8)(i:Nat):aU:=[(0,.string (BA (l.drop i))),(1,.int .u8 0)]
theorem TZ:(((BA (l.drop i)).size:Nat):Int)=((l.length-i:Nat):Int):=by rw[pD,wI]
theorem aJS(hi:i<ku l):ah prog Bs 17 (aK (ai f216 0)) (DR l i) [] 0 ⟨.normal,DR l (i+1),[],0⟩:=by
 have hz:=aAT l i hi;have hle:=aAS l;have e:(BA (l.drop i)).extract 1 (BA (l.drop i)).size=BA (l.drop (i+1)):=by rw[aJN,OO]
 have h1:1<=(BA (l.drop i)).size:=by rw[pD,wI];omega
 exact aG [.rw 6 (.int .i64 (((BA (l.drop i)).size:Nat):Int)) (vI (l.length-i)) (by rw[TZ];rfl),.gt 7 (l.length-i) 0 true (by simp;omega),.sx f216 10 (BA (l.drop i)) 0 0 (by rw[KR,Ft];exact hz) k_,.sf f216 15 (BA (l.drop i)) 1 h1 k_,.rw 0 (.string ((BA (l.drop i)).extract 1 (BA (l.drop i)).size)) (.string (BA (l.drop (i+1)))) (by rw[e])]
theorem aJT:ah prog Bs 17 (aK (ai f216 0)) (DR l (ku l)) [] 0 ⟨.exit 0,DR l (ku l),[],0⟩:=by
 by_cases h:ku l<l.length
 ·obtain⟨c,h1,h2⟩:=aAU l h;have h3:c.toNat≠0:=λe=>h2 (OP.1 (by rw[e];rfl));exact aG [.rw 6 (.int .i64 (((BA (l.drop (ku l))).size:Nat):Int)) (vI (l.length-ku l)) (by rw[TZ];rfl),.gt 7 (l.length-ku l) 0 true (by simp;omega),.sx f216 10 (BA (l.drop (ku l))) 0 c (by rw[KR,Ft];exact h1) k_,.gH 12 c.toNat 0 false (by simp[h3])]
 ·exact aG [.rw 6 (.int .i64 (((BA (l.drop (ku l))).size:Nat):Int)) (vI (l.length-ku l)) (by rw[TZ];rfl),.gt 7 (l.length-ku l) 0 false (by simp;omega)]
theorem aJU:ah prog Bs 17 (.block 0 (ai f216 0)) (DR l 0) [] 0 ⟨.normal,DR l (ku l),[],0⟩:=
 cg (cz (b:=aK (ai f216 0)) (r:=⟨.exit 0,DR l (ku l),[],0⟩) (ku l) (DR l) (λ_=>[]) (λi k _=>Iff.rfl) (λi hi=>aJS hi) aJT n_)
end
theorem aJV(l:List UInt8):aH prog 216 [.string (BA l),.int .u8 0] (.string (BA (KS l))):=
 bI func216 (λ_=>[.code 0 _ _ _ _ _ (aJU (l:=l))])
theorem aAV(l:List UInt8):(BA l).toList=l:=by rw[ByteArray.toList_eq];rfl
theorem F2(l:List UInt8):((BA l).toList==(ByteArray.mk #[]).toList)=decide (l=[]):=by rw[aAV,show(ByteArray.mk #[]).toList=[]from aAV []];cases l<;>rfl
theorem aJW(l:List UInt8):aH prog 200 [.string (BA l),.string ⟨#[0]⟩] (.string (BA (KS l))):=by
 by_cases h:l=[]
 ·subst h;exact bI func200 (λ_=>[.rw 8 (.bool ((BA []).toList==(ByteArray.mk #[]).toList)) b_ (by rw[F2];rfl)])
 ·exact bI func200 (λ_=>[.rw 8 (.bool ((BA l).toList==(ByteArray.mk #[]).toList)) a_ (by rw[F2,aY h]),(aJV l).at 25])
theorem T0{x y:Nat}(hx:x<18446744073709551616)(hy:y<18446744073709551616):IntKind.u64.wrap (((BitVec.ofInt IntKind.u64.bits (x:Int))||| (BitVec.ofInt IntKind.u64.bits (y:Int))).toNat:Int)=((x||| y:Nat):Int):=by
 show IntKind.u64.wrap (((BitVec.ofInt 64 (x:Int))||| (BitVec.ofInt 64 (y:Int))).toNat:Int)=_;have e:∀ x:Nat,(BitVec.ofInt 64 (x:Int))=BitVec.ofNat 64 x:=λx=>by simp
 have t:∀ x:Nat,x<18446744073709551616->(BitVec.ofNat 64 x).toNat=x:=λx h=>by rw[BitVec.toNat_ofNat];exact dZ h
 rw[e,e,BitVec.toNat_or,t x hx,t y hy,kK];have:x||| y<18446744073709551616:=aAH (n:=64) hx hy
 omega
theorem aJX{hi lo y:Nat}(hh:hi<y)(hl:lo<base)(hy:y<base):
  aH prog 215 [aX hi,aX lo,aX y] (.tuple #[aX ((hi*base+lo)/y),aX ((hi*base+lo)%y)]):=by
 have l4:hi*base||| lo=hi*base+lo:=by have:=ON (i:=32) hl hi;rw[c7];exact this.symm
 have hs:hi*base+lo<18446744073709551616:=by clear l4;unfold base at *;omega
 have hq:(hi*base+lo)/y<base:=by rw[jc o_];have:=fe base (show hi+1<=y by omega);rw[c7 base y];clear l4;unfold base at *;omega
 have hr:(hi*base+lo)%y<base:=nq (cU _ o_) hy;have yb:(y:Int)≠0:=by omega
 have h64:base=4294967296:=rfl;have hA:hi*base<18446744073709551616:=fA (KT _ _) hs;have Im:IntKind.u64.wrap ((hi:Int)*2^32)=((hi*base:Nat):Int):=by
  have e:(hi:Int)*2^32=((hi*base:Nat):Int):=by rw[oP];rfl
  rw[e,kK];generalize hi*base=H at hA ⊢;omega
 have hB:lo<18446744073709551616:=nq hl d_;have key:∀ H:Nat,H=hi*base->IntKind.u64.wrap (((BitVec.ofInt IntKind.u64.bits (H:Int))||| (BitVec.ofInt IntKind.u64.bits (lo:Int))).toNat:Int)=((hi*base+lo:Nat):Int):=by intro H hH;rw[T0 (by rw[hH];exact hA) hB,hH,l4]
 obtain⟨H,hH⟩:∃ H,H=hi*base:=⟨_,rfl⟩;have h22:=key H hH;rw[<-hH]at Im;generalize hi*base+lo=S at *;have u64:∀{z:Nat},z<base->IntKind.u64.wrap (z:Int)=z:=λ{z} h=>by rw[kK];unfold base at h;omega
 have u32:∀{z:Nat},z<base->IntKind.u32.wrap (z:Int)=z:=λ{z} h=>by rw[ox];unfold base at h;omega
 have qQ:IntKind.u64.wrap (Int.tdiv (S:Int) y)=((S/y:Nat):Int):=by rw[Cd o_,<-uJ];exact u64 hq
 have lM:Int.tmod (S:Int) y=((S%y:Nat):Int):=by rw[Ar o_];rfl
 exact bI func215 (λ_=>[
  .rw 10 (.bool ((y:Int)!=0)) b_ (by congr 1;rw[rW];exact yb),
  .rw 14 (.bool (decide ((y:Int)<=(hi:Int)))) a_ (by congr 1;rw[aAW];omega),
  .wr 18 .u64 hi hi (u64 o_),.wr 19 .u64 ((hi:Int)*2^32) (H:Int) Im,.wr 21 .u64 lo lo (u64 hl),
  .quo 22 .u64 _ (S:Int) h22,.wr 25 .u64 y y (u64 hy),
  .wQ f215 26 .u64 (S:Int) y ((S/y:Nat):Int) yb qQ k_,.wr 27 .u32 ((S/y:Nat):Int) ((S/y:Nat):Int) (u32 hq),
  .wr 30 .u64 y y (u64 hy),
  .F1 f215 31 .u64 (S:Int) y ((S%y:Nat):Int) yb lM k_,.wr 32 .u32 ((S%y:Nat):Int) ((S%y:Nat):Int) (u32 hr)])
def dw(i:Nat):Value:=.int .i64 ((i:Int)-1)
theorem eH(j:Nat):dw (j+1)=vI j:=by
 unfold dw vI;have e:((j+1:Nat):Int)-1=(j:Int):=by omega
 rw[e]
theorem pE(h:j<9223372036854775807):IntKind.i64.wrap ((j:Int)-1)=(j:Int)-1:=by rw[eD];omega
section
variable{Bs:aa}{n a d:Nat}
def tx(n a d i:Nat):aU:=[(8,dw i),(6,sl 1 n),(7,aX (a/base^i%d)),(0,sl 0 n),(1,aX d)]
def DS(n a d i:Nat):aL:=[(0,.view (av (ae base n a))),(1,.row (av (ig base n i (a/d))) 175 1)]
theorem OQ(hj:j<n)(hd:0<d)(nP:d<base)(h63:n<35184372088832):
  ah prog Bs 35 (aK (ai f196 0)) (tx n a d (j+1)) (DS n a d (j+1)) 2 ⟨.normal,tx n a d j,DS n a d j,2⟩:=by
 have bW:fK prog 175 (av (ig base n (j+1) (a/d))) j (aX (a/d/base^j%base))=some (av (ig base n j (a/d))):=by rw[Aj _ _ _ (by simp[av,OB];exact hj),Ak,OD hj rfl]
 have hdiv:=aJX (hi:=a/base^(j+1)%d) (lo:=a/base^j%base) (y:=d) (cU _ hd) (iG d_ _ _) nP;obtain⟨q1,q2⟩:=aAC (B:=base) d_ hd (kv nP) a j;rw[q1,q2]at hdiv;exact aG [.rw 15 (dw (j+1)) (vI j) (eH j),.ge 16 j 0 true s_,.rw 21 (dw (j+1)) (vI j) (eH j),.rw 24 (dw (j+1)) (vI j) (eH j),.ix f196 25 0 n j hj k_,.ld f196 26 175 0 j (.view (av (ae base n a))) (aX (a/base^j%base)) rfl (by rw[gB];exact lL (eU hj)) k_,hdiv.at 28,.ix f196 31 1 n j hj k_,.st f196 100031 175 1 j (.row (av (ig base n (j+1) (a/d))) 175 1) (aX (a/d/base^j%base)) (.row (av (ig base n j (a/d))) 175 1) rfl bW rfl k_,.rw 17 (dw (j+1)) (vI j) (eH j),.wr 18 .i64 ((j:Int)-1) ((j:Int)-1) (pE o_)]
theorem aJY(hd:0<d)(nP:d<base)(h63:n<35184372088832):
  ah prog Bs 35 (.block 0 (ai f196 0)) (tx n a d n) (DS n a d n) 2 ⟨.normal,tx n a d 0,DS n a d 0,2⟩:=by
 have:=cz (P:=prog) (B:=Bs) (N:=35) (b:=aK (ai f196 0)) (next:=2) (r:=⟨.exit 0,tx n a d 0,DS n a d 0,2⟩) n (λi=>tx n a d (n-i)) (λi=>DS n a d (n-i))
  (λi k _=>kH (l:=DS n a d (n-i)) (m:=DS n a d (n-0)) rfl k)
  (λi hi=>by
   have e:n-i=(n-(i+1))+1:=by omega
   simp only[e];exact OQ o_ hd nP h63)
  (by
   have e:n-n=0:=by omega
   simp only[e];exact aG [.rw 16 (.bool (decide (((0:Nat):Int)-1>=0))) a_ rfl]) n_
 exact cg this
end
theorem aJZ(gQ:jd w va a)(hd:0<d)(nP:d<base)(h1:nd base a<35184372088832):
  Calls prog 196 #[va,aX d] w λe w'=>∃ v,e=.returned (.tuple #[v,aX (a%d)])/\ko w w' v (a/d)/\Below w.heap.size w w':=by
 have ha:=eE (B:=base) d_ a;have hl:∀ s∈[cJ.row va (nd base a) (av (ae base (nd base a) a)),cJ.plain (aX d)],s.OK w:=by
  intro s hs;simp at hs;rcases hs with rfl|rfl
  ·exact⟨gQ,ga _⟩
  ·rfl
 unfold jd at gQ;generalize nd base a=n at *;have hs:a/d<base^n:=fA (uK _ _) ha;have e0:a/base^n%d=0:=by rw[nj ha];exact Nat.zero_mod _
 have e1:a/base^0%d=a%d:=by simp
 refine mN (Q:=λe w'=>∃ v,e=.returned (.tuple #[v,aX (a%d)])/\ko w w' v (a/d)/\Below w.heap.size w w') mixed func196 [cJ.row va n (av (ae base n a)),cJ.plain (aX d)] hl 100 (N:=35) k_
  (rs:=[(aZ.qR f196 11 1 n 175 4 (aX 0) (av (ig base n n (a/d))) (by rw[OC,FY]) rfl rfl o_ (by simp[maxLen];omega) k_:aZ prog (aa.at w) 35),.rw 7 (.int .u32 0) (aX (a/base^n%d)) (by rw[e0];rfl),.wr 14 .i64 ((n:Int)-1) ((n:Int)-1) (pE o_),.code 0 _ _ _ _ _ (aJY (n:=n) (a:=a) hd nP h1),.trim f196 33 1 n (a/d) (.row (av (ig base n 0 (a/d))) 175 1) rfl (by rw[<-KJ];rfl) hs o_ (y:=.func 178) k_])
  (v:=.tuple #[.slice (some ⟨1,0,some 7⟩) (nd base (a/d)) 0,aX (a/base^0%d)]) (ms:=[(1,.row (av (ig base n 0 (a/d))) 175 1)]) k_ λaB cr v' w' hc bJ dW _=>?_
 obtain⟨vs,he,bo⟩:=hc.vt;obtain⟨v1,v2,aW,c1,c2⟩:=jH bo;have hk:=dW _ (aR ..);rw[KJ]at hk;refine⟨v1,?_,yc bJ hk hs c1,bJ.base⟩;rw[he,show vs=#[v1,v2]from wK.1 aW,c2.fH rfl,e1]
def iH(a b:Nat):Int:=if a<b then -1 else if b<a then 1 else 0
section
variable{Bs:aa}{n a b:Nat}
def Ce(n i:Nat):aU:=[(5,dw i),(0,sl 0 n),(1,sl 1 n)]
def tz(n a b:Nat):aL:=[(0,.view (av (ae base n a))),(1,.view (av (ae base n b)))]
noncomputable def T1(n a b j:Nat)(hj:j<n)(t1 t2:Bool)(h1:decide (a/base^j%base<b/base^j%base)=t1)(h2:decide (b/base^j%base<a/base^j%base)=t2)(more:bN prog Bs 43):bN prog Bs 43:=
 .rw 19 (dw (j+1)) (vI j) (eH j)::.ge 20 j 0 true s_::.rw 25 (dw (j+1)) (vI j) (eH j)::.ix f162 26 0 n j hj k_::
  .ld f162 27 175 0 j (.view (av (ae base n a))) (aX (a/base^j%base)) rfl (by rw[gB];exact lL (eU hj)) k_::
  .rw 29 (dw (j+1)) (vI j) (eH j)::.ix f162 30 1 n j hj k_::
  .ld f162 31 175 1 j (.view (av (ae base n b))) (aX (b/base^j%base)) rfl (by rw[gB];exact lL (eU hj)) k_::
  .lt 32 (a/base^j%base) (b/base^j%base) t1 h1::(if t1 then[]else
  .rw 35 (dw (j+1)) (vI j) (eH j)::.ix f162 36 0 n j hj k_::
  .ld f162 37 175 0 j (.view (av (ae base n a))) (aX (a/base^j%base)) rfl (by rw[gB];exact lL (eU hj)) k_::
  .rw 39 (dw (j+1)) (vI j) (eH j)::.ix f162 40 1 n j hj k_::
  .ld f162 41 175 1 j (.view (av (ae base n b))) (aX (b/base^j%base)) rfl (by rw[gB];exact lL (eU hj)) k_::
  .gt 42 (a/base^j%base) (b/base^j%base) t2 h2::more)
theorem aJ0(hj:j<n)(he:a/base^j%base=b/base^j%base)(h63:n<35184372088832):
  ah prog Bs 43 (aK (ai f162 0)) (Ce n (j+1)) (tz n a b) 2 ⟨.normal,Ce n j,tz n a b,2⟩:=
 aG (T1 n a b j hj false false (by simp[he]) (by simp[he]) [.rw 21 (dw (j+1)) (vI j) (eH j),.wr 22 .i64 ((j:Int)-1) ((j:Int)-1) (pE o_)])
theorem aJ1(hj:j<n)(ao:a/base^j%base<b/base^j%base):
  ah prog Bs 43 (aK (ai f162 0)) (Ce n (j+1)) (tz n a b) 2 ⟨.ret,[(4,.int .i64 (-1))],tz n a b,2⟩:=
 aG (T1 n a b j hj true false (by simp[ao]) (by simp;omega) [])
theorem aJ2(hj:j<n)(ao:b/base^j%base<a/base^j%base):
  ah prog Bs 43 (aK (ai f162 0)) (Ce n (j+1)) (tz n a b) 2 ⟨.ret,[(4,.int .i64 1)],tz n a b,2⟩:=
 aG (T1 n a b j hj false true (by simp;omega) (by simp[ao]) [])
theorem aJ3:ah prog Bs 43 (aK (ai f162 0)) (Ce n 0) (tz n a b) 2 ⟨.exit 0,[],tz n a b,2⟩:=
 aG [.rw 20 (.bool (decide (((0:Nat):Int)-1>=0))) a_ rfl]
theorem aJ4(ha:a<base^n)(hb:b<base^n)(h63:n<35184372088832):
  ah prog Bs 43 (.block 0 (ai f162 0)) (Ce n n) (tz n a b) 2 (if a=b then⟨.normal,[],tz n a b,2⟩else⟨.ret,[(4,.int .i64 (iH a b))],tz n a b,2⟩):=by
 obtain⟨e,h1,h2,h3⟩:=Ah (λt=>¬(t<n/\a/base^(n-1-t)%base=b/base^(n-1-t)%base)) n o_;have vL:=aAD ha hb e h1 λs hs=>(F3.1 (h3 s hs)).2;have go:∀(r:nh),r.ex≠.normal->ah prog Bs 43 (aK (ai f162 0)) (Ce n (n-e)) (tz n a b) 2 r->ah prog Bs 43 (.loop (aK (ai f162 0))) (Ce n n) (tz n a b) 2 r:=by
  intro r hr qk
  exact cz (P:=prog) (B:=Bs) (N:=43) (b:=aK (ai f162 0)) (next:=2) (r:=r) e (λi=>Ce n (n-i)) (λ_=>tz n a b) (λi k _=>Iff.rfl)
   (λi hi=>by
    have q:=F3.1 (h3 i hi);have e1:n-i=(n-(i+1))+1:=by omega
    have e2:n-1-i=n-(i+1):=by omega
    simp only[e1];exact aJ0 o_ (by rw[<-e2];exact q.2) h63) qk hr
 by_cases DT:e=n
 ·have cd:a=b:=by rw[DT,wR,tn,F4,F4]at vL;exact vL
  rw[aA cd];have:=go ⟨.exit 0,[],tz n a b,2⟩ n_ (by rw[DT,wR];exact aJ3);exact cg (id:=0) this
 ·have hj:n-e=(n-1-e)+1:=by omega
  have bB:a/base^(n-1-e)%base≠b/base^(n-1-e)%base:=λh=>h2 ⟨by omega,h⟩;rw[hj]at vL go;have cd:a≠b:=λh=>bB (by rw[h]);rw[au cd];rcases FG bB with ao|uC
  ·have hl:=OE vL ao;have e1:iH a b=-1:=by unfold iH;rw[aA hl]
   rw[e1];exact cg (id:=0) (go _ n_ (aJ1 o_ ao))
  ·have hl:=OE vL.symm uC;have e1:iH a b=1:=by unfold iH;rw[au o_,aA hl]
   rw[e1];exact cg (id:=0) (go _ n_ (aJ2 o_ uC))
end
def qV(a b:Nat):Int:=if nd base a=nd base b then iH a b else(nd base a:Int)-nd base b
theorem OR{a b:Nat}:0<=qV a b↔b<=a:=by
 unfold qV;by_cases h:nd base a=nd base b
 ·rw[aA h];unfold iH;by_cases h1:a<b
  ·rw[aA h1];omega
  ·rw[au h1];by_cases h2:b<a
   ·rw[aA h2];omega
   ·rw[au h2];omega
 ·rw[au h];rcases fo a b with h1|h1
  ·have:=jL (B:=base) d_ (kv h1);omega
  ·have:=jL (B:=base) d_ h1;omega
theorem OS{vb:i_}(gQ:jd w va a)(mf:jd w vb b)(h1:nd base a<35184372088832)(h2:nd base b<35184372088832):
  Calls prog 162 #[va,vb] w λe w'=>e=.returned (.int .i64 (qV a b))/\Below w.heap.size w w':=by
 have ha:=eE (B:=base) d_ a;have hb:=eE (B:=base) d_ b;have hl:∀ s∈[cJ.row va (nd base a) (av (ae base (nd base a) a)),cJ.row vb (nd base b) (av (ae base (nd base b) b))],s.OK w:=by
  intro s hs;simp at hs;rcases hs with rfl|rfl
  ·exact⟨gQ,ga _⟩
  ·exact⟨mf,ga _⟩
 unfold jd at gQ mf;unfold qV;generalize nd base a=n at *;generalize nd base b=m at *;have fin:∀{aB:Map} {cr:Nat->Option Obj} {v':i_} {w':h_} {z:Int},aM aB (.int .i64 z) v'->aO (aa.at w) aB cr w'->Ending.returned v'=.returned (.int .i64 z)/\Below w.heap.size w w':=λhc hm=>⟨by rw[hc.fH rfl],hm.base⟩;have bB:∀ t:Bool,decide (n=m)=!t->(Value.bool (((n:Nat):Int)!=((m:Nat):Int)))=.bool t:=by
  intro t h
  congr 1
  by_cases kX:n=m
  ·subst kX;simp at h;subst h;simp
  ·rw[aY kX]at h;have:t=true:=by cases t<;>simp at h ⊢
   subst this;rw[rW];omega
 by_cases kX:n=m
 ·subst kX;rw[aA rfl];have lo:=aJ4 (Bs:=aa.at w) ha hb h1;by_cases cd:a=b
  ·rw[aA cd]at lo;have ho:iH a b=0:=by unfold iH;rw[au o_,au o_]
   rw[ho]
   exact mN (Q:=λe w'=>e=.returned (.int .i64 0)/\Below w.heap.size w w') mixed func162 [cJ.row va n (av (ae base n a)),cJ.row vb n (av (ae base n b))] hl 100 (N:=43) k_
    (rs:=[(aZ.rw 10 (.bool (((n:Nat):Int)!=((n:Nat):Int))) a_ (bB false s_):aZ prog (aa.at w) 43),.wr 18 .i64 ((n:Int)-1) ((n:Int)-1) (pE o_),.code 0 _ _ _ _ _ lo])
    (v:=.int .i64 0) (ms:=[]) k_ λaB cr v' w' hc bJ _ _=>fin hc bJ
  ·rw[au cd]at lo
   exact mN (Q:=λe w'=>e=.returned (.int .i64 (iH a b))/\Below w.heap.size w w') mixed func162 [cJ.row va n (av (ae base n a)),cJ.row vb n (av (ae base n b))] hl 100 (N:=43) k_
    (rs:=[(aZ.rw 10 (.bool (((n:Nat):Int)!=((n:Nat):Int))) a_ (bB false s_):aZ prog (aa.at w) 43),.wr 18 .i64 ((n:Int)-1) ((n:Int)-1) (pE o_),.code 0 _ _ _ _ _ lo])
    (v:=.int .i64 (iH a b)) (ms:=[]) k_ λaB cr v' w' hc bJ _ _=>fin hc bJ
 ·rw[au kX]
  exact mN (Q:=λe w'=>e=.returned (.int .i64 ((n:Int)-m))/\Below w.heap.size w w') mixed func162 [cJ.row va n (av (ae base n a)),cJ.row vb m (av (ae base m b))] hl 100 (N:=43) k_
   (rs:=[(aZ.rw 10 (.bool (((n:Nat):Int)!=((m:Nat):Int))) b_ (bB true (by simp[kX])):aZ prog (aa.at w) 43),.wr 15 .i64 ((n:Int)-(m:Int)) ((n:Int)-m) (by rw[eD];omega)])
   (v:=.int .i64 ((n:Int)-m)) (ms:=[]) k_ λaB cr v' w' hc bJ _ _=>fin hc bJ
section
variable{P:j_}{B:aa}{N:Nat}
def Cf(P:j_)(o:Oper):Option (Nat×List Nat×TypeId×Nat×Value):=match o.op with
 |.buildSlice t len parts=>match P.underlying t with
  |some (.slice e)=>(match P.info? e with|some i=>(match i.zero with|some z=>some (len,parts.toList.map (·.1),e,i.size,z)|none=>none)|none=>none)
  |_=>none
 |_=>none
def KU(size len:Nat)(z:i_)(ps:aU):Option (Array Value):=
 Instr.fill (λi=>some (i*size,size)) ((Array.range (len*size)).map (z.cells[·%z.cells.size]!)) ps
theorem OT{ρ:Operand->Value}:∀(l:List (Nat×Operand)) {vs:al},(l.map (·.2)).map ρ=vs->(l.map λp=>(p.1,ρ p.2))=(l.map (·.1)).zip vs
 |[],vs,h=>by subst h;rfl
 |p::l,vs,h=>by subst h;simp only[mL,List.zip_cons_cons];rw[OT l rfl]
theorem aJ5{idx:l_}{z:i_}(ho:Cf P o=some (len,idx,e,size,z)){cells:p_}(cV:∀ v∈vs,flat v=true)(T2:∀ v∈cells.toList,flat v=true)
  (DU:KU size len z (idx.zip vs)=some cells) (bL:cells.size=len*size) (vM:0<len*size) (hle:len*size<=16777216) (k:Nat) :
  cI P B o vs [(k,none)] (.slice (some ⟨k,0,some 7⟩) len 0) [(k,.row cells.toList e size)]:=by
 unfold Cf at ho;split at ho
 ·rename_i t mO parts ck;split at ho
  ·rename_i e' ht;split at ho
   ·rename_i i hi;split at ho
    ·rename_i z' hz;injection ho with ho;injection ho with h1 ho;injection ho with h2 ho;injection ho with h3 ho;injection ho with h4 h5;subst h1;subst h2;subst h3;subst h4;subst h5;refine iY.step λι c ρ w aW hm hn=>?_;have hk:c k=none:=hn _ (aR ..);rw[ck]at aW;have aW:=oj aW cV;have cq:List.map (λx=>(x.fst,ρ x.snd)) parts.toList=(parts.toList.map (·.1)).zip vs:=
      OT parts.toList (by simpa[Op.operands]using aW)
     have OU:mO<=maxLen:=by have:mO<=mO*i.size:=F5 _ (Nat.pos_of_mul_pos_left vM);simp[maxLen];omega
     have vy:Map.le ι _:=hZ (l:=.at w.heap.size 0 mO) (hm.dD k hk);have lX:=HX (ty:=e') (size:=i.size) (cap:=mO) (rest:=#[]) hm hk (lE T2:bY (aM ι) cells.toList cells.toList) OU (by simpa using bL);refine⟨_,.slice (some ⟨w.heap.size,0,none⟩) mO mO,_,vy,.slc (o:=0) (off:=0) (gu _ _ _) (bF _) o_,lX,.inl ?_⟩;have h0:¬(mO*i.size=0):=by omega
     have h1:¬(16777216<mO*i.size):=by omega
     unfold KU at DU;simp only[execOp,ck];simp[Instr.buildSlice,jX ht,sizeOf,typeInfo,hi,zeroValue,hz,h0,h1,newRow];rw[cq,DU];simp[newObj,Sem.run]
    ·cases ho
   ·cases ho
  ·cases ho
 ·cases ho
def F6(P:j_)(o:Oper):Option (TypeId×Nat×Nat×Nat×Bool):=match o.op with
 |.call c=>match c.callee,c.args.toList,c.argTypes.toList with
  |.builtin .append,[_,_],[t,t']=>if Nat.beq t t' then(match P.underlying t with
   |some (.slice e)=>(match P.info? e with|some i=>(match i.zero with|some z=>some (e,i.size,i.bytes,z.cells.size,true)|none=>none)|none=>none)
   |_=>none)else none
  |_,_,_=>none
 |_=>none
theorem aAX(ho:F6 P o=some (e,size,A,U,true)):∃ s x t i z,o.op=.call { callee:=.builtin .append,args:=#[s,x],argTypes:=#[t,t]}/\P.underlying t=some (.slice e)/\P.info? e=some i/\i.zero=some z/\i.size=size/\i.bytes=A/\z.cells.size=U:=by
 unfold F6 at ho;split at ho
 ·rename_i c ck;split at ho
  ·rename_i s x t t' hc ha mI;split at ho
   ·rename_i htt;split at ho
    ·rename_i e' ht;split at ho
     ·rename_i i hi;split at ho
      ·rename_i z hz;injection ho with ho;injection ho with h1 ho;injection ho with h2 ho;injection ho with h3 ho;injection ho with h4 h5;subst h1;have:=lI htt;subst this;refine⟨s,x,t,i,z,?_,ht,hi,hz,h2,h3,h4⟩;rw[ck];obtain⟨c1,c2,c3⟩:=c;dsimp only at hc ha mI;subst hc
       congr 2
       ·exact wK.1 ha
       ·exact wK.1 mI
      ·cases ho
     ·cases ho
    ·cases ho
   ·cases ho
  ·cases ho
 ·cases ho
theorem aAY(ho:F6 P o=some (e,size,A,size,true))(bL:0<size){sv:i_}(vB:Ds B sv m e6 need)(hl:e6.length=m*size)(S7:∀ v∈e6,v.oneCell'=true)
  {j n:Nat} {cells:al} (pq:n*size<=cells.length) (h63:n+m<=maxLen) (Dr:(n+m)*A<=140737488355328) (k:Nat) :
  cI P B o [.slice (some ⟨j,0,some 7⟩) n 0,sv] ((k,none)::(j,some (.row cells e size))::need) (.slice (some ⟨k,0,some 7⟩) (n+m) 0) [(k,.row (cells.take (n*size)++e6) e size),(j,.dead)]:=by
 obtain⟨s,x,t,i,z,ck,ht,hi,hz,h1,h2,h3⟩:=aAX ho;subst h1;subst h2;exact(aIH ck ht hi hz h3 bL vB hl S7 pq h63 Dr k).step
theorem aJ6(ho:F6 P o=some (e,size,A,size,true))(bL:0<size){sv:i_}(vB:Ds B sv m e6 need)(hl:e6.length=m*size)
  (h63:m<=maxLen) (Dr:m*A<=140737488355328) (k:Nat) :
  cI P B o [.slice none 0 0,sv] ((k,none)::need) (.slice (some ⟨k,0,some 7⟩) m 0) [(k,.row e6 e size)]:=by
 obtain⟨s,x,t,i,z,ck,ht,hi,hz,h1,h2,h3⟩:=aAX ho;subst h1;subst h2;exact(aIG ck ht hi hz h3 bL vB hl h63 Dr k).step
def aZ.bs(fn:Func)(key k len e size:Nat)(idx:l_)(z:i_)(vs:al)(cells:p_)(x:Obj)(hx:Obj.row cells.toList e size=x)(cV:∀ v∈vs,flat v=true)(T2:∀ v∈cells.toList,flat v=true)
  (DU:KU size len z (idx.zip vs)=some cells) (bL:cells.size=len*size) (vM:0<len*size) (hle:len*size<=16777216) (ho:Cf P (az fn key)=some (len,idx,e,size,z)):aZ P B N:=
 .step key (az fn key) vs [(k,none)] (.slice (some ⟨k,0,some 7⟩) len 0) [(k,x)] (by subst hx;exact aJ5 ho cV T2 DU bL vM hle k)
end
theorem T3{n:Nat}(hn:n<18446744073709551616):
  Calls prog 143 #[.int .u64 n] w λe w'=>∃ v,e=.returned v/\ko w w' v n/\Below w.heap.size w w':=by
 have hs:n<base^2:=by unfold base;omega
 have e0:n/base^0%base=n%base:=by simp
 have e1:n/base^1%base=n/base:=by rw[Cg];exact dZ (by rw[jc d_];unfold base;omega)
 refine mN (Q:=λe w'=>∃ v,e=.returned v/\ko w w' v n/\Below w.heap.size w w') mixed func143 [cJ.plain (.int .u64 n)] (λx hx=>by simp at hx;subst hx;rfl) 100 (N:=10) k_
  (rs:=[(aZ.wr 4 .u32 (n:Int) ((n/base^0%base:Nat):Int) (by rw[ox,e0];unfold base;omega):aZ prog (aa.at w) 10),.quo 6 .u64 ((n:Int).fdiv (2^32)) ((n/base:Nat):Int) (by rw[ti _ d_];unfold base;omega),.wr 7 .u32 ((n/base:Nat):Int) ((n/base^1%base:Nat):Int) (by rw[ox,e1];unfold base;omega),.bs f143 8 0 2 175 1 [0,1] (aX 0) [aX (n/base^0%base),aX (n/base^1%base)] #[aX (n/base^0%base),aX (n/base^1%base)] (.row (av (ae base 2 n)) 175 1) rfl
    (λv hv=>by simp at hv;rcases hv with rfl|rfl<;>rfl) (λv hv=>by simp at hv;rcases hv with rfl|rfl<;>rfl) k_ rfl o_ o_ k_,
   .trim f143 9 0 2 n (.row (av (ae base 2 n)) 175 1) rfl rfl hs d_ (y:=.func 178) k_])
  (v:=.slice (some ⟨0,0,some 7⟩) (nd base n) 0) (ms:=[(0,.row (av (ae base 2 n)) 175 1)]) k_ λaB cr v' w' hc bJ dW _=>⟨v',rfl,?_,bJ.base⟩
 exact yc bJ (dW _ (aR ..)) hs hc
section
variable{Bs:aa}{n a:Nat}
def Ch(n a i:Nat):aU:=[(4,dw i),(0,sl 0 n),(3,.int .u64 ((a/base^i:Nat):Int))]
def DW(n a:Nat):aL:=[(0,.view (av (ae base n a)))]
theorem aJ7(hj:j<n)(ha:a<18446744073709551616)(h63:n<35184372088832):
  ah prog Bs 21 (aK (ai f177 0)) (Ch n a (j+1)) (DW n a) 1 ⟨.normal,Ch n a j,DW n a,1⟩:=by
 have hd:=iG (B:=base) d_ a j;have he:=ya (B:=base) a j;have hle:a/base^j<18446744073709551616:=fA (uK _ _) ha;generalize hA:a/base^(j+1)=A at *;generalize hx:a/base^j%base=x at *;have hAB:A*base<18446744073709551616:=by omega
 have l4:A*base||| x=a/base^j:=by have:=ON (i:=32) hd A;rw[he,c7];exact this.symm
 have T4:IntKind.u64.wrap ((A:Int)*2^32)=((A*base:Nat):Int):=by
  have e:(A:Int)*2^32=((A*base:Nat):Int):=by rw[oP];rfl
  rw[e,kK];generalize A*base=H at hAB ⊢;omega
 have Im:∀ H:Nat,H=A*base->IntKind.u64.wrap (((BitVec.ofInt IntKind.u64.bits (H:Int))||| (BitVec.ofInt IntKind.u64.bits (x:Int))).toNat:Int)=((a/base^j:Nat):Int):=by intro H hH;rw[T0 (by rw[hH];exact hAB) (nq hd d_),hH,l4]
 obtain⟨H,hH⟩:∃ H,H=A*base:=⟨_,rfl⟩;have Im:=Im H hH;rw[<-hH]at T4
 have:=fv (P:=prog) (B:=Bs) (N:=21) mixed (c:=aK (ai f177 0)) (fr:=[(4,dw (j+1)),(0,sl 0 n),(3,.int .u64 (A:Int))]) (M:=DW n a) (next:=1) (r:=⟨.normal,Ch n a j,DW n a,1⟩) 100
  [.rw 8 (dw (j+1)) (vI j) (eH j),.ge 9 j 0 true s_,.wr 13 .u64 ((A:Int)*2^32) (H:Int) T4,.rw 15 (dw (j+1)) (vI j) (eH j),.ix f177 16 0 n j hj k_,.ld f177 17 175 0 j (.view (av (ae base n a))) (aX x) rfl (by rw[gB,<-hx];exact lL (eU hj)) k_,.wr 18 .u64 (x:Int) (x:Int) (by rw[kK];unfold base at hd;omega),.quo 19 .u64 _ ((a/base^j:Nat):Int) Im,.rw 10 (dw (j+1)) (vI j) (eH j),.wr 11 .i64 ((j:Int)-1) ((j:Int)-1) (pE o_)] k_
 have e:Ch n a (j+1)=[(4,dw (j+1)),(0,sl 0 n),(3,.int .u64 (A:Int))]:=by unfold Ch;rw[hA]
 rw[e];exact this
theorem aJ8(ha:a<18446744073709551616)(h63:n<35184372088832):
  ah prog Bs 21 (.block 0 (ai f177 0)) (Ch n a n) (DW n a) 1 ⟨.normal,Ch n a 0,DW n a,1⟩:=by
 have:=cz (P:=prog) (B:=Bs) (N:=21) (b:=aK (ai f177 0)) (next:=1) (r:=⟨.exit 0,Ch n a 0,DW n a,1⟩) n (λi=>Ch n a (n-i)) (λ_=>DW n a) (λi k _=>Iff.rfl)
  (λi hi=>by
   have e:n-i=(n-(i+1))+1:=by omega
   simp only[e];exact aJ7 o_ ha h63)
  (by
   have e:n-n=0:=by omega
   simp only[e];exact aG [.rw 9 (.bool (decide (((0:Nat):Int)-1>=0))) a_ rfl]) n_
 exact cg this
end
theorem aAZ(gQ:jd w va a)(ha:a<18446744073709551616)(h1:nd base a<35184372088832):
  Calls prog 177 #[va] w λe w'=>e=.returned (.int .u64 (a:Int))/\Below w.heap.size w w':=by
 have ao:=eE (B:=base) d_ a;have hl:∀ s∈[cJ.row va (nd base a) (av (ae base (nd base a) a))],s.OK w:=by intro s hs;simp at hs;subst hs;exact⟨gQ,ga _⟩
 unfold jd at gQ;generalize nd base a=n at *;have e0:a/base^n=0:=nj ao;have e1:a/base^0=a:=by simp
 refine mN (Q:=λe w'=>e=.returned (.int .u64 (a:Int))/\Below w.heap.size w w') mixed func177 [cJ.row va n (av (ae base n a))] hl 100 (N:=21) k_
  (rs:=[(aZ.rw 3 (.int .u64 0) (.int .u64 ((a/base^n:Nat):Int)) (by rw[e0];rfl):aZ prog (aa.at w) 21),.wr 7 .i64 ((n:Int)-1) ((n:Int)-1) (pE o_),.code 0 _ _ _ _ _ (aJ8 (n:=n) (a:=a) ha h1)])
  (v:=.int .u64 ((a/base^0:Nat):Int)) (ms:=[]) k_ λaB cr v' w' hc bJ _ _=>⟨?_,bJ.base⟩
 rw[hc.fH rfl,e1]
end Go.Proofs.YtgpahigmalfpdaaGreatDoor
