/- Solids of lists of planes: the proof of SolidOfCardSaid (the law's function answers true at every list of planes; theorem solidOf_card, last part), part 1 of 6; no condition. -/
import Derived.WalkKit
import Derived.Orders
import Derived.KernelRfl
import Derived.Deep.MidRow
import Derived.Below
import Derived.OwnWalk
import Derived.OwnWalkIn
import Derived.OrdersIn
import Derived.LoopNIn
import Derived.TacticsIn
import Derived.LoopN
import Derived.DeepKeys
import Derived.RangeFuncLeaves
import Derived.RangeFuncSeq
import Derived.Lib.SliceRun
import Derived.Shelf.SlSortCmp.WholeK
import Derived.OpenShut
import Derived.ProofKit
import Derived.Carry
import Derived.ChangeOld
import Derived.Deep.DeepHandedRow
import Derived.Test.YthccllenbnhogaaGreatDoorProg
namespace Go.Proofs.YthccllenbnhogaaGreatDoor
open Go Go.RowKit Tryz
abbrev p_:=Array Value
abbrev m_:=Operand
abbrev l_:=List Nat
abbrev j_:=Program
abbrev i_:=Value
abbrev h_:=World
abbrev f_:=List (Int×List Int)
abbrev b_:=Value.bool true
abbrev a_:=Value.bool false
variable{i j size e d cc N len n1 n2 A:Nat}{w w':h_}{x:m_}{ty:TypeId}{α β:Type}{fn:Func}{u v' va res:i_}{P:j_}{look:Nat->Value}{Q:Ending->World->Prop}{cur:p_}
theorem k_{p:Prop}(h:p:=by kernel_rfl):p:=h
theorem o_{p:Prop}(h:p:=by omega):p:=h
theorem d_{p:Prop}(h:p:=by decide):p:=h
theorem n_{p:Prop}(h:p:=by nofun):p:=h
theorem s_{p:Prop}(h:p:=by simp):p:=h
abbrev xJ:=@Go.Addr.add_mid
abbrev Dr:=@Array.ext'
abbrev ZR:=@Array.foldl_toList
abbrev pb:=@Array.getD_eq_getD_getElem?
abbrev aBx:=@Array.getElem?_append_left
abbrev xO:=@Array.getElem?_eq_getElem
abbrev WW:=@Array.getElem?_eq_none
abbrev zK:=@Array.getElem?_eq_some_iff
abbrev Wp:=@Array.getElem?_modify
abbrev Qe:=@Array.getElem?_setIfInBounds_ne
abbrev xG:=@Array.length_toList
abbrev Ln:=@Array.mem_toList_iff
abbrev yw:=@Array.toArray_toList
abbrev GR:=@Array.toList_eq_nil_iff
abbrev uE:=@Array.toList_inj
abbrev aFC:=@Array.toList_setIfInBounds
abbrev cY:=@Bool.and_eq_true
abbrev L3:=@Bool.and_false
abbrev AV:=@Bool.and_self
abbrev ja:=@Bool.and_true
abbrev EZ:=@Bool.eq_false_iff
abbrev BL:=@Bool.false_and
abbrev MD:=@Bool.false_bne
abbrev tE:=@Bool.false_eq_true
abbrev vY:=@Bool.false_or
abbrev N2:=@Bool.not_eq_true
abbrev zy:=@Bool.not_eq_true'
abbrev L0:=@Bool.not_false
abbrev IA:=@Bool.not_true
abbrev Lr:=@Bool.or_eq_false_iff
abbrev qV:=@Bool.or_eq_true
abbrev oH:=@Bool.true_and
abbrev ME:=@Bool.true_bne
abbrev FD:=@Bool.true_or
abbrev jM:=@Classical.byContradiction
abbrev DW:=@Classical.not_not
abbrev aOG:=@Go.Proofs.AnyQ.slices_SortFunc
abbrev P0:=@Go.RowKit.Below.heap_alloc
abbrev Ud:=@Go.Sort.size_flatK
abbrev YZ:=@Int.add_mul_ediv_right
abbrev aMS:=@Int.add_mul_emod_self_left
abbrev MV:=@Int.ediv_mul_cancel
abbrev Sq:=@Int.eq_of_mul_eq_mul_right
abbrev rh:=@Int.fdiv_eq_ediv_of_nonneg
abbrev MP:=@Int.lt_trichotomy
abbrev Kn:=@Int.mul_assoc
abbrev R2:=@Int.mul_comm
abbrev Cm:=@Int.mul_ne_zero
abbrev Gk:=@Int.mul_neg
abbrev SB:=@Int.mul_pos
abbrev Zl:=@Int.natAbs_add_le
abbrev aIt:=@Int.natAbs_ediv_le_natAbs
abbrev wC:=@Int.natAbs_mul
abbrev An:=@Int.natAbs_natCast
abbrev IW:=@Int.natAbs_neg
abbrev uP:=@Int.natCast_add
abbrev sA:=@Int.natCast_ediv
abbrev Uy:=@Int.natCast_emod
abbrev nh:=@Int.natCast_mul
abbrev F4:=@Int.natCast_pow
abbrev Gj:=@Int.neg_mul
abbrev IX:=@Int.neg_neg
abbrev MF:=@Int.one_mul
abbrev F3:=@Int.pow_nonneg
abbrev aIm:=@Int.sign_eq_neg_one_iff_neg
abbrev D9:=@Int.sign_eq_neg_one_of_neg
abbrev Zc:=@Int.sign_eq_one_iff_pos
abbrev yg:=@Int.sign_eq_one_of_pos
abbrev aIn:=@Int.sign_eq_zero_iff_zero
abbrev zW:=@Int.tdiv_eq_ediv_of_nonneg
abbrev ya:=@Int.tmod_eq_emod_of_nonneg
abbrev dO:=@Go.IntKind.wrap_i64
abbrev mI:=@Go.IntKind.wrap_u32
abbrev jz:=@Go.IntKind.wrap_u64
abbrev Yr:=@Go.IntKind.wrap_u8
abbrev aAX:=@List.Pairwise.nil
abbrev fp:=@List.all_cons
abbrev HJ:=@List.all_eq_false
abbrev aX:=@List.all_eq_true
abbrev gm:=@List.all_nil
abbrev Ig:=@List.any_eq_false
abbrev r6:=@List.any_eq_true
abbrev Bx:=@List.append_assoc
abbrev gO:=@List.append_nil
abbrev FY:=@List.cons_append
abbrev L6:=@List.drop_drop
abbrev aKt:=@List.drop_eq_getElem_cons
abbrev P2:=@List.drop_left'
abbrev lv:=@List.drop_zero
abbrev j9:=@List.eq_nil_of_length_eq_zero
abbrev vT:=@List.ext_getElem
abbrev Ru:=@List.ext_getElem?
abbrev Vq:=@List.filter_append
abbrev Qw:=@List.filter_cons
abbrev JZ:=@List.flatMap_append
abbrev aBf:=@List.foldl_append
abbrev uH:=@List.foldl_cons
abbrev aAO:=@List.foldl_nil
abbrev R9:=@List.foldr_cons
abbrev R8:=@List.foldr_nil
abbrev Dw:=@List.getD_eq_getElem?_getD
abbrev Ie:=@List.getElem?_append_left
abbrev Dx:=@List.getElem?_append_right
abbrev Fw:=@List.getElem?_drop
abbrev bd:=@List.getElem?_eq_getElem
abbrev xH:=@List.getElem?_eq_none
abbrev Yd:=@List.getElem?_eq_none_iff
abbrev eD:=@List.getElem?_eq_some_iff
abbrev xN:=@List.getElem?_map
abbrev Ww:=@List.getElem?_of_mem
abbrev J1:=@List.getElem?_range
abbrev tj:=@List.getElem?_take
abbrev BF:=@List.getElem_map
abbrev eh:=@List.getElem_mem
abbrev lI:=@List.getElem_of_mem
abbrev BG:=@List.getElem_range
abbrev FJ:=@List.getElem_set
abbrev aDE:=@List.getElem_take
abbrev NI:=@List.getLast?_cons_cons
abbrev jW:=@List.length_append
abbrev pU:=@List.length_cons
abbrev uD:=@List.length_drop
abbrev aDs:=@List.length_filter_le
abbrev gF:=@List.length_map
abbrev zL:=@List.length_range
abbrev Hi:=@List.length_replicate
abbrev E7:=@List.length_reverse
abbrev UF:=@List.length_set
abbrev J0:=@List.length_singleton
abbrev je:=@List.length_take
abbrev Io:=@List.mapM_cons
abbrev SD:=@List.mapM_nil
abbrev vC:=@List.map_append
abbrev vM:=@List.map_congr_left
abbrev qc:=@List.map_cons
abbrev Mi:=@List.map_nil
abbrev BE:=@List.map_take
abbrev fm:=@List.mem_append
abbrev Jq:=@List.mem_append_left
abbrev ch:=@List.mem_cons
abbrev bB:=@List.mem_cons_of_mem
abbrev aN:=@List.mem_cons_self
abbrev WO:=@List.mem_filterMap
abbrev CF:=@List.mem_flatMap
abbrev dq:=@List.mem_map
abbrev cL:=@List.mem_of_getElem?
abbrev Vn:=@List.mem_of_mem_drop
abbrev EJ:=@List.mem_of_mem_take
abbrev kf:=@List.mem_range
abbrev JM:=@List.mem_reverse
abbrev wR:=@List.mem_singleton
abbrev jg:=@List.nil_append
abbrev fF:=@List.not_mem_nil
abbrev rJ:=@List.pairwise_cons
abbrev O2:=@List.pairwise_iff_getElem
abbrev aAD:=@List.pairwise_reverse
abbrev aAB:=@List.pairwise_singleton
abbrev Jj:=@List.range_succ
abbrev uW:=@List.reverse_cons
abbrev aAC:=@List.reverse_eq_nil_iff
abbrev TX:=@List.set_append_right
abbrev Lk:=@List.size_toArray
abbrev ua:=@List.take_add_one
abbrev aA2:=@List.take_append
abbrev Ov:=@List.take_append_drop
abbrev P5:=@List.take_left
abbrev P1:=@List.take_left'
abbrev nB:=@List.take_length
abbrev jN:=@List.take_of_length_le
abbrev Li:=@List.take_take
abbrev Ri:=@List.take_zero
abbrev tt:=@Nat.add_assoc
abbrev lW:=@Nat.add_comm
abbrev Jm:=@Nat.add_le_add
abbrev KM:=@Nat.add_le_add_right
abbrev IL:=@Nat.add_mod_right
abbrev e8:=@Nat.add_mul
abbrev Iu:=@Nat.add_mul_div_left
abbrev oG:=@Nat.add_mul_div_right
abbrev DQ:=@Nat.add_mul_mod_self_left
abbrev B5:=@Nat.add_mul_mod_self_right
abbrev Mk:=@Nat.add_sub_cancel
abbrev D0:=@Nat.add_sub_cancel_left
abbrev iJ:=@Nat.add_zero
abbrev LZ:=@Nat.and_lt_two_pow
abbrev DH:=@Nat.beq_refl
abbrev Qg:=@Nat.ble_eq_true_of_le
abbrev xP:=@Nat.blt_eq
abbrev iP:=@Nat.div_add_mod
abbrev kg:=@Nat.div_div_eq_div_mul
abbrev lq:=@Nat.div_eq_of_lt
abbrev sB:=@Nat.div_le_self
abbrev gY:=@Nat.div_lt_iff_lt_mul
abbrev XC:=@Nat.div_lt_self
abbrev B8:=@Nat.div_mul_le_self
abbrev DX:=@Nat.div_one
abbrev Mo:=@Nat.div_pos
abbrev GF:=@Nat.dvd_gcd
abbrev Jg:=@Nat.dvd_of_mod_eq_zero
abbrev Cj:=@Nat.dvd_trans
abbrev PT:=@Nat.eq_of_beq_eq_true
abbrev aIs:=@Nat.eq_of_mul_eq_mul_right
abbrev nr:=@Nat.eq_zero_or_pos
abbrev Gl:=@Nat.gcd_comm
abbrev Am:=@Nat.gcd_dvd_left
abbrev Sp:=@Nat.gcd_dvd_right
abbrev Zt:=@Nat.gcd_le_left
abbrev SG:=@Nat.gcd_zero_left
abbrev R0:=@Nat.gcd_zero_right
abbrev IG:=@Nat.le_add_right
abbrev Yl:=@Nat.le_antisymm
abbrev B7:=@Nat.le_div_iff_mul_le
abbrev T7:=@Nat.le_mul_of_pos_left
abbrev DY:=@Nat.le_mul_of_pos_right
abbrev o7:=@Nat.le_of_ble_eq_true
abbrev uA:=@Nat.le_of_eq
abbrev jm:=@Nat.le_of_lt
abbrev Nu:=@Nat.le_of_not_lt
abbrev aZ:=@Nat.le_refl
abbrev xM:=@Nat.le_succ
abbrev Mz:=@Nat.le_total
abbrev c9:=@Nat.le_trans
abbrev YL:=@Nat.log2_self_le
abbrev eP:=@Nat.lt_of_le_of_lt
abbrev cy:=@Nat.lt_of_lt_of_le
abbrev aHk:=@Nat.lt_of_mul_lt_mul_right
abbrev eQ:=@Nat.lt_or_ge
abbrev DA:=@Nat.lt_or_gt_of_ne
abbrev F5:=@Nat.lt_succ_self
abbrev lA:=@Nat.lt_trans
abbrev rW:=@Nat.lt_trichotomy
abbrev aCt:=@Nat.max_eq_left
abbrev aCs:=@Nat.max_eq_right
abbrev mE:=@Nat.min_eq_left
abbrev UB:=@Nat.min_eq_right
abbrev dG:=@Nat.mod_eq_of_lt
abbrev Iv:=@Nat.mod_le
abbrev cC:=@Nat.mod_lt
abbrev LO:=@Nat.mod_mul
abbrev zU:=@Nat.mod_mul_right_div_self
abbrev ID:=@Nat.mod_mul_right_mod
abbrev su:=@Nat.mod_one
abbrev Sl:=@Nat.mod_two_eq_zero_or_one
abbrev nS:=@Nat.mul_add
abbrev fq:=@Nat.mul_assoc
abbrev cH:=@Nat.mul_comm
abbrev QQ:=@Nat.mul_div_cancel
abbrev YI:=@Nat.mul_div_mul_right
abbrev BS:=@Nat.mul_le_mul
abbrev iX:=@Nat.mul_le_mul_left
abbrev eR:=@Nat.mul_le_mul_right
abbrev lX:=@Nat.mul_left_comm
abbrev pg:=@Nat.mul_lt_mul''
abbrev YJ:=@Nat.mul_lt_mul_of_lt_of_le
abbrev XG:=@Nat.mul_lt_mul_of_pos_left
abbrev Ab:=@Nat.mul_lt_mul_of_pos_right
abbrev Jf:=@Nat.mul_mod
abbrev XF:=@Nat.mul_mod_left
abbrev YH:=@Nat.mul_mod_mul_right
abbrev fY:=@Nat.mul_one
abbrev qi:=@Nat.mul_pos
abbrev Ae:=@Nat.mul_right_comm
abbrev LR:=@Nat.mul_succ
abbrev IK:=@Nat.not_lt
abbrev ph:=@Nat.one_mul
abbrev XP:=@Nat.or_lt_two_pow
abbrev sn:=@Nat.pos_of_ne_zero
abbrev dX:=@Nat.pow_add
abbrev YU:=@Nat.pow_le_pow_left
abbrev cX:=@Nat.pow_le_pow_right
abbrev rj:=@Nat.pow_mul
abbrev BX:=@Nat.pow_one
abbrev cE:=@Nat.pow_pos
abbrev dh:=@Nat.pow_succ
abbrev ri:=@Nat.pow_zero
abbrev Ea:=@Nat.sub_le
abbrev uN:=@Nat.sub_self
abbrev FF:=@Nat.sub_zero
abbrev tC:=@Nat.succ_mul
abbrev RH:=@Nat.succ_pos
abbrev WY:=@Nat.testBit_or
abbrev L5:=@Nat.two_pow_add_eq_or_of_lt
abbrev XO:=@Nat.xor_lt_two_pow
abbrev jv:=@Nat.zero_add
abbrev kB:=@Nat.zero_le
abbrev kT:=@Nat.zero_mul
abbrev lQ:=@Ne.symm
abbrev Lb:=@Go.Oper.semAt_eq
abbrev aET:=@Option.bind_eq_some_iff
abbrev WR:=@Option.bind_some
abbrev Z3:=@Option.map_none
abbrev PX:=@Option.map_some
abbrev Su:=@Rat.divInt_add_divInt
abbrev Ao:=@Rat.divInt_eq_div
abbrev Ek:=@Rat.div_def
abbrev Zd:=@Rat.div_mul_cancel
abbrev MZ:=@Rat.intCast_add
abbrev Ci:=@Rat.intCast_mul
abbrev Zo:=@Rat.intCast_sub
abbrev GD:=@Rat.mul_inv_cancel
abbrev Sk:=@Rat.mul_pos
abbrev Zk:=@Rat.num_divInt_den
abbrev H3:=@Go.Sem.run_bind
abbrev L7:=@UInt8.toNat_inj
abbrev Mf:=@UInt8.toNat_ofNat'
abbrev S0:=@Go.World.putObj_heap_other
abbrev qy:=@Go.World.putObj_size
abbrev qg:=@bne_iff_ne
abbrev b9:=@congrArg
abbrev pe:=@decide_eq_decide
abbrev aQ:=@decide_eq_false
abbrev X5:=@decide_eq_false_iff_not
abbrev aD:=@decide_eq_true
abbrev tz:=@decide_eq_true_eq
abbrev qC:=@decide_eq_true_iff
abbrev A0:=@getElem!_pos
abbrev WC:=@Go.grownCap_le_maxLen
abbrev tF:=@if_false
abbrev al:=@if_neg
abbrev aq:=@if_pos
abbrev pV:=@if_true
abbrev Cf:=@of_decide_eq_false
abbrev lC:=@of_decide_eq_true
abbrev fG:=@or_false
abbrev DI:=@Go.roundsIn_succ
abbrev iI:=@Go.run_underlying
abbrev Lg:=@Go.size_zeroCells
abbrev Ij:=@Go.wpIn_block
abbrev QB:=@Go.wpIn_loop_rounds
abbrev lp:=@Go.wpIn_seq
def lh(a:Addr):Bool:=match a.spot with|some _=>false|none=>true
def oz:Value->Bool
 |.pointer (some a)=>lh a
 |.slice (some a) _ _=>lh a
 |.agg _=>false
 |.tuple _=>false
 |.func _ _ _=>false
 |_=>true
def oA:Value->Bool
 |.func _ fi ca=>fi.toList.all oz&&ca.toList.all oz
 |v=>oz v
def pT:Value->Bool
 |.agg cs=>cs.toList.all oA
 |v=>oA v
def flat:Value->Bool
 |.tuple vs=>vs.toList.all pT
 |v=>pT v
inductive bJ{α β:Type}(R:α->β->Prop):List α->List β->Prop
 |nil:bJ R [] []
 |cons {a b l m}:R a b->bJ R l m->bJ R (a::l) (b::m)
inductive oZ where
 |at (b o cap:Nat)
 |nil
 |val (v:i_)
variable{m a:Nat}
abbrev Map:=Nat->Option oZ
variable{ι κ ao:Map}
def Map.le(ι κ:Map):Prop:=∀ k l,ι k=some l->κ k=some l
theorem Map.le.refl(ι:Map):Map.le ι ι:=λ_ _ h=>h
theorem Map.le.trans{a b c:Map}(h:Map.le a b)(k:Map.le b c):Map.le a c:=λi l e=>k i l (h i l e)
inductive aG(ι:Map):Value->Value->Prop
 |same {v}:flat v=true->aG ι v v
 |ptr {k off b o cap}:ι k=some (.at b o cap)->aG ι (.pointer (some ⟨k,off,some 7⟩)) (.pointer (some ⟨b,o+off,none⟩))
 |slc {k off b o n c c' cap}:ι k=some (.at b o cap)->n<=c'->c+c'=cap->aG ι (.slice (some ⟨k,off,some 7⟩) n c) (.slice (some ⟨b,o+off,none⟩) n c')
 |slcN {k}:ι k=some .nil->aG ι (.slice (some ⟨k,0,some 7⟩) 0 0) (.slice none 0 0)
 |opq {k v}:ι k=some (.val v)->v.cells=#[v]->v.oneCell'=true->aG ι (.pointer (some ⟨k,0,some 9⟩)) v
 |fn {f fi ju ca gp}:bJ (aG ι) fi ju->bJ (aG ι) ca gp->aG ι (.func f fi.toArray ca.toArray) (.func f ju.toArray gp.toArray)
 |agg {cs bW}:bJ (aG ι) cs bW->aG ι (.agg cs.toArray) (.agg bW.toArray)
 |tup {vs cU}:bJ (aG ι) vs cU->aG ι (.tuple vs.toArray) (.tuple cU.toArray)
theorem bJ.imp{R R':α->β->Prop}:∀{l:List α} {m:List β},bJ R l m->(∀ a∈l,∀ b,R a b->R' a b)->bJ R' l m
 |_,_,.nil,_=>.nil
 |_,_,.cons h t,k=>.cons (k _ (aN ..) _ h) (t.imp λa ha=>k a (bB _ ha))
variable{k b off cap:Nat}{o:Oper}{f:FuncId}
theorem bJ.length{R:α->β->Prop}:∀{l:List α} {m:List β},bJ R l m->l.length=m.length
 |_,_,.nil=>rfl
 |_,_,.cons _ t=>by simp[t.length]
theorem bJ.get{R:α->β->Prop}:∀{l:List α} {m:List β},bJ R l m->∀(i:Nat) a,l[i]?=some a->∃ b,m[i]?=some b/\R a b
 |_,_,.nil,i,a,h=>by simp at h
 |_,_,.cons h t,0,a,e=>⟨_,rfl,by simp at e;exact e▸h⟩
 |_,_,.cons _ t,i+1,a,e=>by simpa using t.get i a (by simpa using e)
theorem bJ.get'{R:α->β->Prop}:∀{l:List α} {m:List β},bJ R l m->∀(i:Nat) b,m[i]?=some b->∃ a,l[i]?=some a/\R a b
 |_,_,.nil,i,a,h=>by simp at h
 |_,_,.cons h t,0,a,e=>⟨_,rfl,by simp at e;exact e▸h⟩
 |_,_,.cons _ t,i+1,a,e=>by simpa using t.get' i a (by simpa using e)
theorem bJ.set{R:α->β->Prop}{a:α}{b:β}(h:R a b):∀{l:List α} {m:List β},bJ R l m->∀(i:Nat),bJ R (l.set i a) (m.set i b)
 |_,_,.nil,i=>by simpa using .nil
 |_,_,.cons _ t,0=>.cons h t
 |_,_,.cons k t,i+1=>.cons k (t.set h i)
theorem bJ.append{R:α->β->Prop}:∀{l:List α} {m:List β},bJ R l m->∀{l' m'},bJ R l' m'->bJ R (l++l') (m++m')
 |_,_,.nil,_,_,h=>h
 |_,_,.cons k t,_,_,h=>.cons k (t.append h)
theorem bJ.take{R:α->β->Prop}:∀{l:List α} {m:List β},bJ R l m->∀(n:Nat),bJ R (l.take n) (m.take n)
 |_,_,.nil,n=>by simpa using .nil
 |_,_,.cons k t,0=>.nil
 |_,_,.cons k t,n+1=>.cons k (t.take n)
theorem bJ.drop{R:α->β->Prop}:∀{l:List α} {m:List β},bJ R l m->∀(n:Nat),bJ R (l.drop n) (m.drop n)
 |_,_,.nil,n=>by simpa using .nil
 |_,_,.cons k t,0=>.cons k t
 |_,_,.cons k t,n+1=>t.drop n
theorem PS{v:i_}(h:oA v=true):flat v=true:=by cases v<;>first|exact h|(simp[oA,oz]at h)
theorem Wi{v:i_}(h:oz v=true):oA v=true:=by cases v<;>first|exact h|(simp[oz]at h)
theorem aFb{v:i_}(h:pT v=true):flat v=true:=by cases v<;>first|exact h|(simp[pT,oA,oz]at h)
theorem Wj{cs:p_}(h:flat (.agg cs)=true):∀ c∈cs.toList,flat c=true:=by simp only[flat,pT,aX]at h;exact λc hc=>PS (h c hc)
theorem aFc{cs:p_}(h:flat (.tuple cs)=true):∀ c∈cs.toList,flat c=true:=by simp only[flat,aX]at h;exact λc hc=>aFb (h c hc)
theorem Wk{f:Fn}{fi ca:p_}(h:flat (.func f fi ca)=true):(∀ c∈fi.toList,flat c=true)/\(∀ c∈ca.toList,flat c=true):=by simp only[flat,pT,oA,cY,aX]at h;exact⟨λc hc=>PS (Wi (h.1 c hc)),λc hc=>PS (Wi (h.2 c hc))⟩
abbrev ak:=List Value
variable{xs args vs ca cells' args' eg pre post:ak}
theorem j7{ι:Map}:∀{l:ak},(∀ c∈l,flat c=true)->bJ (aG ι) l l
 |[],_=>.nil
 |c::l,h=>.cons (.same (h c (aN ..))) (j7 λc hc=>h c (bB _ hc))
theorem aG.eW{v:i_}(h:aG ι v v')(hf:flat v=true):v'=v:=by
 suffices H:∀ v v',aG ι v v'->flat v=true->v'=v from H v v' h hf
 have hP:∀ v v',aG ι v v'->oz v=true->v'=v:=by
  intro v v' h hf;cases h with
  |same _=>rfl
  |_=>simp[oz,lh]at hf
 have tf:∀(Q:Value->Bool),(∀ v v',aG ι v v'->Q v=true->v'=v)->∀ l l',bJ (aG ι) l l'->(∀ c∈l,Q c=true)->l'=l:=by
  intro Q hQ l l' h;induction h with
  |nil=>intro _;rfl
  |cons h t ih=>
   intro hl;rw[hQ _ _ h (hl _ (aN ..)),ih λc hc=>hl c (bB _ hc)]
 have h0:∀ v v',aG ι v v'->oA v=true->v'=v:=by
  intro v v' h hf;cases h with
  |same _=>rfl
  |fn h1 h2=>
   simp only[oA,cY,aX]at hf;rw[tf oz hP _ _ h1 hf.1,tf oz hP _ _ h2 hf.2]
  |_=>simp[oA,oz,lh]at hf
 have h1:∀ v v',aG ι v v'->pT v=true->v'=v:=by
  intro v v' h hf;cases h with
  |same _=>rfl
  |fn a b=>exact h0 _ _ (.fn a b) hf
  |agg h1=>
   simp only[pT,aX]at hf;rw[tf oA h0 _ _ h1 hf]
  |_=>simp[pT,oA,oz,lh]at hf
 intro v v' h hf;cases h with
 |same _=>rfl
 |fn a b=>exact h0 _ _ (.fn a b) hf
 |agg a=>exact h1 _ _ (.agg a) hf
 |tup a=>
  simp only[flat,aX]at hf;rw[tf pT h1 _ _ a hf]
 |_=>simp[flat,pT,oA,oz,lh]at hf
theorem aG.mono(hle:Map.le ι κ){v:i_}(h:aG ι v v'):aG κ v v':=by
 apply aG.rec (motive_1:=λv v' _=>aG κ v v') (motive_2:=λl l' _=>bJ (aG κ) l l') (t:=h)
 case same=>intro v h;exact .same h
 case ptr=>intro k off b o cap h;exact .ptr (hle _ _ h)
 case slc=>intro k off b o n c c' cap h h1 h2;exact .slc (hle _ _ h) h1 h2
 case slcN=>intro k h;exact .slcN (hle _ _ h)
 case opq=>intro k v h h1 h2;exact .opq (hle _ _ h) h1 h2
 case fn=>intro f fi ju ca gp _ _ h1 h2;exact .fn h1 h2
 case agg=>intro cs bW _ h;exact .agg h
 case tup=>intro cs bW _ h;exact .tup h
 case nil=>exact .nil
 case cons=>intro a b l m _ _ h1 h2;exact .cons h1 h2
theorem mC(hle:Map.le ι κ){l l':ak}(h:bJ (aG ι) l l'):bJ (aG κ) l l':=h.imp λ_ _ _ h=>h.mono hle
def lM(a:Addr):Bool:=match a.spot with|some s=>Nat.beq s 7|none=>false
theorem Ft{a:Addr}(h:lM a=true):a.spot=some 7:=by
 unfold lM at h;split at h
 ·rename_i s hs;rw[hs,PT h]
 ·cases h
theorem K8{a:Addr}(h:lM a=true):lh a=false:=by unfold lh;rw[Ft h]
theorem aG.ux{a:Addr}(h:aG ι (.pointer (some a)) v')(ho:lM a=true):∃ b o cap,ι a.block=some (.at b o cap)/\v'=.pointer (some ⟨b,o+a.off,none⟩):=by
 cases h with
 |same hf=>simp[flat,pT,oA,oz,K8 ho]at hf
 |ptr hb=>exact⟨_,_,_,hb,rfl⟩
 |opq _ _ _=>cases ho
theorem aG.gK{a:Addr}{n c:Nat}(h:aG ι (.slice (some a) n c) v')(ho:lM a=true):
  (ι a.block=some .nil/\n=0/\c=0/\a.off=0/\v'=.slice none 0 0)\/∃ b o cap c',ι a.block=some (.at b o cap)/\n<=c'/\c+c'=cap/\v'=.slice (some ⟨b,o+a.off,none⟩) n c':=by
 cases h with
 |same hf=>simp[flat,pT,oA,oz,K8 ho]at hf
 |slc hb h1 h2=>exact .inr ⟨_,_,_,_,hb,h1,h2,rfl⟩
 |slcN hb=>exact .inl ⟨hb,rfl,rfl,rfl,rfl⟩
theorem aG.bool{b:Bool}(h:aG ι (.bool b) v'):v'=.bool b:=h.eW rfl
theorem aG.tg{vs:p_}(h:aG ι (.tuple vs) v'):∃ cU,v'=.tuple cU/\bJ (aG ι) vs.toList cU.toList:=by
 cases h with
 |same hf=>exact⟨vs,rfl,j7 (aFc hf)⟩
 |tup h=>exact⟨_,rfl,by simpa using h⟩
theorem aG.Fu{vs:p_}(h:aG ι (.agg vs) v'):∃ cU,v'=.agg cU/\bJ (aG ι) vs.toList cU.toList:=by
 cases h with
 |same hf=>exact⟨vs,rfl,j7 (Wj hf)⟩
 |agg h=>exact⟨_,rfl,by simpa using h⟩
theorem aG.zo{f:Fn}{fi ca:p_}(h:aG ι (.func f fi ca) v'):∃ ju gp,v'=.func f ju gp/\bJ (aG ι) fi.toList ju.toList/\bJ (aG ι) ca.toList gp.toList:=by
 cases h with
 |same hf=>exact⟨fi,ca,rfl,j7 (Wk hf).1,j7 (Wk hf).2⟩
 |fn h1 h2=>exact⟨_,_,rfl,by simpa using h1,by simpa using h2⟩
theorem aG.cells{ι:Map}{v v':i_}(h:aG ι v v'):bJ (aG ι) v.cells.toList v'.cells.toList:=by
 cases h with
 |same hf=>
  apply j7;cases v<;>first|(intro c hc;simp[Value.cells]at hc;subst hc;exact hf)|exact Wj hf
 |ptr hb=>exact .cons (.ptr hb) .nil
 |slc hb h1 h2=>exact .cons (.slc hb h1 h2) .nil
 |slcN hb=>exact .cons (.slcN hb) .nil
 |opq hb h1 h2=>rw[h1];exact .cons (.opq hb h1 h2) .nil
 |fn a b=>exact .cons (.fn a b) .nil
 |agg h=>simpa[Value.cells]using h
 |tup h=>exact .cons (.tup h) .nil
theorem aG.Wl{v:i_}(h:aG ι v v'):v'.oneCell'=v.oneCell':=by
 cases h with
 |opq _ _ h=>rw[h];rfl
 |_=>rfl
def Fv:Value:=.tuple #[.tuple #[]]
def lN:Value->Bool
 |.tuple vs=>match vs.toList with|[.tuple us]=>Nat.beq us.size 0|_=>false
 |_=>false
def mZ(ι:Map)(v v':i_):Prop:=lN v=true\/aG ι v v'
theorem mZ.zp{v:i_}(h:mZ ι v v')(hn:lN v=false):aG ι v v':=by
 rcases h with h|h
 ·rw[hn]at h;cases h
 ·exact h
theorem mZ.mono(hle:Map.le ι κ){v:i_}(h:mZ ι v v'):mZ κ v v':=h.imp id (aG.mono hle)
def rY(w w':h_):Prop:=w'.os=w.os/\w.drawn<=w'.drawn
theorem rY.refl(w:h_):rY w w:=⟨rfl,aZ _⟩
theorem rY.trans{a b c:h_}(h:rY b c)(k:rY a b):rY a c:=⟨h.1.trans k.1,c9 k.2 h.2⟩
structure Below(B:Nat)(w w':h_):Prop where
 os:rY w w'
 tape:w'.tape=w.tape
 output:w'.output=w.output
 size:w.heap.size<=w'.heap.size
 block:∀ k,k<B->w'.heap[k]?=w.heap[k]?
theorem Below.K9{B:Nat}(h:Below B w w'):Go.RowKit.Below B w w':=⟨h.os.1,h.tape,h.output,h.size,h.block⟩
theorem Below.refl(B:Nat)(w:h_):Below B w w:=⟨.refl w,rfl,rfl,aZ _,λ_ _=>rfl⟩
theorem Below.cell{B:Nat}(h:Below B w w'){p:Addr}(hp:p.block<B):w'.cell? p=w.cell? p:=h.K9.cell hp
theorem Below.alloc{B:Nat}{a:h_}(h:Below B a w)(hB:B<=w.heap.size)(o:Go.Obj):Below B a (w.alloc o):=
 have k:=h.K9.alloc hB o
 ⟨⟨k.os,h.os.2⟩,k.tape,k.output,k.size,k.block⟩
structure Fact where
 G:Value->World->Prop
 cI:Value->World->Nat->Prop
 lt:∀ v w k,G v w->cI v w k->k<w.heap.size
 dep:∀ v w w',G v w->w.heap.size<=w'.heap.size->(∀ k,cI v w k->w'.heap[k]?=w.heap[k]?)->G v w'/\∀ k,cI v w' k->cI v w k
 rc:Bool:=false
 soft:rc=false->∀ v w w',G v w->w.heap.size<=w'.heap.size->(∀ k,cI v w k->∀ cs ty f,w.heap[k]?=some (Go.Obj.cells cs ty f)->w'.heap[k]?=some (Go.Obj.cells cs ty f))->G v w'/\∀ k,cI v w' k->cI v w k
variable{F:Fact}
structure ae where
 G:World->Prop
 cI:Nat->Prop
 ds:List Deferred:=[]
 Fa:Fact->Prop:=λ_=>False
 mp:Map:=λ_=>none
 lt:∀ w k,G w->cI k->k<w.heap.size
 dep:∀ w w',G w->rY w w'->w'.tape=w.tape->w'.output=w.output->w.heap.size<=w'.heap.size->(∀ k,cI k->w'.heap[k]?=w.heap[k]?)->G w'
variable{B Bs:ae}
def ae.at(w0:h_):ae where
 G w:=Below w0.heap.size w0 w
 cI k:=k<w0.heap.size
 lt w k h hk:=cy hk h.size
 dep w w' h h1 h2 h3 h4 h5:=⟨h1.trans h.os,h2.trans h.tape,h3.trans h.output,c9 h.size h4,λk hk=>(h5 k hk).trans (h.block k hk)⟩
inductive Obj where
 |aH (cells:ak) (ty:TypeId)
 |row (cells:ak) (ty:TypeId) (size:Nat)
 |view (cells:ak)
 |fact (F:Fact)
 |dead
variable{c:Nat->Option Obj}{need:List (Nat×Option Obj)}
def Obj.owns:Obj->Bool
 |.aH _ _=>true
 |.row _ _ _=>true
 |_=>false
def ij(ι:Map)(w:h_)(l:oZ):Obj->Prop
 |.aH cells ty=>∃ b bW,l=.at b 0 0/\bJ (aG ι) cells bW/\w.heap[b]?=some (.cells bW.toArray ty (0,0))
 |.row cells ty size=>(l=.nil/\cells=[])\/∃ b cap cur,l=.at b 0 cap/\w.heap[b]?=some (.cells cur ty (0,0))/\cap<=maxLen/\cur.size=cap*size/\bJ (aG ι) cells (cur.toList.take cells.length)
 |.view cells=>(l=.nil/\cells=[])\/∃ b o cap bW,l=.at b o cap/\bJ (aG ι) cells bW/\∀ j u,bW[j]?=some u->w.cell? ⟨b,o+j,none⟩=some u
 |.fact F=>∃ v,l=.val v/\F.G v w
 |.dead=>True
def Obj.jc:Obj->Bool
 |.view _=>true
 |_=>false
structure aI(B:ae)(ι:Map)(c:Nat->Option Obj)(w:h_):Prop where
 base:B.G w
 dp:∀ k,c k=none->ι k=none
 born:∀ k x,c k=some x->∃ l,ι k=some l/\ij ι w l x
 own:∀ k x b o cap,c k=some x->x.owns=true->ι k=some (.at b o cap)->b<w.heap.size/\¬B.cI b
 inj:∀ k j x y b o cap o' bf,c k=some x->x.owns=true->c j=some y->y.owns=true->ι k=some (.at b o cap)->ι j=some (.at b o' bf)->k=j
 apart:∀ k j x F b o cap v,c k=some x->x.owns=true->ι k=some (.at b o cap)->c j=some (.fact F)->ι j=some (.val v)->¬F.cI v w b
 seen:∀ k x b o cap,c k=some x->x.jc=true->ι k=some (.at b o cap)->b<w.heap.size/\∀ j y o' bf,c j=some y->y.owns=true->ι j≠some (.at b o' bf)
 fa:∀ j F,c j=some (.fact F)->F.rc=true->B.Fa F
 one:∀ j k F F',c j=some (.fact F)->c k=some (.fact F')->F.rc=true->F'.rc=true->j=k
 qR:Map.le B.mp ι
theorem ij.mono(hle:Map.le ι κ){l:oZ}{x:Obj}(h:ij ι w l x):ij κ w l x:=by
 cases x with
 |aH cells ty=>obtain⟨b,bW,h1,h2,h3⟩:=h;exact⟨b,bW,h1,mC hle h2,h3⟩
 |row cells ty size=>
  rcases h with h|⟨b,cap,cur,h1,h2,h3,h4,h5⟩
  ·exact .inl h
  ·exact .inr ⟨b,cap,cur,h1,h2,h3,h4,mC hle h5⟩
 |view cells=>
  rcases h with h|⟨b,o,cap,bW,h1,h2,h3⟩
  ·exact .inl h
  ·exact .inr ⟨b,o,cap,bW,h1,mC hle h2,h3⟩
 |fact F=>exact h
 |dead=>trivial
theorem ij.jd{l:oZ}{x:Obj}(h:ij ι w l x)(hs:w.heap.size<=w'.heap.size)
  (hb:∀ b o cap,x.owns=true\/x.jc=true->l=.at b o cap->w'.heap[b]?=w.heap[b]?) (hf:∀ F v b,x=.fact F->l=.val v->F.cI v w b->w'.heap[b]?=w.heap[b]?):ij ι w' l x:=by
 cases x with
 |aH cells ty=>obtain⟨b,bW,h1,h2,h3⟩:=h;exact⟨b,bW,h1,h2,by rw[hb b 0 0 (.inl rfl) h1];exact h3⟩
 |row cells ty size=>
  rcases h with h|⟨b,cap,cur,h1,h2,h3,h4,h5⟩
  ·exact .inl h
  ·exact .inr ⟨b,cap,cur,h1,by rw[hb b 0 cap (.inl rfl) h1];exact h2,h3,h4,h5⟩
 |view cells=>
  rcases h with h|⟨b,o,cap,bW,h1,h2,h3⟩
  ·exact .inl h
  ·exact .inr ⟨b,o,cap,bW,h1,h2,λj u hj=>by rw[World.cell?_of_block (w:=w) (w':=w') (a:=⟨b,o+j,none⟩) (hb b o cap (.inr rfl) h1)];exact h3 j u hj⟩
 |fact F=>obtain⟨v,h1,h2⟩:=h;exact⟨v,h1,(F.dep v w w' h2 hs λk hk=>hf F v k rfl h1 hk).1⟩
 |dead=>trivial
theorem ij.Dk{l:oZ}{v:i_}(h:ij ι w l (.fact F))(hl:l=.val v)(hb:F.cI v w b):b<w.heap.size:=by obtain⟨v',h1,h2⟩:=h;rw[hl]at h1;injection h1 with h1;subst h1;exact F.lt _ w b h2 hb
theorem aI.Dl(h:aI B ι c w){v:i_}(hj:c j=some (.fact F))(hv:ι j=some (.val v))(hs:w.heap.size<=w'.heap.size)
  (PU:∀ k,k<w.heap.size->F.cI v w k->w'.heap[k]?=w.heap[k]?) {b:Nat} (hF:F.cI v w' b):F.cI v w b:=by
 obtain⟨l,q1,v',q2,q3⟩:=h.born j _ hj;rw[hv]at q1;injection q1 with q1;subst q1;injection q2 with q2;subst q2;exact(F.dep v w w' q3 hs λk hk=>PU k (F.lt v w k q3 hk) hk).2 b hF
theorem aI.call(h:aI B ι c w)(hb:Below w.heap.size w w'):aI B ι c w' where
 base:=B.dep w w' h.base hb.os hb.tape hb.output hb.size λk hk=>hb.block k (B.lt w k h.base hk)
 dp:=h.dp
 born k x hk:=by
  obtain⟨l,h1,h2⟩:=h.born k x hk;refine⟨l,h1,h2.jd hb.size (λb o cap hx hl=>?_) λF v b hx hl hf=>?_⟩
  ·rcases hx with hx|hx
   ·exact hb.block b (h.own k x b o cap hk hx (by rw[h1,hl])).1
   ·exact hb.block b (h.seen k x b o cap hk hx (by rw[h1,hl])).1
  ·subst hx;exact hb.block b (h2.Dk hl hf)
 own k x b o cap hk hx hl:=⟨cy (h.own k x b o cap hk hx hl).1 hb.size,(h.own k x b o cap hk hx hl).2⟩
 inj:=h.inj
 apart k j x F b o cap v hk hx hl hj hv hF:=h.apart k j x F b o cap v hk hx hl hj hv (h.Dl hj hv hb.size (λk hk _=>hb.block k hk) hF)
 seen k x b o cap hk hx hl:=⟨cy (h.seen k x b o cap hk hx hl).1 hb.size,(h.seen k x b o cap hk hx hl).2⟩
 fa:=h.fa
 one:=h.one
 qR:=h.qR
def aT(c:Nat->Option Obj)(k:Nat)(x:Obj):Nat->Option Obj:=λj=>if j=k then some x else c j
def dy(ι:Map)(k:Nat)(l:oZ):Map:=λj=>if j=k then some l else ι j
theorem fZ{l:oZ}(h:ι k=none):Map.le ι (dy ι k l):=λj m e=>by
 unfold dy;by_cases hj:j=k
 ·subst hj;rw[h]at e;cases e
 ·rw[al hj];exact e
theorem fj(ι:Map)(k:Nat)(l:oZ):dy ι k l k=some l:=by simp[dy]
theorem aI.add(h:aI B ι c w)(hk:c k=none){x:Obj}{l:oZ}(hx:ij (dy ι k l) w l x)
  (ek:∀ b o cap,x.owns=true->l=.at b o cap->b<w.heap.size/\¬B.cI b/\(∀ j y o' bf,c j=some y->y.owns=true->ι j≠some (.at b o' bf))/\(∀ j F v,c j=some (.fact F)->ι j=some (.val v)->¬F.cI v w b)/\(∀ j y o' bf,c j=some y->y.jc=true->ι j≠some (.at b o' bf)))
  (Dm:∀ F v b,x=.fact F->l=.val v->F.cI v w b->∀ j y o' bf,c j=some y->y.owns=true->ι j≠some (.at b o' bf))
  (aFd:∀ b o cap,x.jc=true->l=.at b o cap->b<w.heap.size/\∀ j y o' bf,c j=some y->y.owns=true->ι j≠some (.at b o' bf)) (o5:∀ F,x=.fact F->F.rc=true->(B.Fa F/\∀ j F',c j=some (.fact F')->F'.rc=false):=by intro F e;cases e):aI B (dy ι k l) (aT c k x) w:=by
 have th:=h.dp k hk;have hle:=fZ (l:=l) th;have cM:∀ j y,j≠k->aT c k x j=some y->c j=some y:=λj y hj e=>by unfold aT at e;rw[al hj]at e;exact e
 have ti:∀ j m,j≠k->dy ι k l j=some m->ι j=some m:=λj m hj e=>by unfold dy at e;rw[al hj]at e;exact e
 have new:∀ y,aT c k x k=some y->y=x:=λy e=>by unfold aT at e;rw[aq rfl]at e;injection e with e;exact e.symm
 have iT:∀ m,dy ι k l k=some m->m=l:=λm e=>by rw[fj]at e;injection e with e;exact e.symm
 refine⟨h.base,?_,?_,?_,?_,?_,?_,?_,?_,h.qR.trans hle⟩
 ·intro j hj;unfold aT at hj;unfold dy;by_cases bL:j=k
  ·rw[aq bL]at hj;cases hj
  ·rw[al bL]at hj ⊢;exact h.dp j hj
 ·intro j y hj;by_cases bL:j=k
  ·subst bL;rw[new y hj];exact⟨l,fj _ _ _,hx⟩
  ·obtain⟨m,h1,h2⟩:=h.born j y (cM j y bL hj);exact⟨m,hle _ _ h1,h2.mono hle⟩
 ·intro j y b o cap hj hy hl;by_cases bL:j=k
  ·subst bL;rw[new y hj]at hy;have:=ek b o cap hy (iT _ hl).symm;exact⟨this.1,this.2.1⟩
  ·exact h.own j y b o cap (cM j y bL hj) hy (ti _ _ bL hl)
 ·intro i j y z b o cap o' bf hi hy hj hz hl hm;by_cases eL:i=k<;>by_cases bL:j=k
  ·rw[eL,bL]
  ·exfalso;subst eL;rw[new y hi]at hy;exact(ek b o cap hy (iT _ hl).symm).2.2.1 j z o' bf (cM j z bL hj) hz (ti _ _ bL hm)
  ·exfalso;subst bL;rw[new z hj]at hz;exact(ek b o' bf hz (iT _ hm).symm).2.2.1 i y o cap (cM i y eL hi) hy (ti _ _ eL hl)
  ·exact h.inj i j y z b o cap o' bf (cM i y eL hi) hy (cM j z bL hj) hz (ti _ _ eL hl) (ti _ _ bL hm)
 ·intro i j y F b o cap v hi hy hl hj hv hF;by_cases eL:i=k<;>by_cases bL:j=k
  ·subst eL;subst bL;have e:y=.fact F:=(new y hi).trans (new _ hj).symm;rw[e]at hy;cases hy
  ·subst eL;rw[new y hi]at hy;exact(ek b o cap hy (iT _ hl).symm).2.2.2.1 j F v (cM j _ bL hj) (ti _ _ bL hv) hF
  ·subst bL;exact Dm F v b (new _ hj).symm (iT _ hv).symm hF i y o cap (cM i y eL hi) hy (ti _ _ eL hl)
  ·exact h.apart i j y F b o cap v (cM i y eL hi) hy (ti _ _ eL hl) (cM j _ bL hj) (ti _ _ bL hv) hF
 ·intro j y b o cap hj hy hl;by_cases bL:j=k
  ·subst bL;rw[new y hj]at hy;obtain⟨q1,q2⟩:=aFd b o cap hy (iT _ hl).symm;refine⟨q1,λi z o' bf hi hz hm=>?_⟩;by_cases nJ:i=j
   ·subst nJ;rw[new z hi]at hz;cases x<;>simp[Obj.owns,Obj.jc]at hy hz
   ·exact q2 i z o' bf (cM i z nJ hi) hz (ti _ _ nJ hm)
  ·obtain⟨q1,q2⟩:=h.seen j y b o cap (cM j y bL hj) hy (ti _ _ bL hl);refine⟨q1,λi z o' bf hi hz hm=>?_⟩;by_cases eL:i=k
   ·subst eL;rw[new z hi]at hz;exact(ek b o' bf hz (iT _ hm).symm).2.2.2.2 j y o cap (cM j y bL hj) hy (ti _ _ bL hl)
   ·exact q2 i z o' bf (cM i z eL hi) hz (ti _ _ eL hm)
 ·intro j F hj;by_cases bL:j=k
  ·subst bL;exact λvB=>(o5 F (new _ hj).symm vB).1
  ·exact h.fa j F (cM j _ bL hj)
 ·intro i j F F' hi hj hr Dn;by_cases eL:i=k<;>by_cases bL:j=k
  ·rw[eL,bL]
  ·subst eL;have:=(o5 F (new _ hi).symm hr).2 j F' (cM j _ bL hj);rw[Dn]at this;cases this
  ·subst bL;have:=(o5 F' (new _ hj).symm Dn).2 i F (cM i _ eL hi);rw[hr]at this;cases this
  ·exact h.one i j F F' (cM i _ eL hi) (cM j _ bL hj) hr Dn
theorem aI.new(h:aI B ι c w)(hb:Below w.heap.size w w')(hk:c k=none){x:Obj}{l:oZ}
  (hx:ij (dy ι k l) w' l x) (ek:∀ b o cap,x.owns=true->l=.at b o cap->w.heap.size<=b/\b<w'.heap.size)
  (Dm:∀ F v b,x=.fact F->l=.val v->F.cI v w' b->w.heap.size<=b\/B.cI b) (jG:x.jc=false) (o5:∀ F,x=.fact F->F.rc=true->(B.Fa F/\∀ j F',c j=some (.fact F')->F'.rc=false):=by intro F e;cases e):aI B (dy ι k l) (aT c k x) w':=by
 refine(h.call hb).add hk hx (λb o cap HY hl=>?_) (λF v b Wm hl hF j y o' bf hj hy he=>?_) (λb o cap hv=>by rw[jG]at hv;cases hv) o5
 ·obtain⟨h1,h2⟩:=ek b o cap HY hl;refine⟨h2,λhF=>by have:=B.lt w b h.base hF;omega,λj y o' bf hj hy he=>?_,λj F v hj he hF=>?_,λj y o' bf hj hy he=>?_⟩
  ·have:=(h.own j y b o' bf hj hy he).1;omega
  ·have hF:=h.Dl hj he hb.size (λk hk _=>hb.block k hk) hF;obtain⟨m,q1,q2⟩:=h.born j _ hj;rw[he]at q1;injection q1 with q1;have:=q2.Dk q1.symm hF;omega
  ·have:=(h.seen j y b o' bf hj hy he).1;omega
 ·have h1:=h.own j y b o' bf hj hy he;rcases Dm F v b Wm hl hF with h2|h2
  ·omega
  ·exact h1.2 h2
theorem aI.write(h:aI B ι c w){o:Nat}{x y:Obj}(hk:c k=some x)(hx:x.owns=true)(hl:ι k=some (.at b o cap))
  (hos:rY w w') (aFe:w'.tape=w.tape) (aFf:w'.output=w.output) (xF:w.heap.size<=w'.heap.size) (HZ:∀ j,j<w.heap.size->j≠b->w'.heap[j]?=w.heap[j]?)
  (hy:ij ι w' (.at b o cap) y) (H0:∀ F,y≠.fact F) (H2:y.jc=false):aI B ι (aT c k y) w':=by
 obtain⟨gy,Wn⟩:=h.own k x b o cap hk hx hl;have cM:∀ j z,j≠k->aT c k y j=some z->c j=some z:=λj z hj e=>by unfold aT at e;rw[al hj]at e;exact e
 have new:∀ z,aT c k y k=some z->z=y:=λz e=>by unfold aT at e;rw[aq rfl]at e;injection e with e;exact e.symm
 refine⟨B.dep w w' h.base hos aFe aFf xF λj hj=>HZ j (B.lt w j h.base hj) λe=>Wn (e▸hj),?_,?_,?_,?_,?_,?_,?_,?_,h.qR⟩
 ·intro j hj;unfold aT at hj;by_cases bL:j=k
  ·rw[aq bL]at hj;cases hj
  ·rw[al bL]at hj;exact h.dp j hj
 ·intro j z hj;by_cases bL:j=k
  ·subst bL;rw[new z hj];exact⟨_,hl,hy⟩
  ·have gA:=cM j z bL hj;obtain⟨m,h1,h2⟩:=h.born j z gA;refine⟨m,h1,h2.jd xF (λb' o' bf hz hm=>?_) λF v b' hz hm hF=>?_⟩
   ·subst hm;rcases hz with hz|hz
    ·exact HZ b' (h.own j z b' o' bf gA hz h1).1 λe=>bL (h.inj j k z x b o' bf o cap gA hz hk hx (e▸h1) hl)
    ·obtain⟨q1,q2⟩:=h.seen j z b' o' bf gA hz h1;exact HZ b' q1 λe=>q2 k x o cap hk hx (e▸hl)
   ·subst hz;subst hm;exact HZ b' (h2.Dk rfl hF) λe=>h.apart k j x F b o cap v hk hx hl gA h1 (e▸hF)
 ·intro j z b' o' bf hj hz hm;by_cases bL:j=k
  ·subst bL;rw[hl]at hm;injection hm with hm;injection hm with cP dz uy;subst cP;exact⟨cy gy xF,Wn⟩
  ·have:=h.own j z b' o' bf (cM j z bL hj) hz hm;exact⟨cy this.1 xF,this.2⟩
 ·intro i j z z' b' o1 kz o2 o6 hi hz hj lj uz kO;by_cases eL:i=k<;>by_cases bL:j=k
  ·rw[eL,bL]
  ·subst eL;exact h.inj i j x z' b' o1 kz o2 o6 hk hx (cM j z' bL hj) lj uz kO
  ·subst bL;exact h.inj i j z x b' o1 kz o2 o6 (cM i z eL hi) hz hk hx uz kO
  ·exact h.inj i j z z' b' o1 kz o2 o6 (cM i z eL hi) hz (cM j z' bL hj) lj uz kO
 ·intro i j z F b' o' bf v hi hz hm hj hv hF;by_cases bL:j=k
  ·subst bL;exact absurd (new _ hj).symm (H0 F)
  ·have gA:=cM j _ bL hj;have hF:=h.Dl gA hv xF (λk2 fT iU=>HZ k2 fT λe=>h.apart k j x F b o cap v hk hx hl gA hv (e▸iU)) hF;by_cases eL:i=k
   ·subst eL;exact h.apart i j x F b' o' bf v hk hx hm gA hv hF
   ·exact h.apart i j z F b' o' bf v (cM i z eL hi) hz hm gA hv hF
 ·intro j z b' o' bf hj hz hm;by_cases bL:j=k
  ·subst bL;rw[new z hj,H2]at hz;cases hz
  ·obtain⟨q1,q2⟩:=h.seen j z b' o' bf (cM j z bL hj) hz hm;refine⟨cy q1 xF,λi z' o2 o6 hi lj bh=>?_⟩;by_cases eL:i=k
   ·subst eL;exact q2 i x o2 o6 hk hx bh
   ·exact q2 i z' o2 o6 (cM i z' eL hi) lj bh
 ·intro j F hj;by_cases bL:j=k
  ·subst bL;exact absurd (new _ hj).symm (H0 F)
  ·exact h.fa j F (cM j _ bL hj)
 ·intro i j F F' hi hj;by_cases eL:i=k
  ·subst eL;exact absurd (new _ hi).symm (H0 F)
  ·by_cases bL:j=k
   ·subst bL;exact absurd (new _ hj).symm (H0 F')
   ·exact h.one i j F F' (cM i _ eL hi) (cM j _ bL hj)
theorem aI.kill(h:aI B ι c w)(k:Nat)(hk:c k≠none):aI B ι (aT c k .dead) w:=by
 have cM:∀ j z,j≠k->aT c k .dead j=some z->c j=some z:=λj z hj e=>by unfold aT at e;rw[al hj]at e;exact e
 have new:∀ z,aT c k .dead k=some z->z=.dead:=λz e=>by unfold aT at e;rw[aq rfl]at e;injection e with e;exact e.symm
 refine⟨h.base,?_,?_,?_,?_,?_,?_,?_,?_,h.qR⟩
 ·intro j hj;unfold aT at hj;by_cases bL:j=k
  ·rw[aq bL]at hj;cases hj
  ·rw[al bL]at hj;exact h.dp j hj
 ·intro j z hj;by_cases bL:j=k
  ·subst bL;rw[new z hj];cases hc:c j with
   |none=>exact absurd hc hk
   |some x=>obtain⟨l,h1,_⟩:=h.born j x hc;exact⟨l,h1,trivial⟩
  ·exact h.born j z (cM j z bL hj)
 ·intro j z b o cap hj hz;by_cases bL:j=k
  ·subst bL;rw[new z hj]at hz;cases hz
  ·exact h.own j z b o cap (cM j z bL hj) hz
 ·intro i j z z' b o1 c1 o2 c2 hi hz hj lj;by_cases eL:i=k
  ·subst eL;rw[new z hi]at hz;cases hz
  ·by_cases bL:j=k
   ·subst bL;rw[new z' hj]at lj;cases lj
   ·exact h.inj i j z z' b o1 c1 o2 c2 (cM i z eL hi) hz (cM j z' bL hj) lj
 ·intro i j z F b o cap v hi hz hl hj;by_cases eL:i=k
  ·subst eL;rw[new z hi]at hz;cases hz
  ·by_cases bL:j=k
   ·subst bL;cases new _ hj
   ·exact h.apart i j z F b o cap v (cM i z eL hi) hz hl (cM j _ bL hj)
 ·intro j z b o cap hj hz;by_cases bL:j=k
  ·subst bL;rw[new z hj]at hz;cases hz
  ·intro hl;obtain⟨q1,q2⟩:=h.seen j z b o cap (cM j z bL hj) hz hl;refine⟨q1,λi z' o' bf hi lj hm=>?_⟩;by_cases eL:i=k
   ·subst eL;rw[new z' hi]at lj;cases lj
   ·exact q2 i z' o' bf (cM i z' eL hi) lj hm
 ·intro j F hj;by_cases bL:j=k
  ·subst bL;cases new _ hj
  ·exact h.fa j F (cM j _ bL hj)
 ·intro i j F F' hi hj;by_cases eL:i=k
  ·subst eL;cases new _ hi
  ·by_cases bL:j=k
   ·subst bL;cases new _ hj
   ·exact h.one i j F F' (cM i _ eL hi) (cM j _ bL hj)
theorem aI.ext{c':Nat->Option Obj}(h:aI B ι c w)(e:∀ k,c' k=c k):aI B ι c' w:=by have:c'=c:=funext e;rw[this];exact h
theorem aI.drew(h:aI B ι c w)(n:Nat)(hn:w.drawn<=n):aI B ι c { w with drawn:=n }:=
 h.call ⟨⟨rfl,hn⟩,rfl,rfl,aZ _,λ_ _=>rfl⟩
def iv:ak->Nat->ak->ak
 |l,_,[]=>l
 |l,o,v::r=>iv (l.set o v) (o+1) r
theorem PV:∀(vs l:ak) (o:Nat),(iv l o vs).length=l.length
 |[],_,_=>rfl
 |v::r,l,o=>by rw[iv,PV r];simp
theorem bJ.iv{ι:Map}:∀{vs cU:ak},bJ (aG ι) vs cU->∀{l l':ak},bJ (aG ι) l l'->∀ o,bJ (aG ι) (iv l o vs) (iv l' o cU)
 |_,_,.nil,_,_,h,_=>h
 |_,_,.cons hv hr,_,_,h,o=>hr.iv (h.set hv o) (o+1)
theorem Wo:∀(vs l:ak) (o n:Nat),o+vs.length<=n->(iv l o vs).take n=iv (l.take n) o vs
 |[],_,_,_,_=>rfl
 |v::r,l,o,n,h=>by simp only[pU]at h;rw[iv,iv,Wo r (l.set o v) (o+1) n o_,List.take_set]
theorem PW(b:Nat)(ty:TypeId)(fr:Nat×Nat):∀(vs cs:ak) (o:Nat) (w:h_),w.heap[b]?=some (.cells cs.toArray ty fr)->
  (w.setCells b o vs).heap[b]?=some (.cells (iv cs o vs).toArray ty fr)/\(∀ k,k≠b->(w.setCells b o vs).heap[k]?=w.heap[k]?)/\(w.setCells b o vs).heap.size=w.heap.size/\
   rY w (w.setCells b o vs)/\(w.setCells b o vs).tape=w.tape/\(w.setCells b o vs).output=w.output
 |[],cs,o,w,h=>⟨h,λ_ _=>rfl,rfl,.refl w,rfl,rfl⟩
 |v::r,cs,o,w,h=>by
  have h1:(w.setCell ⟨b,o,none⟩ v).heap[b]?=some (.cells (cs.set o v).toArray ty fr):=by simp only[World.setCell,Wp,pV,h,PX];simp
  obtain⟨a1,a2,a3,a4,a5,a6⟩:=PW b ty fr r (cs.set o v) (o+1) _ h1;refine⟨a1,λk hk=>?_,?_,a4,a5,a6⟩
  ·rw[World.setCells,a2 k hk,Go.RowKit.Below.heap_setCell _ _ _ _ hk]
  ·rw[World.setCells,a3];simp[World.setCell]
def Obj.cells:Obj->ak
 |.aH cs _=>cs
 |.row cs _ _=>cs
 |.view cs=>cs
 |_=>[]
def Obj.La:Obj->ak->Obj
 |.aH _ ty,cs=>.aH cs ty
 |.row _ ty s,cs=>.row cs ty s
 |x,_=>x
def Obj.reads(x:Obj):Bool:=x.owns||x.jc
theorem ij.at{ι:Map}{w:h_}{b o cap:Nat}{x:Obj}(h:ij ι w (.at b o cap) x)(hx:x.reads=true):
  ∃ bW:ak,bJ (aG ι) x.cells bW/\∀ j u,bW[j]?=some u->w.cell? ⟨b,o+j,none⟩=some u:=by
 cases x with
 |aH cells ty=>
  obtain⟨b',bW,h1,h2,h3⟩:=h;injection h1 with h1 nK Wq;subst h1;subst nK;exact⟨bW,h2,λj u hj=>by simp[World.cell?,h3,hj]⟩
 |row cells ty size=>
  rcases h with h|⟨b',bf,cur,h1,h2,h3,h4,h5⟩
  ·cases h.1
  ·injection h1 with h1 nK Wq;subst h1;subst nK;refine⟨_,h5,λj u hj=>?_⟩;rw[tj]at hj;split at hj
   ·have gA:cur[j]?=some u:=by simpa using hj
    simp[World.cell?,h2,gA]
   ·cases hj
 |view cells=>
  rcases h with h|⟨b',o',bf,bW,h1,h2,h3⟩
  ·cases h.1
  ·injection h1 with h1 nK Wq;subst h1;subst nK;exact⟨bW,h2,h3⟩
 |fact F=>cases hx
 |dead=>cases hx
theorem aI.store(h:aI B ι c w){o:Nat}{x:Obj}(hk:c k=some x)(hx:x.owns=true)(hb:ι k=some (.at b n2 cap))
  (hv:bJ (aG ι) vs eg) (hle:o+vs.length<=x.cells.length) :
  n2=0/\aI B ι (aT c k (x.La (iv x.cells o vs))) (w.setCells b o eg)/\∃(bW:ak) (ty:TypeId),w.heap[b]?=some (.cells bW.toArray ty (0,0))/\o+vs.length<=bW.length:=by
 obtain⟨l,h1,h2⟩:=h.born k x hk;rw[hb]at h1;injection h1 with h1;subst h1;cases x with
 |aH cells ty=>
  obtain⟨b',bW,q1,q2,q3⟩:=h2;injection q1 with q1 zq PY;subst q1;subst zq;subst PY;obtain⟨a1,a2,a3,a4,a5,a6⟩:=PW b ty (0,0) eg bW o w q3;exact⟨rfl,h.write hk hx hb a4 a5 a6 (uA a3.symm) (λj _ hj=>a2 j hj) ⟨b,_,rfl,hv.iv q2 o,a1⟩ n_ rfl,bW,ty,q3,by rw[<-q2.length];exact hle⟩
 |row cells ty size=>
  rcases h2 with h2|⟨b',bf,cur,q1,q2,q3,q4,q5⟩
  ·cases h2.1
  ·injection q1 with q1 zq PY;subst q1;subst zq;subst PY;obtain⟨a1,a2,a3,a4,a5,a6⟩:=PW b ty (0,0) eg cur.toList o w (by simpa using q2);have tn:o+eg.length<=cells.length:=by rw[<-hv.length];exact hle
   have ga:cells.length<=cur.toList.length:=by have:=q5.length;rw[je]at this;omega
   refine⟨rfl,h.write hk hx hb a4 a5 a6 (uA a3.symm) (λj _ hj=>a2 j hj) (.inr ⟨b,cap,_,rfl,a1,q3,by simp[PV,q4],?_⟩) n_ rfl,cur.toList,ty,by simpa using q2,?_⟩
   ·rw[PV];show bJ (aG ι) (iv cells o vs) (List.take cells.length (iv cur.toList o eg));rw[Wo _ _ _ _ tn];exact hv.iv q5 o
   ·rw[hv.length];omega
 |view cells=>cases hx
 |fact F=>cases hx
 |dead=>cases hx
abbrev aC:=List (Nat×Obj)
variable{M ms:aC}
def kP(c:Nat->Option Obj):aC->Nat->Option Obj
 |[]=>c
 |(k,x)::l=>aT (kP c l) k x
def gL(P:j_)(B:ae)(o:Oper)(eg:ak)(need:List (Nat×Option Obj))(val:i_)(cK:aC):Prop:=
 ∀(ι:Map) (c:Nat->Option Obj) (ρ:Operand->Value) (w:h_),bJ (aG ι) eg (o.op.operands.toList.map ρ)->aI B ι c w->(∀ p∈need,c p.1=p.2)->
  ∃ ao v' w',Map.le ι ao/\aG ao val v'/\aI B ao (kP c cK) w'/\((execOp ρ o).run P w=.ok (.value v') w'\/(v'=undef/\(execOp ρ o).run P w=.ok .skip w'))
def FW(R:Option Nat):Fence:={ fn:=λ_=>True,depth:=none,alive:=false,round:=R }
theorem Wr{ρ:Operand->Value}{n:Next}(h:(execOp ρ o).run P w=.ok n w')(hn:∀ d,n≠.defer d):∀ c,o.op≠.defer c:=by
 intro c hc;have e:execOp ρ o=(do let d <-resolve ρ c o.type;pure (.defer d)):=by unfold execOp;rw[hc]
 rw[e,H3]at h;cases hr:(resolve ρ c o.type).run P w with
 |ok d w1=>rw[hr]at h;injection h with h _;exact hn d h.symm
 |halt x w1=>rw[hr]at h;cases h
def ct(P:j_)(B:ae)(o:Oper)(eg:ak)(need:List (Nat×Option Obj))(val:i_)(cK:aC):Prop:=
 ∀(R:Option Nat) (ι:Map) (c:Nat->Option Obj) (a:Act) (w:h_),bJ (aG ι) eg (o.op.operands.toList.map a.eval)->aI B ι c w->(∀ p∈need,c p.1=p.2)->
  ∀(K:Act->World->Prop) (Q:Exit->Act->World->Prop),(∀ ao v' w',Map.le ι ao->aG ao val v'->aI B ao (kP c cK) w'->K (a.put o.dst v') w')->o.wpIn (FW R) 0 P a w K Q
theorem gL.step{val:i_}{cK:aC}(h:gL P B o eg need val cK):ct P B o eg need val cK:=by
 intro R ι c a w hv hm hn K Q hK;refine⟨λ_ _=>trivial,?_⟩;obtain⟨ao,v',w',h1,h2,h3,h4|⟨h4,h5⟩⟩:=h ι c a.eval w hv hm hn
 ·rw[Lb _ _ _ (Wr h4 n_),h4,Oper.uponIn_value];exact hK ao v' w' h1 h2 h3
 ·rw[Lb _ _ _ (Wr h5 n_),h5,Oper.uponIn_skip];subst h4;exact hK ao undef w' h1 h2 h3
section
variable{P:j_}{B:ae}{o:Oper}
theorem lO{R:α->β->Prop}{a:α}{m:List β}(h:bJ R [a] m):∃ b,m=[b]/\R a b:=by cases h with|cons h t=>cases t;exact⟨_,rfl,h⟩
theorem iH{R:α->β->Prop}{a a2:α}{m:List β}(h:bJ R [a,a2] m):∃ b b2,m=[b,b2]/\R a b/\R a2 b2:=by cases h with|cons h t=>obtain⟨b2,rfl,h2⟩:=lO t;exact⟨_,_,rfl,h,h2⟩
def dB(P:j_)(t:TypeId)(cells:ak)(off:Nat):Option Value:=
 match P.underlying t,P.info? t with
 |some d,some i=>
  if d.isRow then(if Nat.ble (off+i.size) cells.length then some (.agg ((cells.drop off).take i.size).toArray)else none)
  else cells[off]?
 |_,_=>none
def eM(P:j_)(t:TypeId)(cells:ak)(off:Nat)(v:i_):Option ak:=
 match P.info? t with
 |some i=>if Nat.beq i.size v.cells.size&&Nat.ble (off+v.cells.size) cells.length&&v.cells.toList.all (·.oneCell')then some (iv cells off v.cells.toList)else none
 |none=>none
theorem Ws(hm:aI B ι c w){x:Obj}{t:TypeId}{v:i_}
  (hk:c k=some x) (hx:x.reads=true) (hv:dB P t x.cells off=some v) (hc:aG ι (.pointer (some ⟨k,off,some 7⟩)) u) :
  ∃ v' a',u=.pointer (some a')/\aG ι v v'/\(loadVar t a').run P w=.ok v' w:=by
 obtain⟨b,o,cap,hb,he⟩:=hc.ux rfl;dsimp only at hb he;obtain⟨l,h1,h2⟩:=hm.born k x hk;rw[hb]at h1;injection h1 with h1;subst h1;obtain⟨bW,e7,kA⟩:=h2.at hx;unfold dB at hv;split at hv
 ·rename_i d i hd hi;split at hv
  ·rename_i iW;split at hv
   ·rename_i Wt;have Wt:=o7 Wt;have hlen:=e7.length;injection hv with hv;refine⟨.agg ((bW.drop off).take i.size).toArray,⟨b,o+off,none⟩,he,by rw[<-hv];exact .agg ((e7.drop _).take _),?_⟩;exact run_loadVar_mid (P:=P) w b (o+off) t ((bW.drop off).take i.size) d (λj u hj=>by
      rw[tj]at hj;split at hj
      ·rw[Fw]at hj;rw[tt];exact kA _ _ hj
      ·cases hj) hd iW (by rw[hi];simp;omega)
   ·cases hv
  ·rename_i iW;obtain⟨u',oB,PZ⟩:=e7.get _ _ hv;refine⟨u',⟨b,o+off,none⟩,he,PZ,?_⟩;have aFg:(isAgg t).run P w=.ok false w:=by unfold isAgg;rw[H3,iI hd w];cases d<;>first|rfl|(simp[TypeDesc.isRow]at iW)
   simp[loadVar,H3,aFg,load,Sem.run,kA _ _ oB]
 ·cases hv
theorem Wu{t:TypeId}(ho:o.op=.load t x){y:Obj}{v:i_}(hx:y.reads=true)(hv:dB P t y.cells off=some v):
  gL P B o [.pointer (some ⟨k,off,some 7⟩)] [(k,some y)] v []:=by
 intro ι c ρ w aK hm hn;rw[ho]at aK;obtain⟨u,hu,hc⟩:=lO aK;have hu:ρ x=u:=by simpa[Op.operands]using hu
 obtain⟨v',a',e,jH,o8⟩:=Ws hm (hn _ (aN ..)) hx hv hc;refine⟨ι,v',w,Map.le.refl _,jH,hm,.inl ?_⟩;simp only[execOp,ho,hu,e,Instr.loadAt,Instr.sureAddr];simp[o8]
theorem Wv{t:TypeId}{y:m_}(ho:o.op=.store t x y){z:Obj}{v:i_}{cs:ak}(hx:z.owns=true)(hv:eM P t z.cells off v=some cs):
  gL P B o [.pointer (some ⟨k,off,some 7⟩),v] [(k,some z)] undef [(k,z.La cs)]:=by
 intro ι c ρ w aK hm hn;rw[ho]at aK;obtain⟨u,u2,hu,hc,hy⟩:=iH aK;have du:ρ x=u:=by simp[Op.operands]at hu;exact hu.1
 have ew:ρ y=u2:=by simp[Op.operands]at hu;exact hu.2
 have hk:c k=some z:=hn _ (aN ..);obtain⟨b,oo,cap,hb,he⟩:=hc.ux rfl;dsimp only at hb he;unfold eM at hv;split at hv
 ·rename_i i hi;split at hv
  ·rename_i o9;injection hv with hv;simp only[cY,aX]at o9;obtain⟨⟨bE,hle⟩,Dp⟩:=o9;have bE:=PT bE;have hle:=o7 hle;have Fx:=hy.cells.length;simp only[xG]at Fx;obtain⟨h0,bH,bW,ty,lk,tn⟩:=hm.store hk hx hb hy.cells (o:=off) (by simpa using hle);subst h0;rw[jv]at he;refine⟨ι,undef,w.setCells b off u2.cells.toList,Map.le.refl _,.same rfl,by rw[<-hv];exact bH,.inr ⟨rfl,?_⟩⟩
   have run:=run_storeCells_cells (P:=P) b off u2.cells.toList 0 w
     (λj hj=>by
      simp at hj;simp only[xG]at tn;have:j+off<bW.length:=by omega
      simp[World.cell?,lk];omega)
     (λj hj=>by simp[World.frozen?,lk])
     (λv1 j8=>by
      obtain⟨j,hj⟩:=Ww j8;have av:j<v.cells.toList.length:=by
       have:j<u2.cells.toList.length:=by
        rcases eQ j u2.cells.toList.length with h|h
        ·exact h
        ·rw[xH h]at hj;cases hj
       rw[hy.cells.length];exact this
      obtain⟨v',oC,rZ⟩:=hy.cells.get j _ (bd av);rw[hj]at oC;injection oC with oC;rw[oC,rZ.Wl];exact Dp _ (eh av))
   simp only[iJ]at run;simp only[execOp,ho,du,he,ew,Instr.storeAt,Instr.sureAddr];simp[storeVar,sizeOf,typeInfo,hi,bE,<-Fx,run]
  ·cases hv
 ·cases hv
theorem Wx(ho:o.op=.move x\/o.op=.assign x){v:i_}:gL P B o [v] [] v []:=by
 intro ι c ρ w aK hm hn;have xI:o.op.operands=#[x]:=by rcases ho with ho|ho<;>rw[ho]<;>rfl
 rw[xI]at aK;obtain⟨u,hu,hc⟩:=lO aK;have hu:ρ x=u:=by simpa using hu
 refine⟨ι,u,w,Map.le.refl _,hc,hm,.inl ?_⟩;rcases ho with ho|ho<;>simp[execOp,ho,hu]
theorem H4{R:α->β->Prop}{a a2 a3:α}{m:List β}(h:bJ R [a,a2,a3] m):∃ b b2 b3,m=[b,b2,b3]/\R a b/\R a2 b2/\R a3 b3:=by cases h with|cons h t=>obtain⟨b2,b3,rfl,h2,h3⟩:=iH t;exact⟨_,_,_,rfl,h,h2,h3⟩
theorem aFh{y z:m_}(ho:o.op=.pick x y z){b:Bool}{v1 v2:i_}:gL P B o [.bool b,v1,v2] [] (if b then v1 else v2) []:=by
 intro ι c ρ w aK hm hn;rw[ho]at aK;obtain⟨u0,u1,u2,hu,h0,h1,h2⟩:=H4 aK;simp[Op.operands]at hu;obtain⟨e0,e1,e2⟩:=hu;have h0:=h0.bool;cases b
 ·exact⟨ι,u2,w,Map.le.refl _,h2,hm,.inl (by simp[execOp,ho,e0,e1,e2,h0,asBool])⟩
 ·exact⟨ι,u1,w,Map.le.refl _,h1,hm,.inl (by simp[execOp,ho,e0,e1,e2,h0,asBool])⟩
theorem Wy(hm:aI B ι c w)(hk:c k=none)(cs bW:ak)(ty:TypeId)(hc:bJ (aG ι) cs bW):
  aI B (dy ι k (.at w.heap.size 0 0)) (aT c k (.aH cs ty)) (w.alloc (.cells bW.toArray ty (0,0))):=by
 have hle:=fZ (l:=.at w.heap.size 0 0) (hm.dp k hk)
 exact hm.new (w':=w.alloc (.cells bW.toArray ty (0,0))) (x:=.aH cs ty) (l:=.at w.heap.size 0 0) ⟨⟨rfl,aZ _⟩,rfl,rfl,by simp,λj hj=>P0 _ _ _ hj⟩ hk
  ⟨_,bW,rfl,mC hle hc,by show(w.heap.push _)[w.heap.size]?=_;simp⟩ (λb o cap _ e=>by injection e with e1 e2;subst e1;simp) n_ rfl
theorem aFi{t:TypeId}(ho:o.op=.alloc t){i:TypeInfo}{z:i_}(hi:P.info? t=some i)(hz:i.zero=some z)(hf:flat z=true)(k:Nat):
  gL P B o [] [(k,none)] (.pointer (some ⟨k,0,some 7⟩)) [(k,.aH z.cells.toList t)]:=by
 intro ι c ρ w aK hm hn;have hk:c k=none:=hn _ (aN ..);refine⟨_,.pointer (some ⟨w.heap.size,0,none⟩),_,fZ (hm.dp k hk),.ptr (o:=0) (off:=0) (fj _ _ _),Wy hm hk z.cells.toList z.cells.toList t ((aG.same hf:aG ι z z).cells),.inl ?_⟩;simp[execOp,ho,Instr.alloc,zeroValue,typeInfo,hi,hz,newVar,newRow,newObj,Sem.run]
theorem aFj{t:TypeId}(ho:o.op=.box t x)(v:i_)(k:Nat):
  gL P B o [v] [(k,none)] (.pointer (some ⟨k,0,some 7⟩)) [(k,.aH v.cells.toList t)]:=by
 intro ι c ρ w aK hm hn;have hk:c k=none:=hn _ (aN ..);rw[ho]at aK;obtain⟨u,hu,hc⟩:=lO aK;have hu:ρ x=u:=by simpa[Op.operands]using hu
 refine⟨_,.pointer (some ⟨w.heap.size,0,none⟩),_,fZ (hm.dp k hk),.ptr (o:=0) (off:=0) (fj _ _ _),Wy hm hk v.cells.toList u.cells.toList t hc.cells,.inl ?_⟩;simp[execOp,ho,hu,Instr.box,newVar,newRow,newObj,Sem.run]
theorem aFk{s:TypeId}{f:Nat}(ho:o.op=.fieldAddr s x f){fs:Array Field}{fd:Field}{i:TypeInfo}(hs:P.underlying s=some (.struct fs))(uB:fs[f]?=some fd)
  (hi:P.info? fd.type=some i) (bE:1<=i.size) (k off:Nat) :
  gL P B o [.pointer (some ⟨k,off,some 7⟩)] [] (.pointer (some ⟨k,off+fd.offset,some 7⟩)) []:=by
 intro ι c ρ w aK hm hn;rw[ho]at aK;obtain⟨u,hu,hc⟩:=lO aK;have hu:ρ x=u:=by simpa[Op.operands]using hu
 obtain⟨b,oo,cap,hb,he⟩:=hc.ux rfl;have aY:i.size≠0:=by omega
 refine⟨ι,.pointer (some ⟨b,oo+(off+fd.offset),none⟩),w,Map.le.refl _,.ptr hb,hm,.inl ?_⟩;simp only[execOp,ho,hu,he];simp[Instr.fieldAt,Instr.sureAddr,iI hs,uB,fieldPlace,sizeOf,typeInfo,hi,aY,xJ,tt]
theorem aFl{t:TypeId}{ix:m_}(ho:o.op=.indexAddr t x ix){e:TypeId}{i:TypeInfo}(ht:P.underlying t=some (.array len e))(hi:P.info? e=some i)
  {kd:IntKind} {n:Int} (h0:0<=n) (h1:n<len) (k off:Nat) :
  gL P B o [.pointer (some ⟨k,off,some 7⟩),.int kd n] [] (.pointer (some ⟨k,off+n.toNat*i.size,some 7⟩)) []:=by
 intro ι c ρ w aK hm hn;rw[ho]at aK;obtain⟨u,u2,hu,hc,hx⟩:=iH aK;have du:ρ x=u:=by simp[Op.operands]at hu;exact hu.1
 have ew:ρ ix=u2:=by simp[Op.operands]at hu;exact hu.2
 have hx:=hx.eW rfl;obtain⟨b,oo,cap,hb,he⟩:=hc.ux rfl;refine⟨ι,.pointer (some ⟨b,oo+(off+n.toNat*i.size),none⟩),w,Map.le.refl _,.ptr hb,hm,.inl ?_⟩;simp only[execOp,ho,du,he,ew,hx];simp[Instr.indexAt,Instr.sureAddr,asIntOf,iI ht,sizeOf,typeInfo,hi,h0,h1,xJ,tt]
theorem Wz{t:TypeId}{ix:m_}(ho:o.op=.indexAddr t x ix){e:TypeId}{i:TypeInfo}(ht:P.underlying t=some (.slice e))(hi:P.info? e=some i)
  {kd:IntKind} {n:Int} {len cc:Nat} (h0:0<=n) (h1:n<len) (k off:Nat) :
  gL P B o [.slice (some ⟨k,off,some 7⟩) len cc,.int kd n] [] (.pointer (some ⟨k,off+n.toNat*i.size,some 7⟩)) []:=by
 intro ι c ρ w aK hm hn;rw[ho]at aK;obtain⟨u,u2,hu,hc,hx⟩:=iH aK;have du:ρ x=u:=by simp[Op.operands]at hu;exact hu.1
 have ew:ρ ix=u2:=by simp[Op.operands]at hu;exact hu.2
 have hx:=hx.eW rfl;rcases hc.gK rfl with ⟨_,h,_⟩|⟨b,oo,cap,c',hb,_,_,he⟩
 ·omega
 ·refine⟨ι,.pointer (some ⟨b,oo+(off+n.toNat*i.size),none⟩),w,Map.le.refl _,.ptr hb,hm,.inl ?_⟩;simp only[execOp,ho,du,he,ew,hx];simp[Instr.indexAt,asIntOf,iI ht,sizeOf,typeInfo,hi,h0,h1,xJ,tt]
theorem aFm(ho:o.op=.extract x i){vs:p_}{v:i_}(hv:vs[i]?=some v):gL P B o [.tuple vs] [] v []:=by
 intro ι c ρ w aK hm hn;rw[ho]at aK;obtain⟨u,hu,hc⟩:=lO aK;have hu:ρ x=u:=by simpa[Op.operands]using hu
 obtain⟨cU,he,aU⟩:=hc.tg;obtain⟨v',oC,rZ⟩:=aU.get i v (by simpa using hv);refine⟨ι,v',w,Map.le.refl _,rZ,hm,.inl ?_⟩;have aFn:cU[i]?=some v':=by simpa using oC
 simp only[execOp,ho,hu,he];simp[Instr.extract,aFn]
theorem aFo{f:Fn}{fi ca:Array Operand}(ho:o.op=.makeFunc f fi ca):gL P B o vs [] (.func f (vs.take fi.size).toArray (vs.drop fi.size).toArray) []:=by intro ι c ρ w aK hm hn;rw[ho]at aK;simp only[Op.operands,Array.toList_append,vC]at aK;have h1:=aK.take fi.size;have h2:=aK.drop fi.size;rw[P1 s_]at h1;rw[P2 s_]at h2;refine⟨ι,_,w,Map.le.refl _,.fn h1 h2,hm,.inl ?_⟩;simp[execOp,ho,Instr.makeFunc,<-Array.toList_map]
theorem aFp{t:TypeId}{e:TypeId}(ho:o.op=.call { callee:=.builtin .len,args:=#[x],argTypes:=#[t]})(ht:P.underlying t=some (.slice e))(k off n cc:Nat):
  gL P B o [.slice (some ⟨k,off,some 7⟩) n cc] [] (.int .i64 n) []:=by
 intro ι c ρ w aK hm hn;rw[ho]at aK;obtain⟨u,hu,hc⟩:=lO aK;have hu:ρ x=u:=by simpa[Op.operands,Call.operands]using hu
 refine⟨ι,.int .i64 n,w,Map.le.refl _,.same rfl,hm,.inl ?_⟩;rcases hc.gK rfl with ⟨_,h,_,_,he⟩|⟨b,oo,cap,c',hb,_,_,he⟩
 ·subst h;simp[execOp,ho,resolve,invoke,builtin,Builtin.len_,hu,he,iI ht,goInt]
 ·simp[execOp,ho,resolve,invoke,builtin,Builtin.len_,hu,he,iI ht,goInt]
def Lc{α:Type}(P:j_):Sem α->Option α
 |.pure a=>some a
 |.program k=>Lc P (k P)
 |.mark _ k=>Lc P k
 |_=>none
theorem P3{α:Type}{P:j_}:∀{e:Sem α} {a:α},Lc P e=some a->∀ w,e.run P w=.ok a w
 |.pure _,a,h,w=>by injection h with h;subst h;rfl
 |.program k,a,h,w=>by rw[Sem.run];exact P3 (e:=k P) h w
 |.mark _ k,a,h,w=>by rw[Sem.run];exact P3 (e:=k) h w
 |.load _ _ _,_,h,_=>by cases h
 |.store _ _ _ _,_,h,_=>by cases h
 |.new _ _,_,h,_=>by cases h
 |.shape _ _,_,h,_=>by cases h
 |.freeze _ _ _,_,h,_=>by cases h
 |.frozen _ _,_,h,_=>by cases h
 |.getObj _ _,_,h,_=>by cases h
 |.setObj _ _ _,_,h,_=>by cases h
 |.choose _ _,_,h,_=>by cases h
 |.sys _ _,_,h,_=>by cases h
 |.halt _,_,h,_=>by cases h
theorem mD{l l':ak}(h:bJ (aG ι) l l')(hf:∀ v∈l,flat v=true):l'=l:=by
 induction h with
 |nil=>rfl
 |cons h t ih=>rw[h.eW (hf _ (aN ..)),ih λv hv=>hf v (bB _ hv)]
theorem Bl{val:i_}(P4:∀ v∈eg,flat v=true)(hf:flat val=true)
  (h:∀ ρ:Operand->Value,o.op.operands.toList.map ρ=eg->∀ w,B.G w->(execOp ρ o).run P w=.ok (.value val) w):gL P B o eg [] val []:=by
 intro ι c ρ w aK hm hn;exact⟨ι,val,w,Map.le.refl _,.same hf,hm,.inl (h ρ (mD aK P4) w hm.base)⟩
end
section
variable{P:j_}{B:ae}{o:Oper}
def bound(x:Option Operand)(n:Nat):ak:=match x with|some _=>[.int .i64 n]|none=>[]
theorem aFq{t:TypeId}{lo hi:Option Operand}(ho:o.op=.slice t x lo hi none){e:TypeId}{i:TypeInfo}(ht:P.underlying t=some (.slice e))(zr:P.info? e=some i)
  {k off n cc l h:Nat} (hl:lo=none->l=0) (hh:hi=none->h=n) (Ld:l<=h) (WA:h<=n) (hz:l<h\/l=0) :
  gL P B o (.slice (some ⟨k,off,some 7⟩) n cc::(bound lo l++bound hi h)) [] (.slice (some ⟨k,off+l*i.size,some 7⟩) (h-l) (cc+l)) []:=by
 intro ι c ρ w aK hm hn;rw[ho]at aK;have hb:∀(x:Option Operand) (q:Nat),bJ (aG ι) (bound x q) ((x.toArray).toList.map ρ)->∀ y,x=some y->ρ y=.int .i64 q:=by
  intro x q h y hy;subst hy;obtain⟨u,hu,hc⟩:=lO h;have hu:ρ y=u:=by simpa using hu
  rw[hu];exact hc.eW rfl
 have xI:(Op.operands (.slice t x lo hi none)).toList.map ρ=ρ x::(lo.toArray.toList.map ρ++hi.toArray.toList.map ρ):=by simp[Op.operands]
 rw[xI]at aK;cases aK with
 |cons hc qS=>
 have hlen:(bound lo l).length=(lo.toArray.toList.map ρ).length:=by cases lo<;>rfl
 have h1:bJ (aG ι) (bound lo l) (lo.toArray.toList.map ρ):=by have:=qS.take (bound lo l).length;rwa[P5,hlen,P5]at this
 have h2:bJ (aG ι) (bound hi h) (hi.toArray.toList.map ρ):=by have:=qS.drop (bound lo l).length;rwa[List.drop_left,hlen,List.drop_left]at this
 have ep:∀ y,lo=some y->ρ y=.int .i64 l:=hb lo l h1;have gT:∀ y,hi=some y->ρ y=.int .i64 h:=hb hi h h2;have uC:∀(y:Nat) (q:Nat) (code:BoundsCode),q<=y->(Instr.sliceBound (.int .i64 q) y code).run P w=.ok q w:=by intro y q code hq;have:(0:Int)<=q/\(q:Int)<=y:=⟨by omega,by omega⟩;simp[Instr.sliceBound,asIntOf,this]
 have P6:∀ cap,n<=cap->(Instr.sliceBounds true n cap (lo.map ρ) (hi.map ρ) none).run P w=.ok (l,h,cap) w:=by
  intro cap jf;cases lo with
  |none=>
   have:=hl rfl;subst this;cases hi with
   |none=>have:=hh rfl;subst this;simp[Instr.sliceBounds]
   |some y=>simp[Instr.sliceBounds,gT y rfl,uC cap h _ o_]
  |some x=>
   cases hi with
   |none=>have:=hh rfl;subst this;simp[Instr.sliceBounds,ep x rfl,uC h l _ Ld]
   |some y=>simp[Instr.sliceBounds,gT y rfl,ep x rfl,uC cap h _ o_,uC h l _ Ld]
 rcases hc.gK rfl with ⟨hb,jV,pa,xK,he⟩|⟨b,oo,cap,c',hb,kQ,lP,he⟩
 ·dsimp only at xK;have hh0:h=0:=by omega
  have r5:l=0:=by omega
  subst jV;subst pa;subst xK;subst hh0;subst r5;refine⟨ι,.slice none 0 0,w,Map.le.refl _,by simpa using aG.slcN hb,hm,.inl ?_⟩;simp only[execOp,ho];simp[Instr.sliceAt,iI ht,Instr.slice,he,P6 0 (aZ _),sizeOf,typeInfo,zr]
 ·refine⟨ι,.slice (some ⟨b,oo+(off+l*i.size),none⟩) (h-l) (c'-l),w,Map.le.refl _,.slc hb o_ o_,hm,.inl ?_⟩;simp only[execOp,ho];by_cases ga:c'=l
  ·have r5:l=0:=by omega
   simp[Instr.sliceAt,iI ht,Instr.slice,he,P6 c' kQ,sizeOf,typeInfo,zr,r5,xJ,tt]
  ·simp[Instr.sliceAt,iI ht,Instr.slice,he,P6 c' kQ,sizeOf,typeInfo,zr,ga,xJ,tt]
theorem WB{t:TypeId}{y:m_}(ho:o.op=.makeSlice t x y){e:TypeId}{i:TypeInfo}{z:i_}(ht:P.underlying t=some (.slice e))(hi:P.info? e=some i)(hz:i.zero=some z)
  {kl kc:IntKind} {l cp:Nat} (hlc:l<=cp) (Bm:i.bytes*cp<=281474976710656) (h63:cp<=maxLen) {cells:ak} (jI:(madeCells z.cells (cp*i.size)).toList.take (l*i.size)=cells)
  (hlen:cells.length=l*i.size) (cA:∀ v∈cells,flat v=true) (k:Nat) :
  gL P B o [.int kl l,.int kc cp] [(k,none)] (.slice (some ⟨k,0,some 7⟩) l 0) [(k,.row cells e i.size)]:=by
 intro ι c ρ w aK hm hn;have hk:c k=none:=hn _ (aN ..);rw[ho]at aK;obtain⟨u,u2,hu,hc,hx⟩:=iH aK;have du:ρ x=u:=by simp[Op.operands]at hu;exact hu.1
 have ew:ρ y=u2:=by simp[Op.operands]at hu;exact hu.2
 have hc:=hc.eW rfl;have hx:=hx.eW rfl;have hle:=fZ (l:=.at w.heap.size 0 cp) (hm.dp k hk);have hr:=run_make (P:=P) w t e i z ht hi hz kl kc l cp o_ o_ (by
  have h:((i.bytes*cp:Nat):Int)<=281474976710656:=by omega
  rwa[nh]at h) (by have h:=h63;simp[maxLen]at h;omega)
 simp only[Int.toNat_natCast]at hr;refine⟨dy ι k (.at w.heap.size 0 cp),.slice (some ⟨w.heap.size,0,none⟩) l cp,w.alloc (.cells (madeCells z.cells (cp*i.size)) e),hle,.slc (o:=0) (off:=0) (fj _ _ _) hlc o_,?_,.inl ?_⟩
 ·refine hm.new (w':=w.alloc (.cells (madeCells z.cells (cp*i.size)) e)) (x:=.row cells e i.size) ⟨⟨rfl,aZ _⟩,rfl,rfl,by simp,λj hj=>P0 _ _ _ hj⟩ hk
   (.inr ⟨w.heap.size,cp,_,rfl,by show(w.heap.push _)[w.heap.size]?=_;simp;rfl,h63,size_madeCells _ _,?_⟩) (λb o cap _ e=>by injection e with e1 e2;subst e1;simp) n_ rfl
  rw[hlen,jI];exact j7 cA
 ·simp only[execOp,ho,du,ew,hc,hx];simp[hr]
def Bn(B:ae)(sv:i_)(m:Nat)(news:ak)(need:List (Nat×Option Obj)):Prop:=
 ∀(ι:Map) (c:Nat->Option Obj) (w:h_) (u:i_),aI B ι c w->(∀ p∈need,c p.1=p.2)->aG ι sv u->
  (m=0/\news=[]/\u=.slice none 0 0)\/∃ ad c' ll,u=.slice (some ad) m c'/\bJ (aG ι) news ll/\∀ j v,ll[j]?=some v->w.cell? (ad.add j)=some v
theorem Le{x:Obj}(hx:x.reads=true)(h0:m=0->len=0):Bn B (.slice (some ⟨k,off,some 7⟩) m cc) m ((x.cells.drop off).take len) [(k,some x)]:=by
 intro ι c w u hm hn hc;have hk:c k=some x:=hn _ (aN ..);rcases hc.gK rfl with ⟨hb,jV,pa,xK,he⟩|⟨b,oo,cap,c',hb,kQ,lP,he⟩
 ·refine .inl ⟨jV,?_,he⟩;rw[h0 jV];rfl
 ·dsimp only at hb he;obtain⟨l,h1,h2⟩:=hm.born k x hk;rw[hb]at h1;injection h1 with h1;subst h1;obtain⟨bW,e7,kA⟩:=h2.at hx;refine .inr ⟨⟨b,oo+off,none⟩,c',_,he,(e7.drop off).take len,λj v hj=>?_⟩;rw[tj]at hj;split at hj
  ·rw[Fw]at hj;rw[xJ,tt];exact kA _ _ hj
  ·cases hj
theorem Fy(hm:aI B ι c w)(hk:c k=none){cells:ak}{rest:p_}(hc:bJ (aG ι) cells cells')
  (jf:cap<=maxLen) (bE:cells'.length+rest.size=cap*size) :
  aI B (dy ι k (.at w.heap.size 0 cap)) (aT c k (.row cells ty size)) (w.alloc (.cells (cells'.toArray++rest) ty)):=by
 have hle:=fZ (l:=.at w.heap.size 0 cap) (hm.dp k hk)
 refine hm.new (w':=w.alloc (.cells (cells'.toArray++rest) ty)) (x:=.row cells ty size) ⟨⟨rfl,aZ _⟩,rfl,rfl,by simp,λj hj=>P0 _ _ _ hj⟩ hk
  (.inr ⟨w.heap.size,cap,cells'.toArray++rest,rfl,by show(w.heap.push _)[w.heap.size]?=_;simp,jf,by simpa using bE,?_⟩) (λb o cap _ e=>by injection e with e1 e2;subst e1;simp) n_ rfl
 rw[hc.length,Array.toList_append];show bJ _ _ (List.take cells'.length (cells'++rest.toList));rw[P5];exact mC hle hc
theorem aFr{l l':ak}(h:bJ (aG ι) l l')(h1:∀ v∈l,v.oneCell'=true):∀ v∈l',v.oneCell'=true:=by intro v hv;obtain⟨j,hj⟩:=Ww hv;obtain⟨u,hu,hc⟩:=h.get' j v hj;rw[hc.Wl];exact h1 u (cL hu)
theorem aFs{s:m_}{t:TypeId}(ho:o.op=.call { callee:=.builtin .append,args:=#[s,x],argTypes:=#[t,t]})
  {e:TypeId} {i:TypeInfo} {z:i_} (ht:P.underlying t=some (.slice e)) (hi:P.info? e=some i) (hz:i.zero=some z) (Lf:z.cells.size=i.size) (bE:0<i.size)
  {sv:i_} {m:Nat} {news:ak} {need:List (Nat×Option Obj)} (xL:Bn B sv m news need) (hl:news.length=m*i.size)
  (h63:m<=maxLen) (Bm:m*i.bytes<=140737488355328) (k:Nat) :
  gL P B o [.slice none 0 0,sv] ((k,none)::need) (.slice (some ⟨k,0,some 7⟩) m 0) [(k,.row news e i.size)]:=by
 intro ι c ρ w aK hm hn;have hk:c k=none:=hn _ (aN ..);rw[ho]at aK;obtain⟨u,u2,hu,hc,hx⟩:=iH aK;have du:ρ s=u:=by simp[Op.operands,Call.operands]at hu;exact hu.1
 have ew:ρ x=u2:=by simp[Op.operands,Call.operands]at hu;exact hu.2
 have hc:=hc.eW rfl;have H5:m=0->(Builtin.append_ #[t,t] o.type #[u,u2]).run P w=.ok (.slice none 0 0) w->
   ∃ ao v' w',Map.le ι ao/\aG ao (.slice (some ⟨k,0,some 7⟩) m 0) v'/\aI B ao (kP c [(k,.row news e i.size)]) w'/\((execOp ρ o).run P w=.ok (.value v') w'\/(v'=undef/\(execOp ρ o).run P w=.ok .skip w')):=by
  intro jJ hr;subst jJ;have jV:news=[]:=j9 (by simpa using hl);subst jV;refine⟨dy ι k .nil,.slice none 0 0,w,fZ (hm.dp k hk),.slcN (fj _ _ _),hm.add hk (.inl ⟨rfl,rfl⟩) n_ n_ n_,.inl ?_⟩;simp[execOp,ho,resolve,invoke,builtin,du,ew,hr]
 rcases xL ι c w u2 hm (λp hp=>hn p (bB _ hp)) hx with ⟨h1,h2,h3⟩|⟨ad,c',ll,h1,h2,h3⟩
 ·refine H5 h1 ?_;rw[hc,h3];simp[Builtin.append_,iI ht,sizeOf,typeInfo,hi,Builtin.lenOf,Builtin.firstCells]
 ·have cW:ll.length=m*i.size:=by rw[<-h2.length];exact hl
  by_cases jJ:m=0
  ·refine H5 jJ ?_;rw[hc,h1,jJ];simp[Builtin.append_,iI ht,sizeOf,typeInfo,hi,Builtin.lenOf,Builtin.firstCells,loadCells,loadCellsFrom]
  ·have hr:=run_append_nil (P:=P) w t o.type e i z ht hi hz ad m c' ll cW h3 o_ (by have h:=h63;simp[maxLen]at h;omega) o_;have fJ:=grownCap_ge w m 0 e;have dC:=WC w m 0 e h63;have bh:aI B ι c w.drew:=hm.call ⟨⟨rfl,xM _⟩,rfl,rfl,aZ _,λ_ _=>rfl⟩;have iw:=Fy (ty:=e) (size:=i.size) (cap:=grownCap w m 0 e) (rest:=Builtin.zeroCells z.cells (grownCap w m 0 e-m)) bh hk h2 dC (by
    have h:=Lg z.cells (grownCap w m 0 e-m);rw[cW,h,Lf,<-e8]
    congr 1;omega)
   refine⟨_,_,_,fZ (hm.dp k hk),.slc (o:=0) (off:=0) (fj _ _ _) fJ o_,iw,.inl ?_⟩;rw[<-hc,<-h1]at hr;simp[execOp,ho,resolve,invoke,builtin,du,ew,hr]
theorem aFt{s:m_}{t:TypeId}(ho:o.op=.call { callee:=.builtin .append,args:=#[s,x],argTypes:=#[t,t]})
  {e:TypeId} {i:TypeInfo} {z:i_} (ht:P.underlying t=some (.slice e)) (hi:P.info? e=some i) (hz:i.zero=some z) (Lf:z.cells.size=i.size) (bE:0<i.size)
  {sv:i_} {m:Nat} {news:ak} {need:List (Nat×Option Obj)} (xL:Bn B sv m news need) (hl:news.length=m*i.size) (P7:∀ v∈news,v.oneCell'=true)
  {j n:Nat} {cells:ak} (nL:n*i.size<=cells.length) (h63:n+m<=maxLen) (Bm:(n+m)*i.bytes<=140737488355328) (k:Nat) :
  gL P B o [.slice (some ⟨j,0,some 7⟩) n 0,sv] ((k,none)::(j,some (.row cells e i.size))::need) (.slice (some ⟨k,0,some 7⟩) (n+m) 0)
   [(k,.row (cells.take (n*i.size)++news) e i.size),(j,.dead)]:=by
 intro ι c ρ w aK hm hn;have hk:c k=none:=hn _ (aN ..);have hj:c j=some (.row cells e i.size):=hn _ (bB _ (aN ..));have hkj:j≠k:=λe=>by rw[e,hk]at hj;cases hj
 have gM:aT c j .dead k=none:=by unfold aT;rw[al (lQ hkj)];exact hk
 rw[ho]at aK;obtain⟨u,u2,hu,hc,hx⟩:=iH aK;have du:ρ s=u:=by simp[Op.operands,Call.operands]at hu;exact hu.1
 have ew:ρ x=u2:=by simp[Op.operands,Call.operands]at hu;exact hu.2
 have ex:∀ v' w',(Builtin.append_ #[t,t] o.type #[u,u2]).run P w=.ok v' w'->(execOp ρ o).run P w=.ok (.value v') w':=by intro v' w' hr;simp[execOp,ho,resolve,invoke,builtin,du,ew,hr]
 have Bo:aI B ι (aT c j .dead) w:=hm.kill j (by rw[hj];exact n_);rcases hc.gK rfl with ⟨hb,jV,_,_,he⟩|⟨b,oo,cap,c',hb,kQ,lP,he⟩
 ·-- nothing is there yet
  subst jV;subst he;have P8:=xL ι c w u2 hm (λp hp=>hn p (bB _ (bB _ hp))) hx;have zt:cells.take (0*i.size)=[]:=by simp
  rw[zt,jg,jv];simp only[jv]at h63 Bm;have H5:m=0->(Builtin.append_ #[t,t] o.type #[.slice none 0 0,u2]).run P w=.ok (.slice none 0 0) w->
    ∃ ao v' w',Map.le ι ao/\aG ao (.slice (some ⟨k,0,some 7⟩) m 0) v'/\aI B ao (kP c [(k,.row news e i.size),(j,.dead)]) w'/\((execOp ρ o).run P w=.ok (.value v') w'\/(v'=undef/\(execOp ρ o).run P w=.ok .skip w')):=by
   intro jJ hr;subst jJ;have jV:news=[]:=j9 (by simpa using hl);subst jV;exact⟨dy ι k .nil,.slice none 0 0,w,fZ (hm.dp k hk),.slcN (fj _ _ _),Bo.add gM (.inl ⟨rfl,rfl⟩) n_ n_ n_,.inl (ex _ _ hr)⟩
  rcases P8 with ⟨h1,h2,h3⟩|⟨ad,c',ll,h1,h2,h3⟩
  ·refine H5 h1 ?_;rw[h3];simp[Builtin.append_,iI ht,sizeOf,typeInfo,hi,Builtin.lenOf,Builtin.firstCells]
  ·have cW:ll.length=m*i.size:=by rw[<-h2.length];exact hl
   by_cases jJ:m=0
   ·refine H5 jJ ?_;rw[h1,jJ];simp[Builtin.append_,iI ht,sizeOf,typeInfo,hi,Builtin.lenOf,Builtin.firstCells,loadCells,loadCellsFrom]
   ·have hr:=run_append_nil (P:=P) w t o.type e i z ht hi hz ad m c' ll cW h3 o_ (by have h:=h63;simp[maxLen]at h;omega) o_;have fJ:=grownCap_ge w m 0 e;have dC:=WC w m 0 e h63;have bh:aI B ι (aT c j .dead) w.drew:=Bo.call ⟨⟨rfl,xM _⟩,rfl,rfl,aZ _,λ_ _=>rfl⟩;have iw:=Fy (ty:=e) (size:=i.size) (cap:=grownCap w m 0 e) (rest:=Builtin.zeroCells z.cells (grownCap w m 0 e-m)) bh gM h2 dC (by
     have h:=Lg z.cells (grownCap w m 0 e-m);rw[cW,h,Lf,<-e8]
     congr 1;omega)
    refine⟨_,_,_,fZ (hm.dp k hk),.slc (o:=0) (off:=0) (fj _ _ _) fJ o_,iw,.inl (ex _ _ ?_)⟩;rw[h1,hr];rfl
 ·-- a row
  dsimp only at hb he;subst he;have lR:c'=cap:=by omega
  subst lR;obtain⟨l,q1,q2⟩:=hm.born j _ hj;rw[hb]at q1;injection q1 with q1;subst q1;rcases q2 with q2|⟨b',bf,cur,e1,lk,dC,e7,jI⟩
  ·cases q2.1
  injection e1 with e1 e2 e3;subst e1;subst e2;subst e3;have ga:cells.length<=cur.size:=by have:=jI.length;rw[je,xG]at this;change cells.length=min cells.length cur.size at this;omega
  have Lh:bJ (aG ι) (cells.take (n*i.size)) (cur.toList.take (n*i.size)):=by have:=jI.take (n*i.size);rwa[Li,mE nL]at this
  have holds:∀(jj:Nat) (v:i_),(cur.toList.take (n*i.size))[jj]?=some v->w.cell? ((⟨b,0,none⟩:Addr).add jj)=some v:=by
   intro jj v hv;rw[tj]at hv;split at hv
   ·have oC:cur[jj]?=some v:=by simpa using hv
    simp[World.cell?,xJ,lk,oC]
   ·cases hv
  have ep:(cur.toList.take (n*i.size)).length=n*i.size:=by rw[je,xG];omega
  -- the source
  have P8:∃ ad c' ll,u2=.slice ad m c'/\bJ (aG ι) news ll/\(ad=none->m=0/\c'=0)/\∀ a,ad=some a->∀ j v,ll[j]?=some v->w.cell? (a.add j)=some v:=by
   rcases xL ι c w u2 hm (λp hp=>hn p (bB _ (bB _ hp))) hx with ⟨h1,h2,h3⟩|⟨ad,c',ll,h1,h2,h3⟩
   ·subst h1;subst h2;exact⟨none,0,[],h3,.nil,λ_=>⟨rfl,rfl⟩,λa e=>by cases e⟩
   ·exact⟨some ad,c',ll,h1,h2,λe=>(by cases e),λa e=>by injection e with e;subst e;exact h3⟩
  obtain⟨ad,c2,ll,P9,Dq,Lj,kA⟩:=P8;have cW:ll.length=m*i.size:=by rw[<-Dq.length];exact hl
  have ek:=hm.own j _ b 0 c' hj rfl hb
  -- where the block is kept
  have jd:∀ w' (fv:p_),rY w w'->w'.tape=w.tape->w'.output=w.output->w.heap.size<=w'.heap.size->(∀ q,q≠b->w'.heap[q]?=w.heap[q]?)->w'.heap[b]?=some (.cells fv e (0,0))->
    fv.size=c'*i.size->fv.toList.take (n*i.size+m*i.size)=cur.toList.take (n*i.size)++ll->n+m<=c'->(Builtin.append_ #[t,t] o.type #[.slice (some ⟨b,0,none⟩) n c',u2]).run P w=.ok (.slice (some ⟨b,0,none⟩) (n+m) c') w'->
    ∃ ao v' w',Map.le ι ao/\aG ao (.slice (some ⟨k,0,some 7⟩) (n+m) 0) v'/\aI B ao (kP c [(k,.row (cells.take (n*i.size)++news) e i.size),(j,.dead)]) w'/\((execOp ρ o).run P w=.ok (.value v') w'\/(v'=undef/\(execOp ρ o).run P w=.ok .skip w')):=by
   intro w' fv p1 p2 p3 p4 p5 p6 p7 p8 p9 hr;have hle:=fZ (l:=.at b 0 c') (hm.dp k hk);have cP:aI B ι (aT c j .dead) w':=hm.write hj rfl hb p1 p2 p3 p4 (λq _ hq=>p5 q hq) trivial n_ rfl;refine⟨dy ι k (.at b 0 c'),_,w',hle,.slc (o:=0) (off:=0) (fj _ _ _) p9 o_,cP.add gM (.inr ⟨b,c',fv,rfl,p6,dC,p7,?_⟩) (λb1 o1 kz _ e1=>?_) n_ n_,.inl (ex _ _ hr)⟩
   ·have e1:(cells.take (n*i.size)++news).length=n*i.size+m*i.size:=by rw[jW,je,hl];omega
    rw[e1,p8];exact(mC hle Lh).append (mC hle Dq)
   ·injection e1 with e1 e2;subst e1;refine⟨cy ek.1 p4,ek.2,λq y o' bf hq hy vD=>?_,λq F v hq vD=>?_,λq y o' bf hq hy vD=>?_⟩
    ·unfold aT at hq;by_cases vE:q=j
     ·rw[aq vE]at hq;injection hq with hq;subst hq;cases hy
     ·rw[al vE]at hq;exact vE (hm.inj q j y _ b o' bf 0 c' hq hy hj rfl vD hb)
    ·unfold aT at hq;by_cases vE:q=j
     ·rw[aq vE]at hq;cases hq
     ·rw[al vE]at hq;exact λhF=>hm.apart j q _ F b 0 c' v hj rfl hb hq vD (hm.Dl hq vD p4 (λk2 fT iU=>p5 k2 λe=>hm.apart j q _ F b 0 c' v hj rfl hb hq vD (e▸iU)) hF)
    ·unfold aT at hq;by_cases vE:q=j
     ·rw[aq vE]at hq;injection hq with hq;subst hq;cases hy
     ·rw[al vE]at hq;exact(hm.seen q y b o' bf hq hy vD).2 j _ 0 c' hj rfl hb
  by_cases H6:n+m<=c'
  ·cases ad with
   |none=>
    obtain⟨jJ,pa⟩:=Lj rfl;subst jJ;subst pa;have jV:ll=[]:=j9 (by simpa using cW);subst jV;refine jd w cur (.refl w) rfl rfl (aZ _) (λ_ _=>rfl) lk e7 s_ H6 ?_;rw[P9];have hr:=run_append_owned_none (P:=P) (w:=w) 0 t o.type e i i.size ht hi (.slice (some ⟨b,0,none⟩) n c') n (cur.toList.take (n*i.size)) ⟨ep,.inr ⟨b,c',cur,rfl,kB _,lk,by omega,dC,e7,rfl⟩⟩;simpa using hr
   |some a=>
    have hr:=run_append_room (P:=P) w t o.type e i ht hi b n c' cur lk a m c2 ll cW (kA a rfl) (aFr Dq P7) H6 (by rw[cW,e7,<-e8];exact eR _ H6);refine jd (w.setRow b (cur.toList.take (n*i.size)++ll++cur.toList.drop (n*i.size+ll.length)).toArray) _ ⟨rfl,aZ _⟩ rfl rfl s_ (λq hq=>setRow_other w b q _ hq) (setRow_heap w b cur _ e _ lk) ?_ ?_ H6 (by rw[P9];exact hr)
    ·have:=eR i.size H6;rw[e8]at this;simp only[Lk,jW,ep,uD,xG,cW];omega
    ·have e1:(cur.toList.take (n*i.size)++ll).length=n*i.size+m*i.size:=by rw[jW,ep,cW]
     rw[<-e1];exact P5
  ·cases ad with
   |none=>
    obtain⟨jJ,_⟩:=Lj rfl;omega
   |some a=>
    have hr:=run_append_grow (P:=P) w t o.type e i z ht hi hz ⟨b,0,none⟩ n c' _ ep holds a m c2 ll cW (kA a rfl) o_ (by have h:=h63;simp[maxLen]at h;omega) (growslice_fits o_ Bm);have fJ:=grownCap_ge w (n+m) c' e;have aFu:=WC w (n+m) c' e h63;have bh:aI B ι (aT c j .dead) w.drew:=Bo.call ⟨⟨rfl,xM _⟩,rfl,rfl,aZ _,λ_ _=>rfl⟩;have iw:=Fy (ty:=e) (size:=i.size) (cap:=grownCap w (n+m) c' e) (rest:=Builtin.zeroCells z.cells (grownCap w (n+m) c' e-(n+m))) bh gM (Lh.append Dq) aFu (by
     have h:=Lg z.cells (grownCap w (n+m) c' e-(n+m));rw[jW,ep,cW,h,Lf,<-e8,<-e8]
     congr 1;omega)
    refine⟨_,_,_,fZ (hm.dp k hk),.slc (o:=0) (off:=0) (fj _ _ _) fJ o_,iw,.inl (ex _ _ ?_)⟩;rw[P9,hr];simp
theorem WD{src dst e:TypeId}(ho:o.op=.convert src dst x)(hs:P.underlying src=some (.slice e))(he:P.underlying e=some (.int .u8))(hd:P.underlying dst=some .string)
  {k off n cc:Nat} {y:Obj} {ns:List Int} (hy:y.reads=true) (zu:(y.cells.drop off).take n=ns.map (Value.int .u8)) (hlen:ns.length=n) :
  gL P B o [.slice (some ⟨k,off,some 7⟩) n cc] [(k,some y)] (.string (ns.foldl (λr n=>r.push (UInt8.ofNat n.toNat)) ByteArray.empty)) []:=by
 intro ι c ρ w aK hm hn;rw[ho]at aK;obtain⟨u,hu,hc⟩:=lO aK;have hu:ρ x=u:=by simpa[Op.operands]using hu
 refine⟨ι,_,w,Map.le.refl _,.same rfl,hm,.inl ?_⟩;have jH:=λa l c=>run_convert_bytes_string (P:=P) w src dst e a l c hs he hd;rcases Le (B:=B) (k:=k) (off:=off) (m:=n) (cc:=cc) hy (len:=n) (λh=>h) ι c w u hm hn hc with ⟨h1,h2,h3⟩|⟨ad,c',ll,h1,h2,h3⟩
 ·subst h1;have:ns=[]:=j9 hlen;subst this;simp only[execOp,ho,hu,h3];simp[jH,Conv.bytesToString]
 ·rw[zu]at h2;have h2:=mD h2 (λv hv=>by obtain⟨q,_,rfl⟩:=dq.1 hv;rfl);subst h2;have aFv:(loadCells ad n).run P w=.ok (ns.map (Value.int .u8)).toArray w:=by have:=run_loadCells_list (P:=P) (w:=w) ad (ns.map (Value.int .u8)) h3;simpa[hlen]using this
  simp only[execOp,ho,hu,h1];simp[jH,run_bytesToString w ad n c' ns aFv]
end
def fK(look:Nat->Value):Operand->Value
 |.tmp t=>look t
 |.const v=>v
 |.global g=>.pointer (some ⟨g,0,none⟩)
 |.func f=>.func (.func f) #[] #[]
def Ll:Operand->Bool
 |.const v=>flat v
 |_=>true
structure fk(B:ae)(ι:Map)(look:Nat->Value)(N:Nat)(a:Act):Prop where
 defers:a.defers=B.ds
 size:a.tmps.size=N
 slot:∀ t,mZ ι (look t) (a.tmps.getD t undef)
theorem WE{a:Act}(hf:fk B ι look N a)(hx:Ll x=true)(hn:lN (fK look x)=false):aG ι (fK look x) (a.eval x):=by
 cases x with
 |tmp t=>exact(hf.slot t).zp hn
 |const v=>exact .same hx
 |global g=>exact .same rfl
 |func f=>exact .same rfl
theorem Qa{B:ae}{ι:Map}{look:Nat->Value}{N:Nat}{a:Act}(hf:fk B ι look N a):∀(l:List Operand),(∀ x∈l,Ll x=true/\lN (fK look x)=false)->bJ (aG ι) (l.map (fK look)) (l.map a.eval)
 |[],_=>.nil
 |x::l,h=>(.cons (WE hf (h x (aN ..)).1 (h x (aN ..)).2) (Qa hf l λy hy=>h y (bB _ hy)))
structure pW where
 val:Value
 cK:aC
 need:List (Nat×Option Obj)
variable{es:Nat->pW}
def Lm(P:j_)(look:Nat->Value)(o:Oper):Option pW:=
 if o.op.operands.toList.all (λx=>flat (fK look x))then(match Lc P (execOp (fK look) o)with
   |some (.value v)=>if flat v then some ⟨v,[],[]⟩else none
   |_=>none)else none
def WG(look:Nat->Value)(c:Call):Option (Nat×TypeId×Operand×Addr×Nat):=
 match c.callee,c.args.toList,c.argTypes.toList with
 |.builtin .len,[x],[t]=>match fK look x with
  |.slice (some ad) n cc=>if lM ad then some (n,t,x,ad,cc)else none
  |_=>none
 |_,_,_=>none
def pX(P:j_)(look:Nat->Value)(g:Nat->Option Obj)(next:Nat)(o:Oper):Option pW:=
 match o.op with
 |.move x=>some ⟨fK look x,[],[]⟩
 |.assign x=>some ⟨fK look x,[],[]⟩
 |.pick c x y=>match fK look c with
  |.bool b=>some ⟨if b then fK look x else fK look y,[],[]⟩
  |_=>none
 |.alloc t=>match P.info? t with
  |some i=>match i.zero with
   |some z=>if flat z then some ⟨.pointer (some ⟨next,0,some 7⟩),[(next,.aH z.cells.toList t)],[(next,none)]⟩else none
   |none=>none
  |none=>none
 |.box t x=>some ⟨.pointer (some ⟨next,0,some 7⟩),[(next,.aH (fK look x).cells.toList t)],[(next,none)]⟩
 |.load t x=>match fK look x with
  |.pointer (some ad)=>if lM ad then(match g ad.block with
   |some y=>if y.reads then(match dB P t y.cells ad.off with|some v=>some ⟨v,[],[(ad.block,some y)]⟩|none=>none)else none
   |none=>none)else none
  |_=>none
 |.store t x y=>match fK look x with
  |.pointer (some ad)=>if lM ad then(match g ad.block with
   |some z=>if z.owns then(match eM P t z.cells ad.off (fK look y)with|some cs=>some ⟨undef,[(ad.block,z.La cs)],[(ad.block,some z)]⟩|none=>none)else none
   |none=>none)else none
  |_=>none
 |.fieldAddr s x f=>match fK look x with
  |.pointer (some ad)=>if lM ad then(match P.underlying s with
   |some (.struct fs)=>(match fs[f]? with
    |some fd=>(match P.info? fd.type with
     |some i=>if Nat.ble 1 i.size then some ⟨.pointer (some ⟨ad.block,ad.off+fd.offset,some 7⟩),[],[]⟩else none
     |none=>none)
    |none=>none)
   |_=>none)else none
  |_=>none
 |.indexAddr t x ix=>match fK look x,fK look ix with
  |.pointer (some ad),.int _ n=>if lM ad then(match P.underlying t with
   |some (.array len e)=>(match P.info? e with
    |some i=>if 0<=n/\n<len then some ⟨.pointer (some ⟨ad.block,ad.off+n.toNat*i.size,some 7⟩),[],[]⟩else none
    |none=>none)
   |_=>none)else none
  |.slice (some ad) len _,.int _ n=>if lM ad then(match P.underlying t with
   |some (.slice e)=>(match P.info? e with
    |some i=>if 0<=n/\n<len then some ⟨.pointer (some ⟨ad.block,ad.off+n.toNat*i.size,some 7⟩),[],[]⟩else none
    |none=>none)
   |_=>none)else none
  |_,_=>none
 |.extract x i=>match fK look x with
  |.tuple vs=>(match vs[i]? with|some v=>some ⟨v,[],[]⟩|none=>none)
  |_=>none
 |.makeFunc f fi ca=>some ⟨.func f (((fi++ca).toList.map (fK look)).take fi.size).toArray (((fi++ca).toList.map (fK look)).drop fi.size).toArray,[],[]⟩
 |.call c=>match WG look c with
  |some (n,t,_)=>(match P.underlying t with|some (.slice _)=>some ⟨.int .i64 n,[],[]⟩|_=>none)
  |none=>Lm P look o
 |_=>Lm P look o
def zv(look:Nat->Value)(o:Oper):Bool:=o.op.operands.toList.all (λx=>Ll x&&!lN (fK look x))&&(match o.op with|.select _ _=>false|_=>true)
def Bp(g:Nat->Option Obj)(next:Nat)(e:pW):Prop:=(∀ p∈e.need,(∃ x,p.2=some x/\g p.1=some x)\/(p.2=none/\next<=p.1))/\∀ p∈e.cK,∃ q∈e.need,q.1=p.1
theorem Bq{a:Addr}(h:lM a=true):a=⟨a.block,a.off,some 7⟩:=by obtain⟨b,o,s⟩:=a;have:=Ft h;dsimp only at this;subst this;rfl
theorem WH{g:Nat->Option Obj}{next:Nat}{e:pW}(ax:zv look o=true)(h:pX P look g next o=some e):
  gL P B o (o.op.operands.toList.map (fK look)) e.need e.val e.cK/\Bp g next e:=by
 simp only[zv,cY,aX]at ax;obtain⟨xI,WI⟩:=ax;have tu:Bp g next ⟨e.val,[],[]⟩:=⟨λp hp=>(by cases hp),λp hp=>(by cases hp)⟩;have WJ:Lm P look o=some e->gL P B o (o.op.operands.toList.map (fK look)) e.need e.val e.cK/\Bp g next e:=by
  intro h;unfold Lm at h;split at h
  ·rename_i cA;rw[aX]at cA;split at h
   ·rename_i v hp;split at h
    ·rename_i P4;injection h with h;subst h;refine⟨Bl (λv hv=>by obtain⟨x,hx,rfl⟩:=dq.1 hv;exact cA x hx) P4 λρ fA w _=>?_,tu⟩;rw[execOp_congr (ρ:=ρ) (ρ':=fK look) o (λcs b e=>by rw[e]at WI;cases WI) (λx hx=>by obtain⟨j,hj⟩:=Ww (Ln.2 hx);have:=b9 (λl=>l[j]?) fA;simp only[xN,hj,PX]at this;injection this)]
     exact P3 hp w
    ·cases h
   ·cases h
  ·cases h
 cases bM:o.op with
 |move x=>
  simp only[pX,bM]at h;injection h with h;subst h;exact⟨Wx (.inl bM),tu⟩
 |assign x=>
  simp only[pX,bM]at h;injection h with h;subst h;exact⟨Wx (.inr bM),tu⟩
 |pick c x y=>
  simp only[pX,bM]at h;split at h
  ·rename_i b hb;injection h with h;subst h;refine⟨?_,tu⟩;have:=aFh (P:=P) (B:=B) bM (b:=b) (v1:=fK look x) (v2:=fK look y);rw[<-hb]at this;exact this
  ·cases h
 |alloc t=>
  simp only[pX,bM]at h;split at h
  ·rename_i i hi;split at h
   ·rename_i z hz;split at h
    ·rename_i WK;injection h with h;subst h;exact⟨aFi bM hi hz WK next,λp hp=>.inr (by simp at hp;subst hp;exact⟨rfl,aZ _⟩),λp hp=>⟨_,aN ..,by simp at hp;subst hp;rfl⟩⟩
    ·cases h
   ·cases h
  ·cases h
 |box t x=>
  simp only[pX,bM]at h;injection h with h;subst h;exact⟨aFj bM _ next,λp hp=>.inr (by simp at hp;subst hp;exact⟨rfl,aZ _⟩),λp hp=>⟨_,aN ..,by simp at hp;subst hp;rfl⟩⟩
 |load t x=>
  simp only[pX,bM]at h;split at h
  ·rename_i ad hx;split at h
   ·rename_i ek;split at h
    ·rename_i y hy;split at h
     ·rename_i H7;split at h
      ·rename_i v hv;injection h with h;subst h;refine⟨?_,λp hp=>.inl ⟨y,by simp at hp;subst hp;exact⟨rfl,hy⟩⟩,λp hp=>(by cases hp)⟩;have:=Wu (P:=P) (B:=B) bM (k:=ad.block) H7 hv;rw[<-Bq ek,<-hx]at this;exact this
      ·cases h
     ·cases h
    ·cases h
   ·cases h
  ·cases h
 |store t x y=>
  simp only[pX,bM]at h;split at h
  ·rename_i ad hx;split at h
   ·rename_i ek;split at h
    ·rename_i z hz;split at h
     ·rename_i hzo;split at h
      ·rename_i cs e7;injection h with h;subst h;refine⟨?_,λp hp=>.inl ⟨z,by simp at hp;subst hp;exact⟨rfl,hz⟩⟩,λp hp=>⟨_,aN ..,by simp at hp;subst hp;rfl⟩⟩;have:=Wv (P:=P) (B:=B) bM (k:=ad.block) hzo e7;rw[<-Bq ek,<-hx]at this;exact this
      ·cases h
     ·cases h
    ·cases h
   ·cases h
  ·cases h
 |fieldAddr s x f=>
  simp only[pX,bM]at h;split at h
  ·rename_i ad hx;split at h
   ·rename_i ek;split at h
    ·rename_i fs hs;split at h
     ·rename_i fd uB;split at h
      ·rename_i i hi;split at h
       ·rename_i bE;injection h with h;subst h;refine⟨?_,tu⟩;have:=aFk (P:=P) (B:=B) bM hs uB hi (o7 bE) ad.block ad.off;rw[<-Bq ek,<-hx]at this;exact this
       ·cases h
      ·cases h
     ·cases h
    ·cases h
   ·cases h
  ·cases h
 |indexAddr t x ix=>
  simp only[pX,bM]at h;split at h
  ·rename_i ad kd n hx zw;split at h
   ·rename_i ek;split at h
    ·rename_i len el ht;split at h
     ·rename_i i hi;split at h
      ·rename_i hr;injection h with h;subst h;refine⟨?_,tu⟩;have:=aFl (P:=P) (B:=B) bM ht hi (kd:=kd) hr.1 hr.2 ad.block ad.off;rw[<-Bq ek,<-hx,<-zw]at this;exact this
      ·cases h
     ·cases h
    ·cases h
   ·cases h
  ·rename_i ad len cc kd n hx zw;split at h
   ·rename_i ek;split at h
    ·rename_i el ht;split at h
     ·rename_i i hi;split at h
      ·rename_i hr;injection h with h;subst h;refine⟨?_,tu⟩;have:=Wz (P:=P) (B:=B) bM ht hi (kd:=kd) (cc:=cc) hr.1 hr.2 ad.block ad.off;rw[<-Bq ek,<-hx,<-zw]at this;exact this
      ·cases h
     ·cases h
    ·cases h
   ·cases h
  ·cases h
 |extract x i=>
  simp only[pX,bM]at h;split at h
  ·rename_i vs hx;split at h
   ·rename_i v hv;injection h with h;subst h;refine⟨?_,tu⟩;have:=aFm (P:=P) (B:=B) bM hv;rw[<-hx]at this;exact this
   ·cases h
  ·cases h
 |makeFunc f fi ca=>
  simp only[pX,bM]at h;injection h with h;subst h;exact⟨aFo bM,tu⟩
 |call c=>
  simp only[pX,bM]at h;split at h
  ·rename_i n t rest hl;obtain⟨x,ad,cc⟩:=rest;split at h
   ·rename_i el ht;injection h with h;subst h;refine⟨?_,tu⟩;unfold WG at hl;split at hl
    ·rename_i x' t' hc ha lS;split at hl
     ·rename_i WL n' bP hx;split at hl
      ·rename_i ek;injection hl with hl;injection hl with h1 hl;injection hl with h2 hl;injection hl with h3 hl;injection hl with h4 h5;subst h1;subst h2;subst h3;subst h4;subst h5;have lR:c={ callee:=.builtin .len,args:=#[x'],argTypes:=#[t']}:=by
        obtain⟨c1,c2,c3⟩:=c;dsimp only at hc ha lS;subst hc
        congr 1
        ·exact uE.1 ha
        ·exact uE.1 lS
       rw[lR]at bM ⊢;have:=aFp (P:=P) (B:=B) bM ht WL.block WL.off n' bP;rw[<-Bq ek,<-hx]at this;exact this
      ·cases hl
     ·cases hl
    ·cases hl
   ·cases h
  ·rw[<-bM];exact WJ h
 |_=>rw[<-bM];refine WJ ?_;simp only[pX,bM]at h;exact h
abbrev aL:=List (Nat×Value)
variable{fr:aL}
def bt:aL->Nat->Value
 |[],_=>Fv
 |(t,v)::l,s=>if Nat.beq t s then v else bt l s
def ah:aC->Nat->Option Obj
 |[],_=>none
 |(k,x)::l,j=>if Nat.beq k j then some x else ah l j
theorem jK(h:Nat.beq a b=true):a=b:=PT h
theorem nM(h:a≠b):Nat.beq a b=false:=by
 cases hb:Nat.beq a b with
 |false=>rfl
 |true=>exact absurd (jK hb) h
theorem vF(c:Nat->Option Obj):∀(l:aC) (k:Nat),kP c l k=match ah l k with|some x=>some x|none=>c k
 |[],k=>rfl
 |(j,x)::l,k=>by
  show(if k=j then some x else kP c l k)=match (if Nat.beq j k then some x else ah l k)with|some x=>some x|none=>c k
  by_cases h:k=j
  ·subst h;simp
  ·rw[al h,nM (lQ h)];exact vF c l k
theorem jh:∀(l m:aC) (k:Nat),ah (l++m) k=match ah l k with|some x=>some x|none=>ah m k
 |[],m,k=>rfl
 |(j,x)::l,m,k=>by
  show(if Nat.beq j k then some x else ah (l++m) k)=match (if Nat.beq j k then some x else ah l k)with|some x=>some x|none=>ah m k
  by_cases h:Nat.beq j k=true
  ·simp only[aq h]
  ·simp only[al h];exact jh l m k
theorem iy:∀{l:aC} {k:Nat} {x:Obj},ah l k=some x->(k,x)∈l
 |(j,y)::l,k,x,h=>by
  unfold ah at h;split at h
  ·rename_i hb;injection h with h;rw[jK hb,h];exact aN ..
  ·exact bB _ (iy h)
def cT(c:Nat->Option Obj)(M:aC):Prop:=∀ k x,ah M k=some x->c k=some x
def eA(c:Nat->Option Obj)(next:Nat):Prop:=∀ k,next<=k->c k=none
inductive Ex where
 |normal
 |exit (id:Nat)
 |ret
def Ex.zx:Ex->Exit
 |.normal=>.normal
 |.exit id=>.exit id
 |.ret=>.ret
def wl:Code->List Nat
 |.region _ ops _=>ops.toList.filterMap (·.dst)
 |.seq x y=>wl x++wl y
 |.cond _ x y=>wl x++wl y
 |.block _ b=>wl b
 |.loop b=>wl b
 |.scope b=>wl b
 |.rangeFunc _ ps x y=>ps.toList++(wl x++wl y)
 |_=>[]
def tv(c:Code)(t:Nat):Bool:=(wl c).any λd=>Nat.beq d t
structure kR where
 ex:Ex
 fr:aL
 M:aC
 next:Nat
variable{r1:kR}
def ag(P:j_)(B:ae)(N:Nat)(c:Code)(fr:aL)(M:aC)(next:Nat)(r:kR):Prop:=
 ∀(R:Option Nat) (ι:Map) (cc:Nat->Option Obj) (a:Act) (w:h_) (Q:Exit->Act->World->Prop),fk B ι (bt fr) N a->aI B ι cc w->cT cc M->eA cc next->
  (∀ ao bP a' w',Map.le ι ao->fk B ao (bt r.fr) N a'->aI B ao bP w'->cT bP r.M->eA bP r.next->(∀ k,k<next->ah M k=none->bP k=cc k)->(∀ t,tv c t=false->a'.tmps.getD t undef=a.tmps.getD t undef)->Q r.ex.zx a' w')->c.wpIn (FW R) 0 P Q a w
inductive aO(P:j_)(B:ae)(N:Nat) where
 |step (key:Nat) (o:Oper) (eg:ak) (need:List (Nat×Option Obj)) (val:i_) (cK:aC) (ok:ct P B o eg need val cK)
 |call (key:Nat) (f:FuncId) (args:ak) (res:i_) (ok:∀ w,B.G w->Calls P f args.toArray w λe w'=>e=.returned res/\Below w.heap.size w w')
 |rw(key:Nat) (v v':i_) (ok:v=v')
 |code (key:Nat) (c:Code) (fr:aL) (M:aC) (next:Nat) (r:kR) (ok:ag P B N c fr M next r)
inductive ni where
 |eg (l:ak)
 |obj (x:Option Obj)
 |op (o:Oper)
 |code (c:Code)
 |nat (n:Nat)
def callee(look:Nat->Value)(o:Oper):Option (FuncId×ak):=
 match o.op with
 |.call c=>match c.callee with
  |.value x=>match fK look x with
   |.func (.func f) fi ca=>some (f,fi.toList++c.args.toList.map (fK look)++ca.toList)
   |_=>none
  |_=>none
 |_=>none
def fN(P:j_)(f:FuncId):Bool:=
 match P.funcs[f]? with
 | some fn => fn.body.isSome && !(fn.name == "runtime.NumGoroutine")
 |none=>false
def Lo(o:Oper):Nat:=match o.dst with
 |some t=>t
 |none=>match o.op with
  |.store _ (.tmp t) _=>100000+t
  |_=>99999
abbrev bK(P:j_)(B:ae)(N:Nat):=List (aO P B N)
abbrev uF:=List (ni×ni)
def WM(next:Nat)(need:List (Nat×Option Obj)):Bool:=need.all λp=>match p.2 with|some _=>true|none=>Nat.ble next p.1
def WN(cK:aC)(need:List (Nat×Option Obj)):Bool:=cK.all λp=>need.any λq=>Nat.beq q.1 p.1
def Fz(look:Nat->Value)(g:Nat->Option Obj)(next:Nat)(o:Oper)(rs:bK P B N):Option (pW×bK P B N×uF):=
 match pX P look g next o with
 |some e=>some (e,rs,[])
 |none=>none
def Qb(look:Nat->Value)(g:Nat->Option Obj)(next:Nat)(o:Oper)(rs:bK P B N):Option (pW×bK P B N×uF):=
 if zv look o then
  match rs with
  |.step key o' eg need val cK _::vG=>
   if Nat.beq key (Lo o)then
    (if WM next need&&WN cK need then
     some (⟨val,cK,need⟩,vG,(.op o,.op o')::(.eg (o.op.operands.toList.map (fK look)),.eg eg)::need.filterMap λp=>match p.2 with|some x=>some (.obj (g p.1),.obj (some x))|none=>none)
    else none)
   else Fz look g next o rs
  |.call key f args res _::vG=>
   if Nat.beq key (Lo o)then
    (match callee look o with
    |some (f',args')=>if fN P f&&args.all flat&&flat res then some (⟨res,[],[]⟩,vG,[(.nat f',.nat f),(.eg args',.eg args)])else none
    |none=>none)
   else Fz look g next o rs
  |.rw key v v' _::vG=>
   if Nat.beq key (Lo o)then
    (match pX P look g next o with
    |some e=>some (⟨v',e.cK,e.need⟩,vG,[(.eg [e.val],.eg [v])])
    |none=>none)
   else Fz look g next o rs
  |_=>Fz look g next o rs
 else none
theorem Lp(h:fN P f=true)(args:p_)(w:h_):(callFunc f args).run P w=.ok (.enter f args) w:=by
 unfold fN at h;split at h
 ·rename_i fn hf;simp only[cY,zy]at h;obtain⟨c,hb⟩:=Option.isSome_iff_exists.1 h.1
  have h1 : fn.name ≠ "runtime.NumGoroutine" := by simpa using h.2
  simp[callFunc,hf,h1,hb]
 ·cases h
def qT(tr:uF):Prop:=∀ p∈tr,p.1=p.2
theorem H8{R:Option Nat}{args:p_}{Rs:Ending->World->Prop}{n:Nat}:CallsIn (FW R) n P f args w Rs↔Calls P f args w Rs:=
 (callsIn_wide (n:=n):CallsIn Fence.wide n P f args w Rs↔Calls P f args w Rs)
theorem aFw(ax:zv look o=true)(hc:callee look o=some (f,args))(eB:fN P f=true)
  (dw:∀ v∈args,flat v=true) (zz:flat res=true) (h:∀ w,B.G w->Calls P f args.toArray w λe w'=>e=.returned res/\Below w.heap.size w w') :
  ct P B o (o.op.operands.toList.map (fK look)) [] res []:=by
 intro R ι c a w hv hm hn K Q hK;obtain⟨dst,op,ty,pos,after,guard⟩:=o;unfold callee at hc;split at hc
 ·rename_i cl ho;dsimp only at ho;subst ho;split at hc
  ·rename_i x hx;split at hc
   ·rename_i f' fi ca gB;injection hc with hc;injection hc with fU c7;subst fU;obtain⟨cal,kC,vH⟩:=cl;dsimp only at hx c7;subst hx;have xI:(Op.operands (.call ⟨.value x,kC,vH⟩)).toList=x::kC.toList:=by simp[Op.operands,Call.operands]
    dsimp only at hv;rw[xI]at hv;cases hv with
    |cons hx qS=>
    rw[gB]at hx;obtain⟨ju,gp,he,h1,h2⟩:=hx.zo;have aU:=(h1.append qS).append h2;rw[c7]at aU;have e2:=mD aU dw;have e3:execOp a.eval ⟨dst,.call ⟨.value x,kC,vH⟩,ty,pos,after,guard⟩=callFunc f' (ju++kC.map a.eval++gp):=by have:execOp a.eval ⟨dst,.call ⟨.value x,kC,vH⟩,ty,pos,after,guard⟩=(do let d <-Deferred.ofValue (a.eval x) (kC.map a.eval);invoke d.target d.args):=rfl;rw[this,he];rfl
    have e4:(ju++kC.map a.eval++gp:p_)=args.toArray:=by rw[<-e2];apply Dr;simp
    refine⟨λ_ _=>trivial,?_⟩;rw[Lb _ _ _ n_,e3,e4,Lp eB,Oper.uponIn_enter];refine⟨λe=>(by cases e),H8.2 ((h w hm.base).mono ?_)⟩
    rintro e w' ⟨rfl,hb⟩
    exact hK ι res w' (Map.le.refl _) (.same zz) (hm.call hb)
   ·cases hc
  ·cases hc
 ·cases hc
theorem Qc{g:Nat->Option Obj}{next:Nat}{rs vG:bK P B N}{e:pW}{tr:uF}
  (h:Qb look g next o rs=some (e,vG,tr)) (hs:qT tr):zv look o=true/\ct P B o (o.op.operands.toList.map (fK look)) e.need e.val e.cK/\Bp g next e:=by
 unfold Qb at h;split at h
 ·rename_i ax;refine⟨ax,?_⟩;have auto:∀{rs:bK P B N},Fz look g next o rs=some (e,vG,tr)->ct P B o (o.op.operands.toList.map (fK look)) e.need e.val e.cK/\Bp g next e:=by
   intro rs h;unfold Fz at h;split at h
   ·rename_i e' he;injection h with h;injection h with h1 h2;subst h1;obtain⟨q1,q2⟩:=WH (B:=B) ax he;exact⟨q1.step,q2⟩
   ·cases h
  split at h
  ·rename_i key o' eg need val cK ok Ds;split at h
   ·split at h
    ·rename_i o9;injection h with h;injection h with h1 h;injection h with h2 h3;subst h1;subst h3;simp only[cY]at o9;have e1:ni.op o=.op o':=hs _ (aN ..);have e2:ni.eg _=.eg eg:=hs _ (bB _ (aN ..));injection e1 with e1;injection e2 with e2;subst e1;rw[e2];refine⟨ok,λp hp=>?_,λp hp=>?_⟩
     ·have fU:=o9.1;unfold WM at fU;rw[aX]at fU;have ik:=fU p hp;cases Dt:p.2 with
      |none=>rw[Dt]at ik;exact .inr ⟨rfl,o7 ik⟩
      |some x=>
       left;refine⟨x,rfl,?_⟩;have:ni.obj (g p.1)=.obj (some x):=hs _ (bB _ (bB _ (WO.2 ⟨p,hp,by rw[Dt]⟩)));injection this
     ·have c7:=o9.2;unfold WN at c7;rw[aX]at c7;have:=c7 p hp;rw[r6]at this;obtain⟨q,hq,hb⟩:=this;exact⟨q,hq,jK hb⟩
    ·cases h
   ·exact auto h
  ·rename_i key f args res ok Ds;split at h
   ·split at h
    ·rename_i f' args' hc;split at h
     ·rename_i o9;injection h with h;injection h with h1 h;injection h with h2 h3;subst h1;subst h3;simp only[cY,aX]at o9;have e1:ni.nat f'=.nat f:=hs _ (aN ..);have e2:ni.eg args'=.eg args:=hs _ (bB _ (aN ..));injection e1 with e1;injection e2 with e2;subst e1;subst e2;exact⟨aFw ax hc o9.1.1 o9.1.2 o9.2 ok,λp hp=>(by cases hp),λp hp=>(by cases hp)⟩
     ·cases h
    ·cases h
   ·exact auto h
  ·rename_i key v v' ok Ds;split at h
   ·split at h
    ·rename_i e' he;injection h with h;injection h with h1 h;injection h with h2 h3;subst h1;subst h3;have e1:ni.eg [e'.val]=.eg [v]:=hs _ (aN ..);injection e1 with e1;injection e1 with e1 _;obtain⟨q1,q2⟩:=WH (B:=B) ax he;rw[e1,ok]at q1;exact⟨q1.step,q2⟩
    ·cases h
   ·exact auto h
  ·exact auto h
 ·cases h
def H9(fr:aL)(d:Option Nat)(v:i_):aL:=match d with|some t=>(t,v)::fr|none=>fr
def Lq(fr:aL)(ops:Array Oper)(j:Nat):Option Bool:=
 match (ops[j]?).bind (·.dst)with
 |some t=>match bt fr t with|.bool b=>some b|_=>none
 |none=>none
def Br(fr:aL)(ops:Array Oper)(o:Oper):Bool:=
 match o.guard with
 |none=>true
 |some (j,want)=>match Lq fr ops j with|some b=>b==want|none=>false
def Bt(N:Nat)(fr:aL)(ops:Array Oper)(o:Oper):Bool:=
 (match o.guard with
 |none=>true
 |some (j,_)=>match (ops[j]?).bind (·.dst)with|some t=>flat (bt fr t)&&!lN (bt fr t)&&Nat.blt t N|none=>true)&&
 (match o.dst with|some d=>Nat.blt d N|none=>true)
theorem Qd(fr:aL)(d:Option Nat)(v:i_)(t:Nat):bt (H9 fr d v) t=if d=some t then v else bt fr t:=by
 cases d with
 |none=>rfl
 |some s=>
  show(if Nat.beq s t then v else bt fr t)=_;by_cases h:s=t
  ·subst h;simp
  ·rw[nM h];simp[h]
theorem fk.put(hle:Map.le ι κ){WQ:Nat->Value}{a:Act}(h:fk B ι look N a){v:i_}(hv:mZ κ v v')(d:Option Nat)(hd:∀ t,d=some t->t<N)
  (hl:∀ t,WQ t=if d=some t then v else look t):fk B κ WQ N (a.put d v'):=by
 refine⟨by cases d<;>exact h.defers,by cases d<;>simp[Act.put,h.size],λt=>?_⟩;rw[hl t];by_cases Du:d=some t
 ·rw[aq Du];subst Du;have:t<a.tmps.size:=by rw[h.size];exact hd t rfl
  have e:(a.put (some t) v').tmps.getD t undef=v':=by simp[Act.put,pb,this]
  rw[e];exact hv
 ·rw[al Du];have e:(a.put d v').tmps.getD t undef=a.tmps.getD t undef:=by
   cases d with
   |none=>rfl
   |some s=>
    have:s≠t:=λe=>Du (by rw[e]);simp[Act.put,pb,Qe this]
  rw[e];exact(h.slot t).mono hle
theorem Qf(a:Act)(d:Option Nat)(v:i_){t:Nat}(h:d≠some t):(a.put d v).tmps.getD t undef=a.tmps.getD t undef:=by
 cases d with
 |none=>rfl
 |some s=>
  have:s≠t:=λe=>h (by rw[e]);simp[Act.put,pb,Qe this]
theorem aFx{a:Act}(h:fk B ι look N a)(ops:Array Oper)(j:Nat)
  (hn:∀ t,(ops[j]?).bind (·.dst)=some t->look t=bt fr t/\flat (bt fr t)=true/\lN (bt fr t)=false/\t<N):yielded ops a.tmps j=Lq fr ops j:=by
 unfold yielded Lq;cases hd:(ops[j]?).bind (·.dst)with
 |none=>rfl
 |some t=>
  simp only[WR];obtain⟨h1,cA,h2,h3⟩:=hn t hd;have av:t<a.tmps.size:=by rw[h.size];exact h3
  have hs:=h.slot t;rw[h1]at hs;have hs:=(hs.zp h2).eW cA;rw[show a.tmps.getD t undef=a.tmps[t]by simp[pb,av]]at hs;rw[xO av,hs];cases bt fr t<;>rfl
theorem WS{a:Act}(h:fk B ι look N a)(ops:Array Oper)(o:Oper)(hg:Bt N fr ops o=true)
  (hl:∀ j b,o.guard=some (j,b)->∀ t,(ops[j]?).bind (·.dst)=some t->look t=bt fr t):Region.wanted o (yielded ops a.tmps)=Br fr ops o:=by
 unfold Region.wanted Br;unfold Bt at hg;simp only[cY]at hg;have hg:=hg.1;cases nj:o.guard with
 |none=>rfl
 |some gd=>
  obtain⟨j,want⟩:=gd;rw[nj]at hg;dsimp only at hg ⊢;rw[aFx h ops j λt ht=>by rw[ht]at hg;simp only[cY,zy]at hg;exact⟨hl j want nj t ht,hg.1.1,hg.1.2,by simpa[xP]using hg.2⟩]
  cases Lq fr ops j with
  |none=>rfl
  |some b=>cases b<;>cases want<;>rfl
theorem WT{ops:Array Oper}(hg:Bt N fr ops o=true):∀ t,o.dst=some t->t<N:=by intro t ht;unfold Bt at hg;simp only[cY]at hg;have:=hg.2;rw[ht]at this;simpa[xP]using this
def zC(next:Nat)(cK:aC):Nat:=cK.foldl (λn p=>if Nat.ble n p.1 then p.1+1 else n) next
theorem FA:∀(cK:aC) (next:Nat),next<=zC next cK
 |[],next=>aZ _
 |p::l,next=>by
  show next<=zC (if Nat.ble next p.1 then p.1+1 else next) l;refine c9 ?_ (FA l _);split
  ·rename_i h;have:=o7 h;omega
  ·exact aZ _
theorem WU:∀(cK:aC) (next:Nat),∀ p∈cK,p.1<zC next cK
 |q::l,next,p,hp=>by
  show p.1<zC (if Nat.ble next q.1 then q.1+1 else next) l;rcases ch.1 hp with rfl|hp
  ·refine cy ?_ (FA l _);split
   ·omega
   ·rename_i h;rcases eQ p.1 next with h1|h1
    ·exact h1
    ·exact absurd (Qg h1) h
  ·exact WU l _ p hp
theorem Qh{cc:Nat->Option Obj}{next:Nat}{e:pW}(hn:Bp (ah M) next e)(ha:cT cc M)(hu:eA cc next):
  (∀ p∈e.need,cc p.1=p.2)/\cT (kP cc e.cK) (e.cK++M)/\eA (kP cc e.cK) (zC next e.cK)/\(∀ k,k<next->ah M k=none->ah (e.cK++M) k=none/\kP cc e.cK k=cc k):=by
 refine⟨λp hp=>?_,λk x hk=>?_,λk hk=>?_,λk hk hM=>?_⟩
 ·rcases hn.1 p hp with ⟨x,h1,h2⟩|⟨h1,h2⟩
  ·rw[h1];exact ha _ _ h2
  ·rw[h1];exact hu _ h2
 ·rw[jh]at hk;rw[vF];cases h:ah e.cK k with
  |some y=>rw[h]at hk;exact hk
  |none=>rw[h]at hk;exact ha k x hk
 ·rw[vF];cases h:ah e.cK k with
  |some y=>have:=WU e.cK next _ (iy h);dsimp only at this;omega
  |none=>exact hu k (c9 (FA _ _) hk)
 ·have:ah e.cK k=none:=by
   cases h:ah e.cK k with
   |none=>rfl
   |some y=>
    exfalso;obtain⟨q,hq,qU⟩:=hn.2 _ (iy h);dsimp only at qU;rcases hn.1 q hq with ⟨x,h1,h2⟩|⟨h1,h2⟩
    ·rw[qU,hM]at h2;cases h2
    ·omega
  exact⟨by rw[jh,this];exact hM,by rw[vF,this]⟩
structure pY(P:j_)(B:ae)(N:Nat) where
 fr:aL
 M:aC
 next:Nat
 rs:bK P B N
 tr:uF
 mF:List (List Nat×List Nat)
def keys(l:List (Nat×α)):List Nat:=l.map (·.1)
def pY.more(r:pY P B N)(tr:uF)(e:List Nat×List Nat):pY P B N:=⟨r.fr,r.M,r.next,r.rs,tr++r.tr,e::r.mF⟩
def xQ{P:j_}{B:ae}{N:Nat}(ops:Array Oper):List Oper->aL->aC->Nat->bK P B N->Option (pY P B N)
 |[],fr,M,next,rs=>some ⟨fr,M,next,rs,[],[]⟩
 |o::l,fr,M,next,rs=>
  if Bt N fr ops o then
   if Br fr ops o then
    match Qb (P:=P) (bt fr) (ah M) next o rs with
    |some (e,Ds,Dv)=>match xQ ops l (H9 fr o.dst e.val) (e.cK++M) (zC next e.cK) Ds with
     |some r=>some (r.more Dv (keys e.need,keys e.cK))
     |none=>none
    |none=>none
   else match xQ ops l (H9 fr o.dst undef) M next rs with
    |some r=>some (r.more [] ([],[]))
    |none=>none
  else none
def vJ(l:List Oper)(t:Nat):Bool:=l.any λo=>match o.dst with|some d=>Nat.beq d t|none=>false
theorem WV{l:List Oper}{t:Nat}(h:vJ (o::l) t=false):o.dst≠some t/\vJ l t=false:=by unfold vJ at h;rw[List.any_cons,Lr]at h;refine⟨λe=>?_,h.2⟩;rw[e]at h;simp at h
def Qi(B:ae)(N:Nat)(cc:Nat->Option Obj)(M:aC)(next:Nat)(ι:Map)(a:Act)(wr:Nat->Bool)(r:pY P B N)(K:Act->World->Prop):Prop:=
 ∀ ao bP a' w',Map.le ι ao->fk B ao (bt r.fr) N a'->aI B ao bP w'->cT bP r.M->eA bP r.next->(∀ k,k<next->ah M k=none->bP k=cc k)->
  (∀ t,wr t=false->a'.tmps.getD t undef=a.tmps.getD t undef)->K a' w'
theorem Qj{R:Option Nat}{P:j_}{B:ae}{N:Nat}{ops:Array Oper}{Q:Exit->Act->World->Prop}:∀(l:List Oper) {fr:aL} {M:aC} {next:Nat} {rs:bK P B N} {r:pY P B N} {ι:Map} {cc:Nat->Option Obj} {a:Act} {w:h_},
  xQ ops l fr M next rs=some r->qT r.tr->fk B ι (bt fr) N a->aI B ι cc w->cT cc M->eA cc next->
  Qi B N cc M next ι a (vJ l) r (Q .normal)->wpListIn (FW R) 0 P ops Q l a w
 |[],fr,M,next,rs,r,ι,cc,a,w,h,_,hf,hm,ha,hu,hQ=>by injection h with h;subst h;exact hQ ι cc a w (Map.le.refl _) hf hm ha hu (λ_ _ _=>rfl) (λ_ _=>rfl)
 |o::l,fr,M,next,rs,r,ι,cc,a,w,h,hs,hf,hm,ha,hu,hQ=>by
  unfold xQ at h;unfold wpListIn;by_cases nj:Bt N fr ops o=true
  case neg=>rw[al nj]at h;cases h
  rw[aq nj]at h;have Bu:=WT nj;rw[WS hf ops o nj λ_ _ _ _ _=>rfl];split at h
  ·rename_i hw;rw[aq hw];split at h
   ·rename_i e Ds Dv bH;split at h
    ·rename_i r2 tw;injection h with h;subst h;have vK:qT Dv:=λp hp=>hs p (fm.2 (.inl hp));have Qk:qT r2.tr:=λp hp=>hs p (fm.2 (.inr hp));obtain⟨ax,uG,nN⟩:=Qc (B:=B) bH vK;simp only[zv,cY,aX,zy]at ax;obtain⟨q1,q2,q3,q4⟩:=Qh nN ha hu;refine(uG R ι cc a w (Qa hf _ λx hx=>ax.1 x hx) hm q1 _ _ λao v' w' hle hv bh=>?_);refine Qj l tw Qk (hf.put hle (.inr hv) o.dst Bu λt=>Qd _ _ _ _) bh q2 q3 λdf qa a2 w2 ke iU dz fO ew fT nk=>?_;refine hQ df qa a2 w2 (hle.trans ke) iU dz fO ew (λk hk hM=>?_) λt ht=>?_
     ·obtain⟨q5,q6⟩:=q4 k hk hM;rw[fT k (cy hk (FA _ _)) q5,q6]
     ·obtain⟨t1,t2⟩:=WV ht;rw[nk t t2,Qf _ _ _ t1]
    ·cases h
   ·cases h
  ·rename_i hw;rw[al hw];split at h
   ·rename_i r2 tw;injection h with h;subst h;refine⟨λ_ _=>trivial,?_⟩;refine Qj l tw (λp hp=>hs p (fm.2 (.inr hp))) (hf.put (Map.le.refl _) (v:=undef) (v':=undef) (.inr (.same rfl)) o.dst Bu λt=>Qd _ _ _ _) hm ha hu λdf qa a2 w2 ke iU dz fO ew fT nk=>?_;refine hQ df qa a2 w2 ke iU dz fO ew fT λt ht=>?_;obtain⟨t1,t2⟩:=WV ht;rw[nk t t2,Qf _ _ _ t1]
   ·cases h
theorem aFy{R:Option Nat}{ops:Array Oper}{Q:Exit->Act->World->Prop}(Inv:(Nat->Bool)->Act->World->Prop)
  (aFz:∀ i o,ops[i]?=some o->∀ e∈o.after,Region.binds .any e=true->e.on<i)
  (step:∀ L a w i o,Inv L a w->ops[i]?=some o->L i=false->(∀ e∈o.after,Region.binds .any e=true->L e.on=true)->wpOpIn (FW R) 0 P ops Q i (λa' w'=>Inv (λj=>L j||j==i) a' w') a w)
  (fin:∀ L a w,(∀ i,i<ops.size->L i=true)->Inv L a w->Q .normal a w)
  (aFA:∀ L L' a w,(∀ j,L j=L' j)->Inv L a w->Inv L' a w) :
  ∀(fuel:Nat) (listed:Array Bool) (a:Act) (w:h_),listed.size=ops.size->(listed.toList.countP (λb=>b=false))=fuel->Inv (λj=>listed.getD j false) a w->
   wpAnyIn (FW R) 0 P .any ops Q fuel listed a w:=by
 have aFB:∀ listed:Array Bool,listed.size=ops.size->Region.ready .any ops listed=[]->∀ i,i<ops.size->listed.getD i false=true:=by
  intro listed bE hr i;induction i using Nat.strongRecOn with
  |_ i ih=>
   intro hi;cases h:listed.getD i false with
   |true=>rfl
   |false=>
    exfalso;have:i∈Region.ready .any ops listed:=by
     rw[mem_ready];refine⟨?_,ops[i],xO hi,λe he hb=>?_⟩
     ·have gU:i<listed.size:=by omega
      simp[pb,gU]at h ⊢;exact h
     ·have:=aFz i ops[i] (xO hi) e he hb;exact ih e.on this o_
    rw[hr]at this;cases this
 intro fuel;induction fuel with
 |zero=>
  intro listed a w bE hc hI;have aU:∀ i,i<ops.size->listed.getD i false=true:=by
   intro i hi;have gU:i<listed.size:=by omega
   have h0:=List.countP_eq_zero.1 hc listed[i] s_;simp[pb,gU];simpa using h0
  refine⟨?_,fin _ a w aU hI⟩;cases hr:Region.ready .any ops listed with
  |nil=>rfl
  |cons i l=>
   have:i∈Region.ready .any ops listed:=by rw[hr];exact aN ..
   rw[mem_ready]at this;obtain⟨h1,o,ho,_⟩:=this;have hi:i<ops.size:=by
    rcases eQ i ops.size with h|h
    ·exact h
    ·rw[WW h]at ho;cases ho
   have h2:=aU i hi;have gU:i<listed.size:=by omega
   simp[pb,gU]at h1 h2;rw[h1]at h2;cases h2
 |succ fuel ih=>
  intro listed a w bE hc hI;refine⟨λhr=>fin _ a w (aFB listed bE hr) hI,λi hi=>?_⟩;rw[mem_ready]at hi;obtain⟨h1,o,ho,aU⟩:=hi;have hi:i<ops.size:=by
   rcases eQ i ops.size with h|h
   ·exact h
   ·rw[WW h]at ho;cases ho
  have gU:i<listed.size:=by omega
  have nK:listed.getD i false=false:=by simp[pb,gU]at h1 ⊢;exact h1
  refine wpOpIn_mono (λa' w' h=>?_) (step _ a w i o hI ho nK aU);refine ih (listed.setIfInBounds i true) a' w' (by simp[bE]) ?_ (aFA _ _ a' w' (λj=>?_) h)
  ·have av:i<listed.toList.length:=by simpa using gU
   have Ia:listed.toList[i]=false:=by simp[pb,gU]at nK;simpa using nK
   rw[aFC];have key:∀(l:List Bool) (i:Nat) (h:i<l.length),l[i]=false->(l.set i true).countP (λb=>b=false)+1=l.countP (λb=>b=false):=by
    intro l;induction l with
    |nil=>intro i h;simp at h
    |cons b l ih=>
     intro i h hb;cases i with
     |zero=>simp at hb;subst hb;simp
     |succ i=>
      simp at hb h;have:=ih i h hb;simp only[List.set_cons_succ,List.countP_cons];omega
   have:=key listed.toList i av Ia;omega
  ·by_cases oD:j=i
   ·subst oD;simp[pb,gU]
   ·have:(listed.setIfInBounds i true).getD j false=listed.getD j false:=by simp[pb,Qe (lQ oD)]
    rw[this];simp[oD]
def Ib(acc:l_)(o:Oper):Nat:=o.after.toList.foldl (λs e=>if Region.binds .any e then s||| (2^e.on||| acc.getD e.on 0)else s) 0
def Bv:List Oper->List Nat->List Nat
 |[],acc=>acc
 |o::l,acc=>Bv l (acc++[Ib acc o])
def Ic(o:Oper):List Nat:=o.op.operands.toList.filterMap λ| .tmp t=>some t|_=>none
theorem WX(acc:l_):∀(es:List Edge) (s j:Nat),(es.foldl (λs e=>if Region.binds .any e then s||| (2^e.on||| acc.getD e.on 0)else s) s).testBit j=true->
  s.testBit j=true\/∃ e∈es,Region.binds .any e=true/\(e.on=j\/(acc.getD e.on 0).testBit j=true)
 |[],s,j,h=>.inl h
 |e::es,s,j,h=>by
  rw[uH]at h;rcases WX acc es _ j h with h|⟨e',tx,h⟩
  ·by_cases hb:Region.binds .any e=true
   ·rw[aq hb,WY,WY,Nat.testBit_two_pow]at h;simp only[qV,tz]at h;rcases h with h|h|h
    ·exact .inl h
    ·exact .inr ⟨e,aN ..,hb,.inl h⟩
    ·exact .inr ⟨e,aN ..,hb,.inr h⟩
   ·rw[al hb]at h;exact .inl h
  ·exact .inr ⟨e',bB _ tx,h⟩
def WZ(ops:List Oper)(acc:l_):Prop:=
 ∀ k,k<acc.length->∀ j,(acc.getD k 0).testBit j=true->∃ o,ops[k]?=some o/\∃ e∈o.after,Region.binds .any e=true/\(e.on=j\/(acc.getD e.on 0).testBit j=true)
theorem W0:∀(l pre:List Oper) (acc:l_),acc.length=pre.length->WZ (pre++l) acc->
  (∀ i o,(pre++l)[i]?=some o->∀ e∈o.after,Region.binds .any e=true->e.on<i)->WZ (pre++l) (Bv l acc)/\(Bv l acc).length=(pre++l).length
 |[],pre,acc,hl,hg,_=>⟨hg,by simp[Bv,hl]⟩
 |o::l,pre,acc,hl,hg,hd=>by
  have e:pre++o::l=(pre++[o])++l:=by simp
  rw[e]at hg hd ⊢;refine W0 l (pre++[o]) (acc++[Ib acc o]) (by simp[hl]) ?_ hd;have cM:∀ k,k<acc.length->(acc++[Ib acc o]).getD k 0=acc.getD k 0:=λk hk=>by rw[Dw,Dw,Ie hk]
  intro k hk j hj;rcases eQ k acc.length with av|fJ
  ·rw[cM k av]at hj;obtain⟨o',qW,e',tx,hb,h⟩:=hg k av j hj;refine⟨o',qW,e',tx,hb,?_⟩;rcases h with h|h
   ·exact .inl h
   ·right;have:e'.on<k:=hd k o' qW e' tx hb;rw[cM _ o_];exact h
  ·have gM:k=acc.length:=by simp at hk;omega
   subst gM;have ho:((pre++[o])++l)[acc.length]?=some o:=by rw[hl];simp
   have hm:(acc++[Ib acc o]).getD acc.length 0=Ib acc o:=by rw[Dw,Dx (aZ _)];simp
   rw[hm]at hj;rcases WX acc o.after.toList 0 j hj with h|⟨e',tx,hb,h⟩
   ·simp at h
   ·have tx:e'∈o.after:=Ln.1 tx;refine⟨o,ho,e',tx,hb,?_⟩;rcases h with h|h
    ·exact .inl h
    ·right;have:e'.on<acc.length:=hd acc.length o ho e' tx hb;rw[cM _ this];exact h
def gC{α:Type}(u:Nat->Nat->Option α)(c0:Nat->α)(L:Nat->Bool):Nat->Nat->α
 |0,k=>c0 k
 |i+1,k=>if L i then(match u i k with|some x=>x|none=>gC u c0 L i k)else gC u c0 L i k
theorem W4(u:Nat->Nat->Option α)(c0:Nat->α)(L:Nat->Bool)(i k:Nat):gC u c0 L (i+1) k=if L i then(match u i k with|some x=>x|none=>gC u c0 L i k)else gC u c0 L i k:=rfl
theorem Ql{u:Nat->Nat->Option α}{c0:Nat->α}{L:Nat->Bool}:∀(n:Nat),i<=n->(∀ j,j<n->u j k≠none->(L j=true↔j<i))->gC u c0 L n k=gC u c0 (λ_=>true) i k:=by
 have below:∀ m,m<=i->(∀ j,j<m->u j k≠none->L j=true)->gC u c0 L m k=gC u c0 (λ_=>true) m k:=by
  intro m;induction m with
  |zero=>intro _ _;rfl
  |succ m ih=>
   intro hm h;show(if L m then _ else _)=(if true then _ else _);have ih:=ih o_ λj hj=>h j o_;cases hu:u m k with
   |none=>simp only[ih];simp
   |some x=>rw[h m o_ (by rw[hu];exact n_)];rfl
 intro n;induction n with
 |zero=>
  intro hi _;have:i=0:=by omega
  subst this;rfl
 |succ n ih=>
  intro hi h;rcases eQ n i with av|fJ
  ·have:i=n+1:=by omega
   subst this;exact below (n+1) (aZ _) λj hj hu=>(h j hj hu).2 hj
  ·have ih:=ih fJ λj hj=>h j o_;show(if L n then _ else _)=_;cases hu:u n k with
   |none=>simp only[ih];simp
   |some x=>
    have:L n=false:=by
     cases hL:L n with
     |false=>rfl
     |true=>have:=(h n o_ (by rw[hu];exact n_)).1 hL;omega
    rw[this,ih];rfl
theorem W5{u:Nat->Nat->Option α}{c0:Nat->α}{L:Nat->Bool}(hi:L i=false)(hk:∀ j,j<m->i<j->L j=true->u i k≠none->u j k=none):
  ∀(n:Nat),n<=m->i<n->gC u c0 (λj=>L j||j==i) n k=match u i k with|some x=>x|none=>gC u c0 L n k:=by
 have before:∀ m,m<=i->gC u c0 (λj=>L j||j==i) m k=gC u c0 L m k:=by
  intro m;induction m with
  |zero=>intro _;rfl
  |succ m ih=>
   intro hm;show(if(L m||m==i)then _ else _)=(if L m then _ else _);rw[ih o_];have:(m==i)=false:=by simp;omega
   rw[this,Bool.or_false]
 intro n;induction n with
 |zero=>intro _ h;omega
 |succ n ih=>
  intro kS h;show(if(L n||n==i)then(match u n k with|some x=>x|none=>gC u c0 (λj=>L j||j==i) n k)else gC u c0 (λj=>L j||j==i) n k)=match u i k with|some x=>x|none=>(if L n then(match u n k with|some x=>x|none=>gC u c0 L n k)else gC u c0 L n k)
  rcases eQ i n with av|fJ
  ·rw[ih o_ av];have e:(n==i)=false:=by simp;omega
   rw[e,Bool.or_false];cases hL:L n with
   |false=>simp
   |true=>
    cases hu:u i k with
    |none=>rfl
    |some x=>rw[hk n o_ av hL (by rw[hu];exact n_)];rfl
  ·have:i=n:=by omega
   subst this;rw[before i (aZ _),hi];simp
def Ls(ops:List Oper)(o:Oper):List Nat:=match o.guard with
 |some (j,_)=>match (ops[j]?).bind (·.dst)with|some t=>[t]|none=>[]
 |none=>[]
def Qm(ops:List Oper)(o:Oper)(t:Nat):Bool:=(Ic o++Ls ops o).any λs=>Nat.beq s t
def Lt(l m:l_):Bool:=l.any λa=>m.any λb=>Nat.beq a b
def vL(ops:List Oper)(o:Oper)(e:List Nat×List Nat)(p:Oper)(f:List Nat×List Nat):Bool:=
 (match p.dst with|some t=>Qm ops o t||(match o.dst with|some d=>Nat.beq d t|none=>false)|none=>false)||Lt f.2 e.1
def Dy(ops:List Oper)(mF:List (List Nat×List Nat)):Bool:=
 (List.range ops.length).all λi=>match ops[i]?,mF[i]? with
  |some o,some e=>(o.after.toList.all λg=>!Region.binds .any g||Nat.blt g.on i)&&
   (List.range i).all λj=>Nat.testBit ((Bv ops []).getD i 0) j||(match ops[j]?,mF[j]? with|some p,some f=>!vL ops o e p f&&!vL ops p f o e|_,_=>false)
  |_,_=>false
section
variable{P:j_}{B:ae}{N:Nat}{ops:Array Oper}
structure Qn(P:j_)(B:ae)(N:Nat)(ops:Array Oper)(l:List Oper)(fr:aL)(M:aC)(next:Nat)(r:pY P B N) where
 qX:Nat->aL
 Ms:Nat->aC
 zD:Nat->Nat
 es:Nat->pW
 W6:qX 0=fr
 Qo:Ms 0=M
 Qp:zD 0=next
 W7:qX l.length=r.fr
 W8:Ms l.length=r.M
 W9:zD l.length=r.next
 mF:∀ i,i<l.length->r.mF[i]?=some (keys (es i).need,keys (es i).cK)
 step:∀ i o,l[i]?=some o->Bt N (qX i) ops o=true/\qX (i+1)=H9 (qX i) o.dst (es i).val/\Ms (i+1)=(es i).cK++Ms i/\zD (i+1)=zC (zD i) (es i).cK/\Bp (ah (Ms i)) (zD i) (es i)/\
  ((Br (qX i) ops o=true/\zv (bt (qX i)) o=true/\ct P B o (o.op.operands.toList.map (fK (bt (qX i)))) (es i).need (es i).val (es i).cK)\/(Br (qX i) ops o=false/\es i=⟨undef,[],[]⟩))
theorem Qq:∀(l:List Oper) {fr:aL} {M:aC} {next:Nat} {rs:bK P B N} {r:pY P B N},xQ ops l fr M next rs=some r->qT r.tr->Nonempty (Qn P B N ops l fr M next r)
 |[],fr,M,next,rs,r,h,_=>by injection h with h;subst h;exact⟨⟨λ_=>fr,λ_=>M,λ_=>next,λ_=>⟨undef,[],[]⟩,rfl,rfl,rfl,rfl,rfl,rfl,λi hi=>by simp at hi,λi o h=>by simp at h⟩⟩
 |o::l,fr,M,next,rs,r,h,hs=>by
  unfold xQ at h;by_cases nj:Bt N fr ops o=true
  case neg=>rw[al nj]at h;cases h
  rw[aq nj]at h;have build:∀(e:pW) (r2:pY P B N) (tr:uF),r=r2.more tr (keys e.need,keys e.cK)->Bp (ah M) next e->Nonempty (Qn P B N ops l (H9 fr o.dst e.val) (e.cK++M) (zC next e.cK) r2)->
    ((Br fr ops o=true/\zv (bt fr) o=true/\ct P B o (o.op.operands.toList.map (fK (bt fr))) e.need e.val e.cK)\/(Br fr ops o=false/\e=⟨undef,[],[]⟩))->Nonempty (Qn P B N ops (o::l) fr M next r):=by
   rintro e r2 tr rfl aY ⟨T⟩ bH
   refine⟨⟨λi=>match i with|0=>fr|i+1=>T.qX i,λi=>match i with|0=>M|i+1=>T.Ms i,λi=>match i with|0=>next|i+1=>T.zD i,λi=>match i with|0=>e|i+1=>T.es i,rfl,rfl,rfl,T.W7,T.W8,T.W9,λi hi=>?_,λi o' ho=>?_⟩⟩
   ·cases i with
    |zero=>rfl
    |succ i=>exact T.mF i (by simpa using hi)
   ·cases i with
    |zero=>
     simp at ho;subst ho;exact⟨nj,T.W6,T.Qo,T.Qp,aY,bH⟩
    |succ i=>exact T.step i o' (by simpa using ho)
  split at h
  ·rename_i hw;split at h
   ·rename_i e Ds Dv bH;split at h
    ·rename_i r2 tw;injection h with h;have oE:qT Dv/\qT r2.tr:=by subst h;exact⟨λp hp=>hs p (fm.2 (.inl hp)),λp hp=>hs p (fm.2 (.inr hp))⟩
     obtain⟨ax,uG,nN⟩:=Qc (B:=B) bH oE.1;exact build e r2 Dv h.symm nN (Qq l tw oE.2) (.inl ⟨hw,ax,uG⟩)
    ·cases h
   ·cases h
  ·rename_i hw;split at h
   ·rename_i r2 tw;injection h with h;have oE:qT r2.tr:=by subst h;exact λp hp=>hs p (fm.2 (.inr hp))
    exact build ⟨undef,[],[]⟩ r2 [] h.symm ⟨λp hp=>(by cases hp),λp hp=>(by cases hp)⟩ (Qq l tw oE) (.inr ⟨by simpa using hw,rfl⟩)
   ·cases h
def Lu(ops:List Oper)(L:Nat->Bool):Prop:=∀ i o,ops[i]?=some o->L i=true->∀ e∈o.after,Region.binds .any e=true->L e.on=true
theorem FB{l:List α}{x:α}(h:l[i]?=some x):i<l.length:=by
 rcases eQ i l.length with h1|h1
 ·exact h1
 ·rw[xH h1]at h;cases h
theorem Qr{l:List Oper}{mF:List (List Nat×List Nat)}(h:Dy l mF=true)(ho:l[i]?=some o):∀ e∈o.after,Region.binds .any e=true->e.on<i:=by
 intro e he hb;unfold Dy at h;rw[aX]at h;have:=h i (kf.2 (FB ho));rw[ho]at this;split at this
 ·rename_i o' e' h1 h2;injection h1 with h1;subst h1;simp only[cY,aX]at this;have:=this.1 e (Ln.2 he);rw[hb]at this;simpa[xP]using this
 ·cases this
theorem Xa{l:List Oper}{mF:List (List Nat×List Nat)}(h:Dy l mF=true){p:Oper}{e f:List Nat×List Nat}(ho:l[i]?=some o)(he:mF[i]?=some e)(hp:l[j]?=some p)(hf:mF[j]?=some f)(hj:j<i):
  ((Bv l []).getD i 0).testBit j=true\/(vL l o e p f=false/\vL l p f o e=false):=by
 unfold Dy at h;rw[aX]at h;have:=h i (kf.2 (FB ho));rw[ho,he]at this;dsimp only at this;simp only[cY,aX]at this;have:=this.2 j (kf.2 hj);rw[hp,hf]at this;simpa using this
theorem Xb{l:List Oper}{mF:List (List Nat×List Nat)}(h:Dy l mF=true){L:Nat->Bool}(hL:Lu l L):∀(i:Nat) (o:Oper),l[i]?=some o->(∀ e∈o.after,Region.binds .any e=true->L e.on=true)->
  ∀ j,((Bv l []).getD i 0).testBit j=true->L j=true/\j<i:=by
 obtain⟨hg,hlen⟩:=W0 l [] [] rfl (λk hk=>by simp at hk) (λi o ho e he hb=>Qr h (by simpa using ho) e he hb);simp only[jg]at hg hlen;intro i;induction i using Nat.strongRecOn with
 |_ i ih=>
  intro o ho hd j hj;have hi:i<(Bv l []).length:=by rw[hlen];exact FB ho
  obtain⟨o',qW,e,he,hb,kD⟩:=hg i hi j hj;rw[ho]at qW;injection qW with qW;subst qW;have av:=Qr h ho e he hb;have Xc:=hd e he hb;rcases kD with rfl|kD
  ·exact⟨Xc,av⟩
  ·have aFD:e.on<l.length:=by
    have:i<l.length:=by rw[<-hlen];exact hi
    omega
   have Xd:=bd aFD;obtain⟨h1,h2⟩:=ih e.on av _ Xd (λe' tx nq=>hL e.on _ Xd Xc e' tx nq) j kD;exact⟨h1,by omega⟩
theorem Xe{l m:l_}(h1:a∈l)(h2:a∈m):Lt l m=true:=by unfold Lt;rw[r6];refine⟨a,h1,?_⟩;rw[r6];exact⟨a,h2,by simp⟩
theorem aFE{l:List Oper}{t:Nat}(h:t∈Ic o++Ls l o):Qm l o t=true:=by unfold Qm;rw[r6];exact⟨t,h,by simp⟩
theorem Qs{l:List (Nat×α)}{p:Nat×α}(h:p∈l):p.1∈keys l:=dq.2 ⟨p,h,rfl⟩
theorem aFF{t:Nat}(h:Operand.tmp t∈o.op.operands):t∈Ic o:=by unfold Ic;exact WO.2 ⟨.tmp t,Ln.2 h,rfl⟩
def uS(ops:List Oper)(es:Nat->pW)(j t:Nat):Option Value:=match (ops[j]?).bind (·.dst)with|some d=>if d=t then some (es j).val else none|none=>none
def uM(es:Nat->pW)(j k:Nat):Option (Option Obj):=match ah (es j).cK k with|some x=>some (some x)|none=>none
theorem Xf(k:Nat):kP c (es i).cK k=match uM es i k with|some x=>x|none=>c k:=by rw[vF];unfold uM;cases ah (es i).cK k<;>rfl
theorem Qt(h:uM es i k≠none):k∈keys (es i).cK:=by
 unfold uM at h;cases hk:ah (es i).cK k with
 |none=>rw[hk]at h;exact absurd rfl h
 |some x=>exact Qs (iy hk)
theorem Qu{l:List Oper}{t:Nat}(h:uS l es j t≠none):∃ p,l[j]?=some p/\p.dst=some t:=by
 unfold uS at h;cases hp:l[j]? with
 |none=>rw[hp]at h;exact absurd rfl h
 |some p=>
  rw[hp]at h;simp only[WR]at h;cases hd:p.dst with
  |none=>rw[hd]at h;exact absurd rfl h
  |some d=>
   rw[hd]at h;dsimp only at h;by_cases Du:d=t
   ·exact⟨p,rfl,by rw[hd,Du]⟩
   ·rw[al Du]at h;exact absurd rfl h
theorem Xg{l:List Oper}{t:Nat}{p:Oper}(hp:l[j]?=some p):uS l es j t=if p.dst=some t then some (es j).val else none:=by
 unfold uS;rw[hp];simp only[WR];cases p.dst with
 |none=>rfl
 |some d=>by_cases h:d=t<;>simp[h]
theorem aFG{R:Option Nat}{next:Nat}{rs:bK P B N}{r:pY P B N}{cc:Nat->Option Obj}{Q:Exit->Act->World->Prop}{a:Act}{id:Nat}(gV:P.follows .mixedOrders=true)
  (hs:xQ ops ops.toList fr M next rs=some r) (PU:qT r.tr) (h:Dy ops.toList r.mF=true) (hf:fk B ι (bt fr) N a) (hm:aI B ι cc w) (ha:cT cc M) (hu:eA cc next)
  (hQ:Qi B N cc M next ι a (vJ ops.toList) r (Q .normal)):(Code.region id ops true).wpIn (FW R) 0 P Q a w:=by
 obtain⟨T⟩:=Qq _ hs PU;have xF:ops.size=ops.toList.length:=by simp
 have Ia:∀(i:Nat),ops[i]?=ops.toList[i]?:=λi=>by simp
 generalize hn:ops.toList.length=n at *
 -- the order of the text
 have text:∀ i,i<=n->(∀ t,bt (T.qX i) t=gC (uS ops.toList T.es) (bt fr) (λ_=>true) i t)/\cT (gC (uM T.es) cc (λ_=>true) i) (T.Ms i)/\eA (gC (uM T.es) cc (λ_=>true) i) (T.zD i)/\next<=T.zD i/\
   (∀ k,k<next->ah M k=none->ah (T.Ms i) k=none/\gC (uM T.es) cc (λ_=>true) i k=cc k):=by
  intro i;induction i with
  |zero=>intro _;exact⟨λt=>by rw[T.W6];rfl,by rw[T.Qo];exact ha,by rw[T.Qp];exact hu,by rw[T.Qp];exact aZ _,λk _ hk=>⟨by rw[T.Qo];exact hk,rfl⟩⟩
  |succ i ih=>
   intro hi;obtain⟨h1,h2,h3,h4,h5⟩:=ih o_;have ho:=bd (l:=ops.toList) (i:=i) o_;obtain⟨_,s2,s3,s4,s5,_⟩:=T.step i _ ho;obtain⟨q1,q2,q3,q4⟩:=Qh s5 h2 h3;have e:gC (uM T.es) cc (λ_=>true) (i+1)=kP (gC (uM T.es) cc (λ_=>true) i) (T.es i).cK:=funext λk=>by rw[Xf,W4];cases uM T.es i k<;>rfl
   refine⟨λt=>?_,by rw[s3,e];exact q2,by rw[s4,e];exact q3,by rw[s4];exact c9 h4 (FA _ _),λk hk hM=>?_⟩
   ·rw[s2,Qd];rw[W4,Xg ho,h1 t];by_cases hd:(ops.toList[i]).dst=some t
    ·rw[aq hd,aq hd];rfl
    ·rw[al hd,al hd];rfl
   ·obtain⟨p1,p2⟩:=h5 k hk hM;obtain⟨p3,p4⟩:=q4 k o_ p1;exact⟨by rw[s3];exact p3,by rw[e,p4,p2]⟩
 -- which of two that vL has Xh up
 have ordered:∀{L:Nat->Bool} (hL:Lu ops.toList L) {i:Nat} {o:Oper},ops.toList[i]?=some o->L i=false->(∀ e∈o.after,Region.binds .any e=true->L e.on=true)->∀{j:Nat} {p:Oper},ops.toList[j]?=some p->j≠i->
   vL ops.toList o (keys (T.es i).need,keys (T.es i).cK) p (keys (T.es j).need,keys (T.es j).cK)=true\/vL ops.toList p (keys (T.es j).need,keys (T.es j).cK) o (keys (T.es i).need,keys (T.es i).cK)=true->(L j=true↔j<i):=by
  intro L hL i o ho Dz Lv j p hp oD r7;have ei:=T.mF i (FB ho);have ej:=T.mF j (FB hp);rcases DA oD with av|r8
  ·rcases Xa h ho ei hp ej av with hb|⟨pc,gD⟩
   ·have:=(Xb h hL i o ho Lv j hb).1;exact⟨λ_=>av,λ_=>this⟩
   ·rcases r7 with r7|r7
    ·rw[pc]at r7;cases r7
    ·rw[gD]at r7;cases r7
  ·rcases Xa h hp ej ho ei r8 with hb|⟨pc,gD⟩
   ·refine⟨λzE=>?_,λav=>by omega⟩;have:=(Xb h hL j p hp (λe he DB=>hL j p hp zE e he DB) i hb).1;rw[Dz]at this;cases this
   ·rcases r7 with r7|r7
    ·rw[gD]at r7;cases r7
    ·rw[pc]at r7;cases r7
 have Xi:∀{α:Type} (u:Nat->Nat->Option α) (c0:Nat->α) (L:Nat->Bool) (k:Nat),(∀ j,L j=false)->∀ m,gC u c0 L m k=c0 k:=by
  intro α u c0 L k hL m;induction m with
  |zero=>rfl
  |succ m ih=>show(if L m then _ else _)=_;rw[hL m,ih];rfl
 have aSq:∀{α:Type} (u:Nat->Nat->Option α) (c0:Nat->α) (L L':Nat->Bool) (k:Nat),(∀ j,L j=L' j)->∀ m,gC u c0 L m k=gC u c0 L' m k:=by intro α u c0 L L' k hL m;rw[show L=L' from funext hL]
 refine wpIn_region_any gV (aFy (λL a' w'=>∃ ao,Map.le ι ao/\fk B ao (gC (uS ops.toList T.es) (bt fr) L n) N a'/\Lu ops.toList L/\aI B ao (gC (uM T.es) cc L n) w'/\(∀ t,vJ ops.toList t=false->a'.tmps.getD t undef=a.tmps.getD t undef))
  (λi o ho e he hb=>Qr h (by rw[<-Ia];exact ho) e he hb) ?_ ?_ ?_ ops.size _ a _ s_ (by simp[List.countP_replicate]) ?_)
 ·-- one operation
  rintro L a' w' i o ⟨ao,hle,lT,ga,DC,xR⟩ ho Dz Lv
  have qW:ops.toList[i]?=some o:=by rw[<-Ia];exact ho
  have cB:i<n:=by rw[<-hn];exact FB qW
  obtain⟨t1,t2,t3,t4,t5⟩:=text i o_;obtain⟨s1,s2,s3,s4,s5,s6⟩:=T.step i o qW;have ord:=λ{j:Nat} {p:Oper}=>ordered ga qW Dz Lv (j:=j) (p:=p)
  -- the jL that it looks at
  have slot:∀ t,t∈Ic o++Ls ops.toList o->gC (uS ops.toList T.es) (bt fr) L n t=bt (T.qX i) t:=by
   intro t ht;rw[t1 t];refine Ql n o_ λj hj hu=>?_;obtain⟨p,hp,FC⟩:=Qu hu;by_cases oD:j=i
   ·subst oD;rw[Dz];exact⟨λe=>(by cases e),λe=>o_⟩
   ·refine ord hp oD (.inl ?_);unfold vL;rw[FC];simp only[aFE ht,FD]
  have marks:∀ p∈(T.es i).need,gC (uM T.es) cc L n p.1=p.2:=by
   intro q hq;rw[<-(Qh s5 t2 t3).1 q hq];refine Ql n o_ λj hj hu=>?_;have hk:=Qt hu;by_cases oD:j=i
   ·subst oD;rw[Dz];exact⟨λe=>(by cases e),λe=>o_⟩
   ·have hp:=bd (l:=ops.toList) (i:=j) o_;refine ord hp oD (.inl ?_);unfold vL;rw[Xe hk (Qs hq),Bool.or_true]
  -- what stands behind it
  have Xj:Lu ops.toList (λj=>L j||j==i):=by
   intro k p hp Bw e he hb;simp only[qV,beq_iff_eq]at Bw ⊢;rcases Bw with Bw|rfl
   ·exact .inl (ga k p hp Bw e he hb)
   ·rw[qW]at hp;injection hp with hp;subst hp;exact .inl (Lv e he hb)
  have Xk:∀ t,gC (uS ops.toList T.es) (bt fr) (λj=>L j||j==i) n t=if o.dst=some t then(T.es i).val else gC (uS ops.toList T.es) (bt fr) L n t:=by
   intro t;rw[W5 (i:=i) (m:=n) Dz (λj hjn hj zE hu=>?_) n (aZ _) cB,Xg qW]
   ·by_cases hd:o.dst=some t<;>simp[hd]
   ·obtain⟨q,hq,hqd⟩:=Qu hu;rw[qW]at hq;injection hq with hq;subst hq;apply jM;intro aY;obtain⟨p,hp,FC⟩:=Qu aY;have:=(ord hp o_ (.inl (by unfold vL;rw[FC,hqd];simp))).1 zE;omega
  have Xl:gC (uM T.es) cc (λj=>L j||j==i) n=kP (gC (uM T.es) cc L n) (T.es i).cK:=by
   funext k
   rw[W5 (i:=i) (m:=n) Dz (λj hjn hj zE hu=>?_) n (aZ _) cB,Xf]
   ·cases uM T.es i k<;>rfl
   ·apply jM;intro aY;have hp:=bd (l:=ops.toList) (i:=j) o_;have hk:=Qt aY;have fT:=Qt hu;obtain⟨q,hq,qU⟩:=dq.1 fT;obtain⟨q2,pd,aFH⟩:=s5.2 q hq;have:=(ord hp o_ (.inl (by unfold vL;rw[Xe hk (by rw[<-qU,<-aFH];exact Qs pd),Bool.or_true]))).1 zE;omega
  have other:∀ v,∀ t,vJ ops.toList t=false->(a'.put o.dst v).tmps.getD t undef=a.tmps.getD t undef:=by intro v t ht;rw[Qf _ _ _ λhd=>?_,xR t ht];unfold vJ at ht;rw[Ig]at ht;have:=ht o (cL qW);rw[hd]at this;simp at this
  have Bu:=WT s1;have aFI:Region.wanted o (yielded ops a'.tmps)=Br (T.qX i) ops o:=by refine WS lT ops o s1 λj b hg t ht=>slot t (fm.2 (.inr ?_));unfold Ls;rw[hg];dsimp only;rw[<-Ia,ht];exact aN ..
  unfold wpOpIn;rw[ho];dsimp only;rw[aFI];rcases s6 with ⟨hw,ax,uG⟩|⟨hw,he⟩
  ·rw[aq hw];simp only[zv,cY,aX,zy]at ax;have DD:∀ x∈o.op.operands.toList,fK (gC (uS ops.toList T.es) (bt fr) L n) x=fK (bt (T.qX i)) x:=by
    intro x hx;cases x with
    |tmp t=>exact slot t (fm.2 (.inl (aFF (Ln.1 hx))))
    |_=>rfl
   have Xm:=Qa lT o.op.operands.toList (λx hx=>by rw[DD x hx];exact ax.1 x hx);rw[vM DD]at Xm;refine uG R ao _ a' w' Xm DC marks _ _ λdf v2 w2 ke gW dz=>?_;exact⟨df,hle.trans ke,lT.put ke (.inr gW) o.dst Bu Xk,Xj,by rw[Xl];exact dz,other v2⟩
  ·rw[al (by rw[hw];decide)];refine⟨λ_ _=>trivial,?_⟩;refine⟨ao,hle,lT.put (Map.le.refl _) (v':=undef) (.inr (by rw[he];exact .same rfl)) o.dst Bu Xk,Xj,by rw[Xl,he];exact DC,other undef⟩
 ·-- all have Xh up
  rintro L a' w' aU ⟨ao,hle,lT,ga,DC,xR⟩
  obtain⟨t1,t2,t3,t4,t5⟩:=text n (aZ _);have eN:∀{α:Type} (u:Nat->Nat->Option α) (c0:Nat->α),gC u c0 L n=gC u c0 (λ_=>true) n:=λu c0=>funext λk=>
   Ql n (aZ _) λj hj _=>⟨λ_=>hj,λ_=>aU j o_⟩
  have e1:T.qX n=r.fr:=by rw[<-hn];exact T.W7
  have e2:T.Ms n=r.M:=by rw[<-hn];exact T.W8
  have e3:T.zD n=r.next:=by rw[<-hn];exact T.W9
  rw[eN]at DC;refine hQ ao _ a' w' hle ⟨lT.defers,lT.size,λt=>?_⟩ DC (by rw[<-e2];exact t2) (by rw[<-e3];exact t3) (λk hk hM=>(t5 k hk hM).2) xR;rw[<-e1,t1 t,<-eN];exact lT.slot t
 ·-- the numbers alone
  rintro L L' a' w' Xn ⟨ao,hle,lT,ga,DC,xR⟩
  have e:L=L':=funext Xn;subst e;exact⟨ao,hle,lT,ga,DC,xR⟩
 ·-- none has Xh up
  have hL:∀ j,(Array.replicate ops.size false).getD j false=false:=λj=>by simp[pb,Array.getElem?_replicate];split<;>rfl
  refine⟨ι,Map.le.refl _,⟨hf.defers,hf.size,λt=>?_⟩,λi o _ hi=>?_,?_,λ_ _=>rfl⟩
  ·rw[Xi _ _ _ _ hL];exact hf.slot t
  ·have:=(hL i).symm.trans hi;cases this
  ·exact(hm.drew _ (xM _)).ext λk=>Xi _ _ _ _ hL n
end
def DE(M:aC)(ks:aC):aC:=M.filter λp=>match ah ks p.1 with|some _=>false|none=>true
theorem Qv{ks:aC}:∀(M:aC) (k:Nat),ah (DE M ks) k=match ah ks k with|some _=>none|none=>ah M k
 |[],k=>by cases h:ah ks k<;>simp[DE,ah]
 |(j,x)::M,k=>by
  have ih:=Qv (ks:=ks) M k;unfold DE at ih ⊢;by_cases hj:j=k
  ·subst hj;cases h:ah ks j with
   |some y=>rw[h]at ih;rw[Qw,al (by simp[h])];exact ih
   |none=>rw[Qw,aq (by simp[h])];simp[ah]
  ·have e:∀ M,ah ((j,x)::M) k=ah M k:=λM=>by show(if Nat.beq j k then _ else _)=_;rw[nM hj];rfl
   rw[e,<-ih];cases h:ah ks j with
   |some y=>rw[Qw,al (by simp[h])]
   |none=>rw[Qw,aq (by simp[h]),e]
theorem aFJ{cc bP:Nat->Option Obj}{M0 M1:aC}{next:Nat}(ha:cT cc M)(hu:eA cc next)(h1:cT bP M1)(hk:∀ k,k<next->ah M0 k=none->bP k=cc k):cT bP (M1++DE M M0):=by
 intro k x hx;rw[jh]at hx;cases h:ah M1 k with
 |some y=>rw[h]at hx;exact h1 k x (by rw[h];exact hx)
 |none=>
  rw[h]at hx;dsimp only at hx;rw[Qv]at hx;cases h0:ah M0 k with
  |some y=>rw[h0]at hx;cases hx
  |none=>
   rw[h0]at hx;have hc:=ha k x hx;have:k<next:=by
    rcases eQ k next with h|h
    ·exact h
    ·rw[hu k h]at hc;cases hc
   rw[hk k this h0];exact hc
structure jw(P:j_)(B:ae)(N:Nat) where
 ex:Ex
 fr:aL
 M:aC
 next:Nat
 rs:bK P B N
 tr:uF
section
variable{P:j_}{B:ae}{N:Nat}
def jw.more(r:jw P B N)(tr:uF):jw P B N:=⟨r.ex,r.fr,r.M,r.next,r.rs,tr++r.tr⟩
def jw.after(o:Option (jw P B N))(tr:uF):Option (jw P B N):=match o with|some r=>some (r.more tr)|none=>none
def jw.aFK(r:jw P B N)(e:Ex):jw P B N:=⟨e,r.fr,r.M,r.next,r.rs,r.tr⟩
def jw.out(r:jw P B N):kR:=⟨r.ex,r.fr,r.M,r.next⟩
def Keys(M:aC)(next:Nat)(M':aC)(next':Nat):Prop:=next<=next'/\∀ k,k<next->ah M k=none->ah M' k=none
theorem Keys.refl(M:aC)(next:Nat):Keys M next M next:=⟨aZ _,λ_ _ h=>h⟩
theorem Keys.trans{M1 M2:aC}{n:Nat}(h:Keys M n M1 n1)(k:Keys M1 n1 M2 n2):Keys M n M2 n2:=⟨c9 h.1 k.1,λj hj hM=>k.2 j (cy hj h.1) (h.2 j hj hM)⟩
def Lw(fr:aL)(M:aC)(next:Nat)(c:Code)(key:Nat)(rs:bK P B N):Option (jw P B N):=
 match rs with
 |.code Xo c' Ih M0 Qx r _::vG=>
  if Nat.beq Xo key&&(Nat.ble next r.next&&r.M.all λp=>Nat.ble next p.1||(match ah M0 p.1 with|some _=>true|none=>false))then
   some ⟨r.ex,r.fr++((wl c).map λt=>(t,Fv))++fr,r.M++DE M M0,r.next,vG,(.code c,.code c')::(.nat next,.nat Qx)::(Ih.map λp=>(ni.eg [bt fr p.1],ni.eg [p.2]))++M0.map λp=>(ni.obj (ah M p.1),ni.obj (some p.2))⟩
  else none
 |_=>none
def aFL:Bool->List Oper->List (List Nat×List Nat)->Bool
 |true,ops,mF=>Dy ops mF
 |false,_,_=>true
def iz:Nat->Code->aL->aC->Nat->bK P B N->Option (jw P B N)
 |0,_,_,_,_,_=>none
 |n+1,c,fr,M,next,rs=>
  match c with
  |.skip=>some ⟨.normal,fr,M,next,rs,[]⟩
  |.exit id=>some ⟨.exit id,fr,M,next,rs,[]⟩
  |.ret=>some ⟨.ret,fr,M,next,rs,[]⟩
  |.region id ops draw=>
   match Lw fr M next (.region id ops draw) (200000+id) rs with
   |some r=>some r
   |none=>
    match xQ ops ops.toList fr M next rs with
    |some r=>if aFL draw ops.toList r.mF then some ⟨.normal,r.fr,r.M,r.next,r.rs,r.tr⟩else none
    |none=>none
  |.seq x y=>match iz n x fr M next rs with
   |some r=>match r.ex with
    |.normal=>jw.after (iz n y r.fr r.M r.next r.rs) r.tr
    |_=>some r
   |none=>none
  |.cond c x y=>match fK (bt fr) c with
   |.bool b=>if b then iz n x fr M next rs else iz n y fr M next rs
   |_=>none
  |.block id b=>
   match Lw fr M next (.block id b) id rs with
   |some r=>some r
   |none=>match iz n b fr M next rs with
    |some r=>match r.ex with
     |.exit k=>some (r.aFK (if Nat.beq k id then .normal else .exit k))
     |_=>some r
    |none=>none
  |.loop b=>match iz n b fr M next rs with
   |some r=>match r.ex with
    |.normal=>jw.after (iz n (.loop b) r.fr r.M r.next r.rs) r.tr
    |_=>some r
   |none=>none
  |_=>none
theorem Xp{o:Option (jw P B N)}{tr:uF}{r:jw P B N}(h:jw.after o tr=some r):∃ r',o=some r'/\r=r'.more tr:=by
 cases o with
 |none=>cases h
 |some r'=>injection h with h;exact⟨r',rfl,h.symm⟩
theorem Qy:∀(l m:aL) (t:Nat),(∃ v,(t,v)∈l/\bt (l++m) t=v/\bt l t=v)\/((∀ v,(t,v)∉l)/\bt (l++m) t=bt m t)
 |[],m,t=>.inr ⟨λv h=>(by cases h),rfl⟩
 |(s,v)::l,m,t=>by
  by_cases h:s=t
  ·subst h;exact .inl ⟨v,aN ..,by simp[bt],by simp[bt]⟩
  ·have e1:bt ((s,v)::l++m) t=bt (l++m) t:=by show(if Nat.beq s t then _ else _)=_;rw[nM h];rfl
   have e2:bt ((s,v)::l) t=bt l t:=by show(if Nat.beq s t then _ else _)=_;rw[nM h];rfl
   rcases Qy l m t with ⟨u,h1,h2,h3⟩|⟨h1,h2⟩
   ·exact .inl ⟨u,bB _ h1,by rw[e1,h2],by rw[e2,h3]⟩
   ·refine .inr ⟨λu hu=>?_,by rw[e1,h2]⟩;rcases ch.1 hu with hu|hu
    ·injection hu with du ew;exact h du.symm
    ·exact h1 u hu
theorem aFM{c:Code}{t:Nat}(h:t∈wl c):tv c t=true:=by unfold tv;rw[r6];exact⟨t,h,by simp⟩
theorem Lx{c:Code}{t:Nat}(h:tv c t=false):t∉wl c:=λhm=>by rw[aFM hm]at h;cases h
theorem Ii{c:Code}{t:Nat}(h:t∉wl c):tv c t=false:=by
 cases hb:tv c t with
 |false=>rfl
 |true=>
  unfold tv at hb;rw[r6]at hb;obtain⟨d,hd,he⟩:=hb;exact absurd (jK he▸hd) h
theorem aFN{c:Code}{zF:aL}{a a':Act}(hle:Map.le ι ao)(hf:fk B ι (bt fr) N a)(h1:fk B ao (bt zF) N a')(ht:∀ t,tv c t=false->a'.tmps.getD t undef=a.tmps.getD t undef):
  fk B ao (bt (zF++((wl c).map λt=>(t,Fv))++fr)) N a':=by
 refine⟨h1.defers,h1.size,λt=>?_⟩;rw[Bx];rcases Qy zF (((wl c).map λt=>(t,Fv))++fr) t with ⟨v,_,h2,h3⟩|⟨_,h2⟩
 ·rw[h2,<-h3];exact h1.slot t
 ·rw[h2];rcases Qy ((wl c).map λt=>(t,Fv)) fr t with ⟨v,hv,h3,_⟩|⟨hn,h3⟩
  ·obtain⟨s,_,he⟩:=dq.1 hv;injection he with _ he;rw[h3,<-he];exact .inl rfl
  ·rw[h3,ht t (Ii λhm=>hn Fv (dq.2 ⟨t,hm,rfl⟩))];exact(hf.slot t).mono hle
theorem Xq{next:Nat}{c:Code}{rs:bK P B N}{r:jw P B N}(h:Lw fr M next c n2 rs=some r)(hs:qT r.tr):ag P B N c fr M next r.out/\Keys M next r.M r.next:=by
 unfold Lw at h;split at h
 ·rename_i Xo c' Ih M0 Qx r0 ok vG;split at h
  ·rename_i o9;injection h with h;subst h;simp only[cY,aX,qV]at o9;have e1:ni.code c=.code c':=hs _ (aN ..);have e2:ni.nat next=.nat Qx:=hs _ (bB _ (aN ..));injection e1 with e1;injection e2 with e2;subst e1;subst e2;have e3:∀ p∈Ih,bt fr p.1=p.2:=λp hp=>by have:ni.eg [bt fr p.1]=.eg [p.2]:=hs _ (fm.2 (.inl (bB _ (bB _ (dq.2 ⟨p,hp,rfl⟩)))));injection this with this;injection this
   have e4:∀ p∈M0,ah M p.1=some p.2:=λp hp=>by have:ni.obj (ah M p.1)=.obj (some p.2):=hs _ (fm.2 (.inr (dq.2 ⟨p,hp,rfl⟩)));injection this
   refine⟨?_,o7 o9.2.1,λk hk hM=>?_⟩;rotate_left
   ·show ah (r0.M++DE M M0) k=none;rw[jh];have h1:ah r0.M k=none:=by
     cases h1:ah r0.M k with
     |none=>rfl
     |some x=>
      rcases o9.2.2 _ (iy h1)with h2|h2
      ·have:=o7 h2;dsimp only at this;omega
      ·dsimp only at h2;cases h0:ah M0 k with
       |none=>rw[h0]at h2;cases h2
       |some y=>have:=e4 _ (iy h0);dsimp only at this;rw[hM]at this;cases this
    rw[h1];show ah (DE M M0) k=none;rw[Qv,hM];cases ah M0 k<;>rfl
   intro R ι cc a w Q hf hm ha hu hQ;have zG:fk B ι (bt Ih) N a:=⟨hf.defers,hf.size,λt=>by
    have:∀(l:aL),(∀ p∈l,bt fr p.1=p.2)->mZ ι (bt l t) (a.tmps.getD t undef):=by
     intro l;induction l with
     |nil=>intro _;exact .inl rfl
     |cons p l ih=>
      intro hl;obtain⟨s,v⟩:=p;by_cases bH:s=t
      ·subst bH;have this:bt fr s=v:=hl _ (aN ..);have e:bt ((s,v)::l) s=v:=by simp[bt]
       rw[e,<-this];exact hf.slot s
      ·have e:bt ((s,v)::l) t=bt l t:=by show(if Nat.beq s t then _ else _)=_;rw[nM bH];rfl
       rw[e];exact ih λp hp=>hl p (bB _ hp)
    exact this Ih e3⟩
   have mG:cT cc M0:=λk x hk=>ha k x (by have:=e4 _ (iy hk);exact this);refine ok R ι cc a w Q zG hm mG hu λao bP a' w' hle vN bh il oB gM DF=>?_;refine hQ ao bP a' w' hle (aFN hle hf vN DF) bh (aFJ ha hu il gM) oB (λk hk hM=>gM k hk ?_) DF;cases h0:ah M0 k with
   |none=>rfl
   |some x=>have:=e4 _ (iy h0);dsimp only at this;rw[hM]at this;cases this
  ·cases h
 ·cases h
theorem Qz{ops:Array Oper}:∀(l:List Oper) {fr:aL} {M:aC} {next:Nat} {rs:bK P B N} {r:pY P B N},xQ ops l fr M next rs=some r->qT r.tr->Keys M next r.M r.next
 |[],fr,M,next,rs,r,h,_=>by injection h with h;subst h;exact Keys.refl _ _
 |o::l,fr,M,next,rs,r,h,hs=>by
  unfold xQ at h;split at h
  ·split at h
   ·split at h
    ·rename_i e Ds Dv bH;split at h
     ·rename_i r2 tw;injection h with h;subst h;obtain⟨_,_,nN⟩:=Qc (B:=B) bH (λp hp=>hs p (fm.2 (.inl hp)));have k2:=Qz l tw λp hp=>hs p (fm.2 (.inr hp));refine Keys.trans (M1:=e.cK++M) (n1:=zC next e.cK) ⟨FA _ _,λk hk hM=>?_⟩ k2;rw[jh];cases h1:ah e.cK k with
      |none=>exact hM
      |some x=>
       exfalso;obtain⟨q,hq,qU⟩:=nN.2 _ (iy h1);dsimp only at qU;rcases nN.1 q hq with ⟨y,h2,h3⟩|⟨h2,h3⟩
       ·rw[qU,hM]at h3;cases h3
       ·omega
     ·cases h
    ·cases h
   ·split at h
    ·rename_i r2 tw;injection h with h;subst h;have k2:=Qz l tw λp hp=>hs p (fm.2 (.inr hp));exact k2
    ·cases h
  ·cases h
theorem aFO{x y:Code}{next:Nat}{r2:kR}(h1:ag P B N x fr M next r1)(hn:r1.ex=.normal)(hk:Keys M next r1.M r1.next)(h2:ag P B N y r1.fr r1.M r1.next r2):ag P B N (.seq x y) fr M next r2:=by intro R ι cc a w Q hf hm ha hu hQ;refine lp (h1 R ι cc a w _ hf hm ha hu λbF fV a1 w1 iK gN cP dT du gE iL=>?_);rw[hn];refine h2 R bF fV a1 w1 Q gN cP dT du λdf qa a2 w2 ke iU dz fO ew fT nk=>?_;refine hQ df qa a2 w2 (iK.trans ke) iU dz fO ew (λk qb hM=>by rw[fT k (cy qb hk.1) (hk.2 k qb hM),gE k qb hM]) λt ht=>?_;have Bz:t∉wl x++wl y:=Lx ht;rw[nk t (Ii λh=>Bz (fm.2 (.inr h))),iL t (Ii λh=>Bz (fm.2 (.inl h)))]
theorem Xr{x y:Code}{next:Nat}(h1:ag P B N x fr M next r1)(hn:r1.ex≠.normal):ag P B N (.seq x y) fr M next r1:=by
 intro R ι cc a w Q hf hm ha hu hQ;refine lp (h1 R ι cc a w _ hf hm ha hu λbF fV a1 w1 iK gN cP dT du gE iL=>?_);have:=hQ bF fV a1 w1 iK gN cP dT du gE λt ht=>iL t (Ii λh=>(Lx ht:t∉wl x++wl y) (fm.2 (.inl h)));cases hx:r1.ex with
 |normal=>exact absurd hx hn
 |exit id=>rw[hx]at this;exact this
 |ret=>rw[hx]at this;exact this
theorem bO{b:Code}{id:Nat}{next:Nat}(h1:ag P B N b fr M next r1):
  ag P B N (.block id b) fr M next ⟨(match r1.ex with|.exit k=>if Nat.beq k id then .normal else .exit k|e=>e),r1.fr,r1.M,r1.next⟩:=by
 intro R ι cc a w Q hf hm ha hu hQ;refine Ij (h1 R ι cc a w _ hf hm ha hu λbF fV a1 w1 iK gN cP dT du gE iL=>?_);have:=hQ bF fV a1 w1 iK gN cP dT du gE iL;cases hx:r1.ex with
 |normal=>rw[hx]at this;exact this
 |ret=>rw[hx]at this;exact this
 |exit k=>
  rw[hx]at this;dsimp only at this;show(if k=id then Q .normal a1 w1 else Q (.exit k) a1 w1);by_cases hk:k=id
  ·rw[aq hk];subst hk;rw[show Nat.beq k k=true from DH k]at this;exact this
  ·rw[al hk];rw[nM hk]at this;exact this
theorem QA(gV:P.follows .mixedOrders=true):∀(n:Nat),
  (∀(c:Code) (fr:aL) (M:aC) (next:Nat) (rs:bK P B N) (r:jw P B N),iz n c fr M next rs=some r->qT r.tr->ag P B N c fr M next r.out/\Keys M next r.M r.next)/\
  (∀(b:Code) (fr:aL) (M:aC) (next:Nat) (rs:bK P B N) (r:jw P B N),iz n (.loop b) fr M next rs=some r->qT r.tr->Keys M next r.M r.next/\∀(R:Option Nat) (ι:Map) (cc:Nat->Option Obj) (a:Act) (w:h_) (Q:Exit->Act->World->Prop),fk B ι (bt fr) N a->aI B ι cc w->cT cc M->eA cc next->(∀ ao bP a' w',Map.le ι ao->fk B ao (bt r.fr) N a'->aI B ao bP w'->cT bP r.M->eA bP r.next->(∀ k,k<next->ah M k=none->bP k=cc k)->(∀ t,tv b t=false->a'.tmps.getD t undef=a.tmps.getD t undef)->Q r.ex.zx a' w')->Code.roundsIn (FW R) 0 P b Q n a w):=by
 intro n;induction n with
 |zero=>exact⟨λc fr M next rs r h=>by simp[iz]at h,λb fr M next rs r h=>by simp[iz]at h⟩
 |succ n ih=>
  obtain⟨vO,ihl⟩:=ih;have loop:∀(b:Code) (fr:aL) (M:aC) (next:Nat) (rs:bK P B N) (r:jw P B N),iz (n+1) (.loop b) fr M next rs=some r->qT r.tr->
   Keys M next r.M r.next/\∀(R:Option Nat) (ι:Map) (cc:Nat->Option Obj) (a:Act) (w:h_) (Q:Exit->Act->World->Prop),fk B ι (bt fr) N a->aI B ι cc w->cT cc M->eA cc next->
  (∀ ao bP a' w',Map.le ι ao->fk B ao (bt r.fr) N a'->aI B ao bP w'->cT bP r.M->eA bP r.next->(∀ k,k<next->ah M k=none->bP k=cc k)->(∀ t,tv b t=false->a'.tmps.getD t undef=a.tmps.getD t undef)->Q r.ex.zx a' w')->Code.roundsIn (FW R) 0 P b Q (n+1) a w:=by
   intro b fr M next rs r h hs;simp only[iz]at h;cases hb:iz n b fr M next rs with
   |none=>rw[hb]at h;cases h
   |some r1=>
    rw[hb]at h;dsimp only at h;have out:r1.ex≠.normal->r=r1->_:=λaY (e:r=r1)=>by
     subst e;obtain⟨g1,k1⟩:=vO b fr M next rs r hb hs;refine(⟨k1,λR ι cc a w Q hf hm ha hu hQ=>?_⟩:Keys M next r.M r.next/\∀(R:Option Nat) (ι:Map) (cc:Nat->Option Obj) (a:Act) (w:h_) (Q:Exit->Act->World->Prop),fk B ι (bt fr) N a->aI B ι cc w->cT cc M->eA cc next->(∀ ao bP a' w',Map.le ι ao->fk B ao (bt r.fr) N a'->aI B ao bP w'->cT bP r.M->eA bP r.next->(∀ k,k<next->ah M k=none->bP k=cc k)->(∀ t,tv b t=false->a'.tmps.getD t undef=a.tmps.getD t undef)->Q r.ex.zx a' w')->Code.roundsIn (FW R) 0 P b Q (n+1) a w);rw[DI];refine g1 R ι cc a w _ hf hm ha hu λbF fV a1 w1 iK gN cP dT du gE iL=>?_;have:=hQ bF fV a1 w1 iK gN cP dT du gE iL;show Exit.then _ Q r.ex.zx a1 w1;cases hx:r.ex with
     |normal=>exact absurd hx aY
     |exit id=>rw[hx]at this;exact this
     |ret=>rw[hx]at this;exact this
    cases hex:r1.ex with
    |normal=>
     rw[hex]at h;obtain⟨r2,h2,he⟩:=Xp h;subst he;obtain⟨g1,k1⟩:=vO b fr M next rs r1 hb (λp hp=>hs p (fm.2 (.inl hp)));obtain⟨k2,g2⟩:=ihl b r1.fr r1.M r1.next r1.rs r2 h2 (λp hp=>hs p (fm.2 (.inr hp)));refine⟨k1.trans k2,λR ι cc a w Q hf hm ha hu hQ=>?_⟩;rw[DI];refine g1 R ι cc a w _ hf hm ha hu λbF fV a1 w1 iK gN cP dT du gE iL=>?_;show Exit.then _ Q r1.ex.zx a1 w1;rw[hex];refine g2 R bF fV a1 w1 Q gN cP dT du λdf qa a2 w2 ke iU dz fO ew fT nk=>?_;exact hQ df qa a2 w2 (iK.trans ke) iU dz fO ew (λk qb hM=>(fT k (cy qb k1.1) (k1.2 k qb hM)).trans (gE k qb hM)) λt ht=>(nk t ht).trans (iL t ht)
    |exit id=>rw[hex]at h;injection h with h;exact out (by rw[hex];exact n_) h.symm
    |ret=>rw[hex]at h;injection h with h;exact out (by rw[hex];exact n_) h.symm
  refine⟨λc fr M next rs r h hs=>?_,loop⟩;cases c with
  |skip=>
   simp only[iz]at h;injection h with h;subst h;exact⟨λR ι cc a w Q hf hm ha hu hQ=>wpIn_skip (hQ ι cc a w (Map.le.refl _) hf hm ha hu (λ_ _ _=>rfl) λ_ _=>rfl),Keys.refl _ _⟩
  |exit id=>
   simp only[iz]at h;injection h with h;subst h;exact⟨λR ι cc a w Q hf hm ha hu hQ=>wpIn_exit (hQ ι cc a w (Map.le.refl _) hf hm ha hu (λ_ _ _=>rfl) λ_ _=>rfl),Keys.refl _ _⟩
  |ret=>
   simp only[iz]at h;injection h with h;subst h;exact⟨λR ι cc a w Q hf hm ha hu hQ=>wpIn_ret (hQ ι cc a w (Map.le.refl _) hf hm ha hu (λ_ _ _=>rfl) λ_ _=>rfl),Keys.refl _ _⟩
  |region id ops draw=>
   simp only[iz]at h;split at h
   ·rename_i r1 h1;injection h with h;subst h;exact Xq h1 hs
   ·split at h
    ·rename_i r1 h1;split at h
     ·rename_i hd;injection h with h;subst h;refine⟨λR ι cc a w Q hf hm ha hu hQ=>?_,Qz _ h1 hs⟩;have Xs:Qi B N cc M next ι a (vJ ops.toList) r1 (Q .normal):=λao bP a' w' hle vN bh il oB gM DF=>hQ ao bP a' w' hle vN bh il oB gM λt ht=>DF t (by
       have hn:t∉ops.toList.filterMap (·.dst):=Lx ht;cases hb:vJ ops.toList t with
       |false=>rfl
       |true=>
        unfold vJ at hb;rw[r6]at hb;obtain⟨o,ho,Ly⟩:=hb;exfalso;refine hn (WO.2 ⟨o,ho,?_⟩);cases Bu:o.dst with
        |none=>rw[Bu]at Ly;cases Ly
        |some d=>rw[Bu]at Ly;rw[jK Ly])
      cases draw with
      |false=>exact wpIn_region_list (Qj _ h1 hs hf hm ha hu Xs)
      |true=>exact aFG gV h1 hs hd hf hm ha hu Xs
     ·cases h
    ·cases h
  |seq x y=>
   simp only[iz]at h;cases hx:iz n x fr M next rs with
   |none=>rw[hx]at h;cases h
   |some r1=>
    rw[hx]at h;dsimp only at h;cases hex:r1.ex with
    |normal=>
     rw[hex]at h;obtain⟨r2,h2,he⟩:=Xp h;subst he;obtain⟨g1,k1⟩:=vO x fr M next rs r1 hx (λp hp=>hs p (fm.2 (.inl hp)));obtain⟨g2,k2⟩:=vO y r1.fr r1.M r1.next r1.rs r2 h2 (λp hp=>hs p (fm.2 (.inr hp)));exact⟨aFO g1 hex k1 g2,k1.trans k2⟩
    |exit id=>
     rw[hex]at h;injection h with h;subst h;obtain⟨g1,k1⟩:=vO x fr M next rs r1 hx hs;exact⟨Xr g1 (by show r1.ex≠_;rw[hex];exact n_),k1⟩
    |ret=>
     rw[hex]at h;injection h with h;subst h;obtain⟨g1,k1⟩:=vO x fr M next rs r1 hx hs;exact⟨Xr g1 (by show r1.ex≠_;rw[hex];exact n_),k1⟩
  |cond DJ x y=>
   simp only[iz]at h;cases hc:fK (bt fr) DJ with
   |bool b=>
    rw[hc]at h;have he:∀(ι:Map) (a:Act),fk B ι (bt fr) N a->a.eval DJ=.bool b:=by
     intro ι a hf;cases DJ with
     |tmp t=>
      have:bt fr t=.bool b:=hc;have hs:=hf.slot t;rw[this]at hs;exact(hs.zp rfl).bool
     |const v=>exact hc
     |global g=>exact hc
     |func f=>exact hc
    have fin:∀ z:Code,(∀ t,t∈wl z->t∈wl (Code.cond DJ x y))->ag P B N z fr M next r.out->(∀(R:Option Nat) (Q:Exit->Act->World->Prop) (a:Act) (w:h_),a.eval DJ=.bool b->z.wpIn (FW R) 0 P Q a w->(Code.cond DJ x y).wpIn (FW R) 0 P Q a w)->ag P B N (.cond DJ x y) fr M next r.out:=by intro z hz g hw R ι cc a w Q hf hm ha hu hQ;refine hw R Q a w (he ι a hf) (g R ι cc a w Q hf hm ha hu λbF fV a1 w1 iK gN cP dT du gE iL=>hQ bF fV a1 w1 iK gN cP dT du gE λt ht=>iL t (Ii λhm=>Lx ht (hz t hm)))
    cases b with
    |true=>
     obtain⟨g1,k1⟩:=vO x fr M next rs r h hs;exact⟨fin x (λt ht=>fm.2 (.inl ht)) g1 (λR Q a w e h=>wpIn_cond e h),k1⟩
    |false=>
     obtain⟨g1,k1⟩:=vO y fr M next rs r h hs;exact⟨fin y (λt ht=>fm.2 (.inr ht)) g1 (λR Q a w e h=>wpIn_cond e h),k1⟩
   |_=>rw[hc]at h;cases h
  |block id b=>
   simp only[iz]at h;split at h
   ·rename_i r1 h1;injection h with h;subst h;exact Xq h1 hs
   ·cases hb:iz n b fr M next rs with
    |none=>rw[hb]at h;cases h
    |some r1=>
     rw[hb]at h;dsimp only at h;cases hex:r1.ex with
     |normal=>
      rw[hex]at h;injection h with h;subst h;obtain⟨g1,k1⟩:=vO b fr M next rs r1 hb hs;have:=bO (id:=id) g1;rw[show r1.out.ex=Ex.normal from hex]at this;refine⟨?_,k1⟩;have e:r1.out=⟨.normal,r1.fr,r1.M,r1.next⟩:=by unfold jw.out;rw[hex]
      rw[e];exact this
     |ret=>
      rw[hex]at h;injection h with h;subst h;obtain⟨g1,k1⟩:=vO b fr M next rs r1 hb hs;have:=bO (id:=id) g1;rw[show r1.out.ex=Ex.ret from hex]at this;refine⟨?_,k1⟩;have e:r1.out=⟨.ret,r1.fr,r1.M,r1.next⟩:=by unfold jw.out;rw[hex]
      rw[e];exact this
     |exit k=>
      rw[hex]at h;injection h with h;subst h;obtain⟨g1,k1⟩:=vO b fr M next rs r1 hb hs;have:=bO (id:=id) g1;rw[show r1.out.ex=Ex.exit k from hex]at this;exact⟨this,k1⟩
  |loop b=>
   obtain⟨k1,g1⟩:=loop b fr M next rs r h hs;exact⟨λR ι cc a w Q hf hm ha hu hQ=>QB (n+1) (g1 R ι cc a w Q hf hm ha hu hQ),k1⟩
  |_=>simp[iz]at h
end
section
variable{P:j_}{B:ae}{N:Nat}
theorem Xt{QC:aL}{a:Act}(hf:fk B ι (bt fr) N a)(h:∀ p∈QC,bt fr p.1=p.2):fk B ι (bt QC) N a:=by
 refine⟨hf.defers,hf.size,λt=>?_⟩;induction QC with
 |nil=>exact .inl rfl
 |cons p l ih=>
  obtain⟨s,v⟩:=p;by_cases bH:s=t
  ·subst bH;have this:bt fr s=v:=h _ (aN ..);have e:bt ((s,v)::l) s=v:=by simp[bt]
   rw[e,<-this];exact hf.slot s
  ·have e:bt ((s,v)::l) t=bt l t:=by show(if Nat.beq s t then _ else _)=_;rw[nM bH];rfl
   rw[e];exact ih λp hp=>h p (bB _ hp)
theorem ag.to{c:Code}{next:Nat}{r2:kR}(h:ag P B N c fr M next r1)(hex:r1.ex=r2.ex)(lT:∀ p∈r2.fr,bt r1.fr p.1=p.2)
  (hM:∀ p∈r2.M,ah r1.M p.1=some p.2) (hn:r1.next<=r2.next):ag P B N c fr M next r2:=by
 intro R ι cc a w Q hf hm ha hu hQ;refine h R ι cc a w Q hf hm ha hu λbF fV a1 w1 iK gN cP dT du gE iL=>?_;rw[hex];exact hQ bF fV a1 w1 iK (Xt gN lT) cP (λk x hk=>dT k x (hM _ (iy hk))) (λk hk=>du k (c9 hn hk)) gE iL
theorem jx:∀{l m:aC},keys l=keys m->∀ k,(ah l k=none↔ah m k=none)
 |[],[],_,k=>Iff.rfl
 |[],_::_,h,k=>by cases h
 |_::_,[],h,k=>by cases h
 |(i,x)::l,(j,y)::m,h,k=>by
  injection h with h1 h2;dsimp only at h1;subst h1;show(if Nat.beq i k then some x else ah l k)=none↔(if Nat.beq i k then some y else ah m k)=none;cases Nat.beq i k
  ·exact jx h2 k
  ·simp
theorem cg{b:Code}{next:Nat}{r:kR}(n:Nat)(I:Nat->aL)(J:Nat->aC)(kE:∀ i k,i<=n->(ah (J i) k=none↔ah (J 0) k=none))
  (body:∀ i,i<n->ag P B N b (I i) (J i) next ⟨.normal,I (i+1),J (i+1),next⟩) (last:ag P B N b (I n) (J n) next r) (hr:r.ex≠.normal):ag P B N (.loop b) (I 0) (J 0) next r:=by
 intro R ι cc a w Q hf hm ha hu hQ;refine QB (n+1) ?_;have key:∀ d i,i+d=n->∀(bF:Map) (fV:Nat->Option Obj) (a1:Act) (w1:h_),Map.le ι bF->fk B bF (bt (I i)) N a1->aI B bF fV w1->cT fV (J i)->eA fV next->(∀ k,k<next->ah (J 0) k=none->fV k=cc k)->
   (∀ t,tv (.loop b) t=false->a1.tmps.getD t undef=a.tmps.getD t undef)->Code.roundsIn (FW R) 0 P b Q (d+1) a1 w1:=by
  intro d;induction d with
  |zero=>
   intro i hi bF fV a1 w1 iK gN cP dT du gE iL;have:i=n:=by omega
   subst this;rw[DI];refine last R bF fV a1 w1 _ gN cP dT du λdf qa a2 w2 ke iU dz fO ew fT nk=>?_;have:=hQ df qa a2 w2 (iK.trans ke) iU dz fO ew (λk hk h0=>(fT k hk ((kE i k (aZ _)).2 h0)).trans (gE k hk h0)) λt ht=>(nk t ht).trans (iL t ht);show Exit.then _ Q r.ex.zx a2 w2;cases hx:r.ex with
   |normal=>exact absurd hx hr
   |exit id=>rw[hx]at this;exact this
   |ret=>rw[hx]at this;exact this
  |succ d ih=>
   intro i hi bF fV a1 w1 iK gN cP dT du gE iL;rw[DI];refine body i o_ R bF fV a1 w1 _ gN cP dT du λdf qa a2 w2 ke iU dz fO ew fT nk=>?_;exact ih (i+1) o_ df qa a2 w2 (iK.trans ke) iU dz fO ew (λk hk h0=>(fT k hk ((kE i k o_).2 h0)).trans (gE k hk h0)) λt ht=>(nk t ht).trans (iL t ht)
 exact key n 0 o_ ι cc a w (Map.le.refl _) hf hm ha hu (λ_ _ _=>rfl) λ_ _=>rfl
theorem Ik:∀{v v1 v2:i_},aG ι v v1->aG ι v v2->v1=v2:=by
 intro v v1 v2 h;revert v2;apply aG.rec (motive_1:=λv v1 _=>∀ v2,aG ι v v2->v1=v2) (motive_2:=λl l1 _=>∀ l2,bJ (aG ι) l l2->l1=l2) (t:=h)
 case same=>intro v hf v2 h2;exact(h2.eW hf).symm
 case ptr=>
  intro k off b o cap hk v2 h2;obtain⟨b',o',bf,h3,h4⟩:=h2.ux rfl;rw[hk]at h3;injection h3 with h3;injection h3 with h3 h5 _;subst h3;subst h5;rw[h4]
 case slc=>
  intro k off b o n c c' cap hk h1 h2 v2 h3;rcases h3.gK rfl with ⟨h4,_⟩|⟨b',o',bf,c2,h4,_,h6,h7⟩
  ·rw[hk]at h4;cases h4
  ·rw[hk]at h4;injection h4 with h4;injection h4 with h4 h5 h8;subst h4;subst h5;subst h8;rw[h7,show c'=c2 by omega]
 case slcN=>
  intro k hk v2 h3;rcases h3.gK rfl with ⟨_,_,_,_,h4⟩|⟨b',o',bf,c2,h4,_⟩
  ·exact h4.symm
  ·rw[hk]at h4;cases h4
 case opq=>
  intro k v hk h1 h2 v2 h3;cases h3 with
  |same hf=>simp[flat,pT,oA,oz,lh]at hf
  |opq gM _ _=>rw[hk]at gM;injection gM with gM;injection gM
 case fn=>
  intro f fi ju ca gp _ _ QD QE v2 h3;obtain⟨fi2,Xu,e,h4,h5⟩:=h3.zo;rw[e,QD _ h4,QE _ h5]
 case agg=>
  intro cs bW _ ih v2 h3;obtain⟨cs2,e,h4⟩:=h3.Fu;rw[e,ih _ h4]
 case tup=>
  intro cs bW _ ih v2 h3;obtain⟨cs2,e,h4⟩:=h3.tg;rw[e,ih _ h4]
 case nil=>intro l2 h2;cases h2;rfl
 case cons=>
  intro a b l m _ _ QD QE l2 h2;cases h2 with
  |cons h3 h4=>rw[QD _ h3,QE _ h4]
theorem DK{ι:Map}:∀{l l1 l2:ak},bJ (aG ι) l l1->bJ (aG ι) l l2->l1=l2
 |_,_,_,.nil,h=>by cases h;rfl
 |_,_,_,.cons h t,h2=>by cases h2 with|cons h3 t3=>rw[Ik h h3,DK t t3]
def FE(m:Nat)(a:Addr):Bool:=lh a||Nat.blt a.block m
def BB(m:Nat):Value->Bool
 |.pointer (some a)=>FE m a
 |.slice (some a) _ _=>FE m a
 |.agg _=>false
 |.tuple _=>false
 |.func _ _ _=>false
 |_=>true
def BC(m:Nat):Value->Bool
 |.func _ fi ca=>fi.toList.all (BB m)&&ca.toList.all (BB m)
 |v=>BB m v
def DL(m:Nat):Value->Bool
 |.agg cs=>cs.toList.all (BC m)
 |v=>BC m v
def mH(m:Nat):Value->Bool
 |.tuple vs=>vs.toList.all (DL m)
 |v=>DL m v
theorem Lz{v:i_}(h:oz v=true):BB m v=true:=by
 cases v with
 |pointer a=>cases a with
  |none=>rfl
  |some a=>show(lh a||_)=true;rw[show lh a=true from h];rfl
 |slice a n c=>cases a with
  |none=>rfl
  |some a=>show(lh a||_)=true;rw[show lh a=true from h];rfl
 |_=>exact h
theorem LA{v:i_}(h:oA v=true):BC m v=true:=by
 cases v with
 |func f fi ca=>
  simp only[oA,cY,aX]at h;simp only[BC,cY,aX];exact⟨λc hc=>Lz (h.1 c hc),λc hc=>Lz (h.2 c hc)⟩
 |pointer a=>exact Lz (v:=.pointer a) h
 |slice a n c=>exact Lz (v:=.slice a n c) h
 |_=>first|rfl|exact h
theorem Il{v:i_}(h:pT v=true):DL m v=true:=by
 cases v with
 |agg cs=>
  simp only[pT,aX]at h;simp only[DL,aX];exact λc hc=>LA (h c hc)
 |pointer a=>exact LA (v:=.pointer a) h
 |slice a n c=>exact LA (v:=.slice a n c) h
 |func f fi ca=>exact LA (v:=.func f fi ca) h
 |_=>first|rfl|exact h
theorem iM{v:i_}(h:flat v=true):mH m v=true:=by
 cases v with
 |tuple cs=>
  simp only[flat,aX]at h;simp only[mH,aX];exact λc hc=>Il (h c hc)
 |pointer a=>exact Il (v:=.pointer a) h
 |slice a n c=>exact Il (v:=.slice a n c) h
 |func f fi ca=>exact Il (v:=.func f fi ca) h
 |agg cs=>exact Il (v:=.agg cs) h
 |_=>first|rfl|exact h
theorem aG.low(qY:∀ k,k<m->∀ l,ι k=some l->κ k=some l){v:i_}(h:aG ι v v')(hb:mH m v=true):aG κ v v':=by
 have addr:∀(a:Addr) (s:Nat),a.spot=some s->FE m a=true->a.block<m:=by intro a s hs h;unfold FE lh at h;rw[hs]at h;simpa[xP]using h
 have hP:∀ v v',aG ι v v'->BB m v=true->aG κ v v':=by
  intro v v' h hb;cases h with
  |same hf=>exact .same hf
  |ptr hk=>exact .ptr (qY _ (addr _ 7 rfl hb) _ hk)
  |slc hk h1 h2=>exact .slc (qY _ (addr _ 7 rfl hb) _ hk) h1 h2
  |slcN hk=>exact .slcN (qY _ (addr _ 7 rfl hb) _ hk)
  |opq hk h1 h2=>exact .opq (qY _ (addr _ 9 rfl hb) _ hk) h1 h2
  |_=>simp[BB]at hb
 have tf:∀(Q:Value->Bool),(∀ v v',aG ι v v'->Q v=true->aG κ v v')->∀ l l',bJ (aG ι) l l'->(∀ c∈l,Q c=true)->bJ (aG κ) l l':=by
  intro Q hQ l l' h;induction h with
  |nil=>intro _;exact .nil
  |cons h t ih=>
   intro hl;exact .cons (hQ _ _ h (hl _ (aN ..))) (ih λc hc=>hl c (bB _ hc))
 have h0:∀ v v',aG ι v v'->BC m v=true->aG κ v v':=by
  intro v v' h hb;cases h with
  |fn h1 h2=>
   simp only[BC,cY,aX]at hb;exact .fn (tf _ hP _ _ h1 hb.1) (tf _ hP _ _ h2 hb.2)
  |same hf=>exact .same hf
  |ptr hk=>exact hP _ _ (.ptr hk) hb
  |slc hk h1 h2=>exact hP _ _ (.slc hk h1 h2) hb
  |slcN hk=>exact hP _ _ (.slcN hk) hb
  |opq hk h1 h2=>exact hP _ _ (.opq hk h1 h2) hb
  |_=>simp[BC,BB]at hb
 have h1:∀ v v',aG ι v v'->DL m v=true->aG κ v v':=by
  intro v v' h hb;cases h with
  |agg h1=>
   simp only[DL,aX]at hb;exact .agg (tf _ h0 _ _ h1 hb)
  |same hf=>exact .same hf
  |ptr hk=>exact h0 _ _ (.ptr hk) hb
  |slc hk h1 h2=>exact h0 _ _ (.slc hk h1 h2) hb
  |slcN hk=>exact h0 _ _ (.slcN hk) hb
  |opq hk h1 h2=>exact h0 _ _ (.opq hk h1 h2) hb
  |fn h1 h2=>exact h0 _ _ (.fn h1 h2) hb
  |_=>simp[DL,BC,BB]at hb
 cases h with
 |tup h2=>
  simp only[mH,aX]at hb;exact .tup (tf _ h1 _ _ h2 hb)
 |same hf=>exact .same hf
 |ptr hk=>exact h1 _ _ (.ptr hk) hb
 |slc hk q1 q2=>exact h1 _ _ (.slc hk q1 q2) hb
 |slcN hk=>exact h1 _ _ (.slcN hk) hb
 |opq hk q1 q2=>exact h1 _ _ (.opq hk q1 q2) hb
 |fn q1 q2=>exact h1 _ _ (.fn q1 q2) hb
 |agg q1=>exact h1 _ _ (.agg q1) hb
def fW(m:Nat)(x:Obj):Prop:=∀ v∈x.cells,mH m v=true
theorem ij.below(qY:∀ k,k<m->∀ l,ι k=some l->κ k=some l){l:oZ}{x:Obj}(h:ij ι w l x)(hb:fW m x):ij κ w l x:=by
 have tf:∀{l l':ak},bJ (aG ι) l l'->(∀ c∈l,mH m c=true)->bJ (aG κ) l l':=by
  intro l l' h hl;induction h with
  |nil=>exact .nil
  |cons h t ih=>exact .cons (h.low qY (hl _ (aN ..))) (ih λc hc=>hl c (bB _ hc))
 cases x with
 |aH cells ty=>obtain⟨b,bW,h1,h2,h3⟩:=h;exact⟨b,bW,h1,tf h2 hb,h3⟩
 |row cells ty size=>
  rcases h with h|⟨b,cap,cur,h1,h2,h3,h4,h5⟩
  ·exact .inl h
  ·exact .inr ⟨b,cap,cur,h1,h2,h3,h4,tf h5 hb⟩
 |view cells=>
  rcases h with h|⟨b,o,cap,bW,h1,h2,h3⟩
  ·exact .inl h
  ·exact .inr ⟨b,o,cap,bW,h1,tf h2 hb,h3⟩
 |fact F=>exact h
 |dead=>trivial
theorem ag.reset{c:Code}{next:Nat}{r2:kR}(h:ag P B N c fr M next r1)(hex:r1.ex=r2.ex)(lT:∀ p∈r2.fr,bt r1.fr p.1=p.2)(LB:∀ p∈r2.fr,mH next p.2=true)
  (hM:∀ p∈r2.M,ah r1.M p.1=some p.2) (QF:∀ p∈r2.M,fW next p.2) (LC:∀ p∈r2.M,p.1<next) (hn:next<=r2.next):ag P B N c fr M next r2:=by
 intro R ι cc a w Q hf hm ha hu hQ;refine h R ι cc a w Q hf hm ha hu λbF fV a1 w1 iK gN cP dT du gE iL=>?_;rw[hex];have qY:∀ k,k<next->∀ l,bF k=some l->(λk=>if k<next then bF k else none) k=some l:=λk hk l e=>by simp[hk,e]
 have zH:∀ k l,(λk=>if k<next then bF k else none) k=some l->k<next/\bF k=some l:=λk l e=>by
  dsimp only at e;split at e
  ·rename_i hk;exact⟨hk,e⟩
  ·cases e
 generalize (λk=>if k<next then bF k else none)=κ at qY zH;have hle:Map.le ι κ:=λk l e=>by
  have hk:k<next:=by
   rcases eQ k next with h|h
   ·exact h
   ·rw[hm.dp k (hu k h)]at e;cases e
  exact qY k hk l (iK k l e)
 -- what is kept: what Xv not looked at,and what is known;the rest is dead
 have aFP:∃ c2:Nat->Option Obj,(∀ k,c2 k=none↔(next<=k\/fV k=none))/\(∀ k x,c2 k=some x->x=.dead\/(fV k=some x/\((ah M k=none)\/ah r2.M k=some x)))/\(∀ k x,ah r2.M k=some x->c2 k=some x)/\(∀ k,k<next->ah M k=none->ah r2.M k=none->c2 k=fV k):=by
  refine⟨λk=>if k<next then(match fV k with|none=>none|some x=>match ah r2.M k with|some y=>some y|none=>match ah M k with|none=>some x|some _=>some .dead)else none,?_,?_,?_,?_⟩
  ·intro k;dsimp only;by_cases hk:k<next
   ·rw[aq hk];cases hc:fV k with
    |none=>simp
    |some x=>cases h2:ah r2.M k<;>cases h3:ah M k<;>simp<;>omega
   ·rw[al hk];simp;left;omega
  ·intro k x hx;dsimp only at hx;split at hx
   ·cases hc:fV k with
    |none=>rw[hc]at hx;cases hx
    |some y=>
     rw[hc]at hx;dsimp only at hx;cases h2:ah r2.M k with
     |some z=>
      rw[h2]at hx;injection hx with hx;subst hx;have:=dT k z (hM _ (iy h2));rw[hc]at this;exact .inr ⟨this,.inr rfl⟩
     |none=>
      rw[h2]at hx;dsimp only at hx;cases h3:ah M k with
      |none=>rw[h3]at hx;injection hx with hx;subst hx;exact .inr ⟨rfl,.inl rfl⟩
      |some z=>rw[h3]at hx;injection hx with hx;exact .inl hx.symm
   ·cases hx
  ·intro k x hx;have h1:=dT k x (hM _ (iy hx));have h2:=LC _ (iy hx);dsimp only at h2 ⊢;rw[aq h2,h1];dsimp only;rw[hx]
  ·intro k hk h1 h2;dsimp only;rw[aq hk];cases hc:fV k with
   |none=>rfl
   |some x=>rw[h2,h1]
 obtain⟨c2,d1,d2,d3,d4⟩:=aFP;have DM:∀ k x,c2 k=some x->x.owns=true->fV k=some x:=λk x hk hx=>by
  rcases d2 k x hk with rfl|⟨h1,_⟩
  ·cases hx
  ·exact h1
 have dz:aI B κ c2 w1:=by
  refine⟨cP.base,?_,?_,?_,?_,?_,?_,?_,?_,hm.qR.trans hle⟩
  ·intro k hk;cases aFQ:κ k with
   |none=>rfl
   |some l=>
    obtain⟨q1,q2⟩:=zH k l aFQ;rcases(d1 k).1 hk with q|q
    ·omega
    ·rw[cP.dp k q]at q2;cases q2
  ·intro k x hk;have qb:k<next:=by
    rcases eQ k next with h|h
    ·exact h
    ·rw[(d1 k).2 (.inl h)]at hk;cases hk
   have fU:∃ y,fV k=some y:=by
    cases hc:fV k with
    |some y=>exact⟨y,rfl⟩
    |none=>rw[(d1 k).2 (.inr hc)]at hk;cases hk
   obtain⟨y,hy⟩:=fU;obtain⟨l,q1,q2⟩:=cP.born k y hy;refine⟨l,qY k qb l q1,?_⟩;rcases d2 k x hk with rfl|⟨h1,h2⟩
   ·trivial
   ·rw[hy]at h1;injection h1 with h1;subst h1;rcases h2 with h2|h2
    ·-- as it Xv
     have e0:cc k=some y:=(gE k qb h2).symm.trans hy;obtain⟨l0,p1,p2⟩:=hm.born k y e0;have p3:=iK k l0 p1;rw[q1]at p3;injection p3 with p3;subst p3;cases y with
     |aH cells ty=>
      obtain⟨b,bW,e1,e2,e3⟩:=q2;obtain⟨b0,Xw,f1,f2,f3⟩:=p2;rw[e1]at f1;injection f1 with f1 _ _;subst f1;have:bW=Xw:=DK e2 (mC iK f2);subst this;exact⟨b,bW,e1,mC hle f2,e3⟩
     |row cells ty size=>
      rcases q2 with q2|⟨b,cap,cur,e1,e2,e3,e4,e5⟩
      ·exact .inl q2
      ·rcases p2 with p2|⟨b0,aFR,aSr,f1,f2,f3,f4,f5⟩
       ·rw[e1]at p2;cases p2.1
       ·have:=DK e5 (mC iK f5);exact .inr ⟨b,cap,cur,e1,e2,e3,e4,by rw[this];exact mC hle f5⟩
     |view cells=>
      rcases q2 with q2|⟨b,o,cap,bW,e1,e2,e3⟩
      ·exact .inl q2
      ·rcases p2 with p2|⟨b0,o0,aFR,Xw,f1,f2,f3⟩
       ·rw[e1]at p2;cases p2.1
       ·have:=DK e2 (mC iK f2);subst this;exact .inr ⟨b,o,cap,bW,e1,mC hle f2,e3⟩
     |fact F=>exact q2
     |dead=>trivial
    ·exact q2.below qY (QF _ (iy h2))
  ·intro k x b o cap hk hx hl;exact cP.own k x b o cap (DM k x hk hx) hx (zH k _ hl).2
  ·intro i j x y b o1 c1 o3 c3 hi hx hj hy hl cW;exact cP.inj i j x y b o1 c1 o3 c3 (DM i x hi hx) hx (DM j y hj hy) hy (zH i _ hl).2 (zH j _ cW).2
  ·intro i j x F b o cap v hi hx hl hj hv;have gA:fV j=some (.fact F):=by
    rcases d2 j _ hj with h|⟨h,_⟩
    ·cases h
    ·exact h
   exact cP.apart i j x F b o cap v (DM i x hi hx) hx (zH i _ hl).2 gA (zH j _ hv).2
  ·intro k x b o cap hk hx hl;have aFS:fV k=some x:=by
    rcases d2 k x hk with rfl|⟨h1,_⟩
    ·cases hx
    ·exact h1
   obtain⟨q1,q2⟩:=cP.seen k x b o cap aFS hx (zH k _ hl).2;exact⟨q1,λj y o' bf hj hy hm=>q2 j y o' bf (DM j y hj hy) hy (zH j _ hm).2⟩
  ·intro j F hj;rcases d2 j _ hj with h|⟨h,_⟩
   ·cases h
   ·exact cP.fa j F h
  ·intro i j F F' hi hj;rcases d2 i _ hi with h|⟨h,_⟩
   ·cases h
   ·rcases d2 j _ hj with h'|⟨h',_⟩
    ·cases h'
    ·exact cP.one i j F F' h h'
 refine hQ κ c2 a1 w1 hle ⟨gN.defers,gN.size,λt=>?_⟩ dz (λk x hk=>d3 k x hk) (λk hk=>(d1 k).2 (.inl (c9 hn hk))) (λk hk h1=>?_) iL
 ·have hs:=(Xt gN lT).slot t;have:∀(l:aL),(∀ p∈l,mH next p.2=true)->mZ bF (bt l t) (a1.tmps.getD t undef)->mZ κ (bt l t) (a1.tmps.getD t undef):=by
   intro l;induction l with
   |nil=>intro _ _;exact .inl rfl
   |cons p l ih=>
    intro hl hc;obtain⟨s,v⟩:=p;by_cases bH:s=t
    ·subst bH;have e:bt ((s,v)::l) s=v:=by simp[bt]
     rw[e]at hc ⊢;exact hc.imp id λhc=>hc.low qY (hl _ (aN ..))
    ·have e:bt ((s,v)::l) t=bt l t:=by show(if Nat.beq s t then _ else _)=_;rw[nM bH];rfl
     rw[e]at hc ⊢;exact ih (λp hp=>hl p (bB _ hp)) hc
  exact this r2.fr LB hs
 ·cases h2:ah r2.M k with
  |none=>rw[d4 k hk h1 h2,gE k hk h1]
  |some x=>rw[d3 k x h2,<-gE k hk h1];exact(dT k x (hM _ (iy h2))).symm
end
section
variable{P:j_}{B:ae}{N:Nat}
def LD(P:j_)(fr:aL)(M:aC):ResultVar->Option Value
 |.tmp t=>if lN (bt fr t)then none else some (bt fr t)
 |.cell t ty=>match bt fr t with
  |.pointer (some ad)=>if lM ad then(match ah M ad.block with|some x=>if x.reads then dB P ty x.cells ad.off else none|none=>none)else none
  |_=>none
def Im(P:j_)(fr:aL)(M:aC):List ResultVar->Option ak
 |[]=>some []
 |r::l=>match LD P fr M r with
  |some v=>match Im P fr M l with|some vs=>some (v::vs)|none=>none
  |none=>none
def zJ(P:j_)(fn:Func)(fr:aL)(M:aC):Option Value:=
 match Im P fr M fn.results.toList with
 |some [v]=>some v
 |some vs=>some (.tuple vs.toArray)
 |none=>none
def rv(tmps:p_):ResultVar->Sem Value
 |.tmp t=>pure (tmps.getD t undef)
 |.cell x t=>do loadVar t (<-asAddr (tmps.getD x undef))
theorem aFT{cc:Nat->Option Obj}{a:Act}(hf:fk B ι (bt fr) N a)(hm:aI B ι cc w)(ha:cT cc M){r:ResultVar}{v:i_}
  (h:LD P fr M r=some v):∃ v',aG ι v v'/\(rv a.tmps r).run P w=.ok v' w:=by
 cases r with
 |tmp t=>
  unfold LD at h;dsimp only at h;split at h
  ·cases h
  ·rename_i hn;injection h with h;subst h;exact⟨_,(hf.slot t).zp (by simpa using hn),rfl⟩
 |cell t ty=>
  unfold LD at h;dsimp only at h;split at h
  ·rename_i ad hx;split at h
   ·rename_i ek;split at h
    ·rename_i x hblk;split at h
     ·rename_i hrd;have hc:=hf.slot t;rw[hx]at hc;have hc:=hc.zp rfl;rw[Bq ek]at hc;obtain⟨v',a',he,rZ,o8⟩:=Ws hm (ha _ _ hblk) hrd h hc;refine⟨v',rZ,?_⟩;unfold rv;dsimp only;rw[he];simp[asAddr,o8]
     ·cases h
    ·cases h
   ·cases h
  ·cases h
theorem Xx{ι:Map}{cc:Nat->Option Obj}{fr:aL}{M:aC}{a:Act}{w:h_}(hf:fk B ι (bt fr) N a)(hm:aI B ι cc w)(ha:cT cc M):∀(l:List ResultVar) {vs:ak},
  Im P fr M l=some vs->∃ cU,bJ (aG ι) vs cU/\(l.mapM (rv a.tmps)).run P w=.ok cU w
 |[],vs,h=>by injection h with h;subst h;exact⟨[],.nil,rfl⟩
 |r::l,vs,h=>by
  unfold Im at h;split at h
  ·rename_i v hv;split at h
   ·rename_i vs1 aK;injection h with h;subst h;obtain⟨v',hc,o8⟩:=aFT hf hm ha hv;obtain⟨cU,e7,aFU⟩:=Xx hf hm ha l aK;refine⟨v'::cU,.cons hc e7,?_⟩;rw[Io,H3,o8,Result.andThen_ok,H3,aFU,Result.andThen_ok];rfl
   ·cases h
  ·cases h
theorem LF{cc:Nat->Option Obj}{a:Act}(hf:fk B ι (bt fr) N a)(hm:aI B ι cc w)(ha:cT cc M){v:i_}
  (h:zJ P fn fr M=some v):∃ v',aG ι v v'/\(results fn a.tmps).run P w=.ok v' w:=by
 unfold zJ at h;cases hr:Im P fr M fn.results.toList with
 |none=>rw[hr]at h;cases h
 |some vs=>
  obtain⟨cU,e7,o8⟩:=Xx hf hm ha _ hr;have e:(results fn a.tmps).run P w=.ok (if h:cU.toArray.size=1 then cU.toArray[0]else .tuple cU.toArray) w:=by
   have e0:results fn a.tmps=(do let vs <-fn.results.mapM (rv a.tmps);pure (if h:vs.size=1 then vs[0]else .tuple vs)):=by
    unfold results
    congr 1
   rw[e0];rw[Array.mapM_eq_mapM_toList,H3,Sem.run_map,o8];rfl
  rw[e];rw[hr]at h;cases e7 with
  |nil=>injection h with h;subst h;exact⟨_,.same rfl,by simp⟩
  |cons h1 t1=>
   cases t1 with
   |nil=>injection h with h;subst h;exact⟨_,h1,by simp⟩
   |cons h2 t2=>injection h with h;subst h;exact⟨_,.tup (.cons h1 (.cons h2 t2)),by simp⟩
def jL:Nat->ak->aL
 |_,[]=>[]
 |i,v::l=>(i,v)::jL (i+1) l
theorem LG{ι:Map}:∀{l l':ak},bJ (aG ι) l l'->∀(i t:Nat) (tail:ak),mZ ι (bt (jL i l) t) (if i<=t then(l'++tail).getD (t-i) undef else undef)\/lN (bt (jL i l) t)=true
 |_,_,.nil,i,t,tail=>.inr rfl
 |_,_,.cons (a:=v) (b:=v') (l:=l) (m:=m) h k,i,t,tail=>by
  by_cases uI:i=t
  ·subst uI;left;right;have e:bt (jL i (v::l)) i=v:=by simp[jL,bt]
   rw[e];simpa using h
  ·have e:bt (jL i (v::l)) t=bt (jL (i+1) l) t:=by show(if Nat.beq i t then _ else _)=_;rw[nM uI];rfl
   rw[e];rcases LG k (i+1) t tail with h1|h1
   ·left;by_cases av:i+1<=t
    ·rw[aq av]at h1;rw[aq o_];have:t-i=(t-(i+1))+1:=by omega
     rw[this];simpa using h1
    ·by_cases hle:i<=t
     ·omega
     ·rw[al av]at h1;rw[al hle];exact h1
   ·exact .inr h1
theorem Xy{c:Code}{Q:Exit->Act->World->Prop}{a:Act}{n:Nat}(h:c.wpIn (FW none) n P Q a w):c.wp P Q a w:=wpIn_wide.1 h
theorem aFV{c:Code}{next:Nat}{r:kR}{v:i_}{cc:Nat->Option Obj}
  (hf:P.funcs[f]?=some fn) (hb:fn.body=some c) (hN:N=args.length+(fn.ntmps-args.length)) (g:ag P B N c (jL 0 args) M next r) (hex:(match r.ex with|.exit _=>false|_=>true)=true)
  (hv:zJ P fn r.fr r.M=some v) (dw:bJ (aG ι) args args') (hm:aI B ι cc w) (ha:cT cc M) (hu:eA cc next)
  (hQ:∀ ao bP v' w',Map.le ι ao->aG ao v v'->aI B ao bP w'->cT bP r.M->eA bP r.next->(∀ k,k<next->ah M k=none->bP k=cc k)->Q (.returned v') w') (lV:B.ds=[]:=by rfl):Calls P f args'.toArray w Q:=by
 refine calls_of_wp hf hb ?_;have lT:fk B ι (bt (jL 0 args)) N { tmps:=args'.toArray++Array.replicate (fn.ntmps-args'.toArray.size) undef,defers:=[]}:=by
  refine⟨lV.symm,by simp[hN,dw.length],λt=>?_⟩;rcases LG dw 0 t (List.replicate (fn.ntmps-args'.length) undef)with h|h
  ·simp only[kB,pV,FF]at h;have e:(args'.toArray++Array.replicate (fn.ntmps-args'.toArray.size) undef).getD t undef=(args'++List.replicate (fn.ntmps-args'.length) undef).getD t undef:=by simp[pb,Dw,<-Array.getElem?_toList]
   dsimp only;rw[e];exact h
  ·exact .inl h
 refine Xy (g none ι cc _ w _ lT hm ha hu λao bP a' w' hle vN bh il oB gM _=>by
  obtain⟨v',hc,o8⟩:=LF (fn:=fn) vN bh il hv;have fin:=hQ ao bP v' w' hle hc bh il oB gM;cases hx:r.ex with
  |normal=>exact⟨vN.defers.trans lV,v',o8,fin⟩
  |ret=>exact⟨vN.defers.trans lV,v',o8,fin⟩
  |exit id=>rw[hx]at hex;cases hex)
def gu(fn:Func)(n:Nat)(args:ak)(M:aC)(next:Nat)(rs:bK P B N):Option (Value×jw P B N):=
 match fn.body with
 |some c=>match iz n c (jL 0 args) M next rs with
  |some r=>match (match r.ex with|.exit _=>none|_=>zJ P fn r.fr r.M)with
   |some v=>some (v,r)
   |none=>none
  |none=>none
 |none=>none
def nO(o:Option (Value×jw P B N))(ms:aC):Bool×Option (Value×List (Option Obj)×List ni):=
 match o with
 |some r=>(true,some (r.1,ms.map λp=>ah r.2.M p.1,r.2.tr.map (·.1)))
 |none=>(true,none)
def nP(o:Option (Value×jw P B N))(v:i_)(ms:aC):Bool×Option (Value×List (Option Obj)×List ni):=
 match o with
 |some r=>(true,some (v,ms.map λp=>some p.2,r.2.tr.map (·.2)))
 |none=>(false,none)
theorem LH:∀{tr:uF},tr.map (·.1)=tr.map (·.2)->qT tr
 |[],_=>λp hp=>by cases hp
 |q::l,h=>by
  simp only[qc]at h;injection h with h1 h2;intro p hp;rcases ch.1 hp with rfl|hp
  ·exact h1
  ·exact LH h2 p hp
theorem LI{M:aC}:∀{ms:aC},(ms.map λp=>ah M p.1)=(ms.map λp=>some p.2)->∀ p∈ms,ah M p.1=some p.2
 |[],_=>λp hp=>by cases hp
 |q::l,h=>by
  simp only[qc]at h;injection h with h1 h2;intro p hp;rcases ch.1 hp with rfl|hp
  ·exact h1
  ·exact LI h2 p hp
theorem QG{next:Nat}{rs:bK P B N}{v:i_}{cc:Nat->Option Obj}(gV:P.follows .mixedOrders=true)
  (hf:P.funcs[f]?=some fn) (hN:N=args.length+(fn.ntmps-args.length)) (n:Nat) (h:nO (gu (P:=P) fn n args M next rs) ms=nP (gu fn n args M next rs) v ms)
  (dw:bJ (aG ι) args args') (hm:aI B ι cc w) (ha:cT cc M) (hu:eA cc next)
  (hQ:∀ ao bP v' w',Map.le ι ao->aG ao v v'->aI B ao bP w'->(∀ p∈ms,bP p.1=some p.2)->(∀ k,k<next->ah M k=none->bP k=cc k)->Q (.returned v') w') (lV:B.ds=[]:=by rfl):Calls P f args'.toArray w Q:=by
 cases ho:gu (P:=P) fn n args M next rs with
 |none=>rw[ho]at h;cases h
 |some r=>
  rw[ho]at h;unfold nO nP at h;dsimp only at h;injection h with _ h;injection h with h;injection h with h1 h;injection h with h2 h3;have hs:=LH h3;have dD:=LI h2;unfold gu at ho;split at ho
  ·rename_i c hb;split at ho
   ·rename_i r' hr;split at ho
    ·rename_i v' hv;injection ho with ho;subst ho;dsimp only at h1 hs dD;subst h1;have g:=((QA (P:=P) (B:=B) (N:=N) gV n).1 c _ M next rs r' hr hs).1;have hex:(match r'.out.ex with|.exit _=>false|_=>true)=true:=by
      show(match r'.ex with|.exit _=>false|_=>true)=true;cases hx:r'.ex with
      |exit id=>rw[hx]at hv;cases hv
      |normal=>rfl
      |ret=>rfl
     have oC:zJ P fn r'.out.fr r'.out.M=some v':=by
      show zJ P fn r'.fr r'.M=some v';cases hx:r'.ex with
      |exit id=>rw[hx]at hv;cases hv
      |normal=>rw[hx]at hv;exact hv
      |ret=>rw[hx]at hv;exact hv
     exact aFV hf hb hN g hex oC dw hm ha hu (λao bP v2 w' hle hc bh il oB gM=>hQ ao bP v2 w' hle hc bh (λp hp=>il _ _ (dD p hp)) gM) lV
    ·cases ho
   ·cases ho
  ·cases ho
theorem tA{next:Nat}{rs:bK P B N}{v:i_}{cc:Nat->Option Obj}(gV:P.follows .mixedOrders=true)
  (hf:P.funcs[f]?=some fn) (hN:N=args.length+(fn.ntmps-args.length)) (n:Nat) (h:nO (gu (P:=P) fn n args M next rs) ms=nP (gu fn n args M next rs) v ms)
  (dw:bJ (aG ι) args args') (hm:aI B ι cc w) (ha:cT cc M) (hu:eA cc next)
  (hQ:∀ ao bP v' w',Map.le ι ao->aG ao v v'->aI B ao bP w'->(∀ p∈ms,bP p.1=some p.2)->Q (.returned v') w') (lV:B.ds=[]:=by rfl):Calls P f args'.toArray w Q:=
 QG gV hf hN n h dw hm ha hu (λao bP v' w' h1 h2 h3 h4 _=>hQ ao bP v' w' h1 h2 h3 h4) lV
def Ip(o:Option (jw P B N))(fr:aL)(M:aC):Bool×Option (Ex×ak×List (Option Obj)×Bool×List ni):=
 match o with
 |some r=>(true,some (r.ex,fr.map λp=>bt r.fr p.1,M.map λp=>ah r.M p.1,true,r.tr.map (·.1)))
 |none=>(true,none)
def Iq(o:Option (jw P B N))(ex:Ex)(fr:aL)(M:aC)(next:Nat):Bool×Option (Ex×ak×List (Option Obj)×Bool×List ni):=
 match o with
 |some r=>(true,some (ex,fr.map λp=>p.2,M.map λp=>some p.2,Nat.ble r.next next,r.tr.map (·.2)))
 |none=>(false,none)
theorem LJ{zF:aL}:∀{fr:aL},(fr.map λp=>bt zF p.1)=(fr.map λp=>p.2)->∀ p∈fr,bt zF p.1=p.2
 |[],_=>λp hp=>by cases hp
 |q::l,h=>by
  simp only[qc]at h;injection h with h1 h2;intro p hp;rcases ch.1 hp with rfl|hp
  ·exact h1
  ·exact LJ h2 p hp
theorem fo(gV:P.follows .mixedOrders=true){c:Code}{next:Nat}(n:Nat)(rs:bK P B N){r:kR}
  (h:Ip (iz n c fr M next rs) r.fr r.M=Iq (iz n c fr M next rs) r.ex r.fr r.M r.next):ag P B N c fr M next r:=by
 cases ho:iz n c fr M next rs with
 |none=>rw[ho]at h;cases h
 |some r1=>
  rw[ho]at h;unfold Ip Iq at h;dsimp only at h;injection h with _ h;injection h with h;injection h with h1 h;injection h with h2 h;injection h with h3 h;injection h with h4 h5;obtain⟨g,_⟩:=(QA (P:=P) (B:=B) (N:=N) gV n).1 c fr M next rs r1 ho (LH h5);exact g.to h1 (LJ h2) (LI h3) (o7 h4.symm)
theorem vP(gV:P.follows .mixedOrders=true){c:Code}{next:Nat}(n:Nat)(rs:bK P B N){r:kR}{gg:Nat}
  (h:Ip (iz n c fr M next rs) r.fr r.M=Iq (iz n c fr M next rs) r.ex r.fr r.M gg) (hn:r.next=next) (LB:(r.fr.all λp=>mH next p.2)=true) (QF:∀ p∈r.M,fW next p.2) (LC:(r.M.all λp=>Nat.blt p.1 next)=true) :
  ag P B N c fr M next r:=by
 cases ho:iz n c fr M next rs with
 |none=>rw[ho]at h;cases h
 |some r1=>
  rw[ho]at h;unfold Ip Iq at h;dsimp only at h;injection h with _ h;injection h with h;injection h with h1 h;injection h with h2 h;injection h with h3 h;injection h with h4 h5;obtain⟨g,_⟩:=(QA (P:=P) (B:=B) (N:=N) gV n).1 c fr M next rs r1 ho (LH h5);rw[aX]at LB LC;exact g.reset h1 (LJ h2) LB (LI h3) QF (λp hp=>by simpa[xP]using LC p hp) (uA hn.symm)
def aB(P:j_)(f:FuncId)(args:ak)(res:i_):Prop:=
 ∀ w:World,Calls P f args.toArray w λe w'=>e=.returned res/\Below w.heap.size w w'
theorem sj(w:h_):aI (ae.at w) (λ_=>none) (λ_=>none) w:=
 ⟨Below.refl _ _,λ_ _=>rfl,λk x h=>(by cases h),λk x b o cap h=>(by cases h),λk j x y b o cap o' bf h=>(by cases h),λk j x F b o cap v h=>(by cases h),λk x b o cap h=>(by cases h),λj F h=>(by cases h),λj k F F' h=>(by cases h),λ_ _ h=>(by cases h)⟩
theorem eX{v:i_}(gV:P.follows .mixedOrders=true)(hf:P.funcs[f]?=some fn)(n:Nat)(rs:∀ w,bK P (ae.at w) (args.length+(fn.ntmps-args.length)))
  (h:∀ w,nO (gu (P:=P) fn n args [] 0 (rs w)) []=nP (gu fn n args [] 0 (rs w)) v []) (dw:args.all flat=true) (hv:flat v=true):aB P f args v:=by
 intro w;rw[aX]at dw;exact tA gV hf rfl n (h w) (j7 dw) (sj w) n_ (λ_ _=>rfl) λao bP v' w' _ hc hm _=>⟨by rw[hc.eW hv],hm.base⟩
def aB.at(h:aB P f args res)(key:Nat):aO P B N:=.call key f args res λw _=>h w
end
def cZ(w:h_)(v:i_)(n:Nat)(xs:ak):Prop:=
 (v=.slice none 0 0/\n=0/\xs=[])\/∃ b o c',v=.slice (some ⟨b,o,none⟩) n c'/\n<=c'/\b<w.heap.size/\∀ j u,xs[j]?=some u->w.cell? ⟨b,o+j,none⟩=some u
section
variable{P:j_}{B:ae}{N:Nat}
theorem cZ.jd{v:i_}{n:Nat}(h:cZ w v n xs)(hb:Below w.heap.size w w'):cZ w' v n xs:=by
 rcases h with h|⟨b,o,c',h1,h2,h3,h4⟩
 ·exact .inl h
 ·exact .inr ⟨b,o,c',h1,h2,cy h3 hb.size,λj u hj=>by rw[hb.cell h3];exact h4 j u hj⟩
theorem cZ.Xz{base:Nat}{v:i_}{n:Nat}(h:w.ownsRow base ty size v n xs):cZ w v n xs:=by
 rcases h.2 with ⟨h1,h2⟩|⟨g,cap,cur,h1,h2,h3,h4,h5,h6,h7⟩
 ·have:=h.1;rw[h2,kT]at this;exact .inl ⟨h1,h2,j9 this⟩
 ·refine .inr ⟨g,0,cap,h1,h4,(zK.1 h3).1,λj u hj=>?_⟩;rw[<-h7,tj]at hj;split at hj
  ·have:cur[j]?=some u:=by simpa using hj
   simp[World.cell?,h3,this]
  ·cases hj
theorem nQ(hm:aI B ι c w){n:Nat}{x:Obj}{v:i_}(hk:c k=some x)(hx:x.reads=true)(cA:∀ u∈x.cells,flat u=true)
  (hlen:n=0->len=0) (hc:aG ι (.slice (some ⟨k,off,some 7⟩) n cc) v):cZ w v n ((x.cells.drop off).take len):=by
 rcases hc.gK rfl with ⟨hb,jV,pa,xK,he⟩|⟨b,oo,cap,c',hb,kQ,lP,he⟩
 ·exact .inl ⟨he,jV,by rw[hlen jV];rfl⟩
 ·dsimp only at hb he;obtain⟨l,h1,h2⟩:=hm.born k x hk;rw[hb]at h1;injection h1 with h1;subst h1;obtain⟨bW,e7,kA⟩:=h2.at hx;have e7:=mD e7 cA;subst e7;refine .inr ⟨b,oo+off,c',he,kQ,?_,λj u hj=>?_⟩
  ·by_cases ho:x.owns=true
   ·exact(hm.own k x b oo cap hk ho hb).1
   ·have hv:x.jc=true:=by unfold Obj.reads at hx;rw[qV]at hx;exact hx.resolve_left ho
    exact(hm.seen k x b oo cap hk hv hb).1
  ·rw[tj]at hj;split at hj
   ·rw[Fw]at hj;rw[tt];exact kA _ _ hj
   ·cases hj
theorem xT(hm:aI B ι c w){n:Nat}{v:i_}(hk:c k=none)(h:cZ w v n xs)(cA:∀ u∈xs,flat u=true)
  (fP:∀ b o c',v=.slice (some ⟨b,o,none⟩) n c'->∀ j y o' bf,c j=some y->y.owns=true->ι j≠some (.at b o' bf)) :
  ∃ ao,Map.le ι ao/\aI B ao (aT c k (.view xs)) w/\aG ao (.slice (some ⟨k,0,some 7⟩) n 0) v:=by
 rcases h with ⟨h1,h2,h3⟩|⟨b,o,c',h1,h2,h3,h4⟩
 ·subst h1;subst h2;subst h3;exact⟨dy ι k .nil,fZ (hm.dp k hk),hm.add hk (.inl ⟨rfl,rfl⟩) n_ n_ n_,.slcN (fj _ _ _)⟩
 ·subst h1;refine⟨dy ι k (.at b o c'),fZ (hm.dp k hk),hm.add hk (.inr ⟨b,o,c',xs,rfl,j7 cA,h4⟩) n_ n_ (λb1 o1 kz _ e=>?_),.slc (off:=0) (fj _ _ _) h2 o_⟩;injection e with e1 e2 e3;subst e1;exact⟨h3,λj y o' bf hj hy=>fP b o c' rfl j y o' bf hj hy⟩
theorem DN(hm:aI B ι c w)(hb:Below w.heap.size w w'){n:Nat}{v:i_}(hk:c k=none)(h:w'.ownsRow w.heap.size ty size v n xs)(cA:∀ u∈xs,flat u=true):
  ∃ ao,Map.le ι ao/\aI B ao (aT c k (.row xs ty size)) w'/\aG ao (.slice (some ⟨k,0,some 7⟩) n 0) v:=by
 have bh:=hm.call hb;rcases h.2 with ⟨h1,h2⟩|⟨g,cap,cur,h1,h2,h3,h4,h5,h6,h7⟩
 ·have hl:=h.1;rw[h2,kT]at hl;have hx:xs=[]:=j9 hl;subst h1;subst h2;subst hx;exact⟨dy ι k .nil,fZ (hm.dp k hk),bh.add hk (.inl ⟨rfl,rfl⟩) n_ n_ n_,.slcN (fj _ _ _)⟩
 ·subst h1;refine⟨dy ι k (.at g 0 cap),fZ (hm.dp k hk),hm.new hb hk (.inr ⟨g,cap,cur,rfl,h3,h5,h6,?_⟩) (λb o cap _ e=>?_) n_ rfl,.slc (o:=0) (off:=0) (fj _ _ _) h4 o_⟩
  ·rw[h.1,h7];exact j7 cA
  ·injection e with e1 e2 e3;subst e1;exact⟨h2,(zK.1 h3).1⟩
theorem XA(hm:aI B ι c w)(hb:Below w.heap.size w w'){n:Nat}{v:i_}(hk:c k=none)(h:w'.ownsRow w.heap.size ty size v n xs)(cA:∀ u∈xs,flat u=true):
  ∃ ao,Map.le ι ao/\aI B ao (aT c k (.view xs)) w'/\aG ao (.slice (some ⟨k,0,some 7⟩) n 0) v:=by
 refine xT (hm.call hb) hk (.Xz h) cA λb o c' e j y o' bf hj hy he=>?_;have h1:=(hm.own j y b o' bf hj hy he).1;rcases h.2 with ⟨h2,_⟩|⟨g,cap,cur,h2,h3,_⟩
 ·rw[h2]at e;cases e
 ·rw[h2]at e;injection e with e1 e2;injection e1 with e1;injection e1 with e1;omega
theorem uJ(hm:aI (ae.at w) ι c w'){n:Nat}{cells:ak}{v:i_}(hk:c k=some (.row cells ty size))(hv:aG ι (.slice (some ⟨k,0,some 7⟩) n 0) v)
  (hn:n*size<=cells.length) (cA:∀ u∈cells,flat u=true):w'.ownsRow w.heap.size ty size v n (cells.take (n*size)):=by
 have hl:(cells.take (n*size)).length=n*size:=by rw[je];omega
 refine⟨hl,?_⟩;rcases hv.gK rfl with ⟨hb,jV,pa,xK,he⟩|⟨b,oo,cap,c',hb,kQ,lP,he⟩
 ·exact .inl ⟨he,jV⟩
 ·dsimp only at hb he;have lR:c'=cap:=by omega
  subst lR;obtain⟨l,h1,h2⟩:=hm.born k _ hk;rw[hb]at h1;injection h1 with h1;subst h1;have ek:=hm.own k _ b oo c' hk rfl hb;rcases h2 with h2|⟨b',bf,cur,e1,lk,dC,e7,jI⟩
  ·cases h2.1
  ·injection e1 with e1 e2 e3;subst e1;subst e2;subst e3;refine .inr ⟨b,c',cur,by rw[he],?_,lk,kQ,dC,e7,?_⟩
   ·rcases eQ b w.heap.size with h|h
    ·exact absurd h ek.2
    ·exact h
   ·have:=mD jI cA;have h3:=b9 (List.take (n*size)) this;rw[Li,mE hn]at h3;exact h3
inductive cq where
 |plain (v:i_)
 |row (v:i_) (n:Nat) (xs:ak)
def cq.real:cq->Value
 |.plain v=>v
 |.row v _ _=>v
def cq.OK(w:h_):cq->Prop
 |.plain v=>flat v=true
 |.row v n xs=>cZ w v n xs/\∀ u∈xs,flat u=true
def qZ:Nat->List cq->ak
 |_,[]=>[]
 |k,.plain v::l=>v::qZ k l
 |k,.row _ n _::l=>.slice (some ⟨k,0,some 7⟩) n 0::qZ (k+1) l
def tB:Nat->List cq->aC
 |_,[]=>[]
 |k,.plain _::l=>tB k l
 |k,.row _ _ xs::l=>(k,.view xs)::tB (k+1) l
def sk:Nat->List cq->Nat
 |k,[]=>k
 |k,.plain _::l=>sk k l
 |k,.row _ _ _::l=>sk (k+1) l
theorem QH{w:h_}:∀(l:List cq) (k:Nat) (ι:Map) (c:Nat->Option Obj),aI B ι c w->(∀ j x,c j=some x->x.owns=false)->eA c k->(∀ s∈l,cq.OK w s)->
  ∃ ao c',Map.le ι ao/\aI B ao c' w/\(∀ j x,c' j=some x->x.owns=false)/\eA c' (sk k l)/\cT c' (tB k l)/\(∀ j,j<k->c' j=c j)/\bJ (aG ao) (qZ k l) (l.map cq.real)/\k<=sk k l
 |[],k,ι,c,hm,ho,hu,_=>⟨ι,c,Map.le.refl _,hm,ho,hu,λk x h=>(by cases h),λ_ _=>rfl,.nil,aZ _⟩
 |.plain v::l,k,ι,c,hm,ho,hu,hl=>by obtain⟨ao,c',h1,h2,h3,h4,h5,h6,h7,h8⟩:=QH l k ι c hm ho hu λs hs=>hl s (bB _ hs);exact⟨ao,c',h1,h2,h3,h4,h5,h6,.cons (.same (hl _ (aN ..))) h7,h8⟩
 |.row v n xs::l,k,ι,c,hm,ho,hu,hl=>by
  obtain⟨hr,cA⟩:=hl _ (aN ..);obtain⟨bF,q1,q2,q3⟩:=xT hm (hu k (aZ _)) hr cA λb o c' _ j y o' bf hj hy=>by rw[ho j y hj]at hy;cases hy
  obtain⟨ao,c',h1,h2,h3,h4,h5,h6,h7,h8⟩:=QH l (k+1) bF _ q2 (λj x hj=>by
   unfold aT at hj;split at hj
   ·injection hj with hj;subst hj;rfl
   ·exact ho j x hj) (λj hj=>by
   unfold aT;rw[al o_];exact hu j o_) λs hs=>hl s (bB _ hs)
  refine⟨ao,c',q1.trans h1,h2,h3,h4,λj x hj=>?_,λj hj=>?_,.cons (q3.mono h1) h7,by show k<=sk (k+1) l;omega⟩
  ·unfold tB ah at hj;split at hj
   ·rename_i hb;injection hj with hj;subst hj;rw[<-jK hb,h6 k o_];unfold aT;rw[aq rfl]
   ·exact h5 j x hj
  ·rw[h6 j o_];unfold aT;rw[al o_]
theorem kU{v:i_}(gV:P.follows .mixedOrders=true)(hf:P.funcs[f]?=some fn)(l:List cq)(hl:∀ s∈l,cq.OK w s)(n:Nat){N:Nat}(hN:N=(qZ 0 l).length+(fn.ntmps-(qZ 0 l).length))
  {rs:bK P (ae.at w) N}
  (h:nO (gu (P:=P) fn n (qZ 0 l) (tB 0 l) (sk 0 l) rs) ms=nP (gu fn n (qZ 0 l) (tB 0 l) (sk 0 l) rs) v ms)
  (hQ:∀ ao bP v' w',aG ao v v'->aI (ae.at w) ao bP w'->(∀ p∈ms,bP p.1=some p.2)->bJ (aG ao) (qZ 0 l) (l.map cq.real)->Q (.returned v') w'):Calls P f (l.map cq.real).toArray w Q:=by
 obtain⟨ι,c,h1,h2,h3,h4,h5,h6,h7,h8⟩:=QH (B:=ae.at w) l 0 _ _ (sj w) n_ (λ_ _=>rfl) hl;exact tA gV hf hN n h h7 h2 h5 h4 λao bP v' w' hle hc hm dD=>hQ ao bP v' w' hc hm dD (h7.imp λ_ _ _ h=>h.mono hle)
def da:Op->Option Operand
 |.call ⟨.value x,_,_⟩=>some x
 |_=>none
theorem jy{fi:ak}{val:i_}{cK:aC}(ho:da o.op=some x)(eB:fN P f=true)
  (h:∀ ι c w,aI B ι c w->(∀ p∈need,c p.1=p.2)->∀ args',bJ (aG ι) (fi++args++ca) args'->Calls P f args'.toArray w λe w'=>∃ ao v',e=.returned v'/\Map.le ι ao/\aG ao val v'/\aI B ao (kP c cK) w') :
  ct P B o (.func (.func f) fi.toArray ca.toArray::args) need val cK:=by
 intro R ι c a w hv hm hn K Q hK;obtain⟨dst,op,ty,pos,after,guard⟩:=o;dsimp only at ho hv;unfold da at ho;split at ho
 ·rename_i x' kC vH;injection ho with ho;subst ho;have xI:(Op.operands (.call ⟨.value x',kC,vH⟩)).toList=x'::kC.toList:=by simp[Op.operands,Call.operands]
  rw[xI]at hv;cases hv with
  |cons hx qS=>
  obtain⟨ju,gp,he,h1,h2⟩:=hx.zo;have aU:=(h1.append qS).append h2;dsimp only at aU;have e3:execOp a.eval ⟨dst,.call ⟨.value x',kC,vH⟩,ty,pos,after,guard⟩=callFunc f (ju++kC.map a.eval++gp):=by have:execOp a.eval ⟨dst,.call ⟨.value x',kC,vH⟩,ty,pos,after,guard⟩=(do let d <-Deferred.ofValue (a.eval x') (kC.map a.eval);invoke d.target d.args):=rfl;rw[this,he];rfl
  have e4:(ju++kC.map a.eval++gp:p_)=(ju.toList++List.map a.eval kC.toList++gp.toList).toArray:=by apply Dr;simp
  refine⟨λ_ _=>trivial,?_⟩;rw[Lb _ _ _ n_,e3,e4,Lp eB,Oper.uponIn_enter];refine⟨λe=>(by cases e),H8.2 ((h ι c w hm hn _ aU).mono ?_)⟩
  rintro e w' ⟨ao,v',rfl,q1,q2,q3⟩
  exact hK ao v' w' q1 q2 q3
 ·cases ho
end
def xU:Code->Nat->Option Oper
 |.region _ ops _,k=>ops.toList.find? λo=>Nat.beq (Lo o) k
 |.seq x y,k=>match xU x k with|some o=>some o|none=>xU y k
 |.cond _ x y,k=>match xU x k with|some o=>some o|none=>xU y k
 |.block _ b,k=>xU b k
 |.loop b,k=>xU b k
 |.scope b,k=>xU b k
 |.rangeFunc _ _ x y,k=>match xU x k with|some o=>some o|none=>xU y k
 |_,_=>none
def au(fn:Func)(k:Nat):Oper:=match fn.body with|some c=>(match xU c k with|some o=>o|none=>default)|none=>default
def xV:Code->Nat->Option Code
 |.seq x y,k=>match xV x k with|some o=>some o|none=>xV y k
 |.cond _ x y,k=>match xV x k with|some o=>some o|none=>xV y k
 |.block id b,k=>if Nat.beq id k then some b else xV b k
 |.loop b,k=>xV b k
 |.scope b,k=>xV b k
 |.rangeFunc _ _ x y,k=>match xV x k with|some o=>some o|none=>xV y k
 |_,_=>none
def af(fn:Func)(k:Nat):Code:=match fn.body with|some c=>(match xV c k with|some o=>o|none=>.skip)|none=>.skip
def aE(c:Code):Code:=match c with|.loop b=>b|_=>.skip
section
variable{P:j_}{B:ae}{N:Nat}
def vI(n:Nat):Value:=.int .i64 n
def aO.sum(key i j s:Nat)(h:s=i+j)(hs:s<9223372036854775808):aO P B N:=
 .rw key (.int .i64 (IntKind.i64.wrap ((i:Int)+(j:Int)))) (vI s) (by
  have e:IntKind.i64.wrap ((i:Int)+(j:Int))=(s:Int):=by rw[dO];omega
  rw[e];rfl)
def aO.eO(key i j s:Nat)(h:i=s+j)(hs:i<9223372036854775808):aO P B N:=
 .rw key (.int .i64 (IntKind.i64.wrap ((i:Int)-(j:Int)))) (vI s) (by
  have e:IntKind.i64.wrap ((i:Int)-(j:Int))=(s:Int):=by rw[dO];omega
  rw[e];rfl)
def aO.lt(key i n:Nat)(b:Bool)(h:decide (i<n)=b):aO P B N:=
 .rw key (.bool (decide ((i:Int)<(n:Int)))) (.bool b) (by rw[<-h];congr 1;rw[pe];omega)
def aO.gt(key i n:Nat)(b:Bool)(h:decide (n<i)=b):aO P B N:=
 .rw key (.bool (decide ((i:Int)>(n:Int)))) (.bool b) (by rw[<-h];congr 1;rw[pe];omega)
def aO.ge(key i n:Nat)(b:Bool)(h:decide (n<=i)=b):aO P B N:=
 .rw key (.bool (decide ((i:Int)>=(n:Int)))) (.bool b) (by rw[<-h];congr 1;rw[pe];omega)
def aO.fX(key i n:Nat)(b:Bool)(h:decide (i=n)=b):aO P B N:=
 .rw key (.bool ((i:Int)==(n:Int))) (.bool b) (by
  rw[<-h];congr 1
  by_cases hi:i=n
  ·subst hi;simp
  ·have:¬((i:Int)=(n:Int)):=by omega
   rw[aQ hi];simpa using this)
def aO.wr(key:Nat)(k:IntKind)(m m':Int)(h:k.wrap m=m'):aO P B N:=.rw key (.int k (k.wrap m)) (.int k m') (by rw[h])
def aO.quo(key:Nat)(k:IntKind)(m m':Int)(h:m=m'):aO P B N:=.rw key (.int k m) (.int k m') (by rw[h])
def vQ(P:j_)(o:Oper):Option Nat:=match o.op with
 |.indexAddr t _ _=>match P.underlying t with|some (.slice e)=>(match P.info? e with|some i=>some i.size|none=>none)|_=>none
 |_=>none
theorem LK{s:Nat}(ho:vQ P o=some s){n:Nat}{kd:IntKind}(hi:i<n):
  ct P B o [.slice (some ⟨k,off,some 7⟩) n cc,.int kd i] [] (.pointer (some ⟨k,off+i*s,some 7⟩)) []:=by
 unfold vQ at ho;split at ho
 ·rename_i t x y bM;split at ho
  ·rename_i e ht;split at ho
   ·rename_i inf zr;injection ho with ho;have:=Wz (P:=P) (B:=B) bM ht zr (kd:=kd) (n:=(i:Int)) (len:=n) (cc:=cc) o_ o_ k off;rw[Int.toNat_natCast,ho]at this;exact this.step
   ·cases ho
  ·cases ho
 ·cases ho
def aO.ix(fn:Func)(key k n i:Nat)(hi:i<n)(ho:vQ P (au fn key)=some 1):aO P B N:=
 .step key (au fn key) [.slice (some ⟨k,0,some 7⟩) n 0,vI i] [] (.pointer (some ⟨k,i,some 7⟩)) [] (by have:=LK (B:=B) ho (k:=k) (off:=0) (cc:=0) (kd:=.i64) hi;rw[jv,fY]at this;exact this)
def aO.vR(fn:Func)(key k off n cc i:Nat)(hi:i<n)(ho:vQ P (au fn key)=some 1):aO P B N:=
 .step key (au fn key) [.slice (some ⟨k,off,some 7⟩) n cc,vI i] [] (.pointer (some ⟨k,off+i,some 7⟩)) [] (by have:=LK (B:=B) ho (k:=k) (off:=off) (cc:=cc) (kd:=.i64) hi;rw[fY]at this;exact this)
def aO.de(fn:Func)(key k n i s:Nat)(hi:i<n)(ho:vQ P (au fn key)=some s):aO P B N:=
 .step key (au fn key) [.slice (some ⟨k,0,some 7⟩) n 0,vI i] [] (.pointer (some ⟨k,i*s,some 7⟩)) [] (by have:=LK (B:=B) ho (k:=k) (off:=0) (cc:=0) (kd:=.i64) hi;rw[jv]at this;exact this)
def QI(o:Oper):Option TypeId:=match o.op with|.load t _=>some t|_=>none
theorem aFW{t:TypeId}(ho:QI o=some t){x:Obj}{v:i_}(hx:x.reads=true)(hv:dB P t x.cells off=some v):ct P B o [.pointer (some ⟨k,off,some 7⟩)] [(k,some x)] v []:=by
 unfold QI at ho;split at ho
 ·rename_i t' y bM;injection ho with ho;subst ho;exact(Wu bM hx hv).step
 ·cases ho
def aO.ld(fn:Func)(key t k off:Nat)(x:Obj)(v:i_)(hx:x.reads=true)(hv:dB P t x.cells off=some v)(ho:QI (au fn key)=some t):aO P B N:=
 .step key (au fn key) [.pointer (some ⟨k,off,some 7⟩)] [(k,some x)] v [] (aFW ho hx hv)
def XB(o:Oper):Option TypeId:=match o.op with|.store t _ _=>some t|_=>none
def aO.st(fn:Func)(key t k off:Nat)(x:Obj)(v:i_)(y:Obj)(hx:x.owns=true)(hv:eM P t x.cells off v=some y.cells)(hy:y=x.La y.cells)(ho:XB (au fn key)=some t):aO P B N:=
 .step key (au fn key) [.pointer (some ⟨k,off,some 7⟩),v] [(k,some x)] undef [(k,y)] (by
  unfold XB at ho;split at ho
  ·rename_i t' a b bM;injection ho with ho;subst ho;rw[hy];exact(Wv bM hx hv).step
  ·cases ho)
def LL(P:j_)(o:Oper):Option (TypeId×Nat×Nat×Value):=match o.op with
 |.makeSlice t _ _=>match P.underlying t with
  |some (.slice e)=>(match P.info? e with|some i=>(match i.zero with|some z=>some (e,i.size,i.bytes,z)|none=>none)|none=>none)
  |_=>none
 |_=>none
def aO.pf(fn:Func)(key k n e bytes:Nat)(z:i_)(cells:ak)(hc:List.replicate n z=cells)(hf:flat z=true)(hz:z.cells=#[z])(hb:bytes*n<=281474976710656)(hn:n<=maxLen)(ho:LL P (au fn key)=some (e,1,bytes,z)):aO P B N:=
 .step key (au fn key) [vI n,vI n] [(k,none)] (.slice (some ⟨k,0,some 7⟩) n 0) [(k,.row cells e 1)] (by
  subst hc;unfold LL at ho;split at ho
  ·rename_i t a b bM;split at ho
   ·rename_i e' ht;split at ho
    ·rename_i i hi;split at ho
     ·rename_i z' lj;injection ho with ho;injection ho with h1 ho;injection ho with h2 ho;injection ho with h3 h4;subst h1;subst h4;have:=WB (P:=P) (B:=B) bM ht hi lj (kl:=.i64) (kc:=.i64) (l:=n) (cp:=n) (aZ _) (by rw[h3];exact hb) hn (cells:=List.replicate n z') (by rw[h2,fY,hz,toList_madeCells_one,jN s_]) (by rw[h2];simp) (λv hv=>by rw[List.eq_of_mem_replicate hv];exact hf) k
      rw[h2]at this;exact this.step
     ·cases ho
    ·cases ho
   ·cases ho
  ·cases ho)
def rf(P:j_)(o:Oper):Option (Bool×Bool×Nat):=match o.op with
 |.slice t _ lo hi none=>match P.underlying t with
  |some (.slice e)=>(match P.info? e with|some i=>some (lo.isSome,hi.isSome,i.size)|none=>none)
  |_=>none
 |_=>none
theorem FG{lo hi:Bool}{s:Nat}(ho:rf P o=some (lo,hi,s)){n l h:Nat}(hl:lo=false->l=0)(hh:hi=false->h=n)(Ld:l<=h)(WA:h<=n)(hz:l<h\/l=0):
  ct P B o (.slice (some ⟨k,off,some 7⟩) n cc::((if lo then[vI l]else[])++(if hi then[vI h]else[]))) [] (.slice (some ⟨k,off+l*s,some 7⟩) (h-l) (cc+l)) []:=by
 unfold rf at ho;split at ho
 ·rename_i t x BD gU bM;split at ho
  ·rename_i e ht;split at ho
   ·rename_i i QJ;injection ho with ho;injection ho with h1 ho;injection ho with h2 h3;have:=aFq (P:=P) (B:=B) bM ht QJ (k:=k) (off:=off) (n:=n) (cc:=cc) (l:=l) (h:=h) (λe=>hl (by rw[<-h1,e];rfl)) (λe=>hh (by rw[<-h2,e];rfl)) Ld WA hz;rw[h3]at this;have e1:bound BD l=if lo then[vI l]else[]:=by rw[<-h1];cases BD<;>rfl
    have e2:bound gU h=if hi then[vI h]else[]:=by rw[<-h2];cases gU<;>rfl
    rw[e1,e2]at this;exact this.step
   ·cases ho
  ·cases ho
 ·cases ho
def aO.upto(fn:Func)(key k n h s:Nat)(hh:h<=n)(ho:rf P (au fn key)=some (false,true,s)):aO P B N:=
 .step key (au fn key) [.slice (some ⟨k,0,some 7⟩) n 0,vI h] [] (.slice (some ⟨k,0,some 7⟩) h 0) [] (by have:=FG (B:=B) ho (k:=k) (off:=0) (n:=n) (cc:=0) (l:=0) (h:=h) (λ_=>rfl) n_ (kB _) hh (.inr rfl);simpa using this)
end
def aa(B n a:Nat):List Nat:=(List.range n).map λi=>a/B^i%B
def nd(B a:Nat):Nat:=if h:2<=B/\a≠0 then nd B (a/B)+1 else 0
termination_by a
decreasing_by exact XC (sn h.2) h.1
section
variable{B:Nat}
theorem nR(n a:Nat):(aa B n a).length=n:=by simp[aa]
theorem dV{n:Nat}(h:i<n):(aa B n a)[i]?=some (a/B^i%B):=by simp[aa,h]
theorem Ir{n:Nat}(h:m<=n):(aa B n a).take m=aa B m a:=by unfold aa;rw[<-BE,List.take_range,mE h]
theorem qd:nd B 0=0:=by unfold nd;simp
theorem QK(hB:2<=B)(ha:a≠0):nd B a=nd B (a/B)+1:=by rw[nd,dif_pos ⟨hB,ha⟩]
theorem dL(hB:2<=B):∀ a,a<B^nd B a:=by
 intro a;induction a using Nat.strongRecOn with
 |_ a ih=>
  by_cases ha:a=0
  ·subst ha;rw[qd];simp
  ·rw[QK hB ha,dh];have:=ih (a/B) (XC (sn ha) hB);exact(gY o_).1 this
theorem iN(hB:2<=B):∀{a n:Nat},a<B^n->nd B a<=n:=by
 intro a;induction a using Nat.strongRecOn with
 |_ a ih=>
  intro n h;by_cases ha:a=0
  ·subst ha;rw[qd];omega
  ·cases n with
   |zero=>simp at h;omega
   |succ n=>
    rw[QK hB ha];rw[dh]at h;have:=ih (a/B) (XC (sn ha) hB) (n:=n) ((gY o_).2 h);omega
theorem XD(hB:2<=B){n:Nat}(h:n<nd B a):B^n<=a:=by
 rcases eQ a (B^n)with h1|h1
 ·have:=iN hB h1;omega
 ·exact h1
theorem iO(hB:2<=B)(h:a<=b):nd B a<=nd B b:=iN hB (eP h (dL hB b))
theorem vS(hB:2<=B)(h:a≠0):0<nd B a:=by rw[QK hB h];omega
theorem DO{n:Nat}(h:a<B^(n+1)):a/B^n%B=a/B^n:=by
 refine dG ?_;have hp:0<B^n:=by
  rcases nr B with hB|hB
  ·subst hB;simp at h
  ·exact cE hB
 rw[gY hp,cH,<-dh];exact h
theorem FH(hB:2<=B){n:Nat}(h:a<B^(n+1)):a/B^n%B=0↔a<B^n:=by
 rw[DO h,Nat.div_eq_zero_iff];have:B^n≠0:=by have:=cE (n:=n) (show 0<B by omega);omega
 exact⟨λh=>h.resolve_left this,.inr⟩
def eC(B a b i:Nat):Nat:=(a%B^i+b%B^i)/B^i
def dW(B n i a:Nat):List Nat:=(List.range n).map λj=>if j<i then a/B^j%B else 0
theorem LM(n i a:Nat):(dW B n i a).length=n:=by simp[dW]
theorem QL(n a:Nat):dW B n 0 a=List.replicate n 0:=by apply vT<;>simp[dW]
theorem FI(n a:Nat):dW B n n a=aa B n a:=by unfold dW aa;exact vM λj hj=>by rw[aq (kf.1 hj)]
theorem LN{n:Nat}(h:i<n)(hd:d=a/B^i%B):(dW B n i a).set i d=dW B n (i+1) a:=by
 subst hd;apply vT
 ·simp[dW]
 ·intro j h1 h2;simp only[dW,gF,zL]at h2;rw[FJ];simp only[dW,BF,BG];by_cases hj:i=j
  ·subst hj;simp
  ·rw[al hj];by_cases h3:j<i
   ·rw[aq h3,aq o_]
   ·rw[al h3,al o_]
theorem oF(a i:Nat):a%B^(i+1)=a%B^i+a/B^i%B*B^i:=by rw[dh,LO];rw[cH]
theorem LP(a b:Nat):eC B a b 0=0:=by simp[eC,su]
theorem DP(hB:0<B)(a b i:Nat):(a/B^i%B+b/B^i%B+eC B a b i)/B=eC B a b (i+1):=by
 unfold eC;rw[oF a i,oF b i];have hp:0<B^i:=cE hB;have e:a%B^i+a/B^i%B*B^i+(b%B^i+b/B^i%B*B^i)=(a%B^i+b%B^i)+(a/B^i%B+b/B^i%B)*B^i:=by rw[e8];omega
 rw[e,dh,<-kg,oG _ _ hp,lW]
theorem FK(hB:0<B)(a b i:Nat):(a/B^i%B+b/B^i%B+eC B a b i)%B=(a+b)/B^i%B:=by
 unfold eC;have hp:0<B^i:=cE hB;have e:(a+b)/B^i=a/B^i+b/B^i+(a%B^i+b%B^i)/B^i:=by
  have h1:=iP a (B^i);have h2:=iP b (B^i);have e2:a+b=(a%B^i+b%B^i)+(a/B^i+b/B^i)*B^i:=by rw[e8,cH (a/B^i),cH (b/B^i)];omega
  conv=>lhs;rw[e2]
  rw[oG _ _ hp];omega
 rw[e];rw[Nat.add_mod (a/B^i+b/B^i),Nat.add_mod (a/B^i%B+b/B^i%B),<-Nat.add_mod (a/B^i)]
theorem zM(hB:0<B)(a b i:Nat):eC B a b i<=1:=by
 unfold eC;have hp:0<B^i:=cE hB;have h1:=cC a hp;have h2:=cC b hp;have:(a%B^i+b%B^i)/B^i<2:=by rw[gY hp];omega
 omega
theorem gG(hB:0<B)(a i:Nat):a/B^i%B<B:=cC _ hB
theorem qe(h:a<B^m)(hi:m<=i)(hB:0<B):a/B^i%B=0:=by rw[lq (cy h (cX hB hi))];simp
theorem QM{n:Nat}(ha:a<B^n)(hb:b<B^n):eC B a b n=(a+b)/B^n:=by unfold eC;rw[dG ha,dG hb]
def kh(B a b i:Nat):Nat:=if a%B^i<b%B^i then 1 else 0
theorem QN(a b:Nat):kh B a b 0=0:=by simp[kh,su]
theorem LQ(a b i:Nat):kh B a b i<=1:=by unfold kh;split<;>omega
theorem QO(hB:0<B)(a b i:Nat):(if a/B^i%B<b/B^i%B+kh B a b i then 1 else 0)=kh B a b (i+1):=by
 unfold kh;rw[oF a i,oF b i];have hp:0<B^i:=cE hB;have h1:=cC a hp;have h2:=cC b hp;generalize a%B^i=r at *;generalize b%B^i=s at *;generalize a/B^i%B=x at *;generalize b/B^i%B=y at *;generalize B^i=p at *;have lt:∀ u v:Nat,u<v->u*p+p<=v*p:=λu v h=>by rw[<-tC];exact eR _ h
 have le:∀ u v:Nat,u<=v->u*p<=v*p:=λu v h=>eR _ h;by_cases Is:r<s
 ·rw[aq Is];by_cases jX:x<y+1
  ·have:=le x y o_;rw[aq jX,aq o_]
  ·have:=lt y x o_;rw[al jX,al o_]
 ·rw[al Is];by_cases jX:x<y+0
  ·have:=lt x y o_;rw[aq jX,aq o_]
  ·have:=le y x o_;rw[al jX,al o_]
theorem QP(hB:0<B)(bX:b<=a)(i:Nat):(a/B^i%B+2*B-b/B^i%B-kh B a b i)%B=(a-b)/B^i%B:=by
 unfold kh;have hp:0<B^i:=cE hB;have h1:=cC a hp;have h2:=cC b hp;have ea:=iP a (B^i);have eb:=iP b (B^i);generalize hA:a/B^i=A at *;generalize hA':b/B^i=A' at *;generalize a%B^i=r at *;generalize b%B^i=s at *;generalize B^i=p at *;have lt:∀ u v:Nat,u<v->p*u+p<=p*v:=λu v h=>by rw[<-LR];exact iX _ h
 have hx:=cC A hB;have hy:=cC A' hB;have dA:=iP A B;have dA':=iP A' B
 -- the quotient of the aSs
 have key:∀ br:Nat,br=(if r<s then 1 else 0)->A'+br<=A/\(a-b)/p=A-A'-br:=by
  intro br It;by_cases Is:r<s
  ·rw[aq Is]at It;subst It;have LS:A'<A:=by
    rcases eQ A' A with h|h
    ·exact h
    ·have:=iX p h;omega
   refine⟨LS,?_⟩;have e:a-b=(p+r-s)+p*(A-A'-1):=by
    have:=lt A' A LS;have e2:p*A=p*A'+p+p*(A-A'-1):=by rw[<-LR,<-nS];congr 1;omega
    omega
   rw[e,Iu _ _ hp,lq o_,jv]
  ·rw[al Is]at It;subst It;have LS:A'<=A:=by
    rcases eQ A A' with h|h
    ·have:=lt A A' h;omega
    ·exact h
   refine⟨LS,?_⟩;have e:a-b=(r-s)+p*(A-A'):=by
    have e2:p*A=p*A'+p*(A-A'):=by rw[<-nS];congr 1;omega
    omega
   rw[e,Iu _ _ hp,lq o_,jv];rfl
 have It:(if r<s then 1 else 0)<=1:=by split<;>omega
 obtain⟨k1,k2⟩:=key _ rfl;rw[k2];generalize (if r<s then 1 else 0)=br at *;have e:A%B+2*B-A'%B-br+B*(A/B)=(A-A'-br)+B*(A'/B+2):=by rw[nS];omega
 have:=b9 (·%B) e;simpa only[DQ]using this
theorem xW(p:Nat->Prop)[DecidablePred p]:∀ n,p n->∃ e,e<=n/\p e/\∀ j,j<e->¬p j
 |0,h=>⟨0,aZ _,h,λj hj=>by omega⟩
 |n+1,h=>by
  by_cases h0:p 0
  ·exact⟨0,by omega,h0,λj hj=>by omega⟩
  ·obtain⟨e,h1,h2,h3⟩:=xW (λj=>p (j+1)) n h;refine⟨e+1,by omega,h2,λj hj=>?_⟩;cases j with
   |zero=>exact h0
   |succ j=>exact h3 j o_
def cQ(B n i s p:Nat):List Nat:=(List.range n).map λj=>if j<i then s/B^j%B else p/B^j%B
theorem vU(n i s p:Nat):(cQ B n i s p).length=n:=by simp[cQ]
theorem BH{n s p:Nat}(hj:j<n)(h:i<=j):(cQ B n i s p)[j]?=some (p/B^j%B):=by simp[cQ,hj];omega
theorem xX{n s p:Nat}(h:i<n)(hd:d=s/B^i%B):(cQ B n i s p).set i d=cQ B n (i+1) s p:=by
 subst hd;apply vT
 ·simp[cQ]
 ·intro j h1 h2;simp only[cQ,gF,zL]at h2;rw[FJ];simp only[cQ,BF,BG];by_cases hj:i=j
  ·subst hj;simp
  ·rw[al hj];by_cases h3:j<i
   ·rw[aq h3,aq o_]
   ·rw[al h3,al o_]
theorem aFX(hB:0<B)(p t i:Nat):(p+t)/B^i=p/B^i+t/B^i+eC B p t i:=by
 have hp:0<B^i:=cE hB;unfold eC;have h1:=iP p (B^i);have h2:=iP t (B^i);have e2:p+t=(p%B^i+t%B^i)+(p/B^i+t/B^i)*B^i:=by rw[e8,cH (p/B^i),cH (t/B^i)];omega
 conv=>lhs;rw[e2]
 rw[oG _ _ hp];omega
theorem XE(hB:0<B)(n at' p c:Nat):cQ B n at' (p+c*B^at') p=aa B n p:=by
 unfold cQ aa;refine vM λj _=>?_;by_cases h:j<at'
 ·rw[aq h];have e:B^at'=B^j*(B*B^(at'-j-1)):=by rw[<-Nat.pow_succ',<-dX];congr 1;omega
  rw[e,show c*(B^j*(B*B^(at'-j-1)))=B^j*(B*(c*B^(at'-j-1)))by rw[lX,lX c B],Iu _ _ (cE hB),DQ]
 ·rw[al h]
theorem aFY(hB:0<B)(at' p c:Nat):eC B p (c*B^at') at'=0:=by unfold eC;rw[XF,iJ,lq (cC _ (cE hB))]
theorem aFZ(hB:0<B){n p t:Nat}(ht:t<B^i)(hc:eC B p t i=0):cQ B n i (p+t) p=aa B n (p+t):=by
 unfold cQ aa;refine vM λj _=>?_;by_cases h:j<i
 ·rw[aq h]
 ·rw[al h];have e:=aFX hB p t i;rw[hc,lq ht,iJ]at e;have e2:B^j=B^i*B^(j-i):=by rw[<-dX];congr 1;omega
  rw[e2,<-kg,<-kg,e]
theorem aF0(hB:0<B)(at' c:Nat):c*B^at'/B^at'%B=c%B:=by rw[QQ _ (cE hB)]
theorem aF1(hB:0<B){at' c:Nat}(h:c<B*B):c*B^at'/B^(at'+1)%B=c/B:=by rw[dh,<-kg,QQ _ (cE hB)];exact dG ((gY hB).2 h)
theorem aF2(hB:0<B){at' c:Nat}(h:c<B*B):c*B^at'<B^(at'+2):=by rw[dh,dh,fq,cH];exact XG h (cE hB)
def part(B a b i k:Nat):Nat:=(a%B^i)*b+a/B^i%B*(b%B^k)*B^i
theorem BI(a b i:Nat):part B a b i 0=(a%B^i)*b:=by simp[part,su]
theorem XH(a b i k:Nat):part B a b i (k+1)=part B a b i k+a/B^i%B*(b/B^k%B)*B^(i+k):=by
 unfold part;rw[oF b k,dX,nS,e8,tt]
 congr 2
 simp only[cH,lX]
theorem aF3(hb:b<B^m):part B a b i m=part B a b (i+1) 0:=by
 rw[BI,oF a i];unfold part;rw[dG hb,e8]
 congr 1
 simp only[cH,lX]
theorem XI(hB:0<B)(a b i k:Nat):part B a b i k<=a*b:=by
 have h1:a%B^(i+1)<=a:=Iv _ _;have h2:part B a b i k<=(a%B^(i+1))*b:=by
  rw[oF a i];unfold part;rw[e8];refine Nat.add_le_add_left ?_ _;have h3:b%B^k<=b:=Iv _ _;have:=iX (a/B^i%B) h3;have:=eR (B^i) this
  calc _<=_:=this
   _=_:=by simp only[cH,lX]
 exact c9 h2 (eR _ h1)
theorem XJ{n:Nat}(hB:0<B)(ha:a<B^n)(hb:b<B^m):a*b<B^(n+m+1):=by
 have h1:a*b<B^(n+m):=by rw[dX];exact pg ha hb
 exact cy h1 (cX hB o_)
theorem XK(hB:0<B)(hd:0<d)(lY:d<=B)(a j:Nat):(a/B^(j+1)%d*B+a/B^j%B)/d=(a/d)/B^j%B/\(a/B^(j+1)%d*B+a/B^j%B)%d=a/B^j%d:=by
 have e1:a/B^(j+1)=a/B^j/B:=by rw[dh,kg]
 have e2:a/d/B^j=a/B^j/d:=by rw[kg,kg,cH]
 rw[e1,e2];generalize a/B^j=c;have h1:=iP c B;have h2:=iP (c/B) d;have h3:c/B%d<d:=cC _ hd;have h4:c%B<B:=cC _ hB;have h5:c=(c/B%d*B+c%B)+d*(B*(c/B/d)):=by
  have:B*(c/B)=B*(d*(c/B/d)+c/B%d):=by rw[h2]
  rw[nS,lX]at this;rw[cH (c/B%d)];omega
 have h6:(c/B%d*B+c%B)/d<B:=by rw[gY hd];have:=eR B (show c/B%d+1<=d by omega);rw[e8,ph]at this;rw[cH B d];omega
 constructor
 ·conv=>rhs;rw[h5]
  rw[Iu _ _ hd,DQ,dG h6]
 ·conv=>rhs;rw[h5]
  rw[DQ]
def gh(B n i a:Nat):List Nat:=(List.range n).map λj=>if j<i then 0 else a/B^j%B
theorem LU(n i a:Nat):(gh B n i a).length=n:=by simp[gh]
theorem LV(n a:Nat):gh B n n a=List.replicate n 0:=by
 apply vT
 ·simp[gh]
 ·intro j h1 h2;simp only[gh,gF,zL]at h1;simp[gh,h1]
theorem Iw(n a:Nat):gh B n 0 a=aa B n a:=by unfold gh aa;exact vM λj _=>by rw[al o_]
theorem LW{n:Nat}(h:j<n)(hd:d=a/B^j%B):(gh B n (j+1) a).set j d=gh B n j a:=by
 subst hd;apply vT
 ·simp[gh]
 ·intro i h1 h2;simp only[gh,gF,zL]at h2;rw[FJ];simp only[gh,BF,BG];by_cases hi:j=i
  ·subst hi;simp
  ·rw[al hi];by_cases h3:i<j
   ·rw[aq h3,aq o_]
   ·rw[al h3,al o_]
theorem vV(a j:Nat):a/B^j=a/B^(j+1)*B+a/B^j%B:=by have:=iP (a/B^j) B;rw[kg,<-dh,cH]at this;exact this.symm
theorem XL{n:Nat}(ha:a<B^n)(hb:b<B^n)(t:Nat)(ht:t<=n)(h:∀ s,s<t->a/B^(n-1-s)%B=b/B^(n-1-s)%B):a/B^(n-t)=b/B^(n-t):=by
 induction t with
 |zero=>rw[FF,lq ha,lq hb]
 |succ t ih=>
  have ih:=ih o_ λs hs=>h s o_;have e:n-t=(n-(t+1))+1:=by omega
  rw[e]at ih;have h1:=h t o_;rw[show n-1-t=n-(t+1)by omega]at h1;rw[vV (B:=B) a,vV (B:=B) b,ih,h1]
theorem LX(h:a/B^(j+1)=b/B^(j+1))(av:a/B^j%B<b/B^j%B):a<b:=by
 have h1:a/B^j<b/B^j:=by rw[vV (B:=B) a,vV (B:=B) b,h];omega
 rcases eQ a b with h2|h2
 ·exact h2
 ·have:=Nat.div_le_div_right (c:=B^j) h2;omega
end
theorem mixed:prog.follows .mixedOrders=true:=by kernel_rfl
def aM(x:Nat):Value:=.int .u32 (x:Int)
def ai(l:l_):ak:=l.map aM
theorem e9(l:l_):∀ u∈ai l,flat u=true:=λu hu=>by obtain⟨x,_,rfl⟩:=dq.1 hu;rfl
theorem ki{l:l_}{x:Nat}(h:l[i]?=some x):(ai l)[i]?=some (aM x):=by simp[ai,h]
abbrev base:Nat:=4294967296
theorem ft(cells:ak)(i:Nat):dB prog 172 cells i=cells[i]?:=by kernel_rfl
theorem ay{c:Code}{next:Nat}(rs:bK prog B N){r:kR}(h:Ip (iz 100 c fr M next rs) r.fr r.M=Iq (iz 100 c fr M next rs) r.ex r.fr r.M r.next:=by kernel_rfl):ag prog B N c fr M next r:=fo mixed 100 rs h
theorem aF4{n:Nat}(hm:m+1<=n)(ha:a<base^m)(h63:n<=9223372036854775807):
  ag prog Bs 21 (aE (af f203 0)) [(0,.slice (some ⟨0,0,some 7⟩) (m+1) 0)] [(0,.view (ai (aa base n a)))] 1
   ⟨.normal,[(0,.slice (some ⟨0,0,some 7⟩) m 0)],[(0,.view (ai (aa base n a)))],1⟩:=by
 have hd:a/base^m%base=0:=(FH d_ (cy ha (cX d_ (xM m)))).2 ha;exact ay [
  .gt 5 (m+1) 0 true s_,
  .eO 10 (m+1) 1 m rfl o_,
  .ix f203 11 0 (m+1) m o_ k_,
  .ld f203 12 172 0 m (.view (ai (aa base n a))) (aM (a/base^m%base)) rfl (by rw[ft];exact ki (dV o_)) k_,
  .fX 13 (a/base^m%base) 0 true (by simp[hd]),
  .eO 18 (m+1) 1 m rfl o_,
  .upto f203 19 0 (m+1) m 1 o_ k_]
theorem aF5{n:Nat}(hm:m<=n)(ha:a<base^m)(hl:m=nd base a)(h63:n<=9223372036854775807):
  ag prog Bs 21 (aE (af f203 0)) [(0,.slice (some ⟨0,0,some 7⟩) m 0)] [(0,.view (ai (aa base n a)))] 1
   ⟨.exit 0,[(0,.slice (some ⟨0,0,some 7⟩) m 0)],[(0,.view (ai (aa base n a)))],1⟩:=by
 cases m with
 |zero=>exact ay [.gt 5 0 0 false s_]
 |succ m=>
  have hd:a/base^m%base≠0:=λe=>by have:=iN (B:=base) d_ ((FH d_ ha).1 e);omega
  exact ay [
   .gt 5 (m+1) 0 true s_,
   .eO 10 (m+1) 1 m rfl o_,
   .ix f203 11 0 (m+1) m o_ k_,
   .ld f203 12 172 0 m (.view (ai (aa base n a))) (aM (a/base^m%base)) rfl (by rw[ft];exact ki (dV o_)) k_,
   .fX 13 (a/base^m%base) 0 false (by simp[hd])]
theorem aF6{n:Nat}(ha:a<base^n)(h63:n<=9223372036854775807):
  ag prog Bs 21 (.block 0 (af f203 0)) [(0,.slice (some ⟨0,0,some 7⟩) n 0)] [(0,.view (ai (aa base n a)))] 1
   ⟨.normal,[(0,.slice (some ⟨0,0,some 7⟩) (nd base a) 0)],[(0,.view (ai (aa base n a)))],1⟩:=by
 have hle:=iN (B:=base) d_ ha;have av:=dL (B:=base) d_ a
 have:=cg (P:=prog) (B:=Bs) (N:=21) (b:=aE (af f203 0)) (next:=1) (n-nd base a) (λi=>[(0,.slice (some ⟨0,0,some 7⟩) (n-i) 0)]) (λ_=>[(0,.view (ai (aa base n a)))])
  (r:=⟨.exit 0,[(0,.slice (some ⟨0,0,some 7⟩) (nd base a) 0)],[(0,.view (ai (aa base n a)))],1⟩) (λ_ _ _=>Iff.rfl)
  (λi hi=>by
   have e:n-i=(n-(i+1))+1:=by omega
   simp only[e];exact aF4 o_ (cy av (cX d_ o_)) h63)
  (by
   have e:n-(n-nd base a)=nd base a:=by omega
   simp only[e];exact aF5 hle av rfl h63) n_
 exact bO this
def LY(v:i_)(m:Nat):Value:=match v with|.slice a _ c=>.slice a m c|v=>v
theorem XM{v:i_}{n:Nat}(hv:cZ w v n (ai (aa base n a)))(ha:a<base^n)(h63:n<=9223372036854775807):
  Calls prog 203 #[v] w λe w'=>e=.returned (LY v (nd base a))/\Below w.heap.size w w':=by
 refine kU (Q:=λe w'=>e=.returned (LY v (nd base a))/\Below w.heap.size w w') mixed func203 [.row v n (ai (aa base n a))] (λs hs=>by simp at hs;subst hs;exact⟨hv,e9 _⟩) 100 (N:=21) k_
  (rs:=[.code 0 _ _ _ _ _ (aF6 ha h63)]) (v:=.slice (some ⟨0,0,some 7⟩) (nd base a) 0) (ms:=[]) k_ λao bP v' w' hc hm _ dw=>⟨?_,hm.base⟩
 cases dw with
 |cons h1 _=>
 congr 1
 rcases hc.gK rfl with ⟨q1,q2,_,_,q5⟩|⟨b,o,cap,c',q1,q2,q3,q5⟩<;>rcases h1.gK rfl with ⟨p1,p2,_,_,p5⟩|⟨b2,o2,o6,c2,p1,p2,p3,p5⟩
 ·have p5:v=.slice none 0 0:=p5;rw[q5,p5,q2];rfl
 ·rw[q1]at p1;cases p1
 ·rw[q1]at p1;cases p1
 ·rw[q1]at p1;injection p1 with p1;injection p1 with e1 e2 e3;subst e1;subst e2;subst e3;have p5:v=_:=p5;rw[q5,p5,show c'=c2 by omega];rfl
theorem aV{v:i_}(hf:prog.funcs[f]?=some fn)(rs:∀ w,bK prog (ae.at w) (args.length+(fn.ntmps-args.length)))(h:∀ w,nO (gu (P:=prog) fn 100 args [] 0 (rs w)) []=nP (gu fn 100 args [] 0 (rs w)) v []:=by intro _;kernel_rfl)(dw:args.all flat=true:=by kernel_rfl)(hv:flat v=true:=by kernel_rfl):aB prog f args v:=eX mixed hf 100 rs h dw hv
theorem Ix{x y c:Nat}(hx:x<base)(hy:y<base)(hc:c<base):
  aB prog 235 [aM x,aM y,aM c] (.tuple #[aM ((x+y+c)%base),aM ((x+y+c)/base)]):=
 aV func235 (λ_=>[
  .wr 10 .u64 x x (by rw[jz];unfold base at *;omega),.wr 12 .u64 y y (by rw[jz];unfold base at *;omega),
  .wr 13 .u64 (x+y) ((x+y:Nat):Int) (by rw[jz];unfold base at *;omega),.wr 15 .u64 c c (by rw[jz];unfold base at *;omega),
  .wr 16 .u64 (((x+y:Nat):Int)+c) ((x+y+c:Nat):Int) (by rw[jz];unfold base at *;omega),
  .wr 18 .u32 ((x+y+c:Nat):Int) (((x+y+c)%base:Nat):Int) (by rw[mI];unfold base at *;omega),
  .quo 20 .u64 (((x+y+c:Nat):Int).fdiv (2^32)) (((x+y+c)/base:Nat):Int) (by rw[rh _ d_];unfold base at *;omega),
  .wr 21 .u32 (((x+y+c)/base:Nat):Int) (((x+y+c)/base:Nat):Int) (by rw[mI];unfold base at *;omega)])
theorem DR(n:Nat):List.replicate n (aM 0)=ai (List.replicate n 0):=by simp[ai]
theorem xY(cells:ak)(i d:Nat)(h:i<cells.length):eM prog 172 cells i (aM d)=some (cells.set i (aM d)):=by
 have e:eM prog 172 cells i (aM d)=if(Nat.ble (i+1) cells.length&&true)then some (iv cells i [aM d])else none:=by kernel_rfl
 rw[e,Qg h];rfl
theorem xZ(l:l_)(i d:Nat):(ai l).set i (aM d)=ai (l.set i d):=by simp[ai,List.map_set]
theorem aF7{y:m_}(ho:da o.op=some y){n:Nat}{x:Obj}(hx:x.reads=true)(hc:x.cells=ai (aa base n a))(ha:a<base^n)(h63:n<=9223372036854775807):
  ct prog Bs o [.func (.func 203) #[] #[],.slice (some ⟨k,0,some 7⟩) n 0] [(k,some x)] (.slice (some ⟨k,0,some 7⟩) (nd base a) 0) []:=by
 refine jy (fi:=[]) (ca:=[]) ho k_ λι c w hm hn args' dw=>?_;obtain⟨v,rfl,h1⟩:=lO dw;have hk:c k=some x:=hn _ (aN ..);have hr:=nQ (len:=n) hm hk hx (by rw[hc];exact e9 _) (λh=>h) h1;rw[hc,lv,jN (by simp[ai,nR])]at hr;refine(XM hr ha h63).mono ?_
 rintro e w' ⟨rfl,hb⟩
 refine⟨ι,_,rfl,Map.le.refl _,?_,hm.call hb⟩;have jA:=iN (B:=base) d_ ha;rcases h1.gK rfl with ⟨q1,q2,_,_,q5⟩|⟨b,oo,cap,c',q1,q2,q3,q5⟩
 ·rw[q5];have:nd base a=0:=by omega
  rw[this];exact .slcN q1
 ·rw[q5];exact .slc q1 o_ q3
def aO.trim(fn:Func)(key k n a:Nat)(x:Obj)(hx:x.reads=true)(hc:x.cells=ai (aa base n a))(ha:a<base^n)(h63:n<=9223372036854775807){y:m_}(ho:da (au fn key).op=some y):aO prog Bs N:=
 .step key (au fn key) [.func (.func 203) #[] #[],.slice (some ⟨k,0,some 7⟩) n 0] [(k,some x)] (.slice (some ⟨k,0,some 7⟩) (nd base a) 0) [] (aF7 ho hx hc ha h63)
section
variable{Bs:ae}{ka kb n m a b:Nat}
def sl(k n:Nat):Value:=.slice (some ⟨k,0,some 7⟩) n 0
def BJ(ka kb n m a b i:Nat):aL:=[(23,vI i),(22,vI n),(21,sl ka n),(0,sl ka n),(1,sl kb m),(5,sl 2 (n+1)),(6,aM (eC base a b i))]
def x6(ka kb n m a b i:Nat):aC:=[(ka,.view (ai (aa base n a))),(kb,.view (ai (aa base m b))),(2,.row (ai (dW base (n+1) i (a+b))) 172 1)]
theorem aF8(hk:(ka=0/\kb=1)\/(ka=1/\kb=0))(hi:i<n)(hb:b<base^m)(hm:m<=n)(h63:n<9223372036854775807):
  ag prog Bs 54 (aE (af f219 0)) (BJ ka kb n m a b i) (x6 ka kb n m a b i) 3 ⟨.normal,BJ ka kb n m a b (i+1),x6 ka kb n m a b (i+1),3⟩:=by
 have hx:=gG (B:=base) d_ a i;have hy:=gG (B:=base) d_ b i;have hc:=zM (B:=base) d_ a b i;have x7:=Ix (c:=eC base a b i) hx hy (eP hc d_);rw[FK d_,DP d_]at x7;have bH:eM prog 172 (ai (dW base (n+1) i (a+b))) i (aM ((a+b)/base^i%base))=some (ai (dW base (n+1) (i+1) (a+b))):=by rw[xY _ i _ (by simp[ai,LM];omega),xZ,LN o_ rfl]
 by_cases ji:i<m
 ·let S:Nat->Nat->bK prog Bs 54:=λka kb=>[.lt 24 i n true (by simp[hi]),.ix f219 26 ka n i hi k_,.ld f219 27 172 ka i (.view (ai (aa base n a))) (aM (a/base^i%base)) rfl (by rw[ft];exact ki (dV hi)) k_,.lt 31 i m true (by simp[ji]),.ix f219 34 kb m i ji k_,.ld f219 35 172 kb i (.view (ai (aa base m b))) (aM (b/base^i%base)) rfl (by rw[ft];exact ki (dV ji)) k_,x7.at 42,.ix f219 45 2 (n+1) i o_ k_,.st f219 100045 172 2 i (.row (ai (dW base (n+1) i (a+b))) 172 1) (aM ((a+b)/base^i%base)) (.row (ai (dW base (n+1) (i+1) (a+b))) 172 1) rfl bH rfl k_,.sum 46 i 1 (i+1) rfl o_]
  rcases hk with ⟨rfl,rfl⟩|⟨rfl,rfl⟩
  ·exact ay (S 0 1)
  ·exact ay (S 1 0)
 ·have vW:b/base^i%base=0:=qe hb o_ d_;rw[vW]at x7
  let S:Nat->Nat->bK prog Bs 54:=λka kb=>[.lt 24 i n true (by simp[hi]),.ix f219 26 ka n i hi k_,.ld f219 27 172 ka i (.view (ai (aa base n a))) (aM (a/base^i%base)) rfl (by rw[ft];exact ki (dV hi)) k_,.lt 31 i m false (by simp[ji]),x7.at 42,.ix f219 45 2 (n+1) i o_ k_,.st f219 100045 172 2 i (.row (ai (dW base (n+1) i (a+b))) 172 1) (aM ((a+b)/base^i%base)) (.row (ai (dW base (n+1) (i+1) (a+b))) 172 1) rfl bH rfl k_,.sum 46 i 1 (i+1) rfl o_]
  rcases hk with ⟨rfl,rfl⟩|⟨rfl,rfl⟩
  ·exact ay (S 0 1)
  ·exact ay (S 1 0)
theorem aF9(hk:(ka=0/\kb=1)\/(ka=1/\kb=0)):
  ag prog Bs 54 (aE (af f219 0)) (BJ ka kb n m a b n) (x6 ka kb n m a b n) 3 ⟨.exit 0,BJ ka kb n m a b n,x6 ka kb n m a b n,3⟩:=by
 rcases hk with ⟨rfl,rfl⟩|⟨rfl,rfl⟩
 all_goals exact ay [.lt 24 n n false s_]
theorem aGa(hk:(ka=0/\kb=1)\/(ka=1/\kb=0))(hb:b<base^m)(hm:m<=n)(h63:n<9223372036854775807):
  ag prog Bs 54 (.block 0 (af f219 0)) (BJ ka kb n m a b 0) (x6 ka kb n m a b 0) 3 ⟨.normal,BJ ka kb n m a b n,x6 ka kb n m a b n,3⟩:=
 bO (cg (b:=aE (af f219 0)) (r:=⟨.exit 0,BJ ka kb n m a b n,x6 ka kb n m a b n,3⟩) n (BJ ka kb n m a b) (x6 ka kb n m a b) (λi k _=>jx (l:=x6 ka kb n m a b i) (m:=x6 ka kb n m a b 0) rfl k) (λi hi=>aF8 hk hi hb hm h63) (aF9 hk) n_)
noncomputable def XN(hk:(ka=0/\kb=1)\/(ka=1/\kb=0))(ha:a<base^n)(hb:b<base^m)(hm:m<=n)(h63:n<35184372088832)(hs:a+b<base^(n+1))
  (bH:eM prog 172 (ai (dW base (n+1) n (a+b))) n (aM (eC base a b n))=some (ai (aa base (n+1) (a+b)))):bK prog Bs 54:=
 [.sum 19 n 1 (n+1) rfl o_,.pf f219 20 2 (n+1) 172 4 (aM 0) (ai (dW base (n+1) 0 (a+b))) (by rw[QL,DR]) rfl rfl o_ (by simp[maxLen];omega) k_,.rw 6 (.int .u32 0) (aM (eC base a b 0)) (by rw[LP];rfl),.code 0 _ _ _ _ _ (aGa (ka:=ka) (kb:=kb) (a:=a) hk hb hm o_),.ix f219 51 2 (n+1) n o_ k_,.st f219 100051 172 2 n (.row (ai (dW base (n+1) n (a+b))) 172 1) (aM (eC base a b n)) (.row (ai (aa base (n+1) (a+b))) 172 1) rfl bH rfl k_,.trim f219 53 2 (n+1) (a+b) (.row (ai (aa base (n+1) (a+b))) 172 1) rfl rfl hs o_ (y:=.func 203) k_]
end
def jk(w w':h_)(v:i_)(a:Nat):Prop:=w'.ownsRow w.heap.size 172 1 v (nd base a) (ai (aa base (nd base a) a))
def gZ(w:h_)(v:i_)(a:Nat):Prop:=cZ w v (nd base a) (ai (aa base (nd base a) a))
theorem vX(hm:aI (ae.at w) ι c w'){n:Nat}{v:i_}(hk:c k=some (.row (ai (aa base n a)) 172 1))(ha:a<base^n)(hv:aG ι (.slice (some ⟨k,0,some 7⟩) (nd base a) 0) v):jk w w' v a:=by
 have hle:=iN (B:=base) d_ ha;have:=uJ hm hk hv (by simp[ai,nR];exact hle) (e9 _);have e:(ai (aa base n a)).take (nd base a*1)=ai (aa base (nd base a) a):=by rw[fY];unfold ai;rw[<-BE,Ir hle]
 rw[e]at this;exact this
theorem Iy{n:Nat}(ha:a<base^n)(hb:b<base^n):eM prog 172 (ai (dW base (n+1) n (a+b))) n (aM (eC base a b n))=some (ai (aa base (n+1) (a+b))):=by have h1:=zM (B:=base) d_ a b n;have h2:=QM ha hb;rw[xY _ n _ (by simp[ai,LM]),xZ,LN o_ (by rw[<-h2];exact(dG (eP h1 d_)).symm),FI]
theorem Iz{n:Nat}(ha:a<base^n)(hb:b<base^n):a+b<base^(n+1):=by have h1:base^n*2<=base^n*base:=iX _ d_;rw[dh];omega
theorem aGb{vb:i_}(fQ:gZ w va a)(kF:gZ w vb b)(h1:nd base a<35184372088832)(h2:nd base b<35184372088832):
  Calls prog 219 #[va,vb] w λe w'=>∃ v,e=.returned v/\jk w w' v (a+b)/\Below w.heap.size w w':=by
 have ha:=dL (B:=base) d_ a;have hb:=dL (B:=base) d_ b;have hl:∀ s∈[cq.row va (nd base a) (ai (aa base (nd base a) a)),cq.row vb (nd base b) (ai (aa base (nd base b) b))],s.OK w:=by
  intro s hs;simp at hs;rcases hs with rfl|rfl
  ·exact⟨fQ,e9 _⟩
  ·exact⟨kF,e9 _⟩
 unfold gZ at fQ kF;generalize nd base a=n at *;generalize nd base b=m at *;by_cases kS:n<m
 ·have hs:=Iz hb (cy ha (cX d_ o_))
  refine kU (Q:=λe w'=>∃ v,e=.returned v/\jk w w' v (a+b)/\Below w.heap.size w w') mixed func219 [cq.row va n (ai (aa base n a)),cq.row vb m (ai (aa base m b))] hl 100 (N:=54) k_
   (rs:=(aO.lt 14 n m true (by simp[kS]):aO prog (ae.at w) 54)::XN (ka:=1) (kb:=0) (a:=b) (b:=a) (.inr ⟨rfl,rfl⟩) hb ha o_ o_ hs (Iy hb (cy ha (cX d_ o_))))
   (v:=.slice (some ⟨2,0,some 7⟩) (nd base (b+a)) 0) (ms:=[(2,.row (ai (aa base (m+1) (b+a))) 172 1)]) k_ λao bP v' w' hc bh dD _=>⟨v',rfl,?_,bh.base⟩
  rw[lW a b];exact vX bh (dD _ (aN ..)) hs hc
 ·have hs:=Iz ha (cy hb (cX d_ (show m<=n by omega)))
  refine kU (Q:=λe w'=>∃ v,e=.returned v/\jk w w' v (a+b)/\Below w.heap.size w w') mixed func219 [cq.row va n (ai (aa base n a)),cq.row vb m (ai (aa base m b))] hl 100 (N:=54) k_
   (rs:=(aO.lt 14 n m false (by simp[kS]):aO prog (ae.at w) 54)::XN (ka:=0) (kb:=1) (a:=a) (b:=b) (.inl ⟨rfl,rfl⟩) ha hb o_ o_ hs (Iy ha (cy hb (cX d_ o_))))
   (v:=.slice (some ⟨2,0,some 7⟩) (nd base (a+b)) 0) (ms:=[(2,.row (ai (aa base (n+1) (a+b))) 172 1)]) k_ λao bP v' w' hc bh dD _=>⟨v',rfl,?_,bh.base⟩
  exact vX bh (dD _ (aN ..)) hs hc
theorem BK{x:Nat}(h:x<base):x.testBit 31=decide (2147483648<=x):=by rw[Nat.testBit_eq_decide_div_mod_eq,pe];unfold base at h;omega
theorem aGc{x:Nat}(h:x<base):x/2147483648=if x.testBit 31 then 1 else 0:=by
 rw[BK h];unfold base at h;by_cases h1:2147483648<=x
 ·rw[aD h1,aq rfl];omega
 ·rw[aQ h1,al d_];omega
theorem aGd{x y:Nat}(hx:x<base)(hy:y<base)(hb:b<=1):
  (((base-1-x)&&& y)||| ((base-1-(x ^^^ y))&&& ((x+2*base-y-b)%base)))/2147483648=if x<y+b then 1 else 0:=by
 have jX:x ^^^ y<base:=XO (n:=32) hx hy;have hd:(x+2*base-y-b)%base<base:=cC _ d_;have h1:base-1-x<base:=by unfold base at *;omega
 have h2:base-1-(x ^^^ y)<base:=by unfold base at *;omega
 rw[aGc (XP (n:=32) (LZ _ hy) (LZ _ hd))];rw[WY,Nat.testBit_and,Nat.testBit_and,BK h1,BK h2,BK hy,BK hd];have h3:(decide (2147483648<=x ^^^ y))=((decide (2147483648<=x))!=(decide (2147483648<=y))):=by rw[<-BK jX,Nat.testBit_xor,BK hx,BK hy]
 have h4:decide (2147483648<=base-1-(x ^^^ y))=!(decide (2147483648<=x ^^^ y)):=by
  unfold base at *;by_cases h:2147483648<=x ^^^ y
  ·rw[aD h,aQ o_];rfl
  ·rw[aQ h,aD o_];rfl
 rw[h4,h3];unfold base at *;have e1:decide (2147483648<=4294967296-1-x)=!decide (2147483648<=x):=by
  by_cases h:2147483648<=x
  ·rw[aD h,aQ o_];rfl
  ·rw[aQ h,aD o_];rfl
 rw[e1];have fin:∀ p:Prop,[Decidable p]->(p↔x<y+b)->(if decide p=true then 1 else 0)=(if x<y+b then 1 else 0):=by
  intro p _ h;by_cases hp:p
  ·rw[aq (aD hp),aq (h.1 hp)]
  ·rw[al (by simpa using hp),al λh'=>hp (h.2 h')]
 by_cases c1:2147483648<=x<;>by_cases c2:2147483648<=y
 ·rw[aD c1,aD c2];simp only[IA,BL,vY,bne_self_eq_false,L0,oH];exact fin _ o_
 ·rw[aD c1,aQ c2,al (show ¬x<y+b by omega)];rfl
 ·rw[aQ c1,aD c2,aq (show x<y+b by omega)];rfl
 ·rw[aQ c1,aQ c2];simp only[L0,oH,L3,vY,bne_self_eq_false];exact fin _ o_
theorem FL{x:Nat}(h:x<base):(BitVec.ofInt 32 (x:Int))=BitVec.ofNat 32 x:=by simp
theorem DS{x:Nat}(h:x<base):(BitVec.ofNat 32 x).toNat=x:=by rw[BitVec.toNat_ofNat];exact dG h
theorem XQ{x y:Nat}(hx:x<base)(hy:y<base):IntKind.u32.wrap (((BitVec.ofInt IntKind.u32.bits (x:Int))&&& (BitVec.ofInt IntKind.u32.bits (y:Int))).toNat:Int)=((x&&& y:Nat):Int):=by show IntKind.u32.wrap (((BitVec.ofInt 32 (x:Int))&&& (BitVec.ofInt 32 (y:Int))).toNat:Int)=_;rw[FL hx,FL hy,BitVec.toNat_and,DS hx,DS hy,mI];have:x&&& y<base:=LZ (n:=32) _ hy;unfold base at this;omega
theorem QR{x y:Nat}(hx:x<base)(hy:y<base):IntKind.u32.wrap (((BitVec.ofInt IntKind.u32.bits (x:Int))||| (BitVec.ofInt IntKind.u32.bits (y:Int))).toNat:Int)=((x||| y:Nat):Int):=by
 show IntKind.u32.wrap (((BitVec.ofInt 32 (x:Int))||| (BitVec.ofInt 32 (y:Int))).toNat:Int)=_;rw[FL hx,FL hy,BitVec.toNat_or,DS hx,DS hy,mI];have:x||| y<base:=XP (n:=32) hx hy
 unfold base at this;omega
theorem XR{x y:Nat}(hx:x<base)(hy:y<base):IntKind.u32.wrap (((BitVec.ofInt IntKind.u32.bits (x:Int)) ^^^ (BitVec.ofInt IntKind.u32.bits (y:Int))).toNat:Int)=((x ^^^ y:Nat):Int):=by show IntKind.u32.wrap (((BitVec.ofInt 32 (x:Int)) ^^^ (BitVec.ofInt 32 (y:Int))).toNat:Int)=_;rw[FL hx,FL hy,BitVec.toNat_xor,DS hx,DS hy,mI];have:x ^^^ y<base:=XO (n:=32) hx hy;unfold base at this;omega
theorem XS{x:Nat}(hx:x<base):IntKind.u32.wrap (((BitVec.ofInt IntKind.u32.bits (if IntKind.u32.signed then -1 else IntKind.u32.max)) ^^^ (BitVec.ofInt IntKind.u32.bits (x:Int))).toNat:Int)=((base-1-x:Nat):Int):=by
 have h0:(if IntKind.u32.signed then -1 else IntKind.u32.max)=((base-1:Nat):Int):=by decide
 rw[h0,XR d_ hx]
 congr 1
 have h1:=BitVec.toNat_not (x:=BitVec.ofNat 32 x);rw[show ~~~(BitVec.ofNat 32 x)=BitVec.allOnes 32 ^^^ BitVec.ofNat 32 x from rfl,BitVec.toNat_xor,DS hx]at h1;have h2:(BitVec.allOnes 32).toNat=base-1:=by decide
 rw[h2]at h1;exact h1
theorem XT{x y:Nat}(hx:x<base)(hy:y<base)(hb:b<=1):
  aB prog 236 [aM x,aM y,aM b] (.tuple #[aM ((x+2*base-y-b)%base),aM (if x<y+b then 1 else 0)]):=by
 have hd:(x+2*base-y-b)%base<base:=cC _ d_;have jX:x ^^^ y<base:=XO (n:=32) hx hy;have h1:base-1-x<base:=by unfold base at *;omega
 have h2:base-1-(x ^^^ y)<base:=by unfold base at *;omega
 have h3:(base-1-x)&&& y<base:=LZ (n:=32) _ hy;have h4:(base-1-(x ^^^ y))&&& ((x+2*base-y-b)%base)<base:=LZ (n:=32) _ hd;exact aV func236 (λ_=>[
  .wr 10 .u32 ((x:Int)-y) (((x+base-y)%base:Nat):Int) (by rw[mI];unfold base at *;omega),
  .wr 12 .u32 ((((x+base-y)%base:Nat):Int)-b) (((x+2*base-y-b)%base:Nat):Int) (by rw[mI];unfold base at *;omega),
  .quo 14 .u32 _ ((base-1-x:Nat):Int) (XS hx),
  .quo 16 .u32 _ (((base-1-x)&&& y:Nat):Int) (XQ h1 hy),
  .quo 19 .u32 _ ((x ^^^ y:Nat):Int) (XR hx hy),
  .quo 20 .u32 _ ((base-1-(x ^^^ y):Nat):Int) (XS jX),
  .quo 22 .u32 _ (((base-1-(x ^^^ y))&&& ((x+2*base-y-b)%base):Nat):Int) (XQ h2 hd),
  .quo 23 .u32 _ ((((base-1-x)&&& y)||| ((base-1-(x ^^^ y))&&& ((x+2*base-y-b)%base)):Nat):Int) (QR h3 h4),
  .quo 24 .u32 (((((base-1-x)&&& y)||| ((base-1-(x ^^^ y))&&& ((x+2*base-y-b)%base)):Nat):Int).fdiv (2^31)) ((if x<y+b then 1 else 0:Nat):Int) (by rw[<-aGd hx hy hb,rh _ d_];rfl)])
section
variable{Bs:ae}{n m a b:Nat}
def FM(n m a b i:Nat):aL:=[(15,vI i),(14,vI n),(13,sl 0 n),(1,sl 1 m),(5,sl 2 n),(6,aM (kh base a b i))]
def BM(n m a b i:Nat):aC:=[(0,.view (ai (aa base n a))),(1,.view (ai (aa base m b))),(2,.row (ai (dW base n i (a-b))) 172 1)]
theorem aGe(hi:i<n)(hb:b<base^m)(bX:b<=a)(h63:n<9223372036854775807):
  ag prog Bs 41 (aE (af f221 0)) (FM n m a b i) (BM n m a b i) 3 ⟨.normal,FM n m a b (i+1),BM n m a b (i+1),3⟩:=by
 have hx:=gG (B:=base) d_ a i;have hy:=gG (B:=base) d_ b i;have hc:=LQ (B:=base) a b i;have v7:=XT hx hy hc;rw[show a/base^i%base+2*base-b/base^i%base-kh base a b i=a/base^i%base+2*base-b/base^i%base-kh base a b i from rfl,QP d_ bX,QO d_]at v7;have bH:eM prog 172 (ai (dW base n i (a-b))) i (aM ((a-b)/base^i%base))=some (ai (dW base n (i+1) (a-b))):=by rw[xY _ i _ (by simp[ai,LM];omega),xZ,LN hi rfl]
 by_cases ji:i<m
 ·exact ay [.lt 16 i n true (by simp[hi]),.ix f221 18 0 n i hi k_,.ld f221 19 172 0 i (.view (ai (aa base n a))) (aM (a/base^i%base)) rfl (by rw[ft];exact ki (dV hi)) k_,.lt 23 i m true (by simp[ji]),.ix f221 26 1 m i ji k_,.ld f221 27 172 1 i (.view (ai (aa base m b))) (aM (b/base^i%base)) rfl (by rw[ft];exact ki (dV ji)) k_,v7.at 34,.ix f221 37 2 n i hi k_,.st f221 100037 172 2 i (.row (ai (dW base n i (a-b))) 172 1) (aM ((a-b)/base^i%base)) (.row (ai (dW base n (i+1) (a-b))) 172 1) rfl bH rfl k_,.sum 38 i 1 (i+1) rfl o_]
 ·have vW:b/base^i%base=0:=qe hb o_ d_;rw[vW]at v7;exact ay [.lt 16 i n true (by simp[hi]),.ix f221 18 0 n i hi k_,.ld f221 19 172 0 i (.view (ai (aa base n a))) (aM (a/base^i%base)) rfl (by rw[ft];exact ki (dV hi)) k_,.lt 23 i m false (by simp[ji]),v7.at 34,.ix f221 37 2 n i hi k_,.st f221 100037 172 2 i (.row (ai (dW base n i (a-b))) 172 1) (aM ((a-b)/base^i%base)) (.row (ai (dW base n (i+1) (a-b))) 172 1) rfl bH rfl k_,.sum 38 i 1 (i+1) rfl o_]
theorem aGf(hb:b<base^m)(bX:b<=a)(h63:n<9223372036854775807):
  ag prog Bs 41 (.block 0 (af f221 0)) (FM n m a b 0) (BM n m a b 0) 3 ⟨.normal,FM n m a b n,BM n m a b n,3⟩:=
 bO (cg (b:=aE (af f221 0)) (r:=⟨.exit 0,FM n m a b n,BM n m a b n,3⟩) n (FM n m a b) (BM n m a b)
  (λi k _=>jx (l:=BM n m a b i) (m:=BM n m a b 0) rfl k) (λi hi=>aGe hi hb bX h63) (ay [.lt 16 n n false s_]) n_)
end
theorem aGg{vb:i_}(fQ:gZ w va a)(kF:gZ w vb b)(bX:b<=a)(h1:nd base a<35184372088832):
  Calls prog 221 #[va,vb] w λe w'=>∃ v,e=.returned v/\jk w w' v (a-b)/\Below w.heap.size w w':=by
 have ha:=dL (B:=base) d_ a;have hb:=dL (B:=base) d_ b;have hl:∀ s∈[cq.row va (nd base a) (ai (aa base (nd base a) a)),cq.row vb (nd base b) (ai (aa base (nd base b) b))],s.OK w:=by
  intro s hs;simp at hs;rcases hs with rfl|rfl
  ·exact⟨fQ,e9 _⟩
  ·exact⟨kF,e9 _⟩
 unfold gZ at fQ kF;generalize nd base a=n at *;generalize nd base b=m at *;have hs:a-b<base^n:=by omega
 refine kU (Q:=λe w'=>∃ v,e=.returned v/\jk w w' v (a-b)/\Below w.heap.size w w') mixed func221 [cq.row va n (ai (aa base n a)),cq.row vb m (ai (aa base m b))] hl 100 (N:=41) k_
  (rs:=[(aO.pf f221 12 2 n 172 4 (aM 0) (ai (dW base n 0 (a-b))) (by rw[QL,DR]) rfl rfl o_ (by simp[maxLen];omega) k_:aO prog (ae.at w) 41),.rw 6 (.int .u32 0) (aM (kh base a b 0)) (by rw[QN];rfl),.code 0 _ _ _ _ _ (aGf (n:=n) hb bX o_),.trim f221 40 2 n (a-b) (.row (ai (dW base n n (a-b))) 172 1) rfl (by rw[<-FI];rfl) hs o_ (y:=.func 203) k_])
  (v:=.slice (some ⟨2,0,some 7⟩) (nd base (a-b)) 0) (ms:=[(2,.row (ai (dW base n n (a-b))) 172 1)]) k_ λao bP v' w' hc bh dD _=>⟨v',rfl,?_,bh.base⟩
 have hk:=dD _ (aN ..);rw[FI]at hk;exact vX bh hk hs hc
structure zO(g:Nat)(w w':h_):Prop where
 os:rY w w'
 tape:w'.tape=w.tape
 output:w'.output=w.output
 size:w.heap.size<=w'.heap.size
 block:∀ k,k<w.heap.size->k≠g->w'.heap[k]?=w.heap[k]?
def ae.v8(w0:h_)(g:Nat):ae where
 G w:=zO g w0 w
 cI k:=k<w0.heap.size/\k≠g
 lt w k h hk:=cy hk.1 h.size
 dep w w' h h1 h2 h3 h4 h5:=⟨h1.trans h.os,h2.trans h.tape,h3.trans h.output,c9 h.size h4,λk hk hg=>(h5 k ⟨hk,hg⟩).trans (h.block k hk hg)⟩
section
variable{P:j_}{B:ae}{N:Nat}
theorem QS{g:Nat}{cells:ak}(hg:w.heap[g]?=some (.cells cur ty (0,0)))(jf:cap<=maxLen)(bE:cur.size=cap*size)(hc:cur.toList.take cells.length=cells)(cA:∀ v∈cells,flat v=true):
  aI (ae.v8 w g) (dy (λ_=>none) 0 (.at g 0 cap)) (aT (λ_=>none) 0 (.row cells ty size)) w:=by
 have h0:aI (ae.v8 w g) (λ_=>none) (λ_=>none) w:=
  ⟨⟨.refl w,rfl,rfl,aZ _,λ_ _ _=>rfl⟩,λ_ _=>rfl,λk x h=>(by cases h),λk x b o cap h=>(by cases h),λk j x y b o cap o' bf h=>(by cases h),λk j x F b o cap v h=>(by cases h),λk x b o cap h=>(by cases h),λj F h=>(by cases h),λj k F F' h=>(by cases h),λ_ _ h=>(by cases h)⟩
 refine h0.add rfl (.inr ⟨g,cap,cur,rfl,hg,jf,bE,by rw[hc];exact j7 cA⟩) (λb o cp _ e=>?_) n_ n_;injection e with e1 e2 e3;subst e1;exact⟨(zK.1 hg).1,λh=>h.2 rfl,λj y o' bf h=>(by cases h),λj F v h=>(by cases h),λj y o' bf h=>(by cases h)⟩
theorem QT{g:Nat}{cells:ak}(hm:aI (ae.v8 w g) ι c w')(th:ι 0=some (.at g 0 cap))(hk:c 0=some (.row cells ty size))(cA:∀ v∈cells,flat v=true):
  zO g w w'/\∃ cur,w'.heap[g]?=some (.cells cur ty (0,0))/\cur.size=cap*size/\cur.toList.take cells.length=cells:=by
 refine⟨hm.base,?_⟩;obtain⟨l,h1,h2⟩:=hm.born 0 _ hk;rw[th]at h1;injection h1 with h1;subst h1;rcases h2 with h2|⟨b,bf,cur,e1,e2,e3,e4,e5⟩
 ·cases h2.1
 ·injection e1 with e1 BN BO;subst e1;subst BO;exact⟨cur,e2,e4,mD e5 cA⟩
theorem XU(c:Nat->Option Obj)(k:Nat)(x:Obj):cT (aT c k x) [(k,x)]:=by
 intro j y hj;by_cases h:k=j
 ·subst h;have:ah [(k,x)] k=some x:=by simp[ah]
  rw[this]at hj;rw[<-hj];unfold aT;rw[aq rfl]
 ·have:ah [(k,x)] j=none:=by show(if Nat.beq k j then _ else _)=_;rw[nM h];rfl
  rw[this]at hj;cases hj
theorem aGh{v:i_}(h1:∀ u∈pre,flat u=true)(h2:∀ u∈post,flat u=true):∀{l:ak},bJ (aG ι) (pre++v::post) l->∃ v',aG ι v v'/\l=pre++v'::post:=by
 induction pre with
 |nil=>
  intro l h;cases h with
  |cons hv t=>exact⟨_,hv,by rw[mD t h2];rfl⟩
 |cons u pre ih=>
  intro l h;cases h with
  |cons hu t=>
   obtain⟨v',q1,q2⟩:=ih (λx hx=>h1 x (bB _ hx)) t;exact⟨v',q1,by rw[q2,hu.eW (h1 _ (aN ..))];rfl⟩
theorem aGi{fi:ak}{n:Nat}{cells:ak}{val:i_}(ho:da o.op=some x)(eB:fN P f=true)
  (dw:fi++args++ca=pre++.slice (some ⟨k,0,some 7⟩) n 0::post) (Lh:∀ u∈pre,flat u=true) (QU:∀ u∈post,flat u=true) (hn:0<n) (cA:∀ v∈cells,flat v=true) (zQ:∀ v∈cells',flat v=true) (qf:flat val=true)
  (h:∀ w g cap cur,w.heap[g]?=some (.cells cur ty (0,0))->n<=cap->cap<=maxLen->cur.size=cap*size->cur.toList.take cells.length=cells->Calls P f (pre++.slice (some ⟨g,0,none⟩) n cap::post).toArray w λe w'=>e=.returned val/\zO g w w'/\∃ fv,w'.heap[g]?=some (.cells fv ty (0,0))/\fv.size=cap*size/\fv.toList.take cells'.length=cells') :
  ct P B o (.func (.func f) fi.toArray ca.toArray::args) [(k,some (.row cells ty size))] val [(k,.row cells' ty size)]:=by
 refine jy ho eB λι c w hm jA args' aU=>?_;rw[dw]at aU;have hk:c k=some (.row cells ty size):=jA _ (aN ..);obtain⟨v,hv,rfl⟩:=aGh Lh QU aU;rcases hv.gK rfl with ⟨_,h0,_⟩|⟨g,oo,cap,c',hb,kQ,lP,he⟩
 ·omega
 ·dsimp only at hb he;have lR:c'=cap:=by omega
  subst lR;obtain⟨l,q1,q2⟩:=hm.born k _ hk;rw[hb]at q1;injection q1 with q1;subst q1;rcases q2 with q2|⟨b,bf,cur,e1,lk,dC,e7,jI⟩
  ·cases q2.1
  ·injection e1 with e1 e2 e3;subst e1;subst e2;subst e3;rw[he];refine(h w g c' cur lk kQ dC e7 (mD jI cA)).mono ?_
   rintro e w' ⟨rfl,pj,fv,p1,p2,p3⟩
   refine⟨ι,val,rfl,Map.le.refl _,.same qf,hm.write hk rfl hb pj.os pj.tape pj.output pj.size (λj hj DT=>pj.block j hj DT) (.inr ⟨g,c',fv,rfl,p1,dC,p2,?_⟩) n_ rfl⟩;rw[p3];exact j7 zQ
end
theorem aGj{x y:Nat}(hx:x<base)(hy:y<base):aB prog 246 [aM x,aM y] (.tuple #[aM (x*y/base),aM (x*y%base)]):=by
 have h:x*y<base*base:=pg hx hy;exact aV func246 (λ_=>[
  .wr 8 .u64 x x (by rw[jz];unfold base at *;omega),.wr 10 .u64 y y (by rw[jz];unfold base at *;omega),
  .wr 11 .u64 ((x:Int)*y) ((x*y:Nat):Int) (by rw[jz,<-nh];unfold base at *;omega),
  .quo 13 .u64 (((x*y:Nat):Int).fdiv (2^32)) ((x*y/base:Nat):Int) (by rw[rh _ d_];rfl),
  .wr 14 .u32 ((x*y/base:Nat):Int) ((x*y/base:Nat):Int) (by rw[mI];have:x*y/base<base:=(gY d_).2 h;unfold base at *;omega),
  .wr 16 .u32 ((x*y:Nat):Int) ((x*y%base:Nat):Int) (by rw[mI];unfold base at *;omega)])
section
variable{Bs:ae}{n p t:Nat}
def x8(n i p t:Nat):aC:=[(0,.row (ai (cQ base n i (p+t) p)) 172 1)]
def IB(n i p t:Nat):aL:=[(0,sl 0 n),(11,vI i),(10,aM (eC base p t i))]
theorem QV(hi:i<n):eM prog 172 (ai (cQ base n i (p+t) p)) i (aM ((p+t)/base^i%base))=some (ai (cQ base n (i+1) (p+t) p)):=by rw[xY _ i _ (by simp[ai,vU];omega),xZ,xX hi rfl]
theorem aGk(hi:i<n)(ht:t<base^i)(hc:eC base p t i≠0)(h63:n<9223372036854775807):
  ag prog Bs 63 (aE (af f239 0)) (IB n i p t) (x8 n i p t) 1 ⟨.normal,IB n (i+1) p t,x8 n (i+1) p t,1⟩:=by
 have fU:=zM (B:=base) d_ p t i;have x7:=Ix (x:=p/base^i%base) (y:=t/base^i%base) (c:=eC base p t i) (gG d_ _ _) (gG d_ _ _) (eP fU d_);rw[FK d_,DP d_,qe ht (aZ _) d_]at x7;exact ay [.rw 48 (.bool (((eC base p t i:Nat):Int)!=0)) b_ (by congr 1;rw[qg];omega),.ix f239 56 0 n i hi k_,.ld f239 57 172 0 i (.row (ai (cQ base n i (p+t) p)) 172 1) (aM (p/base^i%base)) rfl (by rw[ft];exact ki (BH hi (aZ _))) k_,x7.at 59,.ix f239 62 0 n i hi k_,.st f239 100062 172 0 i (.row (ai (cQ base n i (p+t) p)) 172 1) (aM ((p+t)/base^i%base)) (.row (ai (cQ base n (i+1) (p+t) p)) 172 1) rfl (QV hi) rfl k_,.sum 50 i 1 (i+1) rfl o_]
theorem aGl(hc:eC base p t i=0):ag prog Bs 63 (aE (af f239 0)) (IB n i p t) (x8 n i p t) 1 ⟨.exit 0,[],x8 n i p t,1⟩:=
 ay [.rw 48 (.bool (((eC base p t i:Nat):Int)!=0)) a_ (by rw[hc];rfl)]
theorem aGm(hi:i<=n)(ht:t<base^i)(hp:p<base^n)(hs:p+t<base^n)(h63:n<9223372036854775807):
  ag prog Bs 63 (.block 0 (af f239 0)) (IB n i p t) (x8 n i p t) 1 ⟨.normal,[],[(0,.row (ai (aa base n (p+t))) 172 1)],1⟩:=by
 have h0:eC base p t (i+(n-i))=0:=by rw[show i+(n-i)=n by omega,QM hp o_,lq hs]
 obtain⟨e,h1,h2,h3⟩:=xW (λj=>eC base p t (i+j)=0) (n-i) h0;have hte:t<base^(i+e):=cy ht (cX d_ o_)
 have:=cg (P:=prog) (B:=Bs) (N:=63) (b:=aE (af f239 0)) (next:=1) (r:=⟨.exit 0,[],x8 n (i+e) p t,1⟩) e (λj=>IB n (i+j) p t) (λj=>x8 n (i+j) p t)
  (λj k _=>jx (l:=x8 n (i+j) p t) (m:=x8 n (i+0) p t) rfl k)
  (λj hj=>aGk o_ (cy ht (cX d_ o_)) (h3 j hj) h63) (aGl h2) n_
 have:=bO (id:=0) this;unfold x8 at this;rw[aFZ d_ hte h2]at this;exact this
end
theorem aGn{g n at' p x y:Nat}(hg:w.heap[g]?=some (.cells cur 172 (0,0)))(kQ:n<=cap)(jf:cap<=maxLen)(bE:cur.size=cap*1)(hc:cur.toList.take (ai (aa base n p)).length=ai (aa base n p))
  (hx:x<base) (hy:y<base) (lS:at'+1<n) (hp:p<base^n) (hs:p+x*y*base^at'<base^n) (h63:n<35184372088832) :
  Calls prog 239 #[.slice (some ⟨g,0,none⟩) n cap,vI at',aM x,aM y] w λe w'=>e=.returned (.tuple #[])/\zO g w w'/\∃ fv,w'.heap[g]?=some (.cells fv 172 (0,0))/\fv.size=cap*1/\
   fv.toList.take (ai (aa base n (p+x*y*base^at'))).length=ai (aa base n (p+x*y*base^at')):=by
 have hm:=QS hg jf bE hc (e9 _);have jX:x*y<base*base:=pg hx hy;have ht:=aF2 (B:=base) d_ (at':=at') jX;have d0:=aF0 (B:=base) d_ at' (x*y);have d1:=aF1 (B:=base) d_ (at':=at') jX;have c0:=aFY (B:=base) d_ at' p (x*y);have m0:=XE (B:=base) d_ n at' p (x*y);have s1:eM prog 172 (ai (cQ base n at' (p+x*y*base^at') p)) at' (aM ((p+x*y*base^at')/base^at'%base))=some (ai (cQ base n (at'+1) (p+x*y*base^at') p)):=QV o_;have s2:eM prog 172 (ai (cQ base n (at'+1) (p+x*y*base^at') p)) (at'+1) (aM ((p+x*y*base^at')/base^(at'+1)%base))=some (ai (cQ base n (at'+2) (p+x*y*base^at') p)):=QV lS;have lo:=aGm (Bs:=ae.v8 w g) (i:=at'+2) o_ ht hp hs o_;generalize x*y*base^at'=t at *;have XV:=Ix (x:=p/base^at'%base) (y:=t/base^at'%base) (c:=eC base p t at') (gG d_ _ _) (gG d_ _ _) (by rw[c0];decide);rw[FK d_,DP d_,d0,c0]at XV;have fU:=zM (B:=base) d_ p t (at'+1);have XW:=Ix (x:=p/base^(at'+1)%base) (y:=t/base^(at'+1)%base) (c:=eC base p t (at'+1)) (gG d_ _ _) (gG d_ _ _) (eP fU d_);rw[FK d_,DP d_,d1]at XW
 refine tA (M:=[(0,.row (ai (aa base n p)) 172 1)]) (next:=1) (args:=[sl 0 n,vI at',aM x,aM y]) (args':=[.slice (some ⟨g,0,none⟩) n cap,vI at',aM x,aM y]) (v:=.tuple #[])
  (ms:=[(0,.row (ai (aa base n (p+t))) 172 1)]) (N:=63) mixed func239 k_ 100
  (rs:=[((aGj hx hy).at 15:aO prog (ae.v8 w g) 63),.ix f239 23 0 n at' o_ k_,.ld f239 24 172 0 at' (.row (ai (aa base n p)) 172 1) (aM (p/base^at'%base)) rfl (by rw[ft];exact ki (dV o_)) k_,XV.at 26,.ix f239 29 0 n at' o_ k_,.st f239 100029 172 0 at' (.row (ai (aa base n p)) 172 1) (aM ((p+t)/base^at'%base)) (.row (ai (cQ base n (at'+1) (p+t) p)) 172 1) rfl (by rw[<-m0];exact s1) rfl k_,.sum 33 at' 1 (at'+1) rfl o_,.sum 36 at' 1 (at'+1) rfl o_,.ix f239 37 0 n (at'+1) lS k_,.ld f239 38 172 0 (at'+1) (.row (ai (cQ base n (at'+1) (p+t) p)) 172 1) (aM (p/base^(at'+1)%base)) rfl (by rw[ft];exact ki (BH lS (aZ _))) k_,XW.at 41,.ix f239 44 0 n (at'+1) lS k_,.st f239 100044 172 0 (at'+1) (.row (ai (cQ base n (at'+1) (p+t) p)) 172 1) (aM ((p+t)/base^(at'+1)%base)) (.row (ai (cQ base n (at'+2) (p+t) p)) 172 1) rfl s2 rfl k_,.sum 46 at' 2 (at'+2) rfl o_,.code 0 _ _ _ _ _ lo]) k_ ?_ hm ?_ ?_ ?_
 ·exact .cons (.slc (off:=0) (fj _ _ _) kQ o_) (.cons (.same rfl) (.cons (.same rfl) (.cons (.same rfl) .nil)))
 ·exact XU _ _ _
 ·intro k hk;unfold aT;rw[al o_]
 ·intro ao bP v' w' hle rZ bh dD;obtain⟨q1,q2⟩:=QT bh (hle 0 _ (fj _ _ _)) (dD _ (aN ..)) (e9 _);exact⟨by rw[rZ.eW rfl],q1,q2⟩
section
variable{Bs:ae}{n m a b:Nat}
def x9(n m a b i k:Nat):Obj:=.row (ai (aa base (n+m+1) (part base a b i k))) 172 1
def QW(N:Nat):Value:=.func (.func 239) #[sl 2 N] #[]
theorem aGo(ho:da o.op=some x)(hi:i<n)(hk:k<m)(ha:a<base^n)(hb:b<base^m)(h63:n+m+1<35184372088832):
  ct prog Bs o [QW (n+m+1),vI (i+k),aM (a/base^i%base),aM (b/base^k%base)] [(2,some (x9 n m a b i k))] (.tuple #[]) [(2,x9 n m a b i (k+1))]:=by
 refine aGi (fi:=[sl 2 (n+m+1)]) (args:=[vI (i+k),aM (a/base^i%base),aM (b/base^k%base)]) (ca:=[]) (pre:=[]) (post:=[vI (i+k),aM (a/base^i%base),aM (b/base^k%base)]) ho k_ rfl n_
  (λu hu=>by simp at hu;rcases hu with rfl|rfl|rfl<;>rfl) o_ (e9 _) (e9 _) rfl λw g cap cur h1 h2 h3 h4 h5=>?_
 have av:=XJ (B:=base) d_ ha hb;rw[XH]
 exact aGn h1 h2 h3 h4 h5 (gG d_ _ _) (gG d_ _ _) o_ (eP (XI d_ _ _ _ _) av)
  (by rw[<-XH];exact eP (XI d_ _ _ _ _) av) h63
def FN(n m a b i k:Nat):aL:=[(29,vI k),(28,vI m),(27,sl 1 m),(6,QW (n+m+1)),(7,vI i),(8,aM (a/base^i%base))]
def BP(n m a b i k:Nat):aC:=[(1,.view (ai (aa base m b))),(2,x9 n m a b i k)]
theorem aGp(hi:i<n)(hk:k<m)(ha:a<base^n)(hb:b<base^m)(h63:n+m+1<35184372088832):
  ag prog Bs 45 (aE (af f226 2)) (FN n m a b i k) (BP n m a b i k) 3 ⟨.normal,FN n m a b i (k+1),BP n m a b i (k+1),3⟩:=
 ay [.lt 30 k m true (by simp[hk]),.ix f226 32 1 m k hk k_,.ld f226 33 172 1 k (.view (ai (aa base m b))) (aM (b/base^k%base)) rfl (by rw[ft];exact ki (dV hk)) k_,.sum 37 i k (i+k) rfl o_,.step 40 (au f226 40) _ _ _ _ (aGo (x:=.tmp 34) k_ hi hk ha hb h63),.sum 41 k 1 (k+1) rfl o_]
theorem aGq(hi:i<n)(ha:a<base^n)(hb:b<base^m)(h63:n+m+1<35184372088832):
  ag prog Bs 45 (.block 2 (af f226 2)) (FN n m a b i 0) (BP n m a b i 0) 3 ⟨.normal,FN n m a b i m,[(1,.view (ai (aa base m b))),(2,x9 n m a b (i+1) 0)],3⟩:=by
 have:=cg (P:=prog) (B:=Bs) (N:=45) (b:=aE (af f226 2)) (r:=⟨.exit 2,FN n m a b i m,BP n m a b i m,3⟩) m (FN n m a b i) (BP n m a b i)
  (λk j _=>jx (l:=BP n m a b i k) (m:=BP n m a b i 0) rfl j) (λk hk=>aGp hi hk ha hb h63) (ay [.lt 30 m m false s_]) n_
 have:=bO (id:=2) this;unfold BP x9 at this;rw[aF3 hb]at this;exact this
def FO(n m i:Nat):aL:=[(22,vI i),(21,vI n),(20,sl 0 n),(1,sl 1 m),(5,sl 2 (n+m+1)),(6,QW (n+m+1))]
def BQ(n m a b i:Nat):aC:=[(0,.view (ai (aa base n a))),(1,.view (ai (aa base m b))),(2,x9 n m a b i 0)]
theorem aGr(hi:i<n)(ha:a<base^n)(hb:b<base^m)(h63:n+m+1<35184372088832):
  ag prog Bs 45 (aE (af f226 0)) (FO n m i) (BQ n m a b i) 3 ⟨.normal,FO n m (i+1),BQ n m a b (i+1),3⟩:=
 ay [.lt 23 i n true (by simp[hi]),.ix f226 25 0 n i hi k_,.ld f226 26 172 0 i (.view (ai (aa base n a))) (aM (a/base^i%base)) rfl (by rw[ft];exact ki (dV hi)) k_,.code 2 _ _ _ _ _ (aGq hi ha hb h63),.sum 42 i 1 (i+1) rfl o_]
theorem aGs(ha:a<base^n)(hb:b<base^m)(h63:n+m+1<35184372088832):
  ag prog Bs 45 (.block 0 (af f226 0)) (FO n m 0) (BQ n m a b 0) 3 ⟨.normal,FO n m n,BQ n m a b n,3⟩:=
 bO (cg (b:=aE (af f226 0)) (r:=⟨.exit 0,FO n m n,BQ n m a b n,3⟩) n (FO n m) (BQ n m a b)
  (λi k _=>jx (l:=BQ n m a b i) (m:=BQ n m a b 0) rfl k) (λi hi=>aGr hi ha hb h63) (ay [.lt 23 n n false s_]) n_)
end
theorem QX(B n:Nat):aa B n 0=List.replicate n 0:=by apply vT<;>simp[aa]
theorem aGt{vb:i_}(fQ:gZ w va a)(kF:gZ w vb b)(h63:nd base a+nd base b+1<35184372088832):
  Calls prog 226 #[va,vb] w λe w'=>∃ v,e=.returned v/\jk w w' v (a*b)/\Below w.heap.size w w':=by
 have ha:=dL (B:=base) d_ a;have hb:=dL (B:=base) d_ b;have hl:∀ s∈[cq.row va (nd base a) (ai (aa base (nd base a) a)),cq.row vb (nd base b) (ai (aa base (nd base b) b))],s.OK w:=by
  intro s hs;simp at hs;rcases hs with rfl|rfl
  ·exact⟨fQ,e9 _⟩
  ·exact⟨kF,e9 _⟩
 unfold gZ at fQ kF;generalize nd base a=n at *;generalize nd base b=m at *;have hs:=XJ (B:=base) d_ ha hb;have aU:part base a b n 0=a*b:=by rw[BI,dG ha]
 refine kU (Q:=λe w'=>∃ v,e=.returned v/\jk w w' v (a*b)/\Below w.heap.size w w') mixed func226 [cq.row va n (ai (aa base n a)),cq.row vb m (ai (aa base m b))] hl 100 (N:=45) k_
  (rs:=[(aO.sum 15 n m (n+m) rfl o_:aO prog (ae.at w) 45),.sum 16 (n+m) 1 (n+m+1) rfl o_,.pf f226 17 2 (n+m+1) 172 4 (aM 0) (x9 n m a b 0 0).cells (by show _=ai (aa base (n+m+1) (part base a b 0 0));rw[BI,ri,su,kT,QX,DR]) rfl rfl o_ (by simp[maxLen];omega) k_,.code 0 _ _ _ _ _ (aGs (n:=n) (m:=m) ha hb h63),.trim f226 44 2 (n+m+1) (a*b) (x9 n m a b n 0) rfl (by rw[<-aU];rfl) hs o_ (y:=.func 203) k_])
  (v:=.slice (some ⟨2,0,some 7⟩) (nd base (a*b)) 0) (ms:=[(2,x9 n m a b n 0)]) k_ λao bP v' w' hc bh dD _=>⟨v',rfl,?_,bh.base⟩
 have hk:=dD _ (aN ..);unfold x9 at hk;rw[aU]at hk;exact vX bh hk hs hc
section
variable{P:j_}{B:ae}{N:Nat}
def FP(o:Oper):Option BinOp:=match o.op with|.binOp b _ _ _ _=>some b|_=>none
theorem L4{b:BinOp}(ho:FP o=some b)(hb:b≠.eql/\b≠.neq){x y v:i_}(hx:flat x=true)(hy:flat y=true)(hv:flat v=true)(h:∀ t w,(binOp b t x y).run P w=.ok v w):
  ct P B o [x,y] [] v []:=by
 unfold FP at ho;split at ho
 ·rename_i b' t p q t2 bM;injection ho with ho;subst ho;refine(Bl (λu hu=>by simp at hu;rcases hu with rfl|rfl<;>assumption) hv λρ fA w _=>?_).step;rw[bM]at fA;simp[Op.operands]at fA;have hg:(eqGuard b' t p q (ρ p) (ρ q)).run P w=.ok () w:=by unfold eqGuard;cases b'<;>first|rfl|exact absurd rfl hb.1|exact absurd rfl hb.2
  simp only[execOp,bM,fA.1,fA.2];rw[fA.1,fA.2]at hg;simp[hg,h]
 ·cases ho
def aO.shl(fn:Func)(key:Nat)(k:IntKind)(x r:Int)(n:Nat)(hr:k.wrap (x*2^(min n k.bits))=r)(ho:FP (au fn key)=some .shl):aO P B N:=
 .step key (au fn key) [.int k x,vI n] [] (.int k r) [] (L4 ho ⟨λe=>(by cases e),λe=>(by cases e)⟩ rfl rfl rfl λt w=>by
  have h0:¬((n:Int)<0):=by omega
  simp[binOp,Op.shift,vI,h0,hr])
def aO.shr(fn:Func)(key:Nat)(k:IntKind)(x r:Int)(n:Nat)(hr:x.fdiv (2^(min n k.bits))=r)(ho:FP (au fn key)=some .shr):aO P B N:=
 .step key (au fn key) [.int k x,vI n] [] (.int k r) [] (L4 ho ⟨λe=>(by cases e),λe=>(by cases e)⟩ rfl rfl rfl λt w=>by
  have h0:¬((n:Int)<0):=by omega
  simp[binOp,Op.shift,vI,h0,hr])
def aO.uK(fn:Func)(key:Nat)(k:IntKind)(x y r:Int)(hy:y≠0)(hr:k.wrap (x.tdiv y)=r)(ho:FP (au fn key)=some .quo):aO P B N:=
 .step key (au fn key) [.int k x,.int k y] [] (.int k r) [] (L4 ho ⟨λe=>(by cases e),λe=>(by cases e)⟩ rfl rfl rfl λt w=>by simp[binOp,Op.intDiv,hy,hr])
def aO.zR(fn:Func)(key:Nat)(k:IntKind)(x y r:Int)(hy:y≠0)(hr:x.tmod y=r)(ho:FP (au fn key)=some .rem):aO P B N:=
 .step key (au fn key) [.int k x,.int k y] [] (.int k r) [] (L4 ho ⟨λe=>(by cases e),λe=>(by cases e)⟩ rfl rfl rfl λt w=>by simp[binOp,Op.intDiv,hy,hr])
def FQ(P:j_)(o:Oper):Bool:=match o.op with
 |.index t _ _=>match P.underlying t with|some .string=>true|_=>false
 |_=>false
theorem aGu(ho:FQ P o=true){s:ByteArray}{c:UInt8}(hc:s[i]?=some c):ct P B o [.string s,vI i] [] (.int .u8 (c.toNat:Int)) []:=by
 unfold FQ at ho;split at ho
 ·rename_i t p q bM;split at ho
  ·rename_i ht;refine(Bl (λu hu=>by simp at hu;rcases hu with rfl|rfl<;>rfl) rfl λρ fA w _=>?_).step;rw[bM]at fA;simp[Op.operands]at fA;have h0:(0:Int)<=(i:Int):=by omega
   simp[execOp,bM,fA.1,fA.2,Instr.index,vI,asIntOf,iI ht,h0,hc]
  ·cases ho
 ·cases ho
def aO.sx(fn:Func)(key:Nat)(s:ByteArray)(i:Nat)(c:UInt8)(hc:s[i]?=some c)(ho:FQ P (au fn key)=true):aO P B N:=
 .step key (au fn key) [.string s,vI i] [] (.int .u8 (c.toNat:Int)) [] (aGu ho hc)
def QY(P:j_)(o:Oper):Bool:=match o.op with
 |.slice t _ (some _) none none=>match P.underlying t with|some .string=>true|_=>false
 |_=>false
theorem aGv(ho:QY P o=true){s:ByteArray}(hi:i<=s.size):ct P B o [.string s,vI i] [] (.string (s.extract i s.size)) []:=by
 unfold QY at ho;split at ho
 ·rename_i t p q bM;split at ho
  ·rename_i ht;refine(Bl (λu hu=>by simp at hu;rcases hu with rfl|rfl<;>rfl) rfl λρ fA w _=>?_).step;rw[bM]at fA;simp[Op.operands]at fA;have h0:(0:Int)<=(i:Int):=by omega
   have h1:(i:Int)<=(s.size:Int):=by omega
   simp[execOp,bM,fA.1,fA.2,Instr.sliceAt,Instr.slice,Instr.sliceBounds,Instr.sliceBound,vI,asIntOf,iI ht,h0,hi]
  ·cases ho
 ·cases ho
def aO.sf(fn:Func)(key:Nat)(s:ByteArray)(i:Nat)(hi:i<=s.size)(ho:QY P (au fn key)=true):aO P B N:=
 .step key (au fn key) [.string s,vI i] [] (.string (s.extract i s.size)) [] (aGv ho hi)
end
def fB(l:List UInt8):Nat:=l.foldl (λa c=>a*256+c.toNat) 0
theorem QZ:∀(l:List UInt8) (a:Nat),l.foldl (λa c=>a*256+c.toNat) a=a*256^l.length+fB l
 |[],a=>by simp[fB]
 |c::l,a=>by have e:fB (c::l)=(0*256+c.toNat)*256^l.length+fB l:=QZ l (0*256+c.toNat);rw[uH,QZ l,e,pU,dh,e8,kT,jv,fq,cH 256];omega
theorem IC(c:UInt8)(l:List UInt8):fB (c::l)=c.toNat*256^l.length+fB l:=by have:=QZ l (0*256+c.toNat);have e:fB (c::l)=List.foldl (λa c=>a*256+c.toNat) (0*256+c.toNat) l:=rfl;rw[e,this,kT,jv]
theorem zT:∀(l:List UInt8),fB l<256^l.length
 |[]=>by simp[fB]
 |c::l=>by
  have h1:=zT l;have h2:c.toNat<256:=c.toNat_lt;rw[IC,pU,dh];have:c.toNat*256^l.length+256^l.length<=256^l.length*256:=by rw[<-tC,cH];exact iX _ o_
  omega
theorem XX:∀(l:List UInt8) (i:Nat),i<l.length->∃ c,l[l.length-1-i]?=some c/\c.toNat=fB l/256^i%256
 |[],i,h=>by simp at h
 |c::l,i,h=>by
  rw[pU]at h;rw[IC];rcases eQ i l.length with hi|hi
  ·obtain⟨d,h1,h2⟩:=XX l i hi;refine⟨d,?_,?_⟩
   ·rw[pU,show l.length+1-1-i=(l.length-1-i)+1 by omega,List.getElem?_cons_succ];exact h1
   ·rw[h2];have e:256^l.length=256^i*(256*256^(l.length-i-1)):=by rw[<-Nat.pow_succ',<-dX];congr 1;omega
    rw[e,show c.toNat*(256^i*(256*256^(l.length-i-1)))=256^i*(256*(c.toNat*256^(l.length-i-1)))by rw[lX,lX c.toNat],lW,Iu _ _ (cE d_),DQ]
  ·have e:i=l.length:=by omega
   subst e;refine⟨c,by simp,?_⟩;have h1:=zT l;have h2:c.toNat<256:=c.toNat_lt;rw[cH,lW,Iu _ _ (cE d_),lq h1,jv,dG h2]
def jY(s:ByteArray):Nat:=fB s.data.toList
theorem XY(s:ByteArray)(i:Nat):s[i]?=s.data.toList[i]?:=by
 by_cases h:i<s.size
 ·rw[getElem?_pos s i h,bd (by simpa using h)];rfl
 ·rw[getElem?_neg s i h,xH (by simpa using h)]
theorem XZ(s:ByteArray):jY s<256^s.size:=zT _
theorem Q0(s:ByteArray)(h:i<s.size):∃ c,s[s.size-1-i]?=some c/\c.toNat=jY s/256^i%256:=by rw[XY];exact XX s.data.toList i (by simpa using h)
theorem aGw:(a%256^i/4294967296^(i/4)%4294967296)||| (a/256^i%256*2^(8*(i%4)))=a%256^(i+1)/4294967296^(i/4)%4294967296:=by
 have hB:(4294967296:Nat)=256^4:=by decide
 have e1:(4294967296:Nat)^(i/4)=256^(4*(i/4)):=by rw[hB,<-rj]
 have e2:(2:Nat)^(8*(i%4))=256^(i%4):=by rw[rj]
 have e3:256^i=256^(4*(i/4))*256^(i%4):=by rw[<-dX];congr 1;omega
 have hq:0<256^(4*(i/4)):=cE d_;have hr:256^(i%4)*256<=4294967296:=by rw[hB,<-dh];exact cX d_ o_
 rw[e1,e2];have m1:a%256^i/256^(4*(i/4))=a/256^(4*(i/4))%256^(i%4):=by rw[e3,zU]
 have m2:a%256^(i+1)/256^(4*(i/4))=a/256^(4*(i/4))%(256^(i%4)*256):=by rw[dh,e3,fq,zU]
 have m3:a/256^i%256=a/256^(4*(i/4))/256^(i%4)%256:=by rw[e3,kg]
 rw[m1,m2,m3];generalize a/256^(4*(i/4))=c;have hp:0<256^(i%4):=cE d_;have h1:=cC c hp;have h2:c/256^(i%4)%256<256:=cC _ d_;have h3:c%(256^(i%4)*256)=c%256^(i%4)+256^(i%4)*(c/256^(i%4)%256):=LO;have h4:c%(256^(i%4)*256)<256^(i%4)*256:=cC _ o_;rw[dG (show c%256^(i%4)<4294967296 by omega),dG (show c%(256^(i%4)*256)<4294967296 by omega),h3];have e4:(256:Nat)^(i%4)=2^(8*(i%4)):=by rw[rj]
 rw[e4]at h1 ⊢;rw[Nat.or_comm,cH,<-L5 h1,lW]
theorem aGx(h:j≠i/4):a%256^i/4294967296^j%4294967296=a%256^(i+1)/4294967296^j%4294967296:=by
 have hB:(4294967296:Nat)=256^4:=by decide
 have e1:(4294967296:Nat)^j=256^(4*j):=by rw[hB,<-rj]
 rw[e1];rcases DA h with h1|h1
 ·-- lower digits
  have k:∀ i,4*j+4<=i->a%256^i/256^(4*j)%4294967296=a/256^(4*j)%4294967296:=by
   intro i hi;have e3:256^i=256^(4*j)*(4294967296*256^(i-4*j-4)):=by rw[hB,<-dX,<-dX];congr 1;omega
   rw[e3,zU,ID]
  rw[k i o_,k (i+1) o_]
 ·have hp:∀ i,i<=4*j->a%256^i/256^(4*j)=0:=by intro i hi;exact lq (cy (cC _ (cE d_)) (cX d_ hi))
  rw[hp i o_,hp (i+1) o_]
theorem aGy{n:Nat}(hi:i/4<n):(aa 4294967296 n (a%256^i)).set (i/4) (a%256^(i+1)/4294967296^(i/4)%4294967296)=aa 4294967296 n (a%256^(i+1)):=by
 apply vT
 ·simp[aa]
 ·intro j h1 h2;simp only[aa,gF,zL]at h2;rw[FJ];simp only[aa,BF,BG];by_cases hj:i/4=j
  ·rw[aq hj,hj]
  ·rw[al hj];exact aGx (lQ hj)
def BA(l:List UInt8):ByteArray:=⟨l.toArray⟩
theorem nT(l:List UInt8):(BA l).size=l.length:=rfl
theorem IE(l:List UInt8)(i:Nat):(BA l)[i]?=l[i]?:=by rw[XY];rfl
theorem aGz(l:List UInt8)(i:Nat):(BA l).extract i (BA l).size=BA (l.drop i):=by apply ByteArray.ext;rw[ByteArray.data_extract];show(l.toArray).extract i l.length=(l.drop i).toArray;apply Dr;simp[jN]
def jl:List UInt8->Nat
 |[]=>0
 |c::l=>if c=0 then jl l+1 else 0
theorem X0:∀ l:List UInt8,jl l<=l.length
 |[]=>aZ _
 |c::l=>by unfold jl;have:=X0 l;split<;>simp<;>omega
theorem X1:∀(l:List UInt8) (i:Nat),i<jl l->l[i]?=some 0
 |[],i,h=>by simp[jl]at h
 |c::l,i,h=>by
  unfold jl at h;split at h
  ·rename_i hc;cases i with
   |zero=>rw[hc];rfl
   |succ i=>exact X1 l i o_
  ·omega
theorem X2:∀(l:List UInt8),jl l<l.length->∃ c,l[jl l]?=some c/\c≠0
 |[],h=>by simp at h
 |c::l,h=>by
  unfold jl at h ⊢;split at h
  ·rename_i hc;rw[aq hc];obtain⟨d,h1,h2⟩:=X2 l (by simpa using h);exact⟨d,h1,h2⟩
  ·rename_i hc;rw[al hc];exact⟨c,rfl,hc⟩
def IF(l:List UInt8):List UInt8:=l.drop (jl l)
theorem aGA{x n:Nat}(hn:n<=32)(h:x*2^n<base):IntKind.u32.wrap ((x:Int)*2^(min n IntKind.u32.bits))=((x*2^n:Nat):Int):=by
 have e:(x:Int)*2^n=((x*2^n:Nat):Int):=by simp
 rw[show min n IntKind.u32.bits=n from mE hn,mI,e];unfold base at h;omega
section
variable{Bs:ae}{n N a:Nat}{s:ByteArray}
def FR(s:ByteArray)(n N i:Nat):aL:=[(13,vI i),(12,vI n),(0,.string s),(3,sl 0 N)]
def BR(N a i:Nat):aC:=[(0,.row (ai (aa base N (a%256^i))) 172 1)]
theorem aGB(hn:n=s.size)(hN:N=(n+3)/4)(ha:a=jY s)(hi:i<n)(h63:n<35184372088832):
  ag prog Bs 39 (aE (af f214 0)) (FR s n N i) (BR N a i) 1 ⟨.normal,FR s n N (i+1),BR N a (i+1),1⟩:=by
 obtain⟨c,fU,c7⟩:=Q0 s (show i<s.size by omega);rw[<-hn]at fU;rw[<-ha]at c7;have wb:i/4<N:=by omega
 have hb:=aGw (a:=a) (i:=i);have h1:a%256^i/base^(i/4)%base<base:=gG d_ _ _;have h2:c.toNat*2^(8*(i%4))<base:=by have:c.toNat<256:=c.toNat_lt;have h3:2^(8*(i%4))<=2^24:=cX d_ o_;have:=BS (show c.toNat<=255 by omega) h3;unfold base;omega
 have bH:eM prog 172 (ai (aa base N (a%256^i))) (i/4) (aM (a%256^(i+1)/base^(i/4)%base))=some (ai (aa base N (a%256^(i+1)))):=by rw[xY _ _ _ (by simp[ai,nR];exact wb),xZ,aGy wb]
 have kD:((a%256^i/base^(i/4)%base||| c.toNat*2^(8*(i%4)):Nat):Int)=((a%256^(i+1)/base^(i/4)%base:Nat):Int):=by rw[c7];exact b9 _ hb
 have hlen:(s.size:Int)=((n:Nat):Int):=by rw[hn]
 exact ay [.lt 14 i n true (by simp[hi]),.rw 17 (.int .i64 (s.size:Int)) (vI n) (by rw[hlen];rfl),.eO 18 n 1 (n-1) o_ o_,.eO 20 (n-1) i (n-1-i) o_ o_,.wr 23 .i64 (Int.tdiv (i:Int) 4) ((i/4:Nat):Int) (by rw[dO,zW o_];omega),.ix f214 24 0 N (i/4) wb k_,.ld f214 25 172 0 (i/4) (.row (ai (aa base N (a%256^i))) 172 1) (aM (a%256^i/base^(i/4)%base)) rfl (by rw[ft];exact ki (dV wb)) k_,.sx f214 28 s (n-1-i) c fU k_,.wr 29 .u32 (c.toNat:Int) (c.toNat:Int) (by rw[mI];have:=c.toNat_lt;omega),.quo 31 .i64 (Int.tmod (i:Int) 4) ((i%4:Nat):Int) (by rw[ya o_];omega),.wr 32 .i64 (8*((i%4:Nat):Int)) ((8*(i%4):Nat):Int) (by rw[dO];omega),.shl f214 33 .u32 (c.toNat:Int) ((c.toNat*2^(8*(i%4)):Nat):Int) (8*(i%4)) (aGA o_ h2) k_,.quo 34 .u32 _ _ ((QR h1 h2).trans kD),.ix f214 35 0 N (i/4) wb k_,.st f214 100035 172 0 (i/4) (.row (ai (aa base N (a%256^i))) 172 1) (aM (a%256^(i+1)/base^(i/4)%base)) (.row (ai (aa base N (a%256^(i+1)))) 172 1) rfl bH rfl k_,.sum 36 i 1 (i+1) rfl o_]
theorem aGC(hn:n=s.size)(hN:N=(n+3)/4)(ha:a=jY s)(h63:n<35184372088832):
  ag prog Bs 39 (.block 0 (af f214 0)) (FR s n N 0) (BR N a 0) 1 ⟨.normal,FR s n N n,BR N a n,1⟩:=
 bO (cg (b:=aE (af f214 0)) (r:=⟨.exit 0,FR s n N n,BR N a n,1⟩) n (FR s n N) (BR N a)
  (λi k _=>jx (l:=BR N a i) (m:=BR N a 0) rfl k) (λi hi=>aGB hn hN ha hi h63) (ay [.lt 14 n n false s_]) n_)
end
theorem aGD{s:ByteArray}(h63:s.size<35184372088832):
  Calls prog 214 #[.string s] w λe w'=>∃ v,e=.returned v/\jk w w' v (jY s)/\Below w.heap.size w w':=by
 have av:=XZ s;have hs:jY s<base^((s.size+3)/4):=by
  have:(base:Nat)=256^4:=by decide
  rw[this,<-rj];exact cy av (cX d_ o_)
 have aU:jY s%256^s.size=jY s:=dG av
 refine kU (Q:=λe w'=>∃ v,e=.returned v/\jk w w' v (jY s)/\Below w.heap.size w w') mixed func214 [cq.plain (.string s)] (λx hx=>by simp at hx;subst hx;rfl) 100 (N:=39) k_
  (rs:=[(aO.sum 8 s.size 3 (s.size+3) rfl o_:aO prog (ae.at w) 39),.wr 9 .i64 (Int.tdiv ((s.size+3:Nat):Int) 4) (((s.size+3)/4:Nat):Int) (by rw[dO,zW o_];omega),.pf f214 10 0 ((s.size+3)/4) 172 4 (aM 0) (ai (aa base ((s.size+3)/4) (jY s%256^0))) (by rw[ri,su,QX,DR]) rfl rfl o_ (by simp[maxLen];omega) k_,.code 0 _ _ _ _ _ (aGC (n:=s.size) (N:=(s.size+3)/4) (a:=jY s) rfl rfl rfl h63),.trim f214 38 0 ((s.size+3)/4) (jY s) (.row (ai (aa base ((s.size+3)/4) (jY s%256^s.size))) 172 1) rfl (by rw[aU];rfl) hs o_ (y:=.func 203) k_])
  (v:=.slice (some ⟨0,0,some 7⟩) (nd base (jY s)) 0) (ms:=[(0,.row (ai (aa base ((s.size+3)/4) (jY s%256^s.size))) 172 1)]) k_ λao bP v' w' hc bh dD _=>⟨v',rfl,?_,bh.base⟩
 have hk:=dD _ (aN ..);rw[aU]at hk;exact vX bh hk hs hc
section
variable{Bs:ae}{l:List UInt8}
def BT(l:List UInt8)(i:Nat):aL:=[(0,.string (BA (l.drop i))),(1,.int .u8 0)]
theorem Q1:(((BA (l.drop i)).size:Nat):Int)=((l.length-i:Nat):Int):=by rw[nT,uD]
theorem aGE(hi:i<jl l):ag prog Bs 17 (aE (af f240 0)) (BT l i) [] 0 ⟨.normal,BT l (i+1),[],0⟩:=by
 have hz:=X1 l i hi;have hle:=X0 l;have e:(BA (l.drop i)).extract 1 (BA (l.drop i)).size=BA (l.drop (i+1)):=by rw[aGz,L6]
 have h1:1<=(BA (l.drop i)).size:=by rw[nT,uD];omega
 exact ay [.rw 6 (.int .i64 (((BA (l.drop i)).size:Nat):Int)) (vI (l.length-i)) (by rw[Q1];rfl),.gt 7 (l.length-i) 0 true (by simp;omega),.sx f240 10 (BA (l.drop i)) 0 0 (by rw[IE,Fw];exact hz) k_,.sf f240 15 (BA (l.drop i)) 1 h1 k_,.rw 0 (.string ((BA (l.drop i)).extract 1 (BA (l.drop i)).size)) (.string (BA (l.drop (i+1)))) (by rw[e])]
theorem aGF:ag prog Bs 17 (aE (af f240 0)) (BT l (jl l)) [] 0 ⟨.exit 0,BT l (jl l),[],0⟩:=by
 by_cases h:jl l<l.length
 ·obtain⟨c,h1,h2⟩:=X2 l h;have h3:c.toNat≠0:=λe=>h2 (L7.1 (by rw[e];rfl));exact ay [.rw 6 (.int .i64 (((BA (l.drop (jl l))).size:Nat):Int)) (vI (l.length-jl l)) (by rw[Q1];rfl),.gt 7 (l.length-jl l) 0 true (by simp;omega),.sx f240 10 (BA (l.drop (jl l))) 0 c (by rw[IE,Fw];exact h1) k_,.fX 12 c.toNat 0 false (by simp[h3])]
 ·exact ay [.rw 6 (.int .i64 (((BA (l.drop (jl l))).size:Nat):Int)) (vI (l.length-jl l)) (by rw[Q1];rfl),.gt 7 (l.length-jl l) 0 false (by simp;omega)]
theorem aGG:ag prog Bs 17 (.block 0 (af f240 0)) (BT l 0) [] 0 ⟨.normal,BT l (jl l),[],0⟩:=
 bO (cg (b:=aE (af f240 0)) (r:=⟨.exit 0,BT l (jl l),[],0⟩) (jl l) (BT l) (λ_=>[]) (λi k _=>Iff.rfl) (λi hi=>aGE hi) aGF n_)
end
theorem aGH(l:List UInt8):aB prog 240 [.string (BA l),.int .u8 0] (.string (BA (IF l))):=
 aV func240 (λ_=>[.code 0 _ _ _ _ _ (aGG (l:=l))])
theorem X3(l:List UInt8):(BA l).toList=l:=by rw[ByteArray.toList_eq];rfl
theorem DU(l:List UInt8):((BA l).toList==(ByteArray.mk #[]).toList)=decide (l=[]):=by rw[X3,show(ByteArray.mk #[]).toList=[]from X3 []];cases l<;>rfl
theorem aGI(l:List UInt8):aB prog 228 [.string (BA l),.string ⟨#[0]⟩] (.string (BA (IF l))):=by
 by_cases h:l=[]
 ·subst h;exact aV func228 (λ_=>[.rw 8 (.bool ((BA []).toList==(ByteArray.mk #[]).toList)) b_ (by rw[DU];rfl)])
 ·exact aV func228 (λ_=>[.rw 8 (.bool ((BA l).toList==(ByteArray.mk #[]).toList)) a_ (by rw[DU,aQ h]),(aGH l).at 25])
theorem Q2{x y:Nat}(hx:x<18446744073709551616)(hy:y<18446744073709551616):IntKind.u64.wrap (((BitVec.ofInt IntKind.u64.bits (x:Int))||| (BitVec.ofInt IntKind.u64.bits (y:Int))).toNat:Int)=((x||| y:Nat):Int):=by
 show IntKind.u64.wrap (((BitVec.ofInt 64 (x:Int))||| (BitVec.ofInt 64 (y:Int))).toNat:Int)=_;have e:∀ x:Nat,(BitVec.ofInt 64 (x:Int))=BitVec.ofNat 64 x:=λx=>by simp
 have t:∀ x:Nat,x<18446744073709551616->(BitVec.ofNat 64 x).toNat=x:=λx h=>by rw[BitVec.toNat_ofNat];exact dG h
 rw[e,e,BitVec.toNat_or,t x hx,t y hy,jz];have:x||| y<18446744073709551616:=XP (n:=64) hx hy
 omega
theorem aGJ{hi lo y:Nat}(hh:hi<y)(hl:lo<base)(hy:y<base):
  aB prog 245 [aM hi,aM lo,aM y] (.tuple #[aM ((hi*base+lo)/y),aM ((hi*base+lo)%y)]):=by
 have kD:hi*base||| lo=hi*base+lo:=by have:=L5 (i:=32) hl hi;rw[cH];exact this.symm
 have hs:hi*base+lo<18446744073709551616:=by clear kD;unfold base at *;omega
 have hq:(hi*base+lo)/y<base:=by rw[gY o_];have:=eR base (show hi+1<=y by omega);rw[cH base y];clear kD;unfold base at *;omega
 have hr:(hi*base+lo)%y<base:=lA (cC _ o_) hy;have vW:(y:Int)≠0:=by omega
 have h64:base=4294967296:=rfl;have hA:hi*base<18446744073709551616:=eP (IG _ _) hs;have FT:IntKind.u64.wrap ((hi:Int)*2^32)=((hi*base:Nat):Int):=by
  have e:(hi:Int)*2^32=((hi*base:Nat):Int):=by rw[nh];rfl
  rw[e,jz];generalize hi*base=H at hA ⊢;omega
 have hB:lo<18446744073709551616:=lA hl d_;have key:∀ H:Nat,H=hi*base->IntKind.u64.wrap (((BitVec.ofInt IntKind.u64.bits (H:Int))||| (BitVec.ofInt IntKind.u64.bits (lo:Int))).toNat:Int)=((hi*base+lo:Nat):Int):=by intro H hH;rw[Q2 (by rw[hH];exact hA) hB,hH,kD]
 obtain⟨H,hH⟩:∃ H,H=hi*base:=⟨_,rfl⟩;have X4:=key H hH;rw[<-hH]at FT;generalize hi*base+lo=S at *;have u64:∀{z:Nat},z<base->IntKind.u64.wrap (z:Int)=z:=λ{z} h=>by rw[jz];unfold base at h;omega
 have u32:∀{z:Nat},z<base->IntKind.u32.wrap (z:Int)=z:=λ{z} h=>by rw[mI];unfold base at h;omega
 have pd:IntKind.u64.wrap (Int.tdiv (S:Int) y)=((S/y:Nat):Int):=by rw[zW o_,<-sA];exact u64 hq
 have mJ:Int.tmod (S:Int) y=((S%y:Nat):Int):=by rw[ya o_];rfl
 exact aV func245 (λ_=>[
  .rw 10 (.bool ((y:Int)!=0)) b_ (by congr 1;rw[qg];exact vW),
  .rw 14 (.bool (decide ((y:Int)<=(hi:Int)))) a_ (by congr 1;rw[X5];omega),
  .wr 18 .u64 hi hi (u64 o_),.wr 19 .u64 ((hi:Int)*2^32) (H:Int) FT,.wr 21 .u64 lo lo (u64 hl),
  .quo 22 .u64 _ (S:Int) X4,.wr 25 .u64 y y (u64 hy),
  .uK f245 26 .u64 (S:Int) y ((S/y:Nat):Int) vW pd k_,.wr 27 .u32 ((S/y:Nat):Int) ((S/y:Nat):Int) (u32 hq),
  .wr 30 .u64 y y (u64 hy),
  .zR f245 31 .u64 (S:Int) y ((S%y:Nat):Int) vW mJ k_,.wr 32 .u32 ((S%y:Nat):Int) ((S%y:Nat):Int) (u32 hr)])
def c8(i:Nat):Value:=.int .i64 ((i:Int)-1)
theorem dP(j:Nat):c8 (j+1)=vI j:=by
 unfold c8 vI;have e:((j+1:Nat):Int)-1=(j:Int):=by omega
 rw[e]
theorem nU(h:j<9223372036854775807):IntKind.i64.wrap ((j:Int)-1)=(j:Int)-1:=by rw[dO];omega
section
variable{Bs:ae}{n a d:Nat}
def rk(n a d i:Nat):aL:=[(8,c8 i),(6,sl 1 n),(7,aM (a/base^i%d)),(0,sl 0 n),(1,aM d)]
def BU(n a d i:Nat):aC:=[(0,.view (ai (aa base n a))),(1,.row (ai (gh base n i (a/d))) 172 1)]
theorem L8(hj:j<n)(hd:0<d)(lY:d<base)(h63:n<35184372088832):
  ag prog Bs 35 (aE (af f231 0)) (rk n a d (j+1)) (BU n a d (j+1)) 2 ⟨.normal,rk n a d j,BU n a d j,2⟩:=by
 have bH:eM prog 172 (ai (gh base n (j+1) (a/d))) j (aM (a/d/base^j%base))=some (ai (gh base n j (a/d))):=by rw[xY _ _ _ (by simp[ai,LU];exact hj),xZ,LW hj rfl]
 have hdiv:=aGJ (hi:=a/base^(j+1)%d) (lo:=a/base^j%base) (y:=d) (cC _ hd) (gG d_ _ _) lY;obtain⟨q1,q2⟩:=XK (B:=base) d_ hd (jm lY) a j;rw[q1,q2]at hdiv;exact ay [.rw 15 (c8 (j+1)) (vI j) (dP j),.ge 16 j 0 true s_,.rw 21 (c8 (j+1)) (vI j) (dP j),.rw 24 (c8 (j+1)) (vI j) (dP j),.ix f231 25 0 n j hj k_,.ld f231 26 172 0 j (.view (ai (aa base n a))) (aM (a/base^j%base)) rfl (by rw[ft];exact ki (dV hj)) k_,hdiv.at 28,.ix f231 31 1 n j hj k_,.st f231 100031 172 1 j (.row (ai (gh base n (j+1) (a/d))) 172 1) (aM (a/d/base^j%base)) (.row (ai (gh base n j (a/d))) 172 1) rfl bH rfl k_,.rw 17 (c8 (j+1)) (vI j) (dP j),.wr 18 .i64 ((j:Int)-1) ((j:Int)-1) (nU o_)]
theorem aGK(hd:0<d)(lY:d<base)(h63:n<35184372088832):
  ag prog Bs 35 (.block 0 (af f231 0)) (rk n a d n) (BU n a d n) 2 ⟨.normal,rk n a d 0,BU n a d 0,2⟩:=by
 have:=cg (P:=prog) (B:=Bs) (N:=35) (b:=aE (af f231 0)) (next:=2) (r:=⟨.exit 0,rk n a d 0,BU n a d 0,2⟩) n (λi=>rk n a d (n-i)) (λi=>BU n a d (n-i))
  (λi k _=>jx (l:=BU n a d (n-i)) (m:=BU n a d (n-0)) rfl k)
  (λi hi=>by
   have e:n-i=(n-(i+1))+1:=by omega
   simp only[e];exact L8 o_ hd lY h63)
  (by
   have e:n-n=0:=by omega
   simp only[e];exact ay [.rw 16 (.bool (decide (((0:Nat):Int)-1>=0))) a_ rfl]) n_
 exact bO this
end
theorem aGL(fQ:gZ w va a)(hd:0<d)(lY:d<base)(h1:nd base a<35184372088832):
  Calls prog 231 #[va,aM d] w λe w'=>∃ v,e=.returned (.tuple #[v,aM (a%d)])/\jk w w' v (a/d)/\Below w.heap.size w w':=by
 have ha:=dL (B:=base) d_ a;have hl:∀ s∈[cq.row va (nd base a) (ai (aa base (nd base a) a)),cq.plain (aM d)],s.OK w:=by
  intro s hs;simp at hs;rcases hs with rfl|rfl
  ·exact⟨fQ,e9 _⟩
  ·rfl
 unfold gZ at fQ;generalize nd base a=n at *;have hs:a/d<base^n:=eP (sB _ _) ha;have e0:a/base^n%d=0:=by rw[lq ha];exact Nat.zero_mod _
 have e1:a/base^0%d=a%d:=by simp
 refine kU (Q:=λe w'=>∃ v,e=.returned (.tuple #[v,aM (a%d)])/\jk w w' v (a/d)/\Below w.heap.size w w') mixed func231 [cq.row va n (ai (aa base n a)),cq.plain (aM d)] hl 100 (N:=35) k_
  (rs:=[(aO.pf f231 11 1 n 172 4 (aM 0) (ai (gh base n n (a/d))) (by rw[LV,DR]) rfl rfl o_ (by simp[maxLen];omega) k_:aO prog (ae.at w) 35),.rw 7 (.int .u32 0) (aM (a/base^n%d)) (by rw[e0];rfl),.wr 14 .i64 ((n:Int)-1) ((n:Int)-1) (nU o_),.code 0 _ _ _ _ _ (aGK (n:=n) (a:=a) hd lY h1),.trim f231 33 1 n (a/d) (.row (ai (gh base n 0 (a/d))) 172 1) rfl (by rw[<-Iw];rfl) hs o_ (y:=.func 203) k_])
  (v:=.tuple #[.slice (some ⟨1,0,some 7⟩) (nd base (a/d)) 0,aM (a/base^0%d)]) (ms:=[(1,.row (ai (gh base n 0 (a/d))) 172 1)]) k_ λao bP v' w' hc bh dD _=>?_
 obtain⟨vs,he,aU⟩:=hc.tg;obtain⟨v1,v2,aK,c1,c2⟩:=iH aU;have hk:=dD _ (aN ..);rw[Iw]at hk;refine⟨v1,?_,vX bh hk hs c1,bh.base⟩;rw[he,show vs=#[v1,v2]from uE.1 aK,c2.eW rfl,e1]
def gH(a b:Nat):Int:=if a<b then -1 else if b<a then 1 else 0
section
variable{Bs:ae}{n a b:Nat}
def zX(n i:Nat):aL:=[(5,c8 i),(0,sl 0 n),(1,sl 1 n)]
def rl(n a b:Nat):aC:=[(0,.view (ai (aa base n a))),(1,.view (ai (aa base n b)))]
noncomputable def Q3(n a b j:Nat)(hj:j<n)(t1 t2:Bool)(h1:decide (a/base^j%base<b/base^j%base)=t1)(h2:decide (b/base^j%base<a/base^j%base)=t2)(more:bK prog Bs 43):bK prog Bs 43:=
 .rw 19 (c8 (j+1)) (vI j) (dP j)::.ge 20 j 0 true s_::.rw 25 (c8 (j+1)) (vI j) (dP j)::.ix f220 26 0 n j hj k_::
  .ld f220 27 172 0 j (.view (ai (aa base n a))) (aM (a/base^j%base)) rfl (by rw[ft];exact ki (dV hj)) k_::
  .rw 29 (c8 (j+1)) (vI j) (dP j)::.ix f220 30 1 n j hj k_::
  .ld f220 31 172 1 j (.view (ai (aa base n b))) (aM (b/base^j%base)) rfl (by rw[ft];exact ki (dV hj)) k_::
  .lt 32 (a/base^j%base) (b/base^j%base) t1 h1::(if t1 then[]else
  .rw 35 (c8 (j+1)) (vI j) (dP j)::.ix f220 36 0 n j hj k_::
  .ld f220 37 172 0 j (.view (ai (aa base n a))) (aM (a/base^j%base)) rfl (by rw[ft];exact ki (dV hj)) k_::
  .rw 39 (c8 (j+1)) (vI j) (dP j)::.ix f220 40 1 n j hj k_::
  .ld f220 41 172 1 j (.view (ai (aa base n b))) (aM (b/base^j%base)) rfl (by rw[ft];exact ki (dV hj)) k_::
  .gt 42 (a/base^j%base) (b/base^j%base) t2 h2::more)
theorem aGM(hj:j<n)(he:a/base^j%base=b/base^j%base)(h63:n<35184372088832):
  ag prog Bs 43 (aE (af f220 0)) (zX n (j+1)) (rl n a b) 2 ⟨.normal,zX n j,rl n a b,2⟩:=
 ay (Q3 n a b j hj false false (by simp[he]) (by simp[he]) [.rw 21 (c8 (j+1)) (vI j) (dP j),.wr 22 .i64 ((j:Int)-1) ((j:Int)-1) (nU o_)])
theorem aGN(hj:j<n)(av:a/base^j%base<b/base^j%base):
  ag prog Bs 43 (aE (af f220 0)) (zX n (j+1)) (rl n a b) 2 ⟨.ret,[(4,.int .i64 (-1))],rl n a b,2⟩:=
 ay (Q3 n a b j hj true false (by simp[av]) (by simp;omega) [])
theorem aGO(hj:j<n)(av:b/base^j%base<a/base^j%base):
  ag prog Bs 43 (aE (af f220 0)) (zX n (j+1)) (rl n a b) 2 ⟨.ret,[(4,.int .i64 1)],rl n a b,2⟩:=
 ay (Q3 n a b j hj false true (by simp;omega) (by simp[av]) [])
theorem aGP:ag prog Bs 43 (aE (af f220 0)) (zX n 0) (rl n a b) 2 ⟨.exit 0,[],rl n a b,2⟩:=
 ay [.rw 20 (.bool (decide (((0:Nat):Int)-1>=0))) a_ rfl]
theorem aGQ(ha:a<base^n)(hb:b<base^n)(h63:n<35184372088832):
  ag prog Bs 43 (.block 0 (af f220 0)) (zX n n) (rl n a b) 2 (if a=b then⟨.normal,[],rl n a b,2⟩else⟨.ret,[(4,.int .i64 (gH a b))],rl n a b,2⟩):=by
 obtain⟨e,h1,h2,h3⟩:=xW (λt=>¬(t<n/\a/base^(n-1-t)%base=b/base^(n-1-t)%base)) n o_;have we:=XL ha hb e h1 λs hs=>(DW.1 (h3 s hs)).2;have go:∀(r:kR),r.ex≠.normal->ag prog Bs 43 (aE (af f220 0)) (zX n (n-e)) (rl n a b) 2 r->ag prog Bs 43 (.loop (aE (af f220 0))) (zX n n) (rl n a b) 2 r:=by
  intro r hr uL
  exact cg (P:=prog) (B:=Bs) (N:=43) (b:=aE (af f220 0)) (next:=2) (r:=r) e (λi=>zX n (n-i)) (λ_=>rl n a b) (λi k _=>Iff.rfl)
   (λi hi=>by
    have q:=DW.1 (h3 i hi);have e1:n-i=(n-(i+1))+1:=by omega
    have e2:n-1-i=n-(i+1):=by omega
    simp only[e1];exact aGM o_ (by rw[<-e2];exact q.2) h63) uL hr
 by_cases BV:e=n
 ·have bX:a=b:=by rw[BV,uN,ri,DX,DX]at we;exact we
  rw[aq bX];have:=go ⟨.exit 0,[],rl n a b,2⟩ n_ (by rw[BV,uN];exact aGP);exact bO (id:=0) this
 ·have hj:n-e=(n-1-e)+1:=by omega
  have aY:a/base^(n-1-e)%base≠b/base^(n-1-e)%base:=λh=>h2 ⟨by omega,h⟩;rw[hj]at we go;have bX:a≠b:=λh=>aY (by rw[h]);rw[al bX];rcases DA aY with av|r8
  ·have hl:=LX we av;have e1:gH a b=-1:=by unfold gH;rw[aq hl]
   rw[e1];exact bO (id:=0) (go _ n_ (aGN o_ av))
  ·have hl:=LX we.symm r8;have e1:gH a b=1:=by unfold gH;rw[al o_,aq hl]
   rw[e1];exact bO (id:=0) (go _ n_ (aGO o_ r8))
end
def pk(a b:Nat):Int:=if nd base a=nd base b then gH a b else(nd base a:Int)-nd base b
theorem L9{a b:Nat}:0<=pk a b↔b<=a:=by
 unfold pk;by_cases h:nd base a=nd base b
 ·rw[aq h];unfold gH;by_cases h1:a<b
  ·rw[aq h1];omega
  ·rw[al h1];by_cases h2:b<a
   ·rw[aq h2];omega
   ·rw[al h2];omega
 ·rw[al h];rcases eQ a b with h1|h1
  ·have:=iO (B:=base) d_ (jm h1);omega
  ·have:=iO (B:=base) d_ h1;omega
theorem Ma{vb:i_}(fQ:gZ w va a)(kF:gZ w vb b)(h1:nd base a<35184372088832)(h2:nd base b<35184372088832):
  Calls prog 220 #[va,vb] w λe w'=>e=.returned (.int .i64 (pk a b))/\Below w.heap.size w w':=by
 have ha:=dL (B:=base) d_ a;have hb:=dL (B:=base) d_ b;have hl:∀ s∈[cq.row va (nd base a) (ai (aa base (nd base a) a)),cq.row vb (nd base b) (ai (aa base (nd base b) b))],s.OK w:=by
  intro s hs;simp at hs;rcases hs with rfl|rfl
  ·exact⟨fQ,e9 _⟩
  ·exact⟨kF,e9 _⟩
 unfold gZ at fQ kF;unfold pk;generalize nd base a=n at *;generalize nd base b=m at *;have fin:∀{ao:Map} {bP:Nat->Option Obj} {v':i_} {w':h_} {z:Int},aG ao (.int .i64 z) v'->aI (ae.at w) ao bP w'->Ending.returned v'=.returned (.int .i64 z)/\Below w.heap.size w w':=λhc hm=>⟨by rw[hc.eW rfl],hm.base⟩;have aY:∀ t:Bool,decide (n=m)=!t->(Value.bool (((n:Nat):Int)!=((m:Nat):Int)))=.bool t:=by
  intro t h
  congr 1
  by_cases kS:n=m
  ·subst kS;simp at h;subst h;simp
  ·rw[aQ kS]at h;have:t=true:=by cases t<;>simp at h ⊢
   subst this;rw[qg];omega
 by_cases kS:n=m
 ·subst kS;rw[aq rfl];have lo:=aGQ (Bs:=ae.at w) ha hb h1;by_cases bX:a=b
  ·rw[aq bX]at lo;have ho:gH a b=0:=by unfold gH;rw[al o_,al o_]
   rw[ho]
   exact kU (Q:=λe w'=>e=.returned (.int .i64 0)/\Below w.heap.size w w') mixed func220 [cq.row va n (ai (aa base n a)),cq.row vb n (ai (aa base n b))] hl 100 (N:=43) k_
    (rs:=[(aO.rw 10 (.bool (((n:Nat):Int)!=((n:Nat):Int))) a_ (aY false s_):aO prog (ae.at w) 43),.wr 18 .i64 ((n:Int)-1) ((n:Int)-1) (nU o_),.code 0 _ _ _ _ _ lo])
    (v:=.int .i64 0) (ms:=[]) k_ λao bP v' w' hc bh _ _=>fin hc bh
  ·rw[al bX]at lo
   exact kU (Q:=λe w'=>e=.returned (.int .i64 (gH a b))/\Below w.heap.size w w') mixed func220 [cq.row va n (ai (aa base n a)),cq.row vb n (ai (aa base n b))] hl 100 (N:=43) k_
    (rs:=[(aO.rw 10 (.bool (((n:Nat):Int)!=((n:Nat):Int))) a_ (aY false s_):aO prog (ae.at w) 43),.wr 18 .i64 ((n:Int)-1) ((n:Int)-1) (nU o_),.code 0 _ _ _ _ _ lo])
    (v:=.int .i64 (gH a b)) (ms:=[]) k_ λao bP v' w' hc bh _ _=>fin hc bh
 ·rw[al kS]
  exact kU (Q:=λe w'=>e=.returned (.int .i64 ((n:Int)-m))/\Below w.heap.size w w') mixed func220 [cq.row va n (ai (aa base n a)),cq.row vb m (ai (aa base m b))] hl 100 (N:=43) k_
   (rs:=[(aO.rw 10 (.bool (((n:Nat):Int)!=((m:Nat):Int))) b_ (aY true (by simp[kS])):aO prog (ae.at w) 43),.wr 15 .i64 ((n:Int)-(m:Int)) ((n:Int)-m) (by rw[dO];omega)])
   (v:=.int .i64 ((n:Int)-m)) (ms:=[]) k_ λao bP v' w' hc bh _ _=>fin hc bh
section
variable{P:j_}{B:ae}{N:Nat}
def zY(P:j_)(o:Oper):Option (Nat×List Nat×TypeId×Nat×Value):=match o.op with
 |.buildSlice t len parts=>match P.underlying t with
  |some (.slice e)=>(match P.info? e with|some i=>(match i.zero with|some z=>some (len,parts.toList.map (·.1),e,i.size,z)|none=>none)|none=>none)
  |_=>none
 |_=>none
def IH(size len:Nat)(z:i_)(ps:aL):Option (Array Value):=
 Instr.fill (λi=>some (i*size,size)) ((Array.range (len*size)).map (z.cells[·%z.cells.size]!)) ps
theorem Mb{ρ:Operand->Value}:∀(l:List (Nat×Operand)) {vs:ak},(l.map (·.2)).map ρ=vs->(l.map λp=>(p.1,ρ p.2))=(l.map (·.1)).zip vs
 |[],vs,h=>by subst h;rfl
 |p::l,vs,h=>by subst h;simp only[qc,List.zip_cons_cons];rw[Mb l rfl]
theorem aGR{idx:l_}{z:i_}(ho:zY P o=some (len,idx,e,size,z)){cells:p_}(cA:∀ v∈vs,flat v=true)(Q4:∀ v∈cells.toList,flat v=true)
  (BW:IH size len z (idx.zip vs)=some cells) (bE:cells.size=len*size) (yb:0<len*size) (hle:len*size<=16777216) (k:Nat) :
  ct P B o vs [(k,none)] (.slice (some ⟨k,0,some 7⟩) len 0) [(k,.row cells.toList e size)]:=by
 unfold zY at ho;split at ho
 ·rename_i t kV parts bM;split at ho
  ·rename_i e' ht;split at ho
   ·rename_i i hi;split at ho
    ·rename_i z' hz;injection ho with ho;injection ho with h1 ho;injection ho with h2 ho;injection ho with h3 ho;injection ho with h4 h5;subst h1;subst h2;subst h3;subst h4;subst h5;refine gL.step λι c ρ w aK hm hn=>?_;have hk:c k=none:=hn _ (aN ..);rw[bM]at aK;have aK:=mD aK cA;have bT:List.map (λx=>(x.fst,ρ x.snd)) parts.toList=(parts.toList.map (·.1)).zip vs:=
      Mb parts.toList (by simpa[Op.operands]using aK)
     have Mc:kV<=maxLen:=by have:kV<=kV*i.size:=DY _ (Nat.pos_of_mul_pos_left yb);simp[maxLen];omega
     have tn:Map.le ι _:=fZ (l:=.at w.heap.size 0 kV) (hm.dp k hk);have iw:=Fy (ty:=e') (size:=i.size) (cap:=kV) (rest:=#[]) hm hk (j7 Q4:bJ (aG ι) cells.toList cells.toList) Mc (by simpa using bE);refine⟨_,.slice (some ⟨w.heap.size,0,none⟩) kV kV,_,tn,.slc (o:=0) (off:=0) (fj _ _ _) (aZ _) o_,iw,.inl ?_⟩;have h0:¬(kV*i.size=0):=by omega
     have h1:¬(16777216<kV*i.size):=by omega
     unfold IH at BW;simp only[execOp,bM];simp[Instr.buildSlice,iI ht,sizeOf,typeInfo,hi,zeroValue,hz,h0,h1,newRow];rw[bT,BW];simp[newObj,Sem.run]
    ·cases ho
   ·cases ho
  ·cases ho
 ·cases ho
def DZ(P:j_)(o:Oper):Option (TypeId×Nat×Nat×Nat×Bool):=match o.op with
 |.call c=>match c.callee,c.args.toList,c.argTypes.toList with
  |.builtin .append,[_,_],[t,t']=>if Nat.beq t t' then(match P.underlying t with
   |some (.slice e)=>(match P.info? e with|some i=>(match i.zero with|some z=>some (e,i.size,i.bytes,z.cells.size,true)|none=>none)|none=>none)
   |_=>none)else none
  |_,_,_=>none
 |_=>none
theorem X6(ho:DZ P o=some (e,size,n2,A,true)):∃ s x t i z,o.op=.call { callee:=.builtin .append,args:=#[s,x],argTypes:=#[t,t]}/\P.underlying t=some (.slice e)/\P.info? e=some i/\i.zero=some z/\i.size=size/\i.bytes=n2/\z.cells.size=A:=by
 unfold DZ at ho;split at ho
 ·rename_i c bM;split at ho
  ·rename_i s x t t' hc ha lS;split at ho
   ·rename_i htt;split at ho
    ·rename_i e' ht;split at ho
     ·rename_i i hi;split at ho
      ·rename_i z hz;injection ho with ho;injection ho with h1 ho;injection ho with h2 ho;injection ho with h3 ho;injection ho with h4 h5;subst h1;have:=jK htt;subst this;refine⟨s,x,t,i,z,?_,ht,hi,hz,h2,h3,h4⟩;rw[bM];obtain⟨c1,c2,c3⟩:=c;dsimp only at hc ha lS;subst hc
       congr 2
       ·exact uE.1 ha
       ·exact uE.1 lS
      ·cases ho
     ·cases ho
    ·cases ho
   ·cases ho
  ·cases ho
 ·cases ho
theorem X7(ho:DZ P o=some (e,size,n2,size,true))(bE:0<size){sv:i_}(xL:Bn B sv m eg need)(hl:eg.length=m*size)(P7:∀ v∈eg,v.oneCell'=true)
  {j n:Nat} {cells:ak} (nL:n*size<=cells.length) (h63:n+m<=maxLen) (Bm:(n+m)*n2<=140737488355328) (k:Nat) :
  ct P B o [.slice (some ⟨j,0,some 7⟩) n 0,sv] ((k,none)::(j,some (.row cells e size))::need) (.slice (some ⟨k,0,some 7⟩) (n+m) 0) [(k,.row (cells.take (n*size)++eg) e size),(j,.dead)]:=by
 obtain⟨s,x,t,i,z,bM,ht,hi,hz,h1,h2,h3⟩:=X6 ho;subst h1;subst h2;exact(aFt bM ht hi hz h3 bE xL hl P7 nL h63 Bm k).step
theorem aGS(ho:DZ P o=some (e,size,n2,size,true))(bE:0<size){sv:i_}(xL:Bn B sv m eg need)(hl:eg.length=m*size)
  (h63:m<=maxLen) (Bm:m*n2<=140737488355328) (k:Nat) :
  ct P B o [.slice none 0 0,sv] ((k,none)::need) (.slice (some ⟨k,0,some 7⟩) m 0) [(k,.row eg e size)]:=by
 obtain⟨s,x,t,i,z,bM,ht,hi,hz,h1,h2,h3⟩:=X6 ho;subst h1;subst h2;exact(aFs bM ht hi hz h3 bE xL hl h63 Bm k).step
def aO.bs(fn:Func)(key k len e size:Nat)(idx:l_)(z:i_)(vs:ak)(cells:p_)(x:Obj)(hx:Obj.row cells.toList e size=x)(cA:∀ v∈vs,flat v=true)(Q4:∀ v∈cells.toList,flat v=true)
  (BW:IH size len z (idx.zip vs)=some cells) (bE:cells.size=len*size) (yb:0<len*size) (hle:len*size<=16777216) (ho:zY P (au fn key)=some (len,idx,e,size,z)):aO P B N:=
 .step key (au fn key) vs [(k,none)] (.slice (some ⟨k,0,some 7⟩) len 0) [(k,x)] (by subst hx;exact aGR ho cA Q4 BW bE yb hle k)
end
theorem Q5{n:Nat}(hn:n<18446744073709551616):
  Calls prog 155 #[.int .u64 n] w λe w'=>∃ v,e=.returned v/\jk w w' v n/\Below w.heap.size w w':=by
 have hs:n<base^2:=by unfold base;omega
 have e0:n/base^0%base=n%base:=by simp
 have e1:n/base^1%base=n/base:=by rw[BX];exact dG (by rw[gY d_];unfold base;omega)
 refine kU (Q:=λe w'=>∃ v,e=.returned v/\jk w w' v n/\Below w.heap.size w w') mixed func155 [cq.plain (.int .u64 n)] (λx hx=>by simp at hx;subst hx;rfl) 100 (N:=10) k_
  (rs:=[(aO.wr 4 .u32 (n:Int) ((n/base^0%base:Nat):Int) (by rw[mI,e0];unfold base;omega):aO prog (ae.at w) 10),.quo 6 .u64 ((n:Int).fdiv (2^32)) ((n/base:Nat):Int) (by rw[rh _ d_];unfold base;omega),.wr 7 .u32 ((n/base:Nat):Int) ((n/base^1%base:Nat):Int) (by rw[mI,e1];unfold base;omega),.bs f155 8 0 2 172 1 [0,1] (aM 0) [aM (n/base^0%base),aM (n/base^1%base)] #[aM (n/base^0%base),aM (n/base^1%base)] (.row (ai (aa base 2 n)) 172 1) rfl
    (λv hv=>by simp at hv;rcases hv with rfl|rfl<;>rfl) (λv hv=>by simp at hv;rcases hv with rfl|rfl<;>rfl) k_ rfl o_ o_ k_,
   .trim f155 9 0 2 n (.row (ai (aa base 2 n)) 172 1) rfl rfl hs d_ (y:=.func 203) k_])
  (v:=.slice (some ⟨0,0,some 7⟩) (nd base n) 0) (ms:=[(0,.row (ai (aa base 2 n)) 172 1)]) k_ λao bP v' w' hc bh dD _=>⟨v',rfl,?_,bh.base⟩
 exact vX bh (dD _ (aN ..)) hs hc
section
variable{Bs:ae}{n a:Nat}
def zZ(n a i:Nat):aL:=[(4,c8 i),(0,sl 0 n),(3,.int .u64 ((a/base^i:Nat):Int))]
def BZ(n a:Nat):aC:=[(0,.view (ai (aa base n a)))]
theorem aGT(hj:j<n)(ha:a<18446744073709551616)(h63:n<35184372088832):
  ag prog Bs 21 (aE (af f216 0)) (zZ n a (j+1)) (BZ n a) 1 ⟨.normal,zZ n a j,BZ n a,1⟩:=by
 have hd:=gG (B:=base) d_ a j;have he:=vV (B:=base) a j;have hle:a/base^j<18446744073709551616:=eP (sB _ _) ha;generalize hA:a/base^(j+1)=A at *;generalize hx:a/base^j%base=x at *;have X8:A*base<18446744073709551616:=by omega
 have kD:A*base||| x=a/base^j:=by have:=L5 (i:=32) hd A;rw[he,cH];exact this.symm
 have Q6:IntKind.u64.wrap ((A:Int)*2^32)=((A*base:Nat):Int):=by
  have e:(A:Int)*2^32=((A*base:Nat):Int):=by rw[nh];rfl
  rw[e,jz];generalize A*base=H at X8 ⊢;omega
 have FT:∀ H:Nat,H=A*base->IntKind.u64.wrap (((BitVec.ofInt IntKind.u64.bits (H:Int))||| (BitVec.ofInt IntKind.u64.bits (x:Int))).toNat:Int)=((a/base^j:Nat):Int):=by intro H hH;rw[Q2 (by rw[hH];exact X8) (lA hd d_),hH,kD]
 obtain⟨H,hH⟩:∃ H,H=A*base:=⟨_,rfl⟩;have FT:=FT H hH;rw[<-hH]at Q6
 have:=fo (P:=prog) (B:=Bs) (N:=21) mixed (c:=aE (af f216 0)) (fr:=[(4,c8 (j+1)),(0,sl 0 n),(3,.int .u64 (A:Int))]) (M:=BZ n a) (next:=1) (r:=⟨.normal,zZ n a j,BZ n a,1⟩) 100
  [.rw 8 (c8 (j+1)) (vI j) (dP j),.ge 9 j 0 true s_,.wr 13 .u64 ((A:Int)*2^32) (H:Int) Q6,.rw 15 (c8 (j+1)) (vI j) (dP j),.ix f216 16 0 n j hj k_,.ld f216 17 172 0 j (.view (ai (aa base n a))) (aM x) rfl (by rw[ft,<-hx];exact ki (dV hj)) k_,.wr 18 .u64 (x:Int) (x:Int) (by rw[jz];unfold base at hd;omega),.quo 19 .u64 _ ((a/base^j:Nat):Int) FT,.rw 10 (c8 (j+1)) (vI j) (dP j),.wr 11 .i64 ((j:Int)-1) ((j:Int)-1) (nU o_)] k_
 have e:zZ n a (j+1)=[(4,c8 (j+1)),(0,sl 0 n),(3,.int .u64 (A:Int))]:=by unfold zZ;rw[hA]
 rw[e];exact this
theorem aGU(ha:a<18446744073709551616)(h63:n<35184372088832):
  ag prog Bs 21 (.block 0 (af f216 0)) (zZ n a n) (BZ n a) 1 ⟨.normal,zZ n a 0,BZ n a,1⟩:=by
 have:=cg (P:=prog) (B:=Bs) (N:=21) (b:=aE (af f216 0)) (next:=1) (r:=⟨.exit 0,zZ n a 0,BZ n a,1⟩) n (λi=>zZ n a (n-i)) (λ_=>BZ n a) (λi k _=>Iff.rfl)
  (λi hi=>by
   have e:n-i=(n-(i+1))+1:=by omega
   simp only[e];exact aGT o_ ha h63)
  (by
   have e:n-n=0:=by omega
   simp only[e];exact ay [.rw 9 (.bool (decide (((0:Nat):Int)-1>=0))) a_ rfl]) n_
 exact bO this
end
theorem X9(fQ:gZ w va a)(ha:a<18446744073709551616)(h1:nd base a<35184372088832):
  Calls prog 216 #[va] w λe w'=>e=.returned (.int .u64 (a:Int))/\Below w.heap.size w w':=by
 have av:=dL (B:=base) d_ a;have hl:∀ s∈[cq.row va (nd base a) (ai (aa base (nd base a) a))],s.OK w:=by intro s hs;simp at hs;subst hs;exact⟨fQ,e9 _⟩
 unfold gZ at fQ;generalize nd base a=n at *;have e0:a/base^n=0:=lq av;have e1:a/base^0=a:=by simp
 refine kU (Q:=λe w'=>e=.returned (.int .u64 (a:Int))/\Below w.heap.size w w') mixed func216 [cq.row va n (ai (aa base n a))] hl 100 (N:=21) k_
  (rs:=[(aO.rw 3 (.int .u64 0) (.int .u64 ((a/base^n:Nat):Int)) (by rw[e0];rfl):aO prog (ae.at w) 21),.wr 7 .i64 ((n:Int)-1) ((n:Int)-1) (nU o_),.code 0 _ _ _ _ _ (aGU (n:=n) (a:=a) ha h1)])
  (v:=.int .u64 ((a/base^0:Nat):Int)) (ms:=[]) k_ λao bP v' w' hc bh _ _=>⟨?_,bh.base⟩
 rw[hc.eW rfl,e1]
end Go.Proofs.YthccllenbnhogaaGreatDoor
