/- Two cuts in either order: the proof of CutOrderCardSaid (the law's function answers true at every set it can be given; theorem cutOrder_card, last part), part 1 of 7; no condition. -/
import Derived.WalkKit
import Derived.Orders
import Derived.KernelRfl
import Derived.Deep.MidRow
import Derived.Below
import Derived.OwnWalk
import Derived.OwnWalkIn
import Derived.OrdersIn
import Derived.LoopNIn
import Derived.TacticsIn
import Derived.LoopN
import Derived.DeepKeys
import Derived.RangeFuncLeaves
import Derived.RangeFuncSeq
import Derived.Lib.SliceRun
import Derived.Shelf.SlSortCmp.WholeK
import Derived.OpenShut
import Derived.ProofKit
import Derived.Carry
import Derived.ChangeOld
import Derived.Deep.DeepHandedRow
import Derived.Test.YtjjefbkbljlgdaaGreatDoorProg
namespace Go.Proofs.YtjjefbkbljlgdaaGreatDoor
open Go Go.RowKit Tryz
theorem k_{p:Prop}(h:p:=by kernel_rfl):p:=h
theorem o_{p:Prop}(h:p:=by omega):p:=h
theorem d_{p:Prop}(h:p:=by decide):p:=h
theorem n_{p:Prop}(h:p:=by nofun):p:=h
theorem s_{p:Prop}(h:p:=by simp):p:=h
abbrev Aw:=@Go.Addr.add_mid
abbrev GG:=@Array.ext'
abbrev aA4:=@Array.foldl_toList
abbrev pQ:=@Array.getD_eq_getD_getElem?
abbrev aCB:=@Array.getElem?_append_left
abbrev yr:=@Array.getElem?_eq_getElem
abbrev Yl:=@Array.getElem?_eq_none
abbrev yx:=@Array.getElem?_eq_some_iff
abbrev XQ:=@Array.getElem?_modify
abbrev Rx:=@Array.getElem?_setIfInBounds_ne
abbrev yk:=@Array.length_toList
abbrev Mq:=@Array.mem_toList_iff
abbrev zi:=@Array.toArray_toList
abbrev HU:=@Array.toList_eq_nil_iff
abbrev vh:=@Array.toList_inj
abbrev aGY:=@Array.toList_setIfInBounds
abbrev db:=@Bool.and_eq_true
abbrev M8:=@Bool.and_false
abbrev vU:=@Bool.and_self
abbrev jk:=@Bool.and_true
abbrev yJ:=@Bool.false_and
abbrev NJ:=@Bool.false_bne
abbrev uz:=@Bool.false_eq_true
abbrev yK:=@Bool.false_or
abbrev Pc:=@Bool.not_eq_true
abbrev AD:=@Bool.not_eq_true'
abbrev M7:=@Bool.not_false
abbrev JM:=@Bool.not_true
abbrev Mx:=@Bool.or_eq_false_iff
abbrev um:=@Bool.or_eq_true
abbrev lD:=@Bool.true_and
abbrev NK:=@Bool.true_bne
abbrev GL:=@Bool.true_or
abbrev hZ:=@Classical.byContradiction
abbrev EP:=@Classical.not_not
abbrev aGc:=@Go.DataW.trod_struct
abbrev Ri:=@Go.RowKit.Below.heap_alloc
abbrev U6:=@Go.Sort.size_flatK
abbrev aAk:=@Int.add_mul_ediv_right
abbrev aN9:=@Int.add_mul_emod_self_left
abbrev N1:=@Int.ediv_mul_cancel
abbrev TC:=@Int.eq_of_mul_eq_mul_right
abbrev rM:=@Int.fdiv_eq_ediv_of_nonneg
abbrev NV:=@Int.lt_trichotomy
abbrev Tg:=@Int.mul_comm
abbrev C2:=@Int.mul_ne_zero
abbrev Hq:=@Int.mul_neg
abbrev TL:=@Int.mul_pos
abbrev aAG:=@Int.natAbs_add_le
abbrev aJM:=@Int.natAbs_ediv_le_natAbs
abbrev uG:=@Int.natAbs_mul
abbrev C0:=@Int.natAbs_natCast
abbrev J6:=@Int.natAbs_neg
abbrev vz:=@Int.natCast_add
abbrev tg:=@Int.natCast_ediv
abbrev Vn:=@Int.natCast_emod
abbrev nU:=@Int.natCast_mul
abbrev Hd:=@Int.natCast_pow
abbrev Hp:=@Int.neg_mul
abbrev J7:=@Int.neg_neg
abbrev NL:=@Int.one_mul
abbrev Hc:=@Int.pow_nonneg
abbrev aJF:=@Int.sign_eq_neg_one_iff_neg
abbrev E6:=@Int.sign_eq_neg_one_of_neg
abbrev Be:=@Int.sign_eq_one_of_pos
abbrev aJG:=@Int.sign_eq_zero_iff_zero
abbrev yO:=@Int.tdiv_eq_ediv_of_nonneg
abbrev yP:=@Int.tmod_eq_emod_of_nonneg
abbrev c8:=@Go.IntKind.wrap_i64
abbrev nw:=@Go.IntKind.wrap_u32
abbrev jR:=@Go.IntKind.wrap_u64
abbrev ZN:=@Go.IntKind.wrap_u8
abbrev aB0:=@List.Pairwise.nil
abbrev dG:=@List.all_cons
abbrev IX:=@List.all_eq_false
abbrev bf:=@List.all_eq_true
abbrev fB:=@List.all_nil
abbrev Jt:=@List.any_eq_false
abbrev rC:=@List.any_eq_true
abbrev Ey:=@List.append_assoc
abbrev iY:=@List.append_nil
abbrev EW:=@List.cons_append
abbrev Nc:=@List.drop_drop
abbrev O7:=@List.drop_eq_getElem_cons
abbrev Rk:=@List.drop_left'
abbrev l5:=@List.drop_zero
abbrev lq:=@List.eq_nil_of_length_eq_zero
abbrev wQ:=@List.ext_getElem
abbrev SN:=@List.ext_getElem?
abbrev aEs:=@List.filter_append
abbrev MC:=@List.filter_cons
abbrev UL:=@List.flatMap_append
abbrev aCj:=@List.foldl_append
abbrev vl:=@List.foldl_cons
abbrev aBR:=@List.foldl_nil
abbrev Tn:=@List.foldr_cons
abbrev Tm:=@List.foldr_nil
abbrev Ep:=@List.getD_eq_getElem?_getD
abbrev GI:=@List.getElem?_append_left
abbrev Ci:=@List.getElem?_append_right
abbrev Eh:=@List.getElem?_drop
abbrev bd:=@List.getElem?_eq_getElem
abbrev Av:=@List.getElem?_eq_none
abbrev Zz:=@List.getElem?_eq_none_iff
abbrev eE:=@List.getElem?_eq_some_iff
abbrev Cd:=@List.getElem?_map
abbrev XX:=@List.getElem?_of_mem
abbrev KZ:=@List.getElem?_range
abbrev ue:=@List.getElem?_take
abbrev Cp:=@List.getElem_map
abbrev dS:=@List.getElem_mem
abbrev kN:=@List.getElem_of_mem
abbrev Cq:=@List.getElem_range
abbrev GR:=@List.getElem_set
abbrev WC:=@List.getElem_take
abbrev OM:=@List.getLast?_cons_cons
abbrev iJ:=@List.length_append
abbrev oD:=@List.length_cons
abbrev vg:=@List.length_drop
abbrev aEu:=@List.length_filter_le
abbrev ek:=@List.length_map
abbrev yB:=@List.length_range
abbrev Ip:=@List.length_replicate
abbrev Gi:=@List.length_reverse
abbrev Vv:=@List.length_set
abbrev vS:=@List.length_singleton
abbrev jL:=@List.length_take
abbrev JB:=@List.mapM_cons
abbrev TN:=@List.mapM_nil
abbrev sW:=@List.map_append
abbrev yv:=@List.map_congr_left
abbrev rI:=@List.map_cons
abbrev SC:=@List.map_map
abbrev SE:=@List.map_nil
abbrev Co:=@List.map_take
abbrev dY:=@List.mem_append
abbrev sR:=@List.mem_append_left
abbrev yb:=@List.mem_append_right
abbrev cy:=@List.mem_cons
abbrev bB:=@List.mem_cons_of_mem
abbrev aT:=@List.mem_cons_self
abbrev aEt:=@List.mem_filter
abbrev Ye:=@List.mem_filterMap
abbrev BF:=@List.mem_flatMap
abbrev di:=@List.mem_map
abbrev cQ:=@List.mem_of_getElem?
abbrev Wu:=@List.mem_of_mem_drop
abbrev Ia:=@List.mem_of_mem_take
abbrev j5:=@List.mem_range
abbrev KJ:=@List.mem_reverse
abbrev KH:=@List.mem_singleton
abbrev jo:=@List.nil_append
abbrev jh:=@List.not_mem_nil
abbrev r8:=@List.pairwise_cons
abbrev Qc:=@List.pairwise_iff_getElem
abbrev aBG:=@List.pairwise_reverse
abbrev aBE:=@List.pairwise_singleton
abbrev HM:=@List.range_succ
abbrev vM:=@List.reverse_cons
abbrev aBF:=@List.reverse_eq_nil_iff
abbrev UO:=@List.set_append_right
abbrev Mn:=@List.size_toArray
abbrev vV:=@List.take_add_one
abbrev aB6:=@List.take_append
abbrev Ik:=@List.take_append_drop
abbrev aUe:=@List.take_append_of_le_length
abbrev Rn:=@List.take_left
abbrev Rj:=@List.take_left'
abbrev nI:=@List.take_length
abbrev kj:=@List.take_of_length_le
abbrev Ml:=@List.take_take
abbrev ZH:=@List.take_zero
abbrev ug:=@Nat.add_assoc
abbrev mF:=@Nat.add_comm
abbrev Kw:=@Nat.add_le_add
abbrev LI:=@Nat.add_le_add_right
abbrev J0:=@Nat.add_mod_right
abbrev ft:=@Nat.add_mul
abbrev JG:=@Nat.add_mul_div_left
abbrev ph:=@Nat.add_mul_div_right
abbrev EK:=@Nat.add_mul_mod_self_left
abbrev CK:=@Nat.add_mul_mod_self_right
abbrev Nq:=@Nat.add_sub_cancel
abbrev EV:=@Nat.add_sub_cancel_left
abbrev jn:=@Nat.add_zero
abbrev M6:=@Nat.and_lt_two_pow
abbrev EA:=@Nat.beq_refl
abbrev Mw:=@Nat.ble_eq_true_of_le
abbrev AF:=@Nat.blt_eq
abbrev je:=@Nat.div_add_mod
abbrev kB:=@Nat.div_div_eq_div_mul
abbrev l4:=@Nat.div_eq_of_lt
abbrev th:=@Nat.div_le_self
abbrev iy:=@Nat.div_lt_iff_lt_mul
abbrev YY:=@Nat.div_lt_self
abbrev CP:=@Nat.div_mul_le_self
abbrev ER:=@Nat.div_one
abbrev Nu:=@Nat.div_pos
abbrev HK:=@Nat.dvd_gcd
abbrev Kq:=@Nat.dvd_of_mod_eq_zero
abbrev CZ:=@Nat.dvd_trans
abbrev Ra:=@Nat.eq_of_beq_eq_true
abbrev aJL:=@Nat.eq_of_mul_eq_mul_right
abbrev nZ:=@Nat.eq_zero_or_pos
abbrev Hr:=@Nat.gcd_comm
abbrev Bi:=@Nat.gcd_dvd_left
abbrev TB:=@Nat.gcd_dvd_right
abbrev aAO:=@Nat.gcd_le_left
abbrev TQ:=@Nat.gcd_zero_left
abbrev Te:=@Nat.gcd_zero_right
abbrev JS:=@Nat.le_add_right
abbrev ZG:=@Nat.le_antisymm
abbrev CO:=@Nat.le_div_iff_mul_le
abbrev UZ:=@Nat.le_mul_of_pos_left
abbrev ES:=@Nat.le_mul_of_pos_right
abbrev rm:=@Nat.le_of_ble_eq_true
abbrev u9:=@Nat.le_of_eq
abbrev iM:=@Nat.le_of_lt
abbrev Ox:=@Nat.le_of_not_lt
abbrev bh:=@Nat.le_refl
abbrev yq:=@Nat.le_succ
abbrev NF:=@Nat.le_total
abbrev dh:=@Nat.le_trans
abbrev Z7:=@Nat.log2_self_le
abbrev eW:=@Nat.lt_of_le_of_lt
abbrev cx:=@Nat.lt_of_lt_of_le
abbrev aIF:=@Nat.lt_of_mul_lt_mul_right
abbrev eC:=@Nat.lt_or_ge
abbrev Et:=@Nat.lt_or_gt_of_ne
abbrev aA5:=@Nat.lt_succ_of_lt
abbrev A5:=@Nat.lt_succ_self
abbrev l8:=@Nat.lt_trans
abbrev sO:=@Nat.lt_trichotomy
abbrev aDs:=@Nat.max_eq_left
abbrev aDr:=@Nat.max_eq_right
abbrev nV:=@Nat.min_eq_left
abbrev Vq:=@Nat.min_eq_right
abbrev dF:=@Nat.mod_eq_of_lt
abbrev JH:=@Nat.mod_le
abbrev cH:=@Nat.mod_lt
abbrev MU:=@Nat.mod_mul
abbrev AU:=@Nat.mod_mul_right_div_self
abbrev JP:=@Nat.mod_mul_right_mod
abbrev tf:=@Nat.mod_one
abbrev Tz:=@Nat.mod_two_eq_zero_or_one
abbrev oJ:=@Nat.mul_add
abbrev fG:=@Nat.mul_assoc
abbrev cP:=@Nat.mul_comm
abbrev Sc:=@Nat.mul_div_cancel
abbrev Z4:=@Nat.mul_div_mul_right
abbrev yN:=@Nat.mul_le_mul
abbrev jr:=@Nat.mul_le_mul_left
abbrev e8:=@Nat.mul_le_mul_right
abbrev mG:=@Nat.mul_left_comm
abbrev pT:=@Nat.mul_lt_mul''
abbrev Z5:=@Nat.mul_lt_mul_of_lt_of_le
abbrev Y2:=@Nat.mul_lt_mul_of_pos_left
abbrev A4:=@Nat.mul_lt_mul_of_pos_right
abbrev Kp:=@Nat.mul_mod
abbrev Y1:=@Nat.mul_mod_left
abbrev Z3:=@Nat.mul_mod_mul_right
abbrev fZ:=@Nat.mul_one
abbrev qE:=@Nat.mul_pos
abbrev A7:=@Nat.mul_right_comm
abbrev MX:=@Nat.mul_succ
abbrev JZ:=@Nat.not_lt
abbrev pU:=@Nat.one_mul
abbrev Zb:=@Nat.or_lt_two_pow
abbrev te:=@Nat.pos_of_ne_zero
abbrev ep:=@Nat.pow_add
abbrev aAf:=@Nat.pow_le_pow_left
abbrev cY:=@Nat.pow_le_pow_right
abbrev rO:=@Nat.pow_mul
abbrev CF:=@Nat.pow_one
abbrev cG:=@Nat.pow_pos
abbrev dw:=@Nat.pow_succ
abbrev rN:=@Nat.pow_zero
abbrev Bf:=@Nat.sub_le
abbrev ux:=@Nat.sub_self
abbrev GN:=@Nat.sub_zero
abbrev yC:=@Nat.succ_mul
abbrev S1:=@Nat.succ_pos
abbrev Yn:=@Nat.testBit_or
abbrev Nb:=@Nat.two_pow_add_eq_or_of_lt
abbrev Za:=@Nat.xor_lt_two_pow
abbrev jZ:=@Nat.zero_add
abbrev kU:=@Nat.zero_le
abbrev lB:=@Nat.zero_mul
abbrev mA:=@Ne.symm
abbrev Me:=@Go.Oper.semAt_eq
abbrev aGg:=@Option.bind_eq_some_iff
abbrev Yg:=@Option.bind_some
abbrev aBb:=@Option.map_none
abbrev Rf:=@Option.map_some
abbrev TF:=@Rat.divInt_add_divInt
abbrev Bj:=@Rat.divInt_eq_div
abbrev Fi:=@Rat.div_def
abbrev aAy:=@Rat.div_mul_cancel
abbrev N5:=@Rat.intCast_add
abbrev CY:=@Rat.intCast_mul
abbrev aAJ:=@Rat.intCast_sub
abbrev HJ:=@Rat.mul_inv_cancel
abbrev Ty:=@Rat.mul_pos
abbrev aAF:=@Rat.num_divInt_den
abbrev Jk:=@Go.Sem.run_bind
abbrev Nd:=@UInt8.toNat_inj
abbrev Nk:=@UInt8.toNat_ofNat'
abbrev aAZ:=@Go.World.putObj_heap_other
abbrev vF:=@Go.World.putObj_size
abbrev uu:=@bne_iff_ne
abbrev cI:=@congrArg
abbrev s9:=@decide_eq_decide
abbrev aJ:=@decide_eq_false
abbrev Zq:=@decide_eq_false_iff_not
abbrev aB:=@decide_eq_true
abbrev sY:=@decide_eq_true_eq
abbrev BE:=@decide_eq_true_iff
abbrev BK:=@getElem!_pos
abbrev X3:=@Go.grownCap_le_maxLen
abbrev uA:=@if_false
abbrev ao:=@if_neg
abbrev aw:=@if_pos
abbrev qt:=@if_true
abbrev Hs:=@of_decide_eq_false
abbrev kH:=@of_decide_eq_true
abbrev ji:=@or_false
abbrev EB:=@Go.roundsIn_succ
abbrev iI:=@Go.run_underlying
abbrev Mj:=@Go.size_zeroCells
abbrev aGv:=@Go.trodAll_cons_mk
abbrev Jw:=@Go.wpIn_block
abbrev RX:=@Go.wpIn_loop_rounds
abbrev Jx:=@Go.wpIn_ret
abbrev lA:=@Go.wpIn_seq
def mr(a:Addr):Bool:=match a.spot with|some _=>false|none=>true
def lP:Value->Bool
 |.pointer (some a)=>mr a
 |.slice (some a) _ _=>mr a
 |.agg _=>false
 |.tuple _=>false
 |.func _ _ _=>false
 |_=>true
def nQ:Value->Bool
 |.func _ fi ca=>fi.toList.all lP&&ca.toList.all lP
 |v=>lP v
def qo:Value->Bool
 |.agg cs=>cs.toList.all nQ
 |v=>nQ v
def flat:Value->Bool
 |.tuple vs=>vs.toList.all qo
 |v=>qo v
inductive bI{α β:Type}(R:α->β->Prop):List α->List β->Prop
 |nil:bI R [] []
 |cons {a b l m}:R a b->bI R l m->bI R (a::l) (b::m)
inductive o9 where
 |at (b o cap:Nat)
 |nil
 |val (v:Value)
abbrev Map:=Nat->Option o9
def Map.le(ι κ:Map):Prop:=∀ k l,ι k=some l->κ k=some l
theorem Map.le.refl(ι:Map):Map.le ι ι:=λ_ _ h=>h
theorem Map.le.trans{a b c:Map}(h:Map.le a b)(k:Map.le b c):Map.le a c:=λi l e=>k i l (h i l e)
inductive aG(ι:Map):Value->Value->Prop
 |same {v}:flat v=true->aG ι v v
 |ptr {k off b o cap}:ι k=some (.at b o cap)->aG ι (.pointer (some ⟨k,off,some 7⟩)) (.pointer (some ⟨b,o+off,none⟩))
 |slc {k off b o n c c' cap}:ι k=some (.at b o cap)->n<=c'->c+c'=cap->aG ι (.slice (some ⟨k,off,some 7⟩) n c) (.slice (some ⟨b,o+off,none⟩) n c')
 |slcN {k}:ι k=some .nil->aG ι (.slice (some ⟨k,0,some 7⟩) 0 0) (.slice none 0 0)
 |opq {k v}:ι k=some (.val v)->v.cells=#[v]->v.oneCell'=true->aG ι (.pointer (some ⟨k,0,some 9⟩)) v
 |fn {f fi kf ca eY}:bI (aG ι) fi kf->bI (aG ι) ca eY->aG ι (.func f fi.toArray ca.toArray) (.func f kf.toArray eY.toArray)
 |agg {cs bt}:bI (aG ι) cs bt->aG ι (.agg cs.toArray) (.agg bt.toArray)
 |tup {vs cM}:bI (aG ι) vs cM->aG ι (.tuple vs.toArray) (.tuple cM.toArray)
theorem bI.imp{α β:Type}{R R':α->β->Prop}:∀{l:List α} {m:List β},bI R l m->(∀ a∈l,∀ b,R a b->R' a b)->bI R' l m
 |_,_,.nil,_=>.nil
 |_,_,.cons h t,k=>.cons (k _ (aT ..) _ h) (t.imp λa ha=>k a (bB _ ha))
theorem bI.length{α β:Type}{R:α->β->Prop}:∀{l:List α} {m:List β},bI R l m->l.length=m.length
 |_,_,.nil=>rfl
 |_,_,.cons _ t=>by simp[t.length]
theorem bI.get{α β:Type}{R:α->β->Prop}:∀{l:List α} {m:List β},bI R l m->∀(i:Nat) a,l[i]?=some a->∃ b,m[i]?=some b/\R a b
 |_,_,.nil,i,a,h=>by simp at h
 |_,_,.cons h t,0,a,e=>⟨_,rfl,by simp at e;exact e▸h⟩
 |_,_,.cons _ t,i+1,a,e=>by simpa using t.get i a (by simpa using e)
theorem bI.get'{α β:Type}{R:α->β->Prop}:∀{l:List α} {m:List β},bI R l m->∀(i:Nat) b,m[i]?=some b->∃ a,l[i]?=some a/\R a b
 |_,_,.nil,i,a,h=>by simp at h
 |_,_,.cons h t,0,a,e=>⟨_,rfl,by simp at e;exact e▸h⟩
 |_,_,.cons _ t,i+1,a,e=>by simpa using t.get' i a (by simpa using e)
theorem bI.set{α β:Type}{R:α->β->Prop}{a:α}{b:β}(h:R a b):∀{l:List α} {m:List β},bI R l m->∀(i:Nat),bI R (l.set i a) (m.set i b)
 |_,_,.nil,i=>by simpa using .nil
 |_,_,.cons _ t,0=>.cons h t
 |_,_,.cons k t,i+1=>.cons k (t.set h i)
theorem bI.append{α β:Type}{R:α->β->Prop}:∀{l:List α} {m:List β},bI R l m->∀{l' m'},bI R l' m'->bI R (l++l') (m++m')
 |_,_,.nil,_,_,h=>h
 |_,_,.cons k t,_,_,h=>.cons k (t.append h)
theorem bI.take{α β:Type}{R:α->β->Prop}:∀{l:List α} {m:List β},bI R l m->∀(n:Nat),bI R (l.take n) (m.take n)
 |_,_,.nil,n=>by simpa using .nil
 |_,_,.cons k t,0=>.nil
 |_,_,.cons k t,n+1=>.cons k (t.take n)
theorem bI.drop{α β:Type}{R:α->β->Prop}:∀{l:List α} {m:List β},bI R l m->∀(n:Nat),bI R (l.drop n) (m.drop n)
 |_,_,.nil,n=>by simpa using .nil
 |_,_,.cons k t,0=>.cons k t
 |_,_,.cons k t,n+1=>t.drop n
theorem Mb{v:Value}(h:nQ v=true):flat v=true:=by cases v<;>first|exact h|(simp[nQ,lP]at h)
theorem Mc{v:Value}(h:lP v=true):nQ v=true:=by cases v<;>first|exact h|(simp[lP]at h)
theorem aGx{v:Value}(h:qo v=true):flat v=true:=by cases v<;>first|exact h|(simp[qo,nQ,lP]at h)
theorem XK{cs:Array Value}(h:flat (.agg cs)=true):∀ c∈cs.toList,flat c=true:=by simp only[flat,qo,bf]at h;exact λc hc=>Mb (h c hc)
theorem aGy{cs:Array Value}(h:flat (.tuple cs)=true):∀ c∈cs.toList,flat c=true:=by simp only[flat,bf]at h;exact λc hc=>aGx (h c hc)
theorem XL{f:Fn}{fi ca:Array Value}(h:flat (.func f fi ca)=true):(∀ c∈fi.toList,flat c=true)/\(∀ c∈ca.toList,flat c=true):=by simp only[flat,qo,nQ,db,bf]at h;exact⟨λc hc=>Mb (Mc (h.1 c hc)),λc hc=>Mb (Mc (h.2 c hc))⟩
abbrev aj:=List Value
theorem kg{ι:Map}:∀{l:aj},(∀ c∈l,flat c=true)->bI (aG ι) l l
 |[],_=>.nil
 |c::l,h=>.cons (.same (h c (aT ..))) (kg λc hc=>h c (bB _ hc))
theorem aG.eR{ι:Map}{v v':Value}(h:aG ι v v')(hf:flat v=true):v'=v:=by
 suffices H:∀ v v',aG ι v v'->flat v=true->v'=v from H v v' h hf
 have hP:∀ v v',aG ι v v'->lP v=true->v'=v:=by
  intro v v' h hf;cases h with
  |same _=>rfl
  |_=>simp[lP,mr]at hf
 have ua:∀(Q:Value->Bool),(∀ v v',aG ι v v'->Q v=true->v'=v)->∀ l l',bI (aG ι) l l'->(∀ c∈l,Q c=true)->l'=l:=by
  intro Q hQ l l' h;induction h with
  |nil=>intro _;rfl
  |cons h t ih=>
   intro hl;rw[hQ _ _ h (hl _ (aT ..)),ih λc hc=>hl c (bB _ hc)]
 have h0:∀ v v',aG ι v v'->nQ v=true->v'=v:=by
  intro v v' h hf;cases h with
  |same _=>rfl
  |fn h1 h2=>
   simp only[nQ,db,bf]at hf;rw[ua lP hP _ _ h1 hf.1,ua lP hP _ _ h2 hf.2]
  |_=>simp[nQ,lP,mr]at hf
 have h1:∀ v v',aG ι v v'->qo v=true->v'=v:=by
  intro v v' h hf;cases h with
  |same _=>rfl
  |fn a b=>exact h0 _ _ (.fn a b) hf
  |agg h1=>
   simp only[qo,bf]at hf;rw[ua nQ h0 _ _ h1 hf]
  |_=>simp[qo,nQ,lP,mr]at hf
 intro v v' h hf;cases h with
 |same _=>rfl
 |fn a b=>exact h0 _ _ (.fn a b) hf
 |agg a=>exact h1 _ _ (.agg a) hf
 |tup a=>
  simp only[flat,bf]at hf;rw[ua qo h1 _ _ a hf]
 |_=>simp[flat,qo,nQ,lP,mr]at hf
theorem aG.mono{ι κ:Map}(hle:Map.le ι κ){v v':Value}(h:aG ι v v'):aG κ v v':=by
 apply aG.rec (motive_1:=λv v' _=>aG κ v v') (motive_2:=λl l' _=>bI (aG κ) l l') (t:=h)
 case same=>intro v h;exact .same h
 case ptr=>intro k off b o cap h;exact .ptr (hle _ _ h)
 case slc=>intro k off b o n c c' cap h h1 h2;exact .slc (hle _ _ h) h1 h2
 case slcN=>intro k h;exact .slcN (hle _ _ h)
 case opq=>intro k v h h1 h2;exact .opq (hle _ _ h) h1 h2
 case fn=>intro f fi kf ca eY _ _ h1 h2;exact .fn h1 h2
 case agg=>intro cs bt _ h;exact .agg h
 case tup=>intro cs bt _ h;exact .tup h
 case nil=>exact .nil
 case cons=>intro a b l m _ _ h1 h2;exact .cons h1 h2
theorem nR{ι κ:Map}(hle:Map.le ι κ){l l':aj}(h:bI (aG ι) l l'):bI (aG κ) l l':=h.imp λ_ _ _ h=>h.mono hle
def nh(a:Addr):Bool:=match a.spot with|some s=>Nat.beq s 7|none=>false
theorem Je{a:Addr}(h:nh a=true):a.spot=some 7:=by
 unfold nh at h;split at h
 ·rename_i s hs;rw[hs,Ra h]
 ·cases h
theorem Rb{a:Addr}(h:nh a=true):mr a=false:=by unfold mr;rw[Je h]
theorem aG.yg{ι:Map}{a:Addr}{v':Value}(h:aG ι (.pointer (some a)) v')(ho:nh a=true):∃ b o cap,ι a.block=some (.at b o cap)/\v'=.pointer (some ⟨b,o+a.off,none⟩):=by
 cases h with
 |same hf=>simp[flat,qo,nQ,lP,Rb ho]at hf
 |ptr hb=>exact⟨_,_,_,hb,rfl⟩
 |opq _ _ _=>cases ho
theorem aG.gW{ι:Map}{a:Addr}{n c:Nat}{v':Value}(h:aG ι (.slice (some a) n c) v')(ho:nh a=true):
  (ι a.block=some .nil/\n=0/\c=0/\a.off=0/\v'=.slice none 0 0)\/∃ b o cap c',ι a.block=some (.at b o cap)/\n<=c'/\c+c'=cap/\v'=.slice (some ⟨b,o+a.off,none⟩) n c':=by
 cases h with
 |same hf=>simp[flat,qo,nQ,lP,Rb ho]at hf
 |slc hb h1 h2=>exact .inr ⟨_,_,_,_,hb,h1,h2,rfl⟩
 |slcN hb=>exact .inl ⟨hb,rfl,rfl,rfl,rfl⟩
theorem aG.bool{ι:Map}{b:Bool}{v':Value}(h:aG ι (.bool b) v'):v'=.bool b:=h.eR rfl
theorem aG.ub{ι:Map}{vs:Array Value}{v':Value}(h:aG ι (.tuple vs) v'):∃ cM,v'=.tuple cM/\bI (aG ι) vs.toList cM.toList:=by
 cases h with
 |same hf=>exact⟨vs,rfl,kg (aGy hf)⟩
 |tup h=>exact⟨_,rfl,by simpa using h⟩
theorem aG.Jf{ι:Map}{vs:Array Value}{v':Value}(h:aG ι (.agg vs) v'):∃ cM,v'=.agg cM/\bI (aG ι) vs.toList cM.toList:=by
 cases h with
 |same hf=>exact⟨vs,rfl,kg (XK hf)⟩
 |agg h=>exact⟨_,rfl,by simpa using h⟩
theorem aG.B6{ι:Map}{f:Fn}{fi ca:Array Value}{v':Value}(h:aG ι (.func f fi ca) v'):∃ kf eY,v'=.func f kf eY/\bI (aG ι) fi.toList kf.toList/\bI (aG ι) ca.toList eY.toList:=by
 cases h with
 |same hf=>exact⟨fi,ca,rfl,kg (XL hf).1,kg (XL hf).2⟩
 |fn h1 h2=>exact⟨_,_,rfl,by simpa using h1,by simpa using h2⟩
theorem aG.cells{ι:Map}{v v':Value}(h:aG ι v v'):bI (aG ι) v.cells.toList v'.cells.toList:=by
 cases h with
 |same hf=>
  apply kg;cases v<;>first|(intro c hc;simp[Value.cells]at hc;subst hc;exact hf)|exact XK hf
 |ptr hb=>exact .cons (.ptr hb) .nil
 |slc hb h1 h2=>exact .cons (.slc hb h1 h2) .nil
 |slcN hb=>exact .cons (.slcN hb) .nil
 |opq hb h1 h2=>rw[h1];exact .cons (.opq hb h1 h2) .nil
 |fn a b=>exact .cons (.fn a b) .nil
 |agg h=>simpa[Value.cells]using h
 |tup h=>exact .cons (.tup h) .nil
theorem aG.XM{ι:Map}{v v':Value}(h:aG ι v v'):v'.oneCell'=v.oneCell':=by
 cases h with
 |opq _ _ h=>rw[h];rfl
 |_=>rfl
def Gz:Value:=.tuple #[.tuple #[]]
def lQ:Value->Bool
 |.tuple vs=>match vs.toList with|[.tuple us]=>Nat.beq us.size 0|_=>false
 |_=>false
def ni(ι:Map)(v v':Value):Prop:=lQ v=true\/aG ι v v'
theorem ni.As{ι:Map}{v v':Value}(h:ni ι v v')(hn:lQ v=false):aG ι v v':=by
 rcases h with h|h
 ·rw[hn]at h;cases h
 ·exact h
theorem ni.mono{ι κ:Map}(hle:Map.le ι κ){v v':Value}(h:ni ι v v'):ni κ v v':=h.imp id (aG.mono hle)
def sT(w w':World):Prop:=w'.os=w.os/\w.drawn<=w'.drawn
theorem sT.refl(w:World):sT w w:=⟨rfl,bh _⟩
theorem sT.trans{a b c:World}(h:sT b c)(k:sT a b):sT a c:=⟨h.1.trans k.1,dh k.2 h.2⟩
structure Below(B:Nat)(w w':World):Prop where
 os:sT w w'
 tape:w'.tape=w.tape
 output:w'.output=w.output
 size:w.heap.size<=w'.heap.size
 block:∀ k,k<B->w'.heap[k]?=w.heap[k]?
theorem Below.GA{B:Nat}{w w':World}(h:Below B w w'):Go.RowKit.Below B w w':=⟨h.os.1,h.tape,h.output,h.size,h.block⟩
theorem Below.refl(B:Nat)(w:World):Below B w w:=⟨.refl w,rfl,rfl,bh _,λ_ _=>rfl⟩
theorem Below.cell{B:Nat}{w w':World}(h:Below B w w'){p:Addr}(hp:p.block<B):w'.cell? p=w.cell? p:=h.GA.cell hp
theorem Below.alloc{B:Nat}{a w:World}(h:Below B a w)(hB:B<=w.heap.size)(o:Go.Obj):Below B a (w.alloc o):=
 have k:=h.GA.alloc hB o
 ⟨⟨k.os,h.os.2⟩,k.tape,k.output,k.size,k.block⟩
structure Fact where
 G:Value->World->Prop
 cO:Value->World->Nat->Prop
 lt:∀ v w k,G v w->cO v w k->k<w.heap.size
 dep:∀ v w w',G v w->w.heap.size<=w'.heap.size->(∀ k,cO v w k->w'.heap[k]?=w.heap[k]?)->G v w'/\∀ k,cO v w' k->cO v w k
 rc:Bool:=false
 soft:rc=false->∀ v w w',G v w->w.heap.size<=w'.heap.size->(∀ k,cO v w k->∀ cs ty f,w.heap[k]?=some (Go.Obj.cells cs ty f)->w'.heap[k]?=some (Go.Obj.cells cs ty f))->G v w'/\∀ k,cO v w' k->cO v w k
structure aa where
 G:World->Prop
 cO:Nat->Prop
 ds:List Deferred:=[]
 Fa:Fact->Prop:=λ_=>False
 mp:Map:=λ_=>none
 lt:∀ w k,G w->cO k->k<w.heap.size
 dep:∀ w w',G w->sT w w'->w'.tape=w.tape->w'.output=w.output->w.heap.size<=w'.heap.size->(∀ k,cO k->w'.heap[k]?=w.heap[k]?)->G w'
def aa.at(w0:World):aa where
 G w:=Below w0.heap.size w0 w
 cO k:=k<w0.heap.size
 lt w k h hk:=cx hk h.size
 dep w w' h h1 h2 h3 h4 h5:=⟨h1.trans h.os,h2.trans h.tape,h3.trans h.output,dh h.size h4,λk hk=>(h5 k hk).trans (h.block k hk)⟩
inductive Obj where
 |aI (cells:aj) (ty:TypeId)
 |row (cells:aj) (ty:TypeId) (size:Nat)
 |view (cells:aj)
 |fact (F:Fact)
 |dead
def Obj.owns:Obj->Bool
 |.aI _ _=>true
 |.row _ _ _=>true
 |_=>false
def jv(ι:Map)(w:World)(l:o9):Obj->Prop
 |.aI cells ty=>∃ b bt,l=.at b 0 0/\bI (aG ι) cells bt/\w.heap[b]?=some (.cells bt.toArray ty (0,0))
 |.row cells ty size=>(l=.nil/\cells=[])\/∃ b cap cur,l=.at b 0 cap/\w.heap[b]?=some (.cells cur ty (0,0))/\cap<=maxLen/\cur.size=cap*size/\bI (aG ι) cells (cur.toList.take cells.length)
 |.view cells=>(l=.nil/\cells=[])\/∃ b o cap bt,l=.at b o cap/\bI (aG ι) cells bt/\∀ j u,bt[j]?=some u->w.cell? ⟨b,o+j,none⟩=some u
 |.fact F=>∃ v,l=.val v/\F.G v w
 |.dead=>True
def Obj.gj:Obj->Bool
 |.view _=>true
 |_=>false
structure aM(B:aa)(ι:Map)(c:Nat->Option Obj)(w:World):Prop where
 base:B.G w
 dr:∀ k,c k=none->ι k=none
 born:∀ k x,c k=some x->∃ l,ι k=some l/\jv ι w l x
 own:∀ k x b o cap,c k=some x->x.owns=true->ι k=some (.at b o cap)->b<w.heap.size/\¬B.cO b
 inj:∀ k j x y b o cap o' aO,c k=some x->x.owns=true->c j=some y->y.owns=true->ι k=some (.at b o cap)->ι j=some (.at b o' aO)->k=j
 apart:∀ k j x F b o cap v,c k=some x->x.owns=true->ι k=some (.at b o cap)->c j=some (.fact F)->ι j=some (.val v)->¬F.cO v w b
 seen:∀ k x b o cap,c k=some x->x.gj=true->ι k=some (.at b o cap)->b<w.heap.size/\∀ j y o' aO,c j=some y->y.owns=true->ι j≠some (.at b o' aO)
 fa:∀ j F,c j=some (.fact F)->F.rc=true->B.Fa F
 one:∀ j k F F',c j=some (.fact F)->c k=some (.fact F')->F.rc=true->F'.rc=true->j=k
 oC:Map.le B.mp ι
theorem jv.mono{ι κ:Map}(hle:Map.le ι κ){w:World}{l:o9}{x:Obj}(h:jv ι w l x):jv κ w l x:=by
 cases x with
 |aI cells ty=>obtain⟨b,bt,h1,h2,h3⟩:=h;exact⟨b,bt,h1,nR hle h2,h3⟩
 |row cells ty size=>
  rcases h with h|⟨b,cap,cur,h1,h2,h3,h4,h5⟩
  ·exact .inl h
  ·exact .inr ⟨b,cap,cur,h1,h2,h3,h4,nR hle h5⟩
 |view cells=>
  rcases h with h|⟨b,o,cap,bt,h1,h2,h3⟩
  ·exact .inl h
  ·exact .inr ⟨b,o,cap,bt,h1,nR hle h2,h3⟩
 |fact F=>exact h
 |dead=>trivial
theorem jv.gB{ι:Map}{w w':World}{l:o9}{x:Obj}(h:jv ι w l x)(hs:w.heap.size<=w'.heap.size)
  (hb:∀ b o cap,x.owns=true\/x.gj=true->l=.at b o cap->w'.heap[b]?=w.heap[b]?) (hf:∀ F v b,x=.fact F->l=.val v->F.cO v w b->w'.heap[b]?=w.heap[b]?):jv ι w' l x:=by
 cases x with
 |aI cells ty=>obtain⟨b,bt,h1,h2,h3⟩:=h;exact⟨b,bt,h1,h2,by rw[hb b 0 0 (.inl rfl) h1];exact h3⟩
 |row cells ty size=>
  rcases h with h|⟨b,cap,cur,h1,h2,h3,h4,h5⟩
  ·exact .inl h
  ·exact .inr ⟨b,cap,cur,h1,by rw[hb b 0 cap (.inl rfl) h1];exact h2,h3,h4,h5⟩
 |view cells=>
  rcases h with h|⟨b,o,cap,bt,h1,h2,h3⟩
  ·exact .inl h
  ·exact .inr ⟨b,o,cap,bt,h1,h2,λj u hj=>by rw[World.cell?_of_block (w:=w) (w':=w') (a:=⟨b,o+j,none⟩) (hb b o cap (.inr rfl) h1)];exact h3 j u hj⟩
 |fact F=>obtain⟨v,h1,h2⟩:=h;exact⟨v,h1,(F.dep v w w' h2 hs λk hk=>hf F v k rfl h1 hk).1⟩
 |dead=>trivial
theorem jv.wB{ι:Map}{w:World}{l:o9}{F:Fact}{v:Value}(h:jv ι w l (.fact F))(hl:l=.val v){b:Nat}(hb:F.cO v w b):b<w.heap.size:=by obtain⟨v',h1,h2⟩:=h;rw[hl]at h1;injection h1 with h1;subst h1;exact F.lt _ w b h2 hb
theorem aM.B7{B:aa}{ι:Map}{c:Nat->Option Obj}{w w':World}(h:aM B ι c w){j:Nat}{F:Fact}{v:Value}(hj:c j=some (.fact F))(hv:ι j=some (.val v))(hs:w.heap.size<=w'.heap.size)
  (Au:∀ k,k<w.heap.size->F.cO v w k->w'.heap[k]?=w.heap[k]?) {b:Nat} (hF:F.cO v w' b):F.cO v w b:=by
 obtain⟨l,q1,v',q2,q3⟩:=h.born j _ hj;rw[hv]at q1;injection q1 with q1;subst q1;injection q2 with q2;subst q2;exact(F.dep v w w' q3 hs λk hk=>Au k (F.lt v w k q3 hk) hk).2 b hF
theorem aM.call{B:aa}{ι:Map}{c:Nat->Option Obj}{w w':World}(h:aM B ι c w)(hb:Below w.heap.size w w'):aM B ι c w' where
 base:=B.dep w w' h.base hb.os hb.tape hb.output hb.size λk hk=>hb.block k (B.lt w k h.base hk)
 dr:=h.dr
 born k x hk:=by
  obtain⟨l,h1,h2⟩:=h.born k x hk;refine⟨l,h1,h2.gB hb.size (λb o cap hx hl=>?_) λF v b hx hl hf=>?_⟩
  ·rcases hx with hx|hx
   ·exact hb.block b (h.own k x b o cap hk hx (by rw[h1,hl])).1
   ·exact hb.block b (h.seen k x b o cap hk hx (by rw[h1,hl])).1
  ·subst hx;exact hb.block b (h2.wB hl hf)
 own k x b o cap hk hx hl:=⟨cx (h.own k x b o cap hk hx hl).1 hb.size,(h.own k x b o cap hk hx hl).2⟩
 inj:=h.inj
 apart k j x F b o cap v hk hx hl hj hv hF:=h.apart k j x F b o cap v hk hx hl hj hv (h.B7 hj hv hb.size (λk hk _=>hb.block k hk) hF)
 seen k x b o cap hk hx hl:=⟨cx (h.seen k x b o cap hk hx hl).1 hb.size,(h.seen k x b o cap hk hx hl).2⟩
 fa:=h.fa
 one:=h.one
 oC:=h.oC
def aY(c:Nat->Option Obj)(k:Nat)(x:Obj):Nat->Option Obj:=λj=>if j=k then some x else c j
def dB(ι:Map)(k:Nat)(l:o9):Map:=λj=>if j=k then some l else ι j
theorem gC{ι:Map}{k:Nat}{l:o9}(h:ι k=none):Map.le ι (dB ι k l):=λj m e=>by
 unfold dB;by_cases hj:j=k
 ·subst hj;rw[h]at e;cases e
 ·rw[ao hj];exact e
theorem fE(ι:Map)(k:Nat)(l:o9):dB ι k l k=some l:=by simp[dB]
theorem aM.add{B:aa}{ι:Map}{c:Nat->Option Obj}{w:World}(h:aM B ι c w){k:Nat}(hk:c k=none){x:Obj}{l:o9}(hx:jv (dB ι k l) w l x)
  (dH:∀ b o cap,x.owns=true->l=.at b o cap->b<w.heap.size/\¬B.cO b/\(∀ j y o' aO,c j=some y->y.owns=true->ι j≠some (.at b o' aO))/\(∀ j F v,c j=some (.fact F)->ι j=some (.val v)->¬F.cO v w b)/\(∀ j y o' aO,c j=some y->y.gj=true->ι j≠some (.at b o' aO)))
  (Jg:∀ F v b,x=.fact F->l=.val v->F.cO v w b->∀ j y o' aO,c j=some y->y.owns=true->ι j≠some (.at b o' aO))
  (aGz:∀ b o cap,x.gj=true->l=.at b o cap->b<w.heap.size/\∀ j y o' aO,c j=some y->y.owns=true->ι j≠some (.at b o' aO)) (nS:∀ F,x=.fact F->F.rc=true->(B.Fa F/\∀ j F',c j=some (.fact F')->F'.rc=false):=by intro F e;cases e):aM B (dB ι k l) (aY c k x) w:=by
 have qp:=h.dr k hk;have hle:=gC (l:=l) qp;have cV:∀ j y,j≠k->aY c k x j=some y->c j=some y:=λj y hj e=>by unfold aY at e;rw[ao hj]at e;exact e
 have uc:∀ j m,j≠k->dB ι k l j=some m->ι j=some m:=λj m hj e=>by unfold dB at e;rw[ao hj]at e;exact e
 have new:∀ y,aY c k x k=some y->y=x:=λy e=>by unfold aY at e;rw[aw rfl]at e;injection e with e;exact e.symm
 have lR:∀ m,dB ι k l k=some m->m=l:=λm e=>by rw[fE]at e;injection e with e;exact e.symm
 refine⟨h.base,?_,?_,?_,?_,?_,?_,?_,?_,h.oC.trans hle⟩
 ·intro j hj;unfold aY at hj;unfold dB;by_cases bL:j=k
  ·rw[aw bL]at hj;cases hj
  ·rw[ao bL]at hj ⊢;exact h.dr j hj
 ·intro j y hj;by_cases bL:j=k
  ·subst bL;rw[new y hj];exact⟨l,fE _ _ _,hx⟩
  ·obtain⟨m,h1,h2⟩:=h.born j y (cV j y bL hj);exact⟨m,hle _ _ h1,h2.mono hle⟩
 ·intro j y b o cap hj hy hl;by_cases bL:j=k
  ·subst bL;rw[new y hj]at hy;have:=dH b o cap hy (lR _ hl).symm;exact⟨this.1,this.2.1⟩
  ·exact h.own j y b o cap (cV j y bL hj) hy (uc _ _ bL hl)
 ·intro i j y z b o cap o' aO hi hy hj hz hl hm;by_cases eT:i=k<;>by_cases bL:j=k
  ·rw[eT,bL]
  ·exfalso;subst eT;rw[new y hi]at hy;exact(dH b o cap hy (lR _ hl).symm).2.2.1 j z o' aO (cV j z bL hj) hz (uc _ _ bL hm)
  ·exfalso;subst bL;rw[new z hj]at hz;exact(dH b o' aO hz (lR _ hm).symm).2.2.1 i y o cap (cV i y eT hi) hy (uc _ _ eT hl)
  ·exact h.inj i j y z b o cap o' aO (cV i y eT hi) hy (cV j z bL hj) hz (uc _ _ eT hl) (uc _ _ bL hm)
 ·intro i j y F b o cap v hi hy hl hj hv hF;by_cases eT:i=k<;>by_cases bL:j=k
  ·subst eT;subst bL;have e:y=.fact F:=(new y hi).trans (new _ hj).symm;rw[e]at hy;cases hy
  ·subst eT;rw[new y hi]at hy;exact(dH b o cap hy (lR _ hl).symm).2.2.2.1 j F v (cV j _ bL hj) (uc _ _ bL hv) hF
  ·subst bL;exact Jg F v b (new _ hj).symm (lR _ hv).symm hF i y o cap (cV i y eT hi) hy (uc _ _ eT hl)
  ·exact h.apart i j y F b o cap v (cV i y eT hi) hy (uc _ _ eT hl) (cV j _ bL hj) (uc _ _ bL hv) hF
 ·intro j y b o cap hj hy hl;by_cases bL:j=k
  ·subst bL;rw[new y hj]at hy;obtain⟨q1,q2⟩:=aGz b o cap hy (lR _ hl).symm;refine⟨q1,λi z o' aO hi hz hm=>?_⟩;by_cases mw:i=j
   ·subst mw;rw[new z hi]at hz;cases x<;>simp[Obj.owns,Obj.gj]at hy hz
   ·exact q2 i z o' aO (cV i z mw hi) hz (uc _ _ mw hm)
  ·obtain⟨q1,q2⟩:=h.seen j y b o cap (cV j y bL hj) hy (uc _ _ bL hl);refine⟨q1,λi z o' aO hi hz hm=>?_⟩;by_cases eT:i=k
   ·subst eT;rw[new z hi]at hz;exact(dH b o' aO hz (lR _ hm).symm).2.2.2.2 j y o cap (cV j y bL hj) hy (uc _ _ bL hl)
   ·exact q2 i z o' aO (cV i z eT hi) hz (uc _ _ eT hm)
 ·intro j F hj;by_cases bL:j=k
  ·subst bL;exact λwC=>(nS F (new _ hj).symm wC).1
  ·exact h.fa j F (cV j _ bL hj)
 ·intro i j F F' hi hj hr sU;by_cases eT:i=k<;>by_cases bL:j=k
  ·rw[eT,bL]
  ·subst eT;have:=(nS F (new _ hi).symm hr).2 j F' (cV j _ bL hj);rw[sU]at this;cases this
  ·subst bL;have:=(nS F' (new _ hj).symm sU).2 i F (cV i _ eT hi);rw[hr]at this;cases this
  ·exact h.one i j F F' (cV i _ eT hi) (cV j _ bL hj) hr sU
theorem aM.new{B:aa}{ι:Map}{c:Nat->Option Obj}{w w':World}(h:aM B ι c w)(hb:Below w.heap.size w w'){k:Nat}(hk:c k=none){x:Obj}{l:o9}
  (hx:jv (dB ι k l) w' l x) (dH:∀ b o cap,x.owns=true->l=.at b o cap->w.heap.size<=b/\b<w'.heap.size)
  (Jg:∀ F v b,x=.fact F->l=.val v->F.cO v w' b->w.heap.size<=b\/B.cO b) (pa:x.gj=false) (nS:∀ F,x=.fact F->F.rc=true->(B.Fa F/\∀ j F',c j=some (.fact F')->F'.rc=false):=by intro F e;cases e):aM B (dB ι k l) (aY c k x) w':=by
 refine(h.call hb).add hk hx (λb o cap Eg hl=>?_) (λF v b XN hl hF j y o' aO hj hy he=>?_) (λb o cap hv=>by rw[pa]at hv;cases hv) nS
 ·obtain⟨h1,h2⟩:=dH b o cap Eg hl;refine⟨h2,λhF=>by have:=B.lt w b h.base hF;omega,λj y o' aO hj hy he=>?_,λj F v hj he hF=>?_,λj y o' aO hj hy he=>?_⟩
  ·have:=(h.own j y b o' aO hj hy he).1;omega
  ·have hF:=h.B7 hj he hb.size (λk hk _=>hb.block k hk) hF;obtain⟨m,q1,q2⟩:=h.born j _ hj;rw[he]at q1;injection q1 with q1;have:=q2.wB q1.symm hF;omega
  ·have:=(h.seen j y b o' aO hj hy he).1;omega
 ·have h1:=h.own j y b o' aO hj hy he;rcases Jg F v b XN hl hF with h2|h2
  ·omega
  ·exact h1.2 h2
theorem aM.write{B:aa}{ι:Map}{c:Nat->Option Obj}{w w':World}(h:aM B ι c w){k b o cap:Nat}{x y:Obj}(hk:c k=some x)(hx:x.owns=true)(hl:ι k=some (.at b o cap))
  (hos:sT w w') (aGA:w'.tape=w.tape) (aGB:w'.output=w.output) (yi:w.heap.size<=w'.heap.size) (Jh:∀ j,j<w.heap.size->j≠b->w'.heap[j]?=w.heap[j]?)
  (hy:jv ι w' (.at b o cap) y) (Ji:∀ F,y≠.fact F) (Jj:y.gj=false):aM B ι (aY c k y) w':=by
 obtain⟨fK,XO⟩:=h.own k x b o cap hk hx hl;have cV:∀ j z,j≠k->aY c k y j=some z->c j=some z:=λj z hj e=>by unfold aY at e;rw[ao hj]at e;exact e
 have new:∀ z,aY c k y k=some z->z=y:=λz e=>by unfold aY at e;rw[aw rfl]at e;injection e with e;exact e.symm
 refine⟨B.dep w w' h.base hos aGA aGB yi λj hj=>Jh j (B.lt w j h.base hj) λe=>XO (e▸hj),?_,?_,?_,?_,?_,?_,?_,?_,h.oC⟩
 ·intro j hj;unfold aY at hj;by_cases bL:j=k
  ·rw[aw bL]at hj;cases hj
  ·rw[ao bL]at hj;exact h.dr j hj
 ·intro j z hj;by_cases bL:j=k
  ·subst bL;rw[new z hj];exact⟨_,hl,hy⟩
  ·have iu:=cV j z bL hj;obtain⟨m,h1,h2⟩:=h.born j z iu;refine⟨m,h1,h2.gB yi (λb' o' aO hz hm=>?_) λF v b' hz hm hF=>?_⟩
   ·subst hm;rcases hz with hz|hz
    ·exact Jh b' (h.own j z b' o' aO iu hz h1).1 λe=>bL (h.inj j k z x b o' aO o cap iu hz hk hx (e▸h1) hl)
    ·obtain⟨q1,q2⟩:=h.seen j z b' o' aO iu hz h1;exact Jh b' q1 λe=>q2 k x o cap hk hx (e▸hl)
   ·subst hz;subst hm;exact Jh b' (h2.wB rfl hF) λe=>h.apart k j x F b o cap v hk hx hl iu h1 (e▸hF)
 ·intro j z b' o' aO hj hz hm;by_cases bL:j=k
  ·subst bL;rw[hl]at hm;injection hm with hm;injection hm with cW dx yj;subst cW;exact⟨cx fK yi,XO⟩
  ·have:=h.own j z b' o' aO (cV j z bL hj) hz hm;exact⟨cx this.1 yi,this.2⟩
 ·intro i j z z' b' o1 lS o2 rl hi hz hj nT u7 jw;by_cases eT:i=k<;>by_cases bL:j=k
  ·rw[eT,bL]
  ·subst eT;exact h.inj i j x z' b' o1 lS o2 rl hk hx (cV j z' bL hj) nT u7 jw
  ·subst bL;exact h.inj i j z x b' o1 lS o2 rl (cV i z eT hi) hz hk hx u7 jw
  ·exact h.inj i j z z' b' o1 lS o2 rl (cV i z eT hi) hz (cV j z' bL hj) nT u7 jw
 ·intro i j z F b' o' aO v hi hz hm hj hv hF;by_cases bL:j=k
  ·subst bL;exact absurd (new _ hj).symm (Ji F)
  ·have iu:=cV j _ bL hj;have hF:=h.B7 iu hv yi (λk2 fF iG=>Jh k2 fF λe=>h.apart k j x F b o cap v hk hx hl iu hv (e▸iG)) hF;by_cases eT:i=k
   ·subst eT;exact h.apart i j x F b' o' aO v hk hx hm iu hv hF
   ·exact h.apart i j z F b' o' aO v (cV i z eT hi) hz hm iu hv hF
 ·intro j z b' o' aO hj hz hm;by_cases bL:j=k
  ·subst bL;rw[new z hj,Jj]at hz;cases hz
  ·obtain⟨q1,q2⟩:=h.seen j z b' o' aO (cV j z bL hj) hz hm;refine⟨cx q1 yi,λi z' o2 rl hi nT bj=>?_⟩;by_cases eT:i=k
   ·subst eT;exact q2 i x o2 rl hk hx bj
   ·exact q2 i z' o2 rl (cV i z' eT hi) nT bj
 ·intro j F hj;by_cases bL:j=k
  ·subst bL;exact absurd (new _ hj).symm (Ji F)
  ·exact h.fa j F (cV j _ bL hj)
 ·intro i j F F' hi hj;by_cases eT:i=k
  ·subst eT;exact absurd (new _ hi).symm (Ji F)
  ·by_cases bL:j=k
   ·subst bL;exact absurd (new _ hj).symm (Ji F')
   ·exact h.one i j F F' (cV i _ eT hi) (cV j _ bL hj)
theorem aM.kill{B:aa}{ι:Map}{c:Nat->Option Obj}{w:World}(h:aM B ι c w)(k:Nat)(hk:c k≠none):aM B ι (aY c k .dead) w:=by
 have cV:∀ j z,j≠k->aY c k .dead j=some z->c j=some z:=λj z hj e=>by unfold aY at e;rw[ao hj]at e;exact e
 have new:∀ z,aY c k .dead k=some z->z=.dead:=λz e=>by unfold aY at e;rw[aw rfl]at e;injection e with e;exact e.symm
 refine⟨h.base,?_,?_,?_,?_,?_,?_,?_,?_,h.oC⟩
 ·intro j hj;unfold aY at hj;by_cases bL:j=k
  ·rw[aw bL]at hj;cases hj
  ·rw[ao bL]at hj;exact h.dr j hj
 ·intro j z hj;by_cases bL:j=k
  ·subst bL;rw[new z hj];cases hc:c j with
   |none=>exact absurd hc hk
   |some x=>obtain⟨l,h1,_⟩:=h.born j x hc;exact⟨l,h1,trivial⟩
  ·exact h.born j z (cV j z bL hj)
 ·intro j z b o cap hj hz;by_cases bL:j=k
  ·subst bL;rw[new z hj]at hz;cases hz
  ·exact h.own j z b o cap (cV j z bL hj) hz
 ·intro i j z z' b o1 c1 o2 c2 hi hz hj nT;by_cases eT:i=k
  ·subst eT;rw[new z hi]at hz;cases hz
  ·by_cases bL:j=k
   ·subst bL;rw[new z' hj]at nT;cases nT
   ·exact h.inj i j z z' b o1 c1 o2 c2 (cV i z eT hi) hz (cV j z' bL hj) nT
 ·intro i j z F b o cap v hi hz hl hj;by_cases eT:i=k
  ·subst eT;rw[new z hi]at hz;cases hz
  ·by_cases bL:j=k
   ·subst bL;cases new _ hj
   ·exact h.apart i j z F b o cap v (cV i z eT hi) hz hl (cV j _ bL hj)
 ·intro j z b o cap hj hz;by_cases bL:j=k
  ·subst bL;rw[new z hj]at hz;cases hz
  ·intro hl;obtain⟨q1,q2⟩:=h.seen j z b o cap (cV j z bL hj) hz hl;refine⟨q1,λi z' o' aO hi nT hm=>?_⟩;by_cases eT:i=k
   ·subst eT;rw[new z' hi]at nT;cases nT
   ·exact q2 i z' o' aO (cV i z' eT hi) nT hm
 ·intro j F hj;by_cases bL:j=k
  ·subst bL;cases new _ hj
  ·exact h.fa j F (cV j _ bL hj)
 ·intro i j F F' hi hj;by_cases eT:i=k
  ·subst eT;cases new _ hi
  ·by_cases bL:j=k
   ·subst bL;cases new _ hj
   ·exact h.one i j F F' (cV i _ eT hi) (cV j _ bL hj)
theorem aM.ext{B:aa}{ι:Map}{c c':Nat->Option Obj}{w:World}(h:aM B ι c w)(e:∀ k,c' k=c k):aM B ι c' w:=by have:c'=c:=funext e;rw[this];exact h
theorem aM.drew{B:aa}{ι:Map}{c:Nat->Option Obj}{w:World}(h:aM B ι c w)(n:Nat)(hn:w.drawn<=n):aM B ι c { w with drawn:=n }:=
 h.call ⟨⟨rfl,hn⟩,rfl,rfl,bh _,λ_ _=>rfl⟩
def iT:aj->Nat->aj->aj
 |l,_,[]=>l
 |l,o,v::r=>iT (l.set o v) (o+1) r
theorem Rc:∀(vs l:aj) (o:Nat),(iT l o vs).length=l.length
 |[],_,_=>rfl
 |v::r,l,o=>by rw[iT,Rc r];simp
theorem bI.iT{ι:Map}:∀{vs cM:aj},bI (aG ι) vs cM->∀{l l':aj},bI (aG ι) l l'->∀ o,bI (aG ι) (iT l o vs) (iT l' o cM)
 |_,_,.nil,_,_,h,_=>h
 |_,_,.cons hv hr,_,_,h,o=>hr.iT (h.set hv o) (o+1)
theorem XP:∀(vs l:aj) (o n:Nat),o+vs.length<=n->(iT l o vs).take n=iT (l.take n) o vs
 |[],_,_,_,_=>rfl
 |v::r,l,o,n,h=>by simp only[oD]at h;rw[iT,iT,XP r (l.set o v) (o+1) n o_,List.take_set]
theorem Re(b:Nat)(ty:TypeId)(fr:Nat×Nat):∀(vs cs:aj) (o:Nat) (w:World),w.heap[b]?=some (.cells cs.toArray ty fr)->
  (w.setCells b o vs).heap[b]?=some (.cells (iT cs o vs).toArray ty fr)/\(∀ k,k≠b->(w.setCells b o vs).heap[k]?=w.heap[k]?)/\(w.setCells b o vs).heap.size=w.heap.size/\
   sT w (w.setCells b o vs)/\(w.setCells b o vs).tape=w.tape/\(w.setCells b o vs).output=w.output
 |[],cs,o,w,h=>⟨h,λ_ _=>rfl,rfl,.refl w,rfl,rfl⟩
 |v::r,cs,o,w,h=>by
  have h1:(w.setCell ⟨b,o,none⟩ v).heap[b]?=some (.cells (cs.set o v).toArray ty fr):=by simp only[World.setCell,XQ,qt,h,Rf];simp
  obtain⟨a1,a2,a3,a4,a5,a6⟩:=Re b ty fr r (cs.set o v) (o+1) _ h1;refine⟨a1,λk hk=>?_,?_,a4,a5,a6⟩
  ·rw[World.setCells,a2 k hk,Go.RowKit.Below.heap_setCell _ _ _ _ hk]
  ·rw[World.setCells,a3];simp[World.setCell]
def Obj.cells:Obj->aj
 |.aI cs _=>cs
 |.row cs _ _=>cs
 |.view cs=>cs
 |_=>[]
def Obj.Md:Obj->aj->Obj
 |.aI _ ty,cs=>.aI cs ty
 |.row _ ty s,cs=>.row cs ty s
 |x,_=>x
def Obj.reads(x:Obj):Bool:=x.owns||x.gj
theorem jv.at{ι:Map}{w:World}{b o cap:Nat}{x:Obj}(h:jv ι w (.at b o cap) x)(hx:x.reads=true):
  ∃ bt:aj,bI (aG ι) x.cells bt/\∀ j u,bt[j]?=some u->w.cell? ⟨b,o+j,none⟩=some u:=by
 cases x with
 |aI cells ty=>
  obtain⟨b',bt,h1,h2,h3⟩:=h;injection h1 with h1 pM XR;subst h1;subst pM;exact⟨bt,h2,λj u hj=>by simp[World.cell?,h3,hj]⟩
 |row cells ty size=>
  rcases h with h|⟨b',aO,cur,h1,h2,h3,h4,h5⟩
  ·cases h.1
  ·injection h1 with h1 pM XR;subst h1;subst pM;refine⟨_,h5,λj u hj=>?_⟩;rw[ue]at hj;split at hj
   ·have iu:cur[j]?=some u:=by simpa using hj
    simp[World.cell?,h2,iu]
   ·cases hj
 |view cells=>
  rcases h with h|⟨b',o',aO,bt,h1,h2,h3⟩
  ·cases h.1
  ·injection h1 with h1 pM XR;subst h1;subst pM;exact⟨bt,h2,h3⟩
 |fact F=>cases hx
 |dead=>cases hx
theorem aM.store{B:aa}{ι:Map}{c:Nat->Option Obj}{w:World}(h:aM B ι c w){k b oo cap o:Nat}{x:Obj}{vs cM:aj}(hk:c k=some x)(hx:x.owns=true)(hb:ι k=some (.at b oo cap))
  (hv:bI (aG ι) vs cM) (hle:o+vs.length<=x.cells.length) :
  oo=0/\aM B ι (aY c k (x.Md (iT x.cells o vs))) (w.setCells b o cM)/\∃(bt:aj) (ty:TypeId),w.heap[b]?=some (.cells bt.toArray ty (0,0))/\o+vs.length<=bt.length:=by
 obtain⟨l,h1,h2⟩:=h.born k x hk;rw[hb]at h1;injection h1 with h1;subst h1;cases x with
 |aI cells ty=>
  obtain⟨b',bt,q1,q2,q3⟩:=h2;injection q1 with q1 qv Rg;subst q1;subst qv;subst Rg;obtain⟨a1,a2,a3,a4,a5,a6⟩:=Re b ty (0,0) cM bt o w q3;exact⟨rfl,h.write hk hx hb a4 a5 a6 (u9 a3.symm) (λj _ hj=>a2 j hj) ⟨b,_,rfl,hv.iT q2 o,a1⟩ n_ rfl,bt,ty,q3,by rw[<-q2.length];exact hle⟩
 |row cells ty size=>
  rcases h2 with h2|⟨b',aO,cur,q1,q2,q3,q4,q5⟩
  ·cases h2.1
  ·injection q1 with q1 qv Rg;subst q1;subst qv;subst Rg;obtain⟨a1,a2,a3,a4,a5,a6⟩:=Re b ty (0,0) cM cur.toList o w (by simpa using q2);have uf:o+cM.length<=cells.length:=by rw[<-hv.length];exact hle
   have iH:cells.length<=cur.toList.length:=by have:=q5.length;rw[jL]at this;omega
   refine⟨rfl,h.write hk hx hb a4 a5 a6 (u9 a3.symm) (λj _ hj=>a2 j hj) (.inr ⟨b,cap,_,rfl,a1,q3,by simp[Rc,q4],?_⟩) n_ rfl,cur.toList,ty,by simpa using q2,?_⟩
   ·rw[Rc];show bI (aG ι) (iT cells o vs) (List.take cells.length (iT cur.toList o cM));rw[XP _ _ _ _ uf];exact hv.iT q5 o
   ·rw[hv.length];omega
 |view cells=>cases hx
 |fact F=>cases hx
 |dead=>cases hx
abbrev aH:=List (Nat×Obj)
def ll(c:Nat->Option Obj):aH->Nat->Option Obj
 |[]=>c
 |(k,x)::l=>aY (ll c l) k x
def gY(P:Program)(B:aa)(o:Oper)(ew:aj)(need:List (Nat×Option Obj))(val:Value)(cR:aH):Prop:=
 ∀(ι:Map) (c:Nat->Option Obj) (ρ:Operand->Value) (w:World),bI (aG ι) ew (o.op.operands.toList.map ρ)->aM B ι c w->(∀ p∈need,c p.1=p.2)->
  ∃ au v' w',Map.le ι au/\aG au val v'/\aM B au (ll c cR) w'/\((execOp ρ o).run P w=.ok (.value v') w'\/(v'=undef/\(execOp ρ o).run P w=.ok .skip w'))
def FW(R:Option Nat):Fence:={ fn:=λ_=>True,depth:=none,alive:=false,round:=R }
theorem XS{P:Program}{ρ:Operand->Value}{o:Oper}{w w':World}{n:Next}(h:(execOp ρ o).run P w=.ok n w')(hn:∀ d,n≠.defer d):∀ c,o.op≠.defer c:=by
 intro c hc;have e:execOp ρ o=(do let d <-resolve ρ c o.type;pure (.defer d)):=by unfold execOp;rw[hc]
 rw[e,Jk]at h;cases hr:(resolve ρ c o.type).run P w with
 |ok d w1=>rw[hr]at h;injection h with h _;exact hn d h.symm
 |halt x w1=>rw[hr]at h;cases h
def cA(P:Program)(B:aa)(o:Oper)(ew:aj)(need:List (Nat×Option Obj))(val:Value)(cR:aH):Prop:=
 ∀(R:Option Nat) (ι:Map) (c:Nat->Option Obj) (a:Act) (w:World),bI (aG ι) ew (o.op.operands.toList.map a.eval)->aM B ι c w->(∀ p∈need,c p.1=p.2)->
  ∀(K:Act->World->Prop) (Q:Exit->Act->World->Prop),(∀ au v' w',Map.le ι au->aG au val v'->aM B au (ll c cR) w'->K (a.put o.dst v') w')->o.wpIn (FW R) 0 P a w K Q
theorem gY.step{P:Program}{B:aa}{o:Oper}{ew:aj}{need:List (Nat×Option Obj)}{val:Value}{cR:aH}(h:gY P B o ew need val cR):cA P B o ew need val cR:=by
 intro R ι c a w hv hm hn K Q hK;refine⟨λ_ _=>trivial,?_⟩;obtain⟨au,v',w',h1,h2,h3,h4|⟨h4,h5⟩⟩:=h ι c a.eval w hv hm hn
 ·rw[Me _ _ _ (XS h4 n_),h4,Oper.uponIn_value];exact hK au v' w' h1 h2 h3
 ·rw[Me _ _ _ (XS h5 n_),h5,Oper.uponIn_skip];subst h4;exact hK au undef w' h1 h2 h3
section
variable{P:Program}{B:aa}{o:Oper}
theorem lT{α β:Type}{R:α->β->Prop}{a:α}{m:List β}(h:bI R [a] m):∃ b,m=[b]/\R a b:=by cases h with|cons h t=>cases t;exact⟨_,rfl,h⟩
theorem jx{α β:Type}{R:α->β->Prop}{a a2:α}{m:List β}(h:bI R [a,a2] m):∃ b b2,m=[b,b2]/\R a b/\R a2 b2:=by cases h with|cons h t=>obtain⟨b2,rfl,h2⟩:=lT t;exact⟨_,_,rfl,h,h2⟩
def du(P:Program)(t:TypeId)(cells:aj)(off:Nat):Option Value:=
 match P.underlying t,P.info? t with
 |some d,some i=>
  if d.isRow then(if Nat.ble (off+i.size) cells.length then some (.agg ((cells.drop off).take i.size).toArray)else none)
  else cells[off]?
 |_,_=>none
def eU(P:Program)(t:TypeId)(cells:aj)(off:Nat)(v:Value):Option aj:=
 match P.info? t with
 |some i=>if Nat.beq i.size v.cells.size&&Nat.ble (off+v.cells.size) cells.length&&v.cells.toList.all (·.oneCell')then some (iT cells off v.cells.toList)else none
 |none=>none
theorem XT{ι:Map}{c:Nat->Option Obj}{w:World}(hm:aM B ι c w){k off:Nat}{x:Obj}{t:TypeId}{v u:Value}
  (hk:c k=some x) (hx:x.reads=true) (hv:du P t x.cells off=some v) (hc:aG ι (.pointer (some ⟨k,off,some 7⟩)) u) :
  ∃ v' a',u=.pointer (some a')/\aG ι v v'/\(loadVar t a').run P w=.ok v' w:=by
 obtain⟨b,o,cap,hb,he⟩:=hc.yg rfl;dsimp only at hb he;obtain⟨l,h1,h2⟩:=hm.born k x hk;rw[hb]at h1;injection h1 with h1;subst h1;obtain⟨bt,fX,lV⟩:=h2.at hx;unfold du at hv;split at hv
 ·rename_i d i hd hi;split at hv
  ·rename_i jm;split at hv
   ·rename_i XU;have XU:=rm XU;have hlen:=fX.length;injection hv with hv;refine⟨.agg ((bt.drop off).take i.size).toArray,⟨b,o+off,none⟩,he,by rw[<-hv];exact .agg ((fX.drop _).take _),?_⟩;exact run_loadVar_mid (P:=P) w b (o+off) t ((bt.drop off).take i.size) d (λj u hj=>by
      rw[ue]at hj;split at hj
      ·rw[Eh]at hj;rw[ug];exact lV _ _ hj
      ·cases hj) hd jm (by rw[hi];simp;omega)
   ·cases hv
  ·rename_i jm;obtain⟨u',jM,Rh⟩:=fX.get _ _ hv;refine⟨u',⟨b,o+off,none⟩,he,Rh,?_⟩;have aGC:(isAgg t).run P w=.ok false w:=by unfold isAgg;rw[Jk,iI hd w];cases d<;>first|rfl|(simp[TypeDesc.isRow]at jm)
   simp[loadVar,Jk,aGC,load,Sem.run,lV _ _ jM]
 ·cases hv
theorem XV{t:TypeId}{x:Operand}(ho:o.op=.load t x){k off:Nat}{y:Obj}{v:Value}(hx:y.reads=true)(hv:du P t y.cells off=some v):
  gY P B o [.pointer (some ⟨k,off,some 7⟩)] [(k,some y)] v []:=by
 intro ι c ρ w aN hm hn;rw[ho]at aN;obtain⟨u,hu,hc⟩:=lT aN;have hu:ρ x=u:=by simpa[Op.operands]using hu
 obtain⟨v',a',e,jY,pN⟩:=XT hm (hn _ (aT ..)) hx hv hc;refine⟨ι,v',w,Map.le.refl _,jY,hm,.inl ?_⟩;simp only[execOp,ho,hu,e,Instr.loadAt,Instr.sureAddr];simp[pN]
theorem XW{t:TypeId}{x y:Operand}(ho:o.op=.store t x y){k off:Nat}{z:Obj}{v:Value}{cs:aj}(hx:z.owns=true)(hv:eU P t z.cells off v=some cs):
  gY P B o [.pointer (some ⟨k,off,some 7⟩),v] [(k,some z)] undef [(k,z.Md cs)]:=by
 intro ι c ρ w aN hm hn;rw[ho]at aN;obtain⟨u,u2,hu,hc,hy⟩:=jx aN;have dK:ρ x=u:=by simp[Op.operands]at hu;exact hu.1
 have fq:ρ y=u2:=by simp[Op.operands]at hu;exact hu.2
 have hk:c k=some z:=hn _ (aT ..);obtain⟨b,oo,cap,hb,he⟩:=hc.yg rfl;dsimp only at hb he;unfold eU at hv;split at hv
 ·rename_i i hi;split at hv
  ·rename_i pO;injection hv with hv;simp only[db,bf]at pO;obtain⟨⟨bA,hle⟩,Ei⟩:=pO;have bA:=Ra bA;have hle:=rm hle;have GB:=hy.cells.length;simp only[yk]at GB;obtain⟨h0,bJ,bt,ty,lW,uf⟩:=hm.store hk hx hb hy.cells (o:=off) (by simpa using hle);subst h0;rw[jZ]at he;refine⟨ι,undef,w.setCells b off u2.cells.toList,Map.le.refl _,.same rfl,by rw[<-hv];exact bJ,.inr ⟨rfl,?_⟩⟩
   have run:=run_storeCells_cells (P:=P) b off u2.cells.toList 0 w
     (λj hj=>by
      simp at hj;simp only[yk]at uf;have:j+off<bt.length:=by omega
      simp[World.cell?,lW];omega)
     (λj hj=>by simp[World.frozen?,lW])
     (λv1 kz=>by
      obtain⟨j,hj⟩:=XX kz;have al:j<v.cells.toList.length:=by
       have:j<u2.cells.toList.length:=by
        rcases eC j u2.cells.toList.length with h|h
        ·exact h
        ·rw[Av h]at hj;cases hj
       rw[hy.cells.length];exact this
      obtain⟨v',pb,sV⟩:=hy.cells.get j _ (bd al);rw[hj]at pb;injection pb with pb;rw[pb,sV.XM];exact Ei _ (dS al))
   simp only[jn]at run;simp only[execOp,ho,dK,he,fq,Instr.storeAt,Instr.sureAddr];simp[storeVar,sizeOf,typeInfo,hi,bA,<-GB,run]
  ·cases hv
 ·cases hv
theorem XY{x:Operand}(ho:o.op=.move x\/o.op=.assign x){v:Value}:gY P B o [v] [] v []:=by
 intro ι c ρ w aN hm hn;have yn:o.op.operands=#[x]:=by rcases ho with ho|ho<;>rw[ho]<;>rfl
 rw[yn]at aN;obtain⟨u,hu,hc⟩:=lT aN;have hu:ρ x=u:=by simpa using hu
 refine⟨ι,u,w,Map.le.refl _,hc,hm,.inl ?_⟩;rcases ho with ho|ho<;>simp[execOp,ho,hu]
theorem Jl{α β:Type}{R:α->β->Prop}{a a2 a3:α}{m:List β}(h:bI R [a,a2,a3] m):∃ b b2 b3,m=[b,b2,b3]/\R a b/\R a2 b2/\R a3 b3:=by cases h with|cons h t=>obtain⟨b2,b3,rfl,h2,h3⟩:=jx t;exact⟨_,_,_,rfl,h,h2,h3⟩
theorem aGD{x y z:Operand}(ho:o.op=.pick x y z){b:Bool}{v1 v2:Value}:gY P B o [.bool b,v1,v2] [] (if b then v1 else v2) []:=by
 intro ι c ρ w aN hm hn;rw[ho]at aN;obtain⟨u0,u1,u2,hu,h0,h1,h2⟩:=Jl aN;simp[Op.operands]at hu;obtain⟨e0,e1,e2⟩:=hu;have h0:=h0.bool;cases b
 ·exact⟨ι,u2,w,Map.le.refl _,h2,hm,.inl (by simp[execOp,ho,e0,e1,e2,h0,asBool])⟩
 ·exact⟨ι,u1,w,Map.le.refl _,h1,hm,.inl (by simp[execOp,ho,e0,e1,e2,h0,asBool])⟩
theorem XZ{ι:Map}{c:Nat->Option Obj}{w:World}(hm:aM B ι c w){k:Nat}(hk:c k=none)(cs bt:aj)(ty:TypeId)(hc:bI (aG ι) cs bt):
  aM B (dB ι k (.at w.heap.size 0 0)) (aY c k (.aI cs ty)) (w.alloc (.cells bt.toArray ty (0,0))):=by
 have hle:=gC (l:=.at w.heap.size 0 0) (hm.dr k hk)
 exact hm.new (w':=w.alloc (.cells bt.toArray ty (0,0))) (x:=.aI cs ty) (l:=.at w.heap.size 0 0) ⟨⟨rfl,bh _⟩,rfl,rfl,by simp,λj hj=>Ri _ _ _ hj⟩ hk
  ⟨_,bt,rfl,nR hle hc,by show(w.heap.push _)[w.heap.size]?=_;simp⟩ (λb o cap _ e=>by injection e with e1 e2;subst e1;simp) n_ rfl
theorem aGE{t:TypeId}(ho:o.op=.alloc t){i:TypeInfo}{z:Value}(hi:P.info? t=some i)(hz:i.zero=some z)(hf:flat z=true)(k:Nat):
  gY P B o [] [(k,none)] (.pointer (some ⟨k,0,some 7⟩)) [(k,.aI z.cells.toList t)]:=by
 intro ι c ρ w aN hm hn;have hk:c k=none:=hn _ (aT ..);refine⟨_,.pointer (some ⟨w.heap.size,0,none⟩),_,gC (hm.dr k hk),.ptr (o:=0) (off:=0) (fE _ _ _),XZ hm hk z.cells.toList z.cells.toList t ((aG.same hf:aG ι z z).cells),.inl ?_⟩;simp[execOp,ho,Instr.alloc,zeroValue,typeInfo,hi,hz,newVar,newRow,newObj,Sem.run]
theorem aGF{t:TypeId}{x:Operand}(ho:o.op=.box t x)(v:Value)(k:Nat):
  gY P B o [v] [(k,none)] (.pointer (some ⟨k,0,some 7⟩)) [(k,.aI v.cells.toList t)]:=by
 intro ι c ρ w aN hm hn;have hk:c k=none:=hn _ (aT ..);rw[ho]at aN;obtain⟨u,hu,hc⟩:=lT aN;have hu:ρ x=u:=by simpa[Op.operands]using hu
 refine⟨_,.pointer (some ⟨w.heap.size,0,none⟩),_,gC (hm.dr k hk),.ptr (o:=0) (off:=0) (fE _ _ _),XZ hm hk v.cells.toList u.cells.toList t hc.cells,.inl ?_⟩;simp[execOp,ho,hu,Instr.box,newVar,newRow,newObj,Sem.run]
theorem aGG{s:TypeId}{x:Operand}{f:Nat}(ho:o.op=.fieldAddr s x f){fs:Array Field}{fd:Field}{i:TypeInfo}(hs:P.underlying s=some (.struct fs))(vf:fs[f]?=some fd)
  (hi:P.info? fd.type=some i) (bA:1<=i.size) (k off:Nat) :
  gY P B o [.pointer (some ⟨k,off,some 7⟩)] [] (.pointer (some ⟨k,off+fd.offset,some 7⟩)) []:=by
 intro ι c ρ w aN hm hn;rw[ho]at aN;obtain⟨u,hu,hc⟩:=lT aN;have hu:ρ x=u:=by simpa[Op.operands]using hu
 obtain⟨b,oo,cap,hb,he⟩:=hc.yg rfl;have aU:i.size≠0:=by omega
 refine⟨ι,.pointer (some ⟨b,oo+(off+fd.offset),none⟩),w,Map.le.refl _,.ptr hb,hm,.inl ?_⟩;simp only[execOp,ho,hu,he];simp[Instr.fieldAt,Instr.sureAddr,iI hs,vf,fieldPlace,sizeOf,typeInfo,hi,aU,Aw,ug]
theorem aGH{t:TypeId}{x ix:Operand}(ho:o.op=.indexAddr t x ix){len:Nat}{e:TypeId}{i:TypeInfo}(ht:P.underlying t=some (.array len e))(hi:P.info? e=some i)
  {kd:IntKind} {n:Int} (h0:0<=n) (h1:n<len) (k off:Nat) :
  gY P B o [.pointer (some ⟨k,off,some 7⟩),.int kd n] [] (.pointer (some ⟨k,off+n.toNat*i.size,some 7⟩)) []:=by
 intro ι c ρ w aN hm hn;rw[ho]at aN;obtain⟨u,u2,hu,hc,hx⟩:=jx aN;have dK:ρ x=u:=by simp[Op.operands]at hu;exact hu.1
 have fq:ρ ix=u2:=by simp[Op.operands]at hu;exact hu.2
 have hx:=hx.eR rfl;obtain⟨b,oo,cap,hb,he⟩:=hc.yg rfl;refine⟨ι,.pointer (some ⟨b,oo+(off+n.toNat*i.size),none⟩),w,Map.le.refl _,.ptr hb,hm,.inl ?_⟩;simp only[execOp,ho,dK,he,fq,hx];simp[Instr.indexAt,Instr.sureAddr,asIntOf,iI ht,sizeOf,typeInfo,hi,h0,h1,Aw,ug]
theorem X0{t:TypeId}{x ix:Operand}(ho:o.op=.indexAddr t x ix){e:TypeId}{i:TypeInfo}(ht:P.underlying t=some (.slice e))(hi:P.info? e=some i)
  {kd:IntKind} {n:Int} {len cc:Nat} (h0:0<=n) (h1:n<len) (k off:Nat) :
  gY P B o [.slice (some ⟨k,off,some 7⟩) len cc,.int kd n] [] (.pointer (some ⟨k,off+n.toNat*i.size,some 7⟩)) []:=by
 intro ι c ρ w aN hm hn;rw[ho]at aN;obtain⟨u,u2,hu,hc,hx⟩:=jx aN;have dK:ρ x=u:=by simp[Op.operands]at hu;exact hu.1
 have fq:ρ ix=u2:=by simp[Op.operands]at hu;exact hu.2
 have hx:=hx.eR rfl;rcases hc.gW rfl with ⟨_,h,_⟩|⟨b,oo,cap,c',hb,_,_,he⟩
 ·omega
 ·refine⟨ι,.pointer (some ⟨b,oo+(off+n.toNat*i.size),none⟩),w,Map.le.refl _,.ptr hb,hm,.inl ?_⟩;simp only[execOp,ho,dK,he,fq,hx];simp[Instr.indexAt,asIntOf,iI ht,sizeOf,typeInfo,hi,h0,h1,Aw,ug]
theorem aGI{x:Operand}{i:Nat}(ho:o.op=.extract x i){vs:Array Value}{v:Value}(hv:vs[i]?=some v):gY P B o [.tuple vs] [] v []:=by
 intro ι c ρ w aN hm hn;rw[ho]at aN;obtain⟨u,hu,hc⟩:=lT aN;have hu:ρ x=u:=by simpa[Op.operands]using hu
 obtain⟨cM,he,ba⟩:=hc.ub;obtain⟨v',pb,sV⟩:=ba.get i v (by simpa using hv);refine⟨ι,v',w,Map.le.refl _,sV,hm,.inl ?_⟩;have aGJ:cM[i]?=some v':=by simpa using pb
 simp only[execOp,ho,hu,he];simp[Instr.extract,aGJ]
theorem aGK{f:Fn}{fi ca:Array Operand}(ho:o.op=.makeFunc f fi ca){vs:aj}:gY P B o vs [] (.func f (vs.take fi.size).toArray (vs.drop fi.size).toArray) []:=by intro ι c ρ w aN hm hn;rw[ho]at aN;simp only[Op.operands,Array.toList_append,sW]at aN;have h1:=aN.take fi.size;have h2:=aN.drop fi.size;rw[Rj s_]at h1;rw[Rk s_]at h2;refine⟨ι,_,w,Map.le.refl _,.fn h1 h2,hm,.inl ?_⟩;simp[execOp,ho,Instr.makeFunc,<-Array.toList_map]
theorem aGL{t:TypeId}{x:Operand}{e:TypeId}(ho:o.op=.call { callee:=.builtin .len,args:=#[x],argTypes:=#[t]})(ht:P.underlying t=some (.slice e))(k off n cc:Nat):
  gY P B o [.slice (some ⟨k,off,some 7⟩) n cc] [] (.int .i64 n) []:=by
 intro ι c ρ w aN hm hn;rw[ho]at aN;obtain⟨u,hu,hc⟩:=lT aN;have hu:ρ x=u:=by simpa[Op.operands,Call.operands]using hu
 refine⟨ι,.int .i64 n,w,Map.le.refl _,.same rfl,hm,.inl ?_⟩;rcases hc.gW rfl with ⟨_,h,_,_,he⟩|⟨b,oo,cap,c',hb,_,_,he⟩
 ·subst h;simp[execOp,ho,resolve,invoke,builtin,Builtin.len_,hu,he,iI ht,goInt]
 ·simp[execOp,ho,resolve,invoke,builtin,Builtin.len_,hu,he,iI ht,goInt]
def Mf{α:Type}(P:Program):Sem α->Option α
 |.pure a=>some a
 |.program k=>Mf P (k P)
 |.mark _ k=>Mf P k
 |_=>none
theorem Rl{α:Type}{P:Program}:∀{e:Sem α} {a:α},Mf P e=some a->∀ w,e.run P w=.ok a w
 |.pure _,a,h,w=>by injection h with h;subst h;rfl
 |.program k,a,h,w=>by rw[Sem.run];exact Rl (e:=k P) h w
 |.mark _ k,a,h,w=>by rw[Sem.run];exact Rl (e:=k) h w
 |.load _ _ _,_,h,_=>by cases h
 |.store _ _ _ _,_,h,_=>by cases h
 |.new _ _,_,h,_=>by cases h
 |.shape _ _,_,h,_=>by cases h
 |.freeze _ _ _,_,h,_=>by cases h
 |.frozen _ _,_,h,_=>by cases h
 |.getObj _ _,_,h,_=>by cases h
 |.setObj _ _ _,_,h,_=>by cases h
 |.choose _ _,_,h,_=>by cases h
 |.sys _ _,_,h,_=>by cases h
 |.halt _,_,h,_=>by cases h
theorem nj{ι:Map}{l l':aj}(h:bI (aG ι) l l')(hf:∀ v∈l,flat v=true):l'=l:=by
 induction h with
 |nil=>rfl
 |cons h t ih=>rw[h.eR (hf _ (aT ..)),ih λv hv=>hf v (bB _ hv)]
theorem B8{ew:aj}{val:Value}(Rm:∀ v∈ew,flat v=true)(hf:flat val=true)
  (h:∀ ρ:Operand->Value,o.op.operands.toList.map ρ=ew->∀ w,B.G w->(execOp ρ o).run P w=.ok (.value val) w):gY P B o ew [] val []:=by
 intro ι c ρ w aN hm hn;exact⟨ι,val,w,Map.le.refl _,.same hf,hm,.inl (h ρ (nj aN Rm) w hm.base)⟩
end
section
variable{P:Program}{B:aa}{o:Oper}
def bound(x:Option Operand)(n:Nat):aj:=match x with|some _=>[.int .i64 n]|none=>[]
theorem aGM{t:TypeId}{x:Operand}{lo hi:Option Operand}(ho:o.op=.slice t x lo hi none){e:TypeId}{i:TypeInfo}(ht:P.underlying t=some (.slice e))(Ej:P.info? e=some i)
  {k off n cc l h:Nat} (hl:lo=none->l=0) (hh:hi=none->h=n) (Mg:l<=h) (X1:h<=n) (hz:l<h\/l=0) :
  gY P B o (.slice (some ⟨k,off,some 7⟩) n cc::(bound lo l++bound hi h)) [] (.slice (some ⟨k,off+l*i.size,some 7⟩) (h-l) (cc+l)) []:=by
 intro ι c ρ w aN hm hn;rw[ho]at aN;have hb:∀(x:Option Operand) (q:Nat),bI (aG ι) (bound x q) ((x.toArray).toList.map ρ)->∀ y,x=some y->ρ y=.int .i64 q:=by
  intro x q h y hy;subst hy;obtain⟨u,hu,hc⟩:=lT h;have hu:ρ y=u:=by simpa using hu
  rw[hu];exact hc.eR rfl
 have yn:(Op.operands (.slice t x lo hi none)).toList.map ρ=ρ x::(lo.toArray.toList.map ρ++hi.toArray.toList.map ρ):=by simp[Op.operands]
 rw[yn]at aN;cases aN with
 |cons hc ry=>
 have hlen:(bound lo l).length=(lo.toArray.toList.map ρ).length:=by cases lo<;>rfl
 have h1:bI (aG ι) (bound lo l) (lo.toArray.toList.map ρ):=by have:=ry.take (bound lo l).length;rwa[Rn,hlen,Rn]at this
 have h2:bI (aG ι) (bound hi h) (hi.toArray.toList.map ρ):=by have:=ry.drop (bound lo l).length;rwa[List.drop_left,hlen,List.drop_left]at this
 have dL:∀ y,lo=some y->ρ y=.int .i64 l:=hb lo l h1;have iv:∀ y,hi=some y->ρ y=.int .i64 h:=hb hi h h2;have qw:∀(y:Nat) (q:Nat) (code:BoundsCode),q<=y->(Instr.sliceBound (.int .i64 q) y code).run P w=.ok q w:=by intro y q code hq;have:(0:Int)<=q/\(q:Int)<=y:=⟨by omega,by omega⟩;simp[Instr.sliceBound,asIntOf,this]
 have Ro:∀ cap,n<=cap->(Instr.sliceBounds true n cap (lo.map ρ) (hi.map ρ) none).run P w=.ok (l,h,cap) w:=by
  intro cap jy;cases lo with
  |none=>
   have:=hl rfl;subst this;cases hi with
   |none=>have:=hh rfl;subst this;simp[Instr.sliceBounds]
   |some y=>simp[Instr.sliceBounds,iv y rfl,qw cap h _ o_]
  |some x=>
   cases hi with
   |none=>have:=hh rfl;subst this;simp[Instr.sliceBounds,dL x rfl,qw h l _ Mg]
   |some y=>simp[Instr.sliceBounds,iv y rfl,dL x rfl,qw cap h _ o_,qw h l _ Mg]
 rcases hc.gW rfl with ⟨hb,kh,pP,yo,he⟩|⟨b,oo,cap,c',hb,lp,mz,he⟩
 ·dsimp only at yo;have hh0:h=0:=by omega
  have qx:l=0:=by omega
  subst kh;subst pP;subst yo;subst hh0;subst qx;refine⟨ι,.slice none 0 0,w,Map.le.refl _,by simpa using aG.slcN hb,hm,.inl ?_⟩;simp only[execOp,ho];simp[Instr.sliceAt,iI ht,Instr.slice,he,Ro 0 (bh _),sizeOf,typeInfo,Ej]
 ·refine⟨ι,.slice (some ⟨b,oo+(off+l*i.size),none⟩) (h-l) (c'-l),w,Map.le.refl _,.slc hb o_ o_,hm,.inl ?_⟩;simp only[execOp,ho];by_cases iH:c'=l
  ·have qx:l=0:=by omega
   simp[Instr.sliceAt,iI ht,Instr.slice,he,Ro c' lp,sizeOf,typeInfo,Ej,qx,Aw,ug]
  ·simp[Instr.sliceAt,iI ht,Instr.slice,he,Ro c' lp,sizeOf,typeInfo,Ej,iH,Aw,ug]
theorem X2{t:TypeId}{x y:Operand}(ho:o.op=.makeSlice t x y){e:TypeId}{i:TypeInfo}{z:Value}(ht:P.underlying t=some (.slice e))(hi:P.info? e=some i)(hz:i.zero=some z)
  {kl kc:IntKind} {l cp:Nat} (hlc:l<=cp) (B9:i.bytes*cp<=281474976710656) (h63:cp<=maxLen) {cells:aj} (jc:(madeCells z.cells (cp*i.size)).toList.take (l*i.size)=cells)
  (hlen:cells.length=l*i.size) (cN:∀ v∈cells,flat v=true) (k:Nat) :
  gY P B o [.int kl l,.int kc cp] [(k,none)] (.slice (some ⟨k,0,some 7⟩) l 0) [(k,.row cells e i.size)]:=by
 intro ι c ρ w aN hm hn;have hk:c k=none:=hn _ (aT ..);rw[ho]at aN;obtain⟨u,u2,hu,hc,hx⟩:=jx aN;have dK:ρ x=u:=by simp[Op.operands]at hu;exact hu.1
 have fq:ρ y=u2:=by simp[Op.operands]at hu;exact hu.2
 have hc:=hc.eR rfl;have hx:=hx.eR rfl;have hle:=gC (l:=.at w.heap.size 0 cp) (hm.dr k hk);have hr:=run_make (P:=P) w t e i z ht hi hz kl kc l cp o_ o_ (by
  have h:((i.bytes*cp:Nat):Int)<=281474976710656:=by omega
  rwa[nU]at h) (by have h:=h63;simp[maxLen]at h;omega)
 simp only[Int.toNat_natCast]at hr;refine⟨dB ι k (.at w.heap.size 0 cp),.slice (some ⟨w.heap.size,0,none⟩) l cp,w.alloc (.cells (madeCells z.cells (cp*i.size)) e),hle,.slc (o:=0) (off:=0) (fE _ _ _) hlc o_,?_,.inl ?_⟩
 ·refine hm.new (w':=w.alloc (.cells (madeCells z.cells (cp*i.size)) e)) (x:=.row cells e i.size) ⟨⟨rfl,bh _⟩,rfl,rfl,by simp,λj hj=>Ri _ _ _ hj⟩ hk
   (.inr ⟨w.heap.size,cp,_,rfl,by show(w.heap.push _)[w.heap.size]?=_;simp;rfl,h63,size_madeCells _ _,?_⟩) (λb o cap _ e=>by injection e with e1 e2;subst e1;simp) n_ rfl
  rw[hlen,jc];exact kg cN
 ·simp only[execOp,ho,dK,fq,hc,hx];simp[hr]
def Ca(B:aa)(sv:Value)(m:Nat)(news:aj)(need:List (Nat×Option Obj)):Prop:=
 ∀(ι:Map) (c:Nat->Option Obj) (w:World) (u:Value),aM B ι c w->(∀ p∈need,c p.1=p.2)->aG ι sv u->
  (m=0/\news=[]/\u=.slice none 0 0)\/∃ ad c' lX,u=.slice (some ad) m c'/\bI (aG ι) news lX/\∀ j v,lX[j]?=some v->w.cell? (ad.add j)=some v
theorem Mh{k off m cc:Nat}{x:Obj}(hx:x.reads=true){len:Nat}(h0:m=0->len=0):Ca B (.slice (some ⟨k,off,some 7⟩) m cc) m ((x.cells.drop off).take len) [(k,some x)]:=by
 intro ι c w u hm hn hc;have hk:c k=some x:=hn _ (aT ..);rcases hc.gW rfl with ⟨hb,kh,pP,yo,he⟩|⟨b,oo,cap,c',hb,lp,mz,he⟩
 ·refine .inl ⟨kh,?_,he⟩;rw[h0 kh];rfl
 ·dsimp only at hb he;obtain⟨l,h1,h2⟩:=hm.born k x hk;rw[hb]at h1;injection h1 with h1;subst h1;obtain⟨bt,fX,lV⟩:=h2.at hx;refine .inr ⟨⟨b,oo+off,none⟩,c',_,he,(fX.drop off).take len,λj v hj=>?_⟩;rw[ue]at hj;split at hj
  ·rw[Eh]at hj;rw[Aw,ug];exact lV _ _ hj
  ·cases hj
theorem GC{ι:Map}{c:Nat->Option Obj}{w:World}(hm:aM B ι c w){k:Nat}(hk:c k=none){cells cells':aj}{rest:Array Value}{ty:TypeId}{size cap:Nat}(hc:bI (aG ι) cells cells')
  (jy:cap<=maxLen) (bA:cells'.length+rest.size=cap*size) :
  aM B (dB ι k (.at w.heap.size 0 cap)) (aY c k (.row cells ty size)) (w.alloc (.cells (cells'.toArray++rest) ty)):=by
 have hle:=gC (l:=.at w.heap.size 0 cap) (hm.dr k hk)
 refine hm.new (w':=w.alloc (.cells (cells'.toArray++rest) ty)) (x:=.row cells ty size) ⟨⟨rfl,bh _⟩,rfl,rfl,by simp,λj hj=>Ri _ _ _ hj⟩ hk
  (.inr ⟨w.heap.size,cap,cells'.toArray++rest,rfl,by show(w.heap.push _)[w.heap.size]?=_;simp,jy,by simpa using bA,?_⟩) (λb o cap _ e=>by injection e with e1 e2;subst e1;simp) n_ rfl
 rw[hc.length,Array.toList_append];show bI _ _ (List.take cells'.length (cells'++rest.toList));rw[Rn];exact nR hle hc
theorem aGN{ι:Map}{l l':aj}(h:bI (aG ι) l l')(h1:∀ v∈l,v.oneCell'=true):∀ v∈l',v.oneCell'=true:=by intro v hv;obtain⟨j,hj⟩:=XX hv;obtain⟨u,hu,hc⟩:=h.get' j v hj;rw[hc.XM];exact h1 u (cQ hu)
theorem aGO{s x:Operand}{t:TypeId}(ho:o.op=.call { callee:=.builtin .append,args:=#[s,x],argTypes:=#[t,t]})
  {e:TypeId} {i:TypeInfo} {z:Value} (ht:P.underlying t=some (.slice e)) (hi:P.info? e=some i) (hz:i.zero=some z) (Mi:z.cells.size=i.size) (bA:0<i.size)
  {sv:Value} {m:Nat} {news:aj} {need:List (Nat×Option Obj)} (yp:Ca B sv m news need) (hl:news.length=m*i.size)
  (h63:m<=maxLen) (B9:m*i.bytes<=140737488355328) (k:Nat) :
  gY P B o [.slice none 0 0,sv] ((k,none)::need) (.slice (some ⟨k,0,some 7⟩) m 0) [(k,.row news e i.size)]:=by
 intro ι c ρ w aN hm hn;have hk:c k=none:=hn _ (aT ..);rw[ho]at aN;obtain⟨u,u2,hu,hc,hx⟩:=jx aN;have dK:ρ s=u:=by simp[Op.operands,Call.operands]at hu;exact hu.1
 have fq:ρ x=u2:=by simp[Op.operands,Call.operands]at hu;exact hu.2
 have hc:=hc.eR rfl;have Jm:m=0->(Builtin.append_ #[t,t] o.type #[u,u2]).run P w=.ok (.slice none 0 0) w->
   ∃ au v' w',Map.le ι au/\aG au (.slice (some ⟨k,0,some 7⟩) m 0) v'/\aM B au (ll c [(k,.row news e i.size)]) w'/\((execOp ρ o).run P w=.ok (.value v') w'\/(v'=undef/\(execOp ρ o).run P w=.ok .skip w')):=by
  intro kA hr;subst kA;have kh:news=[]:=lq (by simpa using hl);subst kh;refine⟨dB ι k .nil,.slice none 0 0,w,gC (hm.dr k hk),.slcN (fE _ _ _),hm.add hk (.inl ⟨rfl,rfl⟩) n_ n_ n_,.inl ?_⟩;simp[execOp,ho,resolve,invoke,builtin,dK,fq,hr]
 rcases yp ι c w u2 hm (λp hp=>hn p (bB _ hp)) hx with ⟨h1,h2,h3⟩|⟨ad,c',lX,h1,h2,h3⟩
 ·refine Jm h1 ?_;rw[hc,h3];simp[Builtin.append_,iI ht,sizeOf,typeInfo,hi,Builtin.lenOf,Builtin.firstCells]
 ·have cg:lX.length=m*i.size:=by rw[<-h2.length];exact hl
  by_cases kA:m=0
  ·refine Jm kA ?_;rw[hc,h1,kA];simp[Builtin.append_,iI ht,sizeOf,typeInfo,hi,Builtin.lenOf,Builtin.firstCells,loadCells,loadCellsFrom]
  ·have hr:=run_append_nil (P:=P) w t o.type e i z ht hi hz ad m c' lX cg h3 o_ (by have h:=h63;simp[maxLen]at h;omega) o_;have dM:=grownCap_ge w m 0 e;have dy:=X3 w m 0 e h63;have bj:aM B ι c w.drew:=hm.call ⟨⟨rfl,yq _⟩,rfl,rfl,bh _,λ_ _=>rfl⟩;have kT:=GC (ty:=e) (size:=i.size) (cap:=grownCap w m 0 e) (rest:=Builtin.zeroCells z.cells (grownCap w m 0 e-m)) bj hk h2 dy (by
    have h:=Mj z.cells (grownCap w m 0 e-m);rw[cg,h,Mi,<-ft]
    congr 1;omega)
   refine⟨_,_,_,gC (hm.dr k hk),.slc (o:=0) (off:=0) (fE _ _ _) dM o_,kT,.inl ?_⟩;rw[<-hc,<-h1]at hr;simp[execOp,ho,resolve,invoke,builtin,dK,fq,hr]
theorem aGP{s x:Operand}{t:TypeId}(ho:o.op=.call { callee:=.builtin .append,args:=#[s,x],argTypes:=#[t,t]})
  {e:TypeId} {i:TypeInfo} {z:Value} (ht:P.underlying t=some (.slice e)) (hi:P.info? e=some i) (hz:i.zero=some z) (Mi:z.cells.size=i.size) (bA:0<i.size)
  {sv:Value} {m:Nat} {news:aj} {need:List (Nat×Option Obj)} (yp:Ca B sv m news need) (hl:news.length=m*i.size) (Rp:∀ v∈news,v.oneCell'=true)
  {j n:Nat} {cells:aj} (lY:n*i.size<=cells.length) (h63:n+m<=maxLen) (B9:(n+m)*i.bytes<=140737488355328) (k:Nat) :
  gY P B o [.slice (some ⟨j,0,some 7⟩) n 0,sv] ((k,none)::(j,some (.row cells e i.size))::need) (.slice (some ⟨k,0,some 7⟩) (n+m) 0)
   [(k,.row (cells.take (n*i.size)++news) e i.size),(j,.dead)]:=by
 intro ι c ρ w aN hm hn;have hk:c k=none:=hn _ (aT ..);have hj:c j=some (.row cells e i.size):=hn _ (bB _ (aT ..));have hkj:j≠k:=λe=>by rw[e,hk]at hj;cases hj
 have gD:aY c j .dead k=none:=by unfold aY;rw[ao (mA hkj)];exact hk
 rw[ho]at aN;obtain⟨u,u2,hu,hc,hx⟩:=jx aN;have dK:ρ s=u:=by simp[Op.operands,Call.operands]at hu;exact hu.1
 have fq:ρ x=u2:=by simp[Op.operands,Call.operands]at hu;exact hu.2
 have ex:∀ v' w',(Builtin.append_ #[t,t] o.type #[u,u2]).run P w=.ok v' w'->(execOp ρ o).run P w=.ok (.value v') w':=by intro v' w' hr;simp[execOp,ho,resolve,invoke,builtin,dK,fq,hr]
 have GD:aM B ι (aY c j .dead) w:=hm.kill j (by rw[hj];exact n_);rcases hc.gW rfl with ⟨hb,kh,_,_,he⟩|⟨b,oo,cap,c',hb,lp,mz,he⟩
 ·-- nothing is there yet
  subst kh;subst he;have Rq:=yp ι c w u2 hm (λp hp=>hn p (bB _ (bB _ hp))) hx;have Ax:cells.take (0*i.size)=[]:=by simp
  rw[Ax,jo,jZ];simp only[jZ]at h63 B9;have Jm:m=0->(Builtin.append_ #[t,t] o.type #[.slice none 0 0,u2]).run P w=.ok (.slice none 0 0) w->
    ∃ au v' w',Map.le ι au/\aG au (.slice (some ⟨k,0,some 7⟩) m 0) v'/\aM B au (ll c [(k,.row news e i.size),(j,.dead)]) w'/\((execOp ρ o).run P w=.ok (.value v') w'\/(v'=undef/\(execOp ρ o).run P w=.ok .skip w')):=by
   intro kA hr;subst kA;have kh:news=[]:=lq (by simpa using hl);subst kh;exact⟨dB ι k .nil,.slice none 0 0,w,gC (hm.dr k hk),.slcN (fE _ _ _),GD.add gD (.inl ⟨rfl,rfl⟩) n_ n_ n_,.inl (ex _ _ hr)⟩
  rcases Rq with ⟨h1,h2,h3⟩|⟨ad,c',lX,h1,h2,h3⟩
  ·refine Jm h1 ?_;rw[h3];simp[Builtin.append_,iI ht,sizeOf,typeInfo,hi,Builtin.lenOf,Builtin.firstCells]
  ·have cg:lX.length=m*i.size:=by rw[<-h2.length];exact hl
   by_cases kA:m=0
   ·refine Jm kA ?_;rw[h1,kA];simp[Builtin.append_,iI ht,sizeOf,typeInfo,hi,Builtin.lenOf,Builtin.firstCells,loadCells,loadCellsFrom]
   ·have hr:=run_append_nil (P:=P) w t o.type e i z ht hi hz ad m c' lX cg h3 o_ (by have h:=h63;simp[maxLen]at h;omega) o_;have dM:=grownCap_ge w m 0 e;have dy:=X3 w m 0 e h63;have bj:aM B ι (aY c j .dead) w.drew:=GD.call ⟨⟨rfl,yq _⟩,rfl,rfl,bh _,λ_ _=>rfl⟩;have kT:=GC (ty:=e) (size:=i.size) (cap:=grownCap w m 0 e) (rest:=Builtin.zeroCells z.cells (grownCap w m 0 e-m)) bj gD h2 dy (by
     have h:=Mj z.cells (grownCap w m 0 e-m);rw[cg,h,Mi,<-ft]
     congr 1;omega)
    refine⟨_,_,_,gC (hm.dr k hk),.slc (o:=0) (off:=0) (fE _ _ _) dM o_,kT,.inl (ex _ _ ?_)⟩;rw[h1,hr];rfl
 ·-- a row
  dsimp only at hb he;subst he;have ki:c'=cap:=by omega
  subst ki;obtain⟨l,q1,q2⟩:=hm.born j _ hj;rw[hb]at q1;injection q1 with q1;subst q1;rcases q2 with q2|⟨b',aO,cur,e1,lW,dy,fX,jc⟩
  ·cases q2.1
  injection e1 with e1 e2 e3;subst e1;subst e2;subst e3;have iH:cells.length<=cur.size:=by have:=jc.length;rw[jL,yk]at this;change cells.length=min cells.length cur.size at this;omega
  have Mk:bI (aG ι) (cells.take (n*i.size)) (cur.toList.take (n*i.size)):=by have:=jc.take (n*i.size);rwa[Ml,nV lY]at this
  have holds:∀(jj:Nat) (v:Value),(cur.toList.take (n*i.size))[jj]?=some v->w.cell? ((⟨b,0,none⟩:Addr).add jj)=some v:=by
   intro jj v hv;rw[ue]at hv;split at hv
   ·have pb:cur[jj]?=some v:=by simpa using hv
    simp[World.cell?,Aw,lW,pb]
   ·cases hv
  have dL:(cur.toList.take (n*i.size)).length=n*i.size:=by rw[jL,yk];omega
  -- the source
  have Rq:∃ ad c' lX,u2=.slice ad m c'/\bI (aG ι) news lX/\(ad=none->m=0/\c'=0)/\∀ a,ad=some a->∀ j v,lX[j]?=some v->w.cell? (a.add j)=some v:=by
   rcases yp ι c w u2 hm (λp hp=>hn p (bB _ (bB _ hp))) hx with ⟨h1,h2,h3⟩|⟨ad,c',lX,h1,h2,h3⟩
   ·subst h1;subst h2;exact⟨none,0,[],h3,.nil,λ_=>⟨rfl,rfl⟩,λa e=>by cases e⟩
   ·exact⟨some ad,c',lX,h1,h2,λe=>(by cases e),λa e=>by injection e with e;subst e;exact h3⟩
  obtain⟨ad,c2,lX,Rr,Jn,Mm,lV⟩:=Rq;have cg:lX.length=m*i.size:=by rw[<-Jn.length];exact hl
  have dH:=hm.own j _ b 0 c' hj rfl hb
  -- where the block is kept
  have gB:∀ w' (fN:Array Value),sT w w'->w'.tape=w.tape->w'.output=w.output->w.heap.size<=w'.heap.size->(∀ q,q≠b->w'.heap[q]?=w.heap[q]?)->w'.heap[b]?=some (.cells fN e (0,0))->
    fN.size=c'*i.size->fN.toList.take (n*i.size+m*i.size)=cur.toList.take (n*i.size)++lX->n+m<=c'->(Builtin.append_ #[t,t] o.type #[.slice (some ⟨b,0,none⟩) n c',u2]).run P w=.ok (.slice (some ⟨b,0,none⟩) (n+m) c') w'->
    ∃ au v' w',Map.le ι au/\aG au (.slice (some ⟨k,0,some 7⟩) (n+m) 0) v'/\aM B au (ll c [(k,.row (cells.take (n*i.size)++news) e i.size),(j,.dead)]) w'/\((execOp ρ o).run P w=.ok (.value v') w'\/(v'=undef/\(execOp ρ o).run P w=.ok .skip w')):=by
   intro w' fN p1 p2 p3 p4 p5 p6 p7 p8 p9 hr;have hle:=gC (l:=.at b 0 c') (hm.dr k hk);have cW:aM B ι (aY c j .dead) w':=hm.write hj rfl hb p1 p2 p3 p4 (λq _ hq=>p5 q hq) trivial n_ rfl;refine⟨dB ι k (.at b 0 c'),_,w',hle,.slc (o:=0) (off:=0) (fE _ _ _) p9 o_,cW.add gD (.inr ⟨b,c',fN,rfl,p6,dy,p7,?_⟩) (λb1 o1 lS _ e1=>?_) n_ n_,.inl (ex _ _ hr)⟩
   ·have e1:(cells.take (n*i.size)++news).length=n*i.size+m*i.size:=by rw[iJ,jL,hl];omega
    rw[e1,p8];exact(nR hle Mk).append (nR hle Jn)
   ·injection e1 with e1 e2;subst e1;refine⟨cx dH.1 p4,dH.2,λq y o' aO hq hy Ay=>?_,λq F v hq Ay=>?_,λq y o' aO hq hy Ay=>?_⟩
    ·unfold aY at hq;by_cases wD:q=j
     ·rw[aw wD]at hq;injection hq with hq;subst hq;cases hy
     ·rw[ao wD]at hq;exact wD (hm.inj q j y _ b o' aO 0 c' hq hy hj rfl Ay hb)
    ·unfold aY at hq;by_cases wD:q=j
     ·rw[aw wD]at hq;cases hq
     ·rw[ao wD]at hq;exact λhF=>hm.apart j q _ F b 0 c' v hj rfl hb hq Ay (hm.B7 hq Ay p4 (λk2 fF iG=>p5 k2 λe=>hm.apart j q _ F b 0 c' v hj rfl hb hq Ay (e▸iG)) hF)
    ·unfold aY at hq;by_cases wD:q=j
     ·rw[aw wD]at hq;injection hq with hq;subst hq;cases hy
     ·rw[ao wD]at hq;exact(hm.seen q y b o' aO hq hy Ay).2 j _ 0 c' hj rfl hb
  by_cases Jo:n+m<=c'
  ·cases ad with
   |none=>
    obtain⟨kA,pP⟩:=Mm rfl;subst kA;subst pP;have kh:lX=[]:=lq (by simpa using cg);subst kh;refine gB w cur (.refl w) rfl rfl (bh _) (λ_ _=>rfl) lW fX s_ Jo ?_;rw[Rr];have hr:=run_append_owned_none (P:=P) (w:=w) 0 t o.type e i i.size ht hi (.slice (some ⟨b,0,none⟩) n c') n (cur.toList.take (n*i.size)) ⟨dL,.inr ⟨b,c',cur,rfl,kU _,lW,by omega,dy,fX,rfl⟩⟩;simpa using hr
   |some a=>
    have hr:=run_append_room (P:=P) w t o.type e i ht hi b n c' cur lW a m c2 lX cg (lV a rfl) (aGN Jn Rp) Jo (by rw[cg,fX,<-ft];exact e8 _ Jo);refine gB (w.setRow b (cur.toList.take (n*i.size)++lX++cur.toList.drop (n*i.size+lX.length)).toArray) _ ⟨rfl,bh _⟩ rfl rfl s_ (λq hq=>setRow_other w b q _ hq) (setRow_heap w b cur _ e _ lW) ?_ ?_ Jo (by rw[Rr];exact hr)
    ·have:=e8 i.size Jo;rw[ft]at this;simp only[Mn,iJ,dL,vg,yk,cg];omega
    ·have e1:(cur.toList.take (n*i.size)++lX).length=n*i.size+m*i.size:=by rw[iJ,dL,cg]
     rw[<-e1];exact Rn
  ·cases ad with
   |none=>
    obtain⟨kA,_⟩:=Mm rfl;omega
   |some a=>
    have hr:=run_append_grow (P:=P) w t o.type e i z ht hi hz ⟨b,0,none⟩ n c' _ dL holds a m c2 lX cg (lV a rfl) o_ (by have h:=h63;simp[maxLen]at h;omega) (growslice_fits o_ B9);have dM:=grownCap_ge w (n+m) c' e;have aGQ:=X3 w (n+m) c' e h63;have bj:aM B ι (aY c j .dead) w.drew:=GD.call ⟨⟨rfl,yq _⟩,rfl,rfl,bh _,λ_ _=>rfl⟩;have kT:=GC (ty:=e) (size:=i.size) (cap:=grownCap w (n+m) c' e) (rest:=Builtin.zeroCells z.cells (grownCap w (n+m) c' e-(n+m))) bj gD (Mk.append Jn) aGQ (by
     have h:=Mj z.cells (grownCap w (n+m) c' e-(n+m));rw[iJ,dL,cg,h,Mi,<-ft,<-ft]
     congr 1;omega)
    refine⟨_,_,_,gC (hm.dr k hk),.slc (o:=0) (off:=0) (fE _ _ _) dM o_,kT,.inl (ex _ _ ?_)⟩;rw[Rr,hr];simp
theorem X4{src dst e:TypeId}{x:Operand}(ho:o.op=.convert src dst x)(hs:P.underlying src=some (.slice e))(he:P.underlying e=some (.int .u8))(hd:P.underlying dst=some .string)
  {k off n cc:Nat} {y:Obj} {ns:List Int} (hy:y.reads=true) (Ek:(y.cells.drop off).take n=ns.map (Value.int .u8)) (hlen:ns.length=n) :
  gY P B o [.slice (some ⟨k,off,some 7⟩) n cc] [(k,some y)] (.string (ns.foldl (λr n=>r.push (UInt8.ofNat n.toNat)) ByteArray.empty)) []:=by
 intro ι c ρ w aN hm hn;rw[ho]at aN;obtain⟨u,hu,hc⟩:=lT aN;have hu:ρ x=u:=by simpa[Op.operands]using hu
 refine⟨ι,_,w,Map.le.refl _,.same rfl,hm,.inl ?_⟩;have jY:=λa l c=>run_convert_bytes_string (P:=P) w src dst e a l c hs he hd;rcases Mh (B:=B) (k:=k) (off:=off) (m:=n) (cc:=cc) hy (len:=n) (λh=>h) ι c w u hm hn hc with ⟨h1,h2,h3⟩|⟨ad,c',lX,h1,h2,h3⟩
 ·subst h1;have:ns=[]:=lq hlen;subst this;simp only[execOp,ho,hu,h3];simp[jY,Conv.bytesToString]
 ·rw[Ek]at h2;have h2:=nj h2 (λv hv=>by obtain⟨q,_,rfl⟩:=di.1 hv;rfl);subst h2;have aGR:(loadCells ad n).run P w=.ok (ns.map (Value.int .u8)).toArray w:=by have:=run_loadCells_list (P:=P) (w:=w) ad (ns.map (Value.int .u8)) h3;simpa[hlen]using this
  simp only[execOp,ho,hu,h1];simp[jY,run_bytesToString w ad n c' ns aGR]
end
def fY(look:Nat->Value):Operand->Value
 |.tmp t=>look t
 |.const v=>v
 |.global g=>.pointer (some ⟨g,0,none⟩)
 |.func f=>.func (.func f) #[] #[]
def Mo:Operand->Bool
 |.const v=>flat v
 |_=>true
structure e9(B:aa)(ι:Map)(look:Nat->Value)(N:Nat)(a:Act):Prop where
 defers:a.defers=B.ds
 size:a.tmps.size=N
 slot:∀ t,ni ι (look t) (a.tmps.getD t undef)
theorem e9.mono{B:aa}{ι κ:Map}(hle:Map.le ι κ){look:Nat->Value}{N:Nat}{a:Act}(h:e9 B ι look N a):e9 B κ look N a:=⟨h.defers,h.size,λt=>(h.slot t).mono hle⟩
theorem X5{B:aa}{ι:Map}{look:Nat->Value}{N:Nat}{a:Act}(hf:e9 B ι look N a){x:Operand}(hx:Mo x=true)(hn:lQ (fY look x)=false):aG ι (fY look x) (a.eval x):=by
 cases x with
 |tmp t=>exact(hf.slot t).As hn
 |const v=>exact .same hx
 |global g=>exact .same rfl
 |func f=>exact .same rfl
theorem Rt{B:aa}{ι:Map}{look:Nat->Value}{N:Nat}{a:Act}(hf:e9 B ι look N a):∀(l:List Operand),(∀ x∈l,Mo x=true/\lQ (fY look x)=false)->bI (aG ι) (l.map (fY look)) (l.map a.eval)
 |[],_=>.nil
 |x::l,h=>(.cons (X5 hf (h x (aT ..)).1 (h x (aT ..)).2) (Rt hf l λy hy=>h y (bB _ hy)))
structure qy where
 val:Value
 cR:aH
 need:List (Nat×Option Obj)
def Mp(P:Program)(look:Nat->Value)(o:Oper):Option qy:=
 if o.op.operands.toList.all (λx=>flat (fY look x))then(match Mf P (execOp (fY look) o)with
   |some (.value v)=>if flat v then some ⟨v,[],[]⟩else none
   |_=>none)else none
def X6(look:Nat->Value)(c:Call):Option (Nat×TypeId×Operand×Addr×Nat):=
 match c.callee,c.args.toList,c.argTypes.toList with
 |.builtin .len,[x],[t]=>match fY look x with
  |.slice (some ad) n cc=>if nh ad then some (n,t,x,ad,cc)else none
  |_=>none
 |_,_,_=>none
def qz(P:Program)(look:Nat->Value)(g:Nat->Option Obj)(next:Nat)(o:Oper):Option qy:=
 match o.op with
 |.move x=>some ⟨fY look x,[],[]⟩
 |.assign x=>some ⟨fY look x,[],[]⟩
 |.pick c x y=>match fY look c with
  |.bool b=>some ⟨if b then fY look x else fY look y,[],[]⟩
  |_=>none
 |.alloc t=>match P.info? t with
  |some i=>match i.zero with
   |some z=>if flat z then some ⟨.pointer (some ⟨next,0,some 7⟩),[(next,.aI z.cells.toList t)],[(next,none)]⟩else none
   |none=>none
  |none=>none
 |.box t x=>some ⟨.pointer (some ⟨next,0,some 7⟩),[(next,.aI (fY look x).cells.toList t)],[(next,none)]⟩
 |.load t x=>match fY look x with
  |.pointer (some ad)=>if nh ad then(match g ad.block with
   |some y=>if y.reads then(match du P t y.cells ad.off with|some v=>some ⟨v,[],[(ad.block,some y)]⟩|none=>none)else none
   |none=>none)else none
  |_=>none
 |.store t x y=>match fY look x with
  |.pointer (some ad)=>if nh ad then(match g ad.block with
   |some z=>if z.owns then(match eU P t z.cells ad.off (fY look y)with|some cs=>some ⟨undef,[(ad.block,z.Md cs)],[(ad.block,some z)]⟩|none=>none)else none
   |none=>none)else none
  |_=>none
 |.fieldAddr s x f=>match fY look x with
  |.pointer (some ad)=>if nh ad then(match P.underlying s with
   |some (.struct fs)=>(match fs[f]? with
    |some fd=>(match P.info? fd.type with
     |some i=>if Nat.ble 1 i.size then some ⟨.pointer (some ⟨ad.block,ad.off+fd.offset,some 7⟩),[],[]⟩else none
     |none=>none)
    |none=>none)
   |_=>none)else none
  |_=>none
 |.indexAddr t x ix=>match fY look x,fY look ix with
  |.pointer (some ad),.int _ n=>if nh ad then(match P.underlying t with
   |some (.array len e)=>(match P.info? e with
    |some i=>if 0<=n/\n<len then some ⟨.pointer (some ⟨ad.block,ad.off+n.toNat*i.size,some 7⟩),[],[]⟩else none
    |none=>none)
   |_=>none)else none
  |.slice (some ad) len _,.int _ n=>if nh ad then(match P.underlying t with
   |some (.slice e)=>(match P.info? e with
    |some i=>if 0<=n/\n<len then some ⟨.pointer (some ⟨ad.block,ad.off+n.toNat*i.size,some 7⟩),[],[]⟩else none
    |none=>none)
   |_=>none)else none
  |_,_=>none
 |.extract x i=>match fY look x with
  |.tuple vs=>(match vs[i]? with|some v=>some ⟨v,[],[]⟩|none=>none)
  |_=>none
 |.makeFunc f fi ca=>some ⟨.func f (((fi++ca).toList.map (fY look)).take fi.size).toArray (((fi++ca).toList.map (fY look)).drop fi.size).toArray,[],[]⟩
 |.call c=>match X6 look c with
  |some (n,t,_)=>(match P.underlying t with|some (.slice _)=>some ⟨.int .i64 n,[],[]⟩|_=>none)
  |none=>Mp P look o
 |_=>Mp P look o
def Az(look:Nat->Value)(o:Oper):Bool:=o.op.operands.toList.all (λx=>Mo x&&!lQ (fY look x))&&(match o.op with|.select _ _=>false|_=>true)
def Cb(g:Nat->Option Obj)(next:Nat)(e:qy):Prop:=(∀ p∈e.need,(∃ x,p.2=some x/\g p.1=some x)\/(p.2=none/\next<=p.1))/\∀ p∈e.cR,∃ q∈e.need,q.1=p.1
theorem Cc{a:Addr}(h:nh a=true):a=⟨a.block,a.off,some 7⟩:=by obtain⟨b,o,s⟩:=a;have:=Je h;dsimp only at this;subst this;rfl
theorem X7{P:Program}{B:aa}{look:Nat->Value}{g:Nat->Option Obj}{next:Nat}{o:Oper}{e:qy}(ay:Az look o=true)(h:qz P look g next o=some e):
  gY P B o (o.op.operands.toList.map (fY look)) e.need e.val e.cR/\Cb g next e:=by
 simp only[Az,db,bf]at ay;obtain⟨yn,X8⟩:=ay;have uh:Cb g next ⟨e.val,[],[]⟩:=⟨λp hp=>(by cases hp),λp hp=>(by cases hp)⟩;have X9:Mp P look o=some e->gY P B o (o.op.operands.toList.map (fY look)) e.need e.val e.cR/\Cb g next e:=by
  intro h;unfold Mp at h;split at h
  ·rename_i cN;rw[bf]at cN;split at h
   ·rename_i v hp;split at h
    ·rename_i Rm;injection h with h;subst h;refine⟨B8 (λv hv=>by obtain⟨x,hx,rfl⟩:=di.1 hv;exact cN x hx) Rm λρ fO w _=>?_,uh⟩;rw[execOp_congr (ρ:=ρ) (ρ':=fY look) o (λcs b e=>by rw[e]at X8;cases X8) (λx hx=>by obtain⟨j,hj⟩:=XX (Mq.2 hx);have:=cI (λl=>l[j]?) fO;simp only[Cd,hj,Rf]at this;injection this)]
     exact Rl hp w
    ·cases h
   ·cases h
  ·cases h
 cases bN:o.op with
 |move x=>
  simp only[qz,bN]at h;injection h with h;subst h;exact⟨XY (.inl bN),uh⟩
 |assign x=>
  simp only[qz,bN]at h;injection h with h;subst h;exact⟨XY (.inr bN),uh⟩
 |pick c x y=>
  simp only[qz,bN]at h;split at h
  ·rename_i b hb;injection h with h;subst h;refine⟨?_,uh⟩;have:=aGD (P:=P) (B:=B) bN (b:=b) (v1:=fY look x) (v2:=fY look y);rw[<-hb]at this;exact this
  ·cases h
 |alloc t=>
  simp only[qz,bN]at h;split at h
  ·rename_i i hi;split at h
   ·rename_i z hz;split at h
    ·rename_i Ya;injection h with h;subst h;exact⟨aGE bN hi hz Ya next,λp hp=>.inr (by simp at hp;subst hp;exact⟨rfl,bh _⟩),λp hp=>⟨_,aT ..,by simp at hp;subst hp;rfl⟩⟩
    ·cases h
   ·cases h
  ·cases h
 |box t x=>
  simp only[qz,bN]at h;injection h with h;subst h;exact⟨aGF bN _ next,λp hp=>.inr (by simp at hp;subst hp;exact⟨rfl,bh _⟩),λp hp=>⟨_,aT ..,by simp at hp;subst hp;rfl⟩⟩
 |load t x=>
  simp only[qz,bN]at h;split at h
  ·rename_i ad hx;split at h
   ·rename_i dH;split at h
    ·rename_i y hy;split at h
     ·rename_i El;split at h
      ·rename_i v hv;injection h with h;subst h;refine⟨?_,λp hp=>.inl ⟨y,by simp at hp;subst hp;exact⟨rfl,hy⟩⟩,λp hp=>(by cases hp)⟩;have:=XV (P:=P) (B:=B) bN (k:=ad.block) El hv;rw[<-Cc dH,<-hx]at this;exact this
      ·cases h
     ·cases h
    ·cases h
   ·cases h
  ·cases h
 |store t x y=>
  simp only[qz,bN]at h;split at h
  ·rename_i ad hx;split at h
   ·rename_i dH;split at h
    ·rename_i z hz;split at h
     ·rename_i hzo;split at h
      ·rename_i cs fX;injection h with h;subst h;refine⟨?_,λp hp=>.inl ⟨z,by simp at hp;subst hp;exact⟨rfl,hz⟩⟩,λp hp=>⟨_,aT ..,by simp at hp;subst hp;rfl⟩⟩;have:=XW (P:=P) (B:=B) bN (k:=ad.block) hzo fX;rw[<-Cc dH,<-hx]at this;exact this
      ·cases h
     ·cases h
    ·cases h
   ·cases h
  ·cases h
 |fieldAddr s x f=>
  simp only[qz,bN]at h;split at h
  ·rename_i ad hx;split at h
   ·rename_i dH;split at h
    ·rename_i fs hs;split at h
     ·rename_i fd vf;split at h
      ·rename_i i hi;split at h
       ·rename_i bA;injection h with h;subst h;refine⟨?_,uh⟩;have:=aGG (P:=P) (B:=B) bN hs vf hi (rm bA) ad.block ad.off;rw[<-Cc dH,<-hx]at this;exact this
       ·cases h
      ·cases h
     ·cases h
    ·cases h
   ·cases h
  ·cases h
 |indexAddr t x ix=>
  simp only[qz,bN]at h;split at h
  ·rename_i ad kd n hx AA;split at h
   ·rename_i dH;split at h
    ·rename_i len el ht;split at h
     ·rename_i i hi;split at h
      ·rename_i hr;injection h with h;subst h;refine⟨?_,uh⟩;have:=aGH (P:=P) (B:=B) bN ht hi (kd:=kd) hr.1 hr.2 ad.block ad.off;rw[<-Cc dH,<-hx,<-AA]at this;exact this
      ·cases h
     ·cases h
    ·cases h
   ·cases h
  ·rename_i ad len cc kd n hx AA;split at h
   ·rename_i dH;split at h
    ·rename_i el ht;split at h
     ·rename_i i hi;split at h
      ·rename_i hr;injection h with h;subst h;refine⟨?_,uh⟩;have:=X0 (P:=P) (B:=B) bN ht hi (kd:=kd) (cc:=cc) hr.1 hr.2 ad.block ad.off;rw[<-Cc dH,<-hx,<-AA]at this;exact this
      ·cases h
     ·cases h
    ·cases h
   ·cases h
  ·cases h
 |extract x i=>
  simp only[qz,bN]at h;split at h
  ·rename_i vs hx;split at h
   ·rename_i v hv;injection h with h;subst h;refine⟨?_,uh⟩;have:=aGI (P:=P) (B:=B) bN hv;rw[<-hx]at this;exact this
   ·cases h
  ·cases h
 |makeFunc f fi ca=>
  simp only[qz,bN]at h;injection h with h;subst h;exact⟨aGK bN,uh⟩
 |call c=>
  simp only[qz,bN]at h;split at h
  ·rename_i n t rest hl;obtain⟨x,ad,cc⟩:=rest;split at h
   ·rename_i el ht;injection h with h;subst h;refine⟨?_,uh⟩;unfold X6 at hl;split at hl
    ·rename_i x' t' hc ha mB;split at hl
     ·rename_i Yb n' bY hx;split at hl
      ·rename_i dH;injection hl with hl;injection hl with h1 hl;injection hl with h2 hl;injection hl with h3 hl;injection hl with h4 h5;subst h1;subst h2;subst h3;subst h4;subst h5;have ki:c={ callee:=.builtin .len,args:=#[x'],argTypes:=#[t']}:=by
        obtain⟨c1,c2,c3⟩:=c;dsimp only at hc ha mB;subst hc
        congr 1
        ·exact vh.1 ha
        ·exact vh.1 mB
       rw[ki]at bN ⊢;have:=aGL (P:=P) (B:=B) bN ht Yb.block Yb.off n' bY;rw[<-Cc dH,<-hx]at this;exact this
      ·cases hl
     ·cases hl
    ·cases hl
   ·cases h
  ·rw[<-bN];exact X9 h
 |_=>rw[<-bN];refine X9 ?_;simp only[qz,bN]at h;exact h
abbrev aV:=List (Nat×Value)
def bC:aV->Nat->Value
 |[],_=>Gz
 |(t,v)::l,s=>if Nat.beq t s then v else bC l s
def ag:aH->Nat->Option Obj
 |[],_=>none
 |(k,x)::l,j=>if Nat.beq k j then some x else ag l j
theorem j0{a b:Nat}(h:Nat.beq a b=true):a=b:=Ra h
theorem nW{a b:Nat}(h:a≠b):Nat.beq a b=false:=by
 cases hb:Nat.beq a b with
 |false=>rfl
 |true=>exact absurd (j0 hb) h
theorem vi(c:Nat->Option Obj):∀(l:aH) (k:Nat),ll c l k=match ag l k with|some x=>some x|none=>c k
 |[],k=>rfl
 |(j,x)::l,k=>by
  show(if k=j then some x else ll c l k)=match (if Nat.beq j k then some x else ag l k)with|some x=>some x|none=>c k
  by_cases h:k=j
  ·subst h;simp
  ·rw[ao h,nW (mA h)];exact vi c l k
theorem gM:∀(l m:aH) (k:Nat),ag (l++m) k=match ag l k with|some x=>some x|none=>ag m k
 |[],m,k=>rfl
 |(j,x)::l,m,k=>by
  show(if Nat.beq j k then some x else ag (l++m) k)=match (if Nat.beq j k then some x else ag l k)with|some x=>some x|none=>ag m k
  by_cases h:Nat.beq j k=true
  ·simp only[aw h]
  ·simp only[ao h];exact gM l m k
theorem j4:∀{l:aH} {k:Nat} {x:Obj},ag l k=some x->(k,x)∈l
 |(j,y)::l,k,x,h=>by
  unfold ag at h;split at h
  ·rename_i hb;injection h with h;rw[j0 hb,h];exact aT ..
  ·exact bB _ (j4 h)
def cS(c:Nat->Option Obj)(M:aH):Prop:=∀ k x,ag M k=some x->c k=some x
def eD(c:Nat->Option Obj)(next:Nat):Prop:=∀ k,next<=k->c k=none
inductive Ex where
 |normal
 |exit (id:Nat)
 |ret
def Ex.AB:Ex->Exit
 |.normal=>.normal
 |.exit id=>.exit id
 |.ret=>.ret
def wl:Code->List Nat
 |.region _ ops _=>ops.toList.filterMap (·.dst)
 |.seq x y=>wl x++wl y
 |.cond _ x y=>wl x++wl y
 |.block _ b=>wl b
 |.loop b=>wl b
 |.scope b=>wl b
 |.rangeFunc _ ps x y=>ps.toList++(wl x++wl y)
 |_=>[]
def ui(c:Code)(t:Nat):Bool:=(wl c).any λd=>Nat.beq d t
structure lZ where
 ex:Ex
 fr:aV
 M:aH
 next:Nat
def ah(P:Program)(B:aa)(N:Nat)(c:Code)(fr:aV)(M:aH)(next:Nat)(r:lZ):Prop:=
 ∀(R:Option Nat) (ι:Map) (cc:Nat->Option Obj) (a:Act) (w:World) (Q:Exit->Act->World->Prop),e9 B ι (bC fr) N a->aM B ι cc w->cS cc M->eD cc next->
  (∀ au bY a' w',Map.le ι au->e9 B au (bC r.fr) N a'->aM B au bY w'->cS bY r.M->eD bY r.next->(∀ k,k<next->ag M k=none->bY k=cc k)->(∀ t,ui c t=false->a'.tmps.getD t undef=a.tmps.getD t undef)->Q r.ex.AB a' w')->c.wpIn (FW R) 0 P Q a w
inductive aX(P:Program)(B:aa)(N:Nat) where
 |step (key:Nat) (o:Oper) (ew:aj) (need:List (Nat×Option Obj)) (val:Value) (cR:aH) (ok:cA P B o ew need val cR)
 |call (key:Nat) (f:FuncId) (args:aj) (res:Value) (ok:∀ w,B.G w->Calls P f args.toArray w λe w'=>e=.returned res/\Below w.heap.size w w')
 |rw(key:Nat) (v v':Value) (ok:v=v')
 |code (key:Nat) (c:Code) (fr:aV) (M:aH) (next:Nat) (r:lZ) (ok:ah P B N c fr M next r)
inductive nX where
 |ew (l:aj)
 |obj (x:Option Obj)
 |op (o:Oper)
 |code (c:Code)
 |nat (n:Nat)
def callee(look:Nat->Value)(o:Oper):Option (FuncId×aj):=
 match o.op with
 |.call c=>match c.callee with
  |.value x=>match fY look x with
   |.func (.func f) fi ca=>some (f,fi.toList++c.args.toList.map (fY look)++ca.toList)
   |_=>none
  |_=>none
 |_=>none
def gk(P:Program)(f:FuncId):Bool:=
 match P.funcs[f]? with
 | some fn => fn.body.isSome && !(fn.name == "runtime.NumGoroutine")
 |none=>false
def Mr(o:Oper):Nat:=match o.dst with
 |some t=>t
 |none=>match o.op with
  |.store _ (.tmp t) _=>100000+t
  |_=>99999
abbrev bE(P:Program)(B:aa)(N:Nat):=List (aX P B N)
abbrev vj:=List (nX×nX)
def Yc(next:Nat)(need:List (Nat×Option Obj)):Bool:=need.all λp=>match p.2 with|some _=>true|none=>Nat.ble next p.1
def Yd(cR:aH)(need:List (Nat×Option Obj)):Bool:=cR.all λp=>need.any λq=>Nat.beq q.1 p.1
def GF{P:Program}{B:aa}{N:Nat}(look:Nat->Value)(g:Nat->Option Obj)(next:Nat)(o:Oper)(rs:bE P B N):Option (qy×bE P B N×vj):=
 match qz P look g next o with
 |some e=>some (e,rs,[])
 |none=>none
def Ru{P:Program}{B:aa}{N:Nat}(look:Nat->Value)(g:Nat->Option Obj)(next:Nat)(o:Oper)(rs:bE P B N):Option (qy×bE P B N×vj):=
 if Az look o then
  match rs with
  |.step key o' ew need val cR _::wE=>
   if Nat.beq key (Mr o)then
    (if Yc next need&&Yd cR need then
     some (⟨val,cR,need⟩,wE,(.op o,.op o')::(.ew (o.op.operands.toList.map (fY look)),.ew ew)::need.filterMap λp=>match p.2 with|some x=>some (.obj (g p.1),.obj (some x))|none=>none)
    else none)
   else GF look g next o rs
  |.call key f args res _::wE=>
   if Nat.beq key (Mr o)then
    (match callee look o with
    |some (f',args')=>if gk P f&&args.all flat&&flat res then some (⟨res,[],[]⟩,wE,[(.nat f',.nat f),(.ew args',.ew args)])else none
    |none=>none)
   else GF look g next o rs
  |.rw key v v' _::wE=>
   if Nat.beq key (Mr o)then
    (match qz P look g next o with
    |some e=>some (⟨v',e.cR,e.need⟩,wE,[(.ew [e.val],.ew [v])])
    |none=>none)
   else GF look g next o rs
  |_=>GF look g next o rs
 else none
theorem Mt{P:Program}{f:FuncId}(h:gk P f=true)(args:Array Value)(w:World):(callFunc f args).run P w=.ok (.enter f args) w:=by
 unfold gk at h;split at h
 ·rename_i fn hf;simp only[db,AD]at h;obtain⟨c,hb⟩:=Option.isSome_iff_exists.1 h.1
  have h1 : fn.name ≠ "runtime.NumGoroutine" := by simpa using h.2
  simp[callFunc,hf,h1,hb]
 ·cases h
def rz(tr:vj):Prop:=∀ p∈tr,p.1=p.2
theorem Mu{R:Option Nat}{P:Program}{f:FuncId}{args:Array Value}{w:World}{Rs:Ending->World->Prop}{n:Nat}:CallsIn (FW R) n P f args w Rs↔Calls P f args w Rs:=
 (callsIn_wide (n:=n):CallsIn Fence.wide n P f args w Rs↔Calls P f args w Rs)
theorem aGS{P:Program}{B:aa}{look:Nat->Value}{o:Oper}{f:FuncId}{args:aj}{res:Value}(ay:Az look o=true)(hc:callee look o=some (f,args))(eG:gk P f=true)
  (de:∀ v∈args,flat v=true) (AE:flat res=true) (h:∀ w,B.G w->Calls P f args.toArray w λe w'=>e=.returned res/\Below w.heap.size w w') :
  cA P B o (o.op.operands.toList.map (fY look)) [] res []:=by
 intro R ι c a w hv hm hn K Q hK;obtain⟨dst,op,ty,pos,after,guard⟩:=o;unfold callee at hc;split at hc
 ·rename_i cl ho;dsimp only at ho;subst ho;split at hc
  ·rename_i x hx;split at hc
   ·rename_i f' fi ca gN;injection hc with hc;injection hc with gm dj;subst gm;obtain⟨cal,kV,wF⟩:=cl;dsimp only at hx dj;subst hx;have yn:(Op.operands (.call ⟨.value x,kV,wF⟩)).toList=x::kV.toList:=by simp[Op.operands,Call.operands]
    dsimp only at hv;rw[yn]at hv;cases hv with
    |cons hx ry=>
    rw[gN]at hx;obtain⟨kf,eY,he,h1,h2⟩:=hx.B6;have ba:=(h1.append ry).append h2;rw[dj]at ba;have e2:=nj ba de;have e3:execOp a.eval ⟨dst,.call ⟨.value x,kV,wF⟩,ty,pos,after,guard⟩=callFunc f' (kf++kV.map a.eval++eY):=by have:execOp a.eval ⟨dst,.call ⟨.value x,kV,wF⟩,ty,pos,after,guard⟩=(do let d <-Deferred.ofValue (a.eval x) (kV.map a.eval);invoke d.target d.args):=rfl;rw[this,he];rfl
    have e4:(kf++kV.map a.eval++eY:Array Value)=args.toArray:=by rw[<-e2];apply GG;simp
    refine⟨λ_ _=>trivial,?_⟩;rw[Me _ _ _ n_,e3,e4,Mt eG,Oper.uponIn_enter];refine⟨λe=>(by cases e),Mu.2 ((h w hm.base).mono ?_)⟩
    rintro e w' ⟨rfl,hb⟩
    exact hK ι res w' (Map.le.refl _) (.same AE) (hm.call hb)
   ·cases hc
  ·cases hc
 ·cases hc
theorem Rv{P:Program}{B:aa}{N:Nat}{look:Nat->Value}{g:Nat->Option Obj}{next:Nat}{o:Oper}{rs wE:bE P B N}{e:qy}{tr:vj}
  (h:Ru look g next o rs=some (e,wE,tr)) (hs:rz tr):Az look o=true/\cA P B o (o.op.operands.toList.map (fY look)) e.need e.val e.cR/\Cb g next e:=by
 unfold Ru at h;split at h
 ·rename_i ay;refine⟨ay,?_⟩;have auto:∀{rs:bE P B N},GF look g next o rs=some (e,wE,tr)->cA P B o (o.op.operands.toList.map (fY look)) e.need e.val e.cR/\Cb g next e:=by
   intro rs h;unfold GF at h;split at h
   ·rename_i e' he;injection h with h;injection h with h1 h2;subst h1;obtain⟨q1,q2⟩:=X7 (B:=B) ay he;exact⟨q1.step,q2⟩
   ·cases h
  split at h
  ·rename_i key o' ew need val cR ok Em;split at h
   ·split at h
    ·rename_i pO;injection h with h;injection h with h1 h;injection h with h2 h3;subst h1;subst h3;simp only[db]at pO;have e1:nX.op o=.op o':=hs _ (aT ..);have e2:nX.ew _=.ew ew:=hs _ (bB _ (aT ..));injection e1 with e1;injection e2 with e2;subst e1;rw[e2];refine⟨ok,λp hp=>?_,λp hp=>?_⟩
     ·have gm:=pO.1;unfold Yc at gm;rw[bf]at gm;have gZ:=gm p hp;cases wG:p.2 with
      |none=>rw[wG]at gZ;exact .inr ⟨rfl,rm gZ⟩
      |some x=>
       left;refine⟨x,rfl,?_⟩;have:nX.obj (g p.1)=.obj (some x):=hs _ (bB _ (bB _ (Ye.2 ⟨p,hp,by rw[wG]⟩)));injection this
     ·have dj:=pO.2;unfold Yd at dj;rw[bf]at dj;have:=dj p hp;rw[rC]at this;obtain⟨q,hq,hb⟩:=this;exact⟨q,hq,j0 hb⟩
    ·cases h
   ·exact auto h
  ·rename_i key f args res ok Em;split at h
   ·split at h
    ·rename_i f' args' hc;split at h
     ·rename_i pO;injection h with h;injection h with h1 h;injection h with h2 h3;subst h1;subst h3;simp only[db,bf]at pO;have e1:nX.nat f'=.nat f:=hs _ (aT ..);have e2:nX.ew args'=.ew args:=hs _ (bB _ (aT ..));injection e1 with e1;injection e2 with e2;subst e1;subst e2;exact⟨aGS ay hc pO.1.1 pO.1.2 pO.2 ok,λp hp=>(by cases hp),λp hp=>(by cases hp)⟩
     ·cases h
    ·cases h
   ·exact auto h
  ·rename_i key v v' ok Em;split at h
   ·split at h
    ·rename_i e' he;injection h with h;injection h with h1 h;injection h with h2 h3;subst h1;subst h3;have e1:nX.ew [e'.val]=.ew [v]:=hs _ (aT ..);injection e1 with e1;injection e1 with e1 _;obtain⟨q1,q2⟩:=X7 (B:=B) ay he;rw[e1,ok]at q1;exact⟨q1.step,q2⟩
    ·cases h
   ·exact auto h
  ·exact auto h
 ·cases h
def Jp(fr:aV)(d:Option Nat)(v:Value):aV:=match d with|some t=>(t,v)::fr|none=>fr
def Mv(fr:aV)(ops:Array Oper)(j:Nat):Option Bool:=
 match (ops[j]?).bind (·.dst)with
 |some t=>match bC fr t with|.bool b=>some b|_=>none
 |none=>none
def Ce(fr:aV)(ops:Array Oper)(o:Oper):Bool:=
 match o.guard with
 |none=>true
 |some (j,want)=>match Mv fr ops j with|some b=>b==want|none=>false
def Cf(N:Nat)(fr:aV)(ops:Array Oper)(o:Oper):Bool:=
 (match o.guard with
 |none=>true
 |some (j,_)=>match (ops[j]?).bind (·.dst)with|some t=>flat (bC fr t)&&!lQ (bC fr t)&&Nat.blt t N|none=>true)&&
 (match o.dst with|some d=>Nat.blt d N|none=>true)
theorem Rw(fr:aV)(d:Option Nat)(v:Value)(t:Nat):bC (Jp fr d v) t=if d=some t then v else bC fr t:=by
 cases d with
 |none=>rfl
 |some s=>
  show(if Nat.beq s t then v else bC fr t)=_;by_cases h:s=t
  ·subst h;simp
  ·rw[nW h];simp[h]
theorem e9.put{B:aa}{ι κ:Map}(hle:Map.le ι κ){look Yf:Nat->Value}{N:Nat}{a:Act}(h:e9 B ι look N a){v v':Value}(hv:ni κ v v')(d:Option Nat)(hd:∀ t,d=some t->t<N)
  (hl:∀ t,Yf t=if d=some t then v else look t):e9 B κ Yf N (a.put d v'):=by
 refine⟨by cases d<;>exact h.defers,by cases d<;>simp[Act.put,h.size],λt=>?_⟩;rw[hl t];by_cases En:d=some t
 ·rw[aw En];subst En;have:t<a.tmps.size:=by rw[h.size];exact hd t rfl
  have e:(a.put (some t) v').tmps.getD t undef=v':=by simp[Act.put,pQ,this]
  rw[e];exact hv
 ·rw[ao En];have e:(a.put d v').tmps.getD t undef=a.tmps.getD t undef:=by
   cases d with
   |none=>rfl
   |some s=>
    have:s≠t:=λe=>En (by rw[e]);simp[Act.put,pQ,Rx this]
  rw[e];exact(h.slot t).mono hle
theorem Ry(a:Act)(d:Option Nat)(v:Value){t:Nat}(h:d≠some t):(a.put d v).tmps.getD t undef=a.tmps.getD t undef:=by
 cases d with
 |none=>rfl
 |some s=>
  have:s≠t:=λe=>h (by rw[e]);simp[Act.put,pQ,Rx this]
theorem aGT{B:aa}{ι:Map}{look:Nat->Value}{fr:aV}{N:Nat}{a:Act}(h:e9 B ι look N a)(ops:Array Oper)(j:Nat)
  (hn:∀ t,(ops[j]?).bind (·.dst)=some t->look t=bC fr t/\flat (bC fr t)=true/\lQ (bC fr t)=false/\t<N):yielded ops a.tmps j=Mv fr ops j:=by
 unfold yielded Mv;cases hd:(ops[j]?).bind (·.dst)with
 |none=>rfl
 |some t=>
  simp only[Yg];obtain⟨h1,cN,h2,h3⟩:=hn t hd;have al:t<a.tmps.size:=by rw[h.size];exact h3
  have hs:=h.slot t;rw[h1]at hs;have hs:=(hs.As h2).eR cN;rw[show a.tmps.getD t undef=a.tmps[t]by simp[pQ,al]]at hs;rw[yr al,hs];cases bC fr t<;>rfl
theorem Yh{B:aa}{ι:Map}{look:Nat->Value}{fr:aV}{N:Nat}{a:Act}(h:e9 B ι look N a)(ops:Array Oper)(o:Oper)(hg:Cf N fr ops o=true)
  (hl:∀ j b,o.guard=some (j,b)->∀ t,(ops[j]?).bind (·.dst)=some t->look t=bC fr t):Region.wanted o (yielded ops a.tmps)=Ce fr ops o:=by
 unfold Region.wanted Ce;unfold Cf at hg;simp only[db]at hg;have hg:=hg.1;cases nY:o.guard with
 |none=>rfl
 |some gd=>
  obtain⟨j,want⟩:=gd;rw[nY]at hg;dsimp only at hg ⊢;rw[aGT h ops j λt ht=>by rw[ht]at hg;simp only[db,AD]at hg;exact⟨hl j want nY t ht,hg.1.1,hg.1.2,by simpa[AF]using hg.2⟩]
  cases Mv fr ops j with
  |none=>rfl
  |some b=>cases b<;>cases want<;>rfl
theorem Yi{N:Nat}{fr:aV}{ops:Array Oper}{o:Oper}(hg:Cf N fr ops o=true):∀ t,o.dst=some t->t<N:=by intro t ht;unfold Cf at hg;simp only[db]at hg;have:=hg.2;rw[ht]at this;simpa[AF]using this
def AG(next:Nat)(cR:aH):Nat:=cR.foldl (λn p=>if Nat.ble n p.1 then p.1+1 else n) next
theorem GH:∀(cR:aH) (next:Nat),next<=AG next cR
 |[],next=>bh _
 |p::l,next=>by
  show next<=AG (if Nat.ble next p.1 then p.1+1 else next) l;refine dh ?_ (GH l _);split
  ·rename_i h;have:=rm h;omega
  ·exact bh _
theorem Yj:∀(cR:aH) (next:Nat),∀ p∈cR,p.1<AG next cR
 |q::l,next,p,hp=>by
  show p.1<AG (if Nat.ble next q.1 then q.1+1 else next) l;rcases cy.1 hp with rfl|hp
  ·refine cx ?_ (GH l _);split
   ·omega
   ·rename_i h;rcases eC p.1 next with h1|h1
    ·exact h1
    ·exact absurd (Mw h1) h
  ·exact Yj l _ p hp
theorem Rz{cc:Nat->Option Obj}{M:aH}{next:Nat}{e:qy}(hn:Cb (ag M) next e)(ha:cS cc M)(hu:eD cc next):
  (∀ p∈e.need,cc p.1=p.2)/\cS (ll cc e.cR) (e.cR++M)/\eD (ll cc e.cR) (AG next e.cR)/\(∀ k,k<next->ag M k=none->ag (e.cR++M) k=none/\ll cc e.cR k=cc k):=by
 refine⟨λp hp=>?_,λk x hk=>?_,λk hk=>?_,λk hk hM=>?_⟩
 ·rcases hn.1 p hp with ⟨x,h1,h2⟩|⟨h1,h2⟩
  ·rw[h1];exact ha _ _ h2
  ·rw[h1];exact hu _ h2
 ·rw[gM]at hk;rw[vi];cases h:ag e.cR k with
  |some y=>rw[h]at hk;exact hk
  |none=>rw[h]at hk;exact ha k x hk
 ·rw[vi];cases h:ag e.cR k with
  |some y=>have:=Yj e.cR next _ (j4 h);dsimp only at this;omega
  |none=>exact hu k (dh (GH _ _) hk)
 ·have:ag e.cR k=none:=by
   cases h:ag e.cR k with
   |none=>rfl
   |some y=>
    exfalso;obtain⟨q,hq,wH⟩:=hn.2 _ (j4 h);dsimp only at wH;rcases hn.1 q hq with ⟨x,h1,h2⟩|⟨h1,h2⟩
    ·rw[wH,hM]at h2;cases h2
    ·omega
  exact⟨by rw[gM,this];exact hM,by rw[vi,this]⟩
structure qA(P:Program)(B:aa)(N:Nat) where
 fr:aV
 M:aH
 next:Nat
 rs:bE P B N
 tr:vj
 nk:List (List Nat×List Nat)
def keys{α:Type}(l:List (Nat×α)):List Nat:=l.map (·.1)
def qA.more{P:Program}{B:aa}{N:Nat}(r:qA P B N)(tr:vj)(e:List Nat×List Nat):qA P B N:=⟨r.fr,r.M,r.next,r.rs,tr++r.tr,e::r.nk⟩
def yt{P:Program}{B:aa}{N:Nat}(ops:Array Oper):List Oper->aV->aH->Nat->bE P B N->Option (qA P B N)
 |[],fr,M,next,rs=>some ⟨fr,M,next,rs,[],[]⟩
 |o::l,fr,M,next,rs=>
  if Cf N fr ops o then
   if Ce fr ops o then
    match Ru (P:=P) (bC fr) (ag M) next o rs with
    |some (e,Em,Eo)=>match yt ops l (Jp fr o.dst e.val) (e.cR++M) (AG next e.cR) Em with
     |some r=>some (r.more Eo (keys e.need,keys e.cR))
     |none=>none
    |none=>none
   else match yt ops l (Jp fr o.dst undef) M next rs with
    |some r=>some (r.more [] ([],[]))
    |none=>none
  else none
def wI(l:List Oper)(t:Nat):Bool:=l.any λo=>match o.dst with|some d=>Nat.beq d t|none=>false
theorem Yk{o:Oper}{l:List Oper}{t:Nat}(h:wI (o::l) t=false):o.dst≠some t/\wI l t=false:=by unfold wI at h;rw[List.any_cons,Mx]at h;refine⟨λe=>?_,h.2⟩;rw[e]at h;simp at h
def RA{P:Program}(B:aa)(N:Nat)(cc:Nat->Option Obj)(M:aH)(next:Nat)(ι:Map)(a:Act)(wr:Nat->Bool)(r:qA P B N)(K:Act->World->Prop):Prop:=
 ∀ au bY a' w',Map.le ι au->e9 B au (bC r.fr) N a'->aM B au bY w'->cS bY r.M->eD bY r.next->(∀ k,k<next->ag M k=none->bY k=cc k)->
  (∀ t,wr t=false->a'.tmps.getD t undef=a.tmps.getD t undef)->K a' w'
theorem RB{R:Option Nat}{P:Program}{B:aa}{N:Nat}{ops:Array Oper}{Q:Exit->Act->World->Prop}:∀(l:List Oper) {fr:aV} {M:aH} {next:Nat} {rs:bE P B N} {r:qA P B N} {ι:Map} {cc:Nat->Option Obj} {a:Act} {w:World},
  yt ops l fr M next rs=some r->rz r.tr->e9 B ι (bC fr) N a->aM B ι cc w->cS cc M->eD cc next->
  RA B N cc M next ι a (wI l) r (Q .normal)->wpListIn (FW R) 0 P ops Q l a w
 |[],fr,M,next,rs,r,ι,cc,a,w,h,_,hf,hm,ha,hu,hQ=>by injection h with h;subst h;exact hQ ι cc a w (Map.le.refl _) hf hm ha hu (λ_ _ _=>rfl) (λ_ _=>rfl)
 |o::l,fr,M,next,rs,r,ι,cc,a,w,h,hs,hf,hm,ha,hu,hQ=>by
  unfold yt at h;unfold wpListIn;by_cases nY:Cf N fr ops o=true
  case neg=>rw[ao nY]at h;cases h
  rw[aw nY]at h;have Cg:=Yi nY;rw[Yh hf ops o nY λ_ _ _ _ _=>rfl];split at h
  ·rename_i hw;rw[aw hw];split at h
   ·rename_i e Em Eo bJ;split at h
    ·rename_i r2 uj;injection h with h;subst h;have wJ:rz Eo:=λp hp=>hs p (dY.2 (.inl hp));have RC:rz r2.tr:=λp hp=>hs p (dY.2 (.inr hp));obtain⟨ay,vk,oE⟩:=Rv (B:=B) bJ wJ;simp only[Az,db,bf,AD]at ay;obtain⟨q1,q2,q3,q4⟩:=Rz oE ha hu;refine(vk R ι cc a w (Rt hf _ λx hx=>ay.1 x hx) hm q1 _ _ λau v' w' hle hv bj=>?_);refine RB l uj RC (hf.put hle (.inr hv) o.dst Cg λt=>Rw _ _ _ _) bj q2 q3 λdC rD a2 w2 kW iG dx hJ fq fF rE=>?_;refine hQ dC rD a2 w2 (hle.trans kW) iG dx hJ fq (λk hk hM=>?_) λt ht=>?_
     ·obtain⟨q5,q6⟩:=q4 k hk hM;rw[fF k (cx hk (GH _ _)) q5,q6]
     ·obtain⟨t1,t2⟩:=Yk ht;rw[rE t t2,Ry _ _ _ t1]
    ·cases h
   ·cases h
  ·rename_i hw;rw[ao hw];split at h
   ·rename_i r2 uj;injection h with h;subst h;refine⟨λ_ _=>trivial,?_⟩;refine RB l uj (λp hp=>hs p (dY.2 (.inr hp))) (hf.put (Map.le.refl _) (v:=undef) (v':=undef) (.inr (.same rfl)) o.dst Cg λt=>Rw _ _ _ _) hm ha hu λdC rD a2 w2 kW iG dx hJ fq fF rE=>?_;refine hQ dC rD a2 w2 kW iG dx hJ fq fF λt ht=>?_;obtain⟨t1,t2⟩:=Yk ht;rw[rE t t2,Ry _ _ _ t1]
   ·cases h
theorem aGU{R:Option Nat}{P:Program}{ops:Array Oper}{Q:Exit->Act->World->Prop}(Inv:(Nat->Bool)->Act->World->Prop)
  (aGV:∀ i o,ops[i]?=some o->∀ e∈o.after,Region.binds .any e=true->e.on<i)
  (step:∀ L a w i o,Inv L a w->ops[i]?=some o->L i=false->(∀ e∈o.after,Region.binds .any e=true->L e.on=true)->wpOpIn (FW R) 0 P ops Q i (λa' w'=>Inv (λj=>L j||j==i) a' w') a w)
  (fin:∀ L a w,(∀ i,i<ops.size->L i=true)->Inv L a w->Q .normal a w)
  (aGW:∀ L L' a w,(∀ j,L j=L' j)->Inv L a w->Inv L' a w) :
  ∀(fuel:Nat) (listed:Array Bool) (a:Act) (w:World),listed.size=ops.size->(listed.toList.countP (λb=>b=false))=fuel->Inv (λj=>listed.getD j false) a w->
   wpAnyIn (FW R) 0 P .any ops Q fuel listed a w:=by
 have aGX:∀ listed:Array Bool,listed.size=ops.size->Region.ready .any ops listed=[]->∀ i,i<ops.size->listed.getD i false=true:=by
  intro listed bA hr i;induction i using Nat.strongRecOn with
  |_ i ih=>
   intro hi;cases h:listed.getD i false with
   |true=>rfl
   |false=>
    exfalso;have:i∈Region.ready .any ops listed:=by
     rw[mem_ready];refine⟨?_,ops[i],yr hi,λe he hb=>?_⟩
     ·have hY:i<listed.size:=by omega
      simp[pQ,hY]at h ⊢;exact h
     ·have:=aGV i ops[i] (yr hi) e he hb;exact ih e.on this o_
    rw[hr]at this;cases this
 intro fuel;induction fuel with
 |zero=>
  intro listed a w bA hc hI;have ba:∀ i,i<ops.size->listed.getD i false=true:=by
   intro i hi;have hY:i<listed.size:=by omega
   have h0:=List.countP_eq_zero.1 hc listed[i] s_;simp[pQ,hY];simpa using h0
  refine⟨?_,fin _ a w ba hI⟩;cases hr:Region.ready .any ops listed with
  |nil=>rfl
  |cons i l=>
   have:i∈Region.ready .any ops listed:=by rw[hr];exact aT ..
   rw[mem_ready]at this;obtain⟨h1,o,ho,_⟩:=this;have hi:i<ops.size:=by
    rcases eC i ops.size with h|h
    ·exact h
    ·rw[Yl h]at ho;cases ho
   have h2:=ba i hi;have hY:i<listed.size:=by omega
   simp[pQ,hY]at h1 h2;rw[h1]at h2;cases h2
 |succ fuel ih=>
  intro listed a w bA hc hI;refine⟨λhr=>fin _ a w (aGX listed bA hr) hI,λi hi=>?_⟩;rw[mem_ready]at hi;obtain⟨h1,o,ho,ba⟩:=hi;have hi:i<ops.size:=by
   rcases eC i ops.size with h|h
   ·exact h
   ·rw[Yl h]at ho;cases ho
  have hY:i<listed.size:=by omega
  have pM:listed.getD i false=false:=by simp[pQ,hY]at h1 ⊢;exact h1
  refine wpOpIn_mono (λa' w' h=>?_) (step _ a w i o hI ho pM ba);refine ih (listed.setIfInBounds i true) a' w' (by simp[bA]) ?_ (aGW _ _ a' w' (λj=>?_) h)
  ·have al:i<listed.toList.length:=by simpa using hY
   have Jq:listed.toList[i]=false:=by simp[pQ,hY]at pM;simpa using pM
   rw[aGY];have key:∀(l:List Bool) (i:Nat) (h:i<l.length),l[i]=false->(l.set i true).countP (λb=>b=false)+1=l.countP (λb=>b=false):=by
    intro l;induction l with
    |nil=>intro i h;simp at h
    |cons b l ih=>
     intro i h hb;cases i with
     |zero=>simp at hb;subst hb;simp
     |succ i=>
      simp at hb h;have:=ih i h hb;simp only[List.set_cons_succ,List.countP_cons];omega
   have:=key listed.toList i al Jq;omega
  ·by_cases pc:j=i
   ·subst pc;simp[pQ,hY]
   ·have:(listed.setIfInBounds i true).getD j false=listed.getD j false:=by simp[pQ,Rx (mA pc)]
    rw[this];simp[pc]
def Jr(acc:List Nat)(o:Oper):Nat:=o.after.toList.foldl (λs e=>if Region.binds .any e then s||| (2^e.on||| acc.getD e.on 0)else s) 0
def Ch:List Oper->List Nat->List Nat
 |[],acc=>acc
 |o::l,acc=>Ch l (acc++[Jr acc o])
def Js(o:Oper):List Nat:=o.op.operands.toList.filterMap λ| .tmp t=>some t|_=>none
theorem Ym(acc:List Nat):∀(es:List Edge) (s j:Nat),(es.foldl (λs e=>if Region.binds .any e then s||| (2^e.on||| acc.getD e.on 0)else s) s).testBit j=true->
  s.testBit j=true\/∃ e∈es,Region.binds .any e=true/\(e.on=j\/(acc.getD e.on 0).testBit j=true)
 |[],s,j,h=>.inl h
 |e::es,s,j,h=>by
  rw[vl]at h;rcases Ym acc es _ j h with h|⟨e',uk,h⟩
  ·by_cases hb:Region.binds .any e=true
   ·rw[aw hb,Yn,Yn,Nat.testBit_two_pow]at h;simp only[um,sY]at h;rcases h with h|h|h
    ·exact .inl h
    ·exact .inr ⟨e,aT ..,hb,.inl h⟩
    ·exact .inr ⟨e,aT ..,hb,.inr h⟩
   ·rw[ao hb]at h;exact .inl h
  ·exact .inr ⟨e',bB _ uk,h⟩
def Yo(ops:List Oper)(acc:List Nat):Prop:=
 ∀ k,k<acc.length->∀ j,(acc.getD k 0).testBit j=true->∃ o,ops[k]?=some o/\∃ e∈o.after,Region.binds .any e=true/\(e.on=j\/(acc.getD e.on 0).testBit j=true)
theorem Yp:∀(l pre:List Oper) (acc:List Nat),acc.length=pre.length->Yo (pre++l) acc->
  (∀ i o,(pre++l)[i]?=some o->∀ e∈o.after,Region.binds .any e=true->e.on<i)->Yo (pre++l) (Ch l acc)/\(Ch l acc).length=(pre++l).length
 |[],pre,acc,hl,hg,_=>⟨hg,by simp[Ch,hl]⟩
 |o::l,pre,acc,hl,hg,hd=>by
  have e:pre++o::l=(pre++[o])++l:=by simp
  rw[e]at hg hd ⊢;refine Yp l (pre++[o]) (acc++[Jr acc o]) (by simp[hl]) ?_ hd;have cV:∀ k,k<acc.length->(acc++[Jr acc o]).getD k 0=acc.getD k 0:=λk hk=>by rw[Ep,Ep,GI hk]
  intro k hk j hj;rcases eC k acc.length with al|dM
  ·rw[cV k al]at hj;obtain⟨o',rF,e',uk,hb,h⟩:=hg k al j hj;refine⟨o',rF,e',uk,hb,?_⟩;rcases h with h|h
   ·exact .inl h
   ·right;have:e'.on<k:=hd k o' rF e' uk hb;rw[cV _ o_];exact h
  ·have gD:k=acc.length:=by simp at hk;omega
   subst gD;have ho:((pre++[o])++l)[acc.length]?=some o:=by rw[hl];simp
   have hm:(acc++[Jr acc o]).getD acc.length 0=Jr acc o:=by rw[Ep,Ci (bh _)];simp
   rw[hm]at hj;rcases Ym acc o.after.toList 0 j hj with h|⟨e',uk,hb,h⟩
   ·simp at h
   ·have uk:e'∈o.after:=Mq.1 uk;refine⟨o,ho,e',uk,hb,?_⟩;rcases h with h|h
    ·exact .inl h
    ·right;have:e'.on<acc.length:=hd acc.length o ho e' uk hb;rw[cV _ this];exact h
def gO{α:Type}(u:Nat->Nat->Option α)(c0:Nat->α)(L:Nat->Bool):Nat->Nat->α
 |0,k=>c0 k
 |i+1,k=>if L i then(match u i k with|some x=>x|none=>gO u c0 L i k)else gO u c0 L i k
theorem Yq{α:Type}(u:Nat->Nat->Option α)(c0:Nat->α)(L:Nat->Bool)(i k:Nat):gO u c0 L (i+1) k=if L i then(match u i k with|some x=>x|none=>gO u c0 L i k)else gO u c0 L i k:=rfl
theorem RD{α:Type}{u:Nat->Nat->Option α}{c0:Nat->α}{L:Nat->Bool}{k i:Nat}:∀(n:Nat),i<=n->(∀ j,j<n->u j k≠none->(L j=true↔j<i))->gO u c0 L n k=gO u c0 (λ_=>true) i k:=by
 have below:∀ m,m<=i->(∀ j,j<m->u j k≠none->L j=true)->gO u c0 L m k=gO u c0 (λ_=>true) m k:=by
  intro m;induction m with
  |zero=>intro _ _;rfl
  |succ m ih=>
   intro hm h;show(if L m then _ else _)=(if true then _ else _);have ih:=ih o_ λj hj=>h j o_;cases hu:u m k with
   |none=>simp only[ih];simp
   |some x=>rw[h m o_ (by rw[hu];exact n_)];rfl
 intro n;induction n with
 |zero=>
  intro hi _;have:i=0:=by omega
  subst this;rfl
 |succ n ih=>
  intro hi h;rcases eC n i with al|dM
  ·have:i=n+1:=by omega
   subst this;exact below (n+1) (bh _) λj hj hu=>(h j hj hu).2 hj
  ·have ih:=ih dM λj hj=>h j o_;show(if L n then _ else _)=_;cases hu:u n k with
   |none=>simp only[ih];simp
   |some x=>
    have:L n=false:=by
     cases hL:L n with
     |false=>rfl
     |true=>have:=(h n o_ (by rw[hu];exact n_)).1 hL;omega
    rw[this,ih];rfl
theorem Yr{α:Type}{u:Nat->Nat->Option α}{c0:Nat->α}{L:Nat->Bool}{i k:Nat}{m:Nat}(hi:L i=false)(hk:∀ j,j<m->i<j->L j=true->u i k≠none->u j k=none):
  ∀(n:Nat),n<=m->i<n->gO u c0 (λj=>L j||j==i) n k=match u i k with|some x=>x|none=>gO u c0 L n k:=by
 have before:∀ m,m<=i->gO u c0 (λj=>L j||j==i) m k=gO u c0 L m k:=by
  intro m;induction m with
  |zero=>intro _;rfl
  |succ m ih=>
   intro hm;show(if(L m||m==i)then _ else _)=(if L m then _ else _);rw[ih o_];have:(m==i)=false:=by simp;omega
   rw[this,Bool.or_false]
 intro n;induction n with
 |zero=>intro _ h;omega
 |succ n ih=>
  intro lv h;show(if(L n||n==i)then(match u n k with|some x=>x|none=>gO u c0 (λj=>L j||j==i) n k)else gO u c0 (λj=>L j||j==i) n k)=match u i k with|some x=>x|none=>(if L n then(match u n k with|some x=>x|none=>gO u c0 L n k)else gO u c0 L n k)
  rcases eC i n with al|dM
  ·rw[ih o_ al];have e:(n==i)=false:=by simp;omega
   rw[e,Bool.or_false];cases hL:L n with
   |false=>simp
   |true=>
    cases hu:u i k with
    |none=>rfl
    |some x=>rw[hk n o_ al hL (by rw[hu];exact n_)];rfl
  ·have:i=n:=by omega
   subst this;rw[before i (bh _),hi];simp
def My(ops:List Oper)(o:Oper):List Nat:=match o.guard with
 |some (j,_)=>match (ops[j]?).bind (·.dst)with|some t=>[t]|none=>[]
 |none=>[]
def RE(ops:List Oper)(o:Oper)(t:Nat):Bool:=(Js o++My ops o).any λs=>Nat.beq s t
def Mz(l m:List Nat):Bool:=l.any λa=>m.any λb=>Nat.beq a b
def wK(ops:List Oper)(o:Oper)(e:List Nat×List Nat)(p:Oper)(f:List Nat×List Nat):Bool:=
 (match p.dst with|some t=>RE ops o t||(match o.dst with|some d=>Nat.beq d t|none=>false)|none=>false)||Mz f.2 e.1
def Er(ops:List Oper)(nk:List (List Nat×List Nat)):Bool:=
 (List.range ops.length).all λi=>match ops[i]?,nk[i]? with
  |some o,some e=>(o.after.toList.all λg=>!Region.binds .any g||Nat.blt g.on i)&&
   (List.range i).all λj=>Nat.testBit ((Ch ops []).getD i 0) j||(match ops[j]?,nk[j]? with|some p,some f=>!wK ops o e p f&&!wK ops p f o e|_,_=>false)
  |_,_=>false
section
variable{P:Program}{B:aa}{N:Nat}{ops:Array Oper}
structure RF(P:Program)(B:aa)(N:Nat)(ops:Array Oper)(l:List Oper)(fr:aV)(M:aH)(next:Nat)(r:qA P B N) where
 rG:Nat->aV
 Ms:Nat->aH
 AH:Nat->Nat
 es:Nat->qy
 Ys:rG 0=fr
 RG:Ms 0=M
 RH:AH 0=next
 Yt:rG l.length=r.fr
 Yu:Ms l.length=r.M
 Yv:AH l.length=r.next
 nk:∀ i,i<l.length->r.nk[i]?=some (keys (es i).need,keys (es i).cR)
 step:∀ i o,l[i]?=some o->Cf N (rG i) ops o=true/\rG (i+1)=Jp (rG i) o.dst (es i).val/\Ms (i+1)=(es i).cR++Ms i/\AH (i+1)=AG (AH i) (es i).cR/\Cb (ag (Ms i)) (AH i) (es i)/\
  ((Ce (rG i) ops o=true/\Az (bC (rG i)) o=true/\cA P B o (o.op.operands.toList.map (fY (bC (rG i)))) (es i).need (es i).val (es i).cR)\/(Ce (rG i) ops o=false/\es i=⟨undef,[],[]⟩))
theorem RJ:∀(l:List Oper) {fr:aV} {M:aH} {next:Nat} {rs:bE P B N} {r:qA P B N},yt ops l fr M next rs=some r->rz r.tr->Nonempty (RF P B N ops l fr M next r)
 |[],fr,M,next,rs,r,h,_=>by injection h with h;subst h;exact⟨⟨λ_=>fr,λ_=>M,λ_=>next,λ_=>⟨undef,[],[]⟩,rfl,rfl,rfl,rfl,rfl,rfl,λi hi=>by simp at hi,λi o h=>by simp at h⟩⟩
 |o::l,fr,M,next,rs,r,h,hs=>by
  unfold yt at h;by_cases nY:Cf N fr ops o=true
  case neg=>rw[ao nY]at h;cases h
  rw[aw nY]at h;have build:∀(e:qy) (r2:qA P B N) (tr:vj),r=r2.more tr (keys e.need,keys e.cR)->Cb (ag M) next e->Nonempty (RF P B N ops l (Jp fr o.dst e.val) (e.cR++M) (AG next e.cR) r2)->
    ((Ce fr ops o=true/\Az (bC fr) o=true/\cA P B o (o.op.operands.toList.map (fY (bC fr))) e.need e.val e.cR)\/(Ce fr ops o=false/\e=⟨undef,[],[]⟩))->Nonempty (RF P B N ops (o::l) fr M next r):=by
   rintro e r2 tr rfl aU ⟨T⟩ bJ
   refine⟨⟨λi=>match i with|0=>fr|i+1=>T.rG i,λi=>match i with|0=>M|i+1=>T.Ms i,λi=>match i with|0=>next|i+1=>T.AH i,λi=>match i with|0=>e|i+1=>T.es i,rfl,rfl,rfl,T.Yt,T.Yu,T.Yv,λi hi=>?_,λi o' ho=>?_⟩⟩
   ·cases i with
    |zero=>rfl
    |succ i=>exact T.nk i (by simpa using hi)
   ·cases i with
    |zero=>
     simp at ho;subst ho;exact⟨nY,T.Ys,T.RG,T.RH,aU,bJ⟩
    |succ i=>exact T.step i o' (by simpa using ho)
  split at h
  ·rename_i hw;split at h
   ·rename_i e Em Eo bJ;split at h
    ·rename_i r2 uj;injection h with h;have pd:rz Eo/\rz r2.tr:=by subst h;exact⟨λp hp=>hs p (dY.2 (.inl hp)),λp hp=>hs p (dY.2 (.inr hp))⟩
     obtain⟨ay,vk,oE⟩:=Rv (B:=B) bJ pd.1;exact build e r2 Eo h.symm oE (RJ l uj pd.2) (.inl ⟨hw,ay,vk⟩)
    ·cases h
   ·cases h
  ·rename_i hw;split at h
   ·rename_i r2 uj;injection h with h;have pd:rz r2.tr:=by subst h;exact λp hp=>hs p (dY.2 (.inr hp))
    exact build ⟨undef,[],[]⟩ r2 [] h.symm ⟨λp hp=>(by cases hp),λp hp=>(by cases hp)⟩ (RJ l uj pd) (.inr ⟨by simpa using hw,rfl⟩)
   ·cases h
def MA(ops:List Oper)(L:Nat->Bool):Prop:=∀ i o,ops[i]?=some o->L i=true->∀ e∈o.after,Region.binds .any e=true->L e.on=true
theorem GJ{α:Type}{l:List α}{i:Nat}{x:α}(h:l[i]?=some x):i<l.length:=by
 rcases eC i l.length with h1|h1
 ·exact h1
 ·rw[Av h1]at h;cases h
theorem RK{l:List Oper}{nk:List (List Nat×List Nat)}(h:Er l nk=true){i:Nat}{o:Oper}(ho:l[i]?=some o):∀ e∈o.after,Region.binds .any e=true->e.on<i:=by
 intro e he hb;unfold Er at h;rw[bf]at h;have:=h i (j5.2 (GJ ho));rw[ho]at this;split at this
 ·rename_i o' e' h1 h2;injection h1 with h1;subst h1;simp only[db,bf]at this;have:=this.1 e (Mq.2 he);rw[hb]at this;simpa[AF]using this
 ·cases this
theorem Yw{l:List Oper}{nk:List (List Nat×List Nat)}(h:Er l nk=true){i j:Nat}{o p:Oper}{e f:List Nat×List Nat}(ho:l[i]?=some o)(he:nk[i]?=some e)(hp:l[j]?=some p)(hf:nk[j]?=some f)(hj:j<i):
  ((Ch l []).getD i 0).testBit j=true\/(wK l o e p f=false/\wK l p f o e=false):=by
 unfold Er at h;rw[bf]at h;have:=h i (j5.2 (GJ ho));rw[ho,he]at this;dsimp only at this;simp only[db,bf]at this;have:=this.2 j (j5.2 hj);rw[hp,hf]at this;simpa using this
theorem Yx{l:List Oper}{nk:List (List Nat×List Nat)}(h:Er l nk=true){L:Nat->Bool}(hL:MA l L):∀(i:Nat) (o:Oper),l[i]?=some o->(∀ e∈o.after,Region.binds .any e=true->L e.on=true)->
  ∀ j,((Ch l []).getD i 0).testBit j=true->L j=true/\j<i:=by
 obtain⟨hg,hlen⟩:=Yp l [] [] rfl (λk hk=>by simp at hk) (λi o ho e he hb=>RK h (by simpa using ho) e he hb);simp only[jo]at hg hlen;intro i;induction i using Nat.strongRecOn with
 |_ i ih=>
  intro o ho hd j hj;have hi:i<(Ch l []).length:=by rw[hlen];exact GJ ho
  obtain⟨o',rF,e,he,hb,kX⟩:=hg i hi j hj;rw[ho]at rF;injection rF with rF;subst rF;have al:=RK h ho e he hb;have Yy:=hd e he hb;rcases kX with rfl|kX
  ·exact⟨Yy,al⟩
  ·have aGZ:e.on<l.length:=by
    have:i<l.length:=by rw[<-hlen];exact hi
    omega
   have Yz:=bd aGZ;obtain⟨h1,h2⟩:=ih e.on al _ Yz (λe' uk jz=>hL e.on _ Yz Yy e' uk jz) j kX;exact⟨h1,by omega⟩
theorem YA{l m:List Nat}{a:Nat}(h1:a∈l)(h2:a∈m):Mz l m=true:=by unfold Mz;rw[rC];refine⟨a,h1,?_⟩;rw[rC];exact⟨a,h2,by simp⟩
theorem aG0{l:List Oper}{o:Oper}{t:Nat}(h:t∈Js o++My l o):RE l o t=true:=by unfold RE;rw[rC];exact⟨t,h,by simp⟩
theorem RL{α:Type}{l:List (Nat×α)}{p:Nat×α}(h:p∈l):p.1∈keys l:=di.2 ⟨p,h,rfl⟩
theorem aG1{o:Oper}{t:Nat}(h:Operand.tmp t∈o.op.operands):t∈Js o:=by unfold Js;exact Ye.2 ⟨.tmp t,Mq.2 h,rfl⟩
def uS(ops:List Oper)(es:Nat->qy)(j t:Nat):Option Value:=match (ops[j]?).bind (·.dst)with|some d=>if d=t then some (es j).val else none|none=>none
def uM(es:Nat->qy)(j k:Nat):Option (Option Obj):=match ag (es j).cR k with|some x=>some (some x)|none=>none
theorem YB{es:Nat->qy}{i:Nat}{c:Nat->Option Obj}(k:Nat):ll c (es i).cR k=match uM es i k with|some x=>x|none=>c k:=by rw[vi];unfold uM;cases ag (es i).cR k<;>rfl
theorem RM{es:Nat->qy}{i k:Nat}(h:uM es i k≠none):k∈keys (es i).cR:=by
 unfold uM at h;cases hk:ag (es i).cR k with
 |none=>rw[hk]at h;exact absurd rfl h
 |some x=>exact RL (j4 hk)
theorem RO{l:List Oper}{es:Nat->qy}{j t:Nat}(h:uS l es j t≠none):∃ p,l[j]?=some p/\p.dst=some t:=by
 unfold uS at h;cases hp:l[j]? with
 |none=>rw[hp]at h;exact absurd rfl h
 |some p=>
  rw[hp]at h;simp only[Yg]at h;cases hd:p.dst with
  |none=>rw[hd]at h;exact absurd rfl h
  |some d=>
   rw[hd]at h;dsimp only at h;by_cases En:d=t
   ·exact⟨p,rfl,by rw[hd,En]⟩
   ·rw[ao En]at h;exact absurd rfl h
theorem YC{l:List Oper}{es:Nat->qy}{j t:Nat}{p:Oper}(hp:l[j]?=some p):uS l es j t=if p.dst=some t then some (es j).val else none:=by
 unfold uS;rw[hp];simp only[Yg];cases p.dst with
 |none=>rfl
 |some d=>by_cases h:d=t<;>simp[h]
theorem aG2{R:Option Nat}{fr:aV}{M:aH}{next:Nat}{rs:bE P B N}{r:qA P B N}{ι:Map}{cc:Nat->Option Obj}{Q:Exit->Act->World->Prop}{a:Act}{w:World}{id:Nat}(gv:P.follows .mixedOrders=true)
  (hs:yt ops ops.toList fr M next rs=some r) (Au:rz r.tr) (h:Er ops.toList r.nk=true) (hf:e9 B ι (bC fr) N a) (hm:aM B ι cc w) (ha:cS cc M) (hu:eD cc next)
  (hQ:RA B N cc M next ι a (wI ops.toList) r (Q .normal)):(Code.region id ops true).wpIn (FW R) 0 P Q a w:=by
 obtain⟨T⟩:=RJ _ hs Au;have yi:ops.size=ops.toList.length:=by simp
 have Jq:∀(i:Nat),ops[i]?=ops.toList[i]?:=λi=>by simp
 generalize hn:ops.toList.length=n at *
 -- the order of the text
 have text:∀ i,i<=n->(∀ t,bC (T.rG i) t=gO (uS ops.toList T.es) (bC fr) (λ_=>true) i t)/\cS (gO (uM T.es) cc (λ_=>true) i) (T.Ms i)/\eD (gO (uM T.es) cc (λ_=>true) i) (T.AH i)/\next<=T.AH i/\
   (∀ k,k<next->ag M k=none->ag (T.Ms i) k=none/\gO (uM T.es) cc (λ_=>true) i k=cc k):=by
  intro i;induction i with
  |zero=>intro _;exact⟨λt=>by rw[T.Ys];rfl,by rw[T.RG];exact ha,by rw[T.RH];exact hu,by rw[T.RH];exact bh _,λk _ hk=>⟨by rw[T.RG];exact hk,rfl⟩⟩
  |succ i ih=>
   intro hi;obtain⟨h1,h2,h3,h4,h5⟩:=ih o_;have ho:=bd (l:=ops.toList) (i:=i) o_;obtain⟨_,s2,s3,s4,s5,_⟩:=T.step i _ ho;obtain⟨q1,q2,q3,q4⟩:=Rz s5 h2 h3;have e:gO (uM T.es) cc (λ_=>true) (i+1)=ll (gO (uM T.es) cc (λ_=>true) i) (T.es i).cR:=funext λk=>by rw[YB,Yq];cases uM T.es i k<;>rfl
   refine⟨λt=>?_,by rw[s3,e];exact q2,by rw[s4,e];exact q3,by rw[s4];exact dh h4 (GH _ _),λk hk hM=>?_⟩
   ·rw[s2,Rw];rw[Yq,YC ho,h1 t];by_cases hd:(ops.toList[i]).dst=some t
    ·rw[aw hd,aw hd];rfl
    ·rw[ao hd,ao hd];rfl
   ·obtain⟨p1,p2⟩:=h5 k hk hM;obtain⟨p3,p4⟩:=q4 k o_ p1;exact⟨by rw[s3];exact p3,by rw[e,p4,p2]⟩
 -- which of two that wK has YD up
 have ordered:∀{L:Nat->Bool} (hL:MA ops.toList L) {i:Nat} {o:Oper},ops.toList[i]?=some o->L i=false->(∀ e∈o.after,Region.binds .any e=true->L e.on=true)->∀{j:Nat} {p:Oper},ops.toList[j]?=some p->j≠i->
   wK ops.toList o (keys (T.es i).need,keys (T.es i).cR) p (keys (T.es j).need,keys (T.es j).cR)=true\/wK ops.toList p (keys (T.es j).need,keys (T.es j).cR) o (keys (T.es i).need,keys (T.es i).cR)=true->(L j=true↔j<i):=by
  intro L hL i o ho Es MB j p hp pc sZ;have ei:=T.nk i (GJ ho);have ej:=T.nk j (GJ hp);rcases Et pc with al|s7
  ·rcases Yw h ho ei hp ej al with hb|⟨pR,gw⟩
   ·have:=(Yx h hL i o ho MB j hb).1;exact⟨λ_=>al,λ_=>this⟩
   ·rcases sZ with sZ|sZ
    ·rw[pR]at sZ;cases sZ
    ·rw[gw]at sZ;cases sZ
  ·rcases Yw h hp ej ho ei s7 with hb|⟨pR,gw⟩
   ·refine⟨λAJ=>?_,λal=>by omega⟩;have:=(Yx h hL j p hp (λe he Eu=>hL j p hp AJ e he Eu) i hb).1;rw[Es]at this;cases this
   ·rcases sZ with sZ|sZ
    ·rw[gw]at sZ;cases sZ
    ·rw[pR]at sZ;cases sZ
 have YE:∀{α:Type} (u:Nat->Nat->Option α) (c0:Nat->α) (L:Nat->Bool) (k:Nat),(∀ j,L j=false)->∀ m,gO u c0 L m k=c0 k:=by
  intro α u c0 L k hL m;induction m with
  |zero=>rfl
  |succ m ih=>show(if L m then _ else _)=_;rw[hL m,ih];rfl
 have aUu:∀{α:Type} (u:Nat->Nat->Option α) (c0:Nat->α) (L L':Nat->Bool) (k:Nat),(∀ j,L j=L' j)->∀ m,gO u c0 L m k=gO u c0 L' m k:=by intro α u c0 L L' k hL m;rw[show L=L' from funext hL]
 refine wpIn_region_any gv (aGU (λL a' w'=>∃ au,Map.le ι au/\e9 B au (gO (uS ops.toList T.es) (bC fr) L n) N a'/\MA ops.toList L/\aM B au (gO (uM T.es) cc L n) w'/\(∀ t,wI ops.toList t=false->a'.tmps.getD t undef=a.tmps.getD t undef))
  (λi o ho e he hb=>RK h (by rw[<-Jq];exact ho) e he hb) ?_ ?_ ?_ ops.size _ a _ s_ (by simp[List.countP_replicate]) ?_)
 ·-- one operation
  rintro L a' w' i o ⟨au,hle,mC,iH,wL,yu⟩ ho Es MB
  have rF:ops.toList[i]?=some o:=by rw[<-Jq];exact ho
  have ct:i<n:=by rw[<-hn];exact GJ rF
  obtain⟨t1,t2,t3,t4,t5⟩:=text i o_;obtain⟨s1,s2,s3,s4,s5,s6⟩:=T.step i o rF;have ord:=λ{j:Nat} {p:Oper}=>ordered iH rF Es MB (j:=j) (p:=p)
  -- the jA that it looks at
  have slot:∀ t,t∈Js o++My ops.toList o->gO (uS ops.toList T.es) (bC fr) L n t=bC (T.rG i) t:=by
   intro t ht;rw[t1 t];refine RD n o_ λj hj hu=>?_;obtain⟨p,hp,GK⟩:=RO hu;by_cases pc:j=i
   ·subst pc;rw[Es];exact⟨λe=>(by cases e),λe=>o_⟩
   ·refine ord hp pc (.inl ?_);unfold wK;rw[GK];simp only[aG0 ht,GL]
  have marks:∀ p∈(T.es i).need,gO (uM T.es) cc L n p.1=p.2:=by
   intro q hq;rw[<-(Rz s5 t2 t3).1 q hq];refine RD n o_ λj hj hu=>?_;have hk:=RM hu;by_cases pc:j=i
   ·subst pc;rw[Es];exact⟨λe=>(by cases e),λe=>o_⟩
   ·have hp:=bd (l:=ops.toList) (i:=j) o_;refine ord hp pc (.inl ?_);unfold wK;rw[YA hk (RL hq),Bool.or_true]
  -- what stands behind it
  have YF:MA ops.toList (λj=>L j||j==i):=by
   intro k p hp vm e he hb;simp only[um,beq_iff_eq]at vm ⊢;rcases vm with vm|rfl
   ·exact .inl (iH k p hp vm e he hb)
   ·rw[rF]at hp;injection hp with hp;subst hp;exact .inl (MB e he hb)
  have YG:∀ t,gO (uS ops.toList T.es) (bC fr) (λj=>L j||j==i) n t=if o.dst=some t then(T.es i).val else gO (uS ops.toList T.es) (bC fr) L n t:=by
   intro t;rw[Yr (i:=i) (m:=n) Es (λj RQ hj AJ hu=>?_) n (bh _) ct,YC rF]
   ·by_cases hd:o.dst=some t<;>simp[hd]
   ·obtain⟨q,hq,hqd⟩:=RO hu;rw[rF]at hq;injection hq with hq;subst hq;apply hZ;intro aU;obtain⟨p,hp,GK⟩:=RO aU;have:=(ord hp o_ (.inl (by unfold wK;rw[GK,hqd];simp))).1 AJ;omega
  have YH:gO (uM T.es) cc (λj=>L j||j==i) n=ll (gO (uM T.es) cc L n) (T.es i).cR:=by
   funext k
   rw[Yr (i:=i) (m:=n) Es (λj RQ hj AJ hu=>?_) n (bh _) ct,YB]
   ·cases uM T.es i k<;>rfl
   ·apply hZ;intro aU;have hp:=bd (l:=ops.toList) (i:=j) o_;have hk:=RM aU;have fF:=RM hu;obtain⟨q,hq,wH⟩:=di.1 fF;obtain⟨q2,nq,aG3⟩:=s5.2 q hq;have:=(ord hp o_ (.inl (by unfold wK;rw[YA hk (by rw[<-wH,<-aG3];exact RL nq),Bool.or_true]))).1 AJ;omega
  have other:∀ v,∀ t,wI ops.toList t=false->(a'.put o.dst v).tmps.getD t undef=a.tmps.getD t undef:=by intro v t ht;rw[Ry _ _ _ λhd=>?_,yu t ht];unfold wI at ht;rw[Jt]at ht;have:=ht o (cQ rF);rw[hd]at this;simp at this
  have Cg:=Yi s1;have aG4:Region.wanted o (yielded ops a'.tmps)=Ce (T.rG i) ops o:=by refine Yh mC ops o s1 λj b hg t ht=>slot t (dY.2 (.inr ?_));unfold My;rw[hg];dsimp only;rw[<-Jq,ht];exact aT ..
  unfold wpOpIn;rw[ho];dsimp only;rw[aG4];rcases s6 with ⟨hw,ay,vk⟩|⟨hw,he⟩
  ·rw[aw hw];simp only[Az,db,bf,AD]at ay;have Ev:∀ x∈o.op.operands.toList,fY (gO (uS ops.toList T.es) (bC fr) L n) x=fY (bC (T.rG i)) x:=by
    intro x hx;cases x with
    |tmp t=>exact slot t (dY.2 (.inl (aG1 (Mq.1 hx))))
    |_=>rfl
   have YI:=Rt mC o.op.operands.toList (λx hx=>by rw[Ev x hx];exact ay.1 x hx);rw[yv Ev]at YI;refine vk R au _ a' w' YI wL marks _ _ λdC v2 w2 kW iw dx=>?_;exact⟨dC,hle.trans kW,mC.put kW (.inr iw) o.dst Cg YG,YF,by rw[YH];exact dx,other v2⟩
  ·rw[ao (by rw[hw];decide)];refine⟨λ_ _=>trivial,?_⟩;refine⟨au,hle,mC.put (Map.le.refl _) (v':=undef) (.inr (by rw[he];exact .same rfl)) o.dst Cg YG,YF,by rw[YH,he];exact wL,other undef⟩
 ·-- all have YD up
  rintro L a' w' ba ⟨au,hle,mC,iH,wL,yu⟩
  obtain⟨t1,t2,t3,t4,t5⟩:=text n (bh _);have eN:∀{α:Type} (u:Nat->Nat->Option α) (c0:Nat->α),gO u c0 L n=gO u c0 (λ_=>true) n:=λu c0=>funext λk=>
   RD n (bh _) λj hj _=>⟨λ_=>hj,λ_=>ba j o_⟩
  have e1:T.rG n=r.fr:=by rw[<-hn];exact T.Yt
  have e2:T.Ms n=r.M:=by rw[<-hn];exact T.Yu
  have e3:T.AH n=r.next:=by rw[<-hn];exact T.Yv
  rw[eN]at wL;refine hQ au _ a' w' hle ⟨mC.defers,mC.size,λt=>?_⟩ wL (by rw[<-e2];exact t2) (by rw[<-e3];exact t3) (λk hk hM=>(t5 k hk hM).2) yu;rw[<-e1,t1 t,<-eN];exact mC.slot t
 ·-- the numbers alone
  rintro L L' a' w' YJ ⟨au,hle,mC,iH,wL,yu⟩
  have e:L=L':=funext YJ;subst e;exact⟨au,hle,mC,iH,wL,yu⟩
 ·-- none has YD up
  have hL:∀ j,(Array.replicate ops.size false).getD j false=false:=λj=>by simp[pQ,Array.getElem?_replicate];split<;>rfl
  refine⟨ι,Map.le.refl _,⟨hf.defers,hf.size,λt=>?_⟩,λi o _ hi=>?_,?_,λ_ _=>rfl⟩
  ·rw[YE _ _ _ _ hL];exact hf.slot t
  ·have:=(hL i).symm.trans hi;cases this
  ·exact(hm.drew _ (yq _)).ext λk=>YE _ _ _ _ hL n
end
def Ew(M:aH)(ks:aH):aH:=M.filter λp=>match ag ks p.1 with|some _=>false|none=>true
theorem RR{ks:aH}:∀(M:aH) (k:Nat),ag (Ew M ks) k=match ag ks k with|some _=>none|none=>ag M k
 |[],k=>by cases h:ag ks k<;>simp[Ew,ag]
 |(j,x)::M,k=>by
  have ih:=RR (ks:=ks) M k;unfold Ew at ih ⊢;by_cases hj:j=k
  ·subst hj;cases h:ag ks j with
   |some y=>rw[h]at ih;rw[MC,ao (by simp[h])];exact ih
   |none=>rw[MC,aw (by simp[h])];simp[ag]
  ·have e:∀ M,ag ((j,x)::M) k=ag M k:=λM=>by show(if Nat.beq j k then _ else _)=_;rw[nW hj];rfl
   rw[e,<-ih];cases h:ag ks j with
   |some y=>rw[MC,ao (by simp[h])]
   |none=>rw[MC,aw (by simp[h]),e]
theorem aG5{cc bY:Nat->Option Obj}{M M0 M1:aH}{next:Nat}(ha:cS cc M)(hu:eD cc next)(h1:cS bY M1)(hk:∀ k,k<next->ag M0 k=none->bY k=cc k):cS bY (M1++Ew M M0):=by
 intro k x hx;rw[gM]at hx;cases h:ag M1 k with
 |some y=>rw[h]at hx;exact h1 k x (by rw[h];exact hx)
 |none=>
  rw[h]at hx;dsimp only at hx;rw[RR]at hx;cases h0:ag M0 k with
  |some y=>rw[h0]at hx;cases hx
  |none=>
   rw[h0]at hx;have hc:=ha k x hx;have:k<next:=by
    rcases eC k next with h|h
    ·exact h
    ·rw[hu k h]at hc;cases hc
   rw[hk k this h0];exact hc
structure jN(P:Program)(B:aa)(N:Nat) where
 ex:Ex
 fr:aV
 M:aH
 next:Nat
 rs:bE P B N
 tr:vj
section
variable{P:Program}{B:aa}{N:Nat}
def jN.more(r:jN P B N)(tr:vj):jN P B N:=⟨r.ex,r.fr,r.M,r.next,r.rs,tr++r.tr⟩
def jN.after(o:Option (jN P B N))(tr:vj):Option (jN P B N):=match o with|some r=>some (r.more tr)|none=>none
def jN.aG6(r:jN P B N)(e:Ex):jN P B N:=⟨e,r.fr,r.M,r.next,r.rs,r.tr⟩
def jN.out(r:jN P B N):lZ:=⟨r.ex,r.fr,r.M,r.next⟩
def Keys(M:aH)(next:Nat)(M':aH)(next':Nat):Prop:=next<=next'/\∀ k,k<next->ag M k=none->ag M' k=none
theorem Keys.refl(M:aH)(next:Nat):Keys M next M next:=⟨bh _,λ_ _ h=>h⟩
theorem Keys.trans{M M1 M2:aH}{n n1 n2:Nat}(h:Keys M n M1 n1)(k:Keys M1 n1 M2 n2):Keys M n M2 n2:=⟨dh h.1 k.1,λj hj hM=>k.2 j (cx hj h.1) (h.2 j hj hM)⟩
def MD(fr:aV)(M:aH)(next:Nat)(c:Code)(key:Nat)(rs:bE P B N):Option (jN P B N):=
 match rs with
 |.code YK c' Ju M0 RS r _::wE=>
  if Nat.beq YK key&&(Nat.ble next r.next&&r.M.all λp=>Nat.ble next p.1||(match ag M0 p.1 with|some _=>true|none=>false))then
   some ⟨r.ex,r.fr++((wl c).map λt=>(t,Gz))++fr,r.M++Ew M M0,r.next,wE,(.code c,.code c')::(.nat next,.nat RS)::(Ju.map λp=>(nX.ew [bC fr p.1],nX.ew [p.2]))++M0.map λp=>(nX.obj (ag M p.1),nX.obj (some p.2))⟩
  else none
 |_=>none
def aG7:Bool->List Oper->List (List Nat×List Nat)->Bool
 |true,ops,nk=>Er ops nk
 |false,_,_=>true
def iU:Nat->Code->aV->aH->Nat->bE P B N->Option (jN P B N)
 |0,_,_,_,_,_=>none
 |n+1,c,fr,M,next,rs=>
  match c with
  |.skip=>some ⟨.normal,fr,M,next,rs,[]⟩
  |.exit id=>some ⟨.exit id,fr,M,next,rs,[]⟩
  |.ret=>some ⟨.ret,fr,M,next,rs,[]⟩
  |.region id ops draw=>
   match MD fr M next (.region id ops draw) (200000+id) rs with
   |some r=>some r
   |none=>
    match yt ops ops.toList fr M next rs with
    |some r=>if aG7 draw ops.toList r.nk then some ⟨.normal,r.fr,r.M,r.next,r.rs,r.tr⟩else none
    |none=>none
  |.seq x y=>match iU n x fr M next rs with
   |some r=>match r.ex with
    |.normal=>jN.after (iU n y r.fr r.M r.next r.rs) r.tr
    |_=>some r
   |none=>none
  |.cond c x y=>match fY (bC fr) c with
   |.bool b=>if b then iU n x fr M next rs else iU n y fr M next rs
   |_=>none
  |.block id b=>
   match MD fr M next (.block id b) id rs with
   |some r=>some r
   |none=>match iU n b fr M next rs with
    |some r=>match r.ex with
     |.exit k=>some (r.aG6 (if Nat.beq k id then .normal else .exit k))
     |_=>some r
    |none=>none
  |.loop b=>match iU n b fr M next rs with
   |some r=>match r.ex with
    |.normal=>jN.after (iU n (.loop b) r.fr r.M r.next r.rs) r.tr
    |_=>some r
   |none=>none
  |_=>none
theorem YL{o:Option (jN P B N)}{tr:vj}{r:jN P B N}(h:jN.after o tr=some r):∃ r',o=some r'/\r=r'.more tr:=by
 cases o with
 |none=>cases h
 |some r'=>injection h with h;exact⟨r',rfl,h.symm⟩
theorem RT:∀(l m:aV) (t:Nat),(∃ v,(t,v)∈l/\bC (l++m) t=v/\bC l t=v)\/((∀ v,(t,v)∉l)/\bC (l++m) t=bC m t)
 |[],m,t=>.inr ⟨λv h=>(by cases h),rfl⟩
 |(s,v)::l,m,t=>by
  by_cases h:s=t
  ·subst h;exact .inl ⟨v,aT ..,by simp[bC],by simp[bC]⟩
  ·have e1:bC ((s,v)::l++m) t=bC (l++m) t:=by show(if Nat.beq s t then _ else _)=_;rw[nW h];rfl
   have e2:bC ((s,v)::l) t=bC l t:=by show(if Nat.beq s t then _ else _)=_;rw[nW h];rfl
   rcases RT l m t with ⟨u,h1,h2,h3⟩|⟨h1,h2⟩
   ·exact .inl ⟨u,bB _ h1,by rw[e1,h2],by rw[e2,h3]⟩
   ·refine .inr ⟨λu hu=>?_,by rw[e1,h2]⟩;rcases cy.1 hu with hu|hu
    ·injection hu with dK fq;exact h dK.symm
    ·exact h1 u hu
theorem aG8{c:Code}{t:Nat}(h:t∈wl c):ui c t=true:=by unfold ui;rw[rC];exact⟨t,h,by simp⟩
theorem ME{c:Code}{t:Nat}(h:ui c t=false):t∉wl c:=λhm=>by rw[aG8 hm]at h;cases h
theorem Jv{c:Code}{t:Nat}(h:t∉wl c):ui c t=false:=by
 cases hb:ui c t with
 |false=>rfl
 |true=>
  unfold ui at hb;rw[rC]at hb;obtain⟨d,hd,he⟩:=hb;exact absurd (j0 he▸hd) h
theorem aG9{ι au:Map}{c:Code}{fr AK:aV}{a a':Act}(hle:Map.le ι au)(hf:e9 B ι (bC fr) N a)(h1:e9 B au (bC AK) N a')(ht:∀ t,ui c t=false->a'.tmps.getD t undef=a.tmps.getD t undef):
  e9 B au (bC (AK++((wl c).map λt=>(t,Gz))++fr)) N a':=by
 refine⟨h1.defers,h1.size,λt=>?_⟩;rw[Ey];rcases RT AK (((wl c).map λt=>(t,Gz))++fr) t with ⟨v,_,h2,h3⟩|⟨_,h2⟩
 ·rw[h2,<-h3];exact h1.slot t
 ·rw[h2];rcases RT ((wl c).map λt=>(t,Gz)) fr t with ⟨v,hv,h3,_⟩|⟨hn,h3⟩
  ·obtain⟨s,_,he⟩:=di.1 hv;injection he with _ he;rw[h3,<-he];exact .inl rfl
  ·rw[h3,ht t (Jv λhm=>hn Gz (di.2 ⟨t,hm,rfl⟩))];exact(hf.slot t).mono hle
theorem YM{fr:aV}{M:aH}{next:Nat}{c:Code}{key:Nat}{rs:bE P B N}{r:jN P B N}(h:MD fr M next c key rs=some r)(hs:rz r.tr):ah P B N c fr M next r.out/\Keys M next r.M r.next:=by
 unfold MD at h;split at h
 ·rename_i YK c' Ju M0 RS r0 ok wE;split at h
  ·rename_i pO;injection h with h;subst h;simp only[db,bf,um]at pO;have e1:nX.code c=.code c':=hs _ (aT ..);have e2:nX.nat next=.nat RS:=hs _ (bB _ (aT ..));injection e1 with e1;injection e2 with e2;subst e1;subst e2;have e3:∀ p∈Ju,bC fr p.1=p.2:=λp hp=>by have:nX.ew [bC fr p.1]=.ew [p.2]:=hs _ (dY.2 (.inl (bB _ (bB _ (di.2 ⟨p,hp,rfl⟩)))));injection this with this;injection this
   have e4:∀ p∈M0,ag M p.1=some p.2:=λp hp=>by have:nX.obj (ag M p.1)=.obj (some p.2):=hs _ (dY.2 (.inr (di.2 ⟨p,hp,rfl⟩)));injection this
   refine⟨?_,rm pO.2.1,λk hk hM=>?_⟩;rotate_left
   ·show ag (r0.M++Ew M M0) k=none;rw[gM];have h1:ag r0.M k=none:=by
     cases h1:ag r0.M k with
     |none=>rfl
     |some x=>
      rcases pO.2.2 _ (j4 h1)with h2|h2
      ·have:=rm h2;dsimp only at this;omega
      ·dsimp only at h2;cases h0:ag M0 k with
       |none=>rw[h0]at h2;cases h2
       |some y=>have:=e4 _ (j4 h0);dsimp only at this;rw[hM]at this;cases this
    rw[h1];show ag (Ew M M0) k=none;rw[RR,hM];cases ag M0 k<;>rfl
   intro R ι cc a w Q hf hm ha hu hQ;have Ez:e9 B ι (bC Ju) N a:=⟨hf.defers,hf.size,λt=>by
    have:∀(l:aV),(∀ p∈l,bC fr p.1=p.2)->ni ι (bC l t) (a.tmps.getD t undef):=by
     intro l;induction l with
     |nil=>intro _;exact .inl rfl
     |cons p l ih=>
      intro hl;obtain⟨s,v⟩:=p;by_cases bJ:s=t
      ·subst bJ;have this:bC fr s=v:=hl _ (aT ..);have e:bC ((s,v)::l) s=v:=by simp[bC]
       rw[e,<-this];exact hf.slot s
      ·have e:bC ((s,v)::l) t=bC l t:=by show(if Nat.beq s t then _ else _)=_;rw[nW bJ];rfl
       rw[e];exact ih λp hp=>hl p (bB _ hp)
    exact this Ju e3⟩
   have oF:cS cc M0:=λk x hk=>ha k x (by have:=e4 _ (j4 hk);exact this);refine ok R ι cc a w Q Ez hm oF hu λau bY a' w' hle oG bj iW jM gD wM=>?_;refine hQ au bY a' w' hle (aG9 hle hf oG wM) bj (aG5 ha hu iW gD) jM (λk hk hM=>gD k hk ?_) wM;cases h0:ag M0 k with
   |none=>rfl
   |some x=>have:=e4 _ (j4 h0);dsimp only at this;rw[hM]at this;cases this
  ·cases h
 ·cases h
theorem RU{ops:Array Oper}:∀(l:List Oper) {fr:aV} {M:aH} {next:Nat} {rs:bE P B N} {r:qA P B N},yt ops l fr M next rs=some r->rz r.tr->Keys M next r.M r.next
 |[],fr,M,next,rs,r,h,_=>by injection h with h;subst h;exact Keys.refl _ _
 |o::l,fr,M,next,rs,r,h,hs=>by
  unfold yt at h;split at h
  ·split at h
   ·split at h
    ·rename_i e Em Eo bJ;split at h
     ·rename_i r2 uj;injection h with h;subst h;obtain⟨_,_,oE⟩:=Rv (B:=B) bJ (λp hp=>hs p (dY.2 (.inl hp)));have k2:=RU l uj λp hp=>hs p (dY.2 (.inr hp));refine Keys.trans (M1:=e.cR++M) (n1:=AG next e.cR) ⟨GH _ _,λk hk hM=>?_⟩ k2;rw[gM];cases h1:ag e.cR k with
      |none=>exact hM
      |some x=>
       exfalso;obtain⟨q,hq,wH⟩:=oE.2 _ (j4 h1);dsimp only at wH;rcases oE.1 q hq with ⟨y,h2,h3⟩|⟨h2,h3⟩
       ·rw[wH,hM]at h3;cases h3
       ·omega
     ·cases h
    ·cases h
   ·split at h
    ·rename_i r2 uj;injection h with h;subst h;have k2:=RU l uj λp hp=>hs p (dY.2 (.inr hp));exact k2
    ·cases h
  ·cases h
theorem aHa{x y:Code}{fr:aV}{M:aH}{next:Nat}{r1 r2:lZ}(h1:ah P B N x fr M next r1)(hn:r1.ex=.normal)(hk:Keys M next r1.M r1.next)(h2:ah P B N y r1.fr r1.M r1.next r2):ah P B N (.seq x y) fr M next r2:=by intro R ι cc a w Q hf hm ha hu hQ;refine lA (h1 R ι cc a w _ hf hm ha hu λbM gn a1 w1 jq fv cW eA dK ig jO=>?_);rw[hn];refine h2 R bM gn a1 w1 Q fv cW eA dK λdC rD a2 w2 kW iG dx hJ fq fF rE=>?_;refine hQ dC rD a2 w2 (jq.trans kW) iG dx hJ fq (λk mD hM=>by rw[fF k (cx mD hk.1) (hk.2 k mD hM),ig k mD hM]) λt ht=>?_;have Cj:t∉wl x++wl y:=ME ht;rw[rE t (Jv λh=>Cj (dY.2 (.inr h))),jO t (Jv λh=>Cj (dY.2 (.inl h)))]
theorem YN{x y:Code}{fr:aV}{M:aH}{next:Nat}{r1:lZ}(h1:ah P B N x fr M next r1)(hn:r1.ex≠.normal):ah P B N (.seq x y) fr M next r1:=by
 intro R ι cc a w Q hf hm ha hu hQ;refine lA (h1 R ι cc a w _ hf hm ha hu λbM gn a1 w1 jq fv cW eA dK ig jO=>?_);have:=hQ bM gn a1 w1 jq fv cW eA dK ig λt ht=>jO t (Jv λh=>(ME ht:t∉wl x++wl y) (dY.2 (.inl h)));cases hx:r1.ex with
 |normal=>exact absurd hx hn
 |exit id=>rw[hx]at this;exact this
 |ret=>rw[hx]at this;exact this
theorem bO{b:Code}{id:Nat}{fr:aV}{M:aH}{next:Nat}{r1:lZ}(h1:ah P B N b fr M next r1):
  ah P B N (.block id b) fr M next ⟨(match r1.ex with|.exit k=>if Nat.beq k id then .normal else .exit k|e=>e),r1.fr,r1.M,r1.next⟩:=by
 intro R ι cc a w Q hf hm ha hu hQ;refine Jw (h1 R ι cc a w _ hf hm ha hu λbM gn a1 w1 jq fv cW eA dK ig jO=>?_);have:=hQ bM gn a1 w1 jq fv cW eA dK ig jO;cases hx:r1.ex with
 |normal=>rw[hx]at this;exact this
 |ret=>rw[hx]at this;exact this
 |exit k=>
  rw[hx]at this;dsimp only at this;show(if k=id then Q .normal a1 w1 else Q (.exit k) a1 w1);by_cases hk:k=id
  ·rw[aw hk];subst hk;rw[show Nat.beq k k=true from EA k]at this;exact this
  ·rw[ao hk];rw[nW hk]at this;exact this
theorem RW(gv:P.follows .mixedOrders=true):∀(n:Nat),
  (∀(c:Code) (fr:aV) (M:aH) (next:Nat) (rs:bE P B N) (r:jN P B N),iU n c fr M next rs=some r->rz r.tr->ah P B N c fr M next r.out/\Keys M next r.M r.next)/\
  (∀(b:Code) (fr:aV) (M:aH) (next:Nat) (rs:bE P B N) (r:jN P B N),iU n (.loop b) fr M next rs=some r->rz r.tr->Keys M next r.M r.next/\∀(R:Option Nat) (ι:Map) (cc:Nat->Option Obj) (a:Act) (w:World) (Q:Exit->Act->World->Prop),e9 B ι (bC fr) N a->aM B ι cc w->cS cc M->eD cc next->(∀ au bY a' w',Map.le ι au->e9 B au (bC r.fr) N a'->aM B au bY w'->cS bY r.M->eD bY r.next->(∀ k,k<next->ag M k=none->bY k=cc k)->(∀ t,ui b t=false->a'.tmps.getD t undef=a.tmps.getD t undef)->Q r.ex.AB a' w')->Code.roundsIn (FW R) 0 P b Q n a w):=by
 intro n;induction n with
 |zero=>exact⟨λc fr M next rs r h=>by simp[iU]at h,λb fr M next rs r h=>by simp[iU]at h⟩
 |succ n ih=>
  obtain⟨wO,ihl⟩:=ih;have loop:∀(b:Code) (fr:aV) (M:aH) (next:Nat) (rs:bE P B N) (r:jN P B N),iU (n+1) (.loop b) fr M next rs=some r->rz r.tr->
   Keys M next r.M r.next/\∀(R:Option Nat) (ι:Map) (cc:Nat->Option Obj) (a:Act) (w:World) (Q:Exit->Act->World->Prop),e9 B ι (bC fr) N a->aM B ι cc w->cS cc M->eD cc next->
  (∀ au bY a' w',Map.le ι au->e9 B au (bC r.fr) N a'->aM B au bY w'->cS bY r.M->eD bY r.next->(∀ k,k<next->ag M k=none->bY k=cc k)->(∀ t,ui b t=false->a'.tmps.getD t undef=a.tmps.getD t undef)->Q r.ex.AB a' w')->Code.roundsIn (FW R) 0 P b Q (n+1) a w:=by
   intro b fr M next rs r h hs;simp only[iU]at h;cases hb:iU n b fr M next rs with
   |none=>rw[hb]at h;cases h
   |some r1=>
    rw[hb]at h;dsimp only at h;have out:r1.ex≠.normal->r=r1->_:=λaU (e:r=r1)=>by
     subst e;obtain⟨g1,k1⟩:=wO b fr M next rs r hb hs;refine(⟨k1,λR ι cc a w Q hf hm ha hu hQ=>?_⟩:Keys M next r.M r.next/\∀(R:Option Nat) (ι:Map) (cc:Nat->Option Obj) (a:Act) (w:World) (Q:Exit->Act->World->Prop),e9 B ι (bC fr) N a->aM B ι cc w->cS cc M->eD cc next->(∀ au bY a' w',Map.le ι au->e9 B au (bC r.fr) N a'->aM B au bY w'->cS bY r.M->eD bY r.next->(∀ k,k<next->ag M k=none->bY k=cc k)->(∀ t,ui b t=false->a'.tmps.getD t undef=a.tmps.getD t undef)->Q r.ex.AB a' w')->Code.roundsIn (FW R) 0 P b Q (n+1) a w);rw[EB];refine g1 R ι cc a w _ hf hm ha hu λbM gn a1 w1 jq fv cW eA dK ig jO=>?_;have:=hQ bM gn a1 w1 jq fv cW eA dK ig jO;show Exit.then _ Q r.ex.AB a1 w1;cases hx:r.ex with
     |normal=>exact absurd hx aU
     |exit id=>rw[hx]at this;exact this
     |ret=>rw[hx]at this;exact this
    cases hex:r1.ex with
    |normal=>
     rw[hex]at h;obtain⟨r2,h2,he⟩:=YL h;subst he;obtain⟨g1,k1⟩:=wO b fr M next rs r1 hb (λp hp=>hs p (dY.2 (.inl hp)));obtain⟨k2,g2⟩:=ihl b r1.fr r1.M r1.next r1.rs r2 h2 (λp hp=>hs p (dY.2 (.inr hp)));refine⟨k1.trans k2,λR ι cc a w Q hf hm ha hu hQ=>?_⟩;rw[EB];refine g1 R ι cc a w _ hf hm ha hu λbM gn a1 w1 jq fv cW eA dK ig jO=>?_;show Exit.then _ Q r1.ex.AB a1 w1;rw[hex];refine g2 R bM gn a1 w1 Q fv cW eA dK λdC rD a2 w2 kW iG dx hJ fq fF rE=>?_;exact hQ dC rD a2 w2 (jq.trans kW) iG dx hJ fq (λk mD hM=>(fF k (cx mD k1.1) (k1.2 k mD hM)).trans (ig k mD hM)) λt ht=>(rE t ht).trans (jO t ht)
    |exit id=>rw[hex]at h;injection h with h;exact out (by rw[hex];exact n_) h.symm
    |ret=>rw[hex]at h;injection h with h;exact out (by rw[hex];exact n_) h.symm
  refine⟨λc fr M next rs r h hs=>?_,loop⟩;cases c with
  |skip=>
   simp only[iU]at h;injection h with h;subst h;exact⟨λR ι cc a w Q hf hm ha hu hQ=>wpIn_skip (hQ ι cc a w (Map.le.refl _) hf hm ha hu (λ_ _ _=>rfl) λ_ _=>rfl),Keys.refl _ _⟩
  |exit id=>
   simp only[iU]at h;injection h with h;subst h;exact⟨λR ι cc a w Q hf hm ha hu hQ=>wpIn_exit (hQ ι cc a w (Map.le.refl _) hf hm ha hu (λ_ _ _=>rfl) λ_ _=>rfl),Keys.refl _ _⟩
  |ret=>
   simp only[iU]at h;injection h with h;subst h;exact⟨λR ι cc a w Q hf hm ha hu hQ=>Jx (hQ ι cc a w (Map.le.refl _) hf hm ha hu (λ_ _ _=>rfl) λ_ _=>rfl),Keys.refl _ _⟩
  |region id ops draw=>
   simp only[iU]at h;split at h
   ·rename_i r1 h1;injection h with h;subst h;exact YM h1 hs
   ·split at h
    ·rename_i r1 h1;split at h
     ·rename_i hd;injection h with h;subst h;refine⟨λR ι cc a w Q hf hm ha hu hQ=>?_,RU _ h1 hs⟩;have YO:RA B N cc M next ι a (wI ops.toList) r1 (Q .normal):=λau bY a' w' hle oG bj iW jM gD wM=>hQ au bY a' w' hle oG bj iW jM gD λt ht=>wM t (by
       have hn:t∉ops.toList.filterMap (·.dst):=ME ht;cases hb:wI ops.toList t with
       |false=>rfl
       |true=>
        unfold wI at hb;rw[rC]at hb;obtain⟨o,ho,MF⟩:=hb;exfalso;refine hn (Ye.2 ⟨o,ho,?_⟩);cases Cg:o.dst with
        |none=>rw[Cg]at MF;cases MF
        |some d=>rw[Cg]at MF;rw[j0 MF])
      cases draw with
      |false=>exact wpIn_region_list (RB _ h1 hs hf hm ha hu YO)
      |true=>exact aG2 gv h1 hs hd hf hm ha hu YO
     ·cases h
    ·cases h
  |seq x y=>
   simp only[iU]at h;cases hx:iU n x fr M next rs with
   |none=>rw[hx]at h;cases h
   |some r1=>
    rw[hx]at h;dsimp only at h;cases hex:r1.ex with
    |normal=>
     rw[hex]at h;obtain⟨r2,h2,he⟩:=YL h;subst he;obtain⟨g1,k1⟩:=wO x fr M next rs r1 hx (λp hp=>hs p (dY.2 (.inl hp)));obtain⟨g2,k2⟩:=wO y r1.fr r1.M r1.next r1.rs r2 h2 (λp hp=>hs p (dY.2 (.inr hp)));exact⟨aHa g1 hex k1 g2,k1.trans k2⟩
    |exit id=>
     rw[hex]at h;injection h with h;subst h;obtain⟨g1,k1⟩:=wO x fr M next rs r1 hx hs;exact⟨YN g1 (by show r1.ex≠_;rw[hex];exact n_),k1⟩
    |ret=>
     rw[hex]at h;injection h with h;subst h;obtain⟨g1,k1⟩:=wO x fr M next rs r1 hx hs;exact⟨YN g1 (by show r1.ex≠_;rw[hex];exact n_),k1⟩
  |cond EC x y=>
   simp only[iU]at h;cases hc:fY (bC fr) EC with
   |bool b=>
    rw[hc]at h;have he:∀(ι:Map) (a:Act),e9 B ι (bC fr) N a->a.eval EC=.bool b:=by
     intro ι a hf;cases EC with
     |tmp t=>
      have:bC fr t=.bool b:=hc;have hs:=hf.slot t;rw[this]at hs;exact(hs.As rfl).bool
     |const v=>exact hc
     |global g=>exact hc
     |func f=>exact hc
    have fin:∀ z:Code,(∀ t,t∈wl z->t∈wl (Code.cond EC x y))->ah P B N z fr M next r.out->(∀(R:Option Nat) (Q:Exit->Act->World->Prop) (a:Act) (w:World),a.eval EC=.bool b->z.wpIn (FW R) 0 P Q a w->(Code.cond EC x y).wpIn (FW R) 0 P Q a w)->ah P B N (.cond EC x y) fr M next r.out:=by intro z hz g hw R ι cc a w Q hf hm ha hu hQ;refine hw R Q a w (he ι a hf) (g R ι cc a w Q hf hm ha hu λbM gn a1 w1 jq fv cW eA dK ig jO=>hQ bM gn a1 w1 jq fv cW eA dK ig λt ht=>jO t (Jv λhm=>ME ht (hz t hm)))
    cases b with
    |true=>
     obtain⟨g1,k1⟩:=wO x fr M next rs r h hs;exact⟨fin x (λt ht=>dY.2 (.inl ht)) g1 (λR Q a w e h=>wpIn_cond e h),k1⟩
    |false=>
     obtain⟨g1,k1⟩:=wO y fr M next rs r h hs;exact⟨fin y (λt ht=>dY.2 (.inr ht)) g1 (λR Q a w e h=>wpIn_cond e h),k1⟩
   |_=>rw[hc]at h;cases h
  |block id b=>
   simp only[iU]at h;split at h
   ·rename_i r1 h1;injection h with h;subst h;exact YM h1 hs
   ·cases hb:iU n b fr M next rs with
    |none=>rw[hb]at h;cases h
    |some r1=>
     rw[hb]at h;dsimp only at h;cases hex:r1.ex with
     |normal=>
      rw[hex]at h;injection h with h;subst h;obtain⟨g1,k1⟩:=wO b fr M next rs r1 hb hs;have:=bO (id:=id) g1;rw[show r1.out.ex=Ex.normal from hex]at this;refine⟨?_,k1⟩;have e:r1.out=⟨.normal,r1.fr,r1.M,r1.next⟩:=by unfold jN.out;rw[hex]
      rw[e];exact this
     |ret=>
      rw[hex]at h;injection h with h;subst h;obtain⟨g1,k1⟩:=wO b fr M next rs r1 hb hs;have:=bO (id:=id) g1;rw[show r1.out.ex=Ex.ret from hex]at this;refine⟨?_,k1⟩;have e:r1.out=⟨.ret,r1.fr,r1.M,r1.next⟩:=by unfold jN.out;rw[hex]
      rw[e];exact this
     |exit k=>
      rw[hex]at h;injection h with h;subst h;obtain⟨g1,k1⟩:=wO b fr M next rs r1 hb hs;have:=bO (id:=id) g1;rw[show r1.out.ex=Ex.exit k from hex]at this;exact⟨this,k1⟩
  |loop b=>
   obtain⟨k1,g1⟩:=loop b fr M next rs r h hs;exact⟨λR ι cc a w Q hf hm ha hu hQ=>RX (n+1) (g1 R ι cc a w Q hf hm ha hu hQ),k1⟩
  |_=>simp[iU]at h
end
section
variable{P:Program}{B:aa}{N:Nat}
theorem YP{ι:Map}{fr RY:aV}{a:Act}(hf:e9 B ι (bC fr) N a)(h:∀ p∈RY,bC fr p.1=p.2):e9 B ι (bC RY) N a:=by
 refine⟨hf.defers,hf.size,λt=>?_⟩;induction RY with
 |nil=>exact .inl rfl
 |cons p l ih=>
  obtain⟨s,v⟩:=p;by_cases bJ:s=t
  ·subst bJ;have this:bC fr s=v:=h _ (aT ..);have e:bC ((s,v)::l) s=v:=by simp[bC]
   rw[e,<-this];exact hf.slot s
  ·have e:bC ((s,v)::l) t=bC l t:=by show(if Nat.beq s t then _ else _)=_;rw[nW bJ];rfl
   rw[e];exact ih λp hp=>h p (bB _ hp)
theorem ah.to{c:Code}{fr:aV}{M:aH}{next:Nat}{r1 r2:lZ}(h:ah P B N c fr M next r1)(hex:r1.ex=r2.ex)(mC:∀ p∈r2.fr,bC r1.fr p.1=p.2)
  (hM:∀ p∈r2.M,ag r1.M p.1=some p.2) (hn:r1.next<=r2.next):ah P B N c fr M next r2:=by
 intro R ι cc a w Q hf hm ha hu hQ;refine h R ι cc a w Q hf hm ha hu λbM gn a1 w1 jq fv cW eA dK ig jO=>?_;rw[hex];exact hQ bM gn a1 w1 jq (YP fv mC) cW (λk x hk=>eA k x (hM _ (j4 hk))) (λk hk=>dK k (dh hn hk)) ig jO
theorem jP:∀{l m:aH},keys l=keys m->∀ k,(ag l k=none↔ag m k=none)
 |[],[],_,k=>Iff.rfl
 |[],_::_,h,k=>by cases h
 |_::_,[],h,k=>by cases h
 |(i,x)::l,(j,y)::m,h,k=>by
  injection h with h1 h2;dsimp only at h1;subst h1;show(if Nat.beq i k then some x else ag l k)=none↔(if Nat.beq i k then some y else ag m k)=none;cases Nat.beq i k
  ·exact jP h2 k
  ·simp
theorem ch{b:Code}{next:Nat}{r:lZ}(n:Nat)(I:Nat->aV)(J:Nat->aH)(jQ:∀ i k,i<=n->(ag (J i) k=none↔ag (J 0) k=none))
  (body:∀ i,i<n->ah P B N b (I i) (J i) next ⟨.normal,I (i+1),J (i+1),next⟩) (last:ah P B N b (I n) (J n) next r) (hr:r.ex≠.normal):ah P B N (.loop b) (I 0) (J 0) next r:=by
 intro R ι cc a w Q hf hm ha hu hQ;refine RX (n+1) ?_;have key:∀ d i,i+d=n->∀(bM:Map) (gn:Nat->Option Obj) (a1:Act) (w1:World),Map.le ι bM->e9 B bM (bC (I i)) N a1->aM B bM gn w1->cS gn (J i)->eD gn next->(∀ k,k<next->ag (J 0) k=none->gn k=cc k)->
   (∀ t,ui (.loop b) t=false->a1.tmps.getD t undef=a.tmps.getD t undef)->Code.roundsIn (FW R) 0 P b Q (d+1) a1 w1:=by
  intro d;induction d with
  |zero=>
   intro i hi bM gn a1 w1 jq fv cW eA dK ig jO;have:i=n:=by omega
   subst this;rw[EB];refine last R bM gn a1 w1 _ fv cW eA dK λdC rD a2 w2 kW iG dx hJ fq fF rE=>?_;have:=hQ dC rD a2 w2 (jq.trans kW) iG dx hJ fq (λk hk h0=>(fF k hk ((jQ i k (bh _)).2 h0)).trans (ig k hk h0)) λt ht=>(rE t ht).trans (jO t ht);show Exit.then _ Q r.ex.AB a2 w2;cases hx:r.ex with
   |normal=>exact absurd hx hr
   |exit id=>rw[hx]at this;exact this
   |ret=>rw[hx]at this;exact this
  |succ d ih=>
   intro i hi bM gn a1 w1 jq fv cW eA dK ig jO;rw[EB];refine body i o_ R bM gn a1 w1 _ fv cW eA dK λdC rD a2 w2 kW iG dx hJ fq fF rE=>?_;exact ih (i+1) o_ dC rD a2 w2 (jq.trans kW) iG dx hJ fq (λk hk h0=>(fF k hk ((jQ i k o_).2 h0)).trans (ig k hk h0)) λt ht=>(rE t ht).trans (jO t ht)
 exact key n 0 o_ ι cc a w (Map.le.refl _) hf hm ha hu (λ_ _ _=>rfl) λ_ _=>rfl
theorem Jy{ι:Map}:∀{v v1 v2:Value},aG ι v v1->aG ι v v2->v1=v2:=by
 intro v v1 v2 h;revert v2;apply aG.rec (motive_1:=λv v1 _=>∀ v2,aG ι v v2->v1=v2) (motive_2:=λl l1 _=>∀ l2,bI (aG ι) l l2->l1=l2) (t:=h)
 case same=>intro v hf v2 h2;exact(h2.eR hf).symm
 case ptr=>
  intro k off b o cap hk v2 h2;obtain⟨b',o',aO,h3,h4⟩:=h2.yg rfl;rw[hk]at h3;injection h3 with h3;injection h3 with h3 h5 _;subst h3;subst h5;rw[h4]
 case slc=>
  intro k off b o n c c' cap hk h1 h2 v2 h3;rcases h3.gW rfl with ⟨h4,_⟩|⟨b',o',aO,c2,h4,_,h6,h7⟩
  ·rw[hk]at h4;cases h4
  ·rw[hk]at h4;injection h4 with h4;injection h4 with h4 h5 h8;subst h4;subst h5;subst h8;rw[h7,show c'=c2 by omega]
 case slcN=>
  intro k hk v2 h3;rcases h3.gW rfl with ⟨_,_,_,_,h4⟩|⟨b',o',aO,c2,h4,_⟩
  ·exact h4.symm
  ·rw[hk]at h4;cases h4
 case opq=>
  intro k v hk h1 h2 v2 h3;cases h3 with
  |same hf=>simp[flat,qo,nQ,lP,mr]at hf
  |opq gD _ _=>rw[hk]at gD;injection gD with gD;injection gD
 case fn=>
  intro f fi kf ca eY _ _ RZ R0 v2 h3;obtain⟨fi2,YQ,e,h4,h5⟩:=h3.B6;rw[e,RZ _ h4,R0 _ h5]
 case agg=>
  intro cs bt _ ih v2 h3;obtain⟨cs2,e,h4⟩:=h3.Jf;rw[e,ih _ h4]
 case tup=>
  intro cs bt _ ih v2 h3;obtain⟨cs2,e,h4⟩:=h3.ub;rw[e,ih _ h4]
 case nil=>intro l2 h2;cases h2;rfl
 case cons=>
  intro a b l m _ _ RZ R0 l2 h2;cases h2 with
  |cons h3 h4=>rw[RZ _ h3,R0 _ h4]
theorem ED{ι:Map}:∀{l l1 l2:aj},bI (aG ι) l l1->bI (aG ι) l l2->l1=l2
 |_,_,_,.nil,h=>by cases h;rfl
 |_,_,_,.cons h t,h2=>by cases h2 with|cons h3 t3=>rw[Jy h h3,ED t t3]
def GM(m:Nat)(a:Addr):Bool:=mr a||Nat.blt a.block m
def Ck(m:Nat):Value->Bool
 |.pointer (some a)=>GM m a
 |.slice (some a) _ _=>GM m a
 |.agg _=>false
 |.tuple _=>false
 |.func _ _ _=>false
 |_=>true
def Cm(m:Nat):Value->Bool
 |.func _ fi ca=>fi.toList.all (Ck m)&&ca.toList.all (Ck m)
 |v=>Ck m v
def EE(m:Nat):Value->Bool
 |.agg cs=>cs.toList.all (Cm m)
 |v=>Cm m v
def nr(m:Nat):Value->Bool
 |.tuple vs=>vs.toList.all (EE m)
 |v=>EE m v
theorem MG{m:Nat}{v:Value}(h:lP v=true):Ck m v=true:=by
 cases v with
 |pointer a=>cases a with
  |none=>rfl
  |some a=>show(mr a||_)=true;rw[show mr a=true from h];rfl
 |slice a n c=>cases a with
  |none=>rfl
  |some a=>show(mr a||_)=true;rw[show mr a=true from h];rfl
 |_=>exact h
theorem MH{m:Nat}{v:Value}(h:nQ v=true):Cm m v=true:=by
 cases v with
 |func f fi ca=>
  simp only[nQ,db,bf]at h;simp only[Cm,db,bf];exact⟨λc hc=>MG (h.1 c hc),λc hc=>MG (h.2 c hc)⟩
 |pointer a=>exact MG (v:=.pointer a) h
 |slice a n c=>exact MG (v:=.slice a n c) h
 |_=>first|rfl|exact h
theorem Jz{m:Nat}{v:Value}(h:qo v=true):EE m v=true:=by
 cases v with
 |agg cs=>
  simp only[qo,bf]at h;simp only[EE,bf];exact λc hc=>MH (h c hc)
 |pointer a=>exact MH (v:=.pointer a) h
 |slice a n c=>exact MH (v:=.slice a n c) h
 |func f fi ca=>exact MH (v:=.func f fi ca) h
 |_=>first|rfl|exact h
theorem iK{m:Nat}{v:Value}(h:flat v=true):nr m v=true:=by
 cases v with
 |tuple cs=>
  simp only[flat,bf]at h;simp only[nr,bf];exact λc hc=>Jz (h c hc)
 |pointer a=>exact Jz (v:=.pointer a) h
 |slice a n c=>exact Jz (v:=.slice a n c) h
 |func f fi ca=>exact Jz (v:=.func f fi ca) h
 |agg cs=>exact Jz (v:=.agg cs) h
 |_=>first|rfl|exact h
theorem aG.low{ι κ:Map}{m:Nat}(rH:∀ k,k<m->∀ l,ι k=some l->κ k=some l){v v':Value}(h:aG ι v v')(hb:nr m v=true):aG κ v v':=by
 have addr:∀(a:Addr) (s:Nat),a.spot=some s->GM m a=true->a.block<m:=by intro a s hs h;unfold GM mr at h;rw[hs]at h;simpa[AF]using h
 have hP:∀ v v',aG ι v v'->Ck m v=true->aG κ v v':=by
  intro v v' h hb;cases h with
  |same hf=>exact .same hf
  |ptr hk=>exact .ptr (rH _ (addr _ 7 rfl hb) _ hk)
  |slc hk h1 h2=>exact .slc (rH _ (addr _ 7 rfl hb) _ hk) h1 h2
  |slcN hk=>exact .slcN (rH _ (addr _ 7 rfl hb) _ hk)
  |opq hk h1 h2=>exact .opq (rH _ (addr _ 9 rfl hb) _ hk) h1 h2
  |_=>simp[Ck]at hb
 have ua:∀(Q:Value->Bool),(∀ v v',aG ι v v'->Q v=true->aG κ v v')->∀ l l',bI (aG ι) l l'->(∀ c∈l,Q c=true)->bI (aG κ) l l':=by
  intro Q hQ l l' h;induction h with
  |nil=>intro _;exact .nil
  |cons h t ih=>
   intro hl;exact .cons (hQ _ _ h (hl _ (aT ..))) (ih λc hc=>hl c (bB _ hc))
 have h0:∀ v v',aG ι v v'->Cm m v=true->aG κ v v':=by
  intro v v' h hb;cases h with
  |fn h1 h2=>
   simp only[Cm,db,bf]at hb;exact .fn (ua _ hP _ _ h1 hb.1) (ua _ hP _ _ h2 hb.2)
  |same hf=>exact .same hf
  |ptr hk=>exact hP _ _ (.ptr hk) hb
  |slc hk h1 h2=>exact hP _ _ (.slc hk h1 h2) hb
  |slcN hk=>exact hP _ _ (.slcN hk) hb
  |opq hk h1 h2=>exact hP _ _ (.opq hk h1 h2) hb
  |_=>simp[Cm,Ck]at hb
 have h1:∀ v v',aG ι v v'->EE m v=true->aG κ v v':=by
  intro v v' h hb;cases h with
  |agg h1=>
   simp only[EE,bf]at hb;exact .agg (ua _ h0 _ _ h1 hb)
  |same hf=>exact .same hf
  |ptr hk=>exact h0 _ _ (.ptr hk) hb
  |slc hk h1 h2=>exact h0 _ _ (.slc hk h1 h2) hb
  |slcN hk=>exact h0 _ _ (.slcN hk) hb
  |opq hk h1 h2=>exact h0 _ _ (.opq hk h1 h2) hb
  |fn h1 h2=>exact h0 _ _ (.fn h1 h2) hb
  |_=>simp[EE,Cm,Ck]at hb
 cases h with
 |tup h2=>
  simp only[nr,bf]at hb;exact .tup (ua _ h1 _ _ h2 hb)
 |same hf=>exact .same hf
 |ptr hk=>exact h1 _ _ (.ptr hk) hb
 |slc hk q1 q2=>exact h1 _ _ (.slc hk q1 q2) hb
 |slcN hk=>exact h1 _ _ (.slcN hk) hb
 |opq hk q1 q2=>exact h1 _ _ (.opq hk q1 q2) hb
 |fn q1 q2=>exact h1 _ _ (.fn q1 q2) hb
 |agg q1=>exact h1 _ _ (.agg q1) hb
def fP(m:Nat)(x:Obj):Prop:=∀ v∈x.cells,nr m v=true
theorem jv.below{ι κ:Map}{m:Nat}(rH:∀ k,k<m->∀ l,ι k=some l->κ k=some l){w:World}{l:o9}{x:Obj}(h:jv ι w l x)(hb:fP m x):jv κ w l x:=by
 have ua:∀{l l':aj},bI (aG ι) l l'->(∀ c∈l,nr m c=true)->bI (aG κ) l l':=by
  intro l l' h hl;induction h with
  |nil=>exact .nil
  |cons h t ih=>exact .cons (h.low rH (hl _ (aT ..))) (ih λc hc=>hl c (bB _ hc))
 cases x with
 |aI cells ty=>obtain⟨b,bt,h1,h2,h3⟩:=h;exact⟨b,bt,h1,ua h2 hb,h3⟩
 |row cells ty size=>
  rcases h with h|⟨b,cap,cur,h1,h2,h3,h4,h5⟩
  ·exact .inl h
  ·exact .inr ⟨b,cap,cur,h1,h2,h3,h4,ua h5 hb⟩
 |view cells=>
  rcases h with h|⟨b,o,cap,bt,h1,h2,h3⟩
  ·exact .inl h
  ·exact .inr ⟨b,o,cap,bt,h1,ua h2 hb,h3⟩
 |fact F=>exact h
 |dead=>trivial
theorem ah.reset{c:Code}{fr:aV}{M:aH}{next:Nat}{r1 r2:lZ}(h:ah P B N c fr M next r1)(hex:r1.ex=r2.ex)(mC:∀ p∈r2.fr,bC r1.fr p.1=p.2)(MI:∀ p∈r2.fr,nr next p.2=true)
  (hM:∀ p∈r2.M,ag r1.M p.1=some p.2) (R1:∀ p∈r2.M,fP next p.2) (MJ:∀ p∈r2.M,p.1<next) (hn:next<=r2.next):ah P B N c fr M next r2:=by
 intro R ι cc a w Q hf hm ha hu hQ;refine h R ι cc a w Q hf hm ha hu λbM gn a1 w1 jq fv cW eA dK ig jO=>?_;rw[hex];have rH:∀ k,k<next->∀ l,bM k=some l->(λk=>if k<next then bM k else none) k=some l:=λk hk l e=>by simp[hk,e]
 have AL:∀ k l,(λk=>if k<next then bM k else none) k=some l->k<next/\bM k=some l:=λk l e=>by
  dsimp only at e;split at e
  ·rename_i hk;exact⟨hk,e⟩
  ·cases e
 generalize (λk=>if k<next then bM k else none)=κ at rH AL;have hle:Map.le ι κ:=λk l e=>by
  have hk:k<next:=by
   rcases eC k next with h|h
   ·exact h
   ·rw[hm.dr k (hu k h)]at e;cases e
  exact rH k hk l (jq k l e)
 -- what is kept: what YR not looked at,and what is known;the rest is dead
 have aHb:∃ c2:Nat->Option Obj,(∀ k,c2 k=none↔(next<=k\/gn k=none))/\(∀ k x,c2 k=some x->x=.dead\/(gn k=some x/\((ag M k=none)\/ag r2.M k=some x)))/\(∀ k x,ag r2.M k=some x->c2 k=some x)/\(∀ k,k<next->ag M k=none->ag r2.M k=none->c2 k=gn k):=by
  refine⟨λk=>if k<next then(match gn k with|none=>none|some x=>match ag r2.M k with|some y=>some y|none=>match ag M k with|none=>some x|some _=>some .dead)else none,?_,?_,?_,?_⟩
  ·intro k;dsimp only;by_cases hk:k<next
   ·rw[aw hk];cases hc:gn k with
    |none=>simp
    |some x=>cases h2:ag r2.M k<;>cases h3:ag M k<;>simp<;>omega
   ·rw[ao hk];simp;left;omega
  ·intro k x hx;dsimp only at hx;split at hx
   ·cases hc:gn k with
    |none=>rw[hc]at hx;cases hx
    |some y=>
     rw[hc]at hx;dsimp only at hx;cases h2:ag r2.M k with
     |some z=>
      rw[h2]at hx;injection hx with hx;subst hx;have:=eA k z (hM _ (j4 h2));rw[hc]at this;exact .inr ⟨this,.inr rfl⟩
     |none=>
      rw[h2]at hx;dsimp only at hx;cases h3:ag M k with
      |none=>rw[h3]at hx;injection hx with hx;subst hx;exact .inr ⟨rfl,.inl rfl⟩
      |some z=>rw[h3]at hx;injection hx with hx;exact .inl hx.symm
   ·cases hx
  ·intro k x hx;have h1:=eA k x (hM _ (j4 hx));have h2:=MJ _ (j4 hx);dsimp only at h2 ⊢;rw[aw h2,h1];dsimp only;rw[hx]
  ·intro k hk h1 h2;dsimp only;rw[aw hk];cases hc:gn k with
   |none=>rfl
   |some x=>rw[h2,h1]
 obtain⟨c2,d1,d2,d3,d4⟩:=aHb;have EF:∀ k x,c2 k=some x->x.owns=true->gn k=some x:=λk x hk hx=>by
  rcases d2 k x hk with rfl|⟨h1,_⟩
  ·cases hx
  ·exact h1
 have dx:aM B κ c2 w1:=by
  refine⟨cW.base,?_,?_,?_,?_,?_,?_,?_,?_,hm.oC.trans hle⟩
  ·intro k hk;cases aHc:κ k with
   |none=>rfl
   |some l=>
    obtain⟨q1,q2⟩:=AL k l aHc;rcases(d1 k).1 hk with q|q
    ·omega
    ·rw[cW.dr k q]at q2;cases q2
  ·intro k x hk;have mD:k<next:=by
    rcases eC k next with h|h
    ·exact h
    ·rw[(d1 k).2 (.inl h)]at hk;cases hk
   have gm:∃ y,gn k=some y:=by
    cases hc:gn k with
    |some y=>exact⟨y,rfl⟩
    |none=>rw[(d1 k).2 (.inr hc)]at hk;cases hk
   obtain⟨y,hy⟩:=gm;obtain⟨l,q1,q2⟩:=cW.born k y hy;refine⟨l,rH k mD l q1,?_⟩;rcases d2 k x hk with rfl|⟨h1,h2⟩
   ·trivial
   ·rw[hy]at h1;injection h1 with h1;subst h1;rcases h2 with h2|h2
    ·-- as it YR
     have e0:cc k=some y:=(ig k mD h2).symm.trans hy;obtain⟨l0,p1,p2⟩:=hm.born k y e0;have p3:=jq k l0 p1;rw[q1]at p3;injection p3 with p3;subst p3;cases y with
     |aI cells ty=>
      obtain⟨b,bt,e1,e2,e3⟩:=q2;obtain⟨b0,YS,f1,f2,f3⟩:=p2;rw[e1]at f1;injection f1 with f1 _ _;subst f1;have:bt=YS:=ED e2 (nR jq f2);subst this;exact⟨b,bt,e1,nR hle f2,e3⟩
     |row cells ty size=>
      rcases q2 with q2|⟨b,cap,cur,e1,e2,e3,e4,e5⟩
      ·exact .inl q2
      ·rcases p2 with p2|⟨b0,aHd,aUv,f1,f2,f3,f4,f5⟩
       ·rw[e1]at p2;cases p2.1
       ·have:=ED e5 (nR jq f5);exact .inr ⟨b,cap,cur,e1,e2,e3,e4,by rw[this];exact nR hle f5⟩
     |view cells=>
      rcases q2 with q2|⟨b,o,cap,bt,e1,e2,e3⟩
      ·exact .inl q2
      ·rcases p2 with p2|⟨b0,o0,aHd,YS,f1,f2,f3⟩
       ·rw[e1]at p2;cases p2.1
       ·have:=ED e2 (nR jq f2);subst this;exact .inr ⟨b,o,cap,bt,e1,nR hle f2,e3⟩
     |fact F=>exact q2
     |dead=>trivial
    ·exact q2.below rH (R1 _ (j4 h2))
  ·intro k x b o cap hk hx hl;exact cW.own k x b o cap (EF k x hk hx) hx (AL k _ hl).2
  ·intro i j x y b o1 c1 o3 c3 hi hx hj hy hl cg;exact cW.inj i j x y b o1 c1 o3 c3 (EF i x hi hx) hx (EF j y hj hy) hy (AL i _ hl).2 (AL j _ cg).2
  ·intro i j x F b o cap v hi hx hl hj hv;have iu:gn j=some (.fact F):=by
    rcases d2 j _ hj with h|⟨h,_⟩
    ·cases h
    ·exact h
   exact cW.apart i j x F b o cap v (EF i x hi hx) hx (AL i _ hl).2 iu (AL j _ hv).2
  ·intro k x b o cap hk hx hl;have aHe:gn k=some x:=by
    rcases d2 k x hk with rfl|⟨h1,_⟩
    ·cases hx
    ·exact h1
   obtain⟨q1,q2⟩:=cW.seen k x b o cap aHe hx (AL k _ hl).2;exact⟨q1,λj y o' aO hj hy hm=>q2 j y o' aO (EF j y hj hy) hy (AL j _ hm).2⟩
  ·intro j F hj;rcases d2 j _ hj with h|⟨h,_⟩
   ·cases h
   ·exact cW.fa j F h
  ·intro i j F F' hi hj;rcases d2 i _ hi with h|⟨h,_⟩
   ·cases h
   ·rcases d2 j _ hj with h'|⟨h',_⟩
    ·cases h'
    ·exact cW.one i j F F' h h'
 refine hQ κ c2 a1 w1 hle ⟨fv.defers,fv.size,λt=>?_⟩ dx (λk x hk=>d3 k x hk) (λk hk=>(d1 k).2 (.inl (dh hn hk))) (λk hk h1=>?_) jO
 ·have hs:=(YP fv mC).slot t;have:∀(l:aV),(∀ p∈l,nr next p.2=true)->ni bM (bC l t) (a1.tmps.getD t undef)->ni κ (bC l t) (a1.tmps.getD t undef):=by
   intro l;induction l with
   |nil=>intro _ _;exact .inl rfl
   |cons p l ih=>
    intro hl hc;obtain⟨s,v⟩:=p;by_cases bJ:s=t
    ·subst bJ;have e:bC ((s,v)::l) s=v:=by simp[bC]
     rw[e]at hc ⊢;exact hc.imp id λhc=>hc.low rH (hl _ (aT ..))
    ·have e:bC ((s,v)::l) t=bC l t:=by show(if Nat.beq s t then _ else _)=_;rw[nW bJ];rfl
     rw[e]at hc ⊢;exact ih (λp hp=>hl p (bB _ hp)) hc
  exact this r2.fr MI hs
 ·cases h2:ag r2.M k with
  |none=>rw[d4 k hk h1 h2,ig k hk h1]
  |some x=>rw[d3 k x h2,<-ig k hk h1];exact(eA k x (hM _ (j4 h2))).symm
end
section
variable{P:Program}{B:aa}{N:Nat}
def MK(P:Program)(fr:aV)(M:aH):ResultVar->Option Value
 |.tmp t=>if lQ (bC fr t)then none else some (bC fr t)
 |.cell t ty=>match bC fr t with
  |.pointer (some ad)=>if nh ad then(match ag M ad.block with|some x=>if x.reads then du P ty x.cells ad.off else none|none=>none)else none
  |_=>none
def JA(P:Program)(fr:aV)(M:aH):List ResultVar->Option aj
 |[]=>some []
 |r::l=>match MK P fr M r with
  |some v=>match JA P fr M l with|some vs=>some (v::vs)|none=>none
  |none=>none
def AM(P:Program)(fn:Func)(fr:aV)(M:aH):Option Value:=
 match JA P fr M fn.results.toList with
 |some [v]=>some v
 |some vs=>some (.tuple vs.toArray)
 |none=>none
def rv(tmps:Array Value):ResultVar->Sem Value
 |.tmp t=>pure (tmps.getD t undef)
 |.cell x t=>do loadVar t (<-asAddr (tmps.getD x undef))
theorem aHf{ι:Map}{cc:Nat->Option Obj}{fr:aV}{M:aH}{a:Act}{w:World}(hf:e9 B ι (bC fr) N a)(hm:aM B ι cc w)(ha:cS cc M){r:ResultVar}{v:Value}
  (h:MK P fr M r=some v):∃ v',aG ι v v'/\(rv a.tmps r).run P w=.ok v' w:=by
 cases r with
 |tmp t=>
  unfold MK at h;dsimp only at h;split at h
  ·cases h
  ·rename_i hn;injection h with h;subst h;exact⟨_,(hf.slot t).As (by simpa using hn),rfl⟩
 |cell t ty=>
  unfold MK at h;dsimp only at h;split at h
  ·rename_i ad hx;split at h
   ·rename_i dH;split at h
    ·rename_i x hblk;split at h
     ·rename_i hrd;have hc:=hf.slot t;rw[hx]at hc;have hc:=hc.As rfl;rw[Cc dH]at hc;obtain⟨v',a',he,sV,pN⟩:=XT hm (ha _ _ hblk) hrd h hc;refine⟨v',sV,?_⟩;unfold rv;dsimp only;rw[he];simp[asAddr,pN]
     ·cases h
    ·cases h
   ·cases h
  ·cases h
theorem YT{ι:Map}{cc:Nat->Option Obj}{fr:aV}{M:aH}{a:Act}{w:World}(hf:e9 B ι (bC fr) N a)(hm:aM B ι cc w)(ha:cS cc M):∀(l:List ResultVar) {vs:aj},
  JA P fr M l=some vs->∃ cM,bI (aG ι) vs cM/\(l.mapM (rv a.tmps)).run P w=.ok cM w
 |[],vs,h=>by injection h with h;subst h;exact⟨[],.nil,rfl⟩
 |r::l,vs,h=>by
  unfold JA at h;split at h
  ·rename_i v hv;split at h
   ·rename_i vs1 aN;injection h with h;subst h;obtain⟨v',hc,pN⟩:=aHf hf hm ha hv;obtain⟨cM,fX,aHg⟩:=YT hf hm ha l aN;refine⟨v'::cM,.cons hc fX,?_⟩;rw[JB,Jk,pN,Result.andThen_ok,Jk,aHg,Result.andThen_ok];rfl
   ·cases h
  ·cases h
theorem ML{ι:Map}{cc:Nat->Option Obj}{fn:Func}{fr:aV}{M:aH}{a:Act}{w:World}(hf:e9 B ι (bC fr) N a)(hm:aM B ι cc w)(ha:cS cc M){v:Value}
  (h:AM P fn fr M=some v):∃ v',aG ι v v'/\(results fn a.tmps).run P w=.ok v' w:=by
 unfold AM at h;cases hr:JA P fr M fn.results.toList with
 |none=>rw[hr]at h;cases h
 |some vs=>
  obtain⟨cM,fX,pN⟩:=YT hf hm ha _ hr;have e:(results fn a.tmps).run P w=.ok (if h:cM.toArray.size=1 then cM.toArray[0]else .tuple cM.toArray) w:=by
   have e0:results fn a.tmps=(do let vs <-fn.results.mapM (rv a.tmps);pure (if h:vs.size=1 then vs[0]else .tuple vs)):=by
    unfold results
    congr 1
   rw[e0];rw[Array.mapM_eq_mapM_toList,Jk,Sem.run_map,pN];rfl
  rw[e];rw[hr]at h;cases fX with
  |nil=>injection h with h;subst h;exact⟨_,.same rfl,by simp⟩
  |cons h1 t1=>
   cases t1 with
   |nil=>injection h with h;subst h;exact⟨_,h1,by simp⟩
   |cons h2 t2=>injection h with h;subst h;exact⟨_,.tup (.cons h1 (.cons h2 t2)),by simp⟩
def jA:Nat->aj->aV
 |_,[]=>[]
 |i,v::l=>(i,v)::jA (i+1) l
theorem MM{ι:Map}:∀{l l':aj},bI (aG ι) l l'->∀(i t:Nat) (tail:aj),ni ι (bC (jA i l) t) (if i<=t then(l'++tail).getD (t-i) undef else undef)\/lQ (bC (jA i l) t)=true
 |_,_,.nil,i,t,tail=>.inr rfl
 |_,_,.cons (a:=v) (b:=v') (l:=l) (m:=m) h k,i,t,tail=>by
  by_cases yw:i=t
  ·subst yw;left;right;have e:bC (jA i (v::l)) i=v:=by simp[jA,bC]
   rw[e];simpa using h
  ·have e:bC (jA i (v::l)) t=bC (jA (i+1) l) t:=by show(if Nat.beq i t then _ else _)=_;rw[nW yw];rfl
   rw[e];rcases MM k (i+1) t tail with h1|h1
   ·left;by_cases al:i+1<=t
    ·rw[aw al]at h1;rw[aw o_];have:t-i=(t-(i+1))+1:=by omega
     rw[this];simpa using h1
    ·by_cases hle:i<=t
     ·omega
     ·rw[ao al]at h1;rw[ao hle];exact h1
   ·exact .inr h1
theorem YU{c:Code}{Q:Exit->Act->World->Prop}{a:Act}{w:World}{n:Nat}(h:c.wpIn (FW none) n P Q a w):c.wp P Q a w:=wpIn_wide.1 h
theorem aHh{f:FuncId}{fn:Func}{c:Code}{args args':aj}{M:aH}{next:Nat}{r:lZ}{v:Value}{ι:Map}{cc:Nat->Option Obj}{w:World}{Q:Ending->World->Prop}
  (hf:P.funcs[f]?=some fn) (hb:fn.body=some c) (hN:N=args.length+(fn.ntmps-args.length)) (g:ah P B N c (jA 0 args) M next r) (hex:(match r.ex with|.exit _=>false|_=>true)=true)
  (hv:AM P fn r.fr r.M=some v) (de:bI (aG ι) args args') (hm:aM B ι cc w) (ha:cS cc M) (hu:eD cc next)
  (hQ:∀ au bY v' w',Map.le ι au->aG au v v'->aM B au bY w'->cS bY r.M->eD bY r.next->(∀ k,k<next->ag M k=none->bY k=cc k)->Q (.returned v') w') (mE:B.ds=[]:=by rfl):Calls P f args'.toArray w Q:=by
 refine calls_of_wp hf hb ?_;have mC:e9 B ι (bC (jA 0 args)) N { tmps:=args'.toArray++Array.replicate (fn.ntmps-args'.toArray.size) undef,defers:=[]}:=by
  refine⟨mE.symm,by simp[hN,de.length],λt=>?_⟩;rcases MM de 0 t (List.replicate (fn.ntmps-args'.length) undef)with h|h
  ·simp only[kU,qt,GN]at h;have e:(args'.toArray++Array.replicate (fn.ntmps-args'.toArray.size) undef).getD t undef=(args'++List.replicate (fn.ntmps-args'.length) undef).getD t undef:=by simp[pQ,Ep,<-Array.getElem?_toList]
   dsimp only;rw[e];exact h
  ·exact .inl h
 refine YU (g none ι cc _ w _ mC hm ha hu λau bY a' w' hle oG bj iW jM gD _=>by
  obtain⟨v',hc,pN⟩:=ML (fn:=fn) oG bj iW hv;have fin:=hQ au bY v' w' hle hc bj iW jM gD;cases hx:r.ex with
  |normal=>exact⟨oG.defers.trans mE,v',pN,fin⟩
  |ret=>exact⟨oG.defers.trans mE,v',pN,fin⟩
  |exit id=>rw[hx]at hex;cases hex)
def fQ(fn:Func)(n:Nat)(args:aj)(M:aH)(next:Nat)(rs:bE P B N):Option (Value×jN P B N):=
 match fn.body with
 |some c=>match iU n c (jA 0 args) M next rs with
  |some r=>match (match r.ex with|.exit _=>none|_=>AM P fn r.fr r.M)with
   |some v=>some (v,r)
   |none=>none
  |none=>none
 |none=>none
def nt(o:Option (Value×jN P B N))(ms:aH):Bool×Option (Value×List (Option Obj)×List nX):=
 match o with
 |some r=>(true,some (r.1,ms.map λp=>ag r.2.M p.1,r.2.tr.map (·.1)))
 |none=>(true,none)
def nu(o:Option (Value×jN P B N))(v:Value)(ms:aH):Bool×Option (Value×List (Option Obj)×List nX):=
 match o with
 |some r=>(true,some (v,ms.map λp=>some p.2,r.2.tr.map (·.2)))
 |none=>(false,none)
theorem MN:∀{tr:vj},tr.map (·.1)=tr.map (·.2)->rz tr
 |[],_=>λp hp=>by cases hp
 |q::l,h=>by
  simp only[rI]at h;injection h with h1 h2;intro p hp;rcases cy.1 hp with rfl|hp
  ·exact h1
  ·exact MN h2 p hp
theorem MO{M:aH}:∀{ms:aH},(ms.map λp=>ag M p.1)=(ms.map λp=>some p.2)->∀ p∈ms,ag M p.1=some p.2
 |[],_=>λp hp=>by cases hp
 |q::l,h=>by
  simp only[rI]at h;injection h with h1 h2;intro p hp;rcases cy.1 hp with rfl|hp
  ·exact h1
  ·exact MO h2 p hp
theorem R2{f:FuncId}{fn:Func}{args args':aj}{M:aH}{next:Nat}{rs:bE P B N}{v:Value}{ms:aH}{ι:Map}{cc:Nat->Option Obj}{w:World}{Q:Ending->World->Prop}(gv:P.follows .mixedOrders=true)
  (hf:P.funcs[f]?=some fn) (hN:N=args.length+(fn.ntmps-args.length)) (n:Nat) (h:nt (fQ (P:=P) fn n args M next rs) ms=nu (fQ fn n args M next rs) v ms)
  (de:bI (aG ι) args args') (hm:aM B ι cc w) (ha:cS cc M) (hu:eD cc next)
  (hQ:∀ au bY v' w',Map.le ι au->aG au v v'->aM B au bY w'->(∀ p∈ms,bY p.1=some p.2)->(∀ k,k<next->ag M k=none->bY k=cc k)->Q (.returned v') w') (mE:B.ds=[]:=by rfl):Calls P f args'.toArray w Q:=by
 cases ho:fQ (P:=P) fn n args M next rs with
 |none=>rw[ho]at h;cases h
 |some r=>
  rw[ho]at h;unfold nt nu at h;dsimp only at h;injection h with _ h;injection h with h;injection h with h1 h;injection h with h2 h3;have hs:=MN h3;have dz:=MO h2;unfold fQ at ho;split at ho
  ·rename_i c hb;split at ho
   ·rename_i r' hr;split at ho
    ·rename_i v' hv;injection ho with ho;subst ho;dsimp only at h1 hs dz;subst h1;have g:=((RW (P:=P) (B:=B) (N:=N) gv n).1 c _ M next rs r' hr hs).1;have hex:(match r'.out.ex with|.exit _=>false|_=>true)=true:=by
      show(match r'.ex with|.exit _=>false|_=>true)=true;cases hx:r'.ex with
      |exit id=>rw[hx]at hv;cases hv
      |normal=>rfl
      |ret=>rfl
     have pb:AM P fn r'.out.fr r'.out.M=some v':=by
      show AM P fn r'.fr r'.M=some v';cases hx:r'.ex with
      |exit id=>rw[hx]at hv;cases hv
      |normal=>rw[hx]at hv;exact hv
      |ret=>rw[hx]at hv;exact hv
     exact aHh hf hb hN g hex pb de hm ha hu (λau bY v2 w' hle hc bj iW jM gD=>hQ au bY v2 w' hle hc bj (λp hp=>iW _ _ (dz p hp)) gD) mE
    ·cases ho
   ·cases ho
  ·cases ho
theorem rJ{f:FuncId}{fn:Func}{args args':aj}{M:aH}{next:Nat}{rs:bE P B N}{v:Value}{ms:aH}{ι:Map}{cc:Nat->Option Obj}{w:World}{Q:Ending->World->Prop}(gv:P.follows .mixedOrders=true)
  (hf:P.funcs[f]?=some fn) (hN:N=args.length+(fn.ntmps-args.length)) (n:Nat) (h:nt (fQ (P:=P) fn n args M next rs) ms=nu (fQ fn n args M next rs) v ms)
  (de:bI (aG ι) args args') (hm:aM B ι cc w) (ha:cS cc M) (hu:eD cc next)
  (hQ:∀ au bY v' w',Map.le ι au->aG au v v'->aM B au bY w'->(∀ p∈ms,bY p.1=some p.2)->Q (.returned v') w') (mE:B.ds=[]:=by rfl):Calls P f args'.toArray w Q:=
 R2 gv hf hN n h de hm ha hu (λau bY v' w' h1 h2 h3 h4 _=>hQ au bY v' w' h1 h2 h3 h4) mE
def JC(o:Option (jN P B N))(fr:aV)(M:aH):Bool×Option (Ex×aj×List (Option Obj)×Bool×List nX):=
 match o with
 |some r=>(true,some (r.ex,fr.map λp=>bC r.fr p.1,M.map λp=>ag r.M p.1,true,r.tr.map (·.1)))
 |none=>(true,none)
def JD(o:Option (jN P B N))(ex:Ex)(fr:aV)(M:aH)(next:Nat):Bool×Option (Ex×aj×List (Option Obj)×Bool×List nX):=
 match o with
 |some r=>(true,some (ex,fr.map λp=>p.2,M.map λp=>some p.2,Nat.ble r.next next,r.tr.map (·.2)))
 |none=>(false,none)
theorem MP{AK:aV}:∀{fr:aV},(fr.map λp=>bC AK p.1)=(fr.map λp=>p.2)->∀ p∈fr,bC AK p.1=p.2
 |[],_=>λp hp=>by cases hp
 |q::l,h=>by
  simp only[rI]at h;injection h with h1 h2;intro p hp;rcases cy.1 hp with rfl|hp
  ·exact h1
  ·exact MP h2 p hp
theorem fe(gv:P.follows .mixedOrders=true){c:Code}{fr:aV}{M:aH}{next:Nat}(n:Nat)(rs:bE P B N){r:lZ}
  (h:JC (iU n c fr M next rs) r.fr r.M=JD (iU n c fr M next rs) r.ex r.fr r.M r.next):ah P B N c fr M next r:=by
 cases ho:iU n c fr M next rs with
 |none=>rw[ho]at h;cases h
 |some r1=>
  rw[ho]at h;unfold JC JD at h;dsimp only at h;injection h with _ h;injection h with h;injection h with h1 h;injection h with h2 h;injection h with h3 h;injection h with h4 h5;obtain⟨g,_⟩:=(RW (P:=P) (B:=B) (N:=N) gv n).1 c fr M next rs r1 ho (MN h5);exact g.to h1 (MP h2) (MO h3) (rm h4.symm)
theorem vn(gv:P.follows .mixedOrders=true){c:Code}{fr:aV}{M:aH}{next:Nat}(n:Nat)(rs:bE P B N){r:lZ}{ij:Nat}
  (h:JC (iU n c fr M next rs) r.fr r.M=JD (iU n c fr M next rs) r.ex r.fr r.M ij) (hn:r.next=next) (MI:(r.fr.all λp=>nr next p.2)=true) (R1:∀ p∈r.M,fP next p.2) (MJ:(r.M.all λp=>Nat.blt p.1 next)=true) :
  ah P B N c fr M next r:=by
 cases ho:iU n c fr M next rs with
 |none=>rw[ho]at h;cases h
 |some r1=>
  rw[ho]at h;unfold JC JD at h;dsimp only at h;injection h with _ h;injection h with h;injection h with h1 h;injection h with h2 h;injection h with h3 h;injection h with h4 h5;obtain⟨g,_⟩:=(RW (P:=P) (B:=B) (N:=N) gv n).1 c fr M next rs r1 ho (MN h5);rw[bf]at MI MJ;exact g.reset h1 (MP h2) MI (MO h3) R1 (λp hp=>by simpa[AF]using MJ p hp) (u9 hn.symm)
def aD(P:Program)(f:FuncId)(args:aj)(res:Value):Prop:=
 ∀ w:World,Calls P f args.toArray w λe w'=>e=.returned res/\Below w.heap.size w w'
theorem qB(w:World):aM (aa.at w) (λ_=>none) (λ_=>none) w:=
 ⟨Below.refl _ _,λ_ _=>rfl,λk x h=>(by cases h),λk x b o cap h=>(by cases h),λk j x y b o cap o' aO h=>(by cases h),λk j x F b o cap v h=>(by cases h),λk x b o cap h=>(by cases h),λj F h=>(by cases h),λj k F F' h=>(by cases h),λ_ _ h=>(by cases h)⟩
theorem gE{f:FuncId}{fn:Func}{args:aj}{v:Value}(gv:P.follows .mixedOrders=true)(hf:P.funcs[f]?=some fn)(n:Nat)(rs:∀ w,bE P (aa.at w) (args.length+(fn.ntmps-args.length)))
  (h:∀ w,nt (fQ (P:=P) fn n args [] 0 (rs w)) []=nu (fQ fn n args [] 0 (rs w)) v []) (de:args.all flat=true) (hv:flat v=true):aD P f args v:=by
 intro w;rw[bf]at de;exact rJ gv hf rfl n (h w) (kg de) (qB w) n_ (λ_ _=>rfl) λau bY v' w' _ hc hm _=>⟨by rw[hc.eR hv],hm.base⟩
def aD.at{f:FuncId}{args:aj}{res:Value}(h:aD P f args res)(key:Nat):aX P B N:=.call key f args res λw _=>h w
end
def cK(w:World)(v:Value)(n:Nat)(xs:aj):Prop:=
 (v=.slice none 0 0/\n=0/\xs=[])\/∃ b o c',v=.slice (some ⟨b,o,none⟩) n c'/\n<=c'/\b<w.heap.size/\∀ j u,xs[j]?=some u->w.cell? ⟨b,o+j,none⟩=some u
section
variable{P:Program}{B:aa}{N:Nat}
theorem cK.gB{w w':World}{v:Value}{n:Nat}{xs:aj}(h:cK w v n xs)(hb:Below w.heap.size w w'):cK w' v n xs:=by
 rcases h with h|⟨b,o,c',h1,h2,h3,h4⟩
 ·exact .inl h
 ·exact .inr ⟨b,o,c',h1,h2,cx h3 hb.size,λj u hj=>by rw[hb.cell h3];exact h4 j u hj⟩
theorem cK.YV{w:World}{base:Nat}{ty:TypeId}{size:Nat}{v:Value}{n:Nat}{xs:aj}(h:w.ownsRow base ty size v n xs):cK w v n xs:=by
 rcases h.2 with ⟨h1,h2⟩|⟨g,cap,cur,h1,h2,h3,h4,h5,h6,h7⟩
 ·have:=h.1;rw[h2,lB]at this;exact .inl ⟨h1,h2,lq this⟩
 ·refine .inr ⟨g,0,cap,h1,h4,(yx.1 h3).1,λj u hj=>?_⟩;rw[<-h7,ue]at hj;split at hj
  ·have:cur[j]?=some u:=by simpa using hj
   simp[World.cell?,h3,this]
  ·cases hj
theorem oH{ι:Map}{c:Nat->Option Obj}{w:World}(hm:aM B ι c w){k off n cc len:Nat}{x:Obj}{v:Value}(hk:c k=some x)(hx:x.reads=true)(cN:∀ u∈x.cells,flat u=true)
  (hlen:n=0->len=0) (hc:aG ι (.slice (some ⟨k,off,some 7⟩) n cc) v):cK w v n ((x.cells.drop off).take len):=by
 rcases hc.gW rfl with ⟨hb,kh,pP,yo,he⟩|⟨b,oo,cap,c',hb,lp,mz,he⟩
 ·exact .inl ⟨he,kh,by rw[hlen kh];rfl⟩
 ·dsimp only at hb he;obtain⟨l,h1,h2⟩:=hm.born k x hk;rw[hb]at h1;injection h1 with h1;subst h1;obtain⟨bt,fX,lV⟩:=h2.at hx;have fX:=nj fX cN;subst fX;refine .inr ⟨b,oo+off,c',he,lp,?_,λj u hj=>?_⟩
  ·by_cases ho:x.owns=true
   ·exact(hm.own k x b oo cap hk ho hb).1
   ·have hv:x.gj=true:=by unfold Obj.reads at hx;rw[um]at hx;exact hx.resolve_left ho
    exact(hm.seen k x b oo cap hk hv hb).1
  ·rw[ue]at hj;split at hj
   ·rw[Eh]at hj;rw[ug];exact lV _ _ hj
   ·cases hj
theorem yy{ι:Map}{c:Nat->Option Obj}{w:World}(hm:aM B ι c w){k n:Nat}{v:Value}{xs:aj}(hk:c k=none)(h:cK w v n xs)(cN:∀ u∈xs,flat u=true)
  (gF:∀ b o c',v=.slice (some ⟨b,o,none⟩) n c'->∀ j y o' aO,c j=some y->y.owns=true->ι j≠some (.at b o' aO)) :
  ∃ au,Map.le ι au/\aM B au (aY c k (.view xs)) w/\aG au (.slice (some ⟨k,0,some 7⟩) n 0) v:=by
 rcases h with ⟨h1,h2,h3⟩|⟨b,o,c',h1,h2,h3,h4⟩
 ·subst h1;subst h2;subst h3;exact⟨dB ι k .nil,gC (hm.dr k hk),hm.add hk (.inl ⟨rfl,rfl⟩) n_ n_ n_,.slcN (fE _ _ _)⟩
 ·subst h1;refine⟨dB ι k (.at b o c'),gC (hm.dr k hk),hm.add hk (.inr ⟨b,o,c',xs,rfl,kg cN,h4⟩) n_ n_ (λb1 o1 lS _ e=>?_),.slc (off:=0) (fE _ _ _) h2 o_⟩;injection e with e1 e2 e3;subst e1;exact⟨h3,λj y o' aO hj hy=>gF b o c' rfl j y o' aO hj hy⟩
theorem EG{ι:Map}{c:Nat->Option Obj}{w w':World}(hm:aM B ι c w)(hb:Below w.heap.size w w'){k n size:Nat}{ty:TypeId}{v:Value}{xs:aj}(hk:c k=none)(h:w'.ownsRow w.heap.size ty size v n xs)(cN:∀ u∈xs,flat u=true):
  ∃ au,Map.le ι au/\aM B au (aY c k (.row xs ty size)) w'/\aG au (.slice (some ⟨k,0,some 7⟩) n 0) v:=by
 have bj:=hm.call hb;rcases h.2 with ⟨h1,h2⟩|⟨g,cap,cur,h1,h2,h3,h4,h5,h6,h7⟩
 ·have hl:=h.1;rw[h2,lB]at hl;have hx:xs=[]:=lq hl;subst h1;subst h2;subst hx;exact⟨dB ι k .nil,gC (hm.dr k hk),bj.add hk (.inl ⟨rfl,rfl⟩) n_ n_ n_,.slcN (fE _ _ _)⟩
 ·subst h1;refine⟨dB ι k (.at g 0 cap),gC (hm.dr k hk),hm.new hb hk (.inr ⟨g,cap,cur,rfl,h3,h5,h6,?_⟩) (λb o cap _ e=>?_) n_ rfl,.slc (o:=0) (off:=0) (fE _ _ _) h4 o_⟩
  ·rw[h.1,h7];exact kg cN
  ·injection e with e1 e2 e3;subst e1;exact⟨h2,(yx.1 h3).1⟩
theorem YW{ι:Map}{c:Nat->Option Obj}{w w':World}(hm:aM B ι c w)(hb:Below w.heap.size w w'){k n size:Nat}{ty:TypeId}{v:Value}{xs:aj}(hk:c k=none)(h:w'.ownsRow w.heap.size ty size v n xs)(cN:∀ u∈xs,flat u=true):
  ∃ au,Map.le ι au/\aM B au (aY c k (.view xs)) w'/\aG au (.slice (some ⟨k,0,some 7⟩) n 0) v:=by
 refine yy (hm.call hb) hk (.YV h) cN λb o c' e j y o' aO hj hy he=>?_;have h1:=(hm.own j y b o' aO hj hy he).1;rcases h.2 with ⟨h2,_⟩|⟨g,cap,cur,h2,h3,_⟩
 ·rw[h2]at e;cases e
 ·rw[h2]at e;injection e with e1 e2;injection e1 with e1;injection e1 with e1;omega
theorem vo{w w':World}{ι:Map}{c:Nat->Option Obj}(hm:aM (aa.at w) ι c w'){k n size:Nat}{ty:TypeId}{cells:aj}{v:Value}(hk:c k=some (.row cells ty size))(hv:aG ι (.slice (some ⟨k,0,some 7⟩) n 0) v)
  (hn:n*size<=cells.length) (cN:∀ u∈cells,flat u=true):w'.ownsRow w.heap.size ty size v n (cells.take (n*size)):=by
 have hl:(cells.take (n*size)).length=n*size:=by rw[jL];omega
 refine⟨hl,?_⟩;rcases hv.gW rfl with ⟨hb,kh,pP,yo,he⟩|⟨b,oo,cap,c',hb,lp,mz,he⟩
 ·exact .inl ⟨he,kh⟩
 ·dsimp only at hb he;have ki:c'=cap:=by omega
  subst ki;obtain⟨l,h1,h2⟩:=hm.born k _ hk;rw[hb]at h1;injection h1 with h1;subst h1;have dH:=hm.own k _ b oo c' hk rfl hb;rcases h2 with h2|⟨b',aO,cur,e1,lW,dy,fX,jc⟩
  ·cases h2.1
  ·injection e1 with e1 e2 e3;subst e1;subst e2;subst e3;refine .inr ⟨b,c',cur,by rw[he],?_,lW,lp,dy,fX,?_⟩
   ·rcases eC b w.heap.size with h|h
    ·exact absurd h dH.2
    ·exact h
   ·have:=nj jc cN;have h3:=cI (List.take (n*size)) this;rw[Ml,nV hn]at h3;exact h3
inductive cz where
 |plain (v:Value)
 |row (v:Value) (n:Nat) (xs:aj)
def cz.real:cz->Value
 |.plain v=>v
 |.row v _ _=>v
def cz.OK(w:World):cz->Prop
 |.plain v=>flat v=true
 |.row v n xs=>cK w v n xs/\∀ u∈xs,flat u=true
def rK:Nat->List cz->aj
 |_,[]=>[]
 |k,.plain v::l=>v::rK k l
 |k,.row _ n _::l=>.slice (some ⟨k,0,some 7⟩) n 0::rK (k+1) l
def uo:Nat->List cz->aH
 |_,[]=>[]
 |k,.plain _::l=>uo k l
 |k,.row _ _ xs::l=>(k,.view xs)::uo (k+1) l
def s8:Nat->List cz->Nat
 |k,[]=>k
 |k,.plain _::l=>s8 k l
 |k,.row _ _ _::l=>s8 (k+1) l
theorem R3{w:World}:∀(l:List cz) (k:Nat) (ι:Map) (c:Nat->Option Obj),aM B ι c w->(∀ j x,c j=some x->x.owns=false)->eD c k->(∀ s∈l,cz.OK w s)->
  ∃ au c',Map.le ι au/\aM B au c' w/\(∀ j x,c' j=some x->x.owns=false)/\eD c' (s8 k l)/\cS c' (uo k l)/\(∀ j,j<k->c' j=c j)/\bI (aG au) (rK k l) (l.map cz.real)/\k<=s8 k l
 |[],k,ι,c,hm,ho,hu,_=>⟨ι,c,Map.le.refl _,hm,ho,hu,λk x h=>(by cases h),λ_ _=>rfl,.nil,bh _⟩
 |.plain v::l,k,ι,c,hm,ho,hu,hl=>by obtain⟨au,c',h1,h2,h3,h4,h5,h6,h7,h8⟩:=R3 l k ι c hm ho hu λs hs=>hl s (bB _ hs);exact⟨au,c',h1,h2,h3,h4,h5,h6,.cons (.same (hl _ (aT ..))) h7,h8⟩
 |.row v n xs::l,k,ι,c,hm,ho,hu,hl=>by
  obtain⟨hr,cN⟩:=hl _ (aT ..);obtain⟨bM,q1,q2,q3⟩:=yy hm (hu k (bh _)) hr cN λb o c' _ j y o' aO hj hy=>by rw[ho j y hj]at hy;cases hy
  obtain⟨au,c',h1,h2,h3,h4,h5,h6,h7,h8⟩:=R3 l (k+1) bM _ q2 (λj x hj=>by
   unfold aY at hj;split at hj
   ·injection hj with hj;subst hj;rfl
   ·exact ho j x hj) (λj hj=>by
   unfold aY;rw[ao o_];exact hu j o_) λs hs=>hl s (bB _ hs)
  refine⟨au,c',q1.trans h1,h2,h3,h4,λj x hj=>?_,λj hj=>?_,.cons (q3.mono h1) h7,by show k<=s8 (k+1) l;omega⟩
  ·unfold uo ag at hj;split at hj
   ·rename_i hb;injection hj with hj;subst hj;rw[<-j0 hb,h6 k o_];unfold aY;rw[aw rfl]
   ·exact h5 j x hj
  ·rw[h6 j o_];unfold aY;rw[ao o_]
theorem lC{f:FuncId}{fn:Func}{w:World}{v:Value}{ms:aH}{Q:Ending->World->Prop}(gv:P.follows .mixedOrders=true)(hf:P.funcs[f]?=some fn)(l:List cz)(hl:∀ s∈l,cz.OK w s)(n:Nat){N:Nat}(hN:N=(rK 0 l).length+(fn.ntmps-(rK 0 l).length))
  {rs:bE P (aa.at w) N}
  (h:nt (fQ (P:=P) fn n (rK 0 l) (uo 0 l) (s8 0 l) rs) ms=nu (fQ fn n (rK 0 l) (uo 0 l) (s8 0 l) rs) v ms)
  (hQ:∀ au bY v' w',aG au v v'->aM (aa.at w) au bY w'->(∀ p∈ms,bY p.1=some p.2)->bI (aG au) (rK 0 l) (l.map cz.real)->Q (.returned v') w'):Calls P f (l.map cz.real).toArray w Q:=by
 obtain⟨ι,c,h1,h2,h3,h4,h5,h6,h7,h8⟩:=R3 (B:=aa.at w) l 0 _ _ (qB w) n_ (λ_ _=>rfl) hl;exact rJ gv hf hN n h h7 h2 h5 h4 λau bY v' w' hle hc hm dz=>hQ au bY v' w' hc hm dz (h7.imp λ_ _ _ h=>h.mono hle)
def dp:Op->Option Operand
 |.call ⟨.value x,_,_⟩=>some x
 |_=>none
theorem jB{o:Oper}{x:Operand}{f:FuncId}{fi args ca:aj}{need:List (Nat×Option Obj)}{val:Value}{cR:aH}(ho:dp o.op=some x)(eG:gk P f=true)
  (h:∀ ι c w,aM B ι c w->(∀ p∈need,c p.1=p.2)->∀ args',bI (aG ι) (fi++args++ca) args'->Calls P f args'.toArray w λe w'=>∃ au v',e=.returned v'/\Map.le ι au/\aG au val v'/\aM B au (ll c cR) w') :
  cA P B o (.func (.func f) fi.toArray ca.toArray::args) need val cR:=by
 intro R ι c a w hv hm hn K Q hK;obtain⟨dst,op,ty,pos,after,guard⟩:=o;dsimp only at ho hv;unfold dp at ho;split at ho
 ·rename_i x' kV wF;injection ho with ho;subst ho;have yn:(Op.operands (.call ⟨.value x',kV,wF⟩)).toList=x'::kV.toList:=by simp[Op.operands,Call.operands]
  rw[yn]at hv;cases hv with
  |cons hx ry=>
  obtain⟨kf,eY,he,h1,h2⟩:=hx.B6;have ba:=(h1.append ry).append h2;dsimp only at ba;have e3:execOp a.eval ⟨dst,.call ⟨.value x',kV,wF⟩,ty,pos,after,guard⟩=callFunc f (kf++kV.map a.eval++eY):=by have:execOp a.eval ⟨dst,.call ⟨.value x',kV,wF⟩,ty,pos,after,guard⟩=(do let d <-Deferred.ofValue (a.eval x') (kV.map a.eval);invoke d.target d.args):=rfl;rw[this,he];rfl
  have e4:(kf++kV.map a.eval++eY:Array Value)=(kf.toList++List.map a.eval kV.toList++eY.toList).toArray:=by apply GG;simp
  refine⟨λ_ _=>trivial,?_⟩;rw[Me _ _ _ n_,e3,e4,Mt eG,Oper.uponIn_enter];refine⟨λe=>(by cases e),Mu.2 ((h ι c w hm hn _ ba).mono ?_)⟩
  rintro e w' ⟨au,v',rfl,q1,q2,q3⟩
  exact hK au v' w' q1 q2 q3
 ·cases ho
end
def yz:Code->Nat->Option Oper
 |.region _ ops _,k=>ops.toList.find? λo=>Nat.beq (Mr o) k
 |.seq x y,k=>match yz x k with|some o=>some o|none=>yz y k
 |.cond _ x y,k=>match yz x k with|some o=>some o|none=>yz y k
 |.block _ b,k=>yz b k
 |.loop b,k=>yz b k
 |.scope b,k=>yz b k
 |.rangeFunc _ _ x y,k=>match yz x k with|some o=>some o|none=>yz y k
 |_,_=>none
def av(fn:Func)(k:Nat):Oper:=match fn.body with|some c=>(match yz c k with|some o=>o|none=>default)|none=>default
def yA:Code->Nat->Option Code
 |.seq x y,k=>match yA x k with|some o=>some o|none=>yA y k
 |.cond _ x y,k=>match yA x k with|some o=>some o|none=>yA y k
 |.block id b,k=>if Nat.beq id k then some b else yA b k
 |.loop b,k=>yA b k
 |.scope b,k=>yA b k
 |.rangeFunc _ _ x y,k=>match yA x k with|some o=>some o|none=>yA y k
 |_,_=>none
def af(fn:Func)(k:Nat):Code:=match fn.body with|some c=>(match yA c k with|some o=>o|none=>.skip)|none=>.skip
def aE(c:Code):Code:=match c with|.loop b=>b|_=>.skip
section
variable{P:Program}{B:aa}{N:Nat}
def vI(n:Nat):Value:=.int .i64 n
def aX.sum(key i j s:Nat)(h:s=i+j)(hs:s<9223372036854775808):aX P B N:=
 .rw key (.int .i64 (IntKind.i64.wrap ((i:Int)+(j:Int)))) (vI s) (by
  have e:IntKind.i64.wrap ((i:Int)+(j:Int))=(s:Int):=by rw[c8];omega
  rw[e];rfl)
def aX.eV(key i j s:Nat)(h:i=s+j)(hs:i<9223372036854775808):aX P B N:=
 .rw key (.int .i64 (IntKind.i64.wrap ((i:Int)-(j:Int)))) (vI s) (by
  have e:IntKind.i64.wrap ((i:Int)-(j:Int))=(s:Int):=by rw[c8];omega
  rw[e];rfl)
def aX.lt(key i n:Nat)(b:Bool)(h:decide (i<n)=b):aX P B N:=
 .rw key (.bool (decide ((i:Int)<(n:Int)))) (.bool b) (by rw[<-h];congr 1;rw[s9];omega)
def aX.gt(key i n:Nat)(b:Bool)(h:decide (n<i)=b):aX P B N:=
 .rw key (.bool (decide ((i:Int)>(n:Int)))) (.bool b) (by rw[<-h];congr 1;rw[s9];omega)
def aX.ge(key i n:Nat)(b:Bool)(h:decide (n<=i)=b):aX P B N:=
 .rw key (.bool (decide ((i:Int)>=(n:Int)))) (.bool b) (by rw[<-h];congr 1;rw[s9];omega)
def aX.fh(key i n:Nat)(b:Bool)(h:decide (i=n)=b):aX P B N:=
 .rw key (.bool ((i:Int)==(n:Int))) (.bool b) (by
  rw[<-h];congr 1
  by_cases hi:i=n
  ·subst hi;simp
  ·have:¬((i:Int)=(n:Int)):=by omega
   rw[aJ hi];simpa using this)
def aX.wr(key:Nat)(k:IntKind)(m m':Int)(h:k.wrap m=m'):aX P B N:=.rw key (.int k (k.wrap m)) (.int k m') (by rw[h])
def aX.quo(key:Nat)(k:IntKind)(m m':Int)(h:m=m'):aX P B N:=.rw key (.int k m) (.int k m') (by rw[h])
def AN(P:Program)(o:Oper):Option Nat:=match o.op with
 |.indexAddr t _ _=>match P.underlying t with|some (.slice e)=>(match P.info? e with|some i=>some i.size|none=>none)|_=>none
 |_=>none
theorem MQ{o:Oper}{s:Nat}(ho:AN P o=some s){k off n cc i:Nat}{kd:IntKind}(hi:i<n):
  cA P B o [.slice (some ⟨k,off,some 7⟩) n cc,.int kd i] [] (.pointer (some ⟨k,off+i*s,some 7⟩)) []:=by
 unfold AN at ho;split at ho
 ·rename_i t x y bN;split at ho
  ·rename_i e ht;split at ho
   ·rename_i inf Ej;injection ho with ho;have:=X0 (P:=P) (B:=B) bN ht Ej (kd:=kd) (n:=(i:Int)) (len:=n) (cc:=cc) o_ o_ k off;rw[Int.toNat_natCast,ho]at this;exact this.step
   ·cases ho
  ·cases ho
 ·cases ho
def aX.ix(fn:Func)(key k n i:Nat)(hi:i<n)(ho:AN P (av fn key)=some 1):aX P B N:=
 .step key (av fn key) [.slice (some ⟨k,0,some 7⟩) n 0,vI i] [] (.pointer (some ⟨k,i,some 7⟩)) [] (by have:=MQ (B:=B) ho (k:=k) (off:=0) (cc:=0) (kd:=.i64) hi;rw[jZ,fZ]at this;exact this)
def aX.wP(fn:Func)(key k off n cc i:Nat)(hi:i<n)(ho:AN P (av fn key)=some 1):aX P B N:=
 .step key (av fn key) [.slice (some ⟨k,off,some 7⟩) n cc,vI i] [] (.pointer (some ⟨k,off+i,some 7⟩)) [] (by have:=MQ (B:=B) ho (k:=k) (off:=off) (cc:=cc) (kd:=.i64) hi;rw[fZ]at this;exact this)
def aX.c9(fn:Func)(key k n i s:Nat)(hi:i<n)(ho:AN P (av fn key)=some s):aX P B N:=
 .step key (av fn key) [.slice (some ⟨k,0,some 7⟩) n 0,vI i] [] (.pointer (some ⟨k,i*s,some 7⟩)) [] (by have:=MQ (B:=B) ho (k:=k) (off:=0) (cc:=0) (kd:=.i64) hi;rw[jZ]at this;exact this)
def R4(o:Oper):Option TypeId:=match o.op with|.load t _=>some t|_=>none
theorem aHi{o:Oper}{t:TypeId}(ho:R4 o=some t){k off:Nat}{x:Obj}{v:Value}(hx:x.reads=true)(hv:du P t x.cells off=some v):cA P B o [.pointer (some ⟨k,off,some 7⟩)] [(k,some x)] v []:=by
 unfold R4 at ho;split at ho
 ·rename_i t' y bN;injection ho with ho;subst ho;exact(XV bN hx hv).step
 ·cases ho
def aX.ld(fn:Func)(key t k off:Nat)(x:Obj)(v:Value)(hx:x.reads=true)(hv:du P t x.cells off=some v)(ho:R4 (av fn key)=some t):aX P B N:=
 .step key (av fn key) [.pointer (some ⟨k,off,some 7⟩)] [(k,some x)] v [] (aHi ho hx hv)
def YX(o:Oper):Option TypeId:=match o.op with|.store t _ _=>some t|_=>none
def aX.st(fn:Func)(key t k off:Nat)(x:Obj)(v:Value)(y:Obj)(hx:x.owns=true)(hv:eU P t x.cells off v=some y.cells)(hy:y=x.Md y.cells)(ho:YX (av fn key)=some t):aX P B N:=
 .step key (av fn key) [.pointer (some ⟨k,off,some 7⟩),v] [(k,some x)] undef [(k,y)] (by
  unfold YX at ho;split at ho
  ·rename_i t' a b bN;injection ho with ho;subst ho;rw[hy];exact(XW bN hx hv).step
  ·cases ho)
def MR(P:Program)(o:Oper):Option (TypeId×Nat×Nat×Value):=match o.op with
 |.makeSlice t _ _=>match P.underlying t with
  |some (.slice e)=>(match P.info? e with|some i=>(match i.zero with|some z=>some (e,i.size,i.bytes,z)|none=>none)|none=>none)
  |_=>none
 |_=>none
def aX.pS(fn:Func)(key k n e bytes:Nat)(z:Value)(cells:aj)(hc:List.replicate n z=cells)(hf:flat z=true)(hz:z.cells=#[z])(hb:bytes*n<=281474976710656)(hn:n<=maxLen)(ho:MR P (av fn key)=some (e,1,bytes,z)):aX P B N:=
 .step key (av fn key) [vI n,vI n] [(k,none)] (.slice (some ⟨k,0,some 7⟩) n 0) [(k,.row cells e 1)] (by
  subst hc;unfold MR at ho;split at ho
  ·rename_i t a b bN;split at ho
   ·rename_i e' ht;split at ho
    ·rename_i i hi;split at ho
     ·rename_i z' nT;injection ho with ho;injection ho with h1 ho;injection ho with h2 ho;injection ho with h3 h4;subst h1;subst h4;have:=X2 (P:=P) (B:=B) bN ht hi nT (kl:=.i64) (kc:=.i64) (l:=n) (cp:=n) (bh _) (by rw[h3];exact hb) hn (cells:=List.replicate n z') (by rw[h2,fZ,hz,toList_madeCells_one,kj s_]) (by rw[h2];simp) (λv hv=>by rw[List.eq_of_mem_replicate hv];exact hf) k
      rw[h2]at this;exact this.step
     ·cases ho
    ·cases ho
   ·cases ho
  ·cases ho)
def rL(P:Program)(o:Oper):Option (Bool×Bool×Nat):=match o.op with
 |.slice t _ lo hi none=>match P.underlying t with
  |some (.slice e)=>(match P.info? e with|some i=>some (lo.isSome,hi.isSome,i.size)|none=>none)
  |_=>none
 |_=>none
theorem GO{o:Oper}{lo hi:Bool}{s:Nat}(ho:rL P o=some (lo,hi,s)){k off n cc l h:Nat}(hl:lo=false->l=0)(hh:hi=false->h=n)(Mg:l<=h)(X1:h<=n)(hz:l<h\/l=0):
  cA P B o (.slice (some ⟨k,off,some 7⟩) n cc::((if lo then[vI l]else[])++(if hi then[vI h]else[]))) [] (.slice (some ⟨k,off+l*s,some 7⟩) (h-l) (cc+l)) []:=by
 unfold rL at ho;split at ho
 ·rename_i t x Cn hY bN;split at ho
  ·rename_i e ht;split at ho
   ·rename_i i R5;injection ho with ho;injection ho with h1 ho;injection ho with h2 h3;have:=aGM (P:=P) (B:=B) bN ht R5 (k:=k) (off:=off) (n:=n) (cc:=cc) (l:=l) (h:=h) (λe=>hl (by rw[<-h1,e];rfl)) (λe=>hh (by rw[<-h2,e];rfl)) Mg X1 hz;rw[h3]at this;have e1:bound Cn l=if lo then[vI l]else[]:=by rw[<-h1];cases Cn<;>rfl
    have e2:bound hY h=if hi then[vI h]else[]:=by rw[<-h2];cases hY<;>rfl
    rw[e1,e2]at this;exact this.step
   ·cases ho
  ·cases ho
 ·cases ho
def aX.upto(fn:Func)(key k n h s:Nat)(hh:h<=n)(ho:rL P (av fn key)=some (false,true,s)):aX P B N:=
 .step key (av fn key) [.slice (some ⟨k,0,some 7⟩) n 0,vI h] [] (.slice (some ⟨k,0,some 7⟩) h 0) [] (by have:=GO (B:=B) ho (k:=k) (off:=0) (n:=n) (cc:=0) (l:=0) (h:=h) (λ_=>rfl) n_ (kU _) hh (.inr rfl);simpa using this)
end
def ae(B n a:Nat):List Nat:=(List.range n).map λi=>a/B^i%B
def nd(B a:Nat):Nat:=if h:2<=B/\a≠0 then nd B (a/B)+1 else 0
termination_by a
decreasing_by exact YY (te h.2) h.1
section
variable{B:Nat}
theorem oI(n a:Nat):(ae B n a).length=n:=by simp[ae]
theorem eg{n a i:Nat}(h:i<n):(ae B n a)[i]?=some (a/B^i%B):=by simp[ae,h]
theorem JE{n m a:Nat}(h:m<=n):(ae B n a).take m=ae B m a:=by unfold ae;rw[<-Co,List.take_range,nV h]
theorem pf:nd B 0=0:=by unfold nd;simp
theorem R6(hB:2<=B){a:Nat}(ha:a≠0):nd B a=nd B (a/B)+1:=by rw[nd,dif_pos ⟨hB,ha⟩]
theorem dO(hB:2<=B):∀ a,a<B^nd B a:=by
 intro a;induction a using Nat.strongRecOn with
 |_ a ih=>
  by_cases ha:a=0
  ·subst ha;rw[pf];simp
  ·rw[R6 hB ha,dw];have:=ih (a/B) (YY (te ha) hB);exact(iy o_).1 this
theorem jd(hB:2<=B):∀{a n:Nat},a<B^n->nd B a<=n:=by
 intro a;induction a using Nat.strongRecOn with
 |_ a ih=>
  intro n h;by_cases ha:a=0
  ·subst ha;rw[pf];omega
  ·cases n with
   |zero=>simp at h;omega
   |succ n=>
    rw[R6 hB ha];rw[dw]at h;have:=ih (a/B) (YY (te ha) hB) (n:=n) ((iy o_).2 h);omega
theorem YZ(hB:2<=B){a n:Nat}(h:n<nd B a):B^n<=a:=by
 rcases eC a (B^n)with h1|h1
 ·have:=jd hB h1;omega
 ·exact h1
theorem iL(hB:2<=B){a b:Nat}(h:a<=b):nd B a<=nd B b:=jd hB (eW h (dO hB b))
theorem ur(hB:2<=B){a:Nat}(h:a≠0):0<nd B a:=by rw[R6 hB h];omega
theorem EH{n a:Nat}(h:a<B^(n+1)):a/B^n%B=a/B^n:=by
 refine dF ?_;have hp:0<B^n:=by
  rcases nZ B with hB|hB
  ·subst hB;simp at h
  ·exact cG hB
 rw[iy hp,cP,<-dw];exact h
theorem GP(hB:2<=B){n a:Nat}(h:a<B^(n+1)):a/B^n%B=0↔a<B^n:=by
 rw[EH h,Nat.div_eq_zero_iff];have:B^n≠0:=by have:=cG (n:=n) (show 0<B by omega);omega
 exact⟨λh=>h.resolve_left this,.inr⟩
def eH(B a b i:Nat):Nat:=(a%B^i+b%B^i)/B^i
def eh(B n i a:Nat):List Nat:=(List.range n).map λj=>if j<i then a/B^j%B else 0
theorem MS(n i a:Nat):(eh B n i a).length=n:=by simp[eh]
theorem R7(n a:Nat):eh B n 0 a=List.replicate n 0:=by apply wQ<;>simp[eh]
theorem GQ(n a:Nat):eh B n n a=ae B n a:=by unfold eh ae;exact yv λj hj=>by rw[aw (j5.1 hj)]
theorem MT{n i a d:Nat}(h:i<n)(hd:d=a/B^i%B):(eh B n i a).set i d=eh B n (i+1) a:=by
 subst hd;apply wQ
 ·simp[eh]
 ·intro j h1 h2;simp only[eh,ek,yB]at h2;rw[GR];simp only[eh,Cp,Cq];by_cases hj:i=j
  ·subst hj;simp
  ·rw[ao hj];by_cases h3:j<i
   ·rw[aw h3,aw o_]
   ·rw[ao h3,ao o_]
theorem pg(a i:Nat):a%B^(i+1)=a%B^i+a/B^i%B*B^i:=by rw[dw,MU];rw[cP]
theorem MV(a b:Nat):eH B a b 0=0:=by simp[eH,tf]
theorem EI(hB:0<B)(a b i:Nat):(a/B^i%B+b/B^i%B+eH B a b i)/B=eH B a b (i+1):=by
 unfold eH;rw[pg a i,pg b i];have hp:0<B^i:=cG hB;have e:a%B^i+a/B^i%B*B^i+(b%B^i+b/B^i%B*B^i)=(a%B^i+b%B^i)+(a/B^i%B+b/B^i%B)*B^i:=by rw[ft];omega
 rw[e,dw,<-kB,ph _ _ hp,mF]
theorem GS(hB:0<B)(a b i:Nat):(a/B^i%B+b/B^i%B+eH B a b i)%B=(a+b)/B^i%B:=by
 unfold eH;have hp:0<B^i:=cG hB;have e:(a+b)/B^i=a/B^i+b/B^i+(a%B^i+b%B^i)/B^i:=by
  have h1:=je a (B^i);have h2:=je b (B^i);have e2:a+b=(a%B^i+b%B^i)+(a/B^i+b/B^i)*B^i:=by rw[ft,cP (a/B^i),cP (b/B^i)];omega
  conv=>lhs;rw[e2]
  rw[ph _ _ hp];omega
 rw[e];rw[Nat.add_mod (a/B^i+b/B^i),Nat.add_mod (a/B^i%B+b/B^i%B),<-Nat.add_mod (a/B^i)]
theorem AO(hB:0<B)(a b i:Nat):eH B a b i<=1:=by
 unfold eH;have hp:0<B^i:=cG hB;have h1:=cH a hp;have h2:=cH b hp;have:(a%B^i+b%B^i)/B^i<2:=by rw[iy hp];omega
 omega
theorem gP(hB:0<B)(a i:Nat):a/B^i%B<B:=cH _ hB
theorem qC{a m i:Nat}(h:a<B^m)(hi:m<=i)(hB:0<B):a/B^i%B=0:=by rw[l4 (cx h (cY hB hi))];simp
theorem R8{a b n:Nat}(ha:a<B^n)(hb:b<B^n):eH B a b n=(a+b)/B^n:=by unfold eH;rw[dF ha,dF hb]
def kC(B a b i:Nat):Nat:=if a%B^i<b%B^i then 1 else 0
theorem R9(a b:Nat):kC B a b 0=0:=by simp[kC,tf]
theorem MW(a b i:Nat):kC B a b i<=1:=by unfold kC;split<;>omega
theorem Sa(hB:0<B)(a b i:Nat):(if a/B^i%B<b/B^i%B+kC B a b i then 1 else 0)=kC B a b (i+1):=by
 unfold kC;rw[pg a i,pg b i];have hp:0<B^i:=cG hB;have h1:=cH a hp;have h2:=cH b hp;generalize a%B^i=r at *;generalize b%B^i=s at *;generalize a/B^i%B=x at *;generalize b/B^i%B=y at *;generalize B^i=p at *;have lt:∀ u v:Nat,u<v->u*p+p<=v*p:=λu v h=>by rw[<-yC];exact e8 _ h
 have le:∀ u v:Nat,u<=v->u*p<=v*p:=λu v h=>e8 _ h;by_cases EJ:r<s
 ·rw[aw EJ];by_cases kk:x<y+1
  ·have:=le x y o_;rw[aw kk,aw o_]
  ·have:=lt y x o_;rw[ao kk,ao o_]
 ·rw[ao EJ];by_cases kk:x<y+0
  ·have:=lt x y o_;rw[aw kk,aw o_]
  ·have:=le y x o_;rw[ao kk,ao o_]
theorem Sb(hB:0<B){a b:Nat}(bZ:b<=a)(i:Nat):(a/B^i%B+2*B-b/B^i%B-kC B a b i)%B=(a-b)/B^i%B:=by
 unfold kC;have hp:0<B^i:=cG hB;have h1:=cH a hp;have h2:=cH b hp;have ea:=je a (B^i);have eb:=je b (B^i);generalize hA:a/B^i=A at *;generalize hA':b/B^i=A' at *;generalize a%B^i=r at *;generalize b%B^i=s at *;generalize B^i=p at *;have lt:∀ u v:Nat,u<v->p*u+p<=p*v:=λu v h=>by rw[<-MX];exact jr _ h
 have hx:=cH A hB;have hy:=cH A' hB;have dA:=je A B;have dA':=je A' B
 -- the quotient of the aUw
 have key:∀ br:Nat,br=(if r<s then 1 else 0)->A'+br<=A/\(a-b)/p=A-A'-br:=by
  intro br JF;by_cases EJ:r<s
  ·rw[aw EJ]at JF;subst JF;have MY:A'<A:=by
    rcases eC A' A with h|h
    ·exact h
    ·have:=jr p h;omega
   refine⟨MY,?_⟩;have e:a-b=(p+r-s)+p*(A-A'-1):=by
    have:=lt A' A MY;have e2:p*A=p*A'+p+p*(A-A'-1):=by rw[<-MX,<-oJ];congr 1;omega
    omega
   rw[e,JG _ _ hp,l4 o_,jZ]
  ·rw[ao EJ]at JF;subst JF;have MY:A'<=A:=by
    rcases eC A A' with h|h
    ·have:=lt A A' h;omega
    ·exact h
   refine⟨MY,?_⟩;have e:a-b=(r-s)+p*(A-A'):=by
    have e2:p*A=p*A'+p*(A-A'):=by rw[<-oJ];congr 1;omega
    omega
   rw[e,JG _ _ hp,l4 o_,jZ];rfl
 have JF:(if r<s then 1 else 0)<=1:=by split<;>omega
 obtain⟨k1,k2⟩:=key _ rfl;rw[k2];generalize (if r<s then 1 else 0)=br at *;have e:A%B+2*B-A'%B-br+B*(A/B)=(A-A'-br)+B*(A'/B+2):=by rw[oJ];omega
 have:=cI (·%B) e;simpa only[EK]using this
theorem yD(p:Nat->Prop)[DecidablePred p]:∀ n,p n->∃ e,e<=n/\p e/\∀ j,j<e->¬p j
 |0,h=>⟨0,bh _,h,λj hj=>by omega⟩
 |n+1,h=>by
  by_cases h0:p 0
  ·exact⟨0,by omega,h0,λj hj=>by omega⟩
  ·obtain⟨e,h1,h2,h3⟩:=yD (λj=>p (j+1)) n h;refine⟨e+1,by omega,h2,λj hj=>?_⟩;cases j with
   |zero=>exact h0
   |succ j=>exact h3 j o_
def cX(B n i s p:Nat):List Nat:=(List.range n).map λj=>if j<i then s/B^j%B else p/B^j%B
theorem wR(n i s p:Nat):(cX B n i s p).length=n:=by simp[cX]
theorem Cr{n i s p:Nat}{j:Nat}(hj:j<n)(h:i<=j):(cX B n i s p)[j]?=some (p/B^j%B):=by simp[cX,hj];omega
theorem yE{n i s p d:Nat}(h:i<n)(hd:d=s/B^i%B):(cX B n i s p).set i d=cX B n (i+1) s p:=by
 subst hd;apply wQ
 ·simp[cX]
 ·intro j h1 h2;simp only[cX,ek,yB]at h2;rw[GR];simp only[cX,Cp,Cq];by_cases hj:i=j
  ·subst hj;simp
  ·rw[ao hj];by_cases h3:j<i
   ·rw[aw h3,aw o_]
   ·rw[ao h3,ao o_]
theorem aHj(hB:0<B)(p t i:Nat):(p+t)/B^i=p/B^i+t/B^i+eH B p t i:=by
 have hp:0<B^i:=cG hB;unfold eH;have h1:=je p (B^i);have h2:=je t (B^i);have e2:p+t=(p%B^i+t%B^i)+(p/B^i+t/B^i)*B^i:=by rw[ft,cP (p/B^i),cP (t/B^i)];omega
 conv=>lhs;rw[e2]
 rw[ph _ _ hp];omega
theorem Y0(hB:0<B)(n at' p c:Nat):cX B n at' (p+c*B^at') p=ae B n p:=by
 unfold cX ae;refine yv λj _=>?_;by_cases h:j<at'
 ·rw[aw h];have e:B^at'=B^j*(B*B^(at'-j-1)):=by rw[<-Nat.pow_succ',<-ep];congr 1;omega
  rw[e,show c*(B^j*(B*B^(at'-j-1)))=B^j*(B*(c*B^(at'-j-1)))by rw[mG,mG c B],JG _ _ (cG hB),EK]
 ·rw[ao h]
theorem aHk(hB:0<B)(at' p c:Nat):eH B p (c*B^at') at'=0:=by unfold eH;rw[Y1,jn,l4 (cH _ (cG hB))]
theorem aHl(hB:0<B){n i p t:Nat}(ht:t<B^i)(hc:eH B p t i=0):cX B n i (p+t) p=ae B n (p+t):=by
 unfold cX ae;refine yv λj _=>?_;by_cases h:j<i
 ·rw[aw h]
 ·rw[ao h];have e:=aHj hB p t i;rw[hc,l4 ht,jn]at e;have e2:B^j=B^i*B^(j-i):=by rw[<-ep];congr 1;omega
  rw[e2,<-kB,<-kB,e]
theorem aHm(hB:0<B)(at' c:Nat):c*B^at'/B^at'%B=c%B:=by rw[Sc _ (cG hB)]
theorem aHn(hB:0<B){at' c:Nat}(h:c<B*B):c*B^at'/B^(at'+1)%B=c/B:=by rw[dw,<-kB,Sc _ (cG hB)];exact dF ((iy hB).2 h)
theorem aHo(hB:0<B){at' c:Nat}(h:c<B*B):c*B^at'<B^(at'+2):=by rw[dw,dw,fG,cP];exact Y2 h (cG hB)
def part(B a b i k:Nat):Nat:=(a%B^i)*b+a/B^i%B*(b%B^k)*B^i
theorem Cs(a b i:Nat):part B a b i 0=(a%B^i)*b:=by simp[part,tf]
theorem Y3(a b i k:Nat):part B a b i (k+1)=part B a b i k+a/B^i%B*(b/B^k%B)*B^(i+k):=by
 unfold part;rw[pg b k,ep,oJ,ft,ug]
 congr 2
 simp only[cP,mG]
theorem aHp{a b i m:Nat}(hb:b<B^m):part B a b i m=part B a b (i+1) 0:=by
 rw[Cs,pg a i];unfold part;rw[dF hb,ft]
 congr 1
 simp only[cP,mG]
theorem Y4(hB:0<B)(a b i k:Nat):part B a b i k<=a*b:=by
 have h1:a%B^(i+1)<=a:=JH _ _;have h2:part B a b i k<=(a%B^(i+1))*b:=by
  rw[pg a i];unfold part;rw[ft];refine Nat.add_le_add_left ?_ _;have h3:b%B^k<=b:=JH _ _;have:=jr (a/B^i%B) h3;have:=e8 (B^i) this
  calc _<=_:=this
   _=_:=by simp only[cP,mG]
 exact dh h2 (e8 _ h1)
theorem Y5{a b n m:Nat}(hB:0<B)(ha:a<B^n)(hb:b<B^m):a*b<B^(n+m+1):=by
 have h1:a*b<B^(n+m):=by rw[ep];exact pT ha hb
 exact cx h1 (cY hB o_)
theorem Y6(hB:0<B){d:Nat}(hd:0<d)(mH:d<=B)(a j:Nat):(a/B^(j+1)%d*B+a/B^j%B)/d=(a/d)/B^j%B/\(a/B^(j+1)%d*B+a/B^j%B)%d=a/B^j%d:=by
 have e1:a/B^(j+1)=a/B^j/B:=by rw[dw,kB]
 have e2:a/d/B^j=a/B^j/d:=by rw[kB,kB,cP]
 rw[e1,e2];generalize a/B^j=c;have h1:=je c B;have h2:=je (c/B) d;have h3:c/B%d<d:=cH _ hd;have h4:c%B<B:=cH _ hB;have h5:c=(c/B%d*B+c%B)+d*(B*(c/B/d)):=by
  have:B*(c/B)=B*(d*(c/B/d)+c/B%d):=by rw[h2]
  rw[oJ,mG]at this;rw[cP (c/B%d)];omega
 have h6:(c/B%d*B+c%B)/d<B:=by rw[iy hd];have:=e8 B (show c/B%d+1<=d by omega);rw[ft,pU]at this;rw[cP B d];omega
 constructor
 ·conv=>rhs;rw[h5]
  rw[JG _ _ hd,EK,dF h6]
 ·conv=>rhs;rw[h5]
  rw[EK]
def gz(B n i a:Nat):List Nat:=(List.range n).map λj=>if j<i then 0 else a/B^j%B
theorem MZ(n i a:Nat):(gz B n i a).length=n:=by simp[gz]
theorem M3(n a:Nat):gz B n n a=List.replicate n 0:=by
 apply wQ
 ·simp[gz]
 ·intro j h1 h2;simp only[gz,ek,yB]at h1;simp[gz,h1]
theorem JI(n a:Nat):gz B n 0 a=ae B n a:=by unfold gz ae;exact yv λj _=>by rw[ao o_]
theorem M4{n j a d:Nat}(h:j<n)(hd:d=a/B^j%B):(gz B n (j+1) a).set j d=gz B n j a:=by
 subst hd;apply wQ
 ·simp[gz]
 ·intro i h1 h2;simp only[gz,ek,yB]at h2;rw[GR];simp only[gz,Cp,Cq];by_cases hi:j=i
  ·subst hi;simp
  ·rw[ao hi];by_cases h3:i<j
   ·rw[aw h3,aw o_]
   ·rw[ao h3,ao o_]
theorem wS(a j:Nat):a/B^j=a/B^(j+1)*B+a/B^j%B:=by have:=je (a/B^j) B;rw[kB,<-dw,cP]at this;exact this.symm
theorem Y7{a b n:Nat}(ha:a<B^n)(hb:b<B^n)(t:Nat)(ht:t<=n)(h:∀ s,s<t->a/B^(n-1-s)%B=b/B^(n-1-s)%B):a/B^(n-t)=b/B^(n-t):=by
 induction t with
 |zero=>rw[GN,l4 ha,l4 hb]
 |succ t ih=>
  have ih:=ih o_ λs hs=>h s o_;have e:n-t=(n-(t+1))+1:=by omega
  rw[e]at ih;have h1:=h t o_;rw[show n-1-t=n-(t+1)by omega]at h1;rw[wS (B:=B) a,wS (B:=B) b,ih,h1]
theorem M5{a b j:Nat}(h:a/B^(j+1)=b/B^(j+1))(al:a/B^j%B<b/B^j%B):a<b:=by
 have h1:a/B^j<b/B^j:=by rw[wS (B:=B) a,wS (B:=B) b,h];omega
 rcases eC a b with h2|h2
 ·exact h2
 ·have:=Nat.div_le_div_right (c:=B^j) h2;omega
end
theorem mixed:prog.follows .mixedOrders=true:=by kernel_rfl
def aW(x:Nat):Value:=.int .u32 (x:Int)
def ak(l:List Nat):aj:=l.map aW
theorem fA(l:List Nat):∀ u∈ak l,flat u=true:=λu hu=>by obtain⟨x,_,rfl⟩:=di.1 hu;rfl
theorem kD{l:List Nat}{i x:Nat}(h:l[i]?=some x):(ak l)[i]?=some (aW x):=by simp[ak,h]
abbrev base:Nat:=4294967296
theorem fH(cells:aj)(i:Nat):du prog 176 cells i=cells[i]?:=by kernel_rfl
theorem aA{B:aa}{N:Nat}{c:Code}{fr:aV}{M:aH}{next:Nat}(rs:bE prog B N){r:lZ}(h:JC (iU 100 c fr M next rs) r.fr r.M=JD (iU 100 c fr M next rs) r.ex r.fr r.M r.next:=by kernel_rfl):ah prog B N c fr M next r:=fe mixed 100 rs h
theorem aHq{Bs:aa}{n a m:Nat}(hm:m+1<=n)(ha:a<base^m)(h63:n<=9223372036854775807):
  ah prog Bs 21 (aE (af f175 0)) [(0,.slice (some ⟨0,0,some 7⟩) (m+1) 0)] [(0,.view (ak (ae base n a)))] 1
   ⟨.normal,[(0,.slice (some ⟨0,0,some 7⟩) m 0)],[(0,.view (ak (ae base n a)))],1⟩:=by
 have hd:a/base^m%base=0:=(GP d_ (cx ha (cY d_ (yq m)))).2 ha;exact aA [
  .gt 5 (m+1) 0 true s_,
  .eV 10 (m+1) 1 m rfl o_,
  .ix f175 11 0 (m+1) m o_ k_,
  .ld f175 12 176 0 m (.view (ak (ae base n a))) (aW (a/base^m%base)) rfl (by rw[fH];exact kD (eg o_)) k_,
  .fh 13 (a/base^m%base) 0 true (by simp[hd]),
  .eV 18 (m+1) 1 m rfl o_,
  .upto f175 19 0 (m+1) m 1 o_ k_]
theorem aHr{Bs:aa}{n a m:Nat}(hm:m<=n)(ha:a<base^m)(hl:m=nd base a)(h63:n<=9223372036854775807):
  ah prog Bs 21 (aE (af f175 0)) [(0,.slice (some ⟨0,0,some 7⟩) m 0)] [(0,.view (ak (ae base n a)))] 1
   ⟨.exit 0,[(0,.slice (some ⟨0,0,some 7⟩) m 0)],[(0,.view (ak (ae base n a)))],1⟩:=by
 cases m with
 |zero=>exact aA [.gt 5 0 0 false s_]
 |succ m=>
  have hd:a/base^m%base≠0:=λe=>by have:=jd (B:=base) d_ ((GP d_ ha).1 e);omega
  exact aA [
   .gt 5 (m+1) 0 true s_,
   .eV 10 (m+1) 1 m rfl o_,
   .ix f175 11 0 (m+1) m o_ k_,
   .ld f175 12 176 0 m (.view (ak (ae base n a))) (aW (a/base^m%base)) rfl (by rw[fH];exact kD (eg o_)) k_,
   .fh 13 (a/base^m%base) 0 false (by simp[hd])]
theorem aHs{Bs:aa}{n a:Nat}(ha:a<base^n)(h63:n<=9223372036854775807):
  ah prog Bs 21 (.block 0 (af f175 0)) [(0,.slice (some ⟨0,0,some 7⟩) n 0)] [(0,.view (ak (ae base n a)))] 1
   ⟨.normal,[(0,.slice (some ⟨0,0,some 7⟩) (nd base a) 0)],[(0,.view (ak (ae base n a)))],1⟩:=by
 have hle:=jd (B:=base) d_ ha;have al:=dO (B:=base) d_ a
 have:=ch (P:=prog) (B:=Bs) (N:=21) (b:=aE (af f175 0)) (next:=1) (n-nd base a) (λi=>[(0,.slice (some ⟨0,0,some 7⟩) (n-i) 0)]) (λ_=>[(0,.view (ak (ae base n a)))])
  (r:=⟨.exit 0,[(0,.slice (some ⟨0,0,some 7⟩) (nd base a) 0)],[(0,.view (ak (ae base n a)))],1⟩) (λ_ _ _=>Iff.rfl)
  (λi hi=>by
   have e:n-i=(n-(i+1))+1:=by omega
   simp only[e];exact aHq o_ (cx al (cY d_ o_)) h63)
  (by
   have e:n-(n-nd base a)=nd base a:=by omega
   simp only[e];exact aHr hle al rfl h63) n_
 exact bO this
def vt(v:Value)(m:Nat):Value:=match v with|.slice a _ c=>.slice a m c|v=>v
theorem Y8{w:World}{v:Value}{n a:Nat}(hv:cK w v n (ak (ae base n a)))(ha:a<base^n)(h63:n<=9223372036854775807):
  Calls prog 175 #[v] w λe w'=>e=.returned (vt v (nd base a))/\Below w.heap.size w w':=by
 refine lC (Q:=λe w'=>e=.returned (vt v (nd base a))/\Below w.heap.size w w') mixed func175 [.row v n (ak (ae base n a))] (λs hs=>by simp at hs;subst hs;exact⟨hv,fA _⟩) 100 (N:=21) k_
  (rs:=[.code 0 _ _ _ _ _ (aHs ha h63)]) (v:=.slice (some ⟨0,0,some 7⟩) (nd base a) 0) (ms:=[]) k_ λau bY v' w' hc hm _ de=>⟨?_,hm.base⟩
 cases de with
 |cons h1 _=>
 congr 1
 rcases hc.gW rfl with ⟨q1,q2,_,_,q5⟩|⟨b,o,cap,c',q1,q2,q3,q5⟩<;>rcases h1.gW rfl with ⟨p1,p2,_,_,p5⟩|⟨b2,o2,rl,c2,p1,p2,p3,p5⟩
 ·have p5:v=.slice none 0 0:=p5;rw[q5,p5,q2];rfl
 ·rw[q1]at p1;cases p1
 ·rw[q1]at p1;cases p1
 ·rw[q1]at p1;injection p1 with p1;injection p1 with e1 e2 e3;subst e1;subst e2;subst e3;have p5:v=_:=p5;rw[q5,p5,show c'=c2 by omega];rfl
theorem aK{f:FuncId}{fn:Func}{args:aj}{v:Value}(hf:prog.funcs[f]?=some fn)(rs:∀ w,bE prog (aa.at w) (args.length+(fn.ntmps-args.length)))(h:∀ w,nt (fQ (P:=prog) fn 100 args [] 0 (rs w)) []=nu (fQ fn 100 args [] 0 (rs w)) v []:=by intro _;kernel_rfl)(de:args.all flat=true:=by kernel_rfl)(hv:flat v=true:=by kernel_rfl):aD prog f args v:=gE mixed hf 100 rs h de hv
theorem JJ{x y c:Nat}(hx:x<base)(hy:y<base)(hc:c<base):
  aD prog 222 [aW x,aW y,aW c] (.tuple #[aW ((x+y+c)%base),aW ((x+y+c)/base)]):=
 aK func222 (λ_=>[
  .wr 10 .u64 x x (by rw[jR];unfold base at *;omega),.wr 12 .u64 y y (by rw[jR];unfold base at *;omega),
  .wr 13 .u64 (x+y) ((x+y:Nat):Int) (by rw[jR];unfold base at *;omega),.wr 15 .u64 c c (by rw[jR];unfold base at *;omega),
  .wr 16 .u64 (((x+y:Nat):Int)+c) ((x+y+c:Nat):Int) (by rw[jR];unfold base at *;omega),
  .wr 18 .u32 ((x+y+c:Nat):Int) (((x+y+c)%base:Nat):Int) (by rw[nw];unfold base at *;omega),
  .quo 20 .u64 (((x+y+c:Nat):Int).fdiv (2^32)) (((x+y+c)/base:Nat):Int) (by rw[rM _ d_];unfold base at *;omega),
  .wr 21 .u32 (((x+y+c)/base:Nat):Int) (((x+y+c)/base:Nat):Int) (by rw[nw];unfold base at *;omega)])
theorem EL(n:Nat):List.replicate n (aW 0)=ak (List.replicate n 0):=by simp[ak]
theorem yF(cells:aj)(i d:Nat)(h:i<cells.length):eU prog 176 cells i (aW d)=some (cells.set i (aW d)):=by
 have e:eU prog 176 cells i (aW d)=if(Nat.ble (i+1) cells.length&&true)then some (iT cells i [aW d])else none:=by kernel_rfl
 rw[e,Mw h];rfl
theorem yG(l:List Nat)(i d:Nat):(ak l).set i (aW d)=ak (l.set i d):=by simp[ak,List.map_set]
theorem aHt{Bs:aa}{o:Oper}{y:Operand}(ho:dp o.op=some y){k n a:Nat}{x:Obj}(hx:x.reads=true)(hc:x.cells=ak (ae base n a))(ha:a<base^n)(h63:n<=9223372036854775807):
  cA prog Bs o [.func (.func 175) #[] #[],.slice (some ⟨k,0,some 7⟩) n 0] [(k,some x)] (.slice (some ⟨k,0,some 7⟩) (nd base a) 0) []:=by
 refine jB (fi:=[]) (ca:=[]) ho k_ λι c w hm hn args' de=>?_;obtain⟨v,rfl,h1⟩:=lT de;have hk:c k=some x:=hn _ (aT ..);have hr:=oH (len:=n) hm hk hx (by rw[hc];exact fA _) (λh=>h) h1;rw[hc,l5,kj (by simp[ak,oI])]at hr;refine(Y8 hr ha h63).mono ?_
 rintro e w' ⟨rfl,hb⟩
 refine⟨ι,_,rfl,Map.le.refl _,?_,hm.call hb⟩;have jS:=jd (B:=base) d_ ha;rcases h1.gW rfl with ⟨q1,q2,_,_,q5⟩|⟨b,oo,cap,c',q1,q2,q3,q5⟩
 ·rw[q5];have:nd base a=0:=by omega
  rw[this];exact .slcN q1
 ·rw[q5];exact .slc q1 o_ q3
def aX.trim{Bs:aa}{N:Nat}(fn:Func)(key k n a:Nat)(x:Obj)(hx:x.reads=true)(hc:x.cells=ak (ae base n a))(ha:a<base^n)(h63:n<=9223372036854775807){y:Operand}(ho:dp (av fn key).op=some y):aX prog Bs N:=
 .step key (av fn key) [.func (.func 175) #[] #[],.slice (some ⟨k,0,some 7⟩) n 0] [(k,some x)] (.slice (some ⟨k,0,some 7⟩) (nd base a) 0) [] (aHt ho hx hc ha h63)
section
variable{Bs:aa}{ka kb n m a b:Nat}
def sl(k n:Nat):Value:=.slice (some ⟨k,0,some 7⟩) n 0
def Ct(ka kb n m a b i:Nat):aV:=[(23,vI i),(22,vI n),(21,sl ka n),(0,sl ka n),(1,sl kb m),(5,sl 2 (n+1)),(6,aW (eH base a b i))]
def yH(ka kb n m a b i:Nat):aH:=[(ka,.view (ak (ae base n a))),(kb,.view (ak (ae base m b))),(2,.row (ak (eh base (n+1) i (a+b))) 176 1)]
theorem aHu{i:Nat}(hk:(ka=0/\kb=1)\/(ka=1/\kb=0))(hi:i<n)(hb:b<base^m)(hm:m<=n)(h63:n<9223372036854775807):
  ah prog Bs 54 (aE (af f209 0)) (Ct ka kb n m a b i) (yH ka kb n m a b i) 3 ⟨.normal,Ct ka kb n m a b (i+1),yH ka kb n m a b (i+1),3⟩:=by
 have hx:=gP (B:=base) d_ a i;have hy:=gP (B:=base) d_ b i;have hc:=AO (B:=base) d_ a b i;have yI:=JJ (c:=eH base a b i) hx hy (eW hc d_);rw[GS d_,EI d_]at yI;have bJ:eU prog 176 (ak (eh base (n+1) i (a+b))) i (aW ((a+b)/base^i%base))=some (ak (eh base (n+1) (i+1) (a+b))):=by rw[yF _ i _ (by simp[ak,MS];omega),yG,MT o_ rfl]
 by_cases jC:i<m
 ·let S:Nat->Nat->bE prog Bs 54:=λka kb=>[.lt 24 i n true (by simp[hi]),.ix f209 26 ka n i hi k_,.ld f209 27 176 ka i (.view (ak (ae base n a))) (aW (a/base^i%base)) rfl (by rw[fH];exact kD (eg hi)) k_,.lt 31 i m true (by simp[jC]),.ix f209 34 kb m i jC k_,.ld f209 35 176 kb i (.view (ak (ae base m b))) (aW (b/base^i%base)) rfl (by rw[fH];exact kD (eg jC)) k_,yI.at 42,.ix f209 45 2 (n+1) i o_ k_,.st f209 100045 176 2 i (.row (ak (eh base (n+1) i (a+b))) 176 1) (aW ((a+b)/base^i%base)) (.row (ak (eh base (n+1) (i+1) (a+b))) 176 1) rfl bJ rfl k_,.sum 46 i 1 (i+1) rfl o_]
  rcases hk with ⟨rfl,rfl⟩|⟨rfl,rfl⟩
  ·exact aA (S 0 1)
  ·exact aA (S 1 0)
 ·have wT:b/base^i%base=0:=qC hb o_ d_;rw[wT]at yI
  let S:Nat->Nat->bE prog Bs 54:=λka kb=>[.lt 24 i n true (by simp[hi]),.ix f209 26 ka n i hi k_,.ld f209 27 176 ka i (.view (ak (ae base n a))) (aW (a/base^i%base)) rfl (by rw[fH];exact kD (eg hi)) k_,.lt 31 i m false (by simp[jC]),yI.at 42,.ix f209 45 2 (n+1) i o_ k_,.st f209 100045 176 2 i (.row (ak (eh base (n+1) i (a+b))) 176 1) (aW ((a+b)/base^i%base)) (.row (ak (eh base (n+1) (i+1) (a+b))) 176 1) rfl bJ rfl k_,.sum 46 i 1 (i+1) rfl o_]
  rcases hk with ⟨rfl,rfl⟩|⟨rfl,rfl⟩
  ·exact aA (S 0 1)
  ·exact aA (S 1 0)
theorem aHv(hk:(ka=0/\kb=1)\/(ka=1/\kb=0)):
  ah prog Bs 54 (aE (af f209 0)) (Ct ka kb n m a b n) (yH ka kb n m a b n) 3 ⟨.exit 0,Ct ka kb n m a b n,yH ka kb n m a b n,3⟩:=by
 rcases hk with ⟨rfl,rfl⟩|⟨rfl,rfl⟩
 all_goals exact aA [.lt 24 n n false s_]
theorem aHw(hk:(ka=0/\kb=1)\/(ka=1/\kb=0))(hb:b<base^m)(hm:m<=n)(h63:n<9223372036854775807):
  ah prog Bs 54 (.block 0 (af f209 0)) (Ct ka kb n m a b 0) (yH ka kb n m a b 0) 3 ⟨.normal,Ct ka kb n m a b n,yH ka kb n m a b n,3⟩:=
 bO (ch (b:=aE (af f209 0)) (r:=⟨.exit 0,Ct ka kb n m a b n,yH ka kb n m a b n,3⟩) n (Ct ka kb n m a b) (yH ka kb n m a b) (λi k _=>jP (l:=yH ka kb n m a b i) (m:=yH ka kb n m a b 0) rfl k) (λi hi=>aHu hk hi hb hm h63) (aHv hk) n_)
noncomputable def Y9(hk:(ka=0/\kb=1)\/(ka=1/\kb=0))(ha:a<base^n)(hb:b<base^m)(hm:m<=n)(h63:n<35184372088832)(hs:a+b<base^(n+1))
  (bJ:eU prog 176 (ak (eh base (n+1) n (a+b))) n (aW (eH base a b n))=some (ak (ae base (n+1) (a+b)))):bE prog Bs 54:=
 [.sum 19 n 1 (n+1) rfl o_,.pS f209 20 2 (n+1) 176 4 (aW 0) (ak (eh base (n+1) 0 (a+b))) (by rw[R7,EL]) rfl rfl o_ (by simp[maxLen];omega) k_,.rw 6 (.int .u32 0) (aW (eH base a b 0)) (by rw[MV];rfl),.code 0 _ _ _ _ _ (aHw (ka:=ka) (kb:=kb) (a:=a) hk hb hm o_),.ix f209 51 2 (n+1) n o_ k_,.st f209 100051 176 2 n (.row (ak (eh base (n+1) n (a+b))) 176 1) (aW (eH base a b n)) (.row (ak (ae base (n+1) (a+b))) 176 1) rfl bJ rfl k_,.trim f209 53 2 (n+1) (a+b) (.row (ak (ae base (n+1) (a+b))) 176 1) rfl rfl hs o_ (y:=.func 175) k_]
end
def jD(w w':World)(v:Value)(a:Nat):Prop:=w'.ownsRow w.heap.size 176 1 v (nd base a) (ak (ae base (nd base a) a))
def iz(w:World)(v:Value)(a:Nat):Prop:=cK w v (nd base a) (ak (ae base (nd base a) a))
theorem wU{w w':World}{ι:Map}{c:Nat->Option Obj}(hm:aM (aa.at w) ι c w'){k n a:Nat}{v:Value}(hk:c k=some (.row (ak (ae base n a)) 176 1))(ha:a<base^n)(hv:aG ι (.slice (some ⟨k,0,some 7⟩) (nd base a) 0) v):jD w w' v a:=by
 have hle:=jd (B:=base) d_ ha;have:=vo hm hk hv (by simp[ak,oI];exact hle) (fA _);have e:(ak (ae base n a)).take (nd base a*1)=ak (ae base (nd base a) a):=by rw[fZ];unfold ak;rw[<-Co,JE hle]
 rw[e]at this;exact this
theorem JK{a b n:Nat}(ha:a<base^n)(hb:b<base^n):eU prog 176 (ak (eh base (n+1) n (a+b))) n (aW (eH base a b n))=some (ak (ae base (n+1) (a+b))):=by have h1:=AO (B:=base) d_ a b n;have h2:=R8 ha hb;rw[yF _ n _ (by simp[ak,MS]),yG,MT o_ (by rw[<-h2];exact(dF (eW h1 d_)).symm),GQ]
theorem JL{a b n:Nat}(ha:a<base^n)(hb:b<base^n):a+b<base^(n+1):=by have h1:base^n*2<=base^n*base:=jr _ d_;rw[dw];omega
theorem aHx{w:World}{va vb:Value}{a b:Nat}(ga:iz w va a)(kY:iz w vb b)(h1:nd base a<35184372088832)(h2:nd base b<35184372088832):
  Calls prog 209 #[va,vb] w λe w'=>∃ v,e=.returned v/\jD w w' v (a+b)/\Below w.heap.size w w':=by
 have ha:=dO (B:=base) d_ a;have hb:=dO (B:=base) d_ b;have hl:∀ s∈[cz.row va (nd base a) (ak (ae base (nd base a) a)),cz.row vb (nd base b) (ak (ae base (nd base b) b))],s.OK w:=by
  intro s hs;simp at hs;rcases hs with rfl|rfl
  ·exact⟨ga,fA _⟩
  ·exact⟨kY,fA _⟩
 unfold iz at ga kY;generalize nd base a=n at *;generalize nd base b=m at *;by_cases lv:n<m
 ·have hs:=JL hb (cx ha (cY d_ o_))
  refine lC (Q:=λe w'=>∃ v,e=.returned v/\jD w w' v (a+b)/\Below w.heap.size w w') mixed func209 [cz.row va n (ak (ae base n a)),cz.row vb m (ak (ae base m b))] hl 100 (N:=54) k_
   (rs:=(aX.lt 14 n m true (by simp[lv]):aX prog (aa.at w) 54)::Y9 (ka:=1) (kb:=0) (a:=b) (b:=a) (.inr ⟨rfl,rfl⟩) hb ha o_ o_ hs (JK hb (cx ha (cY d_ o_))))
   (v:=.slice (some ⟨2,0,some 7⟩) (nd base (b+a)) 0) (ms:=[(2,.row (ak (ae base (m+1) (b+a))) 176 1)]) k_ λau bY v' w' hc bj dz _=>⟨v',rfl,?_,bj.base⟩
  rw[mF a b];exact wU bj (dz _ (aT ..)) hs hc
 ·have hs:=JL ha (cx hb (cY d_ (show m<=n by omega)))
  refine lC (Q:=λe w'=>∃ v,e=.returned v/\jD w w' v (a+b)/\Below w.heap.size w w') mixed func209 [cz.row va n (ak (ae base n a)),cz.row vb m (ak (ae base m b))] hl 100 (N:=54) k_
   (rs:=(aX.lt 14 n m false (by simp[lv]):aX prog (aa.at w) 54)::Y9 (ka:=0) (kb:=1) (a:=a) (b:=b) (.inl ⟨rfl,rfl⟩) ha hb o_ o_ hs (JK ha (cx hb (cY d_ o_))))
   (v:=.slice (some ⟨2,0,some 7⟩) (nd base (a+b)) 0) (ms:=[(2,.row (ak (ae base (n+1) (a+b))) 176 1)]) k_ λau bY v' w' hc bj dz _=>⟨v',rfl,?_,bj.base⟩
  exact wU bj (dz _ (aT ..)) hs hc
theorem Cu{x:Nat}(h:x<base):x.testBit 31=decide (2147483648<=x):=by rw[Nat.testBit_eq_decide_div_mod_eq,s9];unfold base at h;omega
theorem aHy{x:Nat}(h:x<base):x/2147483648=if x.testBit 31 then 1 else 0:=by
 rw[Cu h];unfold base at h;by_cases h1:2147483648<=x
 ·rw[aB h1,aw rfl];omega
 ·rw[aJ h1,ao d_];omega
theorem aHz{x y b:Nat}(hx:x<base)(hy:y<base)(hb:b<=1):
  (((base-1-x)&&& y)||| ((base-1-(x ^^^ y))&&& ((x+2*base-y-b)%base)))/2147483648=if x<y+b then 1 else 0:=by
 have kk:x ^^^ y<base:=Za (n:=32) hx hy;have hd:(x+2*base-y-b)%base<base:=cH _ d_;have h1:base-1-x<base:=by unfold base at *;omega
 have h2:base-1-(x ^^^ y)<base:=by unfold base at *;omega
 rw[aHy (Zb (n:=32) (M6 _ hy) (M6 _ hd))];rw[Yn,Nat.testBit_and,Nat.testBit_and,Cu h1,Cu h2,Cu hy,Cu hd];have h3:(decide (2147483648<=x ^^^ y))=((decide (2147483648<=x))!=(decide (2147483648<=y))):=by rw[<-Cu kk,Nat.testBit_xor,Cu hx,Cu hy]
 have h4:decide (2147483648<=base-1-(x ^^^ y))=!(decide (2147483648<=x ^^^ y)):=by
  unfold base at *;by_cases h:2147483648<=x ^^^ y
  ·rw[aB h,aJ o_];rfl
  ·rw[aJ h,aB o_];rfl
 rw[h4,h3];unfold base at *;have e1:decide (2147483648<=4294967296-1-x)=!decide (2147483648<=x):=by
  by_cases h:2147483648<=x
  ·rw[aB h,aJ o_];rfl
  ·rw[aJ h,aB o_];rfl
 rw[e1];have fin:∀ p:Prop,[Decidable p]->(p↔x<y+b)->(if decide p=true then 1 else 0)=(if x<y+b then 1 else 0):=by
  intro p _ h;by_cases hp:p
  ·rw[aw (aB hp),aw (h.1 hp)]
  ·rw[ao (by simpa using hp),ao λh'=>hp (h.2 h')]
 by_cases c1:2147483648<=x<;>by_cases c2:2147483648<=y
 ·rw[aB c1,aB c2];simp only[JM,yJ,yK,bne_self_eq_false,M7,lD];exact fin _ o_
 ·rw[aB c1,aJ c2,ao (show ¬x<y+b by omega)];rfl
 ·rw[aJ c1,aB c2,aw (show x<y+b by omega)];rfl
 ·rw[aJ c1,aJ c2];simp only[M7,lD,M8,yK,bne_self_eq_false];exact fin _ o_
theorem GV{x:Nat}(h:x<base):(BitVec.ofInt 32 (x:Int))=BitVec.ofNat 32 x:=by simp
theorem EM{x:Nat}(h:x<base):(BitVec.ofNat 32 x).toNat=x:=by rw[BitVec.toNat_ofNat];exact dF h
theorem Zc{x y:Nat}(hx:x<base)(hy:y<base):IntKind.u32.wrap (((BitVec.ofInt IntKind.u32.bits (x:Int))&&& (BitVec.ofInt IntKind.u32.bits (y:Int))).toNat:Int)=((x&&& y:Nat):Int):=by show IntKind.u32.wrap (((BitVec.ofInt 32 (x:Int))&&& (BitVec.ofInt 32 (y:Int))).toNat:Int)=_;rw[GV hx,GV hy,BitVec.toNat_and,EM hx,EM hy,nw];have:x&&& y<base:=M6 (n:=32) _ hy;unfold base at this;omega
theorem Sd{x y:Nat}(hx:x<base)(hy:y<base):IntKind.u32.wrap (((BitVec.ofInt IntKind.u32.bits (x:Int))||| (BitVec.ofInt IntKind.u32.bits (y:Int))).toNat:Int)=((x||| y:Nat):Int):=by
 show IntKind.u32.wrap (((BitVec.ofInt 32 (x:Int))||| (BitVec.ofInt 32 (y:Int))).toNat:Int)=_;rw[GV hx,GV hy,BitVec.toNat_or,EM hx,EM hy,nw];have:x||| y<base:=Zb (n:=32) hx hy
 unfold base at this;omega
theorem Zd{x y:Nat}(hx:x<base)(hy:y<base):IntKind.u32.wrap (((BitVec.ofInt IntKind.u32.bits (x:Int)) ^^^ (BitVec.ofInt IntKind.u32.bits (y:Int))).toNat:Int)=((x ^^^ y:Nat):Int):=by show IntKind.u32.wrap (((BitVec.ofInt 32 (x:Int)) ^^^ (BitVec.ofInt 32 (y:Int))).toNat:Int)=_;rw[GV hx,GV hy,BitVec.toNat_xor,EM hx,EM hy,nw];have:x ^^^ y<base:=Za (n:=32) hx hy;unfold base at this;omega
theorem Ze{x:Nat}(hx:x<base):IntKind.u32.wrap (((BitVec.ofInt IntKind.u32.bits (if IntKind.u32.signed then -1 else IntKind.u32.max)) ^^^ (BitVec.ofInt IntKind.u32.bits (x:Int))).toNat:Int)=((base-1-x:Nat):Int):=by
 have h0:(if IntKind.u32.signed then -1 else IntKind.u32.max)=((base-1:Nat):Int):=by decide
 rw[h0,Zd d_ hx]
 congr 1
 have h1:=BitVec.toNat_not (x:=BitVec.ofNat 32 x);rw[show ~~~(BitVec.ofNat 32 x)=BitVec.allOnes 32 ^^^ BitVec.ofNat 32 x from rfl,BitVec.toNat_xor,EM hx]at h1;have h2:(BitVec.allOnes 32).toNat=base-1:=by decide
 rw[h2]at h1;exact h1
theorem Zf{x y b:Nat}(hx:x<base)(hy:y<base)(hb:b<=1):
  aD prog 221 [aW x,aW y,aW b] (.tuple #[aW ((x+2*base-y-b)%base),aW (if x<y+b then 1 else 0)]):=by
 have hd:(x+2*base-y-b)%base<base:=cH _ d_;have kk:x ^^^ y<base:=Za (n:=32) hx hy;have h1:base-1-x<base:=by unfold base at *;omega
 have h2:base-1-(x ^^^ y)<base:=by unfold base at *;omega
 have h3:(base-1-x)&&& y<base:=M6 (n:=32) _ hy;have h4:(base-1-(x ^^^ y))&&& ((x+2*base-y-b)%base)<base:=M6 (n:=32) _ hd;exact aK func221 (λ_=>[
  .wr 10 .u32 ((x:Int)-y) (((x+base-y)%base:Nat):Int) (by rw[nw];unfold base at *;omega),
  .wr 12 .u32 ((((x+base-y)%base:Nat):Int)-b) (((x+2*base-y-b)%base:Nat):Int) (by rw[nw];unfold base at *;omega),
  .quo 14 .u32 _ ((base-1-x:Nat):Int) (Ze hx),
  .quo 16 .u32 _ (((base-1-x)&&& y:Nat):Int) (Zc h1 hy),
  .quo 19 .u32 _ ((x ^^^ y:Nat):Int) (Zd hx hy),
  .quo 20 .u32 _ ((base-1-(x ^^^ y):Nat):Int) (Ze kk),
  .quo 22 .u32 _ (((base-1-(x ^^^ y))&&& ((x+2*base-y-b)%base):Nat):Int) (Zc h2 hd),
  .quo 23 .u32 _ ((((base-1-x)&&& y)||| ((base-1-(x ^^^ y))&&& ((x+2*base-y-b)%base)):Nat):Int) (Sd h3 h4),
  .quo 24 .u32 (((((base-1-x)&&& y)||| ((base-1-(x ^^^ y))&&& ((x+2*base-y-b)%base)):Nat):Int).fdiv (2^31)) ((if x<y+b then 1 else 0:Nat):Int) (by rw[<-aHz hx hy hb,rM _ d_];rfl)])
section
variable{Bs:aa}{n m a b:Nat}
def GW(n m a b i:Nat):aV:=[(15,vI i),(14,vI n),(13,sl 0 n),(1,sl 1 m),(5,sl 2 n),(6,aW (kC base a b i))]
def Cv(n m a b i:Nat):aH:=[(0,.view (ak (ae base n a))),(1,.view (ak (ae base m b))),(2,.row (ak (eh base n i (a-b))) 176 1)]
theorem aHA{i:Nat}(hi:i<n)(hb:b<base^m)(bZ:b<=a)(h63:n<9223372036854775807):
  ah prog Bs 41 (aE (af f210 0)) (GW n m a b i) (Cv n m a b i) 3 ⟨.normal,GW n m a b (i+1),Cv n m a b (i+1),3⟩:=by
 have hx:=gP (B:=base) d_ a i;have hy:=gP (B:=base) d_ b i;have hc:=MW (B:=base) a b i;have wW:=Zf hx hy hc;rw[show a/base^i%base+2*base-b/base^i%base-kC base a b i=a/base^i%base+2*base-b/base^i%base-kC base a b i from rfl,Sb d_ bZ,Sa d_]at wW;have bJ:eU prog 176 (ak (eh base n i (a-b))) i (aW ((a-b)/base^i%base))=some (ak (eh base n (i+1) (a-b))):=by rw[yF _ i _ (by simp[ak,MS];omega),yG,MT hi rfl]
 by_cases jC:i<m
 ·exact aA [.lt 16 i n true (by simp[hi]),.ix f210 18 0 n i hi k_,.ld f210 19 176 0 i (.view (ak (ae base n a))) (aW (a/base^i%base)) rfl (by rw[fH];exact kD (eg hi)) k_,.lt 23 i m true (by simp[jC]),.ix f210 26 1 m i jC k_,.ld f210 27 176 1 i (.view (ak (ae base m b))) (aW (b/base^i%base)) rfl (by rw[fH];exact kD (eg jC)) k_,wW.at 34,.ix f210 37 2 n i hi k_,.st f210 100037 176 2 i (.row (ak (eh base n i (a-b))) 176 1) (aW ((a-b)/base^i%base)) (.row (ak (eh base n (i+1) (a-b))) 176 1) rfl bJ rfl k_,.sum 38 i 1 (i+1) rfl o_]
 ·have wT:b/base^i%base=0:=qC hb o_ d_;rw[wT]at wW;exact aA [.lt 16 i n true (by simp[hi]),.ix f210 18 0 n i hi k_,.ld f210 19 176 0 i (.view (ak (ae base n a))) (aW (a/base^i%base)) rfl (by rw[fH];exact kD (eg hi)) k_,.lt 23 i m false (by simp[jC]),wW.at 34,.ix f210 37 2 n i hi k_,.st f210 100037 176 2 i (.row (ak (eh base n i (a-b))) 176 1) (aW ((a-b)/base^i%base)) (.row (ak (eh base n (i+1) (a-b))) 176 1) rfl bJ rfl k_,.sum 38 i 1 (i+1) rfl o_]
theorem aHB(hb:b<base^m)(bZ:b<=a)(h63:n<9223372036854775807):
  ah prog Bs 41 (.block 0 (af f210 0)) (GW n m a b 0) (Cv n m a b 0) 3 ⟨.normal,GW n m a b n,Cv n m a b n,3⟩:=
 bO (ch (b:=aE (af f210 0)) (r:=⟨.exit 0,GW n m a b n,Cv n m a b n,3⟩) n (GW n m a b) (Cv n m a b)
  (λi k _=>jP (l:=Cv n m a b i) (m:=Cv n m a b 0) rfl k) (λi hi=>aHA hi hb bZ h63) (aA [.lt 16 n n false s_]) n_)
end
theorem aHC{w:World}{va vb:Value}{a b:Nat}(ga:iz w va a)(kY:iz w vb b)(bZ:b<=a)(h1:nd base a<35184372088832):
  Calls prog 210 #[va,vb] w λe w'=>∃ v,e=.returned v/\jD w w' v (a-b)/\Below w.heap.size w w':=by
 have ha:=dO (B:=base) d_ a;have hb:=dO (B:=base) d_ b;have hl:∀ s∈[cz.row va (nd base a) (ak (ae base (nd base a) a)),cz.row vb (nd base b) (ak (ae base (nd base b) b))],s.OK w:=by
  intro s hs;simp at hs;rcases hs with rfl|rfl
  ·exact⟨ga,fA _⟩
  ·exact⟨kY,fA _⟩
 unfold iz at ga kY;generalize nd base a=n at *;generalize nd base b=m at *;have hs:a-b<base^n:=by omega
 refine lC (Q:=λe w'=>∃ v,e=.returned v/\jD w w' v (a-b)/\Below w.heap.size w w') mixed func210 [cz.row va n (ak (ae base n a)),cz.row vb m (ak (ae base m b))] hl 100 (N:=41) k_
  (rs:=[(aX.pS f210 12 2 n 176 4 (aW 0) (ak (eh base n 0 (a-b))) (by rw[R7,EL]) rfl rfl o_ (by simp[maxLen];omega) k_:aX prog (aa.at w) 41),.rw 6 (.int .u32 0) (aW (kC base a b 0)) (by rw[R9];rfl),.code 0 _ _ _ _ _ (aHB (n:=n) hb bZ o_),.trim f210 40 2 n (a-b) (.row (ak (eh base n n (a-b))) 176 1) rfl (by rw[<-GQ];rfl) hs o_ (y:=.func 175) k_])
  (v:=.slice (some ⟨2,0,some 7⟩) (nd base (a-b)) 0) (ms:=[(2,.row (ak (eh base n n (a-b))) 176 1)]) k_ λau bY v' w' hc bj dz _=>⟨v',rfl,?_,bj.base⟩
 have hk:=dz _ (aT ..);rw[GQ]at hk;exact wU bj hk hs hc
structure AP(g:Nat)(w w':World):Prop where
 os:sT w w'
 tape:w'.tape=w.tape
 output:w'.output=w.output
 size:w.heap.size<=w'.heap.size
 block:∀ k,k<w.heap.size->k≠g->w'.heap[k]?=w.heap[k]?
def aa.vu(w0:World)(g:Nat):aa where
 G w:=AP g w0 w
 cO k:=k<w0.heap.size/\k≠g
 lt w k h hk:=cx hk.1 h.size
 dep w w' h h1 h2 h3 h4 h5:=⟨h1.trans h.os,h2.trans h.tape,h3.trans h.output,dh h.size h4,λk hk hg=>(h5 k ⟨hk,hg⟩).trans (h.block k hk hg)⟩
section
variable{P:Program}{B:aa}{N:Nat}
theorem Se{w:World}{g cap size:Nat}{cur:Array Value}{ty:TypeId}{cells:aj}(hg:w.heap[g]?=some (.cells cur ty (0,0)))(jy:cap<=maxLen)(bA:cur.size=cap*size)(hc:cur.toList.take cells.length=cells)(cN:∀ v∈cells,flat v=true):
  aM (aa.vu w g) (dB (λ_=>none) 0 (.at g 0 cap)) (aY (λ_=>none) 0 (.row cells ty size)) w:=by
 have h0:aM (aa.vu w g) (λ_=>none) (λ_=>none) w:=
  ⟨⟨.refl w,rfl,rfl,bh _,λ_ _ _=>rfl⟩,λ_ _=>rfl,λk x h=>(by cases h),λk x b o cap h=>(by cases h),λk j x y b o cap o' aO h=>(by cases h),λk j x F b o cap v h=>(by cases h),λk x b o cap h=>(by cases h),λj F h=>(by cases h),λj k F F' h=>(by cases h),λ_ _ h=>(by cases h)⟩
 refine h0.add rfl (.inr ⟨g,cap,cur,rfl,hg,jy,bA,by rw[hc];exact kg cN⟩) (λb o cp _ e=>?_) n_ n_;injection e with e1 e2 e3;subst e1;exact⟨(yx.1 hg).1,λh=>h.2 rfl,λj y o' aO h=>(by cases h),λj F v h=>(by cases h),λj y o' aO h=>(by cases h)⟩
theorem Sf{w w':World}{ι:Map}{c:Nat->Option Obj}{g cap size:Nat}{ty:TypeId}{cells:aj}(hm:aM (aa.vu w g) ι c w')(qp:ι 0=some (.at g 0 cap))(hk:c 0=some (.row cells ty size))(cN:∀ v∈cells,flat v=true):
  AP g w w'/\∃ cur,w'.heap[g]?=some (.cells cur ty (0,0))/\cur.size=cap*size/\cur.toList.take cells.length=cells:=by
 refine⟨hm.base,?_⟩;obtain⟨l,h1,h2⟩:=hm.born 0 _ hk;rw[qp]at h1;injection h1 with h1;subst h1;rcases h2 with h2|⟨b,aO,cur,e1,e2,e3,e4,e5⟩
 ·cases h2.1
 ·injection e1 with e1 Cw Cx;subst e1;subst Cx;exact⟨cur,e2,e4,nj e5 cN⟩
theorem Zg(c:Nat->Option Obj)(k:Nat)(x:Obj):cS (aY c k x) [(k,x)]:=by
 intro j y hj;by_cases h:k=j
 ·subst h;have:ag [(k,x)] k=some x:=by simp[ag]
  rw[this]at hj;rw[<-hj];unfold aY;rw[aw rfl]
 ·have:ag [(k,x)] j=none:=by show(if Nat.beq k j then _ else _)=_;rw[nW h];rfl
  rw[this]at hj;cases hj
theorem aHD{ι:Map}{pre post:aj}{v:Value}(h1:∀ u∈pre,flat u=true)(h2:∀ u∈post,flat u=true):∀{l:aj},bI (aG ι) (pre++v::post) l->∃ v',aG ι v v'/\l=pre++v'::post:=by
 induction pre with
 |nil=>
  intro l h;cases h with
  |cons hv t=>exact⟨_,hv,by rw[nj t h2];rfl⟩
 |cons u pre ih=>
  intro l h;cases h with
  |cons hu t=>
   obtain⟨v',q1,q2⟩:=ih (λx hx=>h1 x (bB _ hx)) t;exact⟨v',q1,by rw[q2,hu.eR (h1 _ (aT ..))];rfl⟩
theorem aHE{o:Oper}{x:Operand}{f:FuncId}{fi args ca pre post:aj}{k n size:Nat}{ty:TypeId}{cells cells':aj}{val:Value}(ho:dp o.op=some x)(eG:gk P f=true)
  (de:fi++args++ca=pre++.slice (some ⟨k,0,some 7⟩) n 0::post) (Mk:∀ u∈pre,flat u=true) (Sg:∀ u∈post,flat u=true) (hn:0<n) (cN:∀ v∈cells,flat v=true) (AQ:∀ v∈cells',flat v=true) (nA:flat val=true)
  (h:∀ w g cap cur,w.heap[g]?=some (.cells cur ty (0,0))->n<=cap->cap<=maxLen->cur.size=cap*size->cur.toList.take cells.length=cells->Calls P f (pre++.slice (some ⟨g,0,none⟩) n cap::post).toArray w λe w'=>e=.returned val/\AP g w w'/\∃ fN,w'.heap[g]?=some (.cells fN ty (0,0))/\fN.size=cap*size/\fN.toList.take cells'.length=cells') :
  cA P B o (.func (.func f) fi.toArray ca.toArray::args) [(k,some (.row cells ty size))] val [(k,.row cells' ty size)]:=by
 refine jB ho eG λι c w hm jS args' ba=>?_;rw[de]at ba;have hk:c k=some (.row cells ty size):=jS _ (aT ..);obtain⟨v,hv,rfl⟩:=aHD Mk Sg ba;rcases hv.gW rfl with ⟨_,h0,_⟩|⟨g,oo,cap,c',hb,lp,mz,he⟩
 ·omega
 ·dsimp only at hb he;have ki:c'=cap:=by omega
  subst ki;obtain⟨l,q1,q2⟩:=hm.born k _ hk;rw[hb]at q1;injection q1 with q1;subst q1;rcases q2 with q2|⟨b,aO,cur,e1,lW,dy,fX,jc⟩
  ·cases q2.1
  ·injection e1 with e1 e2 e3;subst e1;subst e2;subst e3;rw[he];refine(h w g c' cur lW lp dy fX (nj jc cN)).mono ?_
   rintro e w' ⟨rfl,pV,fN,p1,p2,p3⟩
   refine⟨ι,val,rfl,Map.le.refl _,.same nA,hm.write hk rfl hb pV.os pV.tape pV.output pV.size (λj hj EN=>pV.block j hj EN) (.inr ⟨g,c',fN,rfl,p1,dy,p2,?_⟩) n_ rfl⟩;rw[p3];exact kg AQ
end
theorem aHF{x y:Nat}(hx:x<base)(hy:y<base):aD prog 233 [aW x,aW y] (.tuple #[aW (x*y/base),aW (x*y%base)]):=by
 have h:x*y<base*base:=pT hx hy;exact aK func233 (λ_=>[
  .wr 8 .u64 x x (by rw[jR];unfold base at *;omega),.wr 10 .u64 y y (by rw[jR];unfold base at *;omega),
  .wr 11 .u64 ((x:Int)*y) ((x*y:Nat):Int) (by rw[jR,<-nU];unfold base at *;omega),
  .quo 13 .u64 (((x*y:Nat):Int).fdiv (2^32)) ((x*y/base:Nat):Int) (by rw[rM _ d_];rfl),
  .wr 14 .u32 ((x*y/base:Nat):Int) ((x*y/base:Nat):Int) (by rw[nw];have:x*y/base<base:=(iy d_).2 h;unfold base at *;omega),
  .wr 16 .u32 ((x*y:Nat):Int) ((x*y%base:Nat):Int) (by rw[nw];unfold base at *;omega)])
section
variable{Bs:aa}{n p t:Nat}
def yL(n i p t:Nat):aH:=[(0,.row (ak (cX base n i (p+t) p)) 176 1)]
def JN(n i p t:Nat):aV:=[(0,sl 0 n),(11,vI i),(10,aW (eH base p t i))]
theorem Sh{i:Nat}(hi:i<n):eU prog 176 (ak (cX base n i (p+t) p)) i (aW ((p+t)/base^i%base))=some (ak (cX base n (i+1) (p+t) p)):=by rw[yF _ i _ (by simp[ak,wR];omega),yG,yE hi rfl]
theorem aHG{i:Nat}(hi:i<n)(ht:t<base^i)(hc:eH base p t i≠0)(h63:n<9223372036854775807):
  ah prog Bs 63 (aE (af f229 0)) (JN n i p t) (yL n i p t) 1 ⟨.normal,JN n (i+1) p t,yL n (i+1) p t,1⟩:=by
 have gm:=AO (B:=base) d_ p t i;have yI:=JJ (x:=p/base^i%base) (y:=t/base^i%base) (c:=eH base p t i) (gP d_ _ _) (gP d_ _ _) (eW gm d_);rw[GS d_,EI d_,qC ht (bh _) d_]at yI;exact aA [.rw 48 (.bool (((eH base p t i:Nat):Int)!=0)) (.bool true) (by congr 1;rw[uu];omega),.ix f229 56 0 n i hi k_,.ld f229 57 176 0 i (.row (ak (cX base n i (p+t) p)) 176 1) (aW (p/base^i%base)) rfl (by rw[fH];exact kD (Cr hi (bh _))) k_,yI.at 59,.ix f229 62 0 n i hi k_,.st f229 100062 176 0 i (.row (ak (cX base n i (p+t) p)) 176 1) (aW ((p+t)/base^i%base)) (.row (ak (cX base n (i+1) (p+t) p)) 176 1) rfl (Sh hi) rfl k_,.sum 50 i 1 (i+1) rfl o_]
theorem aHH{i:Nat}(hc:eH base p t i=0):ah prog Bs 63 (aE (af f229 0)) (JN n i p t) (yL n i p t) 1 ⟨.exit 0,[],yL n i p t,1⟩:=
 aA [.rw 48 (.bool (((eH base p t i:Nat):Int)!=0)) (.bool false) (by rw[hc];rfl)]
theorem aHI{i:Nat}(hi:i<=n)(ht:t<base^i)(hp:p<base^n)(hs:p+t<base^n)(h63:n<9223372036854775807):
  ah prog Bs 63 (.block 0 (af f229 0)) (JN n i p t) (yL n i p t) 1 ⟨.normal,[],[(0,.row (ak (ae base n (p+t))) 176 1)],1⟩:=by
 have h0:eH base p t (i+(n-i))=0:=by rw[show i+(n-i)=n by omega,R8 hp o_,l4 hs]
 obtain⟨e,h1,h2,h3⟩:=yD (λj=>eH base p t (i+j)=0) (n-i) h0;have M9:t<base^(i+e):=cx ht (cY d_ o_)
 have:=ch (P:=prog) (B:=Bs) (N:=63) (b:=aE (af f229 0)) (next:=1) (r:=⟨.exit 0,[],yL n (i+e) p t,1⟩) e (λj=>JN n (i+j) p t) (λj=>yL n (i+j) p t)
  (λj k _=>jP (l:=yL n (i+j) p t) (m:=yL n (i+0) p t) rfl k)
  (λj hj=>aHG o_ (cx ht (cY d_ o_)) (h3 j hj) h63) (aHH h2) n_
 have:=bO (id:=0) this;unfold yL at this;rw[aHl d_ M9 h2]at this;exact this
end
theorem aHJ{w:World}{g cap n at' p x y:Nat}{cur:Array Value}(hg:w.heap[g]?=some (.cells cur 176 (0,0)))(lp:n<=cap)(jy:cap<=maxLen)(bA:cur.size=cap*1)(hc:cur.toList.take (ak (ae base n p)).length=ak (ae base n p))
  (hx:x<base) (hy:y<base) (mB:at'+1<n) (hp:p<base^n) (hs:p+x*y*base^at'<base^n) (h63:n<35184372088832) :
  Calls prog 229 #[.slice (some ⟨g,0,none⟩) n cap,vI at',aW x,aW y] w λe w'=>e=.returned (.tuple #[])/\AP g w w'/\∃ fN,w'.heap[g]?=some (.cells fN 176 (0,0))/\fN.size=cap*1/\
   fN.toList.take (ak (ae base n (p+x*y*base^at'))).length=ak (ae base n (p+x*y*base^at')):=by
 have hm:=Se hg jy bA hc (fA _);have kk:x*y<base*base:=pT hx hy;have ht:=aHo (B:=base) d_ (at':=at') kk;have d0:=aHm (B:=base) d_ at' (x*y);have d1:=aHn (B:=base) d_ (at':=at') kk;have c0:=aHk (B:=base) d_ at' p (x*y);have m0:=Y0 (B:=base) d_ n at' p (x*y);have s1:eU prog 176 (ak (cX base n at' (p+x*y*base^at') p)) at' (aW ((p+x*y*base^at')/base^at'%base))=some (ak (cX base n (at'+1) (p+x*y*base^at') p)):=Sh o_;have s2:eU prog 176 (ak (cX base n (at'+1) (p+x*y*base^at') p)) (at'+1) (aW ((p+x*y*base^at')/base^(at'+1)%base))=some (ak (cX base n (at'+2) (p+x*y*base^at') p)):=Sh mB;have lo:=aHI (Bs:=aa.vu w g) (i:=at'+2) o_ ht hp hs o_;generalize x*y*base^at'=t at *;have Zh:=JJ (x:=p/base^at'%base) (y:=t/base^at'%base) (c:=eH base p t at') (gP d_ _ _) (gP d_ _ _) (by rw[c0];decide);rw[GS d_,EI d_,d0,c0]at Zh;have gm:=AO (B:=base) d_ p t (at'+1);have Zi:=JJ (x:=p/base^(at'+1)%base) (y:=t/base^(at'+1)%base) (c:=eH base p t (at'+1)) (gP d_ _ _) (gP d_ _ _) (eW gm d_);rw[GS d_,EI d_,d1]at Zi
 refine rJ (M:=[(0,.row (ak (ae base n p)) 176 1)]) (next:=1) (args:=[sl 0 n,vI at',aW x,aW y]) (args':=[.slice (some ⟨g,0,none⟩) n cap,vI at',aW x,aW y]) (v:=.tuple #[])
  (ms:=[(0,.row (ak (ae base n (p+t))) 176 1)]) (N:=63) mixed func229 k_ 100
  (rs:=[((aHF hx hy).at 15:aX prog (aa.vu w g) 63),.ix f229 23 0 n at' o_ k_,.ld f229 24 176 0 at' (.row (ak (ae base n p)) 176 1) (aW (p/base^at'%base)) rfl (by rw[fH];exact kD (eg o_)) k_,Zh.at 26,.ix f229 29 0 n at' o_ k_,.st f229 100029 176 0 at' (.row (ak (ae base n p)) 176 1) (aW ((p+t)/base^at'%base)) (.row (ak (cX base n (at'+1) (p+t) p)) 176 1) rfl (by rw[<-m0];exact s1) rfl k_,.sum 33 at' 1 (at'+1) rfl o_,.sum 36 at' 1 (at'+1) rfl o_,.ix f229 37 0 n (at'+1) mB k_,.ld f229 38 176 0 (at'+1) (.row (ak (cX base n (at'+1) (p+t) p)) 176 1) (aW (p/base^(at'+1)%base)) rfl (by rw[fH];exact kD (Cr mB (bh _))) k_,Zi.at 41,.ix f229 44 0 n (at'+1) mB k_,.st f229 100044 176 0 (at'+1) (.row (ak (cX base n (at'+1) (p+t) p)) 176 1) (aW ((p+t)/base^(at'+1)%base)) (.row (ak (cX base n (at'+2) (p+t) p)) 176 1) rfl s2 rfl k_,.sum 46 at' 2 (at'+2) rfl o_,.code 0 _ _ _ _ _ lo]) k_ ?_ hm ?_ ?_ ?_
 ·exact .cons (.slc (off:=0) (fE _ _ _) lp o_) (.cons (.same rfl) (.cons (.same rfl) (.cons (.same rfl) .nil)))
 ·exact Zg _ _ _
 ·intro k hk;unfold aY;rw[ao o_]
 ·intro au bY v' w' hle sV bj dz;obtain⟨q1,q2⟩:=Sf bj (hle 0 _ (fE _ _ _)) (dz _ (aT ..)) (fA _);exact⟨by rw[sV.eR rfl],q1,q2⟩
section
variable{Bs:aa}{n m a b:Nat}
def yM(n m a b i k:Nat):Obj:=.row (ak (ae base (n+m+1) (part base a b i k))) 176 1
def Si(N:Nat):Value:=.func (.func 229) #[sl 2 N] #[]
theorem aHK{o:Oper}{x:Operand}(ho:dp o.op=some x){i k:Nat}(hi:i<n)(hk:k<m)(ha:a<base^n)(hb:b<base^m)(h63:n+m+1<35184372088832):
  cA prog Bs o [Si (n+m+1),vI (i+k),aW (a/base^i%base),aW (b/base^k%base)] [(2,some (yM n m a b i k))] (.tuple #[]) [(2,yM n m a b i (k+1))]:=by
 refine aHE (fi:=[sl 2 (n+m+1)]) (args:=[vI (i+k),aW (a/base^i%base),aW (b/base^k%base)]) (ca:=[]) (pre:=[]) (post:=[vI (i+k),aW (a/base^i%base),aW (b/base^k%base)]) ho k_ rfl n_
  (λu hu=>by simp at hu;rcases hu with rfl|rfl|rfl<;>rfl) o_ (fA _) (fA _) rfl λw g cap cur h1 h2 h3 h4 h5=>?_
 have al:=Y5 (B:=base) d_ ha hb;rw[Y3]
 exact aHJ h1 h2 h3 h4 h5 (gP d_ _ _) (gP d_ _ _) o_ (eW (Y4 d_ _ _ _ _) al)
  (by rw[<-Y3];exact eW (Y4 d_ _ _ _ _) al) h63
def GX(n m a b i k:Nat):aV:=[(29,vI k),(28,vI m),(27,sl 1 m),(6,Si (n+m+1)),(7,vI i),(8,aW (a/base^i%base))]
def Cy(n m a b i k:Nat):aH:=[(1,.view (ak (ae base m b))),(2,yM n m a b i k)]
theorem aHL{i k:Nat}(hi:i<n)(hk:k<m)(ha:a<base^n)(hb:b<base^m)(h63:n+m+1<35184372088832):
  ah prog Bs 45 (aE (af f217 2)) (GX n m a b i k) (Cy n m a b i k) 3 ⟨.normal,GX n m a b i (k+1),Cy n m a b i (k+1),3⟩:=
 aA [.lt 30 k m true (by simp[hk]),.ix f217 32 1 m k hk k_,.ld f217 33 176 1 k (.view (ak (ae base m b))) (aW (b/base^k%base)) rfl (by rw[fH];exact kD (eg hk)) k_,.sum 37 i k (i+k) rfl o_,.step 40 (av f217 40) _ _ _ _ (aHK (x:=.tmp 34) k_ hi hk ha hb h63),.sum 41 k 1 (k+1) rfl o_]
theorem aHM{i:Nat}(hi:i<n)(ha:a<base^n)(hb:b<base^m)(h63:n+m+1<35184372088832):
  ah prog Bs 45 (.block 2 (af f217 2)) (GX n m a b i 0) (Cy n m a b i 0) 3 ⟨.normal,GX n m a b i m,[(1,.view (ak (ae base m b))),(2,yM n m a b (i+1) 0)],3⟩:=by
 have:=ch (P:=prog) (B:=Bs) (N:=45) (b:=aE (af f217 2)) (r:=⟨.exit 2,GX n m a b i m,Cy n m a b i m,3⟩) m (GX n m a b i) (Cy n m a b i)
  (λk j _=>jP (l:=Cy n m a b i k) (m:=Cy n m a b i 0) rfl j) (λk hk=>aHL hi hk ha hb h63) (aA [.lt 30 m m false s_]) n_
 have:=bO (id:=2) this;unfold Cy yM at this;rw[aHp hb]at this;exact this
def GY(n m i:Nat):aV:=[(22,vI i),(21,vI n),(20,sl 0 n),(1,sl 1 m),(5,sl 2 (n+m+1)),(6,Si (n+m+1))]
def Cz(n m a b i:Nat):aH:=[(0,.view (ak (ae base n a))),(1,.view (ak (ae base m b))),(2,yM n m a b i 0)]
theorem aHN{i:Nat}(hi:i<n)(ha:a<base^n)(hb:b<base^m)(h63:n+m+1<35184372088832):
  ah prog Bs 45 (aE (af f217 0)) (GY n m i) (Cz n m a b i) 3 ⟨.normal,GY n m (i+1),Cz n m a b (i+1),3⟩:=
 aA [.lt 23 i n true (by simp[hi]),.ix f217 25 0 n i hi k_,.ld f217 26 176 0 i (.view (ak (ae base n a))) (aW (a/base^i%base)) rfl (by rw[fH];exact kD (eg hi)) k_,.code 2 _ _ _ _ _ (aHM hi ha hb h63),.sum 42 i 1 (i+1) rfl o_]
theorem aHO(ha:a<base^n)(hb:b<base^m)(h63:n+m+1<35184372088832):
  ah prog Bs 45 (.block 0 (af f217 0)) (GY n m 0) (Cz n m a b 0) 3 ⟨.normal,GY n m n,Cz n m a b n,3⟩:=
 bO (ch (b:=aE (af f217 0)) (r:=⟨.exit 0,GY n m n,Cz n m a b n,3⟩) n (GY n m) (Cz n m a b)
  (λi k _=>jP (l:=Cz n m a b i) (m:=Cz n m a b 0) rfl k) (λi hi=>aHN hi ha hb h63) (aA [.lt 23 n n false s_]) n_)
end
theorem Sj(B n:Nat):ae B n 0=List.replicate n 0:=by apply wQ<;>simp[ae]
theorem aHP{w:World}{va vb:Value}{a b:Nat}(ga:iz w va a)(kY:iz w vb b)(h63:nd base a+nd base b+1<35184372088832):
  Calls prog 217 #[va,vb] w λe w'=>∃ v,e=.returned v/\jD w w' v (a*b)/\Below w.heap.size w w':=by
 have ha:=dO (B:=base) d_ a;have hb:=dO (B:=base) d_ b;have hl:∀ s∈[cz.row va (nd base a) (ak (ae base (nd base a) a)),cz.row vb (nd base b) (ak (ae base (nd base b) b))],s.OK w:=by
  intro s hs;simp at hs;rcases hs with rfl|rfl
  ·exact⟨ga,fA _⟩
  ·exact⟨kY,fA _⟩
 unfold iz at ga kY;generalize nd base a=n at *;generalize nd base b=m at *;have hs:=Y5 (B:=base) d_ ha hb;have ba:part base a b n 0=a*b:=by rw[Cs,dF ha]
 refine lC (Q:=λe w'=>∃ v,e=.returned v/\jD w w' v (a*b)/\Below w.heap.size w w') mixed func217 [cz.row va n (ak (ae base n a)),cz.row vb m (ak (ae base m b))] hl 100 (N:=45) k_
  (rs:=[(aX.sum 15 n m (n+m) rfl o_:aX prog (aa.at w) 45),.sum 16 (n+m) 1 (n+m+1) rfl o_,.pS f217 17 2 (n+m+1) 176 4 (aW 0) (yM n m a b 0 0).cells (by show _=ak (ae base (n+m+1) (part base a b 0 0));rw[Cs,rN,tf,lB,Sj,EL]) rfl rfl o_ (by simp[maxLen];omega) k_,.code 0 _ _ _ _ _ (aHO (n:=n) (m:=m) ha hb h63),.trim f217 44 2 (n+m+1) (a*b) (yM n m a b n 0) rfl (by rw[<-ba];rfl) hs o_ (y:=.func 175) k_])
  (v:=.slice (some ⟨2,0,some 7⟩) (nd base (a*b)) 0) (ms:=[(2,yM n m a b n 0)]) k_ λau bY v' w' hc bj dz _=>⟨v',rfl,?_,bj.base⟩
 have hk:=dz _ (aT ..);unfold yM at hk;rw[ba]at hk;exact wU bj hk hs hc
section
variable{P:Program}{B:aa}{N:Nat}
def GZ(o:Oper):Option BinOp:=match o.op with|.binOp b _ _ _ _=>some b|_=>none
theorem Na{o:Oper}{b:BinOp}(ho:GZ o=some b)(hb:b≠.eql/\b≠.neq){x y v:Value}(hx:flat x=true)(hy:flat y=true)(hv:flat v=true)(h:∀ t w,(binOp b t x y).run P w=.ok v w):
  cA P B o [x,y] [] v []:=by
 unfold GZ at ho;split at ho
 ·rename_i b' t p q t2 bN;injection ho with ho;subst ho;refine(B8 (λu hu=>by simp at hu;rcases hu with rfl|rfl<;>assumption) hv λρ fO w _=>?_).step;rw[bN]at fO;simp[Op.operands]at fO;have hg:(eqGuard b' t p q (ρ p) (ρ q)).run P w=.ok () w:=by unfold eqGuard;cases b'<;>first|rfl|exact absurd rfl hb.1|exact absurd rfl hb.2
  simp only[execOp,bN,fO.1,fO.2];rw[fO.1,fO.2]at hg;simp[hg,h]
 ·cases ho
def aX.shl(fn:Func)(key:Nat)(k:IntKind)(x r:Int)(n:Nat)(hr:k.wrap (x*2^(min n k.bits))=r)(ho:GZ (av fn key)=some .shl):aX P B N:=
 .step key (av fn key) [.int k x,vI n] [] (.int k r) [] (Na ho ⟨λe=>(by cases e),λe=>(by cases e)⟩ rfl rfl rfl λt w=>by
  have h0:¬((n:Int)<0):=by omega
  simp[binOp,Op.shift,vI,h0,hr])
def aX.shr(fn:Func)(key:Nat)(k:IntKind)(x r:Int)(n:Nat)(hr:x.fdiv (2^(min n k.bits))=r)(ho:GZ (av fn key)=some .shr):aX P B N:=
 .step key (av fn key) [.int k x,vI n] [] (.int k r) [] (Na ho ⟨λe=>(by cases e),λe=>(by cases e)⟩ rfl rfl rfl λt w=>by
  have h0:¬((n:Int)<0):=by omega
  simp[binOp,Op.shift,vI,h0,hr])
def aX.pW(fn:Func)(key:Nat)(k:IntKind)(x y r:Int)(hy:y≠0)(hr:k.wrap (x.tdiv y)=r)(ho:GZ (av fn key)=some .quo):aX P B N:=
 .step key (av fn key) [.int k x,.int k y] [] (.int k r) [] (Na ho ⟨λe=>(by cases e),λe=>(by cases e)⟩ rfl rfl rfl λt w=>by simp[binOp,Op.intDiv,hy,hr])
def aX.wX(fn:Func)(key:Nat)(k:IntKind)(x y r:Int)(hy:y≠0)(hr:x.tmod y=r)(ho:GZ (av fn key)=some .rem):aX P B N:=
 .step key (av fn key) [.int k x,.int k y] [] (.int k r) [] (Na ho ⟨λe=>(by cases e),λe=>(by cases e)⟩ rfl rfl rfl λt w=>by simp[binOp,Op.intDiv,hy,hr])
def G1(P:Program)(o:Oper):Bool:=match o.op with
 |.index t _ _=>match P.underlying t with|some .string=>true|_=>false
 |_=>false
theorem aHQ{o:Oper}(ho:G1 P o=true){s:ByteArray}{i:Nat}{c:UInt8}(hc:s[i]?=some c):cA P B o [.string s,vI i] [] (.int .u8 (c.toNat:Int)) []:=by
 unfold G1 at ho;split at ho
 ·rename_i t p q bN;split at ho
  ·rename_i ht;refine(B8 (λu hu=>by simp at hu;rcases hu with rfl|rfl<;>rfl) rfl λρ fO w _=>?_).step;rw[bN]at fO;simp[Op.operands]at fO;have h0:(0:Int)<=(i:Int):=by omega
   simp[execOp,bN,fO.1,fO.2,Instr.index,vI,asIntOf,iI ht,h0,hc]
  ·cases ho
 ·cases ho
def aX.sx(fn:Func)(key:Nat)(s:ByteArray)(i:Nat)(c:UInt8)(hc:s[i]?=some c)(ho:G1 P (av fn key)=true):aX P B N:=
 .step key (av fn key) [.string s,vI i] [] (.int .u8 (c.toNat:Int)) [] (aHQ ho hc)
def Sk(P:Program)(o:Oper):Bool:=match o.op with
 |.slice t _ (some _) none none=>match P.underlying t with|some .string=>true|_=>false
 |_=>false
theorem aHR{o:Oper}(ho:Sk P o=true){s:ByteArray}{i:Nat}(hi:i<=s.size):cA P B o [.string s,vI i] [] (.string (s.extract i s.size)) []:=by
 unfold Sk at ho;split at ho
 ·rename_i t p q bN;split at ho
  ·rename_i ht;refine(B8 (λu hu=>by simp at hu;rcases hu with rfl|rfl<;>rfl) rfl λρ fO w _=>?_).step;rw[bN]at fO;simp[Op.operands]at fO;have h0:(0:Int)<=(i:Int):=by omega
   have h1:(i:Int)<=(s.size:Int):=by omega
   simp[execOp,bN,fO.1,fO.2,Instr.sliceAt,Instr.slice,Instr.sliceBounds,Instr.sliceBound,vI,asIntOf,iI ht,h0,hi]
  ·cases ho
 ·cases ho
def aX.sf(fn:Func)(key:Nat)(s:ByteArray)(i:Nat)(hi:i<=s.size)(ho:Sk P (av fn key)=true):aX P B N:=
 .step key (av fn key) [.string s,vI i] [] (.string (s.extract i s.size)) [] (aHR ho hi)
end
def fR(l:List UInt8):Nat:=l.foldl (λa c=>a*256+c.toNat) 0
theorem Sl:∀(l:List UInt8) (a:Nat),l.foldl (λa c=>a*256+c.toNat) a=a*256^l.length+fR l
 |[],a=>by simp[fR]
 |c::l,a=>by have e:fR (c::l)=(0*256+c.toNat)*256^l.length+fR l:=Sl l (0*256+c.toNat);rw[vl,Sl l,e,oD,dw,ft,lB,jZ,fG,cP 256];omega
theorem JO(c:UInt8)(l:List UInt8):fR (c::l)=c.toNat*256^l.length+fR l:=by have:=Sl l (0*256+c.toNat);have e:fR (c::l)=List.foldl (λa c=>a*256+c.toNat) (0*256+c.toNat) l:=rfl;rw[e,this,lB,jZ]
theorem AR:∀(l:List UInt8),fR l<256^l.length
 |[]=>by simp[fR]
 |c::l=>by
  have h1:=AR l;have h2:c.toNat<256:=c.toNat_lt;rw[JO,oD,dw];have:c.toNat*256^l.length+256^l.length<=256^l.length*256:=by rw[<-yC,cP];exact jr _ o_
  omega
theorem Zj:∀(l:List UInt8) (i:Nat),i<l.length->∃ c,l[l.length-1-i]?=some c/\c.toNat=fR l/256^i%256
 |[],i,h=>by simp at h
 |c::l,i,h=>by
  rw[oD]at h;rw[JO];rcases eC i l.length with hi|hi
  ·obtain⟨d,h1,h2⟩:=Zj l i hi;refine⟨d,?_,?_⟩
   ·rw[oD,show l.length+1-1-i=(l.length-1-i)+1 by omega,List.getElem?_cons_succ];exact h1
   ·rw[h2];have e:256^l.length=256^i*(256*256^(l.length-i-1)):=by rw[<-Nat.pow_succ',<-ep];congr 1;omega
    rw[e,show c.toNat*(256^i*(256*256^(l.length-i-1)))=256^i*(256*(c.toNat*256^(l.length-i-1)))by rw[mG,mG c.toNat],mF,JG _ _ (cG d_),EK]
  ·have e:i=l.length:=by omega
   subst e;refine⟨c,by simp,?_⟩;have h1:=AR l;have h2:c.toNat<256:=c.toNat_lt;rw[cP,mF,JG _ _ (cG d_),l4 h1,jZ,dF h2]
def km(s:ByteArray):Nat:=fR s.data.toList
theorem Zk(s:ByteArray)(i:Nat):s[i]?=s.data.toList[i]?:=by
 by_cases h:i<s.size
 ·rw[getElem?_pos s i h,bd (by simpa using h)];rfl
 ·rw[getElem?_neg s i h,Av (by simpa using h)]
theorem Zl(s:ByteArray):km s<256^s.size:=AR _
theorem Sn(s:ByteArray){i:Nat}(h:i<s.size):∃ c,s[s.size-1-i]?=some c/\c.toNat=km s/256^i%256:=by rw[Zk];exact Zj s.data.toList i (by simpa using h)
theorem aHS{a i:Nat}:(a%256^i/4294967296^(i/4)%4294967296)||| (a/256^i%256*2^(8*(i%4)))=a%256^(i+1)/4294967296^(i/4)%4294967296:=by
 have hB:(4294967296:Nat)=256^4:=by decide
 have e1:(4294967296:Nat)^(i/4)=256^(4*(i/4)):=by rw[hB,<-rO]
 have e2:(2:Nat)^(8*(i%4))=256^(i%4):=by rw[rO]
 have e3:256^i=256^(4*(i/4))*256^(i%4):=by rw[<-ep];congr 1;omega
 have hq:0<256^(4*(i/4)):=cG d_;have hr:256^(i%4)*256<=4294967296:=by rw[hB,<-dw];exact cY d_ o_
 rw[e1,e2];have m1:a%256^i/256^(4*(i/4))=a/256^(4*(i/4))%256^(i%4):=by rw[e3,AU]
 have m2:a%256^(i+1)/256^(4*(i/4))=a/256^(4*(i/4))%(256^(i%4)*256):=by rw[dw,e3,fG,AU]
 have m3:a/256^i%256=a/256^(4*(i/4))/256^(i%4)%256:=by rw[e3,kB]
 rw[m1,m2,m3];generalize a/256^(4*(i/4))=c;have hp:0<256^(i%4):=cG d_;have h1:=cH c hp;have h2:c/256^(i%4)%256<256:=cH _ d_;have h3:c%(256^(i%4)*256)=c%256^(i%4)+256^(i%4)*(c/256^(i%4)%256):=MU;have h4:c%(256^(i%4)*256)<256^(i%4)*256:=cH _ o_;rw[dF (show c%256^(i%4)<4294967296 by omega),dF (show c%(256^(i%4)*256)<4294967296 by omega),h3];have e4:(256:Nat)^(i%4)=2^(8*(i%4)):=by rw[rO]
 rw[e4]at h1 ⊢;rw[Nat.or_comm,cP,<-Nb h1,mF]
theorem aHT{a i j:Nat}(h:j≠i/4):a%256^i/4294967296^j%4294967296=a%256^(i+1)/4294967296^j%4294967296:=by
 have hB:(4294967296:Nat)=256^4:=by decide
 have e1:(4294967296:Nat)^j=256^(4*j):=by rw[hB,<-rO]
 rw[e1];rcases Et h with h1|h1
 ·-- lower digits
  have k:∀ i,4*j+4<=i->a%256^i/256^(4*j)%4294967296=a/256^(4*j)%4294967296:=by
   intro i hi;have e3:256^i=256^(4*j)*(4294967296*256^(i-4*j-4)):=by rw[hB,<-ep,<-ep];congr 1;omega
   rw[e3,AU,JP]
  rw[k i o_,k (i+1) o_]
 ·have hp:∀ i,i<=4*j->a%256^i/256^(4*j)=0:=by intro i hi;exact l4 (cx (cH _ (cG d_)) (cY d_ hi))
  rw[hp i o_,hp (i+1) o_]
theorem aHU{a i n:Nat}(hi:i/4<n):(ae 4294967296 n (a%256^i)).set (i/4) (a%256^(i+1)/4294967296^(i/4)%4294967296)=ae 4294967296 n (a%256^(i+1)):=by
 apply wQ
 ·simp[ae]
 ·intro j h1 h2;simp only[ae,ek,yB]at h2;rw[GR];simp only[ae,Cp,Cq];by_cases hj:i/4=j
  ·rw[aw hj,hj]
  ·rw[ao hj];exact aHT (mA hj)
def BA(l:List UInt8):ByteArray:=⟨l.toArray⟩
theorem oK(l:List UInt8):(BA l).size=l.length:=rfl
theorem JQ(l:List UInt8)(i:Nat):(BA l)[i]?=l[i]?:=by rw[Zk];rfl
theorem aHV(l:List UInt8)(i:Nat):(BA l).extract i (BA l).size=BA (l.drop i):=by apply ByteArray.ext;rw[ByteArray.data_extract];show(l.toArray).extract i l.length=(l.drop i).toArray;apply GG;simp[kj]
def jE:List UInt8->Nat
 |[]=>0
 |c::l=>if c=0 then jE l+1 else 0
theorem Zm:∀ l:List UInt8,jE l<=l.length
 |[]=>bh _
 |c::l=>by unfold jE;have:=Zm l;split<;>simp<;>omega
theorem Zn:∀(l:List UInt8) (i:Nat),i<jE l->l[i]?=some 0
 |[],i,h=>by simp[jE]at h
 |c::l,i,h=>by
  unfold jE at h;split at h
  ·rename_i hc;cases i with
   |zero=>rw[hc];rfl
   |succ i=>exact Zn l i o_
  ·omega
theorem Zo:∀(l:List UInt8),jE l<l.length->∃ c,l[jE l]?=some c/\c≠0
 |[],h=>by simp at h
 |c::l,h=>by
  unfold jE at h ⊢;split at h
  ·rename_i hc;rw[aw hc];obtain⟨d,h1,h2⟩:=Zo l (by simpa using h);exact⟨d,h1,h2⟩
  ·rename_i hc;rw[ao hc];exact⟨c,rfl,hc⟩
def JR(l:List UInt8):List UInt8:=l.drop (jE l)
theorem aHW{x n:Nat}(hn:n<=32)(h:x*2^n<base):IntKind.u32.wrap ((x:Int)*2^(min n IntKind.u32.bits))=((x*2^n:Nat):Int):=by
 have e:(x:Int)*2^n=((x*2^n:Nat):Int):=by simp
 rw[show min n IntKind.u32.bits=n from nV hn,nw,e];unfold base at h;omega
section
variable{Bs:aa}{n N a:Nat}{s:ByteArray}
def G2(s:ByteArray)(n N i:Nat):aV:=[(13,vI i),(12,vI n),(0,.string s),(3,sl 0 N)]
def CA(N a i:Nat):aH:=[(0,.row (ak (ae base N (a%256^i))) 176 1)]
theorem aHX{i:Nat}(hn:n=s.size)(hN:N=(n+3)/4)(ha:a=km s)(hi:i<n)(h63:n<35184372088832):
  ah prog Bs 39 (aE (af f172 0)) (G2 s n N i) (CA N a i) 1 ⟨.normal,G2 s n N (i+1),CA N a (i+1),1⟩:=by
 obtain⟨c,gm,dj⟩:=Sn s (show i<s.size by omega);rw[<-hn]at gm;rw[<-ha]at dj;have wY:i/4<N:=by omega
 have hb:=aHS (a:=a) (i:=i);have h1:a%256^i/base^(i/4)%base<base:=gP d_ _ _;have h2:c.toNat*2^(8*(i%4))<base:=by have:c.toNat<256:=c.toNat_lt;have h3:2^(8*(i%4))<=2^24:=cY d_ o_;have:=yN (show c.toNat<=255 by omega) h3;unfold base;omega
 have bJ:eU prog 176 (ak (ae base N (a%256^i))) (i/4) (aW (a%256^(i+1)/base^(i/4)%base))=some (ak (ae base N (a%256^(i+1)))):=by rw[yF _ _ _ (by simp[ak,oI];exact wY),yG,aHU wY]
 have kX:((a%256^i/base^(i/4)%base||| c.toNat*2^(8*(i%4)):Nat):Int)=((a%256^(i+1)/base^(i/4)%base:Nat):Int):=by rw[dj];exact cI _ hb
 have hlen:(s.size:Int)=((n:Nat):Int):=by rw[hn]
 exact aA [.lt 14 i n true (by simp[hi]),.rw 17 (.int .i64 (s.size:Int)) (vI n) (by rw[hlen];rfl),.eV 18 n 1 (n-1) o_ o_,.eV 20 (n-1) i (n-1-i) o_ o_,.wr 23 .i64 (Int.tdiv (i:Int) 4) ((i/4:Nat):Int) (by rw[c8,yO o_];omega),.ix f172 24 0 N (i/4) wY k_,.ld f172 25 176 0 (i/4) (.row (ak (ae base N (a%256^i))) 176 1) (aW (a%256^i/base^(i/4)%base)) rfl (by rw[fH];exact kD (eg wY)) k_,.sx f172 28 s (n-1-i) c gm k_,.wr 29 .u32 (c.toNat:Int) (c.toNat:Int) (by rw[nw];have:=c.toNat_lt;omega),.quo 31 .i64 (Int.tmod (i:Int) 4) ((i%4:Nat):Int) (by rw[yP o_];omega),.wr 32 .i64 (8*((i%4:Nat):Int)) ((8*(i%4):Nat):Int) (by rw[c8];omega),.shl f172 33 .u32 (c.toNat:Int) ((c.toNat*2^(8*(i%4)):Nat):Int) (8*(i%4)) (aHW o_ h2) k_,.quo 34 .u32 _ _ ((Sd h1 h2).trans kX),.ix f172 35 0 N (i/4) wY k_,.st f172 100035 176 0 (i/4) (.row (ak (ae base N (a%256^i))) 176 1) (aW (a%256^(i+1)/base^(i/4)%base)) (.row (ak (ae base N (a%256^(i+1)))) 176 1) rfl bJ rfl k_,.sum 36 i 1 (i+1) rfl o_]
theorem aHY(hn:n=s.size)(hN:N=(n+3)/4)(ha:a=km s)(h63:n<35184372088832):
  ah prog Bs 39 (.block 0 (af f172 0)) (G2 s n N 0) (CA N a 0) 1 ⟨.normal,G2 s n N n,CA N a n,1⟩:=
 bO (ch (b:=aE (af f172 0)) (r:=⟨.exit 0,G2 s n N n,CA N a n,1⟩) n (G2 s n N) (CA N a)
  (λi k _=>jP (l:=CA N a i) (m:=CA N a 0) rfl k) (λi hi=>aHX hn hN ha hi h63) (aA [.lt 14 n n false s_]) n_)
end
theorem aHZ{w:World}{s:ByteArray}(h63:s.size<35184372088832):
  Calls prog 172 #[.string s] w λe w'=>∃ v,e=.returned v/\jD w w' v (km s)/\Below w.heap.size w w':=by
 have al:=Zl s;have hs:km s<base^((s.size+3)/4):=by
  have:(base:Nat)=256^4:=by decide
  rw[this,<-rO];exact cx al (cY d_ o_)
 have ba:km s%256^s.size=km s:=dF al
 refine lC (Q:=λe w'=>∃ v,e=.returned v/\jD w w' v (km s)/\Below w.heap.size w w') mixed func172 [cz.plain (.string s)] (λx hx=>by simp at hx;subst hx;rfl) 100 (N:=39) k_
  (rs:=[(aX.sum 8 s.size 3 (s.size+3) rfl o_:aX prog (aa.at w) 39),.wr 9 .i64 (Int.tdiv ((s.size+3:Nat):Int) 4) (((s.size+3)/4:Nat):Int) (by rw[c8,yO o_];omega),.pS f172 10 0 ((s.size+3)/4) 176 4 (aW 0) (ak (ae base ((s.size+3)/4) (km s%256^0))) (by rw[rN,tf,Sj,EL]) rfl rfl o_ (by simp[maxLen];omega) k_,.code 0 _ _ _ _ _ (aHY (n:=s.size) (N:=(s.size+3)/4) (a:=km s) rfl rfl rfl h63),.trim f172 38 0 ((s.size+3)/4) (km s) (.row (ak (ae base ((s.size+3)/4) (km s%256^s.size))) 176 1) rfl (by rw[ba];rfl) hs o_ (y:=.func 175) k_])
  (v:=.slice (some ⟨0,0,some 7⟩) (nd base (km s)) 0) (ms:=[(0,.row (ak (ae base ((s.size+3)/4) (km s%256^s.size))) 176 1)]) k_ λau bY v' w' hc bj dz _=>⟨v',rfl,?_,bj.base⟩
 have hk:=dz _ (aT ..);rw[ba]at hk;exact wU bj hk hs hc
section
variable{Bs:aa}{l:List UInt8}
def CB(l:List UInt8)(i:Nat):aV:=[(0,.string (BA (l.drop i))),(1,.int .u8 0)]
theorem Sp{i:Nat}:(((BA (l.drop i)).size:Nat):Int)=((l.length-i:Nat):Int):=by rw[oK,vg]
theorem aH0{i:Nat}(hi:i<jE l):ah prog Bs 17 (aE (af f223 0)) (CB l i) [] 0 ⟨.normal,CB l (i+1),[],0⟩:=by
 have hz:=Zn l i hi;have hle:=Zm l;have e:(BA (l.drop i)).extract 1 (BA (l.drop i)).size=BA (l.drop (i+1)):=by rw[aHV,Nc]
 have h1:1<=(BA (l.drop i)).size:=by rw[oK,vg];omega
 exact aA [.rw 6 (.int .i64 (((BA (l.drop i)).size:Nat):Int)) (vI (l.length-i)) (by rw[Sp];rfl),.gt 7 (l.length-i) 0 true (by simp;omega),.sx f223 10 (BA (l.drop i)) 0 0 (by rw[JQ,Eh];exact hz) k_,.sf f223 15 (BA (l.drop i)) 1 h1 k_,.rw 0 (.string ((BA (l.drop i)).extract 1 (BA (l.drop i)).size)) (.string (BA (l.drop (i+1)))) (by rw[e])]
theorem aH1:ah prog Bs 17 (aE (af f223 0)) (CB l (jE l)) [] 0 ⟨.exit 0,CB l (jE l),[],0⟩:=by
 by_cases h:jE l<l.length
 ·obtain⟨c,h1,h2⟩:=Zo l h;have h3:c.toNat≠0:=λe=>h2 (Nd.1 (by rw[e];rfl));exact aA [.rw 6 (.int .i64 (((BA (l.drop (jE l))).size:Nat):Int)) (vI (l.length-jE l)) (by rw[Sp];rfl),.gt 7 (l.length-jE l) 0 true (by simp;omega),.sx f223 10 (BA (l.drop (jE l))) 0 c (by rw[JQ,Eh];exact h1) k_,.fh 12 c.toNat 0 false (by simp[h3])]
 ·exact aA [.rw 6 (.int .i64 (((BA (l.drop (jE l))).size:Nat):Int)) (vI (l.length-jE l)) (by rw[Sp];rfl),.gt 7 (l.length-jE l) 0 false (by simp;omega)]
theorem aH2:ah prog Bs 17 (.block 0 (af f223 0)) (CB l 0) [] 0 ⟨.normal,CB l (jE l),[],0⟩:=
 bO (ch (b:=aE (af f223 0)) (r:=⟨.exit 0,CB l (jE l),[],0⟩) (jE l) (CB l) (λ_=>[]) (λi k _=>Iff.rfl) (λi hi=>aH0 hi) aH1 n_)
end
theorem aH3(l:List UInt8):aD prog 223 [.string (BA l),.int .u8 0] (.string (BA (JR l))):=
 aK func223 (λ_=>[.code 0 _ _ _ _ _ (aH2 (l:=l))])
theorem Zp(l:List UInt8):(BA l).toList=l:=by rw[ByteArray.toList_eq];rfl
theorem EO(l:List UInt8):((BA l).toList==(ByteArray.mk #[]).toList)=decide (l=[]):=by rw[Zp,show(ByteArray.mk #[]).toList=[]from Zp []];cases l<;>rfl
theorem aH4(l:List UInt8):aD prog 206 [.string (BA l),.string ⟨#[0]⟩] (.string (BA (JR l))):=by
 by_cases h:l=[]
 ·subst h;exact aK func206 (λ_=>[.rw 8 (.bool ((BA []).toList==(ByteArray.mk #[]).toList)) (.bool true) (by rw[EO];rfl)])
 ·exact aK func206 (λ_=>[.rw 8 (.bool ((BA l).toList==(ByteArray.mk #[]).toList)) (.bool false) (by rw[EO,aJ h]),(aH3 l).at 25])
theorem Sq{x y:Nat}(hx:x<18446744073709551616)(hy:y<18446744073709551616):IntKind.u64.wrap (((BitVec.ofInt IntKind.u64.bits (x:Int))||| (BitVec.ofInt IntKind.u64.bits (y:Int))).toNat:Int)=((x||| y:Nat):Int):=by
 show IntKind.u64.wrap (((BitVec.ofInt 64 (x:Int))||| (BitVec.ofInt 64 (y:Int))).toNat:Int)=_;have e:∀ x:Nat,(BitVec.ofInt 64 (x:Int))=BitVec.ofNat 64 x:=λx=>by simp
 have t:∀ x:Nat,x<18446744073709551616->(BitVec.ofNat 64 x).toNat=x:=λx h=>by rw[BitVec.toNat_ofNat];exact dF h
 rw[e,e,BitVec.toNat_or,t x hx,t y hy,jR];have:x||| y<18446744073709551616:=Zb (n:=64) hx hy
 omega
theorem aH5{hi lo y:Nat}(hh:hi<y)(hl:lo<base)(hy:y<base):
  aD prog 220 [aW hi,aW lo,aW y] (.tuple #[aW ((hi*base+lo)/y),aW ((hi*base+lo)%y)]):=by
 have kX:hi*base||| lo=hi*base+lo:=by have:=Nb (i:=32) hl hi;rw[cP];exact this.symm
 have hs:hi*base+lo<18446744073709551616:=by clear kX;unfold base at *;omega
 have hq:(hi*base+lo)/y<base:=by rw[iy o_];have:=e8 base (show hi+1<=y by omega);rw[cP base y];clear kX;unfold base at *;omega
 have hr:(hi*base+lo)%y<base:=l8 (cH _ o_) hy;have wT:(y:Int)≠0:=by omega
 have h64:base=4294967296:=rfl;have hA:hi*base<18446744073709551616:=eW (JS _ _) hs;have G3:IntKind.u64.wrap ((hi:Int)*2^32)=((hi*base:Nat):Int):=by
  have e:(hi:Int)*2^32=((hi*base:Nat):Int):=by rw[nU];rfl
  rw[e,jR];generalize hi*base=H at hA ⊢;omega
 have hB:lo<18446744073709551616:=l8 hl d_;have key:∀ H:Nat,H=hi*base->IntKind.u64.wrap (((BitVec.ofInt IntKind.u64.bits (H:Int))||| (BitVec.ofInt IntKind.u64.bits (lo:Int))).toNat:Int)=((hi*base+lo:Nat):Int):=by intro H hH;rw[Sq (by rw[hH];exact hA) hB,hH,kX]
 obtain⟨H,hH⟩:∃ H,H=hi*base:=⟨_,rfl⟩;have h22:=key H hH;rw[<-hH]at G3;generalize hi*base+lo=S at *;have u64:∀{z:Nat},z<base->IntKind.u64.wrap (z:Int)=z:=λ{z} h=>by rw[jR];unfold base at h;omega
 have u32:∀{z:Nat},z<base->IntKind.u32.wrap (z:Int)=z:=λ{z} h=>by rw[nw];unfold base at h;omega
 have nq:IntKind.u64.wrap (Int.tdiv (S:Int) y)=((S/y:Nat):Int):=by rw[yO o_,<-tg];exact u64 hq
 have nB:Int.tmod (S:Int) y=((S%y:Nat):Int):=by rw[yP o_];rfl
 exact aK func220 (λ_=>[
  .rw 10 (.bool ((y:Int)!=0)) (.bool true) (by congr 1;rw[uu];exact wT),
  .rw 14 (.bool (decide ((y:Int)<=(hi:Int)))) (.bool false) (by congr 1;rw[Zq];omega),
  .wr 18 .u64 hi hi (u64 o_),.wr 19 .u64 ((hi:Int)*2^32) (H:Int) G3,.wr 21 .u64 lo lo (u64 hl),
  .quo 22 .u64 _ (S:Int) h22,.wr 25 .u64 y y (u64 hy),
  .pW f220 26 .u64 (S:Int) y ((S/y:Nat):Int) wT nq k_,.wr 27 .u32 ((S/y:Nat):Int) ((S/y:Nat):Int) (u32 hq),
  .wr 30 .u64 y y (u64 hy),
  .wX f220 31 .u64 (S:Int) y ((S%y:Nat):Int) wT nB k_,.wr 32 .u32 ((S%y:Nat):Int) ((S%y:Nat):Int) (u32 hr)])
def df(i:Nat):Value:=.int .i64 ((i:Int)-1)
theorem dT(j:Nat):df (j+1)=vI j:=by
 unfold df vI;have e:((j+1:Nat):Int)-1=(j:Int):=by omega
 rw[e]
theorem oL{j:Nat}(h:j<9223372036854775807):IntKind.i64.wrap ((j:Int)-1)=(j:Int)-1:=by rw[c8];omega
section
variable{Bs:aa}{n a d:Nat}
def rP(n a d i:Nat):aV:=[(8,df i),(6,sl 1 n),(7,aW (a/base^i%d)),(0,sl 0 n),(1,aW d)]
def CC(n a d i:Nat):aH:=[(0,.view (ak (ae base n a))),(1,.row (ak (gz base n i (a/d))) 176 1)]
theorem Nf{j:Nat}(hj:j<n)(hd:0<d)(mH:d<base)(h63:n<35184372088832):
  ah prog Bs 35 (aE (af f202 0)) (rP n a d (j+1)) (CC n a d (j+1)) 2 ⟨.normal,rP n a d j,CC n a d j,2⟩:=by
 have bJ:eU prog 176 (ak (gz base n (j+1) (a/d))) j (aW (a/d/base^j%base))=some (ak (gz base n j (a/d))):=by rw[yF _ _ _ (by simp[ak,MZ];exact hj),yG,M4 hj rfl]
 have hdiv:=aH5 (hi:=a/base^(j+1)%d) (lo:=a/base^j%base) (y:=d) (cH _ hd) (gP d_ _ _) mH;obtain⟨q1,q2⟩:=Y6 (B:=base) d_ hd (iM mH) a j;rw[q1,q2]at hdiv;exact aA [.rw 15 (df (j+1)) (vI j) (dT j),.ge 16 j 0 true s_,.rw 21 (df (j+1)) (vI j) (dT j),.rw 24 (df (j+1)) (vI j) (dT j),.ix f202 25 0 n j hj k_,.ld f202 26 176 0 j (.view (ak (ae base n a))) (aW (a/base^j%base)) rfl (by rw[fH];exact kD (eg hj)) k_,hdiv.at 28,.ix f202 31 1 n j hj k_,.st f202 100031 176 1 j (.row (ak (gz base n (j+1) (a/d))) 176 1) (aW (a/d/base^j%base)) (.row (ak (gz base n j (a/d))) 176 1) rfl bJ rfl k_,.rw 17 (df (j+1)) (vI j) (dT j),.wr 18 .i64 ((j:Int)-1) ((j:Int)-1) (oL o_)]
theorem aH6(hd:0<d)(mH:d<base)(h63:n<35184372088832):
  ah prog Bs 35 (.block 0 (af f202 0)) (rP n a d n) (CC n a d n) 2 ⟨.normal,rP n a d 0,CC n a d 0,2⟩:=by
 have:=ch (P:=prog) (B:=Bs) (N:=35) (b:=aE (af f202 0)) (next:=2) (r:=⟨.exit 0,rP n a d 0,CC n a d 0,2⟩) n (λi=>rP n a d (n-i)) (λi=>CC n a d (n-i))
  (λi k _=>jP (l:=CC n a d (n-i)) (m:=CC n a d (n-0)) rfl k)
  (λi hi=>by
   have e:n-i=(n-(i+1))+1:=by omega
   simp only[e];exact Nf o_ hd mH h63)
  (by
   have e:n-n=0:=by omega
   simp only[e];exact aA [.rw 16 (.bool (decide (((0:Nat):Int)-1>=0))) (.bool false) rfl]) n_
 exact bO this
end
theorem aH7{w:World}{va:Value}{a d:Nat}(ga:iz w va a)(hd:0<d)(mH:d<base)(h1:nd base a<35184372088832):
  Calls prog 202 #[va,aW d] w λe w'=>∃ v,e=.returned (.tuple #[v,aW (a%d)])/\jD w w' v (a/d)/\Below w.heap.size w w':=by
 have ha:=dO (B:=base) d_ a;have hl:∀ s∈[cz.row va (nd base a) (ak (ae base (nd base a) a)),cz.plain (aW d)],s.OK w:=by
  intro s hs;simp at hs;rcases hs with rfl|rfl
  ·exact⟨ga,fA _⟩
  ·rfl
 unfold iz at ga;generalize nd base a=n at *;have hs:a/d<base^n:=eW (th _ _) ha;have e0:a/base^n%d=0:=by rw[l4 ha];exact Nat.zero_mod _
 have e1:a/base^0%d=a%d:=by simp
 refine lC (Q:=λe w'=>∃ v,e=.returned (.tuple #[v,aW (a%d)])/\jD w w' v (a/d)/\Below w.heap.size w w') mixed func202 [cz.row va n (ak (ae base n a)),cz.plain (aW d)] hl 100 (N:=35) k_
  (rs:=[(aX.pS f202 11 1 n 176 4 (aW 0) (ak (gz base n n (a/d))) (by rw[M3,EL]) rfl rfl o_ (by simp[maxLen];omega) k_:aX prog (aa.at w) 35),.rw 7 (.int .u32 0) (aW (a/base^n%d)) (by rw[e0];rfl),.wr 14 .i64 ((n:Int)-1) ((n:Int)-1) (oL o_),.code 0 _ _ _ _ _ (aH6 (n:=n) (a:=a) hd mH h1),.trim f202 33 1 n (a/d) (.row (ak (gz base n 0 (a/d))) 176 1) rfl (by rw[<-JI];rfl) hs o_ (y:=.func 175) k_])
  (v:=.tuple #[.slice (some ⟨1,0,some 7⟩) (nd base (a/d)) 0,aW (a/base^0%d)]) (ms:=[(1,.row (ak (gz base n 0 (a/d))) 176 1)]) k_ λau bY v' w' hc bj dz _=>?_
 obtain⟨vs,he,ba⟩:=hc.ub;obtain⟨v1,v2,aN,c1,c2⟩:=jx ba;have hk:=dz _ (aT ..);rw[JI]at hk;refine⟨v1,?_,wU bj hk hs c1,bj.base⟩;rw[he,show vs=#[v1,v2]from vh.1 aN,c2.eR rfl,e1]
def gQ(a b:Nat):Int:=if a<b then -1 else if b<a then 1 else 0
section
variable{Bs:aa}{n a b:Nat}
def AV(n i:Nat):aV:=[(5,df i),(0,sl 0 n),(1,sl 1 n)]
def rQ(n a b:Nat):aH:=[(0,.view (ak (ae base n a))),(1,.view (ak (ae base n b)))]
noncomputable def Sr(n a b j:Nat)(hj:j<n)(t1 t2:Bool)(h1:decide (a/base^j%base<b/base^j%base)=t1)(h2:decide (b/base^j%base<a/base^j%base)=t2)(more:bE prog Bs 43):bE prog Bs 43:=
 .rw 19 (df (j+1)) (vI j) (dT j)::.ge 20 j 0 true s_::.rw 25 (df (j+1)) (vI j) (dT j)::.ix f201 26 0 n j hj k_::
  .ld f201 27 176 0 j (.view (ak (ae base n a))) (aW (a/base^j%base)) rfl (by rw[fH];exact kD (eg hj)) k_::
  .rw 29 (df (j+1)) (vI j) (dT j)::.ix f201 30 1 n j hj k_::
  .ld f201 31 176 1 j (.view (ak (ae base n b))) (aW (b/base^j%base)) rfl (by rw[fH];exact kD (eg hj)) k_::
  .lt 32 (a/base^j%base) (b/base^j%base) t1 h1::(if t1 then[]else
  .rw 35 (df (j+1)) (vI j) (dT j)::.ix f201 36 0 n j hj k_::
  .ld f201 37 176 0 j (.view (ak (ae base n a))) (aW (a/base^j%base)) rfl (by rw[fH];exact kD (eg hj)) k_::
  .rw 39 (df (j+1)) (vI j) (dT j)::.ix f201 40 1 n j hj k_::
  .ld f201 41 176 1 j (.view (ak (ae base n b))) (aW (b/base^j%base)) rfl (by rw[fH];exact kD (eg hj)) k_::
  .gt 42 (a/base^j%base) (b/base^j%base) t2 h2::more)
theorem aH8{j:Nat}(hj:j<n)(he:a/base^j%base=b/base^j%base)(h63:n<35184372088832):
  ah prog Bs 43 (aE (af f201 0)) (AV n (j+1)) (rQ n a b) 2 ⟨.normal,AV n j,rQ n a b,2⟩:=
 aA (Sr n a b j hj false false (by simp[he]) (by simp[he]) [.rw 21 (df (j+1)) (vI j) (dT j),.wr 22 .i64 ((j:Int)-1) ((j:Int)-1) (oL o_)])
theorem aH9{j:Nat}(hj:j<n)(al:a/base^j%base<b/base^j%base):
  ah prog Bs 43 (aE (af f201 0)) (AV n (j+1)) (rQ n a b) 2 ⟨.ret,[(4,.int .i64 (-1))],rQ n a b,2⟩:=
 aA (Sr n a b j hj true false (by simp[al]) (by simp;omega) [])
theorem aIa{j:Nat}(hj:j<n)(al:b/base^j%base<a/base^j%base):
  ah prog Bs 43 (aE (af f201 0)) (AV n (j+1)) (rQ n a b) 2 ⟨.ret,[(4,.int .i64 1)],rQ n a b,2⟩:=
 aA (Sr n a b j hj false true (by simp;omega) (by simp[al]) [])
theorem aIb:ah prog Bs 43 (aE (af f201 0)) (AV n 0) (rQ n a b) 2 ⟨.exit 0,[],rQ n a b,2⟩:=
 aA [.rw 20 (.bool (decide (((0:Nat):Int)-1>=0))) (.bool false) rfl]
theorem aIc(ha:a<base^n)(hb:b<base^n)(h63:n<35184372088832):
  ah prog Bs 43 (.block 0 (af f201 0)) (AV n n) (rQ n a b) 2 (if a=b then⟨.normal,[],rQ n a b,2⟩else⟨.ret,[(4,.int .i64 (gQ a b))],rQ n a b,2⟩):=by
 obtain⟨e,h1,h2,h3⟩:=yD (λt=>¬(t<n/\a/base^(n-1-t)%base=b/base^(n-1-t)%base)) n o_;have wZ:=Y7 ha hb e h1 λs hs=>(EP.1 (h3 s hs)).2;have go:∀(r:lZ),r.ex≠.normal->ah prog Bs 43 (aE (af f201 0)) (AV n (n-e)) (rQ n a b) 2 r->ah prog Bs 43 (.loop (aE (af f201 0))) (AV n n) (rQ n a b) 2 r:=by
  intro r hr vx
  exact ch (P:=prog) (B:=Bs) (N:=43) (b:=aE (af f201 0)) (next:=2) (r:=r) e (λi=>AV n (n-i)) (λ_=>rQ n a b) (λi k _=>Iff.rfl)
   (λi hi=>by
    have q:=EP.1 (h3 i hi);have e1:n-i=(n-(i+1))+1:=by omega
    have e2:n-1-i=n-(i+1):=by omega
    simp only[e1];exact aH8 o_ (by rw[<-e2];exact q.2) h63) vx hr
 by_cases CD:e=n
 ·have bZ:a=b:=by rw[CD,ux,rN,ER,ER]at wZ;exact wZ
  rw[aw bZ];have:=go ⟨.exit 0,[],rQ n a b,2⟩ n_ (by rw[CD,ux];exact aIb);exact bO (id:=0) this
 ·have hj:n-e=(n-1-e)+1:=by omega
  have aU:a/base^(n-1-e)%base≠b/base^(n-1-e)%base:=λh=>h2 ⟨by omega,h⟩;rw[hj]at wZ go;have bZ:a≠b:=λh=>aU (by rw[h]);rw[ao bZ];rcases Et aU with al|s7
  ·have hl:=M5 wZ al;have e1:gQ a b=-1:=by unfold gQ;rw[aw hl]
   rw[e1];exact bO (id:=0) (go _ n_ (aH9 o_ al))
  ·have hl:=M5 wZ.symm s7;have e1:gQ a b=1:=by unfold gQ;rw[ao o_,aw hl]
   rw[e1];exact bO (id:=0) (go _ n_ (aIa o_ s7))
end
def nC(a b:Nat):Int:=if nd base a=nd base b then gQ a b else(nd base a:Int)-nd base b
theorem JT{a b:Nat}:0<=nC a b↔b<=a:=by
 unfold nC;by_cases h:nd base a=nd base b
 ·rw[aw h];unfold gQ;by_cases h1:a<b
  ·rw[aw h1];omega
  ·rw[ao h1];by_cases h2:b<a
   ·rw[aw h2];omega
   ·rw[ao h2];omega
 ·rw[ao h];rcases eC a b with h1|h1
  ·have:=iL (B:=base) d_ (iM h1);omega
  ·have:=iL (B:=base) d_ h1;omega
theorem Ng{w:World}{va vb:Value}{a b:Nat}(ga:iz w va a)(kY:iz w vb b)(h1:nd base a<35184372088832)(h2:nd base b<35184372088832):
  Calls prog 201 #[va,vb] w λe w'=>e=.returned (.int .i64 (nC a b))/\Below w.heap.size w w':=by
 have ha:=dO (B:=base) d_ a;have hb:=dO (B:=base) d_ b;have hl:∀ s∈[cz.row va (nd base a) (ak (ae base (nd base a) a)),cz.row vb (nd base b) (ak (ae base (nd base b) b))],s.OK w:=by
  intro s hs;simp at hs;rcases hs with rfl|rfl
  ·exact⟨ga,fA _⟩
  ·exact⟨kY,fA _⟩
 unfold iz at ga kY;unfold nC;generalize nd base a=n at *;generalize nd base b=m at *;have fin:∀{au:Map} {bY:Nat->Option Obj} {v':Value} {w':World} {z:Int},aG au (.int .i64 z) v'->aM (aa.at w) au bY w'->Ending.returned v'=.returned (.int .i64 z)/\Below w.heap.size w w':=λhc hm=>⟨by rw[hc.eR rfl],hm.base⟩;have aU:∀ t:Bool,decide (n=m)=!t->(Value.bool (((n:Nat):Int)!=((m:Nat):Int)))=.bool t:=by
  intro t h
  congr 1
  by_cases lv:n=m
  ·subst lv;simp at h;subst h;simp
  ·rw[aJ lv]at h;have:t=true:=by cases t<;>simp at h ⊢
   subst this;rw[uu];omega
 by_cases lv:n=m
 ·subst lv;rw[aw rfl];have lo:=aIc (Bs:=aa.at w) ha hb h1;by_cases bZ:a=b
  ·rw[aw bZ]at lo;have ho:gQ a b=0:=by unfold gQ;rw[ao o_,ao o_]
   rw[ho]
   exact lC (Q:=λe w'=>e=.returned (.int .i64 0)/\Below w.heap.size w w') mixed func201 [cz.row va n (ak (ae base n a)),cz.row vb n (ak (ae base n b))] hl 100 (N:=43) k_
    (rs:=[(aX.rw 10 (.bool (((n:Nat):Int)!=((n:Nat):Int))) (.bool false) (aU false s_):aX prog (aa.at w) 43),.wr 18 .i64 ((n:Int)-1) ((n:Int)-1) (oL o_),.code 0 _ _ _ _ _ lo])
    (v:=.int .i64 0) (ms:=[]) k_ λau bY v' w' hc bj _ _=>fin hc bj
  ·rw[ao bZ]at lo
   exact lC (Q:=λe w'=>e=.returned (.int .i64 (gQ a b))/\Below w.heap.size w w') mixed func201 [cz.row va n (ak (ae base n a)),cz.row vb n (ak (ae base n b))] hl 100 (N:=43) k_
    (rs:=[(aX.rw 10 (.bool (((n:Nat):Int)!=((n:Nat):Int))) (.bool false) (aU false s_):aX prog (aa.at w) 43),.wr 18 .i64 ((n:Int)-1) ((n:Int)-1) (oL o_),.code 0 _ _ _ _ _ lo])
    (v:=.int .i64 (gQ a b)) (ms:=[]) k_ λau bY v' w' hc bj _ _=>fin hc bj
 ·rw[ao lv]
  exact lC (Q:=λe w'=>e=.returned (.int .i64 ((n:Int)-m))/\Below w.heap.size w w') mixed func201 [cz.row va n (ak (ae base n a)),cz.row vb m (ak (ae base m b))] hl 100 (N:=43) k_
   (rs:=[(aX.rw 10 (.bool (((n:Nat):Int)!=((m:Nat):Int))) (.bool true) (aU true (by simp[lv])):aX prog (aa.at w) 43),.wr 15 .i64 ((n:Int)-(m:Int)) ((n:Int)-m) (by rw[c8];omega)])
   (v:=.int .i64 ((n:Int)-m)) (ms:=[]) k_ λau bY v' w' hc bj _ _=>fin hc bj
section
variable{P:Program}{B:aa}{N:Nat}
def AW(P:Program)(o:Oper):Option (Nat×List Nat×TypeId×Nat×Value):=match o.op with
 |.buildSlice t len parts=>match P.underlying t with
  |some (.slice e)=>(match P.info? e with|some i=>(match i.zero with|some z=>some (len,parts.toList.map (·.1),e,i.size,z)|none=>none)|none=>none)
  |_=>none
 |_=>none
def JU(size len:Nat)(z:Value)(ps:aV):Option (Array Value):=
 Instr.fill (λi=>some (i*size,size)) ((Array.range (len*size)).map (z.cells[·%z.cells.size]!)) ps
theorem Nh{ρ:Operand->Value}:∀(l:List (Nat×Operand)) {vs:aj},(l.map (·.2)).map ρ=vs->(l.map λp=>(p.1,ρ p.2))=(l.map (·.1)).zip vs
 |[],vs,h=>by subst h;rfl
 |p::l,vs,h=>by subst h;simp only[rI,List.zip_cons_cons];rw[Nh l rfl]
theorem aId{o:Oper}{len e size:Nat}{idx:List Nat}{z:Value}(ho:AW P o=some (len,idx,e,size,z)){vs:aj}{cells:Array Value}(cN:∀ v∈vs,flat v=true)(Ss:∀ v∈cells.toList,flat v=true)
  (CE:JU size len z (idx.zip vs)=some cells) (bA:cells.size=len*size) (yQ:0<len*size) (hle:len*size<=16777216) (k:Nat) :
  cA P B o vs [(k,none)] (.slice (some ⟨k,0,some 7⟩) len 0) [(k,.row cells.toList e size)]:=by
 unfold AW at ho;split at ho
 ·rename_i t lE parts bN;split at ho
  ·rename_i e' ht;split at ho
   ·rename_i i hi;split at ho
    ·rename_i z' hz;injection ho with ho;injection ho with h1 ho;injection ho with h2 ho;injection ho with h3 ho;injection ho with h4 h5;subst h1;subst h2;subst h3;subst h4;subst h5;refine gY.step λι c ρ w aN hm hn=>?_;have hk:c k=none:=hn _ (aT ..);rw[bN]at aN;have aN:=nj aN cN;have bW:List.map (λx=>(x.fst,ρ x.snd)) parts.toList=(parts.toList.map (·.1)).zip vs:=
      Nh parts.toList (by simpa[Op.operands]using aN)
     have Ni:lE<=maxLen:=by have:lE<=lE*i.size:=ES _ (Nat.pos_of_mul_pos_left yQ);simp[maxLen];omega
     have uf:Map.le ι _:=gC (l:=.at w.heap.size 0 lE) (hm.dr k hk);have kT:=GC (ty:=e') (size:=i.size) (cap:=lE) (rest:=#[]) hm hk (kg Ss:bI (aG ι) cells.toList cells.toList) Ni (by simpa using bA);refine⟨_,.slice (some ⟨w.heap.size,0,none⟩) lE lE,_,uf,.slc (o:=0) (off:=0) (fE _ _ _) (bh _) o_,kT,.inl ?_⟩;have h0:¬(lE*i.size=0):=by omega
     have h1:¬(16777216<lE*i.size):=by omega
     unfold JU at CE;simp only[execOp,bN];simp[Instr.buildSlice,iI ht,sizeOf,typeInfo,hi,zeroValue,hz,h0,h1,newRow];rw[bW,CE];simp[newObj,Sem.run]
    ·cases ho
   ·cases ho
  ·cases ho
 ·cases ho
def ET(P:Program)(o:Oper):Option (TypeId×Nat×Nat×Nat×Bool):=match o.op with
 |.call c=>match c.callee,c.args.toList,c.argTypes.toList with
  |.builtin .append,[_,_],[t,t']=>if Nat.beq t t' then(match P.underlying t with
   |some (.slice e)=>(match P.info? e with|some i=>(match i.zero with|some z=>some (e,i.size,i.bytes,z.cells.size,true)|none=>none)|none=>none)
   |_=>none)else none
  |_,_,_=>none
 |_=>none
theorem Zr{o:Oper}{e size bytes zs:Nat}(ho:ET P o=some (e,size,bytes,zs,true)):∃ s x t i z,o.op=.call { callee:=.builtin .append,args:=#[s,x],argTypes:=#[t,t]}/\P.underlying t=some (.slice e)/\P.info? e=some i/\i.zero=some z/\i.size=size/\i.bytes=bytes/\z.cells.size=zs:=by
 unfold ET at ho;split at ho
 ·rename_i c bN;split at ho
  ·rename_i s x t t' hc ha mB;split at ho
   ·rename_i htt;split at ho
    ·rename_i e' ht;split at ho
     ·rename_i i hi;split at ho
      ·rename_i z hz;injection ho with ho;injection ho with h1 ho;injection ho with h2 ho;injection ho with h3 ho;injection ho with h4 h5;subst h1;have:=j0 htt;subst this;refine⟨s,x,t,i,z,?_,ht,hi,hz,h2,h3,h4⟩;rw[bN];obtain⟨c1,c2,c3⟩:=c;dsimp only at hc ha mB;subst hc
       congr 2
       ·exact vh.1 ha
       ·exact vh.1 mB
      ·cases ho
     ·cases ho
    ·cases ho
   ·cases ho
  ·cases ho
 ·cases ho
theorem Zs{o:Oper}{e size bytes:Nat}(ho:ET P o=some (e,size,bytes,size,true))(bA:0<size){sv:Value}{m:Nat}{news:aj}{need:List (Nat×Option Obj)}(yp:Ca B sv m news need)(hl:news.length=m*size)(Rp:∀ v∈news,v.oneCell'=true)
  {j n:Nat} {cells:aj} (lY:n*size<=cells.length) (h63:n+m<=maxLen) (B9:(n+m)*bytes<=140737488355328) (k:Nat) :
  cA P B o [.slice (some ⟨j,0,some 7⟩) n 0,sv] ((k,none)::(j,some (.row cells e size))::need) (.slice (some ⟨k,0,some 7⟩) (n+m) 0) [(k,.row (cells.take (n*size)++news) e size),(j,.dead)]:=by
 obtain⟨s,x,t,i,z,bN,ht,hi,hz,h1,h2,h3⟩:=Zr ho;subst h1;subst h2;exact(aGP bN ht hi hz h3 bA yp hl Rp lY h63 B9 k).step
theorem aIe{o:Oper}{e size bytes:Nat}(ho:ET P o=some (e,size,bytes,size,true))(bA:0<size){sv:Value}{m:Nat}{news:aj}{need:List (Nat×Option Obj)}(yp:Ca B sv m news need)(hl:news.length=m*size)
  (h63:m<=maxLen) (B9:m*bytes<=140737488355328) (k:Nat) :
  cA P B o [.slice none 0 0,sv] ((k,none)::need) (.slice (some ⟨k,0,some 7⟩) m 0) [(k,.row news e size)]:=by
 obtain⟨s,x,t,i,z,bN,ht,hi,hz,h1,h2,h3⟩:=Zr ho;subst h1;subst h2;exact(aGO bN ht hi hz h3 bA yp hl h63 B9 k).step
def aX.bs(fn:Func)(key k len e size:Nat)(idx:List Nat)(z:Value)(vs:aj)(cells:Array Value)(x:Obj)(hx:Obj.row cells.toList e size=x)(cN:∀ v∈vs,flat v=true)(Ss:∀ v∈cells.toList,flat v=true)
  (CE:JU size len z (idx.zip vs)=some cells) (bA:cells.size=len*size) (yQ:0<len*size) (hle:len*size<=16777216) (ho:AW P (av fn key)=some (len,idx,e,size,z)):aX P B N:=
 .step key (av fn key) vs [(k,none)] (.slice (some ⟨k,0,some 7⟩) len 0) [(k,x)] (by subst hx;exact aId ho cN Ss CE bA yQ hle k)
end
theorem Su{w:World}{n:Nat}(hn:n<18446744073709551616):
  Calls prog 148 #[.int .u64 n] w λe w'=>∃ v,e=.returned v/\jD w w' v n/\Below w.heap.size w w':=by
 have hs:n<base^2:=by unfold base;omega
 have e0:n/base^0%base=n%base:=by simp
 have e1:n/base^1%base=n/base:=by rw[CF];exact dF (by rw[iy d_];unfold base;omega)
 refine lC (Q:=λe w'=>∃ v,e=.returned v/\jD w w' v n/\Below w.heap.size w w') mixed func148 [cz.plain (.int .u64 n)] (λx hx=>by simp at hx;subst hx;rfl) 100 (N:=10) k_
  (rs:=[(aX.wr 4 .u32 (n:Int) ((n/base^0%base:Nat):Int) (by rw[nw,e0];unfold base;omega):aX prog (aa.at w) 10),.quo 6 .u64 ((n:Int).fdiv (2^32)) ((n/base:Nat):Int) (by rw[rM _ d_];unfold base;omega),.wr 7 .u32 ((n/base:Nat):Int) ((n/base^1%base:Nat):Int) (by rw[nw,e1];unfold base;omega),.bs f148 8 0 2 176 1 [0,1] (aW 0) [aW (n/base^0%base),aW (n/base^1%base)] #[aW (n/base^0%base),aW (n/base^1%base)] (.row (ak (ae base 2 n)) 176 1) rfl
    (λv hv=>by simp at hv;rcases hv with rfl|rfl<;>rfl) (λv hv=>by simp at hv;rcases hv with rfl|rfl<;>rfl) k_ rfl o_ o_ k_,
   .trim f148 9 0 2 n (.row (ak (ae base 2 n)) 176 1) rfl rfl hs d_ (y:=.func 175) k_])
  (v:=.slice (some ⟨0,0,some 7⟩) (nd base n) 0) (ms:=[(0,.row (ak (ae base 2 n)) 176 1)]) k_ λau bY v' w' hc bj dz _=>⟨v',rfl,?_,bj.base⟩
 exact wU bj (dz _ (aT ..)) hs hc
section
variable{Bs:aa}{n a:Nat}
def AX(n a i:Nat):aV:=[(4,df i),(0,sl 0 n),(3,.int .u64 ((a/base^i:Nat):Int))]
def CG(n a:Nat):aH:=[(0,.view (ak (ae base n a)))]
theorem aIf{j:Nat}(hj:j<n)(ha:a<18446744073709551616)(h63:n<35184372088832):
  ah prog Bs 21 (aE (af f174 0)) (AX n a (j+1)) (CG n a) 1 ⟨.normal,AX n a j,CG n a,1⟩:=by
 have hd:=gP (B:=base) d_ a j;have he:=wS (B:=base) a j;have hle:a/base^j<18446744073709551616:=eW (th _ _) ha;generalize hA:a/base^(j+1)=A at *;generalize hx:a/base^j%base=x at *;have Zt:A*base<18446744073709551616:=by omega
 have kX:A*base||| x=a/base^j:=by have:=Nb (i:=32) hd A;rw[he,cP];exact this.symm
 have Zu:IntKind.u64.wrap ((A:Int)*2^32)=((A*base:Nat):Int):=by
  have e:(A:Int)*2^32=((A*base:Nat):Int):=by rw[nU];rfl
  rw[e,jR];generalize A*base=H at Zt ⊢;omega
 have G3:∀ H:Nat,H=A*base->IntKind.u64.wrap (((BitVec.ofInt IntKind.u64.bits (H:Int))||| (BitVec.ofInt IntKind.u64.bits (x:Int))).toNat:Int)=((a/base^j:Nat):Int):=by intro H hH;rw[Sq (by rw[hH];exact Zt) (l8 hd d_),hH,kX]
 obtain⟨H,hH⟩:∃ H,H=A*base:=⟨_,rfl⟩;have G3:=G3 H hH;rw[<-hH]at Zu
 have:=fe (P:=prog) (B:=Bs) (N:=21) mixed (c:=aE (af f174 0)) (fr:=[(4,df (j+1)),(0,sl 0 n),(3,.int .u64 (A:Int))]) (M:=CG n a) (next:=1) (r:=⟨.normal,AX n a j,CG n a,1⟩) 100
  [.rw 8 (df (j+1)) (vI j) (dT j),.ge 9 j 0 true s_,.wr 13 .u64 ((A:Int)*2^32) (H:Int) Zu,.rw 15 (df (j+1)) (vI j) (dT j),.ix f174 16 0 n j hj k_,.ld f174 17 176 0 j (.view (ak (ae base n a))) (aW x) rfl (by rw[fH,<-hx];exact kD (eg hj)) k_,.wr 18 .u64 (x:Int) (x:Int) (by rw[jR];unfold base at hd;omega),.quo 19 .u64 _ ((a/base^j:Nat):Int) G3,.rw 10 (df (j+1)) (vI j) (dT j),.wr 11 .i64 ((j:Int)-1) ((j:Int)-1) (oL o_)] k_
 have e:AX n a (j+1)=[(4,df (j+1)),(0,sl 0 n),(3,.int .u64 (A:Int))]:=by unfold AX;rw[hA]
 rw[e];exact this
theorem aIg(ha:a<18446744073709551616)(h63:n<35184372088832):
  ah prog Bs 21 (.block 0 (af f174 0)) (AX n a n) (CG n a) 1 ⟨.normal,AX n a 0,CG n a,1⟩:=by
 have:=ch (P:=prog) (B:=Bs) (N:=21) (b:=aE (af f174 0)) (next:=1) (r:=⟨.exit 0,AX n a 0,CG n a,1⟩) n (λi=>AX n a (n-i)) (λ_=>CG n a) (λi k _=>Iff.rfl)
  (λi hi=>by
   have e:n-i=(n-(i+1))+1:=by omega
   simp only[e];exact aIf o_ ha h63)
  (by
   have e:n-n=0:=by omega
   simp only[e];exact aA [.rw 9 (.bool (decide (((0:Nat):Int)-1>=0))) (.bool false) rfl]) n_
 exact bO this
end
theorem Zv{w:World}{va:Value}{a:Nat}(ga:iz w va a)(ha:a<18446744073709551616)(h1:nd base a<35184372088832):
  Calls prog 174 #[va] w λe w'=>e=.returned (.int .u64 (a:Int))/\Below w.heap.size w w':=by
 have al:=dO (B:=base) d_ a;have hl:∀ s∈[cz.row va (nd base a) (ak (ae base (nd base a) a))],s.OK w:=by intro s hs;simp at hs;subst hs;exact⟨ga,fA _⟩
 unfold iz at ga;generalize nd base a=n at *;have e0:a/base^n=0:=l4 al;have e1:a/base^0=a:=by simp
 refine lC (Q:=λe w'=>e=.returned (.int .u64 (a:Int))/\Below w.heap.size w w') mixed func174 [cz.row va n (ak (ae base n a))] hl 100 (N:=21) k_
  (rs:=[(aX.rw 3 (.int .u64 0) (.int .u64 ((a/base^n:Nat):Int)) (by rw[e0];rfl):aX prog (aa.at w) 21),.wr 7 .i64 ((n:Int)-1) ((n:Int)-1) (oL o_),.code 0 _ _ _ _ _ (aIg (n:=n) (a:=a) ha h1)])
  (v:=.int .u64 ((a/base^0:Nat):Int)) (ms:=[]) k_ λau bY v' w' hc bj _ _=>⟨?_,bj.base⟩
 rw[hc.eR rfl,e1]
end Go.Proofs.YtjjefbkbljlgdaaGreatDoor
