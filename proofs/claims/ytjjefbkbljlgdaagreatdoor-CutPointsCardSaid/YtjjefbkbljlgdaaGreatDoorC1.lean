/- Points of a cut set: the proof of CutPointsCardSaid (the law's function answers true at every set it can be given; theorem cutPoints_card, last part), part 1 of 7; no condition. -/
import Derived.WalkKit
import Derived.Orders
import Derived.KernelRfl
import Derived.Deep.MidRow
import Derived.Below
import Derived.OwnWalk
import Derived.OwnWalkIn
import Derived.OrdersIn
import Derived.LoopNIn
import Derived.TacticsIn
import Derived.LoopN
import Derived.DeepKeys
import Derived.RangeFuncLeaves
import Derived.RangeFuncSeq
import Derived.Lib.SliceRun
import Derived.Shelf.SlSortCmp.WholeK
import Derived.OpenShut
import Derived.ProofKit
import Derived.Carry
import Derived.ChangeOld
import Derived.Deep.DeepHandedRow
import Derived.Test.YtjjefbkbljlgdaaGreatDoorProg
namespace Go.Proofs.YtjjefbkbljlgdaaGreatDoor
open Go Go.RowKit Tryz
theorem k_{p:Prop}(h:p:=by kernel_rfl):p:=h
theorem o_{p:Prop}(h:p:=by omega):p:=h
theorem d_{p:Prop}(h:p:=by decide):p:=h
theorem n_{p:Prop}(h:p:=by nofun):p:=h
theorem s_{p:Prop}(h:p:=by simp):p:=h
abbrev Az:=@Go.Addr.add_mid
abbrev Gv:=@Array.ext'
abbrev aA5:=@Array.foldl_toList
abbrev pK:=@Array.getD_eq_getD_getElem?
abbrev aCB:=@Array.getElem?_append_left
abbrev yx:=@Array.getElem?_eq_getElem
abbrev Ym:=@Array.getElem?_eq_none
abbrev yC:=@Array.getElem?_eq_some_iff
abbrev XR:=@Array.getElem?_modify
abbrev Rp:=@Array.getElem?_setIfInBounds_ne
abbrev yr:=@Array.length_toList
abbrev Mk:=@Array.mem_toList_iff
abbrev xu:=@Array.toArray_toList
abbrev HI:=@Array.toList_eq_nil_iff
abbrev vm:=@Array.toList_inj
abbrev aG1:=@Array.toList_setIfInBounds
abbrev da:=@Bool.and_eq_true
abbrev M3:=@Bool.and_false
abbrev vU:=@Bool.and_self
abbrev iU:=@Bool.and_true
abbrev yO:=@Bool.false_and
abbrev ND:=@Bool.false_bne
abbrev uE:=@Bool.false_eq_true
abbrev yP:=@Bool.false_or
abbrev O6:=@Bool.not_eq_true
abbrev AH:=@Bool.not_eq_true'
abbrev MZ:=@Bool.not_false
abbrev JC:=@Bool.not_true
abbrev Mq:=@Bool.or_eq_false_iff
abbrev uy:=@Bool.or_eq_true
abbrev kD:=@Bool.true_and
abbrev NF:=@Bool.true_bne
abbrev Gz:=@Bool.true_or
abbrev gN:=@Classical.byContradiction
abbrev EI:=@Classical.not_not
abbrev aGl:=@Go.DataW.trod_struct
abbrev Ra:=@Go.RowKit.Below.heap_alloc
abbrev U4:=@Go.Sort.size_flatK
abbrev aAl:=@Int.add_mul_ediv_right
abbrev aN7:=@Int.add_mul_emod_self_left
abbrev NW:=@Int.ediv_mul_cancel
abbrev Tv:=@Int.eq_of_mul_eq_mul_right
abbrev rK:=@Int.fdiv_eq_ediv_of_nonneg
abbrev NQ:=@Int.lt_trichotomy
abbrev S9:=@Int.mul_comm
abbrev C2:=@Int.mul_ne_zero
abbrev Hf:=@Int.mul_neg
abbrev TE:=@Int.mul_pos
abbrev aAH:=@Int.natAbs_add_le
abbrev aJP:=@Int.natAbs_ediv_le_natAbs
abbrev uK:=@Int.natAbs_mul
abbrev Bn:=@Int.natAbs_natCast
abbrev JW:=@Int.natAbs_neg
abbrev vC:=@Int.natCast_add
abbrev ti:=@Int.natCast_ediv
abbrev Vl:=@Int.natCast_emod
abbrev nW:=@Int.natCast_mul
abbrev G1:=@Int.natCast_pow
abbrev He:=@Int.neg_mul
abbrev JX:=@Int.neg_neg
abbrev aGi:=@Int.ofNat_tmod
abbrev NG:=@Int.one_mul
abbrev GZ:=@Int.pow_nonneg
abbrev aJI:=@Int.sign_eq_neg_one_iff_neg
abbrev EZ:=@Int.sign_eq_neg_one_of_neg
abbrev Bi:=@Int.sign_eq_one_of_pos
abbrev aJJ:=@Int.sign_eq_zero_iff_zero
abbrev yS:=@Int.tdiv_eq_ediv_of_nonneg
abbrev yT:=@Int.tmod_eq_emod_of_nonneg
abbrev c8:=@Go.IntKind.wrap_i64
abbrev nC:=@Go.IntKind.wrap_u32
abbrev jP:=@Go.IntKind.wrap_u64
abbrev ZO:=@Go.IntKind.wrap_u8
abbrev aB1:=@List.Pairwise.nil
abbrev dH:=@List.all_cons
abbrev IH:=@List.all_eq_false
abbrev bh:=@List.all_eq_true
abbrev fp:=@List.all_nil
abbrev Jj:=@List.any_eq_false
abbrev sY:=@List.any_eq_true
abbrev Ep:=@List.append_assoc
abbrev je:=@List.append_nil
abbrev EO:=@List.cons_append
abbrev M7:=@List.drop_drop
abbrev O1:=@List.drop_eq_getElem_cons
abbrev Rc:=@List.drop_left'
abbrev l9:=@List.drop_zero
abbrev lv:=@List.eq_nil_of_length_eq_zero
abbrev wR:=@List.ext_getElem
abbrev SG:=@List.ext_getElem?
abbrev aEs:=@List.filter_append
abbrev Mw:=@List.filter_cons
abbrev UI:=@List.flatMap_append
abbrev UX:=@List.foldl_append
abbrev uu:=@List.foldl_cons
abbrev aBS:=@List.foldl_nil
abbrev Tg:=@List.foldr_cons
abbrev Tf:=@List.foldr_nil
abbrev Eg:=@List.getD_eq_getElem?_getD
abbrev Ji:=@List.getElem?_append_left
abbrev Eh:=@List.getElem?_append_right
abbrev D8:=@List.getElem?_drop
abbrev bf:=@List.getElem?_eq_getElem
abbrev Ay:=@List.getElem?_eq_none
abbrev ZA:=@List.getElem?_eq_none_iff
abbrev ew:=@List.getElem?_eq_some_iff
abbrev Ce:=@List.getElem?_map
abbrev XY:=@List.getElem?_of_mem
abbrev KO:=@List.getElem?_range
abbrev ui:=@List.getElem?_take
abbrev Cp:=@List.getElem_map
abbrev dM:=@List.getElem_mem
abbrev kM:=@List.getElem_of_mem
abbrev Cq:=@List.getElem_range
abbrev GG:=@List.getElem_set
abbrev WB:=@List.getElem_take
abbrev OH:=@List.getLast?_cons_cons
abbrev iZ:=@List.length_append
abbrev oA:=@List.length_cons
abbrev vl:=@List.length_drop
abbrev aEu:=@List.length_filter_le
abbrev eY:=@List.length_map
abbrev yG:=@List.length_range
abbrev H9:=@List.length_replicate
abbrev F8:=@List.length_reverse
abbrev Vt:=@List.length_set
abbrev zC:=@List.length_singleton
abbrev jw:=@List.length_take
abbrev Jr:=@List.mapM_cons
abbrev TG:=@List.mapM_nil
abbrev sW:=@List.map_append
abbrev yA:=@List.map_congr_left
abbrev rF:=@List.map_cons
abbrev Su:=@List.map_map
abbrev Sw:=@List.map_nil
abbrev Co:=@List.map_take
abbrev ee:=@List.mem_append
abbrev sO:=@List.mem_append_left
abbrev yf:=@List.mem_append_right
abbrev cx:=@List.mem_cons
abbrev bF:=@List.mem_cons_of_mem
abbrev aV:=@List.mem_cons_self
abbrev aEt:=@List.mem_filter
abbrev Yf:=@List.mem_filterMap
abbrev BM:=@List.mem_flatMap
abbrev dj:=@List.mem_map
abbrev cQ:=@List.mem_of_getElem?
abbrev Wt:=@List.mem_of_mem_drop
abbrev FD:=@List.mem_of_mem_take
abbrev kh:=@List.mem_range
abbrev Kz:=@List.mem_reverse
abbrev Um:=@List.mem_singleton
abbrev jo:=@List.nil_append
abbrev jg:=@List.not_mem_nil
abbrev r5:=@List.pairwise_cons
abbrev P7:=@List.pairwise_iff_getElem
abbrev aBH:=@List.pairwise_reverse
abbrev aBF:=@List.pairwise_singleton
abbrev HB:=@List.range_succ
abbrev vP:=@List.reverse_cons
abbrev aBG:=@List.reverse_eq_nil_iff
abbrev UL:=@List.set_append_right
abbrev Mh:=@List.size_toArray
abbrev tK:=@List.take_add_one
abbrev aB7:=@List.take_append
abbrev H5:=@List.take_append_drop
abbrev Rg:=@List.take_left
abbrev Rb:=@List.take_left'
abbrev mQ:=@List.take_length
abbrev ki:=@List.take_of_length_le
abbrev Mf:=@List.take_take
abbrev ZI:=@List.take_zero
abbrev uk:=@Nat.add_assoc
abbrev mI:=@Nat.add_comm
abbrev Kl:=@Nat.add_le_add
abbrev Ix:=@Nat.add_le_add_right
abbrev JQ:=@Nat.add_mod_right
abbrev fA:=@Nat.add_mul
abbrev Jw:=@Nat.add_mul_div_left
abbrev o9:=@Nat.add_mul_div_right
abbrev ED:=@Nat.add_mul_mod_self_left
abbrev CK:=@Nat.add_mul_mod_self_right
abbrev Nj:=@Nat.add_sub_cancel
abbrev EN:=@Nat.add_sub_cancel_left
abbrev jn:=@Nat.add_zero
abbrev MY:=@Nat.and_lt_two_pow
abbrev Es:=@Nat.beq_refl
abbrev Mp:=@Nat.ble_eq_true_of_le
abbrev AK:=@Nat.blt_eq
abbrev jb:=@Nat.div_add_mod
abbrev kA:=@Nat.div_div_eq_div_mul
abbrev l8:=@Nat.div_eq_of_lt
abbrev tj:=@Nat.div_le_self
abbrev iv:=@Nat.div_lt_iff_lt_mul
abbrev YZ:=@Nat.div_lt_self
abbrev CP:=@Nat.div_mul_le_self
abbrev EJ:=@Nat.div_one
abbrev Np:=@Nat.div_pos
abbrev Hz:=@Nat.dvd_gcd
abbrev Kg:=@Nat.dvd_of_mod_eq_zero
abbrev C0:=@Nat.dvd_trans
abbrev Q3:=@Nat.eq_of_beq_eq_true
abbrev aJO:=@Nat.eq_of_mul_eq_mul_right
abbrev ob:=@Nat.eq_zero_or_pos
abbrev Hg:=@Nat.gcd_comm
abbrev Bm:=@Nat.gcd_dvd_left
abbrev Tu:=@Nat.gcd_dvd_right
abbrev aAP:=@Nat.gcd_le_left
abbrev TJ:=@Nat.gcd_zero_left
abbrev S7:=@Nat.gcd_zero_right
abbrev JI:=@Nat.le_add_right
abbrev ZH:=@Nat.le_antisymm
abbrev CO:=@Nat.le_div_iff_mul_le
abbrev Pe:=@Nat.le_mul_of_pos_left
abbrev EK:=@Nat.le_mul_of_pos_right
abbrev rl:=@Nat.le_of_ble_eq_true
abbrev vj:=@Nat.le_of_eq
abbrev iR:=@Nat.le_of_lt
abbrev Ot:=@Nat.le_of_not_lt
abbrev bj:=@Nat.le_refl
abbrev yw:=@Nat.le_succ
abbrev Nz:=@Nat.le_total
abbrev de:=@Nat.le_trans
abbrev Z8:=@Nat.log2_self_le
abbrev eL:=@Nat.lt_of_le_of_lt
abbrev cv:=@Nat.lt_of_lt_of_le
abbrev aII:=@Nat.lt_of_mul_lt_mul_right
abbrev eF:=@Nat.lt_or_ge
abbrev Ek:=@Nat.lt_or_gt_of_ne
abbrev aA6:=@Nat.lt_succ_of_lt
abbrev A9:=@Nat.lt_succ_self
abbrev mf:=@Nat.lt_trans
abbrev sJ:=@Nat.lt_trichotomy
abbrev aDs:=@Nat.max_eq_left
abbrev aDr:=@Nat.max_eq_right
abbrev nX:=@Nat.min_eq_left
abbrev Vo:=@Nat.min_eq_right
abbrev dK:=@Nat.mod_eq_of_lt
abbrev Jx:=@Nat.mod_le
abbrev cE:=@Nat.mod_lt
abbrev MO:=@Nat.mod_mul
abbrev AY:=@Nat.mod_mul_right_div_self
abbrev JF:=@Nat.mod_mul_right_mod
abbrev tf:=@Nat.mod_one
abbrev Ts:=@Nat.mod_two_eq_zero_or_one
abbrev oF:=@Nat.mul_add
abbrev fF:=@Nat.mul_assoc
abbrev cP:=@Nat.mul_comm
abbrev R5:=@Nat.mul_div_cancel
abbrev Z5:=@Nat.mul_div_mul_right
abbrev wY:=@Nat.mul_le_mul
abbrev jc:=@Nat.mul_le_mul_left
abbrev e6:=@Nat.mul_le_mul_right
abbrev mJ:=@Nat.mul_left_comm
abbrev pN:=@Nat.mul_lt_mul''
abbrev Z6:=@Nat.mul_lt_mul_of_lt_of_le
abbrev Y3:=@Nat.mul_lt_mul_of_pos_left
abbrev A8:=@Nat.mul_lt_mul_of_pos_right
abbrev Kf:=@Nat.mul_mod
abbrev Y2:=@Nat.mul_mod_left
abbrev Z4:=@Nat.mul_mod_mul_right
abbrev fX:=@Nat.mul_one
abbrev qA:=@Nat.mul_pos
abbrev Bb:=@Nat.mul_right_comm
abbrev MR:=@Nat.mul_succ
abbrev JP:=@Nat.not_lt
abbrev pO:=@Nat.one_mul
abbrev Zc:=@Nat.or_lt_two_pow
abbrev te:=@Nat.pos_of_ne_zero
abbrev ev:=@Nat.pow_add
abbrev aAg:=@Nat.pow_le_pow_left
abbrev cZ:=@Nat.pow_le_pow_right
abbrev rM:=@Nat.pow_mul
abbrev CF:=@Nat.pow_one
abbrev cG:=@Nat.pow_pos
abbrev dx:=@Nat.pow_succ
abbrev rL:=@Nat.pow_zero
abbrev Bj:=@Nat.sub_le
abbrev vA:=@Nat.sub_self
abbrev GB:=@Nat.sub_zero
abbrev yH:=@Nat.succ_mul
abbrev SR:=@Nat.succ_pos
abbrev Yo:=@Nat.testBit_or
abbrev M6:=@Nat.two_pow_add_eq_or_of_lt
abbrev Zb:=@Nat.xor_lt_two_pow
abbrev jY:=@Nat.zero_add
abbrev kT:=@Nat.zero_le
abbrev lC:=@Nat.zero_mul
abbrev mD:=@Ne.symm
abbrev L8:=@Go.Oper.semAt_eq
abbrev aGq:=@Option.bind_eq_some_iff
abbrev Yh:=@Option.bind_some
abbrev aBc:=@Option.map_none
abbrev Q7:=@Option.map_some
abbrev Ty:=@Rat.divInt_add_divInt
abbrev Bo:=@Rat.divInt_eq_div
abbrev E8:=@Rat.div_def
abbrev aAz:=@Rat.div_mul_cancel
abbrev N0:=@Rat.intCast_add
abbrev CZ:=@Rat.intCast_mul
abbrev aAK:=@Rat.intCast_sub
abbrev Hy:=@Rat.mul_inv_cancel
abbrev Tr:=@Rat.mul_pos
abbrev aAG:=@Rat.num_divInt_den
abbrev I9:=@Go.Sem.run_bind
abbrev M8:=@UInt8.toNat_inj
abbrev Nf:=@UInt8.toNat_ofNat'
abbrev aA0:=@Go.World.putObj_heap_other
abbrev vJ:=@Go.World.putObj_size
abbrev uC:=@bne_iff_ne
abbrev cI:=@congrArg
abbrev rI:=@decide_eq_decide
abbrev aN:=@decide_eq_false
abbrev Zr:=@decide_eq_false_iff_not
abbrev aC:=@decide_eq_true
abbrev sZ:=@decide_eq_true_eq
abbrev BL:=@decide_eq_true_iff
abbrev BP:=@getElem!_pos
abbrev X4:=@Go.grownCap_le_maxLen
abbrev uF:=@if_false
abbrev ao:=@if_neg
abbrev aw:=@if_pos
abbrev ql:=@if_true
abbrev Hh:=@of_decide_eq_false
abbrev kH:=@of_decide_eq_true
abbrev jh:=@or_false
abbrev Et:=@Go.roundsIn_succ
abbrev iG:=@Go.run_underlying
abbrev Md:=@Go.size_zeroCells
abbrev aGy:=@Go.trodAll_cons_mk
abbrev Jm:=@Go.wpIn_block
abbrev RO:=@Go.wpIn_loop_rounds
abbrev Jn:=@Go.wpIn_ret
abbrev lB:=@Go.wpIn_seq
def mA(a:Addr):Bool:=match a.spot with|some _=>false|none=>true
def lR:Value->Bool
 |.pointer (some a)=>mA a
 |.slice (some a) _ _=>mA a
 |.agg _=>false
 |.tuple _=>false
 |.func _ _ _=>false
 |_=>true
def nS:Value->Bool
 |.func _ fi ca=>fi.toList.all lR&&ca.toList.all lR
 |v=>lR v
def qj:Value->Bool
 |.agg cs=>cs.toList.all nS
 |v=>nS v
def flat:Value->Bool
 |.tuple vs=>vs.toList.all qj
 |v=>qj v
inductive bK{α β:Type}(R:α->β->Prop):List α->List β->Prop
 |nil:bK R [] []
 |cons {a b l m}:R a b->bK R l m->bK R (a::l) (b::m)
inductive oY where
 |at (b o cap:Nat)
 |nil
 |val (v:Value)
abbrev Map:=Nat->Option oY
def Map.le(ι κ:Map):Prop:=∀ k l,ι k=some l->κ k=some l
theorem Map.le.refl(ι:Map):Map.le ι ι:=λ_ _ h=>h
theorem Map.le.trans{a b c:Map}(h:Map.le a b)(k:Map.le b c):Map.le a c:=λi l e=>k i l (h i l e)
inductive aG(ι:Map):Value->Value->Prop
 |same {v}:flat v=true->aG ι v v
 |ptr {k off b o cap}:ι k=some (.at b o cap)->aG ι (.pointer (some ⟨k,off,some 7⟩)) (.pointer (some ⟨b,o+off,none⟩))
 |slc {k off b o n c c' cap}:ι k=some (.at b o cap)->n<=c'->c+c'=cap->aG ι (.slice (some ⟨k,off,some 7⟩) n c) (.slice (some ⟨b,o+off,none⟩) n c')
 |slcN {k}:ι k=some .nil->aG ι (.slice (some ⟨k,0,some 7⟩) 0 0) (.slice none 0 0)
 |opq {k v}:ι k=some (.val v)->v.cells=#[v]->v.oneCell'=true->aG ι (.pointer (some ⟨k,0,some 9⟩)) v
 |fn {f fi j9 ca eZ}:bK (aG ι) fi j9->bK (aG ι) ca eZ->aG ι (.func f fi.toArray ca.toArray) (.func f j9.toArray eZ.toArray)
 |agg {cs bC}:bK (aG ι) cs bC->aG ι (.agg cs.toArray) (.agg bC.toArray)
 |tup {vs cM}:bK (aG ι) vs cM->aG ι (.tuple vs.toArray) (.tuple cM.toArray)
theorem bK.imp{α β:Type}{R R':α->β->Prop}:∀{l:List α} {m:List β},bK R l m->(∀ a∈l,∀ b,R a b->R' a b)->bK R' l m
 |_,_,.nil,_=>.nil
 |_,_,.cons h t,k=>.cons (k _ (aV ..) _ h) (t.imp λa ha=>k a (bF _ ha))
theorem bK.length{α β:Type}{R:α->β->Prop}:∀{l:List α} {m:List β},bK R l m->l.length=m.length
 |_,_,.nil=>rfl
 |_,_,.cons _ t=>by simp[t.length]
theorem bK.get{α β:Type}{R:α->β->Prop}:∀{l:List α} {m:List β},bK R l m->∀(i:Nat) a,l[i]?=some a->∃ b,m[i]?=some b/\R a b
 |_,_,.nil,i,a,h=>by simp at h
 |_,_,.cons h t,0,a,e=>⟨_,rfl,by simp at e;exact e▸h⟩
 |_,_,.cons _ t,i+1,a,e=>by simpa using t.get i a (by simpa using e)
theorem bK.get'{α β:Type}{R:α->β->Prop}:∀{l:List α} {m:List β},bK R l m->∀(i:Nat) b,m[i]?=some b->∃ a,l[i]?=some a/\R a b
 |_,_,.nil,i,a,h=>by simp at h
 |_,_,.cons h t,0,a,e=>⟨_,rfl,by simp at e;exact e▸h⟩
 |_,_,.cons _ t,i+1,a,e=>by simpa using t.get' i a (by simpa using e)
theorem bK.set{α β:Type}{R:α->β->Prop}{a:α}{b:β}(h:R a b):∀{l:List α} {m:List β},bK R l m->∀(i:Nat),bK R (l.set i a) (m.set i b)
 |_,_,.nil,i=>by simpa using .nil
 |_,_,.cons _ t,0=>.cons h t
 |_,_,.cons k t,i+1=>.cons k (t.set h i)
theorem bK.append{α β:Type}{R:α->β->Prop}:∀{l:List α} {m:List β},bK R l m->∀{l' m'},bK R l' m'->bK R (l++l') (m++m')
 |_,_,.nil,_,_,h=>h
 |_,_,.cons k t,_,_,h=>.cons k (t.append h)
theorem bK.take{α β:Type}{R:α->β->Prop}:∀{l:List α} {m:List β},bK R l m->∀(n:Nat),bK R (l.take n) (m.take n)
 |_,_,.nil,n=>by simpa using .nil
 |_,_,.cons k t,0=>.nil
 |_,_,.cons k t,n+1=>.cons k (t.take n)
theorem bK.drop{α β:Type}{R:α->β->Prop}:∀{l:List α} {m:List β},bK R l m->∀(n:Nat),bK R (l.drop n) (m.drop n)
 |_,_,.nil,n=>by simpa using .nil
 |_,_,.cons k t,0=>.cons k t
 |_,_,.cons k t,n+1=>t.drop n
theorem L5{v:Value}(h:nS v=true):flat v=true:=by cases v<;>first|exact h|(simp[nS,lR]at h)
theorem L6{v:Value}(h:lR v=true):nS v=true:=by cases v<;>first|exact h|(simp[lR]at h)
theorem aGA{v:Value}(h:qj v=true):flat v=true:=by cases v<;>first|exact h|(simp[qj,nS,lR]at h)
theorem XL{cs:Array Value}(h:flat (.agg cs)=true):∀ c∈cs.toList,flat c=true:=by simp only[flat,qj,bh]at h;exact λc hc=>L5 (h c hc)
theorem aGB{cs:Array Value}(h:flat (.tuple cs)=true):∀ c∈cs.toList,flat c=true:=by simp only[flat,bh]at h;exact λc hc=>aGA (h c hc)
theorem XM{f:Fn}{fi ca:Array Value}(h:flat (.func f fi ca)=true):(∀ c∈fi.toList,flat c=true)/\(∀ c∈ca.toList,flat c=true):=by simp only[flat,qj,nS,da,bh]at h;exact⟨λc hc=>L5 (L6 (h.1 c hc)),λc hc=>L5 (L6 (h.2 c hc))⟩
abbrev aj:=List Value
theorem ke{ι:Map}:∀{l:aj},(∀ c∈l,flat c=true)->bK (aG ι) l l
 |[],_=>.nil
 |c::l,h=>.cons (.same (h c (aV ..))) (ke λc hc=>h c (bF _ hc))
theorem aG.eU{ι:Map}{v v':Value}(h:aG ι v v')(hf:flat v=true):v'=v:=by
 suffices H:∀ v v',aG ι v v'->flat v=true->v'=v from H v v' h hf
 have hP:∀ v v',aG ι v v'->lR v=true->v'=v:=by
  intro v v' h hf;cases h with
  |same _=>rfl
  |_=>simp[lR,mA]at hf
 have uf:∀(Q:Value->Bool),(∀ v v',aG ι v v'->Q v=true->v'=v)->∀ l l',bK (aG ι) l l'->(∀ c∈l,Q c=true)->l'=l:=by
  intro Q hQ l l' h;induction h with
  |nil=>intro _;rfl
  |cons h t ih=>
   intro hl;rw[hQ _ _ h (hl _ (aV ..)),ih λc hc=>hl c (bF _ hc)]
 have h0:∀ v v',aG ι v v'->nS v=true->v'=v:=by
  intro v v' h hf;cases h with
  |same _=>rfl
  |fn h1 h2=>
   simp only[nS,da,bh]at hf;rw[uf lR hP _ _ h1 hf.1,uf lR hP _ _ h2 hf.2]
  |_=>simp[nS,lR,mA]at hf
 have h1:∀ v v',aG ι v v'->qj v=true->v'=v:=by
  intro v v' h hf;cases h with
  |same _=>rfl
  |fn a b=>exact h0 _ _ (.fn a b) hf
  |agg h1=>
   simp only[qj,bh]at hf;rw[uf nS h0 _ _ h1 hf]
  |_=>simp[qj,nS,lR,mA]at hf
 intro v v' h hf;cases h with
 |same _=>rfl
 |fn a b=>exact h0 _ _ (.fn a b) hf
 |agg a=>exact h1 _ _ (.agg a) hf
 |tup a=>
  simp only[flat,bh]at hf;rw[uf qj h1 _ _ a hf]
 |_=>simp[flat,qj,nS,lR,mA]at hf
theorem aG.mono{ι κ:Map}(hle:Map.le ι κ){v v':Value}(h:aG ι v v'):aG κ v v':=by
 apply aG.rec (motive_1:=λv v' _=>aG κ v v') (motive_2:=λl l' _=>bK (aG κ) l l') (t:=h)
 case same=>intro v h;exact .same h
 case ptr=>intro k off b o cap h;exact .ptr (hle _ _ h)
 case slc=>intro k off b o n c c' cap h h1 h2;exact .slc (hle _ _ h) h1 h2
 case slcN=>intro k h;exact .slcN (hle _ _ h)
 case opq=>intro k v h h1 h2;exact .opq (hle _ _ h) h1 h2
 case fn=>intro f fi j9 ca eZ _ _ h1 h2;exact .fn h1 h2
 case agg=>intro cs bC _ h;exact .agg h
 case tup=>intro cs bC _ h;exact .tup h
 case nil=>exact .nil
 case cons=>intro a b l m _ _ h1 h2;exact .cons h1 h2
theorem nT{ι κ:Map}(hle:Map.le ι κ){l l':aj}(h:bK (aG ι) l l'):bK (aG κ) l l':=h.imp λ_ _ _ h=>h.mono hle
def nk(a:Addr):Bool:=match a.spot with|some s=>Nat.beq s 7|none=>false
theorem I3{a:Addr}(h:nk a=true):a.spot=some 7:=by
 unfold nk at h;split at h
 ·rename_i s hs;rw[hs,Q3 h]
 ·cases h
theorem Q4{a:Addr}(h:nk a=true):mA a=false:=by unfold mA;rw[I3 h]
theorem aG.yo{ι:Map}{a:Addr}{v':Value}(h:aG ι (.pointer (some a)) v')(ho:nk a=true):∃ b o cap,ι a.block=some (.at b o cap)/\v'=.pointer (some ⟨b,o+a.off,none⟩):=by
 cases h with
 |same hf=>simp[flat,qj,nS,lR,Q4 ho]at hf
 |ptr hb=>exact⟨_,_,_,hb,rfl⟩
 |opq _ _ _=>cases ho
theorem aG.gV{ι:Map}{a:Addr}{n c:Nat}{v':Value}(h:aG ι (.slice (some a) n c) v')(ho:nk a=true):
  (ι a.block=some .nil/\n=0/\c=0/\a.off=0/\v'=.slice none 0 0)\/∃ b o cap c',ι a.block=some (.at b o cap)/\n<=c'/\c+c'=cap/\v'=.slice (some ⟨b,o+a.off,none⟩) n c':=by
 cases h with
 |same hf=>simp[flat,qj,nS,lR,Q4 ho]at hf
 |slc hb h1 h2=>exact .inr ⟨_,_,_,_,hb,h1,h2,rfl⟩
 |slcN hb=>exact .inl ⟨hb,rfl,rfl,rfl,rfl⟩
theorem aG.bool{ι:Map}{b:Bool}{v':Value}(h:aG ι (.bool b) v'):v'=.bool b:=h.eU rfl
theorem aG.ug{ι:Map}{vs:Array Value}{v':Value}(h:aG ι (.tuple vs) v'):∃ cM,v'=.tuple cM/\bK (aG ι) vs.toList cM.toList:=by
 cases h with
 |same hf=>exact⟨vs,rfl,ke (aGB hf)⟩
 |tup h=>exact⟨_,rfl,by simpa using h⟩
theorem aG.I4{ι:Map}{vs:Array Value}{v':Value}(h:aG ι (.agg vs) v'):∃ cM,v'=.agg cM/\bK (aG ι) vs.toList cM.toList:=by
 cases h with
 |same hf=>exact⟨vs,rfl,ke (XL hf)⟩
 |agg h=>exact⟨_,rfl,by simpa using h⟩
theorem aG.B8{ι:Map}{f:Fn}{fi ca:Array Value}{v':Value}(h:aG ι (.func f fi ca) v'):∃ j9 eZ,v'=.func f j9 eZ/\bK (aG ι) fi.toList j9.toList/\bK (aG ι) ca.toList eZ.toList:=by
 cases h with
 |same hf=>exact⟨fi,ca,rfl,ke (XM hf).1,ke (XM hf).2⟩
 |fn h1 h2=>exact⟨_,_,rfl,by simpa using h1,by simpa using h2⟩
theorem aG.cells{ι:Map}{v v':Value}(h:aG ι v v'):bK (aG ι) v.cells.toList v'.cells.toList:=by
 cases h with
 |same hf=>
  apply ke;cases v<;>first|(intro c hc;simp[Value.cells]at hc;subst hc;exact hf)|exact XL hf
 |ptr hb=>exact .cons (.ptr hb) .nil
 |slc hb h1 h2=>exact .cons (.slc hb h1 h2) .nil
 |slcN hb=>exact .cons (.slcN hb) .nil
 |opq hb h1 h2=>rw[h1];exact .cons (.opq hb h1 h2) .nil
 |fn a b=>exact .cons (.fn a b) .nil
 |agg h=>simpa[Value.cells]using h
 |tup h=>exact .cons (.tup h) .nil
theorem aG.XN{ι:Map}{v v':Value}(h:aG ι v v'):v'.oneCell'=v.oneCell':=by
 cases h with
 |opq _ _ h=>rw[h];rfl
 |_=>rfl
def Gp:Value:=.tuple #[.tuple #[]]
def lS:Value->Bool
 |.tuple vs=>match vs.toList with|[.tuple us]=>Nat.beq us.size 0|_=>false
 |_=>false
def nq(ι:Map)(v v':Value):Prop:=lS v=true\/aG ι v v'
theorem nq.Aw{ι:Map}{v v':Value}(h:nq ι v v')(hn:lS v=false):aG ι v v':=by
 rcases h with h|h
 ·rw[hn]at h;cases h
 ·exact h
theorem nq.mono{ι κ:Map}(hle:Map.le ι κ){v v':Value}(h:nq ι v v'):nq κ v v':=h.imp id (aG.mono hle)
def sT(w w':World):Prop:=w'.os=w.os/\w.drawn<=w'.drawn
theorem sT.refl(w:World):sT w w:=⟨rfl,bj _⟩
theorem sT.trans{a b c:World}(h:sT b c)(k:sT a b):sT a c:=⟨h.1.trans k.1,de k.2 h.2⟩
structure Below(B:Nat)(w w':World):Prop where
 os:sT w w'
 tape:w'.tape=w.tape
 output:w'.output=w.output
 size:w.heap.size<=w'.heap.size
 block:∀ k,k<B->w'.heap[k]?=w.heap[k]?
theorem Below.Gq{B:Nat}{w w':World}(h:Below B w w'):Go.RowKit.Below B w w':=⟨h.os.1,h.tape,h.output,h.size,h.block⟩
theorem Below.refl(B:Nat)(w:World):Below B w w:=⟨.refl w,rfl,rfl,bj _,λ_ _=>rfl⟩
theorem Below.cell{B:Nat}{w w':World}(h:Below B w w'){p:Addr}(hp:p.block<B):w'.cell? p=w.cell? p:=h.Gq.cell hp
theorem Below.alloc{B:Nat}{a w:World}(h:Below B a w)(hB:B<=w.heap.size)(o:Go.Obj):Below B a (w.alloc o):=
 have k:=h.Gq.alloc hB o
 ⟨⟨k.os,h.os.2⟩,k.tape,k.output,k.size,k.block⟩
structure Fact where
 G:Value->World->Prop
 cO:Value->World->Nat->Prop
 lt:∀ v w k,G v w->cO v w k->k<w.heap.size
 dep:∀ v w w',G v w->w.heap.size<=w'.heap.size->(∀ k,cO v w k->w'.heap[k]?=w.heap[k]?)->G v w'/\∀ k,cO v w' k->cO v w k
 rc:Bool:=false
 soft:rc=false->∀ v w w',G v w->w.heap.size<=w'.heap.size->(∀ k,cO v w k->∀ cs ty f,w.heap[k]?=some (Go.Obj.cells cs ty f)->w'.heap[k]?=some (Go.Obj.cells cs ty f))->G v w'/\∀ k,cO v w' k->cO v w k
structure aa where
 G:World->Prop
 cO:Nat->Prop
 ds:List Deferred:=[]
 Fa:Fact->Prop:=λ_=>False
 mp:Map:=λ_=>none
 lt:∀ w k,G w->cO k->k<w.heap.size
 dep:∀ w w',G w->sT w w'->w'.tape=w.tape->w'.output=w.output->w.heap.size<=w'.heap.size->(∀ k,cO k->w'.heap[k]?=w.heap[k]?)->G w'
def aa.at(w0:World):aa where
 G w:=Below w0.heap.size w0 w
 cO k:=k<w0.heap.size
 lt w k h hk:=cv hk h.size
 dep w w' h h1 h2 h3 h4 h5:=⟨h1.trans h.os,h2.trans h.tape,h3.trans h.output,de h.size h4,λk hk=>(h5 k hk).trans (h.block k hk)⟩
inductive Obj where
 |aI (cells:aj) (ty:TypeId)
 |row (cells:aj) (ty:TypeId) (size:Nat)
 |view (cells:aj)
 |fact (F:Fact)
 |dead
def Obj.owns:Obj->Bool
 |.aI _ _=>true
 |.row _ _ _=>true
 |_=>false
def ju(ι:Map)(w:World)(l:oY):Obj->Prop
 |.aI cells ty=>∃ b bC,l=.at b 0 0/\bK (aG ι) cells bC/\w.heap[b]?=some (.cells bC.toArray ty (0,0))
 |.row cells ty size=>(l=.nil/\cells=[])\/∃ b cap cur,l=.at b 0 cap/\w.heap[b]?=some (.cells cur ty (0,0))/\cap<=maxLen/\cur.size=cap*size/\bK (aG ι) cells (cur.toList.take cells.length)
 |.view cells=>(l=.nil/\cells=[])\/∃ b o cap bC,l=.at b o cap/\bK (aG ι) cells bC/\∀ j u,bC[j]?=some u->w.cell? ⟨b,o+j,none⟩=some u
 |.fact F=>∃ v,l=.val v/\F.G v w
 |.dead=>True
def Obj.gh:Obj->Bool
 |.view _=>true
 |_=>false
structure aQ(B:aa)(ι:Map)(c:Nat->Option Obj)(w:World):Prop where
 base:B.G w
 dr:∀ k,c k=none->ι k=none
 born:∀ k x,c k=some x->∃ l,ι k=some l/\ju ι w l x
 own:∀ k x b o cap,c k=some x->x.owns=true->ι k=some (.at b o cap)->b<w.heap.size/\¬B.cO b
 inj:∀ k j x y b o cap o' aT,c k=some x->x.owns=true->c j=some y->y.owns=true->ι k=some (.at b o cap)->ι j=some (.at b o' aT)->k=j
 apart:∀ k j x F b o cap v,c k=some x->x.owns=true->ι k=some (.at b o cap)->c j=some (.fact F)->ι j=some (.val v)->¬F.cO v w b
 seen:∀ k x b o cap,c k=some x->x.gh=true->ι k=some (.at b o cap)->b<w.heap.size/\∀ j y o' aT,c j=some y->y.owns=true->ι j≠some (.at b o' aT)
 fa:∀ j F,c j=some (.fact F)->F.rc=true->B.Fa F
 one:∀ j k F F',c j=some (.fact F)->c k=some (.fact F')->F.rc=true->F'.rc=true->j=k
 oz:Map.le B.mp ι
theorem ju.mono{ι κ:Map}(hle:Map.le ι κ){w:World}{l:oY}{x:Obj}(h:ju ι w l x):ju κ w l x:=by
 cases x with
 |aI cells ty=>obtain⟨b,bC,h1,h2,h3⟩:=h;exact⟨b,bC,h1,nT hle h2,h3⟩
 |row cells ty size=>
  rcases h with h|⟨b,cap,cur,h1,h2,h3,h4,h5⟩
  ·exact .inl h
  ·exact .inr ⟨b,cap,cur,h1,h2,h3,h4,nT hle h5⟩
 |view cells=>
  rcases h with h|⟨b,o,cap,bC,h1,h2,h3⟩
  ·exact .inl h
  ·exact .inr ⟨b,o,cap,bC,h1,nT hle h2,h3⟩
 |fact F=>exact h
 |dead=>trivial
theorem ju.gB{ι:Map}{w w':World}{l:oY}{x:Obj}(h:ju ι w l x)(hs:w.heap.size<=w'.heap.size)
  (hb:∀ b o cap,x.owns=true\/x.gh=true->l=.at b o cap->w'.heap[b]?=w.heap[b]?) (hf:∀ F v b,x=.fact F->l=.val v->F.cO v w b->w'.heap[b]?=w.heap[b]?):ju ι w' l x:=by
 cases x with
 |aI cells ty=>obtain⟨b,bC,h1,h2,h3⟩:=h;exact⟨b,bC,h1,h2,by rw[hb b 0 0 (.inl rfl) h1];exact h3⟩
 |row cells ty size=>
  rcases h with h|⟨b,cap,cur,h1,h2,h3,h4,h5⟩
  ·exact .inl h
  ·exact .inr ⟨b,cap,cur,h1,by rw[hb b 0 cap (.inl rfl) h1];exact h2,h3,h4,h5⟩
 |view cells=>
  rcases h with h|⟨b,o,cap,bC,h1,h2,h3⟩
  ·exact .inl h
  ·exact .inr ⟨b,o,cap,bC,h1,h2,λj u hj=>by rw[World.cell?_of_block (w:=w) (w':=w') (a:=⟨b,o+j,none⟩) (hb b o cap (.inr rfl) h1)];exact h3 j u hj⟩
 |fact F=>obtain⟨v,h1,h2⟩:=h;exact⟨v,h1,(F.dep v w w' h2 hs λk hk=>hf F v k rfl h1 hk).1⟩
 |dead=>trivial
theorem ju.wD{ι:Map}{w:World}{l:oY}{F:Fact}{v:Value}(h:ju ι w l (.fact F))(hl:l=.val v){b:Nat}(hb:F.cO v w b):b<w.heap.size:=by obtain⟨v',h1,h2⟩:=h;rw[hl]at h1;injection h1 with h1;subst h1;exact F.lt _ w b h2 hb
theorem aQ.B9{B:aa}{ι:Map}{c:Nat->Option Obj}{w w':World}(h:aQ B ι c w){j:Nat}{F:Fact}{v:Value}(hj:c j=some (.fact F))(hv:ι j=some (.val v))(hs:w.heap.size<=w'.heap.size)
  (Ax:∀ k,k<w.heap.size->F.cO v w k->w'.heap[k]?=w.heap[k]?) {b:Nat} (hF:F.cO v w' b):F.cO v w b:=by
 obtain⟨l,q1,v',q2,q3⟩:=h.born j _ hj;rw[hv]at q1;injection q1 with q1;subst q1;injection q2 with q2;subst q2;exact(F.dep v w w' q3 hs λk hk=>Ax k (F.lt v w k q3 hk) hk).2 b hF
theorem aQ.call{B:aa}{ι:Map}{c:Nat->Option Obj}{w w':World}(h:aQ B ι c w)(hb:Below w.heap.size w w'):aQ B ι c w' where
 base:=B.dep w w' h.base hb.os hb.tape hb.output hb.size λk hk=>hb.block k (B.lt w k h.base hk)
 dr:=h.dr
 born k x hk:=by
  obtain⟨l,h1,h2⟩:=h.born k x hk;refine⟨l,h1,h2.gB hb.size (λb o cap hx hl=>?_) λF v b hx hl hf=>?_⟩
  ·rcases hx with hx|hx
   ·exact hb.block b (h.own k x b o cap hk hx (by rw[h1,hl])).1
   ·exact hb.block b (h.seen k x b o cap hk hx (by rw[h1,hl])).1
  ·subst hx;exact hb.block b (h2.wD hl hf)
 own k x b o cap hk hx hl:=⟨cv (h.own k x b o cap hk hx hl).1 hb.size,(h.own k x b o cap hk hx hl).2⟩
 inj:=h.inj
 apart k j x F b o cap v hk hx hl hj hv hF:=h.apart k j x F b o cap v hk hx hl hj hv (h.B9 hj hv hb.size (λk hk _=>hb.block k hk) hF)
 seen k x b o cap hk hx hl:=⟨cv (h.seen k x b o cap hk hx hl).1 hb.size,(h.seen k x b o cap hk hx hl).2⟩
 fa:=h.fa
 one:=h.one
 oz:=h.oz
def ba(c:Nat->Option Obj)(k:Nat)(x:Obj):Nat->Option Obj:=λj=>if j=k then some x else c j
def dF(ι:Map)(k:Nat)(l:oY):Map:=λj=>if j=k then some l else ι j
theorem gC{ι:Map}{k:Nat}{l:oY}(h:ι k=none):Map.le ι (dF ι k l):=λj m e=>by
 unfold dF;by_cases hj:j=k
 ·subst hj;rw[h]at e;cases e
 ·rw[ao hj];exact e
theorem fD(ι:Map)(k:Nat)(l:oY):dF ι k l k=some l:=by simp[dF]
theorem aQ.add{B:aa}{ι:Map}{c:Nat->Option Obj}{w:World}(h:aQ B ι c w){k:Nat}(hk:c k=none){x:Obj}{l:oY}(hx:ju (dF ι k l) w l x)
  (dL:∀ b o cap,x.owns=true->l=.at b o cap->b<w.heap.size/\¬B.cO b/\(∀ j y o' aT,c j=some y->y.owns=true->ι j≠some (.at b o' aT))/\(∀ j F v,c j=some (.fact F)->ι j=some (.val v)->¬F.cO v w b)/\(∀ j y o' aT,c j=some y->y.gh=true->ι j≠some (.at b o' aT)))
  (I5:∀ F v b,x=.fact F->l=.val v->F.cO v w b->∀ j y o' aT,c j=some y->y.owns=true->ι j≠some (.at b o' aT))
  (aGC:∀ b o cap,x.gh=true->l=.at b o cap->b<w.heap.size/\∀ j y o' aT,c j=some y->y.owns=true->ι j≠some (.at b o' aT)) (nU:∀ F,x=.fact F->F.rc=true->(B.Fa F/\∀ j F',c j=some (.fact F')->F'.rc=false):=by intro F e;cases e):aQ B (dF ι k l) (ba c k x) w:=by
 have qk:=h.dr k hk;have hle:=gC (l:=l) qk;have cW:∀ j y,j≠k->ba c k x j=some y->c j=some y:=λj y hj e=>by unfold ba at e;rw[ao hj]at e;exact e
 have uh:∀ j m,j≠k->dF ι k l j=some m->ι j=some m:=λj m hj e=>by unfold dF at e;rw[ao hj]at e;exact e
 have new:∀ y,ba c k x k=some y->y=x:=λy e=>by unfold ba at e;rw[aw rfl]at e;injection e with e;exact e.symm
 have lT:∀ m,dF ι k l k=some m->m=l:=λm e=>by rw[fD]at e;injection e with e;exact e.symm
 refine⟨h.base,?_,?_,?_,?_,?_,?_,?_,?_,h.oz.trans hle⟩
 ·intro j hj;unfold ba at hj;unfold dF;by_cases bN:j=k
  ·rw[aw bN]at hj;cases hj
  ·rw[ao bN]at hj ⊢;exact h.dr j hj
 ·intro j y hj;by_cases bN:j=k
  ·subst bN;rw[new y hj];exact⟨l,fD _ _ _,hx⟩
  ·obtain⟨m,h1,h2⟩:=h.born j y (cW j y bN hj);exact⟨m,hle _ _ h1,h2.mono hle⟩
 ·intro j y b o cap hj hy hl;by_cases bN:j=k
  ·subst bN;rw[new y hj]at hy;have:=dL b o cap hy (lT _ hl).symm;exact⟨this.1,this.2.1⟩
  ·exact h.own j y b o cap (cW j y bN hj) hy (uh _ _ bN hl)
 ·intro i j y z b o cap o' aT hi hy hj hz hl hm;by_cases eV:i=k<;>by_cases bN:j=k
  ·rw[eV,bN]
  ·exfalso;subst eV;rw[new y hi]at hy;exact(dL b o cap hy (lT _ hl).symm).2.2.1 j z o' aT (cW j z bN hj) hz (uh _ _ bN hm)
  ·exfalso;subst bN;rw[new z hj]at hz;exact(dL b o' aT hz (lT _ hm).symm).2.2.1 i y o cap (cW i y eV hi) hy (uh _ _ eV hl)
  ·exact h.inj i j y z b o cap o' aT (cW i y eV hi) hy (cW j z bN hj) hz (uh _ _ eV hl) (uh _ _ bN hm)
 ·intro i j y F b o cap v hi hy hl hj hv hF;by_cases eV:i=k<;>by_cases bN:j=k
  ·subst eV;subst bN;have e:y=.fact F:=(new y hi).trans (new _ hj).symm;rw[e]at hy;cases hy
  ·subst eV;rw[new y hi]at hy;exact(dL b o cap hy (lT _ hl).symm).2.2.2.1 j F v (cW j _ bN hj) (uh _ _ bN hv) hF
  ·subst bN;exact I5 F v b (new _ hj).symm (lT _ hv).symm hF i y o cap (cW i y eV hi) hy (uh _ _ eV hl)
  ·exact h.apart i j y F b o cap v (cW i y eV hi) hy (uh _ _ eV hl) (cW j _ bN hj) (uh _ _ bN hv) hF
 ·intro j y b o cap hj hy hl;by_cases bN:j=k
  ·subst bN;rw[new y hj]at hy;obtain⟨q1,q2⟩:=aGC b o cap hy (lT _ hl).symm;refine⟨q1,λi z o' aT hi hz hm=>?_⟩;by_cases mB:i=j
   ·subst mB;rw[new z hi]at hz;cases x<;>simp[Obj.owns,Obj.gh]at hy hz
   ·exact q2 i z o' aT (cW i z mB hi) hz (uh _ _ mB hm)
  ·obtain⟨q1,q2⟩:=h.seen j y b o cap (cW j y bN hj) hy (uh _ _ bN hl);refine⟨q1,λi z o' aT hi hz hm=>?_⟩;by_cases eV:i=k
   ·subst eV;rw[new z hi]at hz;exact(dL b o' aT hz (lT _ hm).symm).2.2.2.2 j y o cap (cW j y bN hj) hy (uh _ _ bN hl)
   ·exact q2 i z o' aT (cW i z eV hi) hz (uh _ _ eV hm)
 ·intro j F hj;by_cases bN:j=k
  ·subst bN;exact λwE=>(nU F (new _ hj).symm wE).1
  ·exact h.fa j F (cW j _ bN hj)
 ·intro i j F F' hi hj hr sU;by_cases eV:i=k<;>by_cases bN:j=k
  ·rw[eV,bN]
  ·subst eV;have:=(nU F (new _ hi).symm hr).2 j F' (cW j _ bN hj);rw[sU]at this;cases this
  ·subst bN;have:=(nU F' (new _ hj).symm sU).2 i F (cW i _ eV hi);rw[hr]at this;cases this
  ·exact h.one i j F F' (cW i _ eV hi) (cW j _ bN hj) hr sU
theorem aQ.new{B:aa}{ι:Map}{c:Nat->Option Obj}{w w':World}(h:aQ B ι c w)(hb:Below w.heap.size w w'){k:Nat}(hk:c k=none){x:Obj}{l:oY}
  (hx:ju (dF ι k l) w' l x) (dL:∀ b o cap,x.owns=true->l=.at b o cap->w.heap.size<=b/\b<w'.heap.size)
  (I5:∀ F v b,x=.fact F->l=.val v->F.cO v w' b->w.heap.size<=b\/B.cO b) (oZ:x.gh=false) (nU:∀ F,x=.fact F->F.rc=true->(B.Fa F/\∀ j F',c j=some (.fact F')->F'.rc=false):=by intro F e;cases e):aQ B (dF ι k l) (ba c k x) w':=by
 refine(h.call hb).add hk hx (λb o cap D7 hl=>?_) (λF v b XO hl hF j y o' aT hj hy he=>?_) (λb o cap hv=>by rw[oZ]at hv;cases hv) nU
 ·obtain⟨h1,h2⟩:=dL b o cap D7 hl;refine⟨h2,λhF=>by have:=B.lt w b h.base hF;omega,λj y o' aT hj hy he=>?_,λj F v hj he hF=>?_,λj y o' aT hj hy he=>?_⟩
  ·have:=(h.own j y b o' aT hj hy he).1;omega
  ·have hF:=h.B9 hj he hb.size (λk hk _=>hb.block k hk) hF;obtain⟨m,q1,q2⟩:=h.born j _ hj;rw[he]at q1;injection q1 with q1;have:=q2.wD q1.symm hF;omega
  ·have:=(h.seen j y b o' aT hj hy he).1;omega
 ·have h1:=h.own j y b o' aT hj hy he;rcases I5 F v b XO hl hF with h2|h2
  ·omega
  ·exact h1.2 h2
theorem aQ.write{B:aa}{ι:Map}{c:Nat->Option Obj}{w w':World}(h:aQ B ι c w){k b o cap:Nat}{x y:Obj}(hk:c k=some x)(hx:x.owns=true)(hl:ι k=some (.at b o cap))
  (hos:sT w w') (aGD:w'.tape=w.tape) (aGE:w'.output=w.output) (yp:w.heap.size<=w'.heap.size) (I6:∀ j,j<w.heap.size->j≠b->w'.heap[j]?=w.heap[j]?)
  (hy:ju ι w' (.at b o cap) y) (I7:∀ F,y≠.fact F) (I8:y.gh=false):aQ B ι (ba c k y) w':=by
 obtain⟨fJ,XP⟩:=h.own k x b o cap hk hx hl;have cW:∀ j z,j≠k->ba c k y j=some z->c j=some z:=λj z hj e=>by unfold ba at e;rw[ao hj]at e;exact e
 have new:∀ z,ba c k y k=some z->z=y:=λz e=>by unfold ba at e;rw[aw rfl]at e;injection e with e;exact e.symm
 refine⟨B.dep w w' h.base hos aGD aGE yp λj hj=>I6 j (B.lt w j h.base hj) λe=>XP (e▸hj),?_,?_,?_,?_,?_,?_,?_,?_,h.oz⟩
 ·intro j hj;unfold ba at hj;by_cases bN:j=k
  ·rw[aw bN]at hj;cases hj
  ·rw[ao bN]at hj;exact h.dr j hj
 ·intro j z hj;by_cases bN:j=k
  ·subst bN;rw[new z hj];exact⟨_,hl,hy⟩
  ·have il:=cW j z bN hj;obtain⟨m,h1,h2⟩:=h.born j z il;refine⟨m,h1,h2.gB yp (λb' o' aT hz hm=>?_) λF v b' hz hm hF=>?_⟩
   ·subst hm;rcases hz with hz|hz
    ·exact I6 b' (h.own j z b' o' aT il hz h1).1 λe=>bN (h.inj j k z x b o' aT o cap il hz hk hx (e▸h1) hl)
    ·obtain⟨q1,q2⟩:=h.seen j z b' o' aT il hz h1;exact I6 b' q1 λe=>q2 k x o cap hk hx (e▸hl)
   ·subst hz;subst hm;exact I6 b' (h2.wD rfl hF) λe=>h.apart k j x F b o cap v hk hx hl il h1 (e▸hF)
 ·intro j z b' o' aT hj hz hm;by_cases bN:j=k
  ·subst bN;rw[hl]at hm;injection hm with hm;injection hm with cX dB yq;subst cX;exact⟨cv fJ yp,XP⟩
  ·have:=h.own j z b' o' aT (cW j z bN hj) hz hm;exact⟨cv this.1 yp,this.2⟩
 ·intro i j z z' b' o1 lV o2 rk hi hz hj nV vi jv;by_cases eV:i=k<;>by_cases bN:j=k
  ·rw[eV,bN]
  ·subst eV;exact h.inj i j x z' b' o1 lV o2 rk hk hx (cW j z' bN hj) nV vi jv
  ·subst bN;exact h.inj i j z x b' o1 lV o2 rk (cW i z eV hi) hz hk hx vi jv
  ·exact h.inj i j z z' b' o1 lV o2 rk (cW i z eV hi) hz (cW j z' bN hj) nV vi jv
 ·intro i j z F b' o' aT v hi hz hm hj hv hF;by_cases bN:j=k
  ·subst bN;exact absurd (new _ hj).symm (I7 F)
  ·have il:=cW j _ bN hj;have hF:=h.B9 il hv yp (λk2 fE jl=>I6 k2 fE λe=>h.apart k j x F b o cap v hk hx hl il hv (e▸jl)) hF;by_cases eV:i=k
   ·subst eV;exact h.apart i j x F b' o' aT v hk hx hm il hv hF
   ·exact h.apart i j z F b' o' aT v (cW i z eV hi) hz hm il hv hF
 ·intro j z b' o' aT hj hz hm;by_cases bN:j=k
  ·subst bN;rw[new z hj,I8]at hz;cases hz
  ·obtain⟨q1,q2⟩:=h.seen j z b' o' aT (cW j z bN hj) hz hm;refine⟨cv q1 yp,λi z' o2 rk hi nV bo=>?_⟩;by_cases eV:i=k
   ·subst eV;exact q2 i x o2 rk hk hx bo
   ·exact q2 i z' o2 rk (cW i z' eV hi) nV bo
 ·intro j F hj;by_cases bN:j=k
  ·subst bN;exact absurd (new _ hj).symm (I7 F)
  ·exact h.fa j F (cW j _ bN hj)
 ·intro i j F F' hi hj;by_cases eV:i=k
  ·subst eV;exact absurd (new _ hi).symm (I7 F)
  ·by_cases bN:j=k
   ·subst bN;exact absurd (new _ hj).symm (I7 F')
   ·exact h.one i j F F' (cW i _ eV hi) (cW j _ bN hj)
theorem aQ.kill{B:aa}{ι:Map}{c:Nat->Option Obj}{w:World}(h:aQ B ι c w)(k:Nat)(hk:c k≠none):aQ B ι (ba c k .dead) w:=by
 have cW:∀ j z,j≠k->ba c k .dead j=some z->c j=some z:=λj z hj e=>by unfold ba at e;rw[ao hj]at e;exact e
 have new:∀ z,ba c k .dead k=some z->z=.dead:=λz e=>by unfold ba at e;rw[aw rfl]at e;injection e with e;exact e.symm
 refine⟨h.base,?_,?_,?_,?_,?_,?_,?_,?_,h.oz⟩
 ·intro j hj;unfold ba at hj;by_cases bN:j=k
  ·rw[aw bN]at hj;cases hj
  ·rw[ao bN]at hj;exact h.dr j hj
 ·intro j z hj;by_cases bN:j=k
  ·subst bN;rw[new z hj];cases hc:c j with
   |none=>exact absurd hc hk
   |some x=>obtain⟨l,h1,_⟩:=h.born j x hc;exact⟨l,h1,trivial⟩
  ·exact h.born j z (cW j z bN hj)
 ·intro j z b o cap hj hz;by_cases bN:j=k
  ·subst bN;rw[new z hj]at hz;cases hz
  ·exact h.own j z b o cap (cW j z bN hj) hz
 ·intro i j z z' b o1 c1 o2 c2 hi hz hj nV;by_cases eV:i=k
  ·subst eV;rw[new z hi]at hz;cases hz
  ·by_cases bN:j=k
   ·subst bN;rw[new z' hj]at nV;cases nV
   ·exact h.inj i j z z' b o1 c1 o2 c2 (cW i z eV hi) hz (cW j z' bN hj) nV
 ·intro i j z F b o cap v hi hz hl hj;by_cases eV:i=k
  ·subst eV;rw[new z hi]at hz;cases hz
  ·by_cases bN:j=k
   ·subst bN;cases new _ hj
   ·exact h.apart i j z F b o cap v (cW i z eV hi) hz hl (cW j _ bN hj)
 ·intro j z b o cap hj hz;by_cases bN:j=k
  ·subst bN;rw[new z hj]at hz;cases hz
  ·intro hl;obtain⟨q1,q2⟩:=h.seen j z b o cap (cW j z bN hj) hz hl;refine⟨q1,λi z' o' aT hi nV hm=>?_⟩;by_cases eV:i=k
   ·subst eV;rw[new z' hi]at nV;cases nV
   ·exact q2 i z' o' aT (cW i z' eV hi) nV hm
 ·intro j F hj;by_cases bN:j=k
  ·subst bN;cases new _ hj
  ·exact h.fa j F (cW j _ bN hj)
 ·intro i j F F' hi hj;by_cases eV:i=k
  ·subst eV;cases new _ hi
  ·by_cases bN:j=k
   ·subst bN;cases new _ hj
   ·exact h.one i j F F' (cW i _ eV hi) (cW j _ bN hj)
theorem aQ.ext{B:aa}{ι:Map}{c c':Nat->Option Obj}{w:World}(h:aQ B ι c w)(e:∀ k,c' k=c k):aQ B ι c' w:=by have:c'=c:=funext e;rw[this];exact h
theorem aQ.drew{B:aa}{ι:Map}{c:Nat->Option Obj}{w:World}(h:aQ B ι c w)(n:Nat)(hn:w.drawn<=n):aQ B ι c { w with drawn:=n }:=
 h.call ⟨⟨rfl,hn⟩,rfl,rfl,bj _,λ_ _=>rfl⟩
def iO:aj->Nat->aj->aj
 |l,_,[]=>l
 |l,o,v::r=>iO (l.set o v) (o+1) r
theorem Q5:∀(vs l:aj) (o:Nat),(iO l o vs).length=l.length
 |[],_,_=>rfl
 |v::r,l,o=>by rw[iO,Q5 r];simp
theorem bK.iO{ι:Map}:∀{vs cM:aj},bK (aG ι) vs cM->∀{l l':aj},bK (aG ι) l l'->∀ o,bK (aG ι) (iO l o vs) (iO l' o cM)
 |_,_,.nil,_,_,h,_=>h
 |_,_,.cons hv hr,_,_,h,o=>hr.iO (h.set hv o) (o+1)
theorem XQ:∀(vs l:aj) (o n:Nat),o+vs.length<=n->(iO l o vs).take n=iO (l.take n) o vs
 |[],_,_,_,_=>rfl
 |v::r,l,o,n,h=>by simp only[oA]at h;rw[iO,iO,XQ r (l.set o v) (o+1) n o_,List.take_set]
theorem Q6(b:Nat)(ty:TypeId)(fr:Nat×Nat):∀(vs cs:aj) (o:Nat) (w:World),w.heap[b]?=some (.cells cs.toArray ty fr)->
  (w.setCells b o vs).heap[b]?=some (.cells (iO cs o vs).toArray ty fr)/\(∀ k,k≠b->(w.setCells b o vs).heap[k]?=w.heap[k]?)/\(w.setCells b o vs).heap.size=w.heap.size/\
   sT w (w.setCells b o vs)/\(w.setCells b o vs).tape=w.tape/\(w.setCells b o vs).output=w.output
 |[],cs,o,w,h=>⟨h,λ_ _=>rfl,rfl,.refl w,rfl,rfl⟩
 |v::r,cs,o,w,h=>by
  have h1:(w.setCell ⟨b,o,none⟩ v).heap[b]?=some (.cells (cs.set o v).toArray ty fr):=by simp only[World.setCell,XR,ql,h,Q7];simp
  obtain⟨a1,a2,a3,a4,a5,a6⟩:=Q6 b ty fr r (cs.set o v) (o+1) _ h1;refine⟨a1,λk hk=>?_,?_,a4,a5,a6⟩
  ·rw[World.setCells,a2 k hk,Go.RowKit.Below.heap_setCell _ _ _ _ hk]
  ·rw[World.setCells,a3];simp[World.setCell]
def Obj.cells:Obj->aj
 |.aI cs _=>cs
 |.row cs _ _=>cs
 |.view cs=>cs
 |_=>[]
def Obj.L7:Obj->aj->Obj
 |.aI _ ty,cs=>.aI cs ty
 |.row _ ty s,cs=>.row cs ty s
 |x,_=>x
def Obj.reads(x:Obj):Bool:=x.owns||x.gh
theorem ju.at{ι:Map}{w:World}{b o cap:Nat}{x:Obj}(h:ju ι w (.at b o cap) x)(hx:x.reads=true):
  ∃ bC:aj,bK (aG ι) x.cells bC/\∀ j u,bC[j]?=some u->w.cell? ⟨b,o+j,none⟩=some u:=by
 cases x with
 |aI cells ty=>
  obtain⟨b',bC,h1,h2,h3⟩:=h;injection h1 with h1 pG XS;subst h1;subst pG;exact⟨bC,h2,λj u hj=>by simp[World.cell?,h3,hj]⟩
 |row cells ty size=>
  rcases h with h|⟨b',aT,cur,h1,h2,h3,h4,h5⟩
  ·cases h.1
  ·injection h1 with h1 pG XS;subst h1;subst pG;refine⟨_,h5,λj u hj=>?_⟩;rw[ui]at hj;split at hj
   ·have il:cur[j]?=some u:=by simpa using hj
    simp[World.cell?,h2,il]
   ·cases hj
 |view cells=>
  rcases h with h|⟨b',o',aT,bC,h1,h2,h3⟩
  ·cases h.1
  ·injection h1 with h1 pG XS;subst h1;subst pG;exact⟨bC,h2,h3⟩
 |fact F=>cases hx
 |dead=>cases hx
theorem aQ.store{B:aa}{ι:Map}{c:Nat->Option Obj}{w:World}(h:aQ B ι c w){k b oo cap o:Nat}{x:Obj}{vs cM:aj}(hk:c k=some x)(hx:x.owns=true)(hb:ι k=some (.at b oo cap))
  (hv:bK (aG ι) vs cM) (hle:o+vs.length<=x.cells.length) :
  oo=0/\aQ B ι (ba c k (x.L7 (iO x.cells o vs))) (w.setCells b o cM)/\∃(bC:aj) (ty:TypeId),w.heap[b]?=some (.cells bC.toArray ty (0,0))/\o+vs.length<=bC.length:=by
 obtain⟨l,h1,h2⟩:=h.born k x hk;rw[hb]at h1;injection h1 with h1;subst h1;cases x with
 |aI cells ty=>
  obtain⟨b',bC,q1,q2,q3⟩:=h2;injection q1 with q1 qm Q8;subst q1;subst qm;subst Q8;obtain⟨a1,a2,a3,a4,a5,a6⟩:=Q6 b ty (0,0) cM bC o w q3;exact⟨rfl,h.write hk hx hb a4 a5 a6 (vj a3.symm) (λj _ hj=>a2 j hj) ⟨b,_,rfl,hv.iO q2 o,a1⟩ n_ rfl,bC,ty,q3,by rw[<-q2.length];exact hle⟩
 |row cells ty size=>
  rcases h2 with h2|⟨b',aT,cur,q1,q2,q3,q4,q5⟩
  ·cases h2.1
  ·injection q1 with q1 qm Q8;subst q1;subst qm;subst Q8;obtain⟨a1,a2,a3,a4,a5,a6⟩:=Q6 b ty (0,0) cM cur.toList o w (by simpa using q2);have uj:o+cM.length<=cells.length:=by rw[<-hv.length];exact hle
   have iF:cells.length<=cur.toList.length:=by have:=q5.length;rw[jw]at this;omega
   refine⟨rfl,h.write hk hx hb a4 a5 a6 (vj a3.symm) (λj _ hj=>a2 j hj) (.inr ⟨b,cap,_,rfl,a1,q3,by simp[Q5,q4],?_⟩) n_ rfl,cur.toList,ty,by simpa using q2,?_⟩
   ·rw[Q5];show bK (aG ι) (iO cells o vs) (List.take cells.length (iO cur.toList o cM));rw[XQ _ _ _ _ uj];exact hv.iO q5 o
   ·rw[hv.length];omega
 |view cells=>cases hx
 |fact F=>cases hx
 |dead=>cases hx
abbrev aH:=List (Nat×Obj)
def lp(c:Nat->Option Obj):aH->Nat->Option Obj
 |[]=>c
 |(k,x)::l=>ba (lp c l) k x
def gW(P:Program)(B:aa)(o:Oper)(eB:aj)(need:List (Nat×Option Obj))(val:Value)(cR:aH):Prop:=
 ∀(ι:Map) (c:Nat->Option Obj) (ρ:Operand->Value) (w:World),bK (aG ι) eB (o.op.operands.toList.map ρ)->aQ B ι c w->(∀ p∈need,c p.1=p.2)->
  ∃ au v' w',Map.le ι au/\aG au val v'/\aQ B au (lp c cR) w'/\((execOp ρ o).run P w=.ok (.value v') w'\/(v'=undef/\(execOp ρ o).run P w=.ok .skip w'))
def FW(R:Option Nat):Fence:={ fn:=λ_=>True,depth:=none,alive:=false,round:=R }
theorem XT{P:Program}{ρ:Operand->Value}{o:Oper}{w w':World}{n:Next}(h:(execOp ρ o).run P w=.ok n w')(hn:∀ d,n≠.defer d):∀ c,o.op≠.defer c:=by
 intro c hc;have e:execOp ρ o=(do let d <-resolve ρ c o.type;pure (.defer d)):=by unfold execOp;rw[hc]
 rw[e,I9]at h;cases hr:(resolve ρ c o.type).run P w with
 |ok d w1=>rw[hr]at h;injection h with h _;exact hn d h.symm
 |halt x w1=>rw[hr]at h;cases h
def cB(P:Program)(B:aa)(o:Oper)(eB:aj)(need:List (Nat×Option Obj))(val:Value)(cR:aH):Prop:=
 ∀(R:Option Nat) (ι:Map) (c:Nat->Option Obj) (a:Act) (w:World),bK (aG ι) eB (o.op.operands.toList.map a.eval)->aQ B ι c w->(∀ p∈need,c p.1=p.2)->
  ∀(K:Act->World->Prop) (Q:Exit->Act->World->Prop),(∀ au v' w',Map.le ι au->aG au val v'->aQ B au (lp c cR) w'->K (a.put o.dst v') w')->o.wpIn (FW R) 0 P a w K Q
theorem gW.step{P:Program}{B:aa}{o:Oper}{eB:aj}{need:List (Nat×Option Obj)}{val:Value}{cR:aH}(h:gW P B o eB need val cR):cB P B o eB need val cR:=by
 intro R ι c a w hv hm hn K Q hK;refine⟨λ_ _=>trivial,?_⟩;obtain⟨au,v',w',h1,h2,h3,h4|⟨h4,h5⟩⟩:=h ι c a.eval w hv hm hn
 ·rw[L8 _ _ _ (XT h4 n_),h4,Oper.uponIn_value];exact hK au v' w' h1 h2 h3
 ·rw[L8 _ _ _ (XT h5 n_),h5,Oper.uponIn_skip];subst h4;exact hK au undef w' h1 h2 h3
section
variable{P:Program}{B:aa}{o:Oper}
theorem lW{α β:Type}{R:α->β->Prop}{a:α}{m:List β}(h:bK R [a] m):∃ b,m=[b]/\R a b:=by cases h with|cons h t=>cases t;exact⟨_,rfl,h⟩
theorem jx{α β:Type}{R:α->β->Prop}{a a2:α}{m:List β}(h:bK R [a,a2] m):∃ b b2,m=[b,b2]/\R a b/\R a2 b2:=by cases h with|cons h t=>obtain⟨b2,rfl,h2⟩:=lW t;exact⟨_,_,rfl,h,h2⟩
def du(P:Program)(t:TypeId)(cells:aj)(off:Nat):Option Value:=
 match P.underlying t,P.info? t with
 |some d,some i=>
  if d.isRow then(if Nat.ble (off+i.size) cells.length then some (.agg ((cells.drop off).take i.size).toArray)else none)
  else cells[off]?
 |_,_=>none
def eW(P:Program)(t:TypeId)(cells:aj)(off:Nat)(v:Value):Option aj:=
 match P.info? t with
 |some i=>if Nat.beq i.size v.cells.size&&Nat.ble (off+v.cells.size) cells.length&&v.cells.toList.all (·.oneCell')then some (iO cells off v.cells.toList)else none
 |none=>none
theorem XU{ι:Map}{c:Nat->Option Obj}{w:World}(hm:aQ B ι c w){k off:Nat}{x:Obj}{t:TypeId}{v u:Value}
  (hk:c k=some x) (hx:x.reads=true) (hv:du P t x.cells off=some v) (hc:aG ι (.pointer (some ⟨k,off,some 7⟩)) u) :
  ∃ v' a',u=.pointer (some a')/\aG ι v v'/\(loadVar t a').run P w=.ok v' w:=by
 obtain⟨b,o,cap,hb,he⟩:=hc.yo rfl;dsimp only at hb he;obtain⟨l,h1,h2⟩:=hm.born k x hk;rw[hb]at h1;injection h1 with h1;subst h1;obtain⟨bC,fV,lX⟩:=h2.at hx;unfold du at hv;split at hv
 ·rename_i d i hd hi;split at hv
  ·rename_i jm;split at hv
   ·rename_i XV;have XV:=rl XV;have hlen:=fV.length;injection hv with hv;refine⟨.agg ((bC.drop off).take i.size).toArray,⟨b,o+off,none⟩,he,by rw[<-hv];exact .agg ((fV.drop _).take _),?_⟩;exact run_loadVar_mid (P:=P) w b (o+off) t ((bC.drop off).take i.size) d (λj u hj=>by
      rw[ui]at hj;split at hj
      ·rw[D8]at hj;rw[uk];exact lX _ _ hj
      ·cases hj) hd jm (by rw[hi];simp;omega)
   ·cases hv
  ·rename_i jm;obtain⟨u',jK,Q9⟩:=fV.get _ _ hv;refine⟨u',⟨b,o+off,none⟩,he,Q9,?_⟩;have aGF:(isAgg t).run P w=.ok false w:=by unfold isAgg;rw[I9,iG hd w];cases d<;>first|rfl|(simp[TypeDesc.isRow]at jm)
   simp[loadVar,I9,aGF,load,Sem.run,lX _ _ jK]
 ·cases hv
theorem XW{t:TypeId}{x:Operand}(ho:o.op=.load t x){k off:Nat}{y:Obj}{v:Value}(hx:y.reads=true)(hv:du P t y.cells off=some v):
  gW P B o [.pointer (some ⟨k,off,some 7⟩)] [(k,some y)] v []:=by
 intro ι c ρ w aO hm hn;rw[ho]at aO;obtain⟨u,hu,hc⟩:=lW aO;have hu:ρ x=u:=by simpa[Op.operands]using hu
 obtain⟨v',a',e,jX,pH⟩:=XU hm (hn _ (aV ..)) hx hv hc;refine⟨ι,v',w,Map.le.refl _,jX,hm,.inl ?_⟩;simp only[execOp,ho,hu,e,Instr.loadAt,Instr.sureAddr];simp[pH]
theorem XX{t:TypeId}{x y:Operand}(ho:o.op=.store t x y){k off:Nat}{z:Obj}{v:Value}{cs:aj}(hx:z.owns=true)(hv:eW P t z.cells off v=some cs):
  gW P B o [.pointer (some ⟨k,off,some 7⟩),v] [(k,some z)] undef [(k,z.L7 cs)]:=by
 intro ι c ρ w aO hm hn;rw[ho]at aO;obtain⟨u,u2,hu,hc,hy⟩:=jx aO;have dP:ρ x=u:=by simp[Op.operands]at hu;exact hu.1
 have fv:ρ y=u2:=by simp[Op.operands]at hu;exact hu.2
 have hk:c k=some z:=hn _ (aV ..);obtain⟨b,oo,cap,hb,he⟩:=hc.yo rfl;dsimp only at hb he;unfold eW at hv;split at hv
 ·rename_i i hi;split at hv
  ·rename_i pI;injection hv with hv;simp only[da,bh]at pI;obtain⟨⟨bH,hle⟩,D9⟩:=pI;have bH:=Q3 bH;have hle:=rl hle;have Gr:=hy.cells.length;simp only[yr]at Gr;obtain⟨h0,bL,bC,ty,lY,uj⟩:=hm.store hk hx hb hy.cells (o:=off) (by simpa using hle);subst h0;rw[jY]at he;refine⟨ι,undef,w.setCells b off u2.cells.toList,Map.le.refl _,.same rfl,by rw[<-hv];exact bL,.inr ⟨rfl,?_⟩⟩
   have run:=run_storeCells_cells (P:=P) b off u2.cells.toList 0 w
     (λj hj=>by
      simp at hj;simp only[yr]at uj;have:j+off<bC.length:=by omega
      simp[World.cell?,lY];omega)
     (λj hj=>by simp[World.frozen?,lY])
     (λv1 ky=>by
      obtain⟨j,hj⟩:=XY ky;have ak:j<v.cells.toList.length:=by
       have:j<u2.cells.toList.length:=by
        rcases eF j u2.cells.toList.length with h|h
        ·exact h
        ·rw[Ay h]at hj;cases hj
       rw[hy.cells.length];exact this
      obtain⟨v',qo,sV⟩:=hy.cells.get j _ (bf ak);rw[hj]at qo;injection qo with qo;rw[qo,sV.XN];exact D9 _ (dM ak))
   simp only[jn]at run;simp only[execOp,ho,dP,he,fv,Instr.storeAt,Instr.sureAddr];simp[storeVar,sizeOf,typeInfo,hi,bH,<-Gr,run]
  ·cases hv
 ·cases hv
theorem XZ{x:Operand}(ho:o.op=.move x\/o.op=.assign x){v:Value}:gW P B o [v] [] v []:=by
 intro ι c ρ w aO hm hn;have yt:o.op.operands=#[x]:=by rcases ho with ho|ho<;>rw[ho]<;>rfl
 rw[yt]at aO;obtain⟨u,hu,hc⟩:=lW aO;have hu:ρ x=u:=by simpa using hu
 refine⟨ι,u,w,Map.le.refl _,hc,hm,.inl ?_⟩;rcases ho with ho|ho<;>simp[execOp,ho,hu]
theorem Ja{α β:Type}{R:α->β->Prop}{a a2 a3:α}{m:List β}(h:bK R [a,a2,a3] m):∃ b b2 b3,m=[b,b2,b3]/\R a b/\R a2 b2/\R a3 b3:=by cases h with|cons h t=>obtain⟨b2,b3,rfl,h2,h3⟩:=jx t;exact⟨_,_,_,rfl,h,h2,h3⟩
theorem aGG{x y z:Operand}(ho:o.op=.pick x y z){b:Bool}{v1 v2:Value}:gW P B o [.bool b,v1,v2] [] (if b then v1 else v2) []:=by
 intro ι c ρ w aO hm hn;rw[ho]at aO;obtain⟨u0,u1,u2,hu,h0,h1,h2⟩:=Ja aO;simp[Op.operands]at hu;obtain⟨e0,e1,e2⟩:=hu;have h0:=h0.bool;cases b
 ·exact⟨ι,u2,w,Map.le.refl _,h2,hm,.inl (by simp[execOp,ho,e0,e1,e2,h0,asBool])⟩
 ·exact⟨ι,u1,w,Map.le.refl _,h1,hm,.inl (by simp[execOp,ho,e0,e1,e2,h0,asBool])⟩
theorem X0{ι:Map}{c:Nat->Option Obj}{w:World}(hm:aQ B ι c w){k:Nat}(hk:c k=none)(cs bC:aj)(ty:TypeId)(hc:bK (aG ι) cs bC):
  aQ B (dF ι k (.at w.heap.size 0 0)) (ba c k (.aI cs ty)) (w.alloc (.cells bC.toArray ty (0,0))):=by
 have hle:=gC (l:=.at w.heap.size 0 0) (hm.dr k hk)
 exact hm.new (w':=w.alloc (.cells bC.toArray ty (0,0))) (x:=.aI cs ty) (l:=.at w.heap.size 0 0) ⟨⟨rfl,bj _⟩,rfl,rfl,by simp,λj hj=>Ra _ _ _ hj⟩ hk
  ⟨_,bC,rfl,nT hle hc,by show(w.heap.push _)[w.heap.size]?=_;simp⟩ (λb o cap _ e=>by injection e with e1 e2;subst e1;simp) n_ rfl
theorem aGH{t:TypeId}(ho:o.op=.alloc t){i:TypeInfo}{z:Value}(hi:P.info? t=some i)(hz:i.zero=some z)(hf:flat z=true)(k:Nat):
  gW P B o [] [(k,none)] (.pointer (some ⟨k,0,some 7⟩)) [(k,.aI z.cells.toList t)]:=by
 intro ι c ρ w aO hm hn;have hk:c k=none:=hn _ (aV ..);refine⟨_,.pointer (some ⟨w.heap.size,0,none⟩),_,gC (hm.dr k hk),.ptr (o:=0) (off:=0) (fD _ _ _),X0 hm hk z.cells.toList z.cells.toList t ((aG.same hf:aG ι z z).cells),.inl ?_⟩;simp[execOp,ho,Instr.alloc,zeroValue,typeInfo,hi,hz,newVar,newRow,newObj,Sem.run]
theorem aGI{t:TypeId}{x:Operand}(ho:o.op=.box t x)(v:Value)(k:Nat):
  gW P B o [v] [(k,none)] (.pointer (some ⟨k,0,some 7⟩)) [(k,.aI v.cells.toList t)]:=by
 intro ι c ρ w aO hm hn;have hk:c k=none:=hn _ (aV ..);rw[ho]at aO;obtain⟨u,hu,hc⟩:=lW aO;have hu:ρ x=u:=by simpa[Op.operands]using hu
 refine⟨_,.pointer (some ⟨w.heap.size,0,none⟩),_,gC (hm.dr k hk),.ptr (o:=0) (off:=0) (fD _ _ _),X0 hm hk v.cells.toList u.cells.toList t hc.cells,.inl ?_⟩;simp[execOp,ho,hu,Instr.box,newVar,newRow,newObj,Sem.run]
theorem aGJ{s:TypeId}{x:Operand}{f:Nat}(ho:o.op=.fieldAddr s x f){fs:Array Field}{fd:Field}{i:TypeInfo}(hs:P.underlying s=some (.struct fs))(vk:fs[f]?=some fd)
  (hi:P.info? fd.type=some i) (bH:1<=i.size) (k off:Nat) :
  gW P B o [.pointer (some ⟨k,off,some 7⟩)] [] (.pointer (some ⟨k,off+fd.offset,some 7⟩)) []:=by
 intro ι c ρ w aO hm hn;rw[ho]at aO;obtain⟨u,hu,hc⟩:=lW aO;have hu:ρ x=u:=by simpa[Op.operands]using hu
 obtain⟨b,oo,cap,hb,he⟩:=hc.yo rfl;have aU:i.size≠0:=by omega
 refine⟨ι,.pointer (some ⟨b,oo+(off+fd.offset),none⟩),w,Map.le.refl _,.ptr hb,hm,.inl ?_⟩;simp only[execOp,ho,hu,he];simp[Instr.fieldAt,Instr.sureAddr,iG hs,vk,fieldPlace,sizeOf,typeInfo,hi,aU,Az,uk]
theorem aGK{t:TypeId}{x ix:Operand}(ho:o.op=.indexAddr t x ix){len:Nat}{e:TypeId}{i:TypeInfo}(ht:P.underlying t=some (.array len e))(hi:P.info? e=some i)
  {kd:IntKind} {n:Int} (h0:0<=n) (h1:n<len) (k off:Nat) :
  gW P B o [.pointer (some ⟨k,off,some 7⟩),.int kd n] [] (.pointer (some ⟨k,off+n.toNat*i.size,some 7⟩)) []:=by
 intro ι c ρ w aO hm hn;rw[ho]at aO;obtain⟨u,u2,hu,hc,hx⟩:=jx aO;have dP:ρ x=u:=by simp[Op.operands]at hu;exact hu.1
 have fv:ρ ix=u2:=by simp[Op.operands]at hu;exact hu.2
 have hx:=hx.eU rfl;obtain⟨b,oo,cap,hb,he⟩:=hc.yo rfl;refine⟨ι,.pointer (some ⟨b,oo+(off+n.toNat*i.size),none⟩),w,Map.le.refl _,.ptr hb,hm,.inl ?_⟩;simp only[execOp,ho,dP,he,fv,hx];simp[Instr.indexAt,Instr.sureAddr,asIntOf,iG ht,sizeOf,typeInfo,hi,h0,h1,Az,uk]
theorem X1{t:TypeId}{x ix:Operand}(ho:o.op=.indexAddr t x ix){e:TypeId}{i:TypeInfo}(ht:P.underlying t=some (.slice e))(hi:P.info? e=some i)
  {kd:IntKind} {n:Int} {len cc:Nat} (h0:0<=n) (h1:n<len) (k off:Nat) :
  gW P B o [.slice (some ⟨k,off,some 7⟩) len cc,.int kd n] [] (.pointer (some ⟨k,off+n.toNat*i.size,some 7⟩)) []:=by
 intro ι c ρ w aO hm hn;rw[ho]at aO;obtain⟨u,u2,hu,hc,hx⟩:=jx aO;have dP:ρ x=u:=by simp[Op.operands]at hu;exact hu.1
 have fv:ρ ix=u2:=by simp[Op.operands]at hu;exact hu.2
 have hx:=hx.eU rfl;rcases hc.gV rfl with ⟨_,h,_⟩|⟨b,oo,cap,c',hb,_,_,he⟩
 ·omega
 ·refine⟨ι,.pointer (some ⟨b,oo+(off+n.toNat*i.size),none⟩),w,Map.le.refl _,.ptr hb,hm,.inl ?_⟩;simp only[execOp,ho,dP,he,fv,hx];simp[Instr.indexAt,asIntOf,iG ht,sizeOf,typeInfo,hi,h0,h1,Az,uk]
theorem aGL{x:Operand}{i:Nat}(ho:o.op=.extract x i){vs:Array Value}{v:Value}(hv:vs[i]?=some v):gW P B o [.tuple vs] [] v []:=by
 intro ι c ρ w aO hm hn;rw[ho]at aO;obtain⟨u,hu,hc⟩:=lW aO;have hu:ρ x=u:=by simpa[Op.operands]using hu
 obtain⟨cM,he,bd⟩:=hc.ug;obtain⟨v',qo,sV⟩:=bd.get i v (by simpa using hv);refine⟨ι,v',w,Map.le.refl _,sV,hm,.inl ?_⟩;have aGM:cM[i]?=some v':=by simpa using qo
 simp only[execOp,ho,hu,he];simp[Instr.extract,aGM]
theorem aGN{f:Fn}{fi ca:Array Operand}(ho:o.op=.makeFunc f fi ca){vs:aj}:gW P B o vs [] (.func f (vs.take fi.size).toArray (vs.drop fi.size).toArray) []:=by intro ι c ρ w aO hm hn;rw[ho]at aO;simp only[Op.operands,Array.toList_append,sW]at aO;have h1:=aO.take fi.size;have h2:=aO.drop fi.size;rw[Rb s_]at h1;rw[Rc s_]at h2;refine⟨ι,_,w,Map.le.refl _,.fn h1 h2,hm,.inl ?_⟩;simp[execOp,ho,Instr.makeFunc,<-Array.toList_map]
theorem aGO{t:TypeId}{x:Operand}{e:TypeId}(ho:o.op=.call { callee:=.builtin .len,args:=#[x],argTypes:=#[t]})(ht:P.underlying t=some (.slice e))(k off n cc:Nat):
  gW P B o [.slice (some ⟨k,off,some 7⟩) n cc] [] (.int .i64 n) []:=by
 intro ι c ρ w aO hm hn;rw[ho]at aO;obtain⟨u,hu,hc⟩:=lW aO;have hu:ρ x=u:=by simpa[Op.operands,Call.operands]using hu
 refine⟨ι,.int .i64 n,w,Map.le.refl _,.same rfl,hm,.inl ?_⟩;rcases hc.gV rfl with ⟨_,h,_,_,he⟩|⟨b,oo,cap,c',hb,_,_,he⟩
 ·subst h;simp[execOp,ho,resolve,invoke,builtin,Builtin.len_,hu,he,iG ht,goInt]
 ·simp[execOp,ho,resolve,invoke,builtin,Builtin.len_,hu,he,iG ht,goInt]
def L9{α:Type}(P:Program):Sem α->Option α
 |.pure a=>some a
 |.program k=>L9 P (k P)
 |.mark _ k=>L9 P k
 |_=>none
theorem Re{α:Type}{P:Program}:∀{e:Sem α} {a:α},L9 P e=some a->∀ w,e.run P w=.ok a w
 |.pure _,a,h,w=>by injection h with h;subst h;rfl
 |.program k,a,h,w=>by rw[Sem.run];exact Re (e:=k P) h w
 |.mark _ k,a,h,w=>by rw[Sem.run];exact Re (e:=k) h w
 |.load _ _ _,_,h,_=>by cases h
 |.store _ _ _ _,_,h,_=>by cases h
 |.new _ _,_,h,_=>by cases h
 |.shape _ _,_,h,_=>by cases h
 |.freeze _ _ _,_,h,_=>by cases h
 |.frozen _ _,_,h,_=>by cases h
 |.getObj _ _,_,h,_=>by cases h
 |.setObj _ _ _,_,h,_=>by cases h
 |.choose _ _,_,h,_=>by cases h
 |.sys _ _,_,h,_=>by cases h
 |.halt _,_,h,_=>by cases h
theorem nr{ι:Map}{l l':aj}(h:bK (aG ι) l l')(hf:∀ v∈l,flat v=true):l'=l:=by
 induction h with
 |nil=>rfl
 |cons h t ih=>rw[h.eU (hf _ (aV ..)),ih λv hv=>hf v (bF _ hv)]
theorem AA{eB:aj}{val:Value}(Rf:∀ v∈eB,flat v=true)(hf:flat val=true)
  (h:∀ ρ:Operand->Value,o.op.operands.toList.map ρ=eB->∀ w,B.G w->(execOp ρ o).run P w=.ok (.value val) w):gW P B o eB [] val []:=by
 intro ι c ρ w aO hm hn;exact⟨ι,val,w,Map.le.refl _,.same hf,hm,.inl (h ρ (nr aO Rf) w hm.base)⟩
end
section
variable{P:Program}{B:aa}{o:Oper}
def bound(x:Option Operand)(n:Nat):aj:=match x with|some _=>[.int .i64 n]|none=>[]
theorem aGP{t:TypeId}{x:Operand}{lo hi:Option Operand}(ho:o.op=.slice t x lo hi none){e:TypeId}{i:TypeInfo}(ht:P.underlying t=some (.slice e))(Ea:P.info? e=some i)
  {k off n cc l h:Nat} (hl:lo=none->l=0) (hh:hi=none->h=n) (Ma:l<=h) (X2:h<=n) (hz:l<h\/l=0) :
  gW P B o (.slice (some ⟨k,off,some 7⟩) n cc::(bound lo l++bound hi h)) [] (.slice (some ⟨k,off+l*i.size,some 7⟩) (h-l) (cc+l)) []:=by
 intro ι c ρ w aO hm hn;rw[ho]at aO;have hb:∀(x:Option Operand) (q:Nat),bK (aG ι) (bound x q) ((x.toArray).toList.map ρ)->∀ y,x=some y->ρ y=.int .i64 q:=by
  intro x q h y hy;subst hy;obtain⟨u,hu,hc⟩:=lW h;have hu:ρ y=u:=by simpa using hu
  rw[hu];exact hc.eU rfl
 have yt:(Op.operands (.slice t x lo hi none)).toList.map ρ=ρ x::(lo.toArray.toList.map ρ++hi.toArray.toList.map ρ):=by simp[Op.operands]
 rw[yt]at aO;cases aO with
 |cons hc rm=>
 have hlen:(bound lo l).length=(lo.toArray.toList.map ρ).length:=by cases lo<;>rfl
 have h1:bK (aG ι) (bound lo l) (lo.toArray.toList.map ρ):=by have:=rm.take (bound lo l).length;rwa[Rg,hlen,Rg]at this
 have h2:bK (aG ι) (bound hi h) (hi.toArray.toList.map ρ):=by have:=rm.drop (bound lo l).length;rwa[List.drop_left,hlen,List.drop_left]at this
 have dQ:∀ y,lo=some y->ρ y=.int .i64 l:=hb lo l h1;have iq:∀ y,hi=some y->ρ y=.int .i64 h:=hb hi h h2;have rp:∀(y:Nat) (q:Nat) (code:BoundsCode),q<=y->(Instr.sliceBound (.int .i64 q) y code).run P w=.ok q w:=by intro y q code hq;have:(0:Int)<=q/\(q:Int)<=y:=⟨by omega,by omega⟩;simp[Instr.sliceBound,asIntOf,this]
 have Rh:∀ cap,n<=cap->(Instr.sliceBounds true n cap (lo.map ρ) (hi.map ρ) none).run P w=.ok (l,h,cap) w:=by
  intro cap jy;cases lo with
  |none=>
   have:=hl rfl;subst this;cases hi with
   |none=>have:=hh rfl;subst this;simp[Instr.sliceBounds]
   |some y=>simp[Instr.sliceBounds,iq y rfl,rp cap h _ o_]
  |some x=>
   cases hi with
   |none=>have:=hh rfl;subst this;simp[Instr.sliceBounds,dQ x rfl,rp h l _ Ma]
   |some y=>simp[Instr.sliceBounds,iq y rfl,dQ x rfl,rp cap h _ o_,rp h l _ Ma]
 rcases hc.gV rfl with ⟨hb,kf,pJ,yu,he⟩|⟨b,oo,cap,c',hb,lq,mC,he⟩
 ·dsimp only at yu;have hh0:h=0:=by omega
  have qp:l=0:=by omega
  subst kf;subst pJ;subst yu;subst hh0;subst qp;refine⟨ι,.slice none 0 0,w,Map.le.refl _,by simpa using aG.slcN hb,hm,.inl ?_⟩;simp only[execOp,ho];simp[Instr.sliceAt,iG ht,Instr.slice,he,Rh 0 (bj _),sizeOf,typeInfo,Ea]
 ·refine⟨ι,.slice (some ⟨b,oo+(off+l*i.size),none⟩) (h-l) (c'-l),w,Map.le.refl _,.slc hb o_ o_,hm,.inl ?_⟩;simp only[execOp,ho];by_cases iF:c'=l
  ·have qp:l=0:=by omega
   simp[Instr.sliceAt,iG ht,Instr.slice,he,Rh c' lq,sizeOf,typeInfo,Ea,qp,Az,uk]
  ·simp[Instr.sliceAt,iG ht,Instr.slice,he,Rh c' lq,sizeOf,typeInfo,Ea,iF,Az,uk]
theorem X3{t:TypeId}{x y:Operand}(ho:o.op=.makeSlice t x y){e:TypeId}{i:TypeInfo}{z:Value}(ht:P.underlying t=some (.slice e))(hi:P.info? e=some i)(hz:i.zero=some z)
  {kl kc:IntKind} {l cp:Nat} (hlc:l<=cp) (Ca:i.bytes*cp<=281474976710656) (h63:cp<=maxLen) {cells:aj} (iY:(madeCells z.cells (cp*i.size)).toList.take (l*i.size)=cells)
  (hlen:cells.length=l*i.size) (cN:∀ v∈cells,flat v=true) (k:Nat) :
  gW P B o [.int kl l,.int kc cp] [(k,none)] (.slice (some ⟨k,0,some 7⟩) l 0) [(k,.row cells e i.size)]:=by
 intro ι c ρ w aO hm hn;have hk:c k=none:=hn _ (aV ..);rw[ho]at aO;obtain⟨u,u2,hu,hc,hx⟩:=jx aO;have dP:ρ x=u:=by simp[Op.operands]at hu;exact hu.1
 have fv:ρ y=u2:=by simp[Op.operands]at hu;exact hu.2
 have hc:=hc.eU rfl;have hx:=hx.eU rfl;have hle:=gC (l:=.at w.heap.size 0 cp) (hm.dr k hk);have hr:=run_make (P:=P) w t e i z ht hi hz kl kc l cp o_ o_ (by
  have h:((i.bytes*cp:Nat):Int)<=281474976710656:=by omega
  rwa[nW]at h) (by have h:=h63;simp[maxLen]at h;omega)
 simp only[Int.toNat_natCast]at hr;refine⟨dF ι k (.at w.heap.size 0 cp),.slice (some ⟨w.heap.size,0,none⟩) l cp,w.alloc (.cells (madeCells z.cells (cp*i.size)) e),hle,.slc (o:=0) (off:=0) (fD _ _ _) hlc o_,?_,.inl ?_⟩
 ·refine hm.new (w':=w.alloc (.cells (madeCells z.cells (cp*i.size)) e)) (x:=.row cells e i.size) ⟨⟨rfl,bj _⟩,rfl,rfl,by simp,λj hj=>Ra _ _ _ hj⟩ hk
   (.inr ⟨w.heap.size,cp,_,rfl,by show(w.heap.push _)[w.heap.size]?=_;simp;rfl,h63,size_madeCells _ _,?_⟩) (λb o cap _ e=>by injection e with e1 e2;subst e1;simp) n_ rfl
  rw[hlen,iY];exact ke cN
 ·simp only[execOp,ho,dP,fv,hc,hx];simp[hr]
def Cb(B:aa)(sv:Value)(m:Nat)(news:aj)(need:List (Nat×Option Obj)):Prop:=
 ∀(ι:Map) (c:Nat->Option Obj) (w:World) (u:Value),aQ B ι c w->(∀ p∈need,c p.1=p.2)->aG ι sv u->
  (m=0/\news=[]/\u=.slice none 0 0)\/∃ ad c' lZ,u=.slice (some ad) m c'/\bK (aG ι) news lZ/\∀ j v,lZ[j]?=some v->w.cell? (ad.add j)=some v
theorem Mb{k off m cc:Nat}{x:Obj}(hx:x.reads=true){len:Nat}(h0:m=0->len=0):Cb B (.slice (some ⟨k,off,some 7⟩) m cc) m ((x.cells.drop off).take len) [(k,some x)]:=by
 intro ι c w u hm hn hc;have hk:c k=some x:=hn _ (aV ..);rcases hc.gV rfl with ⟨hb,kf,pJ,yu,he⟩|⟨b,oo,cap,c',hb,lq,mC,he⟩
 ·refine .inl ⟨kf,?_,he⟩;rw[h0 kf];rfl
 ·dsimp only at hb he;obtain⟨l,h1,h2⟩:=hm.born k x hk;rw[hb]at h1;injection h1 with h1;subst h1;obtain⟨bC,fV,lX⟩:=h2.at hx;refine .inr ⟨⟨b,oo+off,none⟩,c',_,he,(fV.drop off).take len,λj v hj=>?_⟩;rw[ui]at hj;split at hj
  ·rw[D8]at hj;rw[Az,uk];exact lX _ _ hj
  ·cases hj
theorem Gs{ι:Map}{c:Nat->Option Obj}{w:World}(hm:aQ B ι c w){k:Nat}(hk:c k=none){cells cells':aj}{rest:Array Value}{ty:TypeId}{size cap:Nat}(hc:bK (aG ι) cells cells')
  (jy:cap<=maxLen) (bH:cells'.length+rest.size=cap*size) :
  aQ B (dF ι k (.at w.heap.size 0 cap)) (ba c k (.row cells ty size)) (w.alloc (.cells (cells'.toArray++rest) ty)):=by
 have hle:=gC (l:=.at w.heap.size 0 cap) (hm.dr k hk)
 refine hm.new (w':=w.alloc (.cells (cells'.toArray++rest) ty)) (x:=.row cells ty size) ⟨⟨rfl,bj _⟩,rfl,rfl,by simp,λj hj=>Ra _ _ _ hj⟩ hk
  (.inr ⟨w.heap.size,cap,cells'.toArray++rest,rfl,by show(w.heap.push _)[w.heap.size]?=_;simp,jy,by simpa using bH,?_⟩) (λb o cap _ e=>by injection e with e1 e2;subst e1;simp) n_ rfl
 rw[hc.length,Array.toList_append];show bK _ _ (List.take cells'.length (cells'++rest.toList));rw[Rg];exact nT hle hc
theorem aGQ{ι:Map}{l l':aj}(h:bK (aG ι) l l')(h1:∀ v∈l,v.oneCell'=true):∀ v∈l',v.oneCell'=true:=by intro v hv;obtain⟨j,hj⟩:=XY hv;obtain⟨u,hu,hc⟩:=h.get' j v hj;rw[hc.XN];exact h1 u (cQ hu)
theorem aGR{s x:Operand}{t:TypeId}(ho:o.op=.call { callee:=.builtin .append,args:=#[s,x],argTypes:=#[t,t]})
  {e:TypeId} {i:TypeInfo} {z:Value} (ht:P.underlying t=some (.slice e)) (hi:P.info? e=some i) (hz:i.zero=some z) (Mc:z.cells.size=i.size) (bH:0<i.size)
  {sv:Value} {m:Nat} {news:aj} {need:List (Nat×Option Obj)} (yv:Cb B sv m news need) (hl:news.length=m*i.size)
  (h63:m<=maxLen) (Ca:m*i.bytes<=140737488355328) (k:Nat) :
  gW P B o [.slice none 0 0,sv] ((k,none)::need) (.slice (some ⟨k,0,some 7⟩) m 0) [(k,.row news e i.size)]:=by
 intro ι c ρ w aO hm hn;have hk:c k=none:=hn _ (aV ..);rw[ho]at aO;obtain⟨u,u2,hu,hc,hx⟩:=jx aO;have dP:ρ s=u:=by simp[Op.operands,Call.operands]at hu;exact hu.1
 have fv:ρ x=u2:=by simp[Op.operands,Call.operands]at hu;exact hu.2
 have hc:=hc.eU rfl;have Jb:m=0->(Builtin.append_ #[t,t] o.type #[u,u2]).run P w=.ok (.slice none 0 0) w->
   ∃ au v' w',Map.le ι au/\aG au (.slice (some ⟨k,0,some 7⟩) m 0) v'/\aQ B au (lp c [(k,.row news e i.size)]) w'/\((execOp ρ o).run P w=.ok (.value v') w'\/(v'=undef/\(execOp ρ o).run P w=.ok .skip w')):=by
  intro kz hr;subst kz;have kf:news=[]:=lv (by simpa using hl);subst kf;refine⟨dF ι k .nil,.slice none 0 0,w,gC (hm.dr k hk),.slcN (fD _ _ _),hm.add hk (.inl ⟨rfl,rfl⟩) n_ n_ n_,.inl ?_⟩;simp[execOp,ho,resolve,invoke,builtin,dP,fv,hr]
 rcases yv ι c w u2 hm (λp hp=>hn p (bF _ hp)) hx with ⟨h1,h2,h3⟩|⟨ad,c',lZ,h1,h2,h3⟩
 ·refine Jb h1 ?_;rw[hc,h3];simp[Builtin.append_,iG ht,sizeOf,typeInfo,hi,Builtin.lenOf,Builtin.firstCells]
 ·have ch:lZ.length=m*i.size:=by rw[<-h2.length];exact hl
  by_cases kz:m=0
  ·refine Jb kz ?_;rw[hc,h1,kz];simp[Builtin.append_,iG ht,sizeOf,typeInfo,hi,Builtin.lenOf,Builtin.firstCells,loadCells,loadCellsFrom]
  ·have hr:=run_append_nil (P:=P) w t o.type e i z ht hi hz ad m c' lZ ch h3 o_ (by have h:=h63;simp[maxLen]at h;omega) o_;have dR:=grownCap_ge w m 0 e;have dC:=X4 w m 0 e h63;have bo:aQ B ι c w.drew:=hm.call ⟨⟨rfl,yw _⟩,rfl,rfl,bj _,λ_ _=>rfl⟩;have kS:=Gs (ty:=e) (size:=i.size) (cap:=grownCap w m 0 e) (rest:=Builtin.zeroCells z.cells (grownCap w m 0 e-m)) bo hk h2 dC (by
    have h:=Md z.cells (grownCap w m 0 e-m);rw[ch,h,Mc,<-fA]
    congr 1;omega)
   refine⟨_,_,_,gC (hm.dr k hk),.slc (o:=0) (off:=0) (fD _ _ _) dR o_,kS,.inl ?_⟩;rw[<-hc,<-h1]at hr;simp[execOp,ho,resolve,invoke,builtin,dP,fv,hr]
theorem aGS{s x:Operand}{t:TypeId}(ho:o.op=.call { callee:=.builtin .append,args:=#[s,x],argTypes:=#[t,t]})
  {e:TypeId} {i:TypeInfo} {z:Value} (ht:P.underlying t=some (.slice e)) (hi:P.info? e=some i) (hz:i.zero=some z) (Mc:z.cells.size=i.size) (bH:0<i.size)
  {sv:Value} {m:Nat} {news:aj} {need:List (Nat×Option Obj)} (yv:Cb B sv m news need) (hl:news.length=m*i.size) (Ri:∀ v∈news,v.oneCell'=true)
  {j n:Nat} {cells:aj} (l4:n*i.size<=cells.length) (h63:n+m<=maxLen) (Ca:(n+m)*i.bytes<=140737488355328) (k:Nat) :
  gW P B o [.slice (some ⟨j,0,some 7⟩) n 0,sv] ((k,none)::(j,some (.row cells e i.size))::need) (.slice (some ⟨k,0,some 7⟩) (n+m) 0)
   [(k,.row (cells.take (n*i.size)++news) e i.size),(j,.dead)]:=by
 intro ι c ρ w aO hm hn;have hk:c k=none:=hn _ (aV ..);have hj:c j=some (.row cells e i.size):=hn _ (bF _ (aV ..));have hkj:j≠k:=λe=>by rw[e,hk]at hj;cases hj
 have gD:ba c j .dead k=none:=by unfold ba;rw[ao (mD hkj)];exact hk
 rw[ho]at aO;obtain⟨u,u2,hu,hc,hx⟩:=jx aO;have dP:ρ s=u:=by simp[Op.operands,Call.operands]at hu;exact hu.1
 have fv:ρ x=u2:=by simp[Op.operands,Call.operands]at hu;exact hu.2
 have ex:∀ v' w',(Builtin.append_ #[t,t] o.type #[u,u2]).run P w=.ok v' w'->(execOp ρ o).run P w=.ok (.value v') w':=by intro v' w' hr;simp[execOp,ho,resolve,invoke,builtin,dP,fv,hr]
 have Gt:aQ B ι (ba c j .dead) w:=hm.kill j (by rw[hj];exact n_);rcases hc.gV rfl with ⟨hb,kf,_,_,he⟩|⟨b,oo,cap,c',hb,lq,mC,he⟩
 ·-- nothing is there yet
  subst kf;subst he;have Rj:=yv ι c w u2 hm (λp hp=>hn p (bF _ (bF _ hp))) hx;have AB:cells.take (0*i.size)=[]:=by simp
  rw[AB,jo,jY];simp only[jY]at h63 Ca;have Jb:m=0->(Builtin.append_ #[t,t] o.type #[.slice none 0 0,u2]).run P w=.ok (.slice none 0 0) w->
    ∃ au v' w',Map.le ι au/\aG au (.slice (some ⟨k,0,some 7⟩) m 0) v'/\aQ B au (lp c [(k,.row news e i.size),(j,.dead)]) w'/\((execOp ρ o).run P w=.ok (.value v') w'\/(v'=undef/\(execOp ρ o).run P w=.ok .skip w')):=by
   intro kz hr;subst kz;have kf:news=[]:=lv (by simpa using hl);subst kf;exact⟨dF ι k .nil,.slice none 0 0,w,gC (hm.dr k hk),.slcN (fD _ _ _),Gt.add gD (.inl ⟨rfl,rfl⟩) n_ n_ n_,.inl (ex _ _ hr)⟩
  rcases Rj with ⟨h1,h2,h3⟩|⟨ad,c',lZ,h1,h2,h3⟩
  ·refine Jb h1 ?_;rw[h3];simp[Builtin.append_,iG ht,sizeOf,typeInfo,hi,Builtin.lenOf,Builtin.firstCells]
  ·have ch:lZ.length=m*i.size:=by rw[<-h2.length];exact hl
   by_cases kz:m=0
   ·refine Jb kz ?_;rw[h1,kz];simp[Builtin.append_,iG ht,sizeOf,typeInfo,hi,Builtin.lenOf,Builtin.firstCells,loadCells,loadCellsFrom]
   ·have hr:=run_append_nil (P:=P) w t o.type e i z ht hi hz ad m c' lZ ch h3 o_ (by have h:=h63;simp[maxLen]at h;omega) o_;have dR:=grownCap_ge w m 0 e;have dC:=X4 w m 0 e h63;have bo:aQ B ι (ba c j .dead) w.drew:=Gt.call ⟨⟨rfl,yw _⟩,rfl,rfl,bj _,λ_ _=>rfl⟩;have kS:=Gs (ty:=e) (size:=i.size) (cap:=grownCap w m 0 e) (rest:=Builtin.zeroCells z.cells (grownCap w m 0 e-m)) bo gD h2 dC (by
     have h:=Md z.cells (grownCap w m 0 e-m);rw[ch,h,Mc,<-fA]
     congr 1;omega)
    refine⟨_,_,_,gC (hm.dr k hk),.slc (o:=0) (off:=0) (fD _ _ _) dR o_,kS,.inl (ex _ _ ?_)⟩;rw[h1,hr];rfl
 ·-- a row
  dsimp only at hb he;subst he;have kg:c'=cap:=by omega
  subst kg;obtain⟨l,q1,q2⟩:=hm.born j _ hj;rw[hb]at q1;injection q1 with q1;subst q1;rcases q2 with q2|⟨b',aT,cur,e1,lY,dC,fV,iY⟩
  ·cases q2.1
  injection e1 with e1 e2 e3;subst e1;subst e2;subst e3;have iF:cells.length<=cur.size:=by have:=iY.length;rw[jw,yr]at this;change cells.length=min cells.length cur.size at this;omega
  have Me:bK (aG ι) (cells.take (n*i.size)) (cur.toList.take (n*i.size)):=by have:=iY.take (n*i.size);rwa[Mf,nX l4]at this
  have holds:∀(jj:Nat) (v:Value),(cur.toList.take (n*i.size))[jj]?=some v->w.cell? ((⟨b,0,none⟩:Addr).add jj)=some v:=by
   intro jj v hv;rw[ui]at hv;split at hv
   ·have qo:cur[jj]?=some v:=by simpa using hv
    simp[World.cell?,Az,lY,qo]
   ·cases hv
  have dQ:(cur.toList.take (n*i.size)).length=n*i.size:=by rw[jw,yr];omega
  -- the source
  have Rj:∃ ad c' lZ,u2=.slice ad m c'/\bK (aG ι) news lZ/\(ad=none->m=0/\c'=0)/\∀ a,ad=some a->∀ j v,lZ[j]?=some v->w.cell? (a.add j)=some v:=by
   rcases yv ι c w u2 hm (λp hp=>hn p (bF _ (bF _ hp))) hx with ⟨h1,h2,h3⟩|⟨ad,c',lZ,h1,h2,h3⟩
   ·subst h1;subst h2;exact⟨none,0,[],h3,.nil,λ_=>⟨rfl,rfl⟩,λa e=>by cases e⟩
   ·exact⟨some ad,c',lZ,h1,h2,λe=>(by cases e),λa e=>by injection e with e;subst e;exact h3⟩
  obtain⟨ad,c2,lZ,Rk,Jc,Mg,lX⟩:=Rj;have ch:lZ.length=m*i.size:=by rw[<-Jc.length];exact hl
  have dL:=hm.own j _ b 0 c' hj rfl hb
  -- where the block is kept
  have gB:∀ w' (fK:Array Value),sT w w'->w'.tape=w.tape->w'.output=w.output->w.heap.size<=w'.heap.size->(∀ q,q≠b->w'.heap[q]?=w.heap[q]?)->w'.heap[b]?=some (.cells fK e (0,0))->
    fK.size=c'*i.size->fK.toList.take (n*i.size+m*i.size)=cur.toList.take (n*i.size)++lZ->n+m<=c'->(Builtin.append_ #[t,t] o.type #[.slice (some ⟨b,0,none⟩) n c',u2]).run P w=.ok (.slice (some ⟨b,0,none⟩) (n+m) c') w'->
    ∃ au v' w',Map.le ι au/\aG au (.slice (some ⟨k,0,some 7⟩) (n+m) 0) v'/\aQ B au (lp c [(k,.row (cells.take (n*i.size)++news) e i.size),(j,.dead)]) w'/\((execOp ρ o).run P w=.ok (.value v') w'\/(v'=undef/\(execOp ρ o).run P w=.ok .skip w')):=by
   intro w' fK p1 p2 p3 p4 p5 p6 p7 p8 p9 hr;have hle:=gC (l:=.at b 0 c') (hm.dr k hk);have cX:aQ B ι (ba c j .dead) w':=hm.write hj rfl hb p1 p2 p3 p4 (λq _ hq=>p5 q hq) trivial n_ rfl;refine⟨dF ι k (.at b 0 c'),_,w',hle,.slc (o:=0) (off:=0) (fD _ _ _) p9 o_,cX.add gD (.inr ⟨b,c',fK,rfl,p6,dC,p7,?_⟩) (λb1 o1 lV _ e1=>?_) n_ n_,.inl (ex _ _ hr)⟩
   ·have e1:(cells.take (n*i.size)++news).length=n*i.size+m*i.size:=by rw[iZ,jw,hl];omega
    rw[e1,p8];exact(nT hle Me).append (nT hle Jc)
   ·injection e1 with e1 e2;subst e1;refine⟨cv dL.1 p4,dL.2,λq y o' aT hq hy AD=>?_,λq F v hq AD=>?_,λq y o' aT hq hy AD=>?_⟩
    ·unfold ba at hq;by_cases wF:q=j
     ·rw[aw wF]at hq;injection hq with hq;subst hq;cases hy
     ·rw[ao wF]at hq;exact wF (hm.inj q j y _ b o' aT 0 c' hq hy hj rfl AD hb)
    ·unfold ba at hq;by_cases wF:q=j
     ·rw[aw wF]at hq;cases hq
     ·rw[ao wF]at hq;exact λhF=>hm.apart j q _ F b 0 c' v hj rfl hb hq AD (hm.B9 hq AD p4 (λk2 fE jl=>p5 k2 λe=>hm.apart j q _ F b 0 c' v hj rfl hb hq AD (e▸jl)) hF)
    ·unfold ba at hq;by_cases wF:q=j
     ·rw[aw wF]at hq;injection hq with hq;subst hq;cases hy
     ·rw[ao wF]at hq;exact(hm.seen q y b o' aT hq hy AD).2 j _ 0 c' hj rfl hb
  by_cases Jd:n+m<=c'
  ·cases ad with
   |none=>
    obtain⟨kz,pJ⟩:=Mg rfl;subst kz;subst pJ;have kf:lZ=[]:=lv (by simpa using ch);subst kf;refine gB w cur (.refl w) rfl rfl (bj _) (λ_ _=>rfl) lY fV s_ Jd ?_;rw[Rk];have hr:=run_append_owned_none (P:=P) (w:=w) 0 t o.type e i i.size ht hi (.slice (some ⟨b,0,none⟩) n c') n (cur.toList.take (n*i.size)) ⟨dQ,.inr ⟨b,c',cur,rfl,kT _,lY,by omega,dC,fV,rfl⟩⟩;simpa using hr
   |some a=>
    have hr:=run_append_room (P:=P) w t o.type e i ht hi b n c' cur lY a m c2 lZ ch (lX a rfl) (aGQ Jc Ri) Jd (by rw[ch,fV,<-fA];exact e6 _ Jd);refine gB (w.setRow b (cur.toList.take (n*i.size)++lZ++cur.toList.drop (n*i.size+lZ.length)).toArray) _ ⟨rfl,bj _⟩ rfl rfl s_ (λq hq=>setRow_other w b q _ hq) (setRow_heap w b cur _ e _ lY) ?_ ?_ Jd (by rw[Rk];exact hr)
    ·have:=e6 i.size Jd;rw[fA]at this;simp only[Mh,iZ,dQ,vl,yr,ch];omega
    ·have e1:(cur.toList.take (n*i.size)++lZ).length=n*i.size+m*i.size:=by rw[iZ,dQ,ch]
     rw[<-e1];exact Rg
  ·cases ad with
   |none=>
    obtain⟨kz,_⟩:=Mg rfl;omega
   |some a=>
    have hr:=run_append_grow (P:=P) w t o.type e i z ht hi hz ⟨b,0,none⟩ n c' _ dQ holds a m c2 lZ ch (lX a rfl) o_ (by have h:=h63;simp[maxLen]at h;omega) (growslice_fits o_ Ca);have dR:=grownCap_ge w (n+m) c' e;have aGT:=X4 w (n+m) c' e h63;have bo:aQ B ι (ba c j .dead) w.drew:=Gt.call ⟨⟨rfl,yw _⟩,rfl,rfl,bj _,λ_ _=>rfl⟩;have kS:=Gs (ty:=e) (size:=i.size) (cap:=grownCap w (n+m) c' e) (rest:=Builtin.zeroCells z.cells (grownCap w (n+m) c' e-(n+m))) bo gD (Me.append Jc) aGT (by
     have h:=Md z.cells (grownCap w (n+m) c' e-(n+m));rw[iZ,dQ,ch,h,Mc,<-fA,<-fA]
     congr 1;omega)
    refine⟨_,_,_,gC (hm.dr k hk),.slc (o:=0) (off:=0) (fD _ _ _) dR o_,kS,.inl (ex _ _ ?_)⟩;rw[Rk,hr];simp
theorem X5{src dst e:TypeId}{x:Operand}(ho:o.op=.convert src dst x)(hs:P.underlying src=some (.slice e))(he:P.underlying e=some (.int .u8))(hd:P.underlying dst=some .string)
  {k off n cc:Nat} {y:Obj} {ns:List Int} (hy:y.reads=true) (Eb:(y.cells.drop off).take n=ns.map (Value.int .u8)) (hlen:ns.length=n) :
  gW P B o [.slice (some ⟨k,off,some 7⟩) n cc] [(k,some y)] (.string (ns.foldl (λr n=>r.push (UInt8.ofNat n.toNat)) ByteArray.empty)) []:=by
 intro ι c ρ w aO hm hn;rw[ho]at aO;obtain⟨u,hu,hc⟩:=lW aO;have hu:ρ x=u:=by simpa[Op.operands]using hu
 refine⟨ι,_,w,Map.le.refl _,.same rfl,hm,.inl ?_⟩;have jX:=λa l c=>run_convert_bytes_string (P:=P) w src dst e a l c hs he hd;rcases Mb (B:=B) (k:=k) (off:=off) (m:=n) (cc:=cc) hy (len:=n) (λh=>h) ι c w u hm hn hc with ⟨h1,h2,h3⟩|⟨ad,c',lZ,h1,h2,h3⟩
 ·subst h1;have:ns=[]:=lv hlen;subst this;simp only[execOp,ho,hu,h3];simp[jX,Conv.bytesToString]
 ·rw[Eb]at h2;have h2:=nr h2 (λv hv=>by obtain⟨q,_,rfl⟩:=dj.1 hv;rfl);subst h2;have aGU:(loadCells ad n).run P w=.ok (ns.map (Value.int .u8)).toArray w:=by have:=run_loadCells_list (P:=P) (w:=w) ad (ns.map (Value.int .u8)) h3;simpa[hlen]using this
  simp only[execOp,ho,hu,h1];simp[jX,run_bytesToString w ad n c' ns aGU]
end
def fW(look:Nat->Value):Operand->Value
 |.tmp t=>look t
 |.const v=>v
 |.global g=>.pointer (some ⟨g,0,none⟩)
 |.func f=>.func (.func f) #[] #[]
def Mi:Operand->Bool
 |.const v=>flat v
 |_=>true
structure fh(B:aa)(ι:Map)(look:Nat->Value)(N:Nat)(a:Act):Prop where
 defers:a.defers=B.ds
 size:a.tmps.size=N
 slot:∀ t,nq ι (look t) (a.tmps.getD t undef)
theorem fh.mono{B:aa}{ι κ:Map}(hle:Map.le ι κ){look:Nat->Value}{N:Nat}{a:Act}(h:fh B ι look N a):fh B κ look N a:=⟨h.defers,h.size,λt=>(h.slot t).mono hle⟩
theorem X6{B:aa}{ι:Map}{look:Nat->Value}{N:Nat}{a:Act}(hf:fh B ι look N a){x:Operand}(hx:Mi x=true)(hn:lS (fW look x)=false):aG ι (fW look x) (a.eval x):=by
 cases x with
 |tmp t=>exact(hf.slot t).Aw hn
 |const v=>exact .same hx
 |global g=>exact .same rfl
 |func f=>exact .same rfl
theorem Rl{B:aa}{ι:Map}{look:Nat->Value}{N:Nat}{a:Act}(hf:fh B ι look N a):∀(l:List Operand),(∀ x∈l,Mi x=true/\lS (fW look x)=false)->bK (aG ι) (l.map (fW look)) (l.map a.eval)
 |[],_=>.nil
 |x::l,h=>(.cons (X6 hf (h x (aV ..)).1 (h x (aV ..)).2) (Rl hf l λy hy=>h y (bF _ hy)))
structure qt where
 val:Value
 cR:aH
 need:List (Nat×Option Obj)
def Mj(P:Program)(look:Nat->Value)(o:Oper):Option qt:=
 if o.op.operands.toList.all (λx=>flat (fW look x))then(match L9 P (execOp (fW look) o)with
   |some (.value v)=>if flat v then some ⟨v,[],[]⟩else none
   |_=>none)else none
def X7(look:Nat->Value)(c:Call):Option (Nat×TypeId×Operand×Addr×Nat):=
 match c.callee,c.args.toList,c.argTypes.toList with
 |.builtin .len,[x],[t]=>match fW look x with
  |.slice (some ad) n cc=>if nk ad then some (n,t,x,ad,cc)else none
  |_=>none
 |_,_,_=>none
def qv(P:Program)(look:Nat->Value)(g:Nat->Option Obj)(next:Nat)(o:Oper):Option qt:=
 match o.op with
 |.move x=>some ⟨fW look x,[],[]⟩
 |.assign x=>some ⟨fW look x,[],[]⟩
 |.pick c x y=>match fW look c with
  |.bool b=>some ⟨if b then fW look x else fW look y,[],[]⟩
  |_=>none
 |.alloc t=>match P.info? t with
  |some i=>match i.zero with
   |some z=>if flat z then some ⟨.pointer (some ⟨next,0,some 7⟩),[(next,.aI z.cells.toList t)],[(next,none)]⟩else none
   |none=>none
  |none=>none
 |.box t x=>some ⟨.pointer (some ⟨next,0,some 7⟩),[(next,.aI (fW look x).cells.toList t)],[(next,none)]⟩
 |.load t x=>match fW look x with
  |.pointer (some ad)=>if nk ad then(match g ad.block with
   |some y=>if y.reads then(match du P t y.cells ad.off with|some v=>some ⟨v,[],[(ad.block,some y)]⟩|none=>none)else none
   |none=>none)else none
  |_=>none
 |.store t x y=>match fW look x with
  |.pointer (some ad)=>if nk ad then(match g ad.block with
   |some z=>if z.owns then(match eW P t z.cells ad.off (fW look y)with|some cs=>some ⟨undef,[(ad.block,z.L7 cs)],[(ad.block,some z)]⟩|none=>none)else none
   |none=>none)else none
  |_=>none
 |.fieldAddr s x f=>match fW look x with
  |.pointer (some ad)=>if nk ad then(match P.underlying s with
   |some (.struct fs)=>(match fs[f]? with
    |some fd=>(match P.info? fd.type with
     |some i=>if Nat.ble 1 i.size then some ⟨.pointer (some ⟨ad.block,ad.off+fd.offset,some 7⟩),[],[]⟩else none
     |none=>none)
    |none=>none)
   |_=>none)else none
  |_=>none
 |.indexAddr t x ix=>match fW look x,fW look ix with
  |.pointer (some ad),.int _ n=>if nk ad then(match P.underlying t with
   |some (.array len e)=>(match P.info? e with
    |some i=>if 0<=n/\n<len then some ⟨.pointer (some ⟨ad.block,ad.off+n.toNat*i.size,some 7⟩),[],[]⟩else none
    |none=>none)
   |_=>none)else none
  |.slice (some ad) len _,.int _ n=>if nk ad then(match P.underlying t with
   |some (.slice e)=>(match P.info? e with
    |some i=>if 0<=n/\n<len then some ⟨.pointer (some ⟨ad.block,ad.off+n.toNat*i.size,some 7⟩),[],[]⟩else none
    |none=>none)
   |_=>none)else none
  |_,_=>none
 |.extract x i=>match fW look x with
  |.tuple vs=>(match vs[i]? with|some v=>some ⟨v,[],[]⟩|none=>none)
  |_=>none
 |.makeFunc f fi ca=>some ⟨.func f (((fi++ca).toList.map (fW look)).take fi.size).toArray (((fi++ca).toList.map (fW look)).drop fi.size).toArray,[],[]⟩
 |.call c=>match X7 look c with
  |some (n,t,_)=>(match P.underlying t with|some (.slice _)=>some ⟨.int .i64 n,[],[]⟩|_=>none)
  |none=>Mj P look o
 |_=>Mj P look o
def AE(look:Nat->Value)(o:Oper):Bool:=o.op.operands.toList.all (λx=>Mi x&&!lS (fW look x))&&(match o.op with|.select _ _=>false|_=>true)
def Cc(g:Nat->Option Obj)(next:Nat)(e:qt):Prop:=(∀ p∈e.need,(∃ x,p.2=some x/\g p.1=some x)\/(p.2=none/\next<=p.1))/\∀ p∈e.cR,∃ q∈e.need,q.1=p.1
theorem Cd{a:Addr}(h:nk a=true):a=⟨a.block,a.off,some 7⟩:=by obtain⟨b,o,s⟩:=a;have:=I3 h;dsimp only at this;subst this;rfl
theorem X8{P:Program}{B:aa}{look:Nat->Value}{g:Nat->Option Obj}{next:Nat}{o:Oper}{e:qt}(ay:AE look o=true)(h:qv P look g next o=some e):
  gW P B o (o.op.operands.toList.map (fW look)) e.need e.val e.cR/\Cc g next e:=by
 simp only[AE,da,bh]at ay;obtain⟨yt,X9⟩:=ay;have um:Cc g next ⟨e.val,[],[]⟩:=⟨λp hp=>(by cases hp),λp hp=>(by cases hp)⟩;have Ya:Mj P look o=some e->gW P B o (o.op.operands.toList.map (fW look)) e.need e.val e.cR/\Cc g next e:=by
  intro h;unfold Mj at h;split at h
  ·rename_i cN;rw[bh]at cN;split at h
   ·rename_i v hp;split at h
    ·rename_i Rf;injection h with h;subst h;refine⟨AA (λv hv=>by obtain⟨x,hx,rfl⟩:=dj.1 hv;exact cN x hx) Rf λρ e7 w _=>?_,um⟩;rw[execOp_congr (ρ:=ρ) (ρ':=fW look) o (λcs b e=>by rw[e]at X9;cases X9) (λx hx=>by obtain⟨j,hj⟩:=XY (Mk.2 hx);have:=cI (λl=>l[j]?) e7;simp only[Ce,hj,Q7]at this;injection this)]
     exact Re hp w
    ·cases h
   ·cases h
  ·cases h
 cases bP:o.op with
 |move x=>
  simp only[qv,bP]at h;injection h with h;subst h;exact⟨XZ (.inl bP),um⟩
 |assign x=>
  simp only[qv,bP]at h;injection h with h;subst h;exact⟨XZ (.inr bP),um⟩
 |pick c x y=>
  simp only[qv,bP]at h;split at h
  ·rename_i b hb;injection h with h;subst h;refine⟨?_,um⟩;have:=aGG (P:=P) (B:=B) bP (b:=b) (v1:=fW look x) (v2:=fW look y);rw[<-hb]at this;exact this
  ·cases h
 |alloc t=>
  simp only[qv,bP]at h;split at h
  ·rename_i i hi;split at h
   ·rename_i z hz;split at h
    ·rename_i Yb;injection h with h;subst h;exact⟨aGH bP hi hz Yb next,λp hp=>.inr (by simp at hp;subst hp;exact⟨rfl,bj _⟩),λp hp=>⟨_,aV ..,by simp at hp;subst hp;rfl⟩⟩
    ·cases h
   ·cases h
  ·cases h
 |box t x=>
  simp only[qv,bP]at h;injection h with h;subst h;exact⟨aGI bP _ next,λp hp=>.inr (by simp at hp;subst hp;exact⟨rfl,bj _⟩),λp hp=>⟨_,aV ..,by simp at hp;subst hp;rfl⟩⟩
 |load t x=>
  simp only[qv,bP]at h;split at h
  ·rename_i ad hx;split at h
   ·rename_i dL;split at h
    ·rename_i y hy;split at h
     ·rename_i Ec;split at h
      ·rename_i v hv;injection h with h;subst h;refine⟨?_,λp hp=>.inl ⟨y,by simp at hp;subst hp;exact⟨rfl,hy⟩⟩,λp hp=>(by cases hp)⟩;have:=XW (P:=P) (B:=B) bP (k:=ad.block) Ec hv;rw[<-Cd dL,<-hx]at this;exact this
      ·cases h
     ·cases h
    ·cases h
   ·cases h
  ·cases h
 |store t x y=>
  simp only[qv,bP]at h;split at h
  ·rename_i ad hx;split at h
   ·rename_i dL;split at h
    ·rename_i z hz;split at h
     ·rename_i hzo;split at h
      ·rename_i cs fV;injection h with h;subst h;refine⟨?_,λp hp=>.inl ⟨z,by simp at hp;subst hp;exact⟨rfl,hz⟩⟩,λp hp=>⟨_,aV ..,by simp at hp;subst hp;rfl⟩⟩;have:=XX (P:=P) (B:=B) bP (k:=ad.block) hzo fV;rw[<-Cd dL,<-hx]at this;exact this
      ·cases h
     ·cases h
    ·cases h
   ·cases h
  ·cases h
 |fieldAddr s x f=>
  simp only[qv,bP]at h;split at h
  ·rename_i ad hx;split at h
   ·rename_i dL;split at h
    ·rename_i fs hs;split at h
     ·rename_i fd vk;split at h
      ·rename_i i hi;split at h
       ·rename_i bH;injection h with h;subst h;refine⟨?_,um⟩;have:=aGJ (P:=P) (B:=B) bP hs vk hi (rl bH) ad.block ad.off;rw[<-Cd dL,<-hx]at this;exact this
       ·cases h
      ·cases h
     ·cases h
    ·cases h
   ·cases h
  ·cases h
 |indexAddr t x ix=>
  simp only[qv,bP]at h;split at h
  ·rename_i ad kd n hx AF;split at h
   ·rename_i dL;split at h
    ·rename_i len el ht;split at h
     ·rename_i i hi;split at h
      ·rename_i hr;injection h with h;subst h;refine⟨?_,um⟩;have:=aGK (P:=P) (B:=B) bP ht hi (kd:=kd) hr.1 hr.2 ad.block ad.off;rw[<-Cd dL,<-hx,<-AF]at this;exact this
      ·cases h
     ·cases h
    ·cases h
   ·cases h
  ·rename_i ad len cc kd n hx AF;split at h
   ·rename_i dL;split at h
    ·rename_i el ht;split at h
     ·rename_i i hi;split at h
      ·rename_i hr;injection h with h;subst h;refine⟨?_,um⟩;have:=X1 (P:=P) (B:=B) bP ht hi (kd:=kd) (cc:=cc) hr.1 hr.2 ad.block ad.off;rw[<-Cd dL,<-hx,<-AF]at this;exact this
      ·cases h
     ·cases h
    ·cases h
   ·cases h
  ·cases h
 |extract x i=>
  simp only[qv,bP]at h;split at h
  ·rename_i vs hx;split at h
   ·rename_i v hv;injection h with h;subst h;refine⟨?_,um⟩;have:=aGL (P:=P) (B:=B) bP hv;rw[<-hx]at this;exact this
   ·cases h
  ·cases h
 |makeFunc f fi ca=>
  simp only[qv,bP]at h;injection h with h;subst h;exact⟨aGN bP,um⟩
 |call c=>
  simp only[qv,bP]at h;split at h
  ·rename_i n t rest hl;obtain⟨x,ad,cc⟩:=rest;split at h
   ·rename_i el ht;injection h with h;subst h;refine⟨?_,um⟩;unfold X7 at hl;split at hl
    ·rename_i x' t' hc ha mE;split at hl
     ·rename_i Yc n' bY hx;split at hl
      ·rename_i dL;injection hl with hl;injection hl with h1 hl;injection hl with h2 hl;injection hl with h3 hl;injection hl with h4 h5;subst h1;subst h2;subst h3;subst h4;subst h5;have kg:c={ callee:=.builtin .len,args:=#[x'],argTypes:=#[t']}:=by
        obtain⟨c1,c2,c3⟩:=c;dsimp only at hc ha mE;subst hc
        congr 1
        ·exact vm.1 ha
        ·exact vm.1 mE
       rw[kg]at bP ⊢;have:=aGO (P:=P) (B:=B) bP ht Yc.block Yc.off n' bY;rw[<-Cd dL,<-hx]at this;exact this
      ·cases hl
     ·cases hl
    ·cases hl
   ·cases h
  ·rw[<-bP];exact Ya h
 |_=>rw[<-bP];refine Ya ?_;simp only[qv,bP]at h;exact h
abbrev aW:=List (Nat×Value)
def bI:aW->Nat->Value
 |[],_=>Gp
 |(t,v)::l,s=>if Nat.beq t s then v else bI l s
def ah:aH->Nat->Option Obj
 |[],_=>none
 |(k,x)::l,j=>if Nat.beq k j then some x else ah l j
theorem jZ{a b:Nat}(h:Nat.beq a b=true):a=b:=Q3 h
theorem nY{a b:Nat}(h:a≠b):Nat.beq a b=false:=by
 cases hb:Nat.beq a b with
 |false=>rfl
 |true=>exact absurd (jZ hb) h
theorem vn(c:Nat->Option Obj):∀(l:aH) (k:Nat),lp c l k=match ah l k with|some x=>some x|none=>c k
 |[],k=>rfl
 |(j,x)::l,k=>by
  show(if k=j then some x else lp c l k)=match (if Nat.beq j k then some x else ah l k)with|some x=>some x|none=>c k
  by_cases h:k=j
  ·subst h;simp
  ·rw[ao h,nY (mD h)];exact vn c l k
theorem gK:∀(l m:aH) (k:Nat),ah (l++m) k=match ah l k with|some x=>some x|none=>ah m k
 |[],m,k=>rfl
 |(j,x)::l,m,k=>by
  show(if Nat.beq j k then some x else ah (l++m) k)=match (if Nat.beq j k then some x else ah l k)with|some x=>some x|none=>ah m k
  by_cases h:Nat.beq j k=true
  ·simp only[aw h]
  ·simp only[ao h];exact gK l m k
theorem j0:∀{l:aH} {k:Nat} {x:Obj},ah l k=some x->(k,x)∈l
 |(j,y)::l,k,x,h=>by
  unfold ah at h;split at h
  ·rename_i hb;injection h with h;rw[jZ hb,h];exact aV ..
  ·exact bF _ (j0 h)
def cT(c:Nat->Option Obj)(M:aH):Prop:=∀ k x,ah M k=some x->c k=some x
def eG(c:Nat->Option Obj)(next:Nat):Prop:=∀ k,next<=k->c k=none
inductive Ex where
 |normal
 |exit (id:Nat)
 |ret
def Ex.AG:Ex->Exit
 |.normal=>.normal
 |.exit id=>.exit id
 |.ret=>.ret
def wl:Code->List Nat
 |.region _ ops _=>ops.toList.filterMap (·.dst)
 |.seq x y=>wl x++wl y
 |.cond _ x y=>wl x++wl y
 |.block _ b=>wl b
 |.loop b=>wl b
 |.scope b=>wl b
 |.rangeFunc _ ps x y=>ps.toList++(wl x++wl y)
 |_=>[]
def uo(c:Code)(t:Nat):Bool:=(wl c).any λd=>Nat.beq d t
structure l5 where
 ex:Ex
 fr:aW
 M:aH
 next:Nat
def ag(P:Program)(B:aa)(N:Nat)(c:Code)(fr:aW)(M:aH)(next:Nat)(r:l5):Prop:=
 ∀(R:Option Nat) (ι:Map) (cc:Nat->Option Obj) (a:Act) (w:World) (Q:Exit->Act->World->Prop),fh B ι (bI fr) N a->aQ B ι cc w->cT cc M->eG cc next->
  (∀ au bY a' w',Map.le ι au->fh B au (bI r.fr) N a'->aQ B au bY w'->cT bY r.M->eG bY r.next->(∀ k,k<next->ah M k=none->bY k=cc k)->(∀ t,uo c t=false->a'.tmps.getD t undef=a.tmps.getD t undef)->Q r.ex.AG a' w')->c.wpIn (FW R) 0 P Q a w
inductive aY(P:Program)(B:aa)(N:Nat) where
 |step (key:Nat) (o:Oper) (eB:aj) (need:List (Nat×Option Obj)) (val:Value) (cR:aH) (ok:cB P B o eB need val cR)
 |call (key:Nat) (f:FuncId) (args:aj) (res:Value) (ok:∀ w,B.G w->Calls P f args.toArray w λe w'=>e=.returned res/\Below w.heap.size w w')
 |rw(key:Nat) (v v':Value) (ok:v=v')
 |code (key:Nat) (c:Code) (fr:aW) (M:aH) (next:Nat) (r:l5) (ok:ag P B N c fr M next r)
inductive nZ where
 |eB (l:aj)
 |obj (x:Option Obj)
 |op (o:Oper)
 |code (c:Code)
 |nat (n:Nat)
def callee(look:Nat->Value)(o:Oper):Option (FuncId×aj):=
 match o.op with
 |.call c=>match c.callee with
  |.value x=>match fW look x with
   |.func (.func f) fi ca=>some (f,fi.toList++c.args.toList.map (fW look)++ca.toList)
   |_=>none
  |_=>none
 |_=>none
def gi(P:Program)(f:FuncId):Bool:=
 match P.funcs[f]? with
 | some fn => fn.body.isSome && !(fn.name == "runtime.NumGoroutine")
 |none=>false
def Ml(o:Oper):Nat:=match o.dst with
 |some t=>t
 |none=>match o.op with
  |.store _ (.tmp t) _=>100000+t
  |_=>99999
abbrev bA(P:Program)(B:aa)(N:Nat):=List (aY P B N)
abbrev vo:=List (nZ×nZ)
def Yd(next:Nat)(need:List (Nat×Option Obj)):Bool:=need.all λp=>match p.2 with|some _=>true|none=>Nat.ble next p.1
def Ye(cR:aH)(need:List (Nat×Option Obj)):Bool:=cR.all λp=>need.any λq=>Nat.beq q.1 p.1
def Gu{P:Program}{B:aa}{N:Nat}(look:Nat->Value)(g:Nat->Option Obj)(next:Nat)(o:Oper)(rs:bA P B N):Option (qt×bA P B N×vo):=
 match qv P look g next o with
 |some e=>some (e,rs,[])
 |none=>none
def Rm{P:Program}{B:aa}{N:Nat}(look:Nat->Value)(g:Nat->Option Obj)(next:Nat)(o:Oper)(rs:bA P B N):Option (qt×bA P B N×vo):=
 if AE look o then
  match rs with
  |.step key o' eB need val cR _::wG=>
   if Nat.beq key (Ml o)then
    (if Yd next need&&Ye cR need then
     some (⟨val,cR,need⟩,wG,(.op o,.op o')::(.eB (o.op.operands.toList.map (fW look)),.eB eB)::need.filterMap λp=>match p.2 with|some x=>some (.obj (g p.1),.obj (some x))|none=>none)
    else none)
   else Gu look g next o rs
  |.call key f args res _::wG=>
   if Nat.beq key (Ml o)then
    (match callee look o with
    |some (f',args')=>if gi P f&&args.all flat&&flat res then some (⟨res,[],[]⟩,wG,[(.nat f',.nat f),(.eB args',.eB args)])else none
    |none=>none)
   else Gu look g next o rs
  |.rw key v v' _::wG=>
   if Nat.beq key (Ml o)then
    (match qv P look g next o with
    |some e=>some (⟨v',e.cR,e.need⟩,wG,[(.eB [e.val],.eB [v])])
    |none=>none)
   else Gu look g next o rs
  |_=>Gu look g next o rs
 else none
theorem Mm{P:Program}{f:FuncId}(h:gi P f=true)(args:Array Value)(w:World):(callFunc f args).run P w=.ok (.enter f args) w:=by
 unfold gi at h;split at h
 ·rename_i fn hf;simp only[da,AH]at h;obtain⟨c,hb⟩:=Option.isSome_iff_exists.1 h.1
  have h1 : fn.name ≠ "runtime.NumGoroutine" := by simpa using h.2
  simp[callFunc,hf,h1,hb]
 ·cases h
def rq(tr:vo):Prop:=∀ p∈tr,p.1=p.2
theorem Mn{R:Option Nat}{P:Program}{f:FuncId}{args:Array Value}{w:World}{Rs:Ending->World->Prop}{n:Nat}:CallsIn (FW R) n P f args w Rs↔Calls P f args w Rs:=
 (callsIn_wide (n:=n):CallsIn Fence.wide n P f args w Rs↔Calls P f args w Rs)
theorem aGV{P:Program}{B:aa}{look:Nat->Value}{o:Oper}{f:FuncId}{args:aj}{res:Value}(ay:AE look o=true)(hc:callee look o=some (f,args))(eK:gi P f=true)
  (df:∀ v∈args,flat v=true) (AJ:flat res=true) (h:∀ w,B.G w->Calls P f args.toArray w λe w'=>e=.returned res/\Below w.heap.size w w') :
  cB P B o (o.op.operands.toList.map (fW look)) [] res []:=by
 intro R ι c a w hv hm hn K Q hK;obtain⟨dst,op,ty,pos,after,guard⟩:=o;unfold callee at hc;split at hc
 ·rename_i cl ho;dsimp only at ho;subst ho;split at hc
  ·rename_i x hx;split at hc
   ·rename_i f' fi ca gL;injection hc with hc;injection hc with gj di;subst gj;obtain⟨cal,kU,wH⟩:=cl;dsimp only at hx di;subst hx;have yt:(Op.operands (.call ⟨.value x,kU,wH⟩)).toList=x::kU.toList:=by simp[Op.operands,Call.operands]
    dsimp only at hv;rw[yt]at hv;cases hv with
    |cons hx rm=>
    rw[gL]at hx;obtain⟨j9,eZ,he,h1,h2⟩:=hx.B8;have bd:=(h1.append rm).append h2;rw[di]at bd;have e2:=nr bd df;have e3:execOp a.eval ⟨dst,.call ⟨.value x,kU,wH⟩,ty,pos,after,guard⟩=callFunc f' (j9++kU.map a.eval++eZ):=by have:execOp a.eval ⟨dst,.call ⟨.value x,kU,wH⟩,ty,pos,after,guard⟩=(do let d <-Deferred.ofValue (a.eval x) (kU.map a.eval);invoke d.target d.args):=rfl;rw[this,he];rfl
    have e4:(j9++kU.map a.eval++eZ:Array Value)=args.toArray:=by rw[<-e2];apply Gv;simp
    refine⟨λ_ _=>trivial,?_⟩;rw[L8 _ _ _ n_,e3,e4,Mm eK,Oper.uponIn_enter];refine⟨λe=>(by cases e),Mn.2 ((h w hm.base).mono ?_)⟩
    rintro e w' ⟨rfl,hb⟩
    exact hK ι res w' (Map.le.refl _) (.same AJ) (hm.call hb)
   ·cases hc
  ·cases hc
 ·cases hc
theorem Rn{P:Program}{B:aa}{N:Nat}{look:Nat->Value}{g:Nat->Option Obj}{next:Nat}{o:Oper}{rs wG:bA P B N}{e:qt}{tr:vo}
  (h:Rm look g next o rs=some (e,wG,tr)) (hs:rq tr):AE look o=true/\cB P B o (o.op.operands.toList.map (fW look)) e.need e.val e.cR/\Cc g next e:=by
 unfold Rm at h;split at h
 ·rename_i ay;refine⟨ay,?_⟩;have auto:∀{rs:bA P B N},Gu look g next o rs=some (e,wG,tr)->cB P B o (o.op.operands.toList.map (fW look)) e.need e.val e.cR/\Cc g next e:=by
   intro rs h;unfold Gu at h;split at h
   ·rename_i e' he;injection h with h;injection h with h1 h2;subst h1;obtain⟨q1,q2⟩:=X8 (B:=B) ay he;exact⟨q1.step,q2⟩
   ·cases h
  split at h
  ·rename_i key o' eB need val cR ok Ed;split at h
   ·split at h
    ·rename_i pI;injection h with h;injection h with h1 h;injection h with h2 h3;subst h1;subst h3;simp only[da]at pI;have e1:nZ.op o=.op o':=hs _ (aV ..);have e2:nZ.eB _=.eB eB:=hs _ (bF _ (aV ..));injection e1 with e1;injection e2 with e2;subst e1;rw[e2];refine⟨ok,λp hp=>?_,λp hp=>?_⟩
     ·have gj:=pI.1;unfold Yd at gj;rw[bh]at gj;have gY:=gj p hp;cases wI:p.2 with
      |none=>rw[wI]at gY;exact .inr ⟨rfl,rl gY⟩
      |some x=>
       left;refine⟨x,rfl,?_⟩;have:nZ.obj (g p.1)=.obj (some x):=hs _ (bF _ (bF _ (Yf.2 ⟨p,hp,by rw[wI]⟩)));injection this
     ·have di:=pI.2;unfold Ye at di;rw[bh]at di;have:=di p hp;rw[sY]at this;obtain⟨q,hq,hb⟩:=this;exact⟨q,hq,jZ hb⟩
    ·cases h
   ·exact auto h
  ·rename_i key f args res ok Ed;split at h
   ·split at h
    ·rename_i f' args' hc;split at h
     ·rename_i pI;injection h with h;injection h with h1 h;injection h with h2 h3;subst h1;subst h3;simp only[da,bh]at pI;have e1:nZ.nat f'=.nat f:=hs _ (aV ..);have e2:nZ.eB args'=.eB args:=hs _ (bF _ (aV ..));injection e1 with e1;injection e2 with e2;subst e1;subst e2;exact⟨aGV ay hc pI.1.1 pI.1.2 pI.2 ok,λp hp=>(by cases hp),λp hp=>(by cases hp)⟩
     ·cases h
    ·cases h
   ·exact auto h
  ·rename_i key v v' ok Ed;split at h
   ·split at h
    ·rename_i e' he;injection h with h;injection h with h1 h;injection h with h2 h3;subst h1;subst h3;have e1:nZ.eB [e'.val]=.eB [v]:=hs _ (aV ..);injection e1 with e1;injection e1 with e1 _;obtain⟨q1,q2⟩:=X8 (B:=B) ay he;rw[e1,ok]at q1;exact⟨q1.step,q2⟩
    ·cases h
   ·exact auto h
  ·exact auto h
 ·cases h
def Je(fr:aW)(d:Option Nat)(v:Value):aW:=match d with|some t=>(t,v)::fr|none=>fr
def Mo(fr:aW)(ops:Array Oper)(j:Nat):Option Bool:=
 match (ops[j]?).bind (·.dst)with
 |some t=>match bI fr t with|.bool b=>some b|_=>none
 |none=>none
def Cf(fr:aW)(ops:Array Oper)(o:Oper):Bool:=
 match o.guard with
 |none=>true
 |some (j,want)=>match Mo fr ops j with|some b=>b==want|none=>false
def Cg(N:Nat)(fr:aW)(ops:Array Oper)(o:Oper):Bool:=
 (match o.guard with
 |none=>true
 |some (j,_)=>match (ops[j]?).bind (·.dst)with|some t=>flat (bI fr t)&&!lS (bI fr t)&&Nat.blt t N|none=>true)&&
 (match o.dst with|some d=>Nat.blt d N|none=>true)
theorem Ro(fr:aW)(d:Option Nat)(v:Value)(t:Nat):bI (Je fr d v) t=if d=some t then v else bI fr t:=by
 cases d with
 |none=>rfl
 |some s=>
  show(if Nat.beq s t then v else bI fr t)=_;by_cases h:s=t
  ·subst h;simp
  ·rw[nY h];simp[h]
theorem fh.put{B:aa}{ι κ:Map}(hle:Map.le ι κ){look Yg:Nat->Value}{N:Nat}{a:Act}(h:fh B ι look N a){v v':Value}(hv:nq κ v v')(d:Option Nat)(hd:∀ t,d=some t->t<N)
  (hl:∀ t,Yg t=if d=some t then v else look t):fh B κ Yg N (a.put d v'):=by
 refine⟨by cases d<;>exact h.defers,by cases d<;>simp[Act.put,h.size],λt=>?_⟩;rw[hl t];by_cases Ee:d=some t
 ·rw[aw Ee];subst Ee;have:t<a.tmps.size:=by rw[h.size];exact hd t rfl
  have e:(a.put (some t) v').tmps.getD t undef=v':=by simp[Act.put,pK,this]
  rw[e];exact hv
 ·rw[ao Ee];have e:(a.put d v').tmps.getD t undef=a.tmps.getD t undef:=by
   cases d with
   |none=>rfl
   |some s=>
    have:s≠t:=λe=>Ee (by rw[e]);simp[Act.put,pK,Rp this]
  rw[e];exact(h.slot t).mono hle
theorem Rq(a:Act)(d:Option Nat)(v:Value){t:Nat}(h:d≠some t):(a.put d v).tmps.getD t undef=a.tmps.getD t undef:=by
 cases d with
 |none=>rfl
 |some s=>
  have:s≠t:=λe=>h (by rw[e]);simp[Act.put,pK,Rp this]
theorem aGW{B:aa}{ι:Map}{look:Nat->Value}{fr:aW}{N:Nat}{a:Act}(h:fh B ι look N a)(ops:Array Oper)(j:Nat)
  (hn:∀ t,(ops[j]?).bind (·.dst)=some t->look t=bI fr t/\flat (bI fr t)=true/\lS (bI fr t)=false/\t<N):yielded ops a.tmps j=Mo fr ops j:=by
 unfold yielded Mo;cases hd:(ops[j]?).bind (·.dst)with
 |none=>rfl
 |some t=>
  simp only[Yh];obtain⟨h1,cN,h2,h3⟩:=hn t hd;have ak:t<a.tmps.size:=by rw[h.size];exact h3
  have hs:=h.slot t;rw[h1]at hs;have hs:=(hs.Aw h2).eU cN;rw[show a.tmps.getD t undef=a.tmps[t]by simp[pK,ak]]at hs;rw[yx ak,hs];cases bI fr t<;>rfl
theorem Yi{B:aa}{ι:Map}{look:Nat->Value}{fr:aW}{N:Nat}{a:Act}(h:fh B ι look N a)(ops:Array Oper)(o:Oper)(hg:Cg N fr ops o=true)
  (hl:∀ j b,o.guard=some (j,b)->∀ t,(ops[j]?).bind (·.dst)=some t->look t=bI fr t):Region.wanted o (yielded ops a.tmps)=Cf fr ops o:=by
 unfold Region.wanted Cf;unfold Cg at hg;simp only[da]at hg;have hg:=hg.1;cases n9:o.guard with
 |none=>rfl
 |some gd=>
  obtain⟨j,want⟩:=gd;rw[n9]at hg;dsimp only at hg ⊢;rw[aGW h ops j λt ht=>by rw[ht]at hg;simp only[da,AH]at hg;exact⟨hl j want n9 t ht,hg.1.1,hg.1.2,by simpa[AK]using hg.2⟩]
  cases Mo fr ops j with
  |none=>rfl
  |some b=>cases b<;>cases want<;>rfl
theorem Yj{N:Nat}{fr:aW}{ops:Array Oper}{o:Oper}(hg:Cg N fr ops o=true):∀ t,o.dst=some t->t<N:=by intro t ht;unfold Cg at hg;simp only[da]at hg;have:=hg.2;rw[ht]at this;simpa[AK]using this
def AL(next:Nat)(cR:aH):Nat:=cR.foldl (λn p=>if Nat.ble n p.1 then p.1+1 else n) next
theorem Gw:∀(cR:aH) (next:Nat),next<=AL next cR
 |[],next=>bj _
 |p::l,next=>by
  show next<=AL (if Nat.ble next p.1 then p.1+1 else next) l;refine de ?_ (Gw l _);split
  ·rename_i h;have:=rl h;omega
  ·exact bj _
theorem Yk:∀(cR:aH) (next:Nat),∀ p∈cR,p.1<AL next cR
 |q::l,next,p,hp=>by
  show p.1<AL (if Nat.ble next q.1 then q.1+1 else next) l;rcases cx.1 hp with rfl|hp
  ·refine cv ?_ (Gw l _);split
   ·omega
   ·rename_i h;rcases eF p.1 next with h1|h1
    ·exact h1
    ·exact absurd (Mp h1) h
  ·exact Yk l _ p hp
theorem Rr{cc:Nat->Option Obj}{M:aH}{next:Nat}{e:qt}(hn:Cc (ah M) next e)(ha:cT cc M)(hu:eG cc next):
  (∀ p∈e.need,cc p.1=p.2)/\cT (lp cc e.cR) (e.cR++M)/\eG (lp cc e.cR) (AL next e.cR)/\(∀ k,k<next->ah M k=none->ah (e.cR++M) k=none/\lp cc e.cR k=cc k):=by
 refine⟨λp hp=>?_,λk x hk=>?_,λk hk=>?_,λk hk hM=>?_⟩
 ·rcases hn.1 p hp with ⟨x,h1,h2⟩|⟨h1,h2⟩
  ·rw[h1];exact ha _ _ h2
  ·rw[h1];exact hu _ h2
 ·rw[gK]at hk;rw[vn];cases h:ah e.cR k with
  |some y=>rw[h]at hk;exact hk
  |none=>rw[h]at hk;exact ha k x hk
 ·rw[vn];cases h:ah e.cR k with
  |some y=>have:=Yk e.cR next _ (j0 h);dsimp only at this;omega
  |none=>exact hu k (de (Gw _ _) hk)
 ·have:ah e.cR k=none:=by
   cases h:ah e.cR k with
   |none=>rfl
   |some y=>
    exfalso;obtain⟨q,hq,wJ⟩:=hn.2 _ (j0 h);dsimp only at wJ;rcases hn.1 q hq with ⟨x,h1,h2⟩|⟨h1,h2⟩
    ·rw[wJ,hM]at h2;cases h2
    ·omega
  exact⟨by rw[gK,this];exact hM,by rw[vn,this]⟩
structure qw(P:Program)(B:aa)(N:Nat) where
 fr:aW
 M:aH
 next:Nat
 rs:bA P B N
 tr:vo
 nt:List (List Nat×List Nat)
def keys{α:Type}(l:List (Nat×α)):List Nat:=l.map (·.1)
def qw.more{P:Program}{B:aa}{N:Nat}(r:qw P B N)(tr:vo)(e:List Nat×List Nat):qw P B N:=⟨r.fr,r.M,r.next,r.rs,tr++r.tr,e::r.nt⟩
def yy{P:Program}{B:aa}{N:Nat}(ops:Array Oper):List Oper->aW->aH->Nat->bA P B N->Option (qw P B N)
 |[],fr,M,next,rs=>some ⟨fr,M,next,rs,[],[]⟩
 |o::l,fr,M,next,rs=>
  if Cg N fr ops o then
   if Cf fr ops o then
    match Rm (P:=P) (bI fr) (ah M) next o rs with
    |some (e,Ed,Ef)=>match yy ops l (Je fr o.dst e.val) (e.cR++M) (AL next e.cR) Ed with
     |some r=>some (r.more Ef (keys e.need,keys e.cR))
     |none=>none
    |none=>none
   else match yy ops l (Je fr o.dst undef) M next rs with
    |some r=>some (r.more [] ([],[]))
    |none=>none
  else none
def wK(l:List Oper)(t:Nat):Bool:=l.any λo=>match o.dst with|some d=>Nat.beq d t|none=>false
theorem Yl{o:Oper}{l:List Oper}{t:Nat}(h:wK (o::l) t=false):o.dst≠some t/\wK l t=false:=by unfold wK at h;rw[List.any_cons,Mq]at h;refine⟨λe=>?_,h.2⟩;rw[e]at h;simp at h
def Rt{P:Program}(B:aa)(N:Nat)(cc:Nat->Option Obj)(M:aH)(next:Nat)(ι:Map)(a:Act)(wr:Nat->Bool)(r:qw P B N)(K:Act->World->Prop):Prop:=
 ∀ au bY a' w',Map.le ι au->fh B au (bI r.fr) N a'->aQ B au bY w'->cT bY r.M->eG bY r.next->(∀ k,k<next->ah M k=none->bY k=cc k)->
  (∀ t,wr t=false->a'.tmps.getD t undef=a.tmps.getD t undef)->K a' w'
theorem Ru{R:Option Nat}{P:Program}{B:aa}{N:Nat}{ops:Array Oper}{Q:Exit->Act->World->Prop}:∀(l:List Oper) {fr:aW} {M:aH} {next:Nat} {rs:bA P B N} {r:qw P B N} {ι:Map} {cc:Nat->Option Obj} {a:Act} {w:World},
  yy ops l fr M next rs=some r->rq r.tr->fh B ι (bI fr) N a->aQ B ι cc w->cT cc M->eG cc next->
  Rt B N cc M next ι a (wK l) r (Q .normal)->wpListIn (FW R) 0 P ops Q l a w
 |[],fr,M,next,rs,r,ι,cc,a,w,h,_,hf,hm,ha,hu,hQ=>by injection h with h;subst h;exact hQ ι cc a w (Map.le.refl _) hf hm ha hu (λ_ _ _=>rfl) (λ_ _=>rfl)
 |o::l,fr,M,next,rs,r,ι,cc,a,w,h,hs,hf,hm,ha,hu,hQ=>by
  unfold yy at h;unfold wpListIn;by_cases n9:Cg N fr ops o=true
  case neg=>rw[ao n9]at h;cases h
  rw[aw n9]at h;have Ch:=Yj n9;rw[Yi hf ops o n9 λ_ _ _ _ _=>rfl];split at h
  ·rename_i hw;rw[aw hw];split at h
   ·rename_i e Ed Ef bL;split at h
    ·rename_i r2 ur;injection h with h;subst h;have wL:rq Ef:=λp hp=>hs p (ee.2 (.inl hp));have Rv:rq r2.tr:=λp hp=>hs p (ee.2 (.inr hp));obtain⟨ay,vp,oB⟩:=Rn (B:=B) bL wL;simp only[AE,da,bh,AH]at ay;obtain⟨q1,q2,q3,q4⟩:=Rr oB ha hu;refine(vp R ι cc a w (Rl hf _ λx hx=>ay.1 x hx) hm q1 _ _ λau v' w' hle hv bo=>?_);refine Ru l ur Rv (hf.put hle (.inr hv) o.dst Ch λt=>Ro _ _ _ _) bo q2 q3 λdG ry a2 w2 kV jl dB gZ fv fE rz=>?_;refine hQ dG ry a2 w2 (hle.trans kV) jl dB gZ fv (λk hk hM=>?_) λt ht=>?_
     ·obtain⟨q5,q6⟩:=q4 k hk hM;rw[fE k (cv hk (Gw _ _)) q5,q6]
     ·obtain⟨t1,t2⟩:=Yl ht;rw[rz t t2,Rq _ _ _ t1]
    ·cases h
   ·cases h
  ·rename_i hw;rw[ao hw];split at h
   ·rename_i r2 ur;injection h with h;subst h;refine⟨λ_ _=>trivial,?_⟩;refine Ru l ur (λp hp=>hs p (ee.2 (.inr hp))) (hf.put (Map.le.refl _) (v:=undef) (v':=undef) (.inr (.same rfl)) o.dst Ch λt=>Ro _ _ _ _) hm ha hu λdG ry a2 w2 kV jl dB gZ fv fE rz=>?_;refine hQ dG ry a2 w2 kV jl dB gZ fv fE λt ht=>?_;obtain⟨t1,t2⟩:=Yl ht;rw[rz t t2,Rq _ _ _ t1]
   ·cases h
theorem aGX{R:Option Nat}{P:Program}{ops:Array Oper}{Q:Exit->Act->World->Prop}(Inv:(Nat->Bool)->Act->World->Prop)
  (aGY:∀ i o,ops[i]?=some o->∀ e∈o.after,Region.binds .any e=true->e.on<i)
  (step:∀ L a w i o,Inv L a w->ops[i]?=some o->L i=false->(∀ e∈o.after,Region.binds .any e=true->L e.on=true)->wpOpIn (FW R) 0 P ops Q i (λa' w'=>Inv (λj=>L j||j==i) a' w') a w)
  (fin:∀ L a w,(∀ i,i<ops.size->L i=true)->Inv L a w->Q .normal a w)
  (aGZ:∀ L L' a w,(∀ j,L j=L' j)->Inv L a w->Inv L' a w) :
  ∀(fuel:Nat) (listed:Array Bool) (a:Act) (w:World),listed.size=ops.size->(listed.toList.countP (λb=>b=false))=fuel->Inv (λj=>listed.getD j false) a w->
   wpAnyIn (FW R) 0 P .any ops Q fuel listed a w:=by
 have aG0:∀ listed:Array Bool,listed.size=ops.size->Region.ready .any ops listed=[]->∀ i,i<ops.size->listed.getD i false=true:=by
  intro listed bH hr i;induction i using Nat.strongRecOn with
  |_ i ih=>
   intro hi;cases h:listed.getD i false with
   |true=>rfl
   |false=>
    exfalso;have:i∈Region.ready .any ops listed:=by
     rw[mem_ready];refine⟨?_,ops[i],yx hi,λe he hb=>?_⟩
     ·have hJ:i<listed.size:=by omega
      simp[pK,hJ]at h ⊢;exact h
     ·have:=aGY i ops[i] (yx hi) e he hb;exact ih e.on this o_
    rw[hr]at this;cases this
 intro fuel;induction fuel with
 |zero=>
  intro listed a w bH hc hI;have bd:∀ i,i<ops.size->listed.getD i false=true:=by
   intro i hi;have hJ:i<listed.size:=by omega
   have h0:=List.countP_eq_zero.1 hc listed[i] s_;simp[pK,hJ];simpa using h0
  refine⟨?_,fin _ a w bd hI⟩;cases hr:Region.ready .any ops listed with
  |nil=>rfl
  |cons i l=>
   have:i∈Region.ready .any ops listed:=by rw[hr];exact aV ..
   rw[mem_ready]at this;obtain⟨h1,o,ho,_⟩:=this;have hi:i<ops.size:=by
    rcases eF i ops.size with h|h
    ·exact h
    ·rw[Ym h]at ho;cases ho
   have h2:=bd i hi;have hJ:i<listed.size:=by omega
   simp[pK,hJ]at h1 h2;rw[h1]at h2;cases h2
 |succ fuel ih=>
  intro listed a w bH hc hI;refine⟨λhr=>fin _ a w (aG0 listed bH hr) hI,λi hi=>?_⟩;rw[mem_ready]at hi;obtain⟨h1,o,ho,bd⟩:=hi;have hi:i<ops.size:=by
   rcases eF i ops.size with h|h
   ·exact h
   ·rw[Ym h]at ho;cases ho
  have hJ:i<listed.size:=by omega
  have pG:listed.getD i false=false:=by simp[pK,hJ]at h1 ⊢;exact h1
  refine wpOpIn_mono (λa' w' h=>?_) (step _ a w i o hI ho pG bd);refine ih (listed.setIfInBounds i true) a' w' (by simp[bH]) ?_ (aGZ _ _ a' w' (λj=>?_) h)
  ·have ak:i<listed.toList.length:=by simpa using hJ
   have Jf:listed.toList[i]=false:=by simp[pK,hJ]at pG;simpa using pG
   rw[aG1];have key:∀(l:List Bool) (i:Nat) (h:i<l.length),l[i]=false->(l.set i true).countP (λb=>b=false)+1=l.countP (λb=>b=false):=by
    intro l;induction l with
    |nil=>intro i h;simp at h
    |cons b l ih=>
     intro i h hb;cases i with
     |zero=>simp at hb;subst hb;simp
     |succ i=>
      simp at hb h;have:=ih i h hb;simp only[List.set_cons_succ,List.countP_cons];omega
   have:=key listed.toList i ak Jf;omega
  ·by_cases o5:j=i
   ·subst o5;simp[pK,hJ]
   ·have:(listed.setIfInBounds i true).getD j false=listed.getD j false:=by simp[pK,Rp (mD o5)]
    rw[this];simp[o5]
def Jg(acc:List Nat)(o:Oper):Nat:=o.after.toList.foldl (λs e=>if Region.binds .any e then s||| (2^e.on||| acc.getD e.on 0)else s) 0
def Ci:List Oper->List Nat->List Nat
 |[],acc=>acc
 |o::l,acc=>Ci l (acc++[Jg acc o])
def Jh(o:Oper):List Nat:=o.op.operands.toList.filterMap λ| .tmp t=>some t|_=>none
theorem Yn(acc:List Nat):∀(es:List Edge) (s j:Nat),(es.foldl (λs e=>if Region.binds .any e then s||| (2^e.on||| acc.getD e.on 0)else s) s).testBit j=true->
  s.testBit j=true\/∃ e∈es,Region.binds .any e=true/\(e.on=j\/(acc.getD e.on 0).testBit j=true)
 |[],s,j,h=>.inl h
 |e::es,s,j,h=>by
  rw[uu]at h;rcases Yn acc es _ j h with h|⟨e',ux,h⟩
  ·by_cases hb:Region.binds .any e=true
   ·rw[aw hb,Yo,Yo,Nat.testBit_two_pow]at h;simp only[uy,sZ]at h;rcases h with h|h|h
    ·exact .inl h
    ·exact .inr ⟨e,aV ..,hb,.inl h⟩
    ·exact .inr ⟨e,aV ..,hb,.inr h⟩
   ·rw[ao hb]at h;exact .inl h
  ·exact .inr ⟨e',bF _ ux,h⟩
def Yp(ops:List Oper)(acc:List Nat):Prop:=
 ∀ k,k<acc.length->∀ j,(acc.getD k 0).testBit j=true->∃ o,ops[k]?=some o/\∃ e∈o.after,Region.binds .any e=true/\(e.on=j\/(acc.getD e.on 0).testBit j=true)
theorem Yq:∀(l pre:List Oper) (acc:List Nat),acc.length=pre.length->Yp (pre++l) acc->
  (∀ i o,(pre++l)[i]?=some o->∀ e∈o.after,Region.binds .any e=true->e.on<i)->Yp (pre++l) (Ci l acc)/\(Ci l acc).length=(pre++l).length
 |[],pre,acc,hl,hg,_=>⟨hg,by simp[Ci,hl]⟩
 |o::l,pre,acc,hl,hg,hd=>by
  have e:pre++o::l=(pre++[o])++l:=by simp
  rw[e]at hg hd ⊢;refine Yq l (pre++[o]) (acc++[Jg acc o]) (by simp[hl]) ?_ hd;have cW:∀ k,k<acc.length->(acc++[Jg acc o]).getD k 0=acc.getD k 0:=λk hk=>by rw[Eg,Eg,Ji hk]
  intro k hk j hj;rcases eF k acc.length with ak|dR
  ·rw[cW k ak]at hj;obtain⟨o',rC,e',ux,hb,h⟩:=hg k ak j hj;refine⟨o',rC,e',ux,hb,?_⟩;rcases h with h|h
   ·exact .inl h
   ·right;have:e'.on<k:=hd k o' rC e' ux hb;rw[cW _ o_];exact h
  ·have gD:k=acc.length:=by simp at hk;omega
   subst gD;have ho:((pre++[o])++l)[acc.length]?=some o:=by rw[hl];simp
   have hm:(acc++[Jg acc o]).getD acc.length 0=Jg acc o:=by rw[Eg,Eh (bj _)];simp
   rw[hm]at hj;rcases Yn acc o.after.toList 0 j hj with h|⟨e',ux,hb,h⟩
   ·simp at h
   ·have ux:e'∈o.after:=Mk.1 ux;refine⟨o,ho,e',ux,hb,?_⟩;rcases h with h|h
    ·exact .inl h
    ·right;have:e'.on<acc.length:=hd acc.length o ho e' ux hb;rw[cW _ this];exact h
def gM{α:Type}(u:Nat->Nat->Option α)(c0:Nat->α)(L:Nat->Bool):Nat->Nat->α
 |0,k=>c0 k
 |i+1,k=>if L i then(match u i k with|some x=>x|none=>gM u c0 L i k)else gM u c0 L i k
theorem Yr{α:Type}(u:Nat->Nat->Option α)(c0:Nat->α)(L:Nat->Bool)(i k:Nat):gM u c0 L (i+1) k=if L i then(match u i k with|some x=>x|none=>gM u c0 L i k)else gM u c0 L i k:=rfl
theorem Rw{α:Type}{u:Nat->Nat->Option α}{c0:Nat->α}{L:Nat->Bool}{k i:Nat}:∀(n:Nat),i<=n->(∀ j,j<n->u j k≠none->(L j=true↔j<i))->gM u c0 L n k=gM u c0 (λ_=>true) i k:=by
 have below:∀ m,m<=i->(∀ j,j<m->u j k≠none->L j=true)->gM u c0 L m k=gM u c0 (λ_=>true) m k:=by
  intro m;induction m with
  |zero=>intro _ _;rfl
  |succ m ih=>
   intro hm h;show(if L m then _ else _)=(if true then _ else _);have ih:=ih o_ λj hj=>h j o_;cases hu:u m k with
   |none=>simp only[ih];simp
   |some x=>rw[h m o_ (by rw[hu];exact n_)];rfl
 intro n;induction n with
 |zero=>
  intro hi _;have:i=0:=by omega
  subst this;rfl
 |succ n ih=>
  intro hi h;rcases eF n i with ak|dR
  ·have:i=n+1:=by omega
   subst this;exact below (n+1) (bj _) λj hj hu=>(h j hj hu).2 hj
  ·have ih:=ih dR λj hj=>h j o_;show(if L n then _ else _)=_;cases hu:u n k with
   |none=>simp only[ih];simp
   |some x=>
    have:L n=false:=by
     cases hL:L n with
     |false=>rfl
     |true=>have:=(h n o_ (by rw[hu];exact n_)).1 hL;omega
    rw[this,ih];rfl
theorem Ys{α:Type}{u:Nat->Nat->Option α}{c0:Nat->α}{L:Nat->Bool}{i k:Nat}{m:Nat}(hi:L i=false)(hk:∀ j,j<m->i<j->L j=true->u i k≠none->u j k=none):
  ∀(n:Nat),n<=m->i<n->gM u c0 (λj=>L j||j==i) n k=match u i k with|some x=>x|none=>gM u c0 L n k:=by
 have before:∀ m,m<=i->gM u c0 (λj=>L j||j==i) m k=gM u c0 L m k:=by
  intro m;induction m with
  |zero=>intro _;rfl
  |succ m ih=>
   intro hm;show(if(L m||m==i)then _ else _)=(if L m then _ else _);rw[ih o_];have:(m==i)=false:=by simp;omega
   rw[this,Bool.or_false]
 intro n;induction n with
 |zero=>intro _ h;omega
 |succ n ih=>
  intro lA h;show(if(L n||n==i)then(match u n k with|some x=>x|none=>gM u c0 (λj=>L j||j==i) n k)else gM u c0 (λj=>L j||j==i) n k)=match u i k with|some x=>x|none=>(if L n then(match u n k with|some x=>x|none=>gM u c0 L n k)else gM u c0 L n k)
  rcases eF i n with ak|dR
  ·rw[ih o_ ak];have e:(n==i)=false:=by simp;omega
   rw[e,Bool.or_false];cases hL:L n with
   |false=>simp
   |true=>
    cases hu:u i k with
    |none=>rfl
    |some x=>rw[hk n o_ ak hL (by rw[hu];exact n_)];rfl
  ·have:i=n:=by omega
   subst this;rw[before i (bj _),hi];simp
def Mr(ops:List Oper)(o:Oper):List Nat:=match o.guard with
 |some (j,_)=>match (ops[j]?).bind (·.dst)with|some t=>[t]|none=>[]
 |none=>[]
def Rx(ops:List Oper)(o:Oper)(t:Nat):Bool:=(Jh o++Mr ops o).any λs=>Nat.beq s t
def Mt(l m:List Nat):Bool:=l.any λa=>m.any λb=>Nat.beq a b
def wM(ops:List Oper)(o:Oper)(e:List Nat×List Nat)(p:Oper)(f:List Nat×List Nat):Bool:=
 (match p.dst with|some t=>Rx ops o t||(match o.dst with|some d=>Nat.beq d t|none=>false)|none=>false)||Mt f.2 e.1
def Ei(ops:List Oper)(nt:List (List Nat×List Nat)):Bool:=
 (List.range ops.length).all λi=>match ops[i]?,nt[i]? with
  |some o,some e=>(o.after.toList.all λg=>!Region.binds .any g||Nat.blt g.on i)&&
   (List.range i).all λj=>Nat.testBit ((Ci ops []).getD i 0) j||(match ops[j]?,nt[j]? with|some p,some f=>!wM ops o e p f&&!wM ops p f o e|_,_=>false)
  |_,_=>false
section
variable{P:Program}{B:aa}{N:Nat}{ops:Array Oper}
structure Ry(P:Program)(B:aa)(N:Nat)(ops:Array Oper)(l:List Oper)(fr:aW)(M:aH)(next:Nat)(r:qw P B N) where
 rD:Nat->aW
 Ms:Nat->aH
 AM:Nat->Nat
 es:Nat->qt
 Yt:rD 0=fr
 Rz:Ms 0=M
 RA:AM 0=next
 Yu:rD l.length=r.fr
 Yv:Ms l.length=r.M
 Yw:AM l.length=r.next
 nt:∀ i,i<l.length->r.nt[i]?=some (keys (es i).need,keys (es i).cR)
 step:∀ i o,l[i]?=some o->Cg N (rD i) ops o=true/\rD (i+1)=Je (rD i) o.dst (es i).val/\Ms (i+1)=(es i).cR++Ms i/\AM (i+1)=AL (AM i) (es i).cR/\Cc (ah (Ms i)) (AM i) (es i)/\
  ((Cf (rD i) ops o=true/\AE (bI (rD i)) o=true/\cB P B o (o.op.operands.toList.map (fW (bI (rD i)))) (es i).need (es i).val (es i).cR)\/(Cf (rD i) ops o=false/\es i=⟨undef,[],[]⟩))
theorem RB:∀(l:List Oper) {fr:aW} {M:aH} {next:Nat} {rs:bA P B N} {r:qw P B N},yy ops l fr M next rs=some r->rq r.tr->Nonempty (Ry P B N ops l fr M next r)
 |[],fr,M,next,rs,r,h,_=>by injection h with h;subst h;exact⟨⟨λ_=>fr,λ_=>M,λ_=>next,λ_=>⟨undef,[],[]⟩,rfl,rfl,rfl,rfl,rfl,rfl,λi hi=>by simp at hi,λi o h=>by simp at h⟩⟩
 |o::l,fr,M,next,rs,r,h,hs=>by
  unfold yy at h;by_cases n9:Cg N fr ops o=true
  case neg=>rw[ao n9]at h;cases h
  rw[aw n9]at h;have build:∀(e:qt) (r2:qw P B N) (tr:vo),r=r2.more tr (keys e.need,keys e.cR)->Cc (ah M) next e->Nonempty (Ry P B N ops l (Je fr o.dst e.val) (e.cR++M) (AL next e.cR) r2)->
    ((Cf fr ops o=true/\AE (bI fr) o=true/\cB P B o (o.op.operands.toList.map (fW (bI fr))) e.need e.val e.cR)\/(Cf fr ops o=false/\e=⟨undef,[],[]⟩))->Nonempty (Ry P B N ops (o::l) fr M next r):=by
   rintro e r2 tr rfl aU ⟨T⟩ bL
   refine⟨⟨λi=>match i with|0=>fr|i+1=>T.rD i,λi=>match i with|0=>M|i+1=>T.Ms i,λi=>match i with|0=>next|i+1=>T.AM i,λi=>match i with|0=>e|i+1=>T.es i,rfl,rfl,rfl,T.Yu,T.Yv,T.Yw,λi hi=>?_,λi o' ho=>?_⟩⟩
   ·cases i with
    |zero=>rfl
    |succ i=>exact T.nt i (by simpa using hi)
   ·cases i with
    |zero=>
     simp at ho;subst ho;exact⟨n9,T.Yt,T.Rz,T.RA,aU,bL⟩
    |succ i=>exact T.step i o' (by simpa using ho)
  split at h
  ·rename_i hw;split at h
   ·rename_i e Ed Ef bL;split at h
    ·rename_i r2 ur;injection h with h;have o6:rq Ef/\rq r2.tr:=by subst h;exact⟨λp hp=>hs p (ee.2 (.inl hp)),λp hp=>hs p (ee.2 (.inr hp))⟩
     obtain⟨ay,vp,oB⟩:=Rn (B:=B) bL o6.1;exact build e r2 Ef h.symm oB (RB l ur o6.2) (.inl ⟨hw,ay,vp⟩)
    ·cases h
   ·cases h
  ·rename_i hw;split at h
   ·rename_i r2 ur;injection h with h;have o6:rq r2.tr:=by subst h;exact λp hp=>hs p (ee.2 (.inr hp))
    exact build ⟨undef,[],[]⟩ r2 [] h.symm ⟨λp hp=>(by cases hp),λp hp=>(by cases hp)⟩ (RB l ur o6) (.inr ⟨by simpa using hw,rfl⟩)
   ·cases h
def Mu(ops:List Oper)(L:Nat->Bool):Prop:=∀ i o,ops[i]?=some o->L i=true->∀ e∈o.after,Region.binds .any e=true->L e.on=true
theorem Gx{α:Type}{l:List α}{i:Nat}{x:α}(h:l[i]?=some x):i<l.length:=by
 rcases eF i l.length with h1|h1
 ·exact h1
 ·rw[Ay h1]at h;cases h
theorem RC{l:List Oper}{nt:List (List Nat×List Nat)}(h:Ei l nt=true){i:Nat}{o:Oper}(ho:l[i]?=some o):∀ e∈o.after,Region.binds .any e=true->e.on<i:=by
 intro e he hb;unfold Ei at h;rw[bh]at h;have:=h i (kh.2 (Gx ho));rw[ho]at this;split at this
 ·rename_i o' e' h1 h2;injection h1 with h1;subst h1;simp only[da,bh]at this;have:=this.1 e (Mk.2 he);rw[hb]at this;simpa[AK]using this
 ·cases this
theorem Yx{l:List Oper}{nt:List (List Nat×List Nat)}(h:Ei l nt=true){i j:Nat}{o p:Oper}{e f:List Nat×List Nat}(ho:l[i]?=some o)(he:nt[i]?=some e)(hp:l[j]?=some p)(hf:nt[j]?=some f)(hj:j<i):
  ((Ci l []).getD i 0).testBit j=true\/(wM l o e p f=false/\wM l p f o e=false):=by
 unfold Ei at h;rw[bh]at h;have:=h i (kh.2 (Gx ho));rw[ho,he]at this;dsimp only at this;simp only[da,bh]at this;have:=this.2 j (kh.2 hj);rw[hp,hf]at this;simpa using this
theorem Yy{l:List Oper}{nt:List (List Nat×List Nat)}(h:Ei l nt=true){L:Nat->Bool}(hL:Mu l L):∀(i:Nat) (o:Oper),l[i]?=some o->(∀ e∈o.after,Region.binds .any e=true->L e.on=true)->
  ∀ j,((Ci l []).getD i 0).testBit j=true->L j=true/\j<i:=by
 obtain⟨hg,hlen⟩:=Yq l [] [] rfl (λk hk=>by simp at hk) (λi o ho e he hb=>RC h (by simpa using ho) e he hb);simp only[jo]at hg hlen;intro i;induction i using Nat.strongRecOn with
 |_ i ih=>
  intro o ho hd j hj;have hi:i<(Ci l []).length:=by rw[hlen];exact Gx ho
  obtain⟨o',rC,e,he,hb,kW⟩:=hg i hi j hj;rw[ho]at rC;injection rC with rC;subst rC;have ak:=RC h ho e he hb;have Yz:=hd e he hb;rcases kW with rfl|kW
  ·exact⟨Yz,ak⟩
  ·have aG2:e.on<l.length:=by
    have:i<l.length:=by rw[<-hlen];exact hi
    omega
   have YA:=bf aG2;obtain⟨h1,h2⟩:=ih e.on ak _ YA (λe' ux jz=>hL e.on _ YA Yz e' ux jz) j kW;exact⟨h1,by omega⟩
theorem YB{l m:List Nat}{a:Nat}(h1:a∈l)(h2:a∈m):Mt l m=true:=by unfold Mt;rw[sY];refine⟨a,h1,?_⟩;rw[sY];exact⟨a,h2,by simp⟩
theorem aG3{l:List Oper}{o:Oper}{t:Nat}(h:t∈Jh o++Mr l o):Rx l o t=true:=by unfold Rx;rw[sY];exact⟨t,h,by simp⟩
theorem RD{α:Type}{l:List (Nat×α)}{p:Nat×α}(h:p∈l):p.1∈keys l:=dj.2 ⟨p,h,rfl⟩
theorem aG4{o:Oper}{t:Nat}(h:Operand.tmp t∈o.op.operands):t∈Jh o:=by unfold Jh;exact Yf.2 ⟨.tmp t,Mk.2 h,rfl⟩
def uS(ops:List Oper)(es:Nat->qt)(j t:Nat):Option Value:=match (ops[j]?).bind (·.dst)with|some d=>if d=t then some (es j).val else none|none=>none
def uM(es:Nat->qt)(j k:Nat):Option (Option Obj):=match ah (es j).cR k with|some x=>some (some x)|none=>none
theorem YC{es:Nat->qt}{i:Nat}{c:Nat->Option Obj}(k:Nat):lp c (es i).cR k=match uM es i k with|some x=>x|none=>c k:=by rw[vn];unfold uM;cases ah (es i).cR k<;>rfl
theorem RE{es:Nat->qt}{i k:Nat}(h:uM es i k≠none):k∈keys (es i).cR:=by
 unfold uM at h;cases hk:ah (es i).cR k with
 |none=>rw[hk]at h;exact absurd rfl h
 |some x=>exact RD (j0 hk)
theorem RF{l:List Oper}{es:Nat->qt}{j t:Nat}(h:uS l es j t≠none):∃ p,l[j]?=some p/\p.dst=some t:=by
 unfold uS at h;cases hp:l[j]? with
 |none=>rw[hp]at h;exact absurd rfl h
 |some p=>
  rw[hp]at h;simp only[Yh]at h;cases hd:p.dst with
  |none=>rw[hd]at h;exact absurd rfl h
  |some d=>
   rw[hd]at h;dsimp only at h;by_cases Ee:d=t
   ·exact⟨p,rfl,by rw[hd,Ee]⟩
   ·rw[ao Ee]at h;exact absurd rfl h
theorem YD{l:List Oper}{es:Nat->qt}{j t:Nat}{p:Oper}(hp:l[j]?=some p):uS l es j t=if p.dst=some t then some (es j).val else none:=by
 unfold uS;rw[hp];simp only[Yh];cases p.dst with
 |none=>rfl
 |some d=>by_cases h:d=t<;>simp[h]
theorem aG5{R:Option Nat}{fr:aW}{M:aH}{next:Nat}{rs:bA P B N}{r:qw P B N}{ι:Map}{cc:Nat->Option Obj}{Q:Exit->Act->World->Prop}{a:Act}{w:World}{id:Nat}(gn:P.follows .mixedOrders=true)
  (hs:yy ops ops.toList fr M next rs=some r) (Ax:rq r.tr) (h:Ei ops.toList r.nt=true) (hf:fh B ι (bI fr) N a) (hm:aQ B ι cc w) (ha:cT cc M) (hu:eG cc next)
  (hQ:Rt B N cc M next ι a (wK ops.toList) r (Q .normal)):(Code.region id ops true).wpIn (FW R) 0 P Q a w:=by
 obtain⟨T⟩:=RB _ hs Ax;have yp:ops.size=ops.toList.length:=by simp
 have Jf:∀(i:Nat),ops[i]?=ops.toList[i]?:=λi=>by simp
 generalize hn:ops.toList.length=n at *
 -- the order of the text
 have text:∀ i,i<=n->(∀ t,bI (T.rD i) t=gM (uS ops.toList T.es) (bI fr) (λ_=>true) i t)/\cT (gM (uM T.es) cc (λ_=>true) i) (T.Ms i)/\eG (gM (uM T.es) cc (λ_=>true) i) (T.AM i)/\next<=T.AM i/\
   (∀ k,k<next->ah M k=none->ah (T.Ms i) k=none/\gM (uM T.es) cc (λ_=>true) i k=cc k):=by
  intro i;induction i with
  |zero=>intro _;exact⟨λt=>by rw[T.Yt];rfl,by rw[T.Rz];exact ha,by rw[T.RA];exact hu,by rw[T.RA];exact bj _,λk _ hk=>⟨by rw[T.Rz];exact hk,rfl⟩⟩
  |succ i ih=>
   intro hi;obtain⟨h1,h2,h3,h4,h5⟩:=ih o_;have ho:=bf (l:=ops.toList) (i:=i) o_;obtain⟨_,s2,s3,s4,s5,_⟩:=T.step i _ ho;obtain⟨q1,q2,q3,q4⟩:=Rr s5 h2 h3;have e:gM (uM T.es) cc (λ_=>true) (i+1)=lp (gM (uM T.es) cc (λ_=>true) i) (T.es i).cR:=funext λk=>by rw[YC,Yr];cases uM T.es i k<;>rfl
   refine⟨λt=>?_,by rw[s3,e];exact q2,by rw[s4,e];exact q3,by rw[s4];exact de h4 (Gw _ _),λk hk hM=>?_⟩
   ·rw[s2,Ro];rw[Yr,YD ho,h1 t];by_cases hd:(ops.toList[i]).dst=some t
    ·rw[aw hd,aw hd];rfl
    ·rw[ao hd,ao hd];rfl
   ·obtain⟨p1,p2⟩:=h5 k hk hM;obtain⟨p3,p4⟩:=q4 k o_ p1;exact⟨by rw[s3];exact p3,by rw[e,p4,p2]⟩
 -- which of two that wM has YE up
 have ordered:∀{L:Nat->Bool} (hL:Mu ops.toList L) {i:Nat} {o:Oper},ops.toList[i]?=some o->L i=false->(∀ e∈o.after,Region.binds .any e=true->L e.on=true)->∀{j:Nat} {p:Oper},ops.toList[j]?=some p->j≠i->
   wM ops.toList o (keys (T.es i).need,keys (T.es i).cR) p (keys (T.es j).need,keys (T.es j).cR)=true\/wM ops.toList p (keys (T.es j).need,keys (T.es j).cR) o (keys (T.es i).need,keys (T.es i).cR)=true->(L j=true↔j<i):=by
  intro L hL i o ho Ej Mv j p hp o5 s7;have ei:=T.nt i (Gx ho);have ej:=T.nt j (Gx hp);rcases Ek o5 with ak|s8
  ·rcases Yx h ho ei hp ej ak with hb|⟨pL,gp⟩
   ·have:=(Yy h hL i o ho Mv j hb).1;exact⟨λ_=>ak,λ_=>this⟩
   ·rcases s7 with s7|s7
    ·rw[pL]at s7;cases s7
    ·rw[gp]at s7;cases s7
  ·rcases Yx h hp ej ho ei s8 with hb|⟨pL,gp⟩
   ·refine⟨λAN=>?_,λak=>by omega⟩;have:=(Yy h hL j p hp (λe he El=>hL j p hp AN e he El) i hb).1;rw[Ej]at this;cases this
   ·rcases s7 with s7|s7
    ·rw[gp]at s7;cases s7
    ·rw[pL]at s7;cases s7
 have YF:∀{α:Type} (u:Nat->Nat->Option α) (c0:Nat->α) (L:Nat->Bool) (k:Nat),(∀ j,L j=false)->∀ m,gM u c0 L m k=c0 k:=by
  intro α u c0 L k hL m;induction m with
  |zero=>rfl
  |succ m ih=>show(if L m then _ else _)=_;rw[hL m,ih];rfl
 have aUw:∀{α:Type} (u:Nat->Nat->Option α) (c0:Nat->α) (L L':Nat->Bool) (k:Nat),(∀ j,L j=L' j)->∀ m,gM u c0 L m k=gM u c0 L' m k:=by intro α u c0 L L' k hL m;rw[show L=L' from funext hL]
 refine wpIn_region_any gn (aGX (λL a' w'=>∃ au,Map.le ι au/\fh B au (gM (uS ops.toList T.es) (bI fr) L n) N a'/\Mu ops.toList L/\aQ B au (gM (uM T.es) cc L n) w'/\(∀ t,wK ops.toList t=false->a'.tmps.getD t undef=a.tmps.getD t undef))
  (λi o ho e he hb=>RC h (by rw[<-Jf];exact ho) e he hb) ?_ ?_ ?_ ops.size _ a _ s_ (by simp[List.countP_replicate]) ?_)
 ·-- one operation
  rintro L a' w' i o ⟨au,hle,mF,iF,Em,yz⟩ ho Ej Mv
  have rC:ops.toList[i]?=some o:=by rw[<-Jf];exact ho
  have ct:i<n:=by rw[<-hn];exact Gx rC
  obtain⟨t1,t2,t3,t4,t5⟩:=text i o_;obtain⟨s1,s2,s3,s4,s5,s6⟩:=T.step i o rC;have ord:=λ{j:Nat} {p:Oper}=>ordered iF rC Ej Mv (j:=j) (p:=p)
  -- the jA that it looks at
  have slot:∀ t,t∈Jh o++Mr ops.toList o->gM (uS ops.toList T.es) (bI fr) L n t=bI (T.rD i) t:=by
   intro t ht;rw[t1 t];refine Rw n o_ λj hj hu=>?_;obtain⟨p,hp,Gy⟩:=RF hu;by_cases o5:j=i
   ·subst o5;rw[Ej];exact⟨λe=>(by cases e),λe=>o_⟩
   ·refine ord hp o5 (.inl ?_);unfold wM;rw[Gy];simp only[aG3 ht,Gz]
  have marks:∀ p∈(T.es i).need,gM (uM T.es) cc L n p.1=p.2:=by
   intro q hq;rw[<-(Rr s5 t2 t3).1 q hq];refine Rw n o_ λj hj hu=>?_;have hk:=RE hu;by_cases o5:j=i
   ·subst o5;rw[Ej];exact⟨λe=>(by cases e),λe=>o_⟩
   ·have hp:=bf (l:=ops.toList) (i:=j) o_;refine ord hp o5 (.inl ?_);unfold wM;rw[YB hk (RD hq),Bool.or_true]
  -- what stands behind it
  have YG:Mu ops.toList (λj=>L j||j==i):=by
   intro k p hp vt e he hb;simp only[uy,beq_iff_eq]at vt ⊢;rcases vt with vt|rfl
   ·exact .inl (iF k p hp vt e he hb)
   ·rw[rC]at hp;injection hp with hp;subst hp;exact .inl (Mv e he hb)
  have YH:∀ t,gM (uS ops.toList T.es) (bI fr) (λj=>L j||j==i) n t=if o.dst=some t then(T.es i).val else gM (uS ops.toList T.es) (bI fr) L n t:=by
   intro t;rw[Ys (i:=i) (m:=n) Ej (λj RG hj AN hu=>?_) n (bj _) ct,YD rC]
   ·by_cases hd:o.dst=some t<;>simp[hd]
   ·obtain⟨q,hq,hqd⟩:=RF hu;rw[rC]at hq;injection hq with hq;subst hq;apply gN;intro aU;obtain⟨p,hp,Gy⟩:=RF aU;have:=(ord hp o_ (.inl (by unfold wM;rw[Gy,hqd];simp))).1 AN;omega
  have YI:gM (uM T.es) cc (λj=>L j||j==i) n=lp (gM (uM T.es) cc L n) (T.es i).cR:=by
   funext k
   rw[Ys (i:=i) (m:=n) Ej (λj RG hj AN hu=>?_) n (bj _) ct,YC]
   ·cases uM T.es i k<;>rfl
   ·apply gN;intro aU;have hp:=bf (l:=ops.toList) (i:=j) o_;have hk:=RE aU;have fE:=RE hu;obtain⟨q,hq,wJ⟩:=dj.1 fE;obtain⟨q2,nu,aG6⟩:=s5.2 q hq;have:=(ord hp o_ (.inl (by unfold wM;rw[YB hk (by rw[<-wJ,<-aG6];exact RD nu),Bool.or_true]))).1 AN;omega
  have other:∀ v,∀ t,wK ops.toList t=false->(a'.put o.dst v).tmps.getD t undef=a.tmps.getD t undef:=by intro v t ht;rw[Rq _ _ _ λhd=>?_,yz t ht];unfold wK at ht;rw[Jj]at ht;have:=ht o (cQ rC);rw[hd]at this;simp at this
  have Ch:=Yj s1;have aG7:Region.wanted o (yielded ops a'.tmps)=Cf (T.rD i) ops o:=by refine Yi mF ops o s1 λj b hg t ht=>slot t (ee.2 (.inr ?_));unfold Mr;rw[hg];dsimp only;rw[<-Jf,ht];exact aV ..
  unfold wpOpIn;rw[ho];dsimp only;rw[aG7];rcases s6 with ⟨hw,ay,vp⟩|⟨hw,he⟩
  ·rw[aw hw];simp only[AE,da,bh,AH]at ay;have En:∀ x∈o.op.operands.toList,fW (gM (uS ops.toList T.es) (bI fr) L n) x=fW (bI (T.rD i)) x:=by
    intro x hx;cases x with
    |tmp t=>exact slot t (ee.2 (.inl (aG4 (Mk.1 hx))))
    |_=>rfl
   have YJ:=Rl mF o.op.operands.toList (λx hx=>by rw[En x hx];exact ay.1 x hx);rw[yA En]at YJ;refine vp R au _ a' w' YJ Em marks _ _ λdG v2 w2 kV iu dB=>?_;exact⟨dG,hle.trans kV,mF.put kV (.inr iu) o.dst Ch YH,YG,by rw[YI];exact dB,other v2⟩
  ·rw[ao (by rw[hw];decide)];refine⟨λ_ _=>trivial,?_⟩;refine⟨au,hle,mF.put (Map.le.refl _) (v':=undef) (.inr (by rw[he];exact .same rfl)) o.dst Ch YH,YG,by rw[YI,he];exact Em,other undef⟩
 ·-- all have YE up
  rintro L a' w' bd ⟨au,hle,mF,iF,Em,yz⟩
  obtain⟨t1,t2,t3,t4,t5⟩:=text n (bj _);have eN:∀{α:Type} (u:Nat->Nat->Option α) (c0:Nat->α),gM u c0 L n=gM u c0 (λ_=>true) n:=λu c0=>funext λk=>
   Rw n (bj _) λj hj _=>⟨λ_=>hj,λ_=>bd j o_⟩
  have e1:T.rD n=r.fr:=by rw[<-hn];exact T.Yu
  have e2:T.Ms n=r.M:=by rw[<-hn];exact T.Yv
  have e3:T.AM n=r.next:=by rw[<-hn];exact T.Yw
  rw[eN]at Em;refine hQ au _ a' w' hle ⟨mF.defers,mF.size,λt=>?_⟩ Em (by rw[<-e2];exact t2) (by rw[<-e3];exact t3) (λk hk hM=>(t5 k hk hM).2) yz;rw[<-e1,t1 t,<-eN];exact mF.slot t
 ·-- the numbers alone
  rintro L L' a' w' YK ⟨au,hle,mF,iF,Em,yz⟩
  have e:L=L':=funext YK;subst e;exact⟨au,hle,mF,iF,Em,yz⟩
 ·-- none has YE up
  have hL:∀ j,(Array.replicate ops.size false).getD j false=false:=λj=>by simp[pK,Array.getElem?_replicate];split<;>rfl
  refine⟨ι,Map.le.refl _,⟨hf.defers,hf.size,λt=>?_⟩,λi o _ hi=>?_,?_,λ_ _=>rfl⟩
  ·rw[YF _ _ _ _ hL];exact hf.slot t
  ·have:=(hL i).symm.trans hi;cases this
  ·exact(hm.drew _ (yw _)).ext λk=>YF _ _ _ _ hL n
end
def Eo(M:aH)(ks:aH):aH:=M.filter λp=>match ah ks p.1 with|some _=>false|none=>true
theorem RH{ks:aH}:∀(M:aH) (k:Nat),ah (Eo M ks) k=match ah ks k with|some _=>none|none=>ah M k
 |[],k=>by cases h:ah ks k<;>simp[Eo,ah]
 |(j,x)::M,k=>by
  have ih:=RH (ks:=ks) M k;unfold Eo at ih ⊢;by_cases hj:j=k
  ·subst hj;cases h:ah ks j with
   |some y=>rw[h]at ih;rw[Mw,ao (by simp[h])];exact ih
   |none=>rw[Mw,aw (by simp[h])];simp[ah]
  ·have e:∀ M,ah ((j,x)::M) k=ah M k:=λM=>by show(if Nat.beq j k then _ else _)=_;rw[nY hj];rfl
   rw[e,<-ih];cases h:ah ks j with
   |some y=>rw[Mw,ao (by simp[h])]
   |none=>rw[Mw,aw (by simp[h]),e]
theorem aG8{cc bY:Nat->Option Obj}{M M0 M1:aH}{next:Nat}(ha:cT cc M)(hu:eG cc next)(h1:cT bY M1)(hk:∀ k,k<next->ah M0 k=none->bY k=cc k):cT bY (M1++Eo M M0):=by
 intro k x hx;rw[gK]at hx;cases h:ah M1 k with
 |some y=>rw[h]at hx;exact h1 k x (by rw[h];exact hx)
 |none=>
  rw[h]at hx;dsimp only at hx;rw[RH]at hx;cases h0:ah M0 k with
  |some y=>rw[h0]at hx;cases hx
  |none=>
   rw[h0]at hx;have hc:=ha k x hx;have:k<next:=by
    rcases eF k next with h|h
    ·exact h
    ·rw[hu k h]at hc;cases hc
   rw[hk k this h0];exact hc
structure jL(P:Program)(B:aa)(N:Nat) where
 ex:Ex
 fr:aW
 M:aH
 next:Nat
 rs:bA P B N
 tr:vo
section
variable{P:Program}{B:aa}{N:Nat}
def jL.more(r:jL P B N)(tr:vo):jL P B N:=⟨r.ex,r.fr,r.M,r.next,r.rs,tr++r.tr⟩
def jL.after(o:Option (jL P B N))(tr:vo):Option (jL P B N):=match o with|some r=>some (r.more tr)|none=>none
def jL.aG9(r:jL P B N)(e:Ex):jL P B N:=⟨e,r.fr,r.M,r.next,r.rs,r.tr⟩
def jL.out(r:jL P B N):l5:=⟨r.ex,r.fr,r.M,r.next⟩
def Keys(M:aH)(next:Nat)(M':aH)(next':Nat):Prop:=next<=next'/\∀ k,k<next->ah M k=none->ah M' k=none
theorem Keys.refl(M:aH)(next:Nat):Keys M next M next:=⟨bj _,λ_ _ h=>h⟩
theorem Keys.trans{M M1 M2:aH}{n n1 n2:Nat}(h:Keys M n M1 n1)(k:Keys M1 n1 M2 n2):Keys M n M2 n2:=⟨de h.1 k.1,λj hj hM=>k.2 j (cv hj h.1) (h.2 j hj hM)⟩
def Mx(fr:aW)(M:aH)(next:Nat)(c:Code)(key:Nat)(rs:bA P B N):Option (jL P B N):=
 match rs with
 |.code YL c' Jk M0 RJ r _::wG=>
  if Nat.beq YL key&&(Nat.ble next r.next&&r.M.all λp=>Nat.ble next p.1||(match ah M0 p.1 with|some _=>true|none=>false))then
   some ⟨r.ex,r.fr++((wl c).map λt=>(t,Gp))++fr,r.M++Eo M M0,r.next,wG,(.code c,.code c')::(.nat next,.nat RJ)::(Jk.map λp=>(nZ.eB [bI fr p.1],nZ.eB [p.2]))++M0.map λp=>(nZ.obj (ah M p.1),nZ.obj (some p.2))⟩
  else none
 |_=>none
def aHa:Bool->List Oper->List (List Nat×List Nat)->Bool
 |true,ops,nt=>Ei ops nt
 |false,_,_=>true
def iP:Nat->Code->aW->aH->Nat->bA P B N->Option (jL P B N)
 |0,_,_,_,_,_=>none
 |n+1,c,fr,M,next,rs=>
  match c with
  |.skip=>some ⟨.normal,fr,M,next,rs,[]⟩
  |.exit id=>some ⟨.exit id,fr,M,next,rs,[]⟩
  |.ret=>some ⟨.ret,fr,M,next,rs,[]⟩
  |.region id ops draw=>
   match Mx fr M next (.region id ops draw) (200000+id) rs with
   |some r=>some r
   |none=>
    match yy ops ops.toList fr M next rs with
    |some r=>if aHa draw ops.toList r.nt then some ⟨.normal,r.fr,r.M,r.next,r.rs,r.tr⟩else none
    |none=>none
  |.seq x y=>match iP n x fr M next rs with
   |some r=>match r.ex with
    |.normal=>jL.after (iP n y r.fr r.M r.next r.rs) r.tr
    |_=>some r
   |none=>none
  |.cond c x y=>match fW (bI fr) c with
   |.bool b=>if b then iP n x fr M next rs else iP n y fr M next rs
   |_=>none
  |.block id b=>
   match Mx fr M next (.block id b) id rs with
   |some r=>some r
   |none=>match iP n b fr M next rs with
    |some r=>match r.ex with
     |.exit k=>some (r.aG9 (if Nat.beq k id then .normal else .exit k))
     |_=>some r
    |none=>none
  |.loop b=>match iP n b fr M next rs with
   |some r=>match r.ex with
    |.normal=>jL.after (iP n (.loop b) r.fr r.M r.next r.rs) r.tr
    |_=>some r
   |none=>none
  |_=>none
theorem YM{o:Option (jL P B N)}{tr:vo}{r:jL P B N}(h:jL.after o tr=some r):∃ r',o=some r'/\r=r'.more tr:=by
 cases o with
 |none=>cases h
 |some r'=>injection h with h;exact⟨r',rfl,h.symm⟩
theorem RK:∀(l m:aW) (t:Nat),(∃ v,(t,v)∈l/\bI (l++m) t=v/\bI l t=v)\/((∀ v,(t,v)∉l)/\bI (l++m) t=bI m t)
 |[],m,t=>.inr ⟨λv h=>(by cases h),rfl⟩
 |(s,v)::l,m,t=>by
  by_cases h:s=t
  ·subst h;exact .inl ⟨v,aV ..,by simp[bI],by simp[bI]⟩
  ·have e1:bI ((s,v)::l++m) t=bI (l++m) t:=by show(if Nat.beq s t then _ else _)=_;rw[nY h];rfl
   have e2:bI ((s,v)::l) t=bI l t:=by show(if Nat.beq s t then _ else _)=_;rw[nY h];rfl
   rcases RK l m t with ⟨u,h1,h2,h3⟩|⟨h1,h2⟩
   ·exact .inl ⟨u,bF _ h1,by rw[e1,h2],by rw[e2,h3]⟩
   ·refine .inr ⟨λu hu=>?_,by rw[e1,h2]⟩;rcases cx.1 hu with hu|hu
    ·injection hu with dP fv;exact h dP.symm
    ·exact h1 u hu
theorem aHb{c:Code}{t:Nat}(h:t∈wl c):uo c t=true:=by unfold uo;rw[sY];exact⟨t,h,by simp⟩
theorem My{c:Code}{t:Nat}(h:uo c t=false):t∉wl c:=λhm=>by rw[aHb hm]at h;cases h
theorem Jl{c:Code}{t:Nat}(h:t∉wl c):uo c t=false:=by
 cases hb:uo c t with
 |false=>rfl
 |true=>
  unfold uo at hb;rw[sY]at hb;obtain⟨d,hd,he⟩:=hb;exact absurd (jZ he▸hd) h
theorem aHc{ι au:Map}{c:Code}{fr AO:aW}{a a':Act}(hle:Map.le ι au)(hf:fh B ι (bI fr) N a)(h1:fh B au (bI AO) N a')(ht:∀ t,uo c t=false->a'.tmps.getD t undef=a.tmps.getD t undef):
  fh B au (bI (AO++((wl c).map λt=>(t,Gp))++fr)) N a':=by
 refine⟨h1.defers,h1.size,λt=>?_⟩;rw[Ep];rcases RK AO (((wl c).map λt=>(t,Gp))++fr) t with ⟨v,_,h2,h3⟩|⟨_,h2⟩
 ·rw[h2,<-h3];exact h1.slot t
 ·rw[h2];rcases RK ((wl c).map λt=>(t,Gp)) fr t with ⟨v,hv,h3,_⟩|⟨hn,h3⟩
  ·obtain⟨s,_,he⟩:=dj.1 hv;injection he with _ he;rw[h3,<-he];exact .inl rfl
  ·rw[h3,ht t (Jl λhm=>hn Gp (dj.2 ⟨t,hm,rfl⟩))];exact(hf.slot t).mono hle
theorem YN{fr:aW}{M:aH}{next:Nat}{c:Code}{key:Nat}{rs:bA P B N}{r:jL P B N}(h:Mx fr M next c key rs=some r)(hs:rq r.tr):ag P B N c fr M next r.out/\Keys M next r.M r.next:=by
 unfold Mx at h;split at h
 ·rename_i YL c' Jk M0 RJ r0 ok wG;split at h
  ·rename_i pI;injection h with h;subst h;simp only[da,bh,uy]at pI;have e1:nZ.code c=.code c':=hs _ (aV ..);have e2:nZ.nat next=.nat RJ:=hs _ (bF _ (aV ..));injection e1 with e1;injection e2 with e2;subst e1;subst e2;have e3:∀ p∈Jk,bI fr p.1=p.2:=λp hp=>by have:nZ.eB [bI fr p.1]=.eB [p.2]:=hs _ (ee.2 (.inl (bF _ (bF _ (dj.2 ⟨p,hp,rfl⟩)))));injection this with this;injection this
   have e4:∀ p∈M0,ah M p.1=some p.2:=λp hp=>by have:nZ.obj (ah M p.1)=.obj (some p.2):=hs _ (ee.2 (.inr (dj.2 ⟨p,hp,rfl⟩)));injection this
   refine⟨?_,rl pI.2.1,λk hk hM=>?_⟩;rotate_left
   ·show ah (r0.M++Eo M M0) k=none;rw[gK];have h1:ah r0.M k=none:=by
     cases h1:ah r0.M k with
     |none=>rfl
     |some x=>
      rcases pI.2.2 _ (j0 h1)with h2|h2
      ·have:=rl h2;dsimp only at this;omega
      ·dsimp only at h2;cases h0:ah M0 k with
       |none=>rw[h0]at h2;cases h2
       |some y=>have:=e4 _ (j0 h0);dsimp only at this;rw[hM]at this;cases this
    rw[h1];show ah (Eo M M0) k=none;rw[RH,hM];cases ah M0 k<;>rfl
   intro R ι cc a w Q hf hm ha hu hQ;have Er:fh B ι (bI Jk) N a:=⟨hf.defers,hf.size,λt=>by
    have:∀(l:aW),(∀ p∈l,bI fr p.1=p.2)->nq ι (bI l t) (a.tmps.getD t undef):=by
     intro l;induction l with
     |nil=>intro _;exact .inl rfl
     |cons p l ih=>
      intro hl;obtain⟨s,v⟩:=p;by_cases bL:s=t
      ·subst bL;have this:bI fr s=v:=hl _ (aV ..);have e:bI ((s,v)::l) s=v:=by simp[bI]
       rw[e,<-this];exact hf.slot s
      ·have e:bI ((s,v)::l) t=bI l t:=by show(if Nat.beq s t then _ else _)=_;rw[nY bL];rfl
       rw[e];exact ih λp hp=>hl p (bF _ hp)
    exact this Jk e3⟩
   have oC:cT cc M0:=λk x hk=>ha k x (by have:=e4 _ (j0 hk);exact this);refine ok R ι cc a w Q Er hm oC hu λau bY a' w' hle uz bo iQ jK gD wO=>?_;refine hQ au bY a' w' hle (aHc hle hf uz wO) bo (aG8 ha hu iQ gD) jK (λk hk hM=>gD k hk ?_) wO;cases h0:ah M0 k with
   |none=>rfl
   |some x=>have:=e4 _ (j0 h0);dsimp only at this;rw[hM]at this;cases this
  ·cases h
 ·cases h
theorem RL{ops:Array Oper}:∀(l:List Oper) {fr:aW} {M:aH} {next:Nat} {rs:bA P B N} {r:qw P B N},yy ops l fr M next rs=some r->rq r.tr->Keys M next r.M r.next
 |[],fr,M,next,rs,r,h,_=>by injection h with h;subst h;exact Keys.refl _ _
 |o::l,fr,M,next,rs,r,h,hs=>by
  unfold yy at h;split at h
  ·split at h
   ·split at h
    ·rename_i e Ed Ef bL;split at h
     ·rename_i r2 ur;injection h with h;subst h;obtain⟨_,_,oB⟩:=Rn (B:=B) bL (λp hp=>hs p (ee.2 (.inl hp)));have k2:=RL l ur λp hp=>hs p (ee.2 (.inr hp));refine Keys.trans (M1:=e.cR++M) (n1:=AL next e.cR) ⟨Gw _ _,λk hk hM=>?_⟩ k2;rw[gK];cases h1:ah e.cR k with
      |none=>exact hM
      |some x=>
       exfalso;obtain⟨q,hq,wJ⟩:=oB.2 _ (j0 h1);dsimp only at wJ;rcases oB.1 q hq with ⟨y,h2,h3⟩|⟨h2,h3⟩
       ·rw[wJ,hM]at h3;cases h3
       ·omega
     ·cases h
    ·cases h
   ·split at h
    ·rename_i r2 ur;injection h with h;subst h;have k2:=RL l ur λp hp=>hs p (ee.2 (.inr hp));exact k2
    ·cases h
  ·cases h
theorem aHd{x y:Code}{fr:aW}{M:aH}{next:Nat}{r1 r2:l5}(h1:ag P B N x fr M next r1)(hn:r1.ex=.normal)(hk:Keys M next r1.M r1.next)(h2:ag P B N y r1.fr r1.M r1.next r2):ag P B N (.seq x y) fr M next r2:=by intro R ι cc a w Q hf hm ha hu hQ;refine lB (h1 R ι cc a w _ hf hm ha hu λbO gk a1 w1 jq iH cX eC dP hY jM=>?_);rw[hn];refine h2 R bO gk a1 w1 Q iH cX eC dP λdG ry a2 w2 kV jl dB gZ fv fE rz=>?_;refine hQ dG ry a2 w2 (jq.trans kV) jl dB gZ fv (λk mG hM=>by rw[fE k (cv mG hk.1) (hk.2 k mG hM),hY k mG hM]) λt ht=>?_;have Cj:t∉wl x++wl y:=My ht;rw[rz t (Jl λh=>Cj (ee.2 (.inr h))),jM t (Jl λh=>Cj (ee.2 (.inl h)))]
theorem YO{x y:Code}{fr:aW}{M:aH}{next:Nat}{r1:l5}(h1:ag P B N x fr M next r1)(hn:r1.ex≠.normal):ag P B N (.seq x y) fr M next r1:=by
 intro R ι cc a w Q hf hm ha hu hQ;refine lB (h1 R ι cc a w _ hf hm ha hu λbO gk a1 w1 jq iH cX eC dP hY jM=>?_);have:=hQ bO gk a1 w1 jq iH cX eC dP hY λt ht=>jM t (Jl λh=>(My ht:t∉wl x++wl y) (ee.2 (.inl h)));cases hx:r1.ex with
 |normal=>exact absurd hx hn
 |exit id=>rw[hx]at this;exact this
 |ret=>rw[hx]at this;exact this
theorem bT{b:Code}{id:Nat}{fr:aW}{M:aH}{next:Nat}{r1:l5}(h1:ag P B N b fr M next r1):
  ag P B N (.block id b) fr M next ⟨(match r1.ex with|.exit k=>if Nat.beq k id then .normal else .exit k|e=>e),r1.fr,r1.M,r1.next⟩:=by
 intro R ι cc a w Q hf hm ha hu hQ;refine Jm (h1 R ι cc a w _ hf hm ha hu λbO gk a1 w1 jq iH cX eC dP hY jM=>?_);have:=hQ bO gk a1 w1 jq iH cX eC dP hY jM;cases hx:r1.ex with
 |normal=>rw[hx]at this;exact this
 |ret=>rw[hx]at this;exact this
 |exit k=>
  rw[hx]at this;dsimp only at this;show(if k=id then Q .normal a1 w1 else Q (.exit k) a1 w1);by_cases hk:k=id
  ·rw[aw hk];subst hk;rw[show Nat.beq k k=true from Es k]at this;exact this
  ·rw[ao hk];rw[nY hk]at this;exact this
theorem RM(gn:P.follows .mixedOrders=true):∀(n:Nat),
  (∀(c:Code) (fr:aW) (M:aH) (next:Nat) (rs:bA P B N) (r:jL P B N),iP n c fr M next rs=some r->rq r.tr->ag P B N c fr M next r.out/\Keys M next r.M r.next)/\
  (∀(b:Code) (fr:aW) (M:aH) (next:Nat) (rs:bA P B N) (r:jL P B N),iP n (.loop b) fr M next rs=some r->rq r.tr->Keys M next r.M r.next/\∀(R:Option Nat) (ι:Map) (cc:Nat->Option Obj) (a:Act) (w:World) (Q:Exit->Act->World->Prop),fh B ι (bI fr) N a->aQ B ι cc w->cT cc M->eG cc next->(∀ au bY a' w',Map.le ι au->fh B au (bI r.fr) N a'->aQ B au bY w'->cT bY r.M->eG bY r.next->(∀ k,k<next->ah M k=none->bY k=cc k)->(∀ t,uo b t=false->a'.tmps.getD t undef=a.tmps.getD t undef)->Q r.ex.AG a' w')->Code.roundsIn (FW R) 0 P b Q n a w):=by
 intro n;induction n with
 |zero=>exact⟨λc fr M next rs r h=>by simp[iP]at h,λb fr M next rs r h=>by simp[iP]at h⟩
 |succ n ih=>
  obtain⟨wP,ihl⟩:=ih;have loop:∀(b:Code) (fr:aW) (M:aH) (next:Nat) (rs:bA P B N) (r:jL P B N),iP (n+1) (.loop b) fr M next rs=some r->rq r.tr->
   Keys M next r.M r.next/\∀(R:Option Nat) (ι:Map) (cc:Nat->Option Obj) (a:Act) (w:World) (Q:Exit->Act->World->Prop),fh B ι (bI fr) N a->aQ B ι cc w->cT cc M->eG cc next->
  (∀ au bY a' w',Map.le ι au->fh B au (bI r.fr) N a'->aQ B au bY w'->cT bY r.M->eG bY r.next->(∀ k,k<next->ah M k=none->bY k=cc k)->(∀ t,uo b t=false->a'.tmps.getD t undef=a.tmps.getD t undef)->Q r.ex.AG a' w')->Code.roundsIn (FW R) 0 P b Q (n+1) a w:=by
   intro b fr M next rs r h hs;simp only[iP]at h;cases hb:iP n b fr M next rs with
   |none=>rw[hb]at h;cases h
   |some r1=>
    rw[hb]at h;dsimp only at h;have out:r1.ex≠.normal->r=r1->_:=λaU (e:r=r1)=>by
     subst e;obtain⟨g1,k1⟩:=wP b fr M next rs r hb hs;refine(⟨k1,λR ι cc a w Q hf hm ha hu hQ=>?_⟩:Keys M next r.M r.next/\∀(R:Option Nat) (ι:Map) (cc:Nat->Option Obj) (a:Act) (w:World) (Q:Exit->Act->World->Prop),fh B ι (bI fr) N a->aQ B ι cc w->cT cc M->eG cc next->(∀ au bY a' w',Map.le ι au->fh B au (bI r.fr) N a'->aQ B au bY w'->cT bY r.M->eG bY r.next->(∀ k,k<next->ah M k=none->bY k=cc k)->(∀ t,uo b t=false->a'.tmps.getD t undef=a.tmps.getD t undef)->Q r.ex.AG a' w')->Code.roundsIn (FW R) 0 P b Q (n+1) a w);rw[Et];refine g1 R ι cc a w _ hf hm ha hu λbO gk a1 w1 jq iH cX eC dP hY jM=>?_;have:=hQ bO gk a1 w1 jq iH cX eC dP hY jM;show Exit.then _ Q r.ex.AG a1 w1;cases hx:r.ex with
     |normal=>exact absurd hx aU
     |exit id=>rw[hx]at this;exact this
     |ret=>rw[hx]at this;exact this
    cases hex:r1.ex with
    |normal=>
     rw[hex]at h;obtain⟨r2,h2,he⟩:=YM h;subst he;obtain⟨g1,k1⟩:=wP b fr M next rs r1 hb (λp hp=>hs p (ee.2 (.inl hp)));obtain⟨k2,g2⟩:=ihl b r1.fr r1.M r1.next r1.rs r2 h2 (λp hp=>hs p (ee.2 (.inr hp)));refine⟨k1.trans k2,λR ι cc a w Q hf hm ha hu hQ=>?_⟩;rw[Et];refine g1 R ι cc a w _ hf hm ha hu λbO gk a1 w1 jq iH cX eC dP hY jM=>?_;show Exit.then _ Q r1.ex.AG a1 w1;rw[hex];refine g2 R bO gk a1 w1 Q iH cX eC dP λdG ry a2 w2 kV jl dB gZ fv fE rz=>?_;exact hQ dG ry a2 w2 (jq.trans kV) jl dB gZ fv (λk mG hM=>(fE k (cv mG k1.1) (k1.2 k mG hM)).trans (hY k mG hM)) λt ht=>(rz t ht).trans (jM t ht)
    |exit id=>rw[hex]at h;injection h with h;exact out (by rw[hex];exact n_) h.symm
    |ret=>rw[hex]at h;injection h with h;exact out (by rw[hex];exact n_) h.symm
  refine⟨λc fr M next rs r h hs=>?_,loop⟩;cases c with
  |skip=>
   simp only[iP]at h;injection h with h;subst h;exact⟨λR ι cc a w Q hf hm ha hu hQ=>wpIn_skip (hQ ι cc a w (Map.le.refl _) hf hm ha hu (λ_ _ _=>rfl) λ_ _=>rfl),Keys.refl _ _⟩
  |exit id=>
   simp only[iP]at h;injection h with h;subst h;exact⟨λR ι cc a w Q hf hm ha hu hQ=>wpIn_exit (hQ ι cc a w (Map.le.refl _) hf hm ha hu (λ_ _ _=>rfl) λ_ _=>rfl),Keys.refl _ _⟩
  |ret=>
   simp only[iP]at h;injection h with h;subst h;exact⟨λR ι cc a w Q hf hm ha hu hQ=>Jn (hQ ι cc a w (Map.le.refl _) hf hm ha hu (λ_ _ _=>rfl) λ_ _=>rfl),Keys.refl _ _⟩
  |region id ops draw=>
   simp only[iP]at h;split at h
   ·rename_i r1 h1;injection h with h;subst h;exact YN h1 hs
   ·split at h
    ·rename_i r1 h1;split at h
     ·rename_i hd;injection h with h;subst h;refine⟨λR ι cc a w Q hf hm ha hu hQ=>?_,RL _ h1 hs⟩;have YP:Rt B N cc M next ι a (wK ops.toList) r1 (Q .normal):=λau bY a' w' hle uz bo iQ jK gD wO=>hQ au bY a' w' hle uz bo iQ jK gD λt ht=>wO t (by
       have hn:t∉ops.toList.filterMap (·.dst):=My ht;cases hb:wK ops.toList t with
       |false=>rfl
       |true=>
        unfold wK at hb;rw[sY]at hb;obtain⟨o,ho,Mz⟩:=hb;exfalso;refine hn (Yf.2 ⟨o,ho,?_⟩);cases Ch:o.dst with
        |none=>rw[Ch]at Mz;cases Mz
        |some d=>rw[Ch]at Mz;rw[jZ Mz])
      cases draw with
      |false=>exact wpIn_region_list (Ru _ h1 hs hf hm ha hu YP)
      |true=>exact aG5 gn h1 hs hd hf hm ha hu YP
     ·cases h
    ·cases h
  |seq x y=>
   simp only[iP]at h;cases hx:iP n x fr M next rs with
   |none=>rw[hx]at h;cases h
   |some r1=>
    rw[hx]at h;dsimp only at h;cases hex:r1.ex with
    |normal=>
     rw[hex]at h;obtain⟨r2,h2,he⟩:=YM h;subst he;obtain⟨g1,k1⟩:=wP x fr M next rs r1 hx (λp hp=>hs p (ee.2 (.inl hp)));obtain⟨g2,k2⟩:=wP y r1.fr r1.M r1.next r1.rs r2 h2 (λp hp=>hs p (ee.2 (.inr hp)));exact⟨aHd g1 hex k1 g2,k1.trans k2⟩
    |exit id=>
     rw[hex]at h;injection h with h;subst h;obtain⟨g1,k1⟩:=wP x fr M next rs r1 hx hs;exact⟨YO g1 (by show r1.ex≠_;rw[hex];exact n_),k1⟩
    |ret=>
     rw[hex]at h;injection h with h;subst h;obtain⟨g1,k1⟩:=wP x fr M next rs r1 hx hs;exact⟨YO g1 (by show r1.ex≠_;rw[hex];exact n_),k1⟩
  |cond Eu x y=>
   simp only[iP]at h;cases hc:fW (bI fr) Eu with
   |bool b=>
    rw[hc]at h;have he:∀(ι:Map) (a:Act),fh B ι (bI fr) N a->a.eval Eu=.bool b:=by
     intro ι a hf;cases Eu with
     |tmp t=>
      have:bI fr t=.bool b:=hc;have hs:=hf.slot t;rw[this]at hs;exact(hs.Aw rfl).bool
     |const v=>exact hc
     |global g=>exact hc
     |func f=>exact hc
    have fin:∀ z:Code,(∀ t,t∈wl z->t∈wl (Code.cond Eu x y))->ag P B N z fr M next r.out->(∀(R:Option Nat) (Q:Exit->Act->World->Prop) (a:Act) (w:World),a.eval Eu=.bool b->z.wpIn (FW R) 0 P Q a w->(Code.cond Eu x y).wpIn (FW R) 0 P Q a w)->ag P B N (.cond Eu x y) fr M next r.out:=by intro z hz g hw R ι cc a w Q hf hm ha hu hQ;refine hw R Q a w (he ι a hf) (g R ι cc a w Q hf hm ha hu λbO gk a1 w1 jq iH cX eC dP hY jM=>hQ bO gk a1 w1 jq iH cX eC dP hY λt ht=>jM t (Jl λhm=>My ht (hz t hm)))
    cases b with
    |true=>
     obtain⟨g1,k1⟩:=wP x fr M next rs r h hs;exact⟨fin x (λt ht=>ee.2 (.inl ht)) g1 (λR Q a w e h=>wpIn_cond e h),k1⟩
    |false=>
     obtain⟨g1,k1⟩:=wP y fr M next rs r h hs;exact⟨fin y (λt ht=>ee.2 (.inr ht)) g1 (λR Q a w e h=>wpIn_cond e h),k1⟩
   |_=>rw[hc]at h;cases h
  |block id b=>
   simp only[iP]at h;split at h
   ·rename_i r1 h1;injection h with h;subst h;exact YN h1 hs
   ·cases hb:iP n b fr M next rs with
    |none=>rw[hb]at h;cases h
    |some r1=>
     rw[hb]at h;dsimp only at h;cases hex:r1.ex with
     |normal=>
      rw[hex]at h;injection h with h;subst h;obtain⟨g1,k1⟩:=wP b fr M next rs r1 hb hs;have:=bT (id:=id) g1;rw[show r1.out.ex=Ex.normal from hex]at this;refine⟨?_,k1⟩;have e:r1.out=⟨.normal,r1.fr,r1.M,r1.next⟩:=by unfold jL.out;rw[hex]
      rw[e];exact this
     |ret=>
      rw[hex]at h;injection h with h;subst h;obtain⟨g1,k1⟩:=wP b fr M next rs r1 hb hs;have:=bT (id:=id) g1;rw[show r1.out.ex=Ex.ret from hex]at this;refine⟨?_,k1⟩;have e:r1.out=⟨.ret,r1.fr,r1.M,r1.next⟩:=by unfold jL.out;rw[hex]
      rw[e];exact this
     |exit k=>
      rw[hex]at h;injection h with h;subst h;obtain⟨g1,k1⟩:=wP b fr M next rs r1 hb hs;have:=bT (id:=id) g1;rw[show r1.out.ex=Ex.exit k from hex]at this;exact⟨this,k1⟩
  |loop b=>
   obtain⟨k1,g1⟩:=loop b fr M next rs r h hs;exact⟨λR ι cc a w Q hf hm ha hu hQ=>RO (n+1) (g1 R ι cc a w Q hf hm ha hu hQ),k1⟩
  |_=>simp[iP]at h
end
section
variable{P:Program}{B:aa}{N:Nat}
theorem YQ{ι:Map}{fr RQ:aW}{a:Act}(hf:fh B ι (bI fr) N a)(h:∀ p∈RQ,bI fr p.1=p.2):fh B ι (bI RQ) N a:=by
 refine⟨hf.defers,hf.size,λt=>?_⟩;induction RQ with
 |nil=>exact .inl rfl
 |cons p l ih=>
  obtain⟨s,v⟩:=p;by_cases bL:s=t
  ·subst bL;have this:bI fr s=v:=h _ (aV ..);have e:bI ((s,v)::l) s=v:=by simp[bI]
   rw[e,<-this];exact hf.slot s
  ·have e:bI ((s,v)::l) t=bI l t:=by show(if Nat.beq s t then _ else _)=_;rw[nY bL];rfl
   rw[e];exact ih λp hp=>h p (bF _ hp)
theorem ag.to{c:Code}{fr:aW}{M:aH}{next:Nat}{r1 r2:l5}(h:ag P B N c fr M next r1)(hex:r1.ex=r2.ex)(mF:∀ p∈r2.fr,bI r1.fr p.1=p.2)
  (hM:∀ p∈r2.M,ah r1.M p.1=some p.2) (hn:r1.next<=r2.next):ag P B N c fr M next r2:=by
 intro R ι cc a w Q hf hm ha hu hQ;refine h R ι cc a w Q hf hm ha hu λbO gk a1 w1 jq iH cX eC dP hY jM=>?_;rw[hex];exact hQ bO gk a1 w1 jq (YQ iH mF) cX (λk x hk=>eC k x (hM _ (j0 hk))) (λk hk=>dP k (de hn hk)) hY jM
theorem jN:∀{l m:aH},keys l=keys m->∀ k,(ah l k=none↔ah m k=none)
 |[],[],_,k=>Iff.rfl
 |[],_::_,h,k=>by cases h
 |_::_,[],h,k=>by cases h
 |(i,x)::l,(j,y)::m,h,k=>by
  injection h with h1 h2;dsimp only at h1;subst h1;show(if Nat.beq i k then some x else ah l k)=none↔(if Nat.beq i k then some y else ah m k)=none;cases Nat.beq i k
  ·exact jN h2 k
  ·simp
theorem cd{b:Code}{next:Nat}{r:l5}(n:Nat)(I:Nat->aW)(J:Nat->aH)(jO:∀ i k,i<=n->(ah (J i) k=none↔ah (J 0) k=none))
  (body:∀ i,i<n->ag P B N b (I i) (J i) next ⟨.normal,I (i+1),J (i+1),next⟩) (last:ag P B N b (I n) (J n) next r) (hr:r.ex≠.normal):ag P B N (.loop b) (I 0) (J 0) next r:=by
 intro R ι cc a w Q hf hm ha hu hQ;refine RO (n+1) ?_;have key:∀ d i,i+d=n->∀(bO:Map) (gk:Nat->Option Obj) (a1:Act) (w1:World),Map.le ι bO->fh B bO (bI (I i)) N a1->aQ B bO gk w1->cT gk (J i)->eG gk next->(∀ k,k<next->ah (J 0) k=none->gk k=cc k)->
   (∀ t,uo (.loop b) t=false->a1.tmps.getD t undef=a.tmps.getD t undef)->Code.roundsIn (FW R) 0 P b Q (d+1) a1 w1:=by
  intro d;induction d with
  |zero=>
   intro i hi bO gk a1 w1 jq iH cX eC dP hY jM;have:i=n:=by omega
   subst this;rw[Et];refine last R bO gk a1 w1 _ iH cX eC dP λdG ry a2 w2 kV jl dB gZ fv fE rz=>?_;have:=hQ dG ry a2 w2 (jq.trans kV) jl dB gZ fv (λk hk h0=>(fE k hk ((jO i k (bj _)).2 h0)).trans (hY k hk h0)) λt ht=>(rz t ht).trans (jM t ht);show Exit.then _ Q r.ex.AG a2 w2;cases hx:r.ex with
   |normal=>exact absurd hx hr
   |exit id=>rw[hx]at this;exact this
   |ret=>rw[hx]at this;exact this
  |succ d ih=>
   intro i hi bO gk a1 w1 jq iH cX eC dP hY jM;rw[Et];refine body i o_ R bO gk a1 w1 _ iH cX eC dP λdG ry a2 w2 kV jl dB gZ fv fE rz=>?_;exact ih (i+1) o_ dG ry a2 w2 (jq.trans kV) jl dB gZ fv (λk hk h0=>(fE k hk ((jO i k o_).2 h0)).trans (hY k hk h0)) λt ht=>(rz t ht).trans (jM t ht)
 exact key n 0 o_ ι cc a w (Map.le.refl _) hf hm ha hu (λ_ _ _=>rfl) λ_ _=>rfl
theorem Jo{ι:Map}:∀{v v1 v2:Value},aG ι v v1->aG ι v v2->v1=v2:=by
 intro v v1 v2 h;revert v2;apply aG.rec (motive_1:=λv v1 _=>∀ v2,aG ι v v2->v1=v2) (motive_2:=λl l1 _=>∀ l2,bK (aG ι) l l2->l1=l2) (t:=h)
 case same=>intro v hf v2 h2;exact(h2.eU hf).symm
 case ptr=>
  intro k off b o cap hk v2 h2;obtain⟨b',o',aT,h3,h4⟩:=h2.yo rfl;rw[hk]at h3;injection h3 with h3;injection h3 with h3 h5 _;subst h3;subst h5;rw[h4]
 case slc=>
  intro k off b o n c c' cap hk h1 h2 v2 h3;rcases h3.gV rfl with ⟨h4,_⟩|⟨b',o',aT,c2,h4,_,h6,h7⟩
  ·rw[hk]at h4;cases h4
  ·rw[hk]at h4;injection h4 with h4;injection h4 with h4 h5 h8;subst h4;subst h5;subst h8;rw[h7,show c'=c2 by omega]
 case slcN=>
  intro k hk v2 h3;rcases h3.gV rfl with ⟨_,_,_,_,h4⟩|⟨b',o',aT,c2,h4,_⟩
  ·exact h4.symm
  ·rw[hk]at h4;cases h4
 case opq=>
  intro k v hk h1 h2 v2 h3;cases h3 with
  |same hf=>simp[flat,qj,nS,lR,mA]at hf
  |opq gD _ _=>rw[hk]at gD;injection gD with gD;injection gD
 case fn=>
  intro f fi j9 ca eZ _ _ RR RS v2 h3;obtain⟨fi2,YR,e,h4,h5⟩:=h3.B8;rw[e,RR _ h4,RS _ h5]
 case agg=>
  intro cs bC _ ih v2 h3;obtain⟨cs2,e,h4⟩:=h3.I4;rw[e,ih _ h4]
 case tup=>
  intro cs bC _ ih v2 h3;obtain⟨cs2,e,h4⟩:=h3.ug;rw[e,ih _ h4]
 case nil=>intro l2 h2;cases h2;rfl
 case cons=>
  intro a b l m _ _ RR RS l2 h2;cases h2 with
  |cons h3 h4=>rw[RR _ h3,RS _ h4]
theorem Ev{ι:Map}:∀{l l1 l2:aj},bK (aG ι) l l1->bK (aG ι) l l2->l1=l2
 |_,_,_,.nil,h=>by cases h;rfl
 |_,_,_,.cons h t,h2=>by cases h2 with|cons h3 t3=>rw[Jo h h3,Ev t t3]
def GA(m:Nat)(a:Addr):Bool:=mA a||Nat.blt a.block m
def Ck(m:Nat):Value->Bool
 |.pointer (some a)=>GA m a
 |.slice (some a) _ _=>GA m a
 |.agg _=>false
 |.tuple _=>false
 |.func _ _ _=>false
 |_=>true
def Cm(m:Nat):Value->Bool
 |.func _ fi ca=>fi.toList.all (Ck m)&&ca.toList.all (Ck m)
 |v=>Ck m v
def Ew(m:Nat):Value->Bool
 |.agg cs=>cs.toList.all (Cm m)
 |v=>Cm m v
def nw(m:Nat):Value->Bool
 |.tuple vs=>vs.toList.all (Ew m)
 |v=>Ew m v
theorem MA{m:Nat}{v:Value}(h:lR v=true):Ck m v=true:=by
 cases v with
 |pointer a=>cases a with
  |none=>rfl
  |some a=>show(mA a||_)=true;rw[show mA a=true from h];rfl
 |slice a n c=>cases a with
  |none=>rfl
  |some a=>show(mA a||_)=true;rw[show mA a=true from h];rfl
 |_=>exact h
theorem MB{m:Nat}{v:Value}(h:nS v=true):Cm m v=true:=by
 cases v with
 |func f fi ca=>
  simp only[nS,da,bh]at h;simp only[Cm,da,bh];exact⟨λc hc=>MA (h.1 c hc),λc hc=>MA (h.2 c hc)⟩
 |pointer a=>exact MA (v:=.pointer a) h
 |slice a n c=>exact MA (v:=.slice a n c) h
 |_=>first|rfl|exact h
theorem Jp{m:Nat}{v:Value}(h:qj v=true):Ew m v=true:=by
 cases v with
 |agg cs=>
  simp only[qj,bh]at h;simp only[Ew,bh];exact λc hc=>MB (h c hc)
 |pointer a=>exact MB (v:=.pointer a) h
 |slice a n c=>exact MB (v:=.slice a n c) h
 |func f fi ca=>exact MB (v:=.func f fi ca) h
 |_=>first|rfl|exact h
theorem iI{m:Nat}{v:Value}(h:flat v=true):nw m v=true:=by
 cases v with
 |tuple cs=>
  simp only[flat,bh]at h;simp only[nw,bh];exact λc hc=>Jp (h c hc)
 |pointer a=>exact Jp (v:=.pointer a) h
 |slice a n c=>exact Jp (v:=.slice a n c) h
 |func f fi ca=>exact Jp (v:=.func f fi ca) h
 |agg cs=>exact Jp (v:=.agg cs) h
 |_=>first|rfl|exact h
theorem aG.low{ι κ:Map}{m:Nat}(rE:∀ k,k<m->∀ l,ι k=some l->κ k=some l){v v':Value}(h:aG ι v v')(hb:nw m v=true):aG κ v v':=by
 have addr:∀(a:Addr) (s:Nat),a.spot=some s->GA m a=true->a.block<m:=by intro a s hs h;unfold GA mA at h;rw[hs]at h;simpa[AK]using h
 have hP:∀ v v',aG ι v v'->Ck m v=true->aG κ v v':=by
  intro v v' h hb;cases h with
  |same hf=>exact .same hf
  |ptr hk=>exact .ptr (rE _ (addr _ 7 rfl hb) _ hk)
  |slc hk h1 h2=>exact .slc (rE _ (addr _ 7 rfl hb) _ hk) h1 h2
  |slcN hk=>exact .slcN (rE _ (addr _ 7 rfl hb) _ hk)
  |opq hk h1 h2=>exact .opq (rE _ (addr _ 9 rfl hb) _ hk) h1 h2
  |_=>simp[Ck]at hb
 have uf:∀(Q:Value->Bool),(∀ v v',aG ι v v'->Q v=true->aG κ v v')->∀ l l',bK (aG ι) l l'->(∀ c∈l,Q c=true)->bK (aG κ) l l':=by
  intro Q hQ l l' h;induction h with
  |nil=>intro _;exact .nil
  |cons h t ih=>
   intro hl;exact .cons (hQ _ _ h (hl _ (aV ..))) (ih λc hc=>hl c (bF _ hc))
 have h0:∀ v v',aG ι v v'->Cm m v=true->aG κ v v':=by
  intro v v' h hb;cases h with
  |fn h1 h2=>
   simp only[Cm,da,bh]at hb;exact .fn (uf _ hP _ _ h1 hb.1) (uf _ hP _ _ h2 hb.2)
  |same hf=>exact .same hf
  |ptr hk=>exact hP _ _ (.ptr hk) hb
  |slc hk h1 h2=>exact hP _ _ (.slc hk h1 h2) hb
  |slcN hk=>exact hP _ _ (.slcN hk) hb
  |opq hk h1 h2=>exact hP _ _ (.opq hk h1 h2) hb
  |_=>simp[Cm,Ck]at hb
 have h1:∀ v v',aG ι v v'->Ew m v=true->aG κ v v':=by
  intro v v' h hb;cases h with
  |agg h1=>
   simp only[Ew,bh]at hb;exact .agg (uf _ h0 _ _ h1 hb)
  |same hf=>exact .same hf
  |ptr hk=>exact h0 _ _ (.ptr hk) hb
  |slc hk h1 h2=>exact h0 _ _ (.slc hk h1 h2) hb
  |slcN hk=>exact h0 _ _ (.slcN hk) hb
  |opq hk h1 h2=>exact h0 _ _ (.opq hk h1 h2) hb
  |fn h1 h2=>exact h0 _ _ (.fn h1 h2) hb
  |_=>simp[Ew,Cm,Ck]at hb
 cases h with
 |tup h2=>
  simp only[nw,bh]at hb;exact .tup (uf _ h1 _ _ h2 hb)
 |same hf=>exact .same hf
 |ptr hk=>exact h1 _ _ (.ptr hk) hb
 |slc hk q1 q2=>exact h1 _ _ (.slc hk q1 q2) hb
 |slcN hk=>exact h1 _ _ (.slcN hk) hb
 |opq hk q1 q2=>exact h1 _ _ (.opq hk q1 q2) hb
 |fn q1 q2=>exact h1 _ _ (.fn q1 q2) hb
 |agg q1=>exact h1 _ _ (.agg q1) hb
def fN(m:Nat)(x:Obj):Prop:=∀ v∈x.cells,nw m v=true
theorem ju.below{ι κ:Map}{m:Nat}(rE:∀ k,k<m->∀ l,ι k=some l->κ k=some l){w:World}{l:oY}{x:Obj}(h:ju ι w l x)(hb:fN m x):ju κ w l x:=by
 have uf:∀{l l':aj},bK (aG ι) l l'->(∀ c∈l,nw m c=true)->bK (aG κ) l l':=by
  intro l l' h hl;induction h with
  |nil=>exact .nil
  |cons h t ih=>exact .cons (h.low rE (hl _ (aV ..))) (ih λc hc=>hl c (bF _ hc))
 cases x with
 |aI cells ty=>obtain⟨b,bC,h1,h2,h3⟩:=h;exact⟨b,bC,h1,uf h2 hb,h3⟩
 |row cells ty size=>
  rcases h with h|⟨b,cap,cur,h1,h2,h3,h4,h5⟩
  ·exact .inl h
  ·exact .inr ⟨b,cap,cur,h1,h2,h3,h4,uf h5 hb⟩
 |view cells=>
  rcases h with h|⟨b,o,cap,bC,h1,h2,h3⟩
  ·exact .inl h
  ·exact .inr ⟨b,o,cap,bC,h1,uf h2 hb,h3⟩
 |fact F=>exact h
 |dead=>trivial
theorem ag.reset{c:Code}{fr:aW}{M:aH}{next:Nat}{r1 r2:l5}(h:ag P B N c fr M next r1)(hex:r1.ex=r2.ex)(mF:∀ p∈r2.fr,bI r1.fr p.1=p.2)(MC:∀ p∈r2.fr,nw next p.2=true)
  (hM:∀ p∈r2.M,ah r1.M p.1=some p.2) (RT:∀ p∈r2.M,fN next p.2) (MD:∀ p∈r2.M,p.1<next) (hn:next<=r2.next):ag P B N c fr M next r2:=by
 intro R ι cc a w Q hf hm ha hu hQ;refine h R ι cc a w Q hf hm ha hu λbO gk a1 w1 jq iH cX eC dP hY jM=>?_;rw[hex];have rE:∀ k,k<next->∀ l,bO k=some l->(λk=>if k<next then bO k else none) k=some l:=λk hk l e=>by simp[hk,e]
 have AP:∀ k l,(λk=>if k<next then bO k else none) k=some l->k<next/\bO k=some l:=λk l e=>by
  dsimp only at e;split at e
  ·rename_i hk;exact⟨hk,e⟩
  ·cases e
 generalize (λk=>if k<next then bO k else none)=κ at rE AP;have hle:Map.le ι κ:=λk l e=>by
  have hk:k<next:=by
   rcases eF k next with h|h
   ·exact h
   ·rw[hm.dr k (hu k h)]at e;cases e
  exact rE k hk l (jq k l e)
 -- what is kept: what YS not looked at,and what is known;the rest is dead
 have aHe:∃ c2:Nat->Option Obj,(∀ k,c2 k=none↔(next<=k\/gk k=none))/\(∀ k x,c2 k=some x->x=.dead\/(gk k=some x/\((ah M k=none)\/ah r2.M k=some x)))/\(∀ k x,ah r2.M k=some x->c2 k=some x)/\(∀ k,k<next->ah M k=none->ah r2.M k=none->c2 k=gk k):=by
  refine⟨λk=>if k<next then(match gk k with|none=>none|some x=>match ah r2.M k with|some y=>some y|none=>match ah M k with|none=>some x|some _=>some .dead)else none,?_,?_,?_,?_⟩
  ·intro k;dsimp only;by_cases hk:k<next
   ·rw[aw hk];cases hc:gk k with
    |none=>simp
    |some x=>cases h2:ah r2.M k<;>cases h3:ah M k<;>simp<;>omega
   ·rw[ao hk];simp;left;omega
  ·intro k x hx;dsimp only at hx;split at hx
   ·cases hc:gk k with
    |none=>rw[hc]at hx;cases hx
    |some y=>
     rw[hc]at hx;dsimp only at hx;cases h2:ah r2.M k with
     |some z=>
      rw[h2]at hx;injection hx with hx;subst hx;have:=eC k z (hM _ (j0 h2));rw[hc]at this;exact .inr ⟨this,.inr rfl⟩
     |none=>
      rw[h2]at hx;dsimp only at hx;cases h3:ah M k with
      |none=>rw[h3]at hx;injection hx with hx;subst hx;exact .inr ⟨rfl,.inl rfl⟩
      |some z=>rw[h3]at hx;injection hx with hx;exact .inl hx.symm
   ·cases hx
  ·intro k x hx;have h1:=eC k x (hM _ (j0 hx));have h2:=MD _ (j0 hx);dsimp only at h2 ⊢;rw[aw h2,h1];dsimp only;rw[hx]
  ·intro k hk h1 h2;dsimp only;rw[aw hk];cases hc:gk k with
   |none=>rfl
   |some x=>rw[h2,h1]
 obtain⟨c2,d1,d2,d3,d4⟩:=aHe;have Ey:∀ k x,c2 k=some x->x.owns=true->gk k=some x:=λk x hk hx=>by
  rcases d2 k x hk with rfl|⟨h1,_⟩
  ·cases hx
  ·exact h1
 have dB:aQ B κ c2 w1:=by
  refine⟨cX.base,?_,?_,?_,?_,?_,?_,?_,?_,hm.oz.trans hle⟩
  ·intro k hk;cases aHf:κ k with
   |none=>rfl
   |some l=>
    obtain⟨q1,q2⟩:=AP k l aHf;rcases(d1 k).1 hk with q|q
    ·omega
    ·rw[cX.dr k q]at q2;cases q2
  ·intro k x hk;have mG:k<next:=by
    rcases eF k next with h|h
    ·exact h
    ·rw[(d1 k).2 (.inl h)]at hk;cases hk
   have gj:∃ y,gk k=some y:=by
    cases hc:gk k with
    |some y=>exact⟨y,rfl⟩
    |none=>rw[(d1 k).2 (.inr hc)]at hk;cases hk
   obtain⟨y,hy⟩:=gj;obtain⟨l,q1,q2⟩:=cX.born k y hy;refine⟨l,rE k mG l q1,?_⟩;rcases d2 k x hk with rfl|⟨h1,h2⟩
   ·trivial
   ·rw[hy]at h1;injection h1 with h1;subst h1;rcases h2 with h2|h2
    ·-- as it YS
     have e0:cc k=some y:=(hY k mG h2).symm.trans hy;obtain⟨l0,p1,p2⟩:=hm.born k y e0;have p3:=jq k l0 p1;rw[q1]at p3;injection p3 with p3;subst p3;cases y with
     |aI cells ty=>
      obtain⟨b,bC,e1,e2,e3⟩:=q2;obtain⟨b0,YT,f1,f2,f3⟩:=p2;rw[e1]at f1;injection f1 with f1 _ _;subst f1;have:bC=YT:=Ev e2 (nT jq f2);subst this;exact⟨b,bC,e1,nT hle f2,e3⟩
     |row cells ty size=>
      rcases q2 with q2|⟨b,cap,cur,e1,e2,e3,e4,e5⟩
      ·exact .inl q2
      ·rcases p2 with p2|⟨b0,aHg,aUx,f1,f2,f3,f4,f5⟩
       ·rw[e1]at p2;cases p2.1
       ·have:=Ev e5 (nT jq f5);exact .inr ⟨b,cap,cur,e1,e2,e3,e4,by rw[this];exact nT hle f5⟩
     |view cells=>
      rcases q2 with q2|⟨b,o,cap,bC,e1,e2,e3⟩
      ·exact .inl q2
      ·rcases p2 with p2|⟨b0,o0,aHg,YT,f1,f2,f3⟩
       ·rw[e1]at p2;cases p2.1
       ·have:=Ev e2 (nT jq f2);subst this;exact .inr ⟨b,o,cap,bC,e1,nT hle f2,e3⟩
     |fact F=>exact q2
     |dead=>trivial
    ·exact q2.below rE (RT _ (j0 h2))
  ·intro k x b o cap hk hx hl;exact cX.own k x b o cap (Ey k x hk hx) hx (AP k _ hl).2
  ·intro i j x y b o1 c1 o3 c3 hi hx hj hy hl ch;exact cX.inj i j x y b o1 c1 o3 c3 (Ey i x hi hx) hx (Ey j y hj hy) hy (AP i _ hl).2 (AP j _ ch).2
  ·intro i j x F b o cap v hi hx hl hj hv;have il:gk j=some (.fact F):=by
    rcases d2 j _ hj with h|⟨h,_⟩
    ·cases h
    ·exact h
   exact cX.apart i j x F b o cap v (Ey i x hi hx) hx (AP i _ hl).2 il (AP j _ hv).2
  ·intro k x b o cap hk hx hl;have aHh:gk k=some x:=by
    rcases d2 k x hk with rfl|⟨h1,_⟩
    ·cases hx
    ·exact h1
   obtain⟨q1,q2⟩:=cX.seen k x b o cap aHh hx (AP k _ hl).2;exact⟨q1,λj y o' aT hj hy hm=>q2 j y o' aT (Ey j y hj hy) hy (AP j _ hm).2⟩
  ·intro j F hj;rcases d2 j _ hj with h|⟨h,_⟩
   ·cases h
   ·exact cX.fa j F h
  ·intro i j F F' hi hj;rcases d2 i _ hi with h|⟨h,_⟩
   ·cases h
   ·rcases d2 j _ hj with h'|⟨h',_⟩
    ·cases h'
    ·exact cX.one i j F F' h h'
 refine hQ κ c2 a1 w1 hle ⟨iH.defers,iH.size,λt=>?_⟩ dB (λk x hk=>d3 k x hk) (λk hk=>(d1 k).2 (.inl (de hn hk))) (λk hk h1=>?_) jM
 ·have hs:=(YQ iH mF).slot t;have:∀(l:aW),(∀ p∈l,nw next p.2=true)->nq bO (bI l t) (a1.tmps.getD t undef)->nq κ (bI l t) (a1.tmps.getD t undef):=by
   intro l;induction l with
   |nil=>intro _ _;exact .inl rfl
   |cons p l ih=>
    intro hl hc;obtain⟨s,v⟩:=p;by_cases bL:s=t
    ·subst bL;have e:bI ((s,v)::l) s=v:=by simp[bI]
     rw[e]at hc ⊢;exact hc.imp id λhc=>hc.low rE (hl _ (aV ..))
    ·have e:bI ((s,v)::l) t=bI l t:=by show(if Nat.beq s t then _ else _)=_;rw[nY bL];rfl
     rw[e]at hc ⊢;exact ih (λp hp=>hl p (bF _ hp)) hc
  exact this r2.fr MC hs
 ·cases h2:ah r2.M k with
  |none=>rw[d4 k hk h1 h2,hY k hk h1]
  |some x=>rw[d3 k x h2,<-hY k hk h1];exact(eC k x (hM _ (j0 h2))).symm
end
section
variable{P:Program}{B:aa}{N:Nat}
def ME(P:Program)(fr:aW)(M:aH):ResultVar->Option Value
 |.tmp t=>if lS (bI fr t)then none else some (bI fr t)
 |.cell t ty=>match bI fr t with
  |.pointer (some ad)=>if nk ad then(match ah M ad.block with|some x=>if x.reads then du P ty x.cells ad.off else none|none=>none)else none
  |_=>none
def Jq(P:Program)(fr:aW)(M:aH):List ResultVar->Option aj
 |[]=>some []
 |r::l=>match ME P fr M r with
  |some v=>match Jq P fr M l with|some vs=>some (v::vs)|none=>none
  |none=>none
def AQ(P:Program)(fn:Func)(fr:aW)(M:aH):Option Value:=
 match Jq P fr M fn.results.toList with
 |some [v]=>some v
 |some vs=>some (.tuple vs.toArray)
 |none=>none
def rv(tmps:Array Value):ResultVar->Sem Value
 |.tmp t=>pure (tmps.getD t undef)
 |.cell x t=>do loadVar t (<-asAddr (tmps.getD x undef))
theorem aHi{ι:Map}{cc:Nat->Option Obj}{fr:aW}{M:aH}{a:Act}{w:World}(hf:fh B ι (bI fr) N a)(hm:aQ B ι cc w)(ha:cT cc M){r:ResultVar}{v:Value}
  (h:ME P fr M r=some v):∃ v',aG ι v v'/\(rv a.tmps r).run P w=.ok v' w:=by
 cases r with
 |tmp t=>
  unfold ME at h;dsimp only at h;split at h
  ·cases h
  ·rename_i hn;injection h with h;subst h;exact⟨_,(hf.slot t).Aw (by simpa using hn),rfl⟩
 |cell t ty=>
  unfold ME at h;dsimp only at h;split at h
  ·rename_i ad hx;split at h
   ·rename_i dL;split at h
    ·rename_i x hblk;split at h
     ·rename_i hrd;have hc:=hf.slot t;rw[hx]at hc;have hc:=hc.Aw rfl;rw[Cd dL]at hc;obtain⟨v',a',he,sV,pH⟩:=XU hm (ha _ _ hblk) hrd h hc;refine⟨v',sV,?_⟩;unfold rv;dsimp only;rw[he];simp[asAddr,pH]
     ·cases h
    ·cases h
   ·cases h
  ·cases h
theorem YU{ι:Map}{cc:Nat->Option Obj}{fr:aW}{M:aH}{a:Act}{w:World}(hf:fh B ι (bI fr) N a)(hm:aQ B ι cc w)(ha:cT cc M):∀(l:List ResultVar) {vs:aj},
  Jq P fr M l=some vs->∃ cM,bK (aG ι) vs cM/\(l.mapM (rv a.tmps)).run P w=.ok cM w
 |[],vs,h=>by injection h with h;subst h;exact⟨[],.nil,rfl⟩
 |r::l,vs,h=>by
  unfold Jq at h;split at h
  ·rename_i v hv;split at h
   ·rename_i vs1 aO;injection h with h;subst h;obtain⟨v',hc,pH⟩:=aHi hf hm ha hv;obtain⟨cM,fV,aHj⟩:=YU hf hm ha l aO;refine⟨v'::cM,.cons hc fV,?_⟩;rw[Jr,I9,pH,Result.andThen_ok,I9,aHj,Result.andThen_ok];rfl
   ·cases h
  ·cases h
theorem MF{ι:Map}{cc:Nat->Option Obj}{fn:Func}{fr:aW}{M:aH}{a:Act}{w:World}(hf:fh B ι (bI fr) N a)(hm:aQ B ι cc w)(ha:cT cc M){v:Value}
  (h:AQ P fn fr M=some v):∃ v',aG ι v v'/\(results fn a.tmps).run P w=.ok v' w:=by
 unfold AQ at h;cases hr:Jq P fr M fn.results.toList with
 |none=>rw[hr]at h;cases h
 |some vs=>
  obtain⟨cM,fV,pH⟩:=YU hf hm ha _ hr;have e:(results fn a.tmps).run P w=.ok (if h:cM.toArray.size=1 then cM.toArray[0]else .tuple cM.toArray) w:=by
   have e0:results fn a.tmps=(do let vs <-fn.results.mapM (rv a.tmps);pure (if h:vs.size=1 then vs[0]else .tuple vs)):=by
    unfold results
    congr 1
   rw[e0];rw[Array.mapM_eq_mapM_toList,I9,Sem.run_map,pH];rfl
  rw[e];rw[hr]at h;cases fV with
  |nil=>injection h with h;subst h;exact⟨_,.same rfl,by simp⟩
  |cons h1 t1=>
   cases t1 with
   |nil=>injection h with h;subst h;exact⟨_,h1,by simp⟩
   |cons h2 t2=>injection h with h;subst h;exact⟨_,.tup (.cons h1 (.cons h2 t2)),by simp⟩
def jA:Nat->aj->aW
 |_,[]=>[]
 |i,v::l=>(i,v)::jA (i+1) l
theorem MG{ι:Map}:∀{l l':aj},bK (aG ι) l l'->∀(i t:Nat) (tail:aj),nq ι (bI (jA i l) t) (if i<=t then(l'++tail).getD (t-i) undef else undef)\/lS (bI (jA i l) t)=true
 |_,_,.nil,i,t,tail=>.inr rfl
 |_,_,.cons (a:=v) (b:=v') (l:=l) (m:=m) h k,i,t,tail=>by
  by_cases yB:i=t
  ·subst yB;left;right;have e:bI (jA i (v::l)) i=v:=by simp[jA,bI]
   rw[e];simpa using h
  ·have e:bI (jA i (v::l)) t=bI (jA (i+1) l) t:=by show(if Nat.beq i t then _ else _)=_;rw[nY yB];rfl
   rw[e];rcases MG k (i+1) t tail with h1|h1
   ·left;by_cases ak:i+1<=t
    ·rw[aw ak]at h1;rw[aw o_];have:t-i=(t-(i+1))+1:=by omega
     rw[this];simpa using h1
    ·by_cases hle:i<=t
     ·omega
     ·rw[ao ak]at h1;rw[ao hle];exact h1
   ·exact .inr h1
theorem YV{c:Code}{Q:Exit->Act->World->Prop}{a:Act}{w:World}{n:Nat}(h:c.wpIn (FW none) n P Q a w):c.wp P Q a w:=wpIn_wide.1 h
theorem aHk{f:FuncId}{fn:Func}{c:Code}{args args':aj}{M:aH}{next:Nat}{r:l5}{v:Value}{ι:Map}{cc:Nat->Option Obj}{w:World}{Q:Ending->World->Prop}
  (hf:P.funcs[f]?=some fn) (hb:fn.body=some c) (hN:N=args.length+(fn.ntmps-args.length)) (g:ag P B N c (jA 0 args) M next r) (hex:(match r.ex with|.exit _=>false|_=>true)=true)
  (hv:AQ P fn r.fr r.M=some v) (df:bK (aG ι) args args') (hm:aQ B ι cc w) (ha:cT cc M) (hu:eG cc next)
  (hQ:∀ au bY v' w',Map.le ι au->aG au v v'->aQ B au bY w'->cT bY r.M->eG bY r.next->(∀ k,k<next->ah M k=none->bY k=cc k)->Q (.returned v') w') (mH:B.ds=[]:=by rfl):Calls P f args'.toArray w Q:=by
 refine calls_of_wp hf hb ?_;have mF:fh B ι (bI (jA 0 args)) N { tmps:=args'.toArray++Array.replicate (fn.ntmps-args'.toArray.size) undef,defers:=[]}:=by
  refine⟨mH.symm,by simp[hN,df.length],λt=>?_⟩;rcases MG df 0 t (List.replicate (fn.ntmps-args'.length) undef)with h|h
  ·simp only[kT,ql,GB]at h;have e:(args'.toArray++Array.replicate (fn.ntmps-args'.toArray.size) undef).getD t undef=(args'++List.replicate (fn.ntmps-args'.length) undef).getD t undef:=by simp[pK,Eg,<-Array.getElem?_toList]
   dsimp only;rw[e];exact h
  ·exact .inl h
 refine YV (g none ι cc _ w _ mF hm ha hu λau bY a' w' hle uz bo iQ jK gD _=>by
  obtain⟨v',hc,pH⟩:=MF (fn:=fn) uz bo iQ hv;have fin:=hQ au bY v' w' hle hc bo iQ jK gD;cases hx:r.ex with
  |normal=>exact⟨uz.defers.trans mH,v',pH,fin⟩
  |ret=>exact⟨uz.defers.trans mH,v',pH,fin⟩
  |exit id=>rw[hx]at hex;cases hex)
def fO(fn:Func)(n:Nat)(args:aj)(M:aH)(next:Nat)(rs:bA P B N):Option (Value×jL P B N):=
 match fn.body with
 |some c=>match iP n c (jA 0 args) M next rs with
  |some r=>match (match r.ex with|.exit _=>none|_=>AQ P fn r.fr r.M)with
   |some v=>some (v,r)
   |none=>none
  |none=>none
 |none=>none
def nA(o:Option (Value×jL P B N))(ms:aH):Bool×Option (Value×List (Option Obj)×List nZ):=
 match o with
 |some r=>(true,some (r.1,ms.map λp=>ah r.2.M p.1,r.2.tr.map (·.1)))
 |none=>(true,none)
def nB(o:Option (Value×jL P B N))(v:Value)(ms:aH):Bool×Option (Value×List (Option Obj)×List nZ):=
 match o with
 |some r=>(true,some (v,ms.map λp=>some p.2,r.2.tr.map (·.2)))
 |none=>(false,none)
theorem MH:∀{tr:vo},tr.map (·.1)=tr.map (·.2)->rq tr
 |[],_=>λp hp=>by cases hp
 |q::l,h=>by
  simp only[rF]at h;injection h with h1 h2;intro p hp;rcases cx.1 hp with rfl|hp
  ·exact h1
  ·exact MH h2 p hp
theorem MI{M:aH}:∀{ms:aH},(ms.map λp=>ah M p.1)=(ms.map λp=>some p.2)->∀ p∈ms,ah M p.1=some p.2
 |[],_=>λp hp=>by cases hp
 |q::l,h=>by
  simp only[rF]at h;injection h with h1 h2;intro p hp;rcases cx.1 hp with rfl|hp
  ·exact h1
  ·exact MI h2 p hp
theorem RU{f:FuncId}{fn:Func}{args args':aj}{M:aH}{next:Nat}{rs:bA P B N}{v:Value}{ms:aH}{ι:Map}{cc:Nat->Option Obj}{w:World}{Q:Ending->World->Prop}(gn:P.follows .mixedOrders=true)
  (hf:P.funcs[f]?=some fn) (hN:N=args.length+(fn.ntmps-args.length)) (n:Nat) (h:nA (fO (P:=P) fn n args M next rs) ms=nB (fO fn n args M next rs) v ms)
  (df:bK (aG ι) args args') (hm:aQ B ι cc w) (ha:cT cc M) (hu:eG cc next)
  (hQ:∀ au bY v' w',Map.le ι au->aG au v v'->aQ B au bY w'->(∀ p∈ms,bY p.1=some p.2)->(∀ k,k<next->ah M k=none->bY k=cc k)->Q (.returned v') w') (mH:B.ds=[]:=by rfl):Calls P f args'.toArray w Q:=by
 cases ho:fO (P:=P) fn n args M next rs with
 |none=>rw[ho]at h;cases h
 |some r=>
  rw[ho]at h;unfold nA nB at h;dsimp only at h;injection h with _ h;injection h with h;injection h with h1 h;injection h with h2 h3;have hs:=MH h3;have dy:=MI h2;unfold fO at ho;split at ho
  ·rename_i c hb;split at ho
   ·rename_i r' hr;split at ho
    ·rename_i v' hv;injection ho with ho;subst ho;dsimp only at h1 hs dy;subst h1;have g:=((RM (P:=P) (B:=B) (N:=N) gn n).1 c _ M next rs r' hr hs).1;have hex:(match r'.out.ex with|.exit _=>false|_=>true)=true:=by
      show(match r'.ex with|.exit _=>false|_=>true)=true;cases hx:r'.ex with
      |exit id=>rw[hx]at hv;cases hv
      |normal=>rfl
      |ret=>rfl
     have qo:AQ P fn r'.out.fr r'.out.M=some v':=by
      show AQ P fn r'.fr r'.M=some v';cases hx:r'.ex with
      |exit id=>rw[hx]at hv;cases hv
      |normal=>rw[hx]at hv;exact hv
      |ret=>rw[hx]at hv;exact hv
     exact aHk hf hb hN g hex qo df hm ha hu (λau bY v2 w' hle hc bo iQ jK gD=>hQ au bY v2 w' hle hc bo (λp hp=>iQ _ _ (dy p hp)) gD) mH
    ·cases ho
   ·cases ho
  ·cases ho
theorem rG{f:FuncId}{fn:Func}{args args':aj}{M:aH}{next:Nat}{rs:bA P B N}{v:Value}{ms:aH}{ι:Map}{cc:Nat->Option Obj}{w:World}{Q:Ending->World->Prop}(gn:P.follows .mixedOrders=true)
  (hf:P.funcs[f]?=some fn) (hN:N=args.length+(fn.ntmps-args.length)) (n:Nat) (h:nA (fO (P:=P) fn n args M next rs) ms=nB (fO fn n args M next rs) v ms)
  (df:bK (aG ι) args args') (hm:aQ B ι cc w) (ha:cT cc M) (hu:eG cc next)
  (hQ:∀ au bY v' w',Map.le ι au->aG au v v'->aQ B au bY w'->(∀ p∈ms,bY p.1=some p.2)->Q (.returned v') w') (mH:B.ds=[]:=by rfl):Calls P f args'.toArray w Q:=
 RU gn hf hN n h df hm ha hu (λau bY v' w' h1 h2 h3 h4 _=>hQ au bY v' w' h1 h2 h3 h4) mH
def Js(o:Option (jL P B N))(fr:aW)(M:aH):Bool×Option (Ex×aj×List (Option Obj)×Bool×List nZ):=
 match o with
 |some r=>(true,some (r.ex,fr.map λp=>bI r.fr p.1,M.map λp=>ah r.M p.1,true,r.tr.map (·.1)))
 |none=>(true,none)
def Jt(o:Option (jL P B N))(ex:Ex)(fr:aW)(M:aH)(next:Nat):Bool×Option (Ex×aj×List (Option Obj)×Bool×List nZ):=
 match o with
 |some r=>(true,some (ex,fr.map λp=>p.2,M.map λp=>some p.2,Nat.ble r.next next,r.tr.map (·.2)))
 |none=>(false,none)
theorem MJ{AO:aW}:∀{fr:aW},(fr.map λp=>bI AO p.1)=(fr.map λp=>p.2)->∀ p∈fr,bI AO p.1=p.2
 |[],_=>λp hp=>by cases hp
 |q::l,h=>by
  simp only[rF]at h;injection h with h1 h2;intro p hp;rcases cx.1 hp with rfl|hp
  ·exact h1
  ·exact MJ h2 p hp
theorem fj(gn:P.follows .mixedOrders=true){c:Code}{fr:aW}{M:aH}{next:Nat}(n:Nat)(rs:bA P B N){r:l5}
  (h:Js (iP n c fr M next rs) r.fr r.M=Jt (iP n c fr M next rs) r.ex r.fr r.M r.next):ag P B N c fr M next r:=by
 cases ho:iP n c fr M next rs with
 |none=>rw[ho]at h;cases h
 |some r1=>
  rw[ho]at h;unfold Js Jt at h;dsimp only at h;injection h with _ h;injection h with h;injection h with h1 h;injection h with h2 h;injection h with h3 h;injection h with h4 h5;obtain⟨g,_⟩:=(RM (P:=P) (B:=B) (N:=N) gn n).1 c fr M next rs r1 ho (MH h5);exact g.to h1 (MJ h2) (MI h3) (rl h4.symm)
theorem vu(gn:P.follows .mixedOrders=true){c:Code}{fr:aW}{M:aH}{next:Nat}(n:Nat)(rs:bA P B N){r:l5}{hZ:Nat}
  (h:Js (iP n c fr M next rs) r.fr r.M=Jt (iP n c fr M next rs) r.ex r.fr r.M hZ) (hn:r.next=next) (MC:(r.fr.all λp=>nw next p.2)=true) (RT:∀ p∈r.M,fN next p.2) (MD:(r.M.all λp=>Nat.blt p.1 next)=true) :
  ag P B N c fr M next r:=by
 cases ho:iP n c fr M next rs with
 |none=>rw[ho]at h;cases h
 |some r1=>
  rw[ho]at h;unfold Js Jt at h;dsimp only at h;injection h with _ h;injection h with h;injection h with h1 h;injection h with h2 h;injection h with h3 h;injection h with h4 h5;obtain⟨g,_⟩:=(RM (P:=P) (B:=B) (N:=N) gn n).1 c fr M next rs r1 ho (MH h5);rw[bh]at MC MD;exact g.reset h1 (MJ h2) MC (MI h3) RT (λp hp=>by simpa[AK]using MD p hp) (vj hn.symm)
def aE(P:Program)(f:FuncId)(args:aj)(res:Value):Prop:=
 ∀ w:World,Calls P f args.toArray w λe w'=>e=.returned res/\Below w.heap.size w w'
theorem qx(w:World):aQ (aa.at w) (λ_=>none) (λ_=>none) w:=
 ⟨Below.refl _ _,λ_ _=>rfl,λk x h=>(by cases h),λk x b o cap h=>(by cases h),λk j x y b o cap o' aT h=>(by cases h),λk j x F b o cap v h=>(by cases h),λk x b o cap h=>(by cases h),λj F h=>(by cases h),λj k F F' h=>(by cases h),λ_ _ h=>(by cases h)⟩
theorem gu{f:FuncId}{fn:Func}{args:aj}{v:Value}(gn:P.follows .mixedOrders=true)(hf:P.funcs[f]?=some fn)(n:Nat)(rs:∀ w,bA P (aa.at w) (args.length+(fn.ntmps-args.length)))
  (h:∀ w,nA (fO (P:=P) fn n args [] 0 (rs w)) []=nB (fO fn n args [] 0 (rs w)) v []) (df:args.all flat=true) (hv:flat v=true):aE P f args v:=by
 intro w;rw[bh]at df;exact rG gn hf rfl n (h w) (ke df) (qx w) n_ (λ_ _=>rfl) λau bY v' w' _ hc hm _=>⟨by rw[hc.eU hv],hm.base⟩
def aE.at{f:FuncId}{args:aj}{res:Value}(h:aE P f args res)(key:Nat):aY P B N:=.call key f args res λw _=>h w
end
def cK(w:World)(v:Value)(n:Nat)(xs:aj):Prop:=
 (v=.slice none 0 0/\n=0/\xs=[])\/∃ b o c',v=.slice (some ⟨b,o,none⟩) n c'/\n<=c'/\b<w.heap.size/\∀ j u,xs[j]?=some u->w.cell? ⟨b,o+j,none⟩=some u
section
variable{P:Program}{B:aa}{N:Nat}
theorem cK.gB{w w':World}{v:Value}{n:Nat}{xs:aj}(h:cK w v n xs)(hb:Below w.heap.size w w'):cK w' v n xs:=by
 rcases h with h|⟨b,o,c',h1,h2,h3,h4⟩
 ·exact .inl h
 ·exact .inr ⟨b,o,c',h1,h2,cv h3 hb.size,λj u hj=>by rw[hb.cell h3];exact h4 j u hj⟩
theorem cK.YW{w:World}{base:Nat}{ty:TypeId}{size:Nat}{v:Value}{n:Nat}{xs:aj}(h:w.ownsRow base ty size v n xs):cK w v n xs:=by
 rcases h.2 with ⟨h1,h2⟩|⟨g,cap,cur,h1,h2,h3,h4,h5,h6,h7⟩
 ·have:=h.1;rw[h2,lC]at this;exact .inl ⟨h1,h2,lv this⟩
 ·refine .inr ⟨g,0,cap,h1,h4,(yC.1 h3).1,λj u hj=>?_⟩;rw[<-h7,ui]at hj;split at hj
  ·have:cur[j]?=some u:=by simpa using hj
   simp[World.cell?,h3,this]
  ·cases hj
theorem oD{ι:Map}{c:Nat->Option Obj}{w:World}(hm:aQ B ι c w){k off n cc len:Nat}{x:Obj}{v:Value}(hk:c k=some x)(hx:x.reads=true)(cN:∀ u∈x.cells,flat u=true)
  (hlen:n=0->len=0) (hc:aG ι (.slice (some ⟨k,off,some 7⟩) n cc) v):cK w v n ((x.cells.drop off).take len):=by
 rcases hc.gV rfl with ⟨hb,kf,pJ,yu,he⟩|⟨b,oo,cap,c',hb,lq,mC,he⟩
 ·exact .inl ⟨he,kf,by rw[hlen kf];rfl⟩
 ·dsimp only at hb he;obtain⟨l,h1,h2⟩:=hm.born k x hk;rw[hb]at h1;injection h1 with h1;subst h1;obtain⟨bC,fV,lX⟩:=h2.at hx;have fV:=nr fV cN;subst fV;refine .inr ⟨b,oo+off,c',he,lq,?_,λj u hj=>?_⟩
  ·by_cases ho:x.owns=true
   ·exact(hm.own k x b oo cap hk ho hb).1
   ·have hv:x.gh=true:=by unfold Obj.reads at hx;rw[uy]at hx;exact hx.resolve_left ho
    exact(hm.seen k x b oo cap hk hv hb).1
  ·rw[ui]at hj;split at hj
   ·rw[D8]at hj;rw[uk];exact lX _ _ hj
   ·cases hj
theorem yD{ι:Map}{c:Nat->Option Obj}{w:World}(hm:aQ B ι c w){k n:Nat}{v:Value}{xs:aj}(hk:c k=none)(h:cK w v n xs)(cN:∀ u∈xs,flat u=true)
  (gE:∀ b o c',v=.slice (some ⟨b,o,none⟩) n c'->∀ j y o' aT,c j=some y->y.owns=true->ι j≠some (.at b o' aT)) :
  ∃ au,Map.le ι au/\aQ B au (ba c k (.view xs)) w/\aG au (.slice (some ⟨k,0,some 7⟩) n 0) v:=by
 rcases h with ⟨h1,h2,h3⟩|⟨b,o,c',h1,h2,h3,h4⟩
 ·subst h1;subst h2;subst h3;exact⟨dF ι k .nil,gC (hm.dr k hk),hm.add hk (.inl ⟨rfl,rfl⟩) n_ n_ n_,.slcN (fD _ _ _)⟩
 ·subst h1;refine⟨dF ι k (.at b o c'),gC (hm.dr k hk),hm.add hk (.inr ⟨b,o,c',xs,rfl,ke cN,h4⟩) n_ n_ (λb1 o1 lV _ e=>?_),.slc (off:=0) (fD _ _ _) h2 o_⟩;injection e with e1 e2 e3;subst e1;exact⟨h3,λj y o' aT hj hy=>gE b o c' rfl j y o' aT hj hy⟩
theorem Ez{ι:Map}{c:Nat->Option Obj}{w w':World}(hm:aQ B ι c w)(hb:Below w.heap.size w w'){k n size:Nat}{ty:TypeId}{v:Value}{xs:aj}(hk:c k=none)(h:w'.ownsRow w.heap.size ty size v n xs)(cN:∀ u∈xs,flat u=true):
  ∃ au,Map.le ι au/\aQ B au (ba c k (.row xs ty size)) w'/\aG au (.slice (some ⟨k,0,some 7⟩) n 0) v:=by
 have bo:=hm.call hb;rcases h.2 with ⟨h1,h2⟩|⟨g,cap,cur,h1,h2,h3,h4,h5,h6,h7⟩
 ·have hl:=h.1;rw[h2,lC]at hl;have hx:xs=[]:=lv hl;subst h1;subst h2;subst hx;exact⟨dF ι k .nil,gC (hm.dr k hk),bo.add hk (.inl ⟨rfl,rfl⟩) n_ n_ n_,.slcN (fD _ _ _)⟩
 ·subst h1;refine⟨dF ι k (.at g 0 cap),gC (hm.dr k hk),hm.new hb hk (.inr ⟨g,cap,cur,rfl,h3,h5,h6,?_⟩) (λb o cap _ e=>?_) n_ rfl,.slc (o:=0) (off:=0) (fD _ _ _) h4 o_⟩
  ·rw[h.1,h7];exact ke cN
  ·injection e with e1 e2 e3;subst e1;exact⟨h2,(yC.1 h3).1⟩
theorem YX{ι:Map}{c:Nat->Option Obj}{w w':World}(hm:aQ B ι c w)(hb:Below w.heap.size w w'){k n size:Nat}{ty:TypeId}{v:Value}{xs:aj}(hk:c k=none)(h:w'.ownsRow w.heap.size ty size v n xs)(cN:∀ u∈xs,flat u=true):
  ∃ au,Map.le ι au/\aQ B au (ba c k (.view xs)) w'/\aG au (.slice (some ⟨k,0,some 7⟩) n 0) v:=by
 refine yD (hm.call hb) hk (.YW h) cN λb o c' e j y o' aT hj hy he=>?_;have h1:=(hm.own j y b o' aT hj hy he).1;rcases h.2 with ⟨h2,_⟩|⟨g,cap,cur,h2,h3,_⟩
 ·rw[h2]at e;cases e
 ·rw[h2]at e;injection e with e1 e2;injection e1 with e1;injection e1 with e1;omega
theorem vx{w w':World}{ι:Map}{c:Nat->Option Obj}(hm:aQ (aa.at w) ι c w'){k n size:Nat}{ty:TypeId}{cells:aj}{v:Value}(hk:c k=some (.row cells ty size))(hv:aG ι (.slice (some ⟨k,0,some 7⟩) n 0) v)
  (hn:n*size<=cells.length) (cN:∀ u∈cells,flat u=true):w'.ownsRow w.heap.size ty size v n (cells.take (n*size)):=by
 have hl:(cells.take (n*size)).length=n*size:=by rw[jw];omega
 refine⟨hl,?_⟩;rcases hv.gV rfl with ⟨hb,kf,pJ,yu,he⟩|⟨b,oo,cap,c',hb,lq,mC,he⟩
 ·exact .inl ⟨he,kf⟩
 ·dsimp only at hb he;have kg:c'=cap:=by omega
  subst kg;obtain⟨l,h1,h2⟩:=hm.born k _ hk;rw[hb]at h1;injection h1 with h1;subst h1;have dL:=hm.own k _ b oo c' hk rfl hb;rcases h2 with h2|⟨b',aT,cur,e1,lY,dC,fV,iY⟩
  ·cases h2.1
  ·injection e1 with e1 e2 e3;subst e1;subst e2;subst e3;refine .inr ⟨b,c',cur,by rw[he],?_,lY,lq,dC,fV,?_⟩
   ·rcases eF b w.heap.size with h|h
    ·exact absurd h dL.2
    ·exact h
   ·have:=nr iY cN;have h3:=cI (List.take (n*size)) this;rw[Mf,nX hn]at h3;exact h3
inductive cA where
 |plain (v:Value)
 |row (v:Value) (n:Nat) (xs:aj)
def cA.real:cA->Value
 |.plain v=>v
 |.row v _ _=>v
def cA.OK(w:World):cA->Prop
 |.plain v=>flat v=true
 |.row v n xs=>cK w v n xs/\∀ u∈xs,flat u=true
def rH:Nat->List cA->aj
 |_,[]=>[]
 |k,.plain v::l=>v::rH k l
 |k,.row _ n _::l=>.slice (some ⟨k,0,some 7⟩) n 0::rH (k+1) l
def uA:Nat->List cA->aH
 |_,[]=>[]
 |k,.plain _::l=>uA k l
 |k,.row _ _ xs::l=>(k,.view xs)::uA (k+1) l
def s9:Nat->List cA->Nat
 |k,[]=>k
 |k,.plain _::l=>s9 k l
 |k,.row _ _ _::l=>s9 (k+1) l
theorem RW{w:World}:∀(l:List cA) (k:Nat) (ι:Map) (c:Nat->Option Obj),aQ B ι c w->(∀ j x,c j=some x->x.owns=false)->eG c k->(∀ s∈l,cA.OK w s)->
  ∃ au c',Map.le ι au/\aQ B au c' w/\(∀ j x,c' j=some x->x.owns=false)/\eG c' (s9 k l)/\cT c' (uA k l)/\(∀ j,j<k->c' j=c j)/\bK (aG au) (rH k l) (l.map cA.real)/\k<=s9 k l
 |[],k,ι,c,hm,ho,hu,_=>⟨ι,c,Map.le.refl _,hm,ho,hu,λk x h=>(by cases h),λ_ _=>rfl,.nil,bj _⟩
 |.plain v::l,k,ι,c,hm,ho,hu,hl=>by obtain⟨au,c',h1,h2,h3,h4,h5,h6,h7,h8⟩:=RW l k ι c hm ho hu λs hs=>hl s (bF _ hs);exact⟨au,c',h1,h2,h3,h4,h5,h6,.cons (.same (hl _ (aV ..))) h7,h8⟩
 |.row v n xs::l,k,ι,c,hm,ho,hu,hl=>by
  obtain⟨hr,cN⟩:=hl _ (aV ..);obtain⟨bO,q1,q2,q3⟩:=yD hm (hu k (bj _)) hr cN λb o c' _ j y o' aT hj hy=>by rw[ho j y hj]at hy;cases hy
  obtain⟨au,c',h1,h2,h3,h4,h5,h6,h7,h8⟩:=RW l (k+1) bO _ q2 (λj x hj=>by
   unfold ba at hj;split at hj
   ·injection hj with hj;subst hj;rfl
   ·exact ho j x hj) (λj hj=>by
   unfold ba;rw[ao o_];exact hu j o_) λs hs=>hl s (bF _ hs)
  refine⟨au,c',q1.trans h1,h2,h3,h4,λj x hj=>?_,λj hj=>?_,.cons (q3.mono h1) h7,by show k<=s9 (k+1) l;omega⟩
  ·unfold uA ah at hj;split at hj
   ·rename_i hb;injection hj with hj;subst hj;rw[<-jZ hb,h6 k o_];unfold ba;rw[aw rfl]
   ·exact h5 j x hj
  ·rw[h6 j o_];unfold ba;rw[ao o_]
theorem lD{f:FuncId}{fn:Func}{w:World}{v:Value}{ms:aH}{Q:Ending->World->Prop}(gn:P.follows .mixedOrders=true)(hf:P.funcs[f]?=some fn)(l:List cA)(hl:∀ s∈l,cA.OK w s)(n:Nat){N:Nat}(hN:N=(rH 0 l).length+(fn.ntmps-(rH 0 l).length))
  {rs:bA P (aa.at w) N}
  (h:nA (fO (P:=P) fn n (rH 0 l) (uA 0 l) (s9 0 l) rs) ms=nB (fO fn n (rH 0 l) (uA 0 l) (s9 0 l) rs) v ms)
  (hQ:∀ au bY v' w',aG au v v'->aQ (aa.at w) au bY w'->(∀ p∈ms,bY p.1=some p.2)->bK (aG au) (rH 0 l) (l.map cA.real)->Q (.returned v') w'):Calls P f (l.map cA.real).toArray w Q:=by
 obtain⟨ι,c,h1,h2,h3,h4,h5,h6,h7,h8⟩:=RW (B:=aa.at w) l 0 _ _ (qx w) n_ (λ_ _=>rfl) hl;exact rG gn hf hN n h h7 h2 h5 h4 λau bY v' w' hle hc hm dy=>hQ au bY v' w' hc hm dy (h7.imp λ_ _ _ h=>h.mono hle)
def dw:Op->Option Operand
 |.call ⟨.value x,_,_⟩=>some x
 |_=>none
theorem jB{o:Oper}{x:Operand}{f:FuncId}{fi args ca:aj}{need:List (Nat×Option Obj)}{val:Value}{cR:aH}(ho:dw o.op=some x)(eK:gi P f=true)
  (h:∀ ι c w,aQ B ι c w->(∀ p∈need,c p.1=p.2)->∀ args',bK (aG ι) (fi++args++ca) args'->Calls P f args'.toArray w λe w'=>∃ au v',e=.returned v'/\Map.le ι au/\aG au val v'/\aQ B au (lp c cR) w') :
  cB P B o (.func (.func f) fi.toArray ca.toArray::args) need val cR:=by
 intro R ι c a w hv hm hn K Q hK;obtain⟨dst,op,ty,pos,after,guard⟩:=o;dsimp only at ho hv;unfold dw at ho;split at ho
 ·rename_i x' kU wH;injection ho with ho;subst ho;have yt:(Op.operands (.call ⟨.value x',kU,wH⟩)).toList=x'::kU.toList:=by simp[Op.operands,Call.operands]
  rw[yt]at hv;cases hv with
  |cons hx rm=>
  obtain⟨j9,eZ,he,h1,h2⟩:=hx.B8;have bd:=(h1.append rm).append h2;dsimp only at bd;have e3:execOp a.eval ⟨dst,.call ⟨.value x',kU,wH⟩,ty,pos,after,guard⟩=callFunc f (j9++kU.map a.eval++eZ):=by have:execOp a.eval ⟨dst,.call ⟨.value x',kU,wH⟩,ty,pos,after,guard⟩=(do let d <-Deferred.ofValue (a.eval x') (kU.map a.eval);invoke d.target d.args):=rfl;rw[this,he];rfl
  have e4:(j9++kU.map a.eval++eZ:Array Value)=(j9.toList++List.map a.eval kU.toList++eZ.toList).toArray:=by apply Gv;simp
  refine⟨λ_ _=>trivial,?_⟩;rw[L8 _ _ _ n_,e3,e4,Mm eK,Oper.uponIn_enter];refine⟨λe=>(by cases e),Mn.2 ((h ι c w hm hn _ bd).mono ?_)⟩
  rintro e w' ⟨au,v',rfl,q1,q2,q3⟩
  exact hK au v' w' q1 q2 q3
 ·cases ho
end
def yE:Code->Nat->Option Oper
 |.region _ ops _,k=>ops.toList.find? λo=>Nat.beq (Ml o) k
 |.seq x y,k=>match yE x k with|some o=>some o|none=>yE y k
 |.cond _ x y,k=>match yE x k with|some o=>some o|none=>yE y k
 |.block _ b,k=>yE b k
 |.loop b,k=>yE b k
 |.scope b,k=>yE b k
 |.rangeFunc _ _ x y,k=>match yE x k with|some o=>some o|none=>yE y k
 |_,_=>none
def av(fn:Func)(k:Nat):Oper:=match fn.body with|some c=>(match yE c k with|some o=>o|none=>default)|none=>default
def yF:Code->Nat->Option Code
 |.seq x y,k=>match yF x k with|some o=>some o|none=>yF y k
 |.cond _ x y,k=>match yF x k with|some o=>some o|none=>yF y k
 |.block id b,k=>if Nat.beq id k then some b else yF b k
 |.loop b,k=>yF b k
 |.scope b,k=>yF b k
 |.rangeFunc _ _ x y,k=>match yF x k with|some o=>some o|none=>yF y k
 |_,_=>none
def af(fn:Func)(k:Nat):Code:=match fn.body with|some c=>(match yF c k with|some o=>o|none=>.skip)|none=>.skip
def aF(c:Code):Code:=match c with|.loop b=>b|_=>.skip
section
variable{P:Program}{B:aa}{N:Nat}
def vI(n:Nat):Value:=.int .i64 n
def aY.sum(key i j s:Nat)(h:s=i+j)(hs:s<9223372036854775808):aY P B N:=
 .rw key (.int .i64 (IntKind.i64.wrap ((i:Int)+(j:Int)))) (vI s) (by
  have e:IntKind.i64.wrap ((i:Int)+(j:Int))=(s:Int):=by rw[c8];omega
  rw[e];rfl)
def aY.eX(key i j s:Nat)(h:i=s+j)(hs:i<9223372036854775808):aY P B N:=
 .rw key (.int .i64 (IntKind.i64.wrap ((i:Int)-(j:Int)))) (vI s) (by
  have e:IntKind.i64.wrap ((i:Int)-(j:Int))=(s:Int):=by rw[c8];omega
  rw[e];rfl)
def aY.lt(key i n:Nat)(b:Bool)(h:decide (i<n)=b):aY P B N:=
 .rw key (.bool (decide ((i:Int)<(n:Int)))) (.bool b) (by rw[<-h];congr 1;rw[rI];omega)
def aY.gt(key i n:Nat)(b:Bool)(h:decide (n<i)=b):aY P B N:=
 .rw key (.bool (decide ((i:Int)>(n:Int)))) (.bool b) (by rw[<-h];congr 1;rw[rI];omega)
def aY.ge(key i n:Nat)(b:Bool)(h:decide (n<=i)=b):aY P B N:=
 .rw key (.bool (decide ((i:Int)>=(n:Int)))) (.bool b) (by rw[<-h];congr 1;rw[rI];omega)
def aY.fk(key i n:Nat)(b:Bool)(h:decide (i=n)=b):aY P B N:=
 .rw key (.bool ((i:Int)==(n:Int))) (.bool b) (by
  rw[<-h];congr 1
  by_cases hi:i=n
  ·subst hi;simp
  ·have:¬((i:Int)=(n:Int)):=by omega
   rw[aN hi];simpa using this)
def aY.wr(key:Nat)(k:IntKind)(m m':Int)(h:k.wrap m=m'):aY P B N:=.rw key (.int k (k.wrap m)) (.int k m') (by rw[h])
def aY.quo(key:Nat)(k:IntKind)(m m':Int)(h:m=m'):aY P B N:=.rw key (.int k m) (.int k m') (by rw[h])
def AR(P:Program)(o:Oper):Option Nat:=match o.op with
 |.indexAddr t _ _=>match P.underlying t with|some (.slice e)=>(match P.info? e with|some i=>some i.size|none=>none)|_=>none
 |_=>none
theorem MK{o:Oper}{s:Nat}(ho:AR P o=some s){k off n cc i:Nat}{kd:IntKind}(hi:i<n):
  cB P B o [.slice (some ⟨k,off,some 7⟩) n cc,.int kd i] [] (.pointer (some ⟨k,off+i*s,some 7⟩)) []:=by
 unfold AR at ho;split at ho
 ·rename_i t x y bP;split at ho
  ·rename_i e ht;split at ho
   ·rename_i inf Ea;injection ho with ho;have:=X1 (P:=P) (B:=B) bP ht Ea (kd:=kd) (n:=(i:Int)) (len:=n) (cc:=cc) o_ o_ k off;rw[Int.toNat_natCast,ho]at this;exact this.step
   ·cases ho
  ·cases ho
 ·cases ho
def aY.ix(fn:Func)(key k n i:Nat)(hi:i<n)(ho:AR P (av fn key)=some 1):aY P B N:=
 .step key (av fn key) [.slice (some ⟨k,0,some 7⟩) n 0,vI i] [] (.pointer (some ⟨k,i,some 7⟩)) [] (by have:=MK (B:=B) ho (k:=k) (off:=0) (cc:=0) (kd:=.i64) hi;rw[jY,fX]at this;exact this)
def aY.wQ(fn:Func)(key k off n cc i:Nat)(hi:i<n)(ho:AR P (av fn key)=some 1):aY P B N:=
 .step key (av fn key) [.slice (some ⟨k,off,some 7⟩) n cc,vI i] [] (.pointer (some ⟨k,off+i,some 7⟩)) [] (by have:=MK (B:=B) ho (k:=k) (off:=off) (cc:=cc) (kd:=.i64) hi;rw[fX]at this;exact this)
def aY.cY(fn:Func)(key k n i s:Nat)(hi:i<n)(ho:AR P (av fn key)=some s):aY P B N:=
 .step key (av fn key) [.slice (some ⟨k,0,some 7⟩) n 0,vI i] [] (.pointer (some ⟨k,i*s,some 7⟩)) [] (by have:=MK (B:=B) ho (k:=k) (off:=0) (cc:=0) (kd:=.i64) hi;rw[jY]at this;exact this)
def RX(o:Oper):Option TypeId:=match o.op with|.load t _=>some t|_=>none
theorem aHl{o:Oper}{t:TypeId}(ho:RX o=some t){k off:Nat}{x:Obj}{v:Value}(hx:x.reads=true)(hv:du P t x.cells off=some v):cB P B o [.pointer (some ⟨k,off,some 7⟩)] [(k,some x)] v []:=by
 unfold RX at ho;split at ho
 ·rename_i t' y bP;injection ho with ho;subst ho;exact(XW bP hx hv).step
 ·cases ho
def aY.ld(fn:Func)(key t k off:Nat)(x:Obj)(v:Value)(hx:x.reads=true)(hv:du P t x.cells off=some v)(ho:RX (av fn key)=some t):aY P B N:=
 .step key (av fn key) [.pointer (some ⟨k,off,some 7⟩)] [(k,some x)] v [] (aHl ho hx hv)
def YY(o:Oper):Option TypeId:=match o.op with|.store t _ _=>some t|_=>none
def aY.st(fn:Func)(key t k off:Nat)(x:Obj)(v:Value)(y:Obj)(hx:x.owns=true)(hv:eW P t x.cells off v=some y.cells)(hy:y=x.L7 y.cells)(ho:YY (av fn key)=some t):aY P B N:=
 .step key (av fn key) [.pointer (some ⟨k,off,some 7⟩),v] [(k,some x)] undef [(k,y)] (by
  unfold YY at ho;split at ho
  ·rename_i t' a b bP;injection ho with ho;subst ho;rw[hy];exact(XX bP hx hv).step
  ·cases ho)
def ML(P:Program)(o:Oper):Option (TypeId×Nat×Nat×Value):=match o.op with
 |.makeSlice t _ _=>match P.underlying t with
  |some (.slice e)=>(match P.info? e with|some i=>(match i.zero with|some z=>some (e,i.size,i.bytes,z)|none=>none)|none=>none)
  |_=>none
 |_=>none
def aY.pM(fn:Func)(key k n e bytes:Nat)(z:Value)(cells:aj)(hc:List.replicate n z=cells)(hf:flat z=true)(hz:z.cells=#[z])(hb:bytes*n<=281474976710656)(hn:n<=maxLen)(ho:ML P (av fn key)=some (e,1,bytes,z)):aY P B N:=
 .step key (av fn key) [vI n,vI n] [(k,none)] (.slice (some ⟨k,0,some 7⟩) n 0) [(k,.row cells e 1)] (by
  subst hc;unfold ML at ho;split at ho
  ·rename_i t a b bP;split at ho
   ·rename_i e' ht;split at ho
    ·rename_i i hi;split at ho
     ·rename_i z' nV;injection ho with ho;injection ho with h1 ho;injection ho with h2 ho;injection ho with h3 h4;subst h1;subst h4;have:=X3 (P:=P) (B:=B) bP ht hi nV (kl:=.i64) (kc:=.i64) (l:=n) (cp:=n) (bj _) (by rw[h3];exact hb) hn (cells:=List.replicate n z') (by rw[h2,fX,hz,toList_madeCells_one,ki s_]) (by rw[h2];simp) (λv hv=>by rw[List.eq_of_mem_replicate hv];exact hf) k
      rw[h2]at this;exact this.step
     ·cases ho
    ·cases ho
   ·cases ho
  ·cases ho)
def rJ(P:Program)(o:Oper):Option (Bool×Bool×Nat):=match o.op with
 |.slice t _ lo hi none=>match P.underlying t with
  |some (.slice e)=>(match P.info? e with|some i=>some (lo.isSome,hi.isSome,i.size)|none=>none)
  |_=>none
 |_=>none
theorem GC{o:Oper}{lo hi:Bool}{s:Nat}(ho:rJ P o=some (lo,hi,s)){k off n cc l h:Nat}(hl:lo=false->l=0)(hh:hi=false->h=n)(Ma:l<=h)(X2:h<=n)(hz:l<h\/l=0):
  cB P B o (.slice (some ⟨k,off,some 7⟩) n cc::((if lo then[vI l]else[])++(if hi then[vI h]else[]))) [] (.slice (some ⟨k,off+l*s,some 7⟩) (h-l) (cc+l)) []:=by
 unfold rJ at ho;split at ho
 ·rename_i t x Cn hJ bP;split at ho
  ·rename_i e ht;split at ho
   ·rename_i i RY;injection ho with ho;injection ho with h1 ho;injection ho with h2 h3;have:=aGP (P:=P) (B:=B) bP ht RY (k:=k) (off:=off) (n:=n) (cc:=cc) (l:=l) (h:=h) (λe=>hl (by rw[<-h1,e];rfl)) (λe=>hh (by rw[<-h2,e];rfl)) Ma X2 hz;rw[h3]at this;have e1:bound Cn l=if lo then[vI l]else[]:=by rw[<-h1];cases Cn<;>rfl
    have e2:bound hJ h=if hi then[vI h]else[]:=by rw[<-h2];cases hJ<;>rfl
    rw[e1,e2]at this;exact this.step
   ·cases ho
  ·cases ho
 ·cases ho
def aY.upto(fn:Func)(key k n h s:Nat)(hh:h<=n)(ho:rJ P (av fn key)=some (false,true,s)):aY P B N:=
 .step key (av fn key) [.slice (some ⟨k,0,some 7⟩) n 0,vI h] [] (.slice (some ⟨k,0,some 7⟩) h 0) [] (by have:=GC (B:=B) ho (k:=k) (off:=0) (n:=n) (cc:=0) (l:=0) (h:=h) (λ_=>rfl) n_ (kT _) hh (.inr rfl);simpa using this)
end
def ae(B n a:Nat):List Nat:=(List.range n).map λi=>a/B^i%B
def nd(B a:Nat):Nat:=if h:2<=B/\a≠0 then nd B (a/B)+1 else 0
termination_by a
decreasing_by exact YZ (te h.2) h.1
section
variable{B:Nat}
theorem oE(n a:Nat):(ae B n a).length=n:=by simp[ae]
theorem ek{n a i:Nat}(h:i<n):(ae B n a)[i]?=some (a/B^i%B):=by simp[ae,h]
theorem Ju{n m a:Nat}(h:m<=n):(ae B n a).take m=ae B m a:=by unfold ae;rw[<-Co,List.take_range,nX h]
theorem o7:nd B 0=0:=by unfold nd;simp
theorem RZ(hB:2<=B){a:Nat}(ha:a≠0):nd B a=nd B (a/B)+1:=by rw[nd,dif_pos ⟨hB,ha⟩]
theorem dS(hB:2<=B):∀ a,a<B^nd B a:=by
 intro a;induction a using Nat.strongRecOn with
 |_ a ih=>
  by_cases ha:a=0
  ·subst ha;rw[o7];simp
  ·rw[RZ hB ha,dx];have:=ih (a/B) (YZ (te ha) hB);exact(iv o_).1 this
theorem ja(hB:2<=B):∀{a n:Nat},a<B^n->nd B a<=n:=by
 intro a;induction a using Nat.strongRecOn with
 |_ a ih=>
  intro n h;by_cases ha:a=0
  ·subst ha;rw[o7];omega
  ·cases n with
   |zero=>simp at h;omega
   |succ n=>
    rw[RZ hB ha];rw[dx]at h;have:=ih (a/B) (YZ (te ha) hB) (n:=n) ((iv o_).2 h);omega
theorem Y0(hB:2<=B){a n:Nat}(h:n<nd B a):B^n<=a:=by
 rcases eF a (B^n)with h1|h1
 ·have:=ja hB h1;omega
 ·exact h1
theorem iJ(hB:2<=B){a b:Nat}(h:a<=b):nd B a<=nd B b:=ja hB (eL h (dS hB b))
theorem uB(hB:2<=B){a:Nat}(h:a≠0):0<nd B a:=by rw[RZ hB h];omega
theorem EA{n a:Nat}(h:a<B^(n+1)):a/B^n%B=a/B^n:=by
 refine dK ?_;have hp:0<B^n:=by
  rcases ob B with hB|hB
  ·subst hB;simp at h
  ·exact cG hB
 rw[iv hp,cP,<-dx];exact h
theorem GD(hB:2<=B){n a:Nat}(h:a<B^(n+1)):a/B^n%B=0↔a<B^n:=by
 rw[EA h,Nat.div_eq_zero_iff];have:B^n≠0:=by have:=cG (n:=n) (show 0<B by omega);omega
 exact⟨λh=>h.resolve_left this,.inr⟩
def eM(B a b i:Nat):Nat:=(a%B^i+b%B^i)/B^i
def ep(B n i a:Nat):List Nat:=(List.range n).map λj=>if j<i then a/B^j%B else 0
theorem MM(n i a:Nat):(ep B n i a).length=n:=by simp[ep]
theorem R0(n a:Nat):ep B n 0 a=List.replicate n 0:=by apply wR<;>simp[ep]
theorem GF(n a:Nat):ep B n n a=ae B n a:=by unfold ep ae;exact yA λj hj=>by rw[aw (kh.1 hj)]
theorem MN{n i a d:Nat}(h:i<n)(hd:d=a/B^i%B):(ep B n i a).set i d=ep B n (i+1) a:=by
 subst hd;apply wR
 ·simp[ep]
 ·intro j h1 h2;simp only[ep,eY,yG]at h2;rw[GG];simp only[ep,Cp,Cq];by_cases hj:i=j
  ·subst hj;simp
  ·rw[ao hj];by_cases h3:j<i
   ·rw[aw h3,aw o_]
   ·rw[ao h3,ao o_]
theorem o8(a i:Nat):a%B^(i+1)=a%B^i+a/B^i%B*B^i:=by rw[dx,MO];rw[cP]
theorem MP(a b:Nat):eM B a b 0=0:=by simp[eM,tf]
theorem EB(hB:0<B)(a b i:Nat):(a/B^i%B+b/B^i%B+eM B a b i)/B=eM B a b (i+1):=by
 unfold eM;rw[o8 a i,o8 b i];have hp:0<B^i:=cG hB;have e:a%B^i+a/B^i%B*B^i+(b%B^i+b/B^i%B*B^i)=(a%B^i+b%B^i)+(a/B^i%B+b/B^i%B)*B^i:=by rw[fA];omega
 rw[e,dx,<-kA,o9 _ _ hp,mI]
theorem GH(hB:0<B)(a b i:Nat):(a/B^i%B+b/B^i%B+eM B a b i)%B=(a+b)/B^i%B:=by
 unfold eM;have hp:0<B^i:=cG hB;have e:(a+b)/B^i=a/B^i+b/B^i+(a%B^i+b%B^i)/B^i:=by
  have h1:=jb a (B^i);have h2:=jb b (B^i);have e2:a+b=(a%B^i+b%B^i)+(a/B^i+b/B^i)*B^i:=by rw[fA,cP (a/B^i),cP (b/B^i)];omega
  conv=>lhs;rw[e2]
  rw[o9 _ _ hp];omega
 rw[e];rw[Nat.add_mod (a/B^i+b/B^i),Nat.add_mod (a/B^i%B+b/B^i%B),<-Nat.add_mod (a/B^i)]
theorem AU(hB:0<B)(a b i:Nat):eM B a b i<=1:=by
 unfold eM;have hp:0<B^i:=cG hB;have h1:=cE a hp;have h2:=cE b hp;have:(a%B^i+b%B^i)/B^i<2:=by rw[iv hp];omega
 omega
theorem gO(hB:0<B)(a i:Nat):a/B^i%B<B:=cE _ hB
theorem qy{a m i:Nat}(h:a<B^m)(hi:m<=i)(hB:0<B):a/B^i%B=0:=by rw[l8 (cv h (cZ hB hi))];simp
theorem R1{a b n:Nat}(ha:a<B^n)(hb:b<B^n):eM B a b n=(a+b)/B^n:=by unfold eM;rw[dK ha,dK hb]
def kB(B a b i:Nat):Nat:=if a%B^i<b%B^i then 1 else 0
theorem R2(a b:Nat):kB B a b 0=0:=by simp[kB,tf]
theorem MQ(a b i:Nat):kB B a b i<=1:=by unfold kB;split<;>omega
theorem R3(hB:0<B)(a b i:Nat):(if a/B^i%B<b/B^i%B+kB B a b i then 1 else 0)=kB B a b (i+1):=by
 unfold kB;rw[o8 a i,o8 b i];have hp:0<B^i:=cG hB;have h1:=cE a hp;have h2:=cE b hp;generalize a%B^i=r at *;generalize b%B^i=s at *;generalize a/B^i%B=x at *;generalize b/B^i%B=y at *;generalize B^i=p at *;have lt:∀ u v:Nat,u<v->u*p+p<=v*p:=λu v h=>by rw[<-yH];exact e6 _ h
 have le:∀ u v:Nat,u<=v->u*p<=v*p:=λu v h=>e6 _ h;by_cases EC:r<s
 ·rw[aw EC];by_cases kj:x<y+1
  ·have:=le x y o_;rw[aw kj,aw o_]
  ·have:=lt y x o_;rw[ao kj,ao o_]
 ·rw[ao EC];by_cases kj:x<y+0
  ·have:=lt x y o_;rw[aw kj,aw o_]
  ·have:=le y x o_;rw[ao kj,ao o_]
theorem R4(hB:0<B){a b:Nat}(b9:b<=a)(i:Nat):(a/B^i%B+2*B-b/B^i%B-kB B a b i)%B=(a-b)/B^i%B:=by
 unfold kB;have hp:0<B^i:=cG hB;have h1:=cE a hp;have h2:=cE b hp;have ea:=jb a (B^i);have eb:=jb b (B^i);generalize hA:a/B^i=A at *;generalize hA':b/B^i=A' at *;generalize a%B^i=r at *;generalize b%B^i=s at *;generalize B^i=p at *;have lt:∀ u v:Nat,u<v->p*u+p<=p*v:=λu v h=>by rw[<-MR];exact jc _ h
 have hx:=cE A hB;have hy:=cE A' hB;have dA:=jb A B;have dA':=jb A' B
 -- the quotient of the aUy
 have key:∀ br:Nat,br=(if r<s then 1 else 0)->A'+br<=A/\(a-b)/p=A-A'-br:=by
  intro br Jv;by_cases EC:r<s
  ·rw[aw EC]at Jv;subst Jv;have MS:A'<A:=by
    rcases eF A' A with h|h
    ·exact h
    ·have:=jc p h;omega
   refine⟨MS,?_⟩;have e:a-b=(p+r-s)+p*(A-A'-1):=by
    have:=lt A' A MS;have e2:p*A=p*A'+p+p*(A-A'-1):=by rw[<-MR,<-oF];congr 1;omega
    omega
   rw[e,Jw _ _ hp,l8 o_,jY]
  ·rw[ao EC]at Jv;subst Jv;have MS:A'<=A:=by
    rcases eF A A' with h|h
    ·have:=lt A A' h;omega
    ·exact h
   refine⟨MS,?_⟩;have e:a-b=(r-s)+p*(A-A'):=by
    have e2:p*A=p*A'+p*(A-A'):=by rw[<-oF];congr 1;omega
    omega
   rw[e,Jw _ _ hp,l8 o_,jY];rfl
 have Jv:(if r<s then 1 else 0)<=1:=by split<;>omega
 obtain⟨k1,k2⟩:=key _ rfl;rw[k2];generalize (if r<s then 1 else 0)=br at *;have e:A%B+2*B-A'%B-br+B*(A/B)=(A-A'-br)+B*(A'/B+2):=by rw[oF];omega
 have:=cI (·%B) e;simpa only[ED]using this
theorem yI(p:Nat->Prop)[DecidablePred p]:∀ n,p n->∃ e,e<=n/\p e/\∀ j,j<e->¬p j
 |0,h=>⟨0,bj _,h,λj hj=>by omega⟩
 |n+1,h=>by
  by_cases h0:p 0
  ·exact⟨0,by omega,h0,λj hj=>by omega⟩
  ·obtain⟨e,h1,h2,h3⟩:=yI (λj=>p (j+1)) n h;refine⟨e+1,by omega,h2,λj hj=>?_⟩;cases j with
   |zero=>exact h0
   |succ j=>exact h3 j o_
def c7(B n i s p:Nat):List Nat:=(List.range n).map λj=>if j<i then s/B^j%B else p/B^j%B
theorem wS(n i s p:Nat):(c7 B n i s p).length=n:=by simp[c7]
theorem Cr{n i s p:Nat}{j:Nat}(hj:j<n)(h:i<=j):(c7 B n i s p)[j]?=some (p/B^j%B):=by simp[c7,hj];omega
theorem yJ{n i s p d:Nat}(h:i<n)(hd:d=s/B^i%B):(c7 B n i s p).set i d=c7 B n (i+1) s p:=by
 subst hd;apply wR
 ·simp[c7]
 ·intro j h1 h2;simp only[c7,eY,yG]at h2;rw[GG];simp only[c7,Cp,Cq];by_cases hj:i=j
  ·subst hj;simp
  ·rw[ao hj];by_cases h3:j<i
   ·rw[aw h3,aw o_]
   ·rw[ao h3,ao o_]
theorem aHm(hB:0<B)(p t i:Nat):(p+t)/B^i=p/B^i+t/B^i+eM B p t i:=by
 have hp:0<B^i:=cG hB;unfold eM;have h1:=jb p (B^i);have h2:=jb t (B^i);have e2:p+t=(p%B^i+t%B^i)+(p/B^i+t/B^i)*B^i:=by rw[fA,cP (p/B^i),cP (t/B^i)];omega
 conv=>lhs;rw[e2]
 rw[o9 _ _ hp];omega
theorem Y1(hB:0<B)(n at' p c:Nat):c7 B n at' (p+c*B^at') p=ae B n p:=by
 unfold c7 ae;refine yA λj _=>?_;by_cases h:j<at'
 ·rw[aw h];have e:B^at'=B^j*(B*B^(at'-j-1)):=by rw[<-Nat.pow_succ',<-ev];congr 1;omega
  rw[e,show c*(B^j*(B*B^(at'-j-1)))=B^j*(B*(c*B^(at'-j-1)))by rw[mJ,mJ c B],Jw _ _ (cG hB),ED]
 ·rw[ao h]
theorem aHn(hB:0<B)(at' p c:Nat):eM B p (c*B^at') at'=0:=by unfold eM;rw[Y2,jn,l8 (cE _ (cG hB))]
theorem aHo(hB:0<B){n i p t:Nat}(ht:t<B^i)(hc:eM B p t i=0):c7 B n i (p+t) p=ae B n (p+t):=by
 unfold c7 ae;refine yA λj _=>?_;by_cases h:j<i
 ·rw[aw h]
 ·rw[ao h];have e:=aHm hB p t i;rw[hc,l8 ht,jn]at e;have e2:B^j=B^i*B^(j-i):=by rw[<-ev];congr 1;omega
  rw[e2,<-kA,<-kA,e]
theorem aHp(hB:0<B)(at' c:Nat):c*B^at'/B^at'%B=c%B:=by rw[R5 _ (cG hB)]
theorem aHq(hB:0<B){at' c:Nat}(h:c<B*B):c*B^at'/B^(at'+1)%B=c/B:=by rw[dx,<-kA,R5 _ (cG hB)];exact dK ((iv hB).2 h)
theorem aHr(hB:0<B){at' c:Nat}(h:c<B*B):c*B^at'<B^(at'+2):=by rw[dx,dx,fF,cP];exact Y3 h (cG hB)
def part(B a b i k:Nat):Nat:=(a%B^i)*b+a/B^i%B*(b%B^k)*B^i
theorem Cs(a b i:Nat):part B a b i 0=(a%B^i)*b:=by simp[part,tf]
theorem Y4(a b i k:Nat):part B a b i (k+1)=part B a b i k+a/B^i%B*(b/B^k%B)*B^(i+k):=by
 unfold part;rw[o8 b k,ev,oF,fA,uk]
 congr 2
 simp only[cP,mJ]
theorem aHs{a b i m:Nat}(hb:b<B^m):part B a b i m=part B a b (i+1) 0:=by
 rw[Cs,o8 a i];unfold part;rw[dK hb,fA]
 congr 1
 simp only[cP,mJ]
theorem Y5(hB:0<B)(a b i k:Nat):part B a b i k<=a*b:=by
 have h1:a%B^(i+1)<=a:=Jx _ _;have h2:part B a b i k<=(a%B^(i+1))*b:=by
  rw[o8 a i];unfold part;rw[fA];refine Nat.add_le_add_left ?_ _;have h3:b%B^k<=b:=Jx _ _;have:=jc (a/B^i%B) h3;have:=e6 (B^i) this
  calc _<=_:=this
   _=_:=by simp only[cP,mJ]
 exact de h2 (e6 _ h1)
theorem Y6{a b n m:Nat}(hB:0<B)(ha:a<B^n)(hb:b<B^m):a*b<B^(n+m+1):=by
 have h1:a*b<B^(n+m):=by rw[ev];exact pN ha hb
 exact cv h1 (cZ hB o_)
theorem Y7(hB:0<B){d:Nat}(hd:0<d)(mK:d<=B)(a j:Nat):(a/B^(j+1)%d*B+a/B^j%B)/d=(a/d)/B^j%B/\(a/B^(j+1)%d*B+a/B^j%B)%d=a/B^j%d:=by
 have e1:a/B^(j+1)=a/B^j/B:=by rw[dx,kA]
 have e2:a/d/B^j=a/B^j/d:=by rw[kA,kA,cP]
 rw[e1,e2];generalize a/B^j=c;have h1:=jb c B;have h2:=jb (c/B) d;have h3:c/B%d<d:=cE _ hd;have h4:c%B<B:=cE _ hB;have h5:c=(c/B%d*B+c%B)+d*(B*(c/B/d)):=by
  have:B*(c/B)=B*(d*(c/B/d)+c/B%d):=by rw[h2]
  rw[oF,mJ]at this;rw[cP (c/B%d)];omega
 have h6:(c/B%d*B+c%B)/d<B:=by rw[iv hd];have:=e6 B (show c/B%d+1<=d by omega);rw[fA,pO]at this;rw[cP B d];omega
 constructor
 ·conv=>rhs;rw[h5]
  rw[Jw _ _ hd,ED,dK h6]
 ·conv=>rhs;rw[h5]
  rw[ED]
def gv(B n i a:Nat):List Nat:=(List.range n).map λj=>if j<i then 0 else a/B^j%B
theorem MT(n i a:Nat):(gv B n i a).length=n:=by simp[gv]
theorem MU(n a:Nat):gv B n n a=List.replicate n 0:=by
 apply wR
 ·simp[gv]
 ·intro j h1 h2;simp only[gv,eY,yG]at h1;simp[gv,h1]
theorem Jy(n a:Nat):gv B n 0 a=ae B n a:=by unfold gv ae;exact yA λj _=>by rw[ao o_]
theorem MV{n j a d:Nat}(h:j<n)(hd:d=a/B^j%B):(gv B n (j+1) a).set j d=gv B n j a:=by
 subst hd;apply wR
 ·simp[gv]
 ·intro i h1 h2;simp only[gv,eY,yG]at h2;rw[GG];simp only[gv,Cp,Cq];by_cases hi:j=i
  ·subst hi;simp
  ·rw[ao hi];by_cases h3:i<j
   ·rw[aw h3,aw o_]
   ·rw[ao h3,ao o_]
theorem wT(a j:Nat):a/B^j=a/B^(j+1)*B+a/B^j%B:=by have:=jb (a/B^j) B;rw[kA,<-dx,cP]at this;exact this.symm
theorem Y8{a b n:Nat}(ha:a<B^n)(hb:b<B^n)(t:Nat)(ht:t<=n)(h:∀ s,s<t->a/B^(n-1-s)%B=b/B^(n-1-s)%B):a/B^(n-t)=b/B^(n-t):=by
 induction t with
 |zero=>rw[GB,l8 ha,l8 hb]
 |succ t ih=>
  have ih:=ih o_ λs hs=>h s o_;have e:n-t=(n-(t+1))+1:=by omega
  rw[e]at ih;have h1:=h t o_;rw[show n-1-t=n-(t+1)by omega]at h1;rw[wT (B:=B) a,wT (B:=B) b,ih,h1]
theorem MW{a b j:Nat}(h:a/B^(j+1)=b/B^(j+1))(ak:a/B^j%B<b/B^j%B):a<b:=by
 have h1:a/B^j<b/B^j:=by rw[wT (B:=B) a,wT (B:=B) b,h];omega
 rcases eF a b with h2|h2
 ·exact h2
 ·have:=Nat.div_le_div_right (c:=B^j) h2;omega
end
theorem mixed:prog.follows .mixedOrders=true:=by kernel_rfl
def aX(x:Nat):Value:=.int .u32 (x:Int)
def al(l:List Nat):aj:=l.map aX
theorem fB(l:List Nat):∀ u∈al l,flat u=true:=λu hu=>by obtain⟨x,_,rfl⟩:=dj.1 hu;rfl
theorem kC{l:List Nat}{i x:Nat}(h:l[i]?=some x):(al l)[i]?=some (aX x):=by simp[al,h]
abbrev base:Nat:=4294967296
theorem fG(cells:aj)(i:Nat):du prog 176 cells i=cells[i]?:=by kernel_rfl
theorem aA{B:aa}{N:Nat}{c:Code}{fr:aW}{M:aH}{next:Nat}(rs:bA prog B N){r:l5}(h:Js (iP 100 c fr M next rs) r.fr r.M=Jt (iP 100 c fr M next rs) r.ex r.fr r.M r.next:=by kernel_rfl):ag prog B N c fr M next r:=fj mixed 100 rs h
theorem aHt{Bs:aa}{n a m:Nat}(hm:m+1<=n)(ha:a<base^m)(h63:n<=9223372036854775807):
  ag prog Bs 21 (aF (af f175 0)) [(0,.slice (some ⟨0,0,some 7⟩) (m+1) 0)] [(0,.view (al (ae base n a)))] 1
   ⟨.normal,[(0,.slice (some ⟨0,0,some 7⟩) m 0)],[(0,.view (al (ae base n a)))],1⟩:=by
 have hd:a/base^m%base=0:=(GD d_ (cv ha (cZ d_ (yw m)))).2 ha;exact aA [
  .gt 5 (m+1) 0 true s_,
  .eX 10 (m+1) 1 m rfl o_,
  .ix f175 11 0 (m+1) m o_ k_,
  .ld f175 12 176 0 m (.view (al (ae base n a))) (aX (a/base^m%base)) rfl (by rw[fG];exact kC (ek o_)) k_,
  .fk 13 (a/base^m%base) 0 true (by simp[hd]),
  .eX 18 (m+1) 1 m rfl o_,
  .upto f175 19 0 (m+1) m 1 o_ k_]
theorem aHu{Bs:aa}{n a m:Nat}(hm:m<=n)(ha:a<base^m)(hl:m=nd base a)(h63:n<=9223372036854775807):
  ag prog Bs 21 (aF (af f175 0)) [(0,.slice (some ⟨0,0,some 7⟩) m 0)] [(0,.view (al (ae base n a)))] 1
   ⟨.exit 0,[(0,.slice (some ⟨0,0,some 7⟩) m 0)],[(0,.view (al (ae base n a)))],1⟩:=by
 cases m with
 |zero=>exact aA [.gt 5 0 0 false s_]
 |succ m=>
  have hd:a/base^m%base≠0:=λe=>by have:=ja (B:=base) d_ ((GD d_ ha).1 e);omega
  exact aA [
   .gt 5 (m+1) 0 true s_,
   .eX 10 (m+1) 1 m rfl o_,
   .ix f175 11 0 (m+1) m o_ k_,
   .ld f175 12 176 0 m (.view (al (ae base n a))) (aX (a/base^m%base)) rfl (by rw[fG];exact kC (ek o_)) k_,
   .fk 13 (a/base^m%base) 0 false (by simp[hd])]
theorem aHv{Bs:aa}{n a:Nat}(ha:a<base^n)(h63:n<=9223372036854775807):
  ag prog Bs 21 (.block 0 (af f175 0)) [(0,.slice (some ⟨0,0,some 7⟩) n 0)] [(0,.view (al (ae base n a)))] 1
   ⟨.normal,[(0,.slice (some ⟨0,0,some 7⟩) (nd base a) 0)],[(0,.view (al (ae base n a)))],1⟩:=by
 have hle:=ja (B:=base) d_ ha;have ak:=dS (B:=base) d_ a
 have:=cd (P:=prog) (B:=Bs) (N:=21) (b:=aF (af f175 0)) (next:=1) (n-nd base a) (λi=>[(0,.slice (some ⟨0,0,some 7⟩) (n-i) 0)]) (λ_=>[(0,.view (al (ae base n a)))])
  (r:=⟨.exit 0,[(0,.slice (some ⟨0,0,some 7⟩) (nd base a) 0)],[(0,.view (al (ae base n a)))],1⟩) (λ_ _ _=>Iff.rfl)
  (λi hi=>by
   have e:n-i=(n-(i+1))+1:=by omega
   simp only[e];exact aHt o_ (cv ak (cZ d_ o_)) h63)
  (by
   have e:n-(n-nd base a)=nd base a:=by omega
   simp only[e];exact aHu hle ak rfl h63) n_
 exact bT this
def MX(v:Value)(m:Nat):Value:=match v with|.slice a _ c=>.slice a m c|v=>v
theorem Y9{w:World}{v:Value}{n a:Nat}(hv:cK w v n (al (ae base n a)))(ha:a<base^n)(h63:n<=9223372036854775807):
  Calls prog 175 #[v] w λe w'=>e=.returned (MX v (nd base a))/\Below w.heap.size w w':=by
 refine lD (Q:=λe w'=>e=.returned (MX v (nd base a))/\Below w.heap.size w w') mixed func175 [.row v n (al (ae base n a))] (λs hs=>by simp at hs;subst hs;exact⟨hv,fB _⟩) 100 (N:=21) k_
  (rs:=[.code 0 _ _ _ _ _ (aHv ha h63)]) (v:=.slice (some ⟨0,0,some 7⟩) (nd base a) 0) (ms:=[]) k_ λau bY v' w' hc hm _ df=>⟨?_,hm.base⟩
 cases df with
 |cons h1 _=>
 congr 1
 rcases hc.gV rfl with ⟨q1,q2,_,_,q5⟩|⟨b,o,cap,c',q1,q2,q3,q5⟩<;>rcases h1.gV rfl with ⟨p1,p2,_,_,p5⟩|⟨b2,o2,rk,c2,p1,p2,p3,p5⟩
 ·have p5:v=.slice none 0 0:=p5;rw[q5,p5,q2];rfl
 ·rw[q1]at p1;cases p1
 ·rw[q1]at p1;cases p1
 ·rw[q1]at p1;injection p1 with p1;injection p1 with e1 e2 e3;subst e1;subst e2;subst e3;have p5:v=_:=p5;rw[q5,p5,show c'=c2 by omega];rfl
theorem aP{f:FuncId}{fn:Func}{args:aj}{v:Value}(hf:prog.funcs[f]?=some fn)(rs:∀ w,bA prog (aa.at w) (args.length+(fn.ntmps-args.length)))(h:∀ w,nA (fO (P:=prog) fn 100 args [] 0 (rs w)) []=nB (fO fn 100 args [] 0 (rs w)) v []:=by intro _;kernel_rfl)(df:args.all flat=true:=by kernel_rfl)(hv:flat v=true:=by kernel_rfl):aE prog f args v:=gu mixed hf 100 rs h df hv
theorem Jz{x y c:Nat}(hx:x<base)(hy:y<base)(hc:c<base):
  aE prog 222 [aX x,aX y,aX c] (.tuple #[aX ((x+y+c)%base),aX ((x+y+c)/base)]):=
 aP func222 (λ_=>[
  .wr 10 .u64 x x (by rw[jP];unfold base at *;omega),.wr 12 .u64 y y (by rw[jP];unfold base at *;omega),
  .wr 13 .u64 (x+y) ((x+y:Nat):Int) (by rw[jP];unfold base at *;omega),.wr 15 .u64 c c (by rw[jP];unfold base at *;omega),
  .wr 16 .u64 (((x+y:Nat):Int)+c) ((x+y+c:Nat):Int) (by rw[jP];unfold base at *;omega),
  .wr 18 .u32 ((x+y+c:Nat):Int) (((x+y+c)%base:Nat):Int) (by rw[nC];unfold base at *;omega),
  .quo 20 .u64 (((x+y+c:Nat):Int).fdiv (2^32)) (((x+y+c)/base:Nat):Int) (by rw[rK _ d_];unfold base at *;omega),
  .wr 21 .u32 (((x+y+c)/base:Nat):Int) (((x+y+c)/base:Nat):Int) (by rw[nC];unfold base at *;omega)])
theorem EE(n:Nat):List.replicate n (aX 0)=al (List.replicate n 0):=by simp[al]
theorem yK(cells:aj)(i d:Nat)(h:i<cells.length):eW prog 176 cells i (aX d)=some (cells.set i (aX d)):=by
 have e:eW prog 176 cells i (aX d)=if(Nat.ble (i+1) cells.length&&true)then some (iO cells i [aX d])else none:=by kernel_rfl
 rw[e,Mp h];rfl
theorem yL(l:List Nat)(i d:Nat):(al l).set i (aX d)=al (l.set i d):=by simp[al,List.map_set]
theorem aHw{Bs:aa}{o:Oper}{y:Operand}(ho:dw o.op=some y){k n a:Nat}{x:Obj}(hx:x.reads=true)(hc:x.cells=al (ae base n a))(ha:a<base^n)(h63:n<=9223372036854775807):
  cB prog Bs o [.func (.func 175) #[] #[],.slice (some ⟨k,0,some 7⟩) n 0] [(k,some x)] (.slice (some ⟨k,0,some 7⟩) (nd base a) 0) []:=by
 refine jB (fi:=[]) (ca:=[]) ho k_ λι c w hm hn args' df=>?_;obtain⟨v,rfl,h1⟩:=lW df;have hk:c k=some x:=hn _ (aV ..);have hr:=oD (len:=n) hm hk hx (by rw[hc];exact fB _) (λh=>h) h1;rw[hc,l9,ki (by simp[al,oE])]at hr;refine(Y9 hr ha h63).mono ?_
 rintro e w' ⟨rfl,hb⟩
 refine⟨ι,_,rfl,Map.le.refl _,?_,hm.call hb⟩;have jQ:=ja (B:=base) d_ ha;rcases h1.gV rfl with ⟨q1,q2,_,_,q5⟩|⟨b,oo,cap,c',q1,q2,q3,q5⟩
 ·rw[q5];have:nd base a=0:=by omega
  rw[this];exact .slcN q1
 ·rw[q5];exact .slc q1 o_ q3
def aY.trim{Bs:aa}{N:Nat}(fn:Func)(key k n a:Nat)(x:Obj)(hx:x.reads=true)(hc:x.cells=al (ae base n a))(ha:a<base^n)(h63:n<=9223372036854775807){y:Operand}(ho:dw (av fn key).op=some y):aY prog Bs N:=
 .step key (av fn key) [.func (.func 175) #[] #[],.slice (some ⟨k,0,some 7⟩) n 0] [(k,some x)] (.slice (some ⟨k,0,some 7⟩) (nd base a) 0) [] (aHw ho hx hc ha h63)
section
variable{Bs:aa}{ka kb n m a b:Nat}
def sl(k n:Nat):Value:=.slice (some ⟨k,0,some 7⟩) n 0
def Ct(ka kb n m a b i:Nat):aW:=[(23,vI i),(22,vI n),(21,sl ka n),(0,sl ka n),(1,sl kb m),(5,sl 2 (n+1)),(6,aX (eM base a b i))]
def yM(ka kb n m a b i:Nat):aH:=[(ka,.view (al (ae base n a))),(kb,.view (al (ae base m b))),(2,.row (al (ep base (n+1) i (a+b))) 176 1)]
theorem aHx{i:Nat}(hk:(ka=0/\kb=1)\/(ka=1/\kb=0))(hi:i<n)(hb:b<base^m)(hm:m<=n)(h63:n<9223372036854775807):
  ag prog Bs 54 (aF (af f209 0)) (Ct ka kb n m a b i) (yM ka kb n m a b i) 3 ⟨.normal,Ct ka kb n m a b (i+1),yM ka kb n m a b (i+1),3⟩:=by
 have hx:=gO (B:=base) d_ a i;have hy:=gO (B:=base) d_ b i;have hc:=AU (B:=base) d_ a b i;have yN:=Jz (c:=eM base a b i) hx hy (eL hc d_);rw[GH d_,EB d_]at yN;have bL:eW prog 176 (al (ep base (n+1) i (a+b))) i (aX ((a+b)/base^i%base))=some (al (ep base (n+1) (i+1) (a+b))):=by rw[yK _ i _ (by simp[al,MM];omega),yL,MN o_ rfl]
 by_cases jC:i<m
 ·let S:Nat->Nat->bA prog Bs 54:=λka kb=>[.lt 24 i n true (by simp[hi]),.ix f209 26 ka n i hi k_,.ld f209 27 176 ka i (.view (al (ae base n a))) (aX (a/base^i%base)) rfl (by rw[fG];exact kC (ek hi)) k_,.lt 31 i m true (by simp[jC]),.ix f209 34 kb m i jC k_,.ld f209 35 176 kb i (.view (al (ae base m b))) (aX (b/base^i%base)) rfl (by rw[fG];exact kC (ek jC)) k_,yN.at 42,.ix f209 45 2 (n+1) i o_ k_,.st f209 100045 176 2 i (.row (al (ep base (n+1) i (a+b))) 176 1) (aX ((a+b)/base^i%base)) (.row (al (ep base (n+1) (i+1) (a+b))) 176 1) rfl bL rfl k_,.sum 46 i 1 (i+1) rfl o_]
  rcases hk with ⟨rfl,rfl⟩|⟨rfl,rfl⟩
  ·exact aA (S 0 1)
  ·exact aA (S 1 0)
 ·have wU:b/base^i%base=0:=qy hb o_ d_;rw[wU]at yN
  let S:Nat->Nat->bA prog Bs 54:=λka kb=>[.lt 24 i n true (by simp[hi]),.ix f209 26 ka n i hi k_,.ld f209 27 176 ka i (.view (al (ae base n a))) (aX (a/base^i%base)) rfl (by rw[fG];exact kC (ek hi)) k_,.lt 31 i m false (by simp[jC]),yN.at 42,.ix f209 45 2 (n+1) i o_ k_,.st f209 100045 176 2 i (.row (al (ep base (n+1) i (a+b))) 176 1) (aX ((a+b)/base^i%base)) (.row (al (ep base (n+1) (i+1) (a+b))) 176 1) rfl bL rfl k_,.sum 46 i 1 (i+1) rfl o_]
  rcases hk with ⟨rfl,rfl⟩|⟨rfl,rfl⟩
  ·exact aA (S 0 1)
  ·exact aA (S 1 0)
theorem aHy(hk:(ka=0/\kb=1)\/(ka=1/\kb=0)):
  ag prog Bs 54 (aF (af f209 0)) (Ct ka kb n m a b n) (yM ka kb n m a b n) 3 ⟨.exit 0,Ct ka kb n m a b n,yM ka kb n m a b n,3⟩:=by
 rcases hk with ⟨rfl,rfl⟩|⟨rfl,rfl⟩
 all_goals exact aA [.lt 24 n n false s_]
theorem aHz(hk:(ka=0/\kb=1)\/(ka=1/\kb=0))(hb:b<base^m)(hm:m<=n)(h63:n<9223372036854775807):
  ag prog Bs 54 (.block 0 (af f209 0)) (Ct ka kb n m a b 0) (yM ka kb n m a b 0) 3 ⟨.normal,Ct ka kb n m a b n,yM ka kb n m a b n,3⟩:=
 bT (cd (b:=aF (af f209 0)) (r:=⟨.exit 0,Ct ka kb n m a b n,yM ka kb n m a b n,3⟩) n (Ct ka kb n m a b) (yM ka kb n m a b) (λi k _=>jN (l:=yM ka kb n m a b i) (m:=yM ka kb n m a b 0) rfl k) (λi hi=>aHx hk hi hb hm h63) (aHy hk) n_)
noncomputable def Za(hk:(ka=0/\kb=1)\/(ka=1/\kb=0))(ha:a<base^n)(hb:b<base^m)(hm:m<=n)(h63:n<35184372088832)(hs:a+b<base^(n+1))
  (bL:eW prog 176 (al (ep base (n+1) n (a+b))) n (aX (eM base a b n))=some (al (ae base (n+1) (a+b)))):bA prog Bs 54:=
 [.sum 19 n 1 (n+1) rfl o_,.pM f209 20 2 (n+1) 176 4 (aX 0) (al (ep base (n+1) 0 (a+b))) (by rw[R0,EE]) rfl rfl o_ (by simp[maxLen];omega) k_,.rw 6 (.int .u32 0) (aX (eM base a b 0)) (by rw[MP];rfl),.code 0 _ _ _ _ _ (aHz (ka:=ka) (kb:=kb) (a:=a) hk hb hm o_),.ix f209 51 2 (n+1) n o_ k_,.st f209 100051 176 2 n (.row (al (ep base (n+1) n (a+b))) 176 1) (aX (eM base a b n)) (.row (al (ae base (n+1) (a+b))) 176 1) rfl bL rfl k_,.trim f209 53 2 (n+1) (a+b) (.row (al (ae base (n+1) (a+b))) 176 1) rfl rfl hs o_ (y:=.func 175) k_]
end
def jD(w w':World)(v:Value)(a:Nat):Prop:=w'.ownsRow w.heap.size 176 1 v (nd base a) (al (ae base (nd base a) a))
def iw(w:World)(v:Value)(a:Nat):Prop:=cK w v (nd base a) (al (ae base (nd base a) a))
theorem wW{w w':World}{ι:Map}{c:Nat->Option Obj}(hm:aQ (aa.at w) ι c w'){k n a:Nat}{v:Value}(hk:c k=some (.row (al (ae base n a)) 176 1))(ha:a<base^n)(hv:aG ι (.slice (some ⟨k,0,some 7⟩) (nd base a) 0) v):jD w w' v a:=by
 have hle:=ja (B:=base) d_ ha;have:=vx hm hk hv (by simp[al,oE];exact hle) (fB _);have e:(al (ae base n a)).take (nd base a*1)=al (ae base (nd base a) a):=by rw[fX];unfold al;rw[<-Co,Ju hle]
 rw[e]at this;exact this
theorem JA{a b n:Nat}(ha:a<base^n)(hb:b<base^n):eW prog 176 (al (ep base (n+1) n (a+b))) n (aX (eM base a b n))=some (al (ae base (n+1) (a+b))):=by have h1:=AU (B:=base) d_ a b n;have h2:=R1 ha hb;rw[yK _ n _ (by simp[al,MM]),yL,MN o_ (by rw[<-h2];exact(dK (eL h1 d_)).symm),GF]
theorem JB{a b n:Nat}(ha:a<base^n)(hb:b<base^n):a+b<base^(n+1):=by have h1:base^n*2<=base^n*base:=jc _ d_;rw[dx];omega
theorem aHA{w:World}{va vb:Value}{a b:Nat}(fY:iw w va a)(kX:iw w vb b)(h1:nd base a<35184372088832)(h2:nd base b<35184372088832):
  Calls prog 209 #[va,vb] w λe w'=>∃ v,e=.returned v/\jD w w' v (a+b)/\Below w.heap.size w w':=by
 have ha:=dS (B:=base) d_ a;have hb:=dS (B:=base) d_ b;have hl:∀ s∈[cA.row va (nd base a) (al (ae base (nd base a) a)),cA.row vb (nd base b) (al (ae base (nd base b) b))],s.OK w:=by
  intro s hs;simp at hs;rcases hs with rfl|rfl
  ·exact⟨fY,fB _⟩
  ·exact⟨kX,fB _⟩
 unfold iw at fY kX;generalize nd base a=n at *;generalize nd base b=m at *;by_cases lA:n<m
 ·have hs:=JB hb (cv ha (cZ d_ o_))
  refine lD (Q:=λe w'=>∃ v,e=.returned v/\jD w w' v (a+b)/\Below w.heap.size w w') mixed func209 [cA.row va n (al (ae base n a)),cA.row vb m (al (ae base m b))] hl 100 (N:=54) k_
   (rs:=(aY.lt 14 n m true (by simp[lA]):aY prog (aa.at w) 54)::Za (ka:=1) (kb:=0) (a:=b) (b:=a) (.inr ⟨rfl,rfl⟩) hb ha o_ o_ hs (JA hb (cv ha (cZ d_ o_))))
   (v:=.slice (some ⟨2,0,some 7⟩) (nd base (b+a)) 0) (ms:=[(2,.row (al (ae base (m+1) (b+a))) 176 1)]) k_ λau bY v' w' hc bo dy _=>⟨v',rfl,?_,bo.base⟩
  rw[mI a b];exact wW bo (dy _ (aV ..)) hs hc
 ·have hs:=JB ha (cv hb (cZ d_ (show m<=n by omega)))
  refine lD (Q:=λe w'=>∃ v,e=.returned v/\jD w w' v (a+b)/\Below w.heap.size w w') mixed func209 [cA.row va n (al (ae base n a)),cA.row vb m (al (ae base m b))] hl 100 (N:=54) k_
   (rs:=(aY.lt 14 n m false (by simp[lA]):aY prog (aa.at w) 54)::Za (ka:=0) (kb:=1) (a:=a) (b:=b) (.inl ⟨rfl,rfl⟩) ha hb o_ o_ hs (JA ha (cv hb (cZ d_ o_))))
   (v:=.slice (some ⟨2,0,some 7⟩) (nd base (a+b)) 0) (ms:=[(2,.row (al (ae base (n+1) (a+b))) 176 1)]) k_ λau bY v' w' hc bo dy _=>⟨v',rfl,?_,bo.base⟩
  exact wW bo (dy _ (aV ..)) hs hc
theorem Cu{x:Nat}(h:x<base):x.testBit 31=decide (2147483648<=x):=by rw[Nat.testBit_eq_decide_div_mod_eq,rI];unfold base at h;omega
theorem aHB{x:Nat}(h:x<base):x/2147483648=if x.testBit 31 then 1 else 0:=by
 rw[Cu h];unfold base at h;by_cases h1:2147483648<=x
 ·rw[aC h1,aw rfl];omega
 ·rw[aN h1,ao d_];omega
theorem aHC{x y b:Nat}(hx:x<base)(hy:y<base)(hb:b<=1):
  (((base-1-x)&&& y)||| ((base-1-(x ^^^ y))&&& ((x+2*base-y-b)%base)))/2147483648=if x<y+b then 1 else 0:=by
 have kj:x ^^^ y<base:=Zb (n:=32) hx hy;have hd:(x+2*base-y-b)%base<base:=cE _ d_;have h1:base-1-x<base:=by unfold base at *;omega
 have h2:base-1-(x ^^^ y)<base:=by unfold base at *;omega
 rw[aHB (Zc (n:=32) (MY _ hy) (MY _ hd))];rw[Yo,Nat.testBit_and,Nat.testBit_and,Cu h1,Cu h2,Cu hy,Cu hd];have h3:(decide (2147483648<=x ^^^ y))=((decide (2147483648<=x))!=(decide (2147483648<=y))):=by rw[<-Cu kj,Nat.testBit_xor,Cu hx,Cu hy]
 have h4:decide (2147483648<=base-1-(x ^^^ y))=!(decide (2147483648<=x ^^^ y)):=by
  unfold base at *;by_cases h:2147483648<=x ^^^ y
  ·rw[aC h,aN o_];rfl
  ·rw[aN h,aC o_];rfl
 rw[h4,h3];unfold base at *;have e1:decide (2147483648<=4294967296-1-x)=!decide (2147483648<=x):=by
  by_cases h:2147483648<=x
  ·rw[aC h,aN o_];rfl
  ·rw[aN h,aC o_];rfl
 rw[e1];have fin:∀ p:Prop,[Decidable p]->(p↔x<y+b)->(if decide p=true then 1 else 0)=(if x<y+b then 1 else 0):=by
  intro p _ h;by_cases hp:p
  ·rw[aw (aC hp),aw (h.1 hp)]
  ·rw[ao (by simpa using hp),ao λh'=>hp (h.2 h')]
 by_cases c1:2147483648<=x<;>by_cases c2:2147483648<=y
 ·rw[aC c1,aC c2];simp only[JC,yO,yP,bne_self_eq_false,MZ,kD];exact fin _ o_
 ·rw[aC c1,aN c2,ao (show ¬x<y+b by omega)];rfl
 ·rw[aN c1,aC c2,aw (show x<y+b by omega)];rfl
 ·rw[aN c1,aN c2];simp only[MZ,kD,M3,yP,bne_self_eq_false];exact fin _ o_
theorem GI{x:Nat}(h:x<base):(BitVec.ofInt 32 (x:Int))=BitVec.ofNat 32 x:=by simp
theorem EF{x:Nat}(h:x<base):(BitVec.ofNat 32 x).toNat=x:=by rw[BitVec.toNat_ofNat];exact dK h
theorem Zd{x y:Nat}(hx:x<base)(hy:y<base):IntKind.u32.wrap (((BitVec.ofInt IntKind.u32.bits (x:Int))&&& (BitVec.ofInt IntKind.u32.bits (y:Int))).toNat:Int)=((x&&& y:Nat):Int):=by show IntKind.u32.wrap (((BitVec.ofInt 32 (x:Int))&&& (BitVec.ofInt 32 (y:Int))).toNat:Int)=_;rw[GI hx,GI hy,BitVec.toNat_and,EF hx,EF hy,nC];have:x&&& y<base:=MY (n:=32) _ hy;unfold base at this;omega
theorem R6{x y:Nat}(hx:x<base)(hy:y<base):IntKind.u32.wrap (((BitVec.ofInt IntKind.u32.bits (x:Int))||| (BitVec.ofInt IntKind.u32.bits (y:Int))).toNat:Int)=((x||| y:Nat):Int):=by
 show IntKind.u32.wrap (((BitVec.ofInt 32 (x:Int))||| (BitVec.ofInt 32 (y:Int))).toNat:Int)=_;rw[GI hx,GI hy,BitVec.toNat_or,EF hx,EF hy,nC];have:x||| y<base:=Zc (n:=32) hx hy
 unfold base at this;omega
theorem Ze{x y:Nat}(hx:x<base)(hy:y<base):IntKind.u32.wrap (((BitVec.ofInt IntKind.u32.bits (x:Int)) ^^^ (BitVec.ofInt IntKind.u32.bits (y:Int))).toNat:Int)=((x ^^^ y:Nat):Int):=by show IntKind.u32.wrap (((BitVec.ofInt 32 (x:Int)) ^^^ (BitVec.ofInt 32 (y:Int))).toNat:Int)=_;rw[GI hx,GI hy,BitVec.toNat_xor,EF hx,EF hy,nC];have:x ^^^ y<base:=Zb (n:=32) hx hy;unfold base at this;omega
theorem Zf{x:Nat}(hx:x<base):IntKind.u32.wrap (((BitVec.ofInt IntKind.u32.bits (if IntKind.u32.signed then -1 else IntKind.u32.max)) ^^^ (BitVec.ofInt IntKind.u32.bits (x:Int))).toNat:Int)=((base-1-x:Nat):Int):=by
 have h0:(if IntKind.u32.signed then -1 else IntKind.u32.max)=((base-1:Nat):Int):=by decide
 rw[h0,Ze d_ hx]
 congr 1
 have h1:=BitVec.toNat_not (x:=BitVec.ofNat 32 x);rw[show ~~~(BitVec.ofNat 32 x)=BitVec.allOnes 32 ^^^ BitVec.ofNat 32 x from rfl,BitVec.toNat_xor,EF hx]at h1;have h2:(BitVec.allOnes 32).toNat=base-1:=by decide
 rw[h2]at h1;exact h1
theorem Zg{x y b:Nat}(hx:x<base)(hy:y<base)(hb:b<=1):
  aE prog 221 [aX x,aX y,aX b] (.tuple #[aX ((x+2*base-y-b)%base),aX (if x<y+b then 1 else 0)]):=by
 have hd:(x+2*base-y-b)%base<base:=cE _ d_;have kj:x ^^^ y<base:=Zb (n:=32) hx hy;have h1:base-1-x<base:=by unfold base at *;omega
 have h2:base-1-(x ^^^ y)<base:=by unfold base at *;omega
 have h3:(base-1-x)&&& y<base:=MY (n:=32) _ hy;have h4:(base-1-(x ^^^ y))&&& ((x+2*base-y-b)%base)<base:=MY (n:=32) _ hd;exact aP func221 (λ_=>[
  .wr 10 .u32 ((x:Int)-y) (((x+base-y)%base:Nat):Int) (by rw[nC];unfold base at *;omega),
  .wr 12 .u32 ((((x+base-y)%base:Nat):Int)-b) (((x+2*base-y-b)%base:Nat):Int) (by rw[nC];unfold base at *;omega),
  .quo 14 .u32 _ ((base-1-x:Nat):Int) (Zf hx),
  .quo 16 .u32 _ (((base-1-x)&&& y:Nat):Int) (Zd h1 hy),
  .quo 19 .u32 _ ((x ^^^ y:Nat):Int) (Ze hx hy),
  .quo 20 .u32 _ ((base-1-(x ^^^ y):Nat):Int) (Zf kj),
  .quo 22 .u32 _ (((base-1-(x ^^^ y))&&& ((x+2*base-y-b)%base):Nat):Int) (Zd h2 hd),
  .quo 23 .u32 _ ((((base-1-x)&&& y)||| ((base-1-(x ^^^ y))&&& ((x+2*base-y-b)%base)):Nat):Int) (R6 h3 h4),
  .quo 24 .u32 (((((base-1-x)&&& y)||| ((base-1-(x ^^^ y))&&& ((x+2*base-y-b)%base)):Nat):Int).fdiv (2^31)) ((if x<y+b then 1 else 0:Nat):Int) (by rw[<-aHC hx hy hb,rK _ d_];rfl)])
section
variable{Bs:aa}{n m a b:Nat}
def GJ(n m a b i:Nat):aW:=[(15,vI i),(14,vI n),(13,sl 0 n),(1,sl 1 m),(5,sl 2 n),(6,aX (kB base a b i))]
def Cv(n m a b i:Nat):aH:=[(0,.view (al (ae base n a))),(1,.view (al (ae base m b))),(2,.row (al (ep base n i (a-b))) 176 1)]
theorem aHD{i:Nat}(hi:i<n)(hb:b<base^m)(b9:b<=a)(h63:n<9223372036854775807):
  ag prog Bs 41 (aF (af f210 0)) (GJ n m a b i) (Cv n m a b i) 3 ⟨.normal,GJ n m a b (i+1),Cv n m a b (i+1),3⟩:=by
 have hx:=gO (B:=base) d_ a i;have hy:=gO (B:=base) d_ b i;have hc:=MQ (B:=base) a b i;have tg:=Zg hx hy hc;rw[show a/base^i%base+2*base-b/base^i%base-kB base a b i=a/base^i%base+2*base-b/base^i%base-kB base a b i from rfl,R4 d_ b9,R3 d_]at tg;have bL:eW prog 176 (al (ep base n i (a-b))) i (aX ((a-b)/base^i%base))=some (al (ep base n (i+1) (a-b))):=by rw[yK _ i _ (by simp[al,MM];omega),yL,MN hi rfl]
 by_cases jC:i<m
 ·exact aA [.lt 16 i n true (by simp[hi]),.ix f210 18 0 n i hi k_,.ld f210 19 176 0 i (.view (al (ae base n a))) (aX (a/base^i%base)) rfl (by rw[fG];exact kC (ek hi)) k_,.lt 23 i m true (by simp[jC]),.ix f210 26 1 m i jC k_,.ld f210 27 176 1 i (.view (al (ae base m b))) (aX (b/base^i%base)) rfl (by rw[fG];exact kC (ek jC)) k_,tg.at 34,.ix f210 37 2 n i hi k_,.st f210 100037 176 2 i (.row (al (ep base n i (a-b))) 176 1) (aX ((a-b)/base^i%base)) (.row (al (ep base n (i+1) (a-b))) 176 1) rfl bL rfl k_,.sum 38 i 1 (i+1) rfl o_]
 ·have wU:b/base^i%base=0:=qy hb o_ d_;rw[wU]at tg;exact aA [.lt 16 i n true (by simp[hi]),.ix f210 18 0 n i hi k_,.ld f210 19 176 0 i (.view (al (ae base n a))) (aX (a/base^i%base)) rfl (by rw[fG];exact kC (ek hi)) k_,.lt 23 i m false (by simp[jC]),tg.at 34,.ix f210 37 2 n i hi k_,.st f210 100037 176 2 i (.row (al (ep base n i (a-b))) 176 1) (aX ((a-b)/base^i%base)) (.row (al (ep base n (i+1) (a-b))) 176 1) rfl bL rfl k_,.sum 38 i 1 (i+1) rfl o_]
theorem aHE(hb:b<base^m)(b9:b<=a)(h63:n<9223372036854775807):
  ag prog Bs 41 (.block 0 (af f210 0)) (GJ n m a b 0) (Cv n m a b 0) 3 ⟨.normal,GJ n m a b n,Cv n m a b n,3⟩:=
 bT (cd (b:=aF (af f210 0)) (r:=⟨.exit 0,GJ n m a b n,Cv n m a b n,3⟩) n (GJ n m a b) (Cv n m a b)
  (λi k _=>jN (l:=Cv n m a b i) (m:=Cv n m a b 0) rfl k) (λi hi=>aHD hi hb b9 h63) (aA [.lt 16 n n false s_]) n_)
end
theorem aHF{w:World}{va vb:Value}{a b:Nat}(fY:iw w va a)(kX:iw w vb b)(b9:b<=a)(h1:nd base a<35184372088832):
  Calls prog 210 #[va,vb] w λe w'=>∃ v,e=.returned v/\jD w w' v (a-b)/\Below w.heap.size w w':=by
 have ha:=dS (B:=base) d_ a;have hb:=dS (B:=base) d_ b;have hl:∀ s∈[cA.row va (nd base a) (al (ae base (nd base a) a)),cA.row vb (nd base b) (al (ae base (nd base b) b))],s.OK w:=by
  intro s hs;simp at hs;rcases hs with rfl|rfl
  ·exact⟨fY,fB _⟩
  ·exact⟨kX,fB _⟩
 unfold iw at fY kX;generalize nd base a=n at *;generalize nd base b=m at *;have hs:a-b<base^n:=by omega
 refine lD (Q:=λe w'=>∃ v,e=.returned v/\jD w w' v (a-b)/\Below w.heap.size w w') mixed func210 [cA.row va n (al (ae base n a)),cA.row vb m (al (ae base m b))] hl 100 (N:=41) k_
  (rs:=[(aY.pM f210 12 2 n 176 4 (aX 0) (al (ep base n 0 (a-b))) (by rw[R0,EE]) rfl rfl o_ (by simp[maxLen];omega) k_:aY prog (aa.at w) 41),.rw 6 (.int .u32 0) (aX (kB base a b 0)) (by rw[R2];rfl),.code 0 _ _ _ _ _ (aHE (n:=n) hb b9 o_),.trim f210 40 2 n (a-b) (.row (al (ep base n n (a-b))) 176 1) rfl (by rw[<-GF];rfl) hs o_ (y:=.func 175) k_])
  (v:=.slice (some ⟨2,0,some 7⟩) (nd base (a-b)) 0) (ms:=[(2,.row (al (ep base n n (a-b))) 176 1)]) k_ λau bY v' w' hc bo dy _=>⟨v',rfl,?_,bo.base⟩
 have hk:=dy _ (aV ..);rw[GF]at hk;exact wW bo hk hs hc
structure AV(g:Nat)(w w':World):Prop where
 os:sT w w'
 tape:w'.tape=w.tape
 output:w'.output=w.output
 size:w.heap.size<=w'.heap.size
 block:∀ k,k<w.heap.size->k≠g->w'.heap[k]?=w.heap[k]?
def aa.vy(w0:World)(g:Nat):aa where
 G w:=AV g w0 w
 cO k:=k<w0.heap.size/\k≠g
 lt w k h hk:=cv hk.1 h.size
 dep w w' h h1 h2 h3 h4 h5:=⟨h1.trans h.os,h2.trans h.tape,h3.trans h.output,de h.size h4,λk hk hg=>(h5 k ⟨hk,hg⟩).trans (h.block k hk hg)⟩
section
variable{P:Program}{B:aa}{N:Nat}
theorem R7{w:World}{g cap size:Nat}{cur:Array Value}{ty:TypeId}{cells:aj}(hg:w.heap[g]?=some (.cells cur ty (0,0)))(jy:cap<=maxLen)(bH:cur.size=cap*size)(hc:cur.toList.take cells.length=cells)(cN:∀ v∈cells,flat v=true):
  aQ (aa.vy w g) (dF (λ_=>none) 0 (.at g 0 cap)) (ba (λ_=>none) 0 (.row cells ty size)) w:=by
 have h0:aQ (aa.vy w g) (λ_=>none) (λ_=>none) w:=
  ⟨⟨.refl w,rfl,rfl,bj _,λ_ _ _=>rfl⟩,λ_ _=>rfl,λk x h=>(by cases h),λk x b o cap h=>(by cases h),λk j x y b o cap o' aT h=>(by cases h),λk j x F b o cap v h=>(by cases h),λk x b o cap h=>(by cases h),λj F h=>(by cases h),λj k F F' h=>(by cases h),λ_ _ h=>(by cases h)⟩
 refine h0.add rfl (.inr ⟨g,cap,cur,rfl,hg,jy,bH,by rw[hc];exact ke cN⟩) (λb o cp _ e=>?_) n_ n_;injection e with e1 e2 e3;subst e1;exact⟨(yC.1 hg).1,λh=>h.2 rfl,λj y o' aT h=>(by cases h),λj F v h=>(by cases h),λj y o' aT h=>(by cases h)⟩
theorem R8{w w':World}{ι:Map}{c:Nat->Option Obj}{g cap size:Nat}{ty:TypeId}{cells:aj}(hm:aQ (aa.vy w g) ι c w')(qk:ι 0=some (.at g 0 cap))(hk:c 0=some (.row cells ty size))(cN:∀ v∈cells,flat v=true):
  AV g w w'/\∃ cur,w'.heap[g]?=some (.cells cur ty (0,0))/\cur.size=cap*size/\cur.toList.take cells.length=cells:=by
 refine⟨hm.base,?_⟩;obtain⟨l,h1,h2⟩:=hm.born 0 _ hk;rw[qk]at h1;injection h1 with h1;subst h1;rcases h2 with h2|⟨b,aT,cur,e1,e2,e3,e4,e5⟩
 ·cases h2.1
 ·injection e1 with e1 Cw Cx;subst e1;subst Cx;exact⟨cur,e2,e4,nr e5 cN⟩
theorem Zh(c:Nat->Option Obj)(k:Nat)(x:Obj):cT (ba c k x) [(k,x)]:=by
 intro j y hj;by_cases h:k=j
 ·subst h;have:ah [(k,x)] k=some x:=by simp[ah]
  rw[this]at hj;rw[<-hj];unfold ba;rw[aw rfl]
 ·have:ah [(k,x)] j=none:=by show(if Nat.beq k j then _ else _)=_;rw[nY h];rfl
  rw[this]at hj;cases hj
theorem aHG{ι:Map}{pre post:aj}{v:Value}(h1:∀ u∈pre,flat u=true)(h2:∀ u∈post,flat u=true):∀{l:aj},bK (aG ι) (pre++v::post) l->∃ v',aG ι v v'/\l=pre++v'::post:=by
 induction pre with
 |nil=>
  intro l h;cases h with
  |cons hv t=>exact⟨_,hv,by rw[nr t h2];rfl⟩
 |cons u pre ih=>
  intro l h;cases h with
  |cons hu t=>
   obtain⟨v',q1,q2⟩:=ih (λx hx=>h1 x (bF _ hx)) t;exact⟨v',q1,by rw[q2,hu.eU (h1 _ (aV ..))];rfl⟩
theorem aHH{o:Oper}{x:Operand}{f:FuncId}{fi args ca pre post:aj}{k n size:Nat}{ty:TypeId}{cells cells':aj}{val:Value}(ho:dw o.op=some x)(eK:gi P f=true)
  (df:fi++args++ca=pre++.slice (some ⟨k,0,some 7⟩) n 0::post) (Me:∀ u∈pre,flat u=true) (R9:∀ u∈post,flat u=true) (hn:0<n) (cN:∀ v∈cells,flat v=true) (AW:∀ v∈cells',flat v=true) (kE:flat val=true)
  (h:∀ w g cap cur,w.heap[g]?=some (.cells cur ty (0,0))->n<=cap->cap<=maxLen->cur.size=cap*size->cur.toList.take cells.length=cells->Calls P f (pre++.slice (some ⟨g,0,none⟩) n cap::post).toArray w λe w'=>e=.returned val/\AV g w w'/\∃ fK,w'.heap[g]?=some (.cells fK ty (0,0))/\fK.size=cap*size/\fK.toList.take cells'.length=cells') :
  cB P B o (.func (.func f) fi.toArray ca.toArray::args) [(k,some (.row cells ty size))] val [(k,.row cells' ty size)]:=by
 refine jB ho eK λι c w hm jQ args' bd=>?_;rw[df]at bd;have hk:c k=some (.row cells ty size):=jQ _ (aV ..);obtain⟨v,hv,rfl⟩:=aHG Me R9 bd;rcases hv.gV rfl with ⟨_,h0,_⟩|⟨g,oo,cap,c',hb,lq,mC,he⟩
 ·omega
 ·dsimp only at hb he;have kg:c'=cap:=by omega
  subst kg;obtain⟨l,q1,q2⟩:=hm.born k _ hk;rw[hb]at q1;injection q1 with q1;subst q1;rcases q2 with q2|⟨b,aT,cur,e1,lY,dC,fV,iY⟩
  ·cases q2.1
  ·injection e1 with e1 e2 e3;subst e1;subst e2;subst e3;rw[he];refine(h w g c' cur lY lq dC fV (nr iY cN)).mono ?_
   rintro e w' ⟨rfl,pP,fK,p1,p2,p3⟩
   refine⟨ι,val,rfl,Map.le.refl _,.same kE,hm.write hk rfl hb pP.os pP.tape pP.output pP.size (λj hj EG=>pP.block j hj EG) (.inr ⟨g,c',fK,rfl,p1,dC,p2,?_⟩) n_ rfl⟩;rw[p3];exact ke AW
end
theorem aHI{x y:Nat}(hx:x<base)(hy:y<base):aE prog 233 [aX x,aX y] (.tuple #[aX (x*y/base),aX (x*y%base)]):=by
 have h:x*y<base*base:=pN hx hy;exact aP func233 (λ_=>[
  .wr 8 .u64 x x (by rw[jP];unfold base at *;omega),.wr 10 .u64 y y (by rw[jP];unfold base at *;omega),
  .wr 11 .u64 ((x:Int)*y) ((x*y:Nat):Int) (by rw[jP,<-nW];unfold base at *;omega),
  .quo 13 .u64 (((x*y:Nat):Int).fdiv (2^32)) ((x*y/base:Nat):Int) (by rw[rK _ d_];rfl),
  .wr 14 .u32 ((x*y/base:Nat):Int) ((x*y/base:Nat):Int) (by rw[nC];have:x*y/base<base:=(iv d_).2 h;unfold base at *;omega),
  .wr 16 .u32 ((x*y:Nat):Int) ((x*y%base:Nat):Int) (by rw[nC];unfold base at *;omega)])
section
variable{Bs:aa}{n p t:Nat}
def yQ(n i p t:Nat):aH:=[(0,.row (al (c7 base n i (p+t) p)) 176 1)]
def JD(n i p t:Nat):aW:=[(0,sl 0 n),(11,vI i),(10,aX (eM base p t i))]
theorem Sa{i:Nat}(hi:i<n):eW prog 176 (al (c7 base n i (p+t) p)) i (aX ((p+t)/base^i%base))=some (al (c7 base n (i+1) (p+t) p)):=by rw[yK _ i _ (by simp[al,wS];omega),yL,yJ hi rfl]
theorem aHJ{i:Nat}(hi:i<n)(ht:t<base^i)(hc:eM base p t i≠0)(h63:n<9223372036854775807):
  ag prog Bs 63 (aF (af f229 0)) (JD n i p t) (yQ n i p t) 1 ⟨.normal,JD n (i+1) p t,yQ n (i+1) p t,1⟩:=by
 have gj:=AU (B:=base) d_ p t i;have yN:=Jz (x:=p/base^i%base) (y:=t/base^i%base) (c:=eM base p t i) (gO d_ _ _) (gO d_ _ _) (eL gj d_);rw[GH d_,EB d_,qy ht (bj _) d_]at yN;exact aA [.rw 48 (.bool (((eM base p t i:Nat):Int)!=0)) (.bool true) (by congr 1;rw[uC];omega),.ix f229 56 0 n i hi k_,.ld f229 57 176 0 i (.row (al (c7 base n i (p+t) p)) 176 1) (aX (p/base^i%base)) rfl (by rw[fG];exact kC (Cr hi (bj _))) k_,yN.at 59,.ix f229 62 0 n i hi k_,.st f229 100062 176 0 i (.row (al (c7 base n i (p+t) p)) 176 1) (aX ((p+t)/base^i%base)) (.row (al (c7 base n (i+1) (p+t) p)) 176 1) rfl (Sa hi) rfl k_,.sum 50 i 1 (i+1) rfl o_]
theorem aHK{i:Nat}(hc:eM base p t i=0):ag prog Bs 63 (aF (af f229 0)) (JD n i p t) (yQ n i p t) 1 ⟨.exit 0,[],yQ n i p t,1⟩:=
 aA [.rw 48 (.bool (((eM base p t i:Nat):Int)!=0)) (.bool false) (by rw[hc];rfl)]
theorem aHL{i:Nat}(hi:i<=n)(ht:t<base^i)(hp:p<base^n)(hs:p+t<base^n)(h63:n<9223372036854775807):
  ag prog Bs 63 (.block 0 (af f229 0)) (JD n i p t) (yQ n i p t) 1 ⟨.normal,[],[(0,.row (al (ae base n (p+t))) 176 1)],1⟩:=by
 have h0:eM base p t (i+(n-i))=0:=by rw[show i+(n-i)=n by omega,R1 hp o_,l8 hs]
 obtain⟨e,h1,h2,h3⟩:=yI (λj=>eM base p t (i+j)=0) (n-i) h0;have M4:t<base^(i+e):=cv ht (cZ d_ o_)
 have:=cd (P:=prog) (B:=Bs) (N:=63) (b:=aF (af f229 0)) (next:=1) (r:=⟨.exit 0,[],yQ n (i+e) p t,1⟩) e (λj=>JD n (i+j) p t) (λj=>yQ n (i+j) p t)
  (λj k _=>jN (l:=yQ n (i+j) p t) (m:=yQ n (i+0) p t) rfl k)
  (λj hj=>aHJ o_ (cv ht (cZ d_ o_)) (h3 j hj) h63) (aHK h2) n_
 have:=bT (id:=0) this;unfold yQ at this;rw[aHo d_ M4 h2]at this;exact this
end
theorem aHM{w:World}{g cap n at' p x y:Nat}{cur:Array Value}(hg:w.heap[g]?=some (.cells cur 176 (0,0)))(lq:n<=cap)(jy:cap<=maxLen)(bH:cur.size=cap*1)(hc:cur.toList.take (al (ae base n p)).length=al (ae base n p))
  (hx:x<base) (hy:y<base) (mE:at'+1<n) (hp:p<base^n) (hs:p+x*y*base^at'<base^n) (h63:n<35184372088832) :
  Calls prog 229 #[.slice (some ⟨g,0,none⟩) n cap,vI at',aX x,aX y] w λe w'=>e=.returned (.tuple #[])/\AV g w w'/\∃ fK,w'.heap[g]?=some (.cells fK 176 (0,0))/\fK.size=cap*1/\
   fK.toList.take (al (ae base n (p+x*y*base^at'))).length=al (ae base n (p+x*y*base^at')):=by
 have hm:=R7 hg jy bH hc (fB _);have kj:x*y<base*base:=pN hx hy;have ht:=aHr (B:=base) d_ (at':=at') kj;have d0:=aHp (B:=base) d_ at' (x*y);have d1:=aHq (B:=base) d_ (at':=at') kj;have c0:=aHn (B:=base) d_ at' p (x*y);have m0:=Y1 (B:=base) d_ n at' p (x*y);have s1:eW prog 176 (al (c7 base n at' (p+x*y*base^at') p)) at' (aX ((p+x*y*base^at')/base^at'%base))=some (al (c7 base n (at'+1) (p+x*y*base^at') p)):=Sa o_;have s2:eW prog 176 (al (c7 base n (at'+1) (p+x*y*base^at') p)) (at'+1) (aX ((p+x*y*base^at')/base^(at'+1)%base))=some (al (c7 base n (at'+2) (p+x*y*base^at') p)):=Sa mE;have lo:=aHL (Bs:=aa.vy w g) (i:=at'+2) o_ ht hp hs o_;generalize x*y*base^at'=t at *;have Zi:=Jz (x:=p/base^at'%base) (y:=t/base^at'%base) (c:=eM base p t at') (gO d_ _ _) (gO d_ _ _) (by rw[c0];decide);rw[GH d_,EB d_,d0,c0]at Zi;have gj:=AU (B:=base) d_ p t (at'+1);have Zj:=Jz (x:=p/base^(at'+1)%base) (y:=t/base^(at'+1)%base) (c:=eM base p t (at'+1)) (gO d_ _ _) (gO d_ _ _) (eL gj d_);rw[GH d_,EB d_,d1]at Zj
 refine rG (M:=[(0,.row (al (ae base n p)) 176 1)]) (next:=1) (args:=[sl 0 n,vI at',aX x,aX y]) (args':=[.slice (some ⟨g,0,none⟩) n cap,vI at',aX x,aX y]) (v:=.tuple #[])
  (ms:=[(0,.row (al (ae base n (p+t))) 176 1)]) (N:=63) mixed func229 k_ 100
  (rs:=[((aHI hx hy).at 15:aY prog (aa.vy w g) 63),.ix f229 23 0 n at' o_ k_,.ld f229 24 176 0 at' (.row (al (ae base n p)) 176 1) (aX (p/base^at'%base)) rfl (by rw[fG];exact kC (ek o_)) k_,Zi.at 26,.ix f229 29 0 n at' o_ k_,.st f229 100029 176 0 at' (.row (al (ae base n p)) 176 1) (aX ((p+t)/base^at'%base)) (.row (al (c7 base n (at'+1) (p+t) p)) 176 1) rfl (by rw[<-m0];exact s1) rfl k_,.sum 33 at' 1 (at'+1) rfl o_,.sum 36 at' 1 (at'+1) rfl o_,.ix f229 37 0 n (at'+1) mE k_,.ld f229 38 176 0 (at'+1) (.row (al (c7 base n (at'+1) (p+t) p)) 176 1) (aX (p/base^(at'+1)%base)) rfl (by rw[fG];exact kC (Cr mE (bj _))) k_,Zj.at 41,.ix f229 44 0 n (at'+1) mE k_,.st f229 100044 176 0 (at'+1) (.row (al (c7 base n (at'+1) (p+t) p)) 176 1) (aX ((p+t)/base^(at'+1)%base)) (.row (al (c7 base n (at'+2) (p+t) p)) 176 1) rfl s2 rfl k_,.sum 46 at' 2 (at'+2) rfl o_,.code 0 _ _ _ _ _ lo]) k_ ?_ hm ?_ ?_ ?_
 ·exact .cons (.slc (off:=0) (fD _ _ _) lq o_) (.cons (.same rfl) (.cons (.same rfl) (.cons (.same rfl) .nil)))
 ·exact Zh _ _ _
 ·intro k hk;unfold ba;rw[ao o_]
 ·intro au bY v' w' hle sV bo dy;obtain⟨q1,q2⟩:=R8 bo (hle 0 _ (fD _ _ _)) (dy _ (aV ..)) (fB _);exact⟨by rw[sV.eU rfl],q1,q2⟩
section
variable{Bs:aa}{n m a b:Nat}
def yR(n m a b i k:Nat):Obj:=.row (al (ae base (n+m+1) (part base a b i k))) 176 1
def Sb(N:Nat):Value:=.func (.func 229) #[sl 2 N] #[]
theorem aHN{o:Oper}{x:Operand}(ho:dw o.op=some x){i k:Nat}(hi:i<n)(hk:k<m)(ha:a<base^n)(hb:b<base^m)(h63:n+m+1<35184372088832):
  cB prog Bs o [Sb (n+m+1),vI (i+k),aX (a/base^i%base),aX (b/base^k%base)] [(2,some (yR n m a b i k))] (.tuple #[]) [(2,yR n m a b i (k+1))]:=by
 refine aHH (fi:=[sl 2 (n+m+1)]) (args:=[vI (i+k),aX (a/base^i%base),aX (b/base^k%base)]) (ca:=[]) (pre:=[]) (post:=[vI (i+k),aX (a/base^i%base),aX (b/base^k%base)]) ho k_ rfl n_
  (λu hu=>by simp at hu;rcases hu with rfl|rfl|rfl<;>rfl) o_ (fB _) (fB _) rfl λw g cap cur h1 h2 h3 h4 h5=>?_
 have ak:=Y6 (B:=base) d_ ha hb;rw[Y4]
 exact aHM h1 h2 h3 h4 h5 (gO d_ _ _) (gO d_ _ _) o_ (eL (Y5 d_ _ _ _ _) ak)
  (by rw[<-Y4];exact eL (Y5 d_ _ _ _ _) ak) h63
def GK(n m a b i k:Nat):aW:=[(29,vI k),(28,vI m),(27,sl 1 m),(6,Sb (n+m+1)),(7,vI i),(8,aX (a/base^i%base))]
def Cy(n m a b i k:Nat):aH:=[(1,.view (al (ae base m b))),(2,yR n m a b i k)]
theorem aHO{i k:Nat}(hi:i<n)(hk:k<m)(ha:a<base^n)(hb:b<base^m)(h63:n+m+1<35184372088832):
  ag prog Bs 45 (aF (af f217 2)) (GK n m a b i k) (Cy n m a b i k) 3 ⟨.normal,GK n m a b i (k+1),Cy n m a b i (k+1),3⟩:=
 aA [.lt 30 k m true (by simp[hk]),.ix f217 32 1 m k hk k_,.ld f217 33 176 1 k (.view (al (ae base m b))) (aX (b/base^k%base)) rfl (by rw[fG];exact kC (ek hk)) k_,.sum 37 i k (i+k) rfl o_,.step 40 (av f217 40) _ _ _ _ (aHN (x:=.tmp 34) k_ hi hk ha hb h63),.sum 41 k 1 (k+1) rfl o_]
theorem aHP{i:Nat}(hi:i<n)(ha:a<base^n)(hb:b<base^m)(h63:n+m+1<35184372088832):
  ag prog Bs 45 (.block 2 (af f217 2)) (GK n m a b i 0) (Cy n m a b i 0) 3 ⟨.normal,GK n m a b i m,[(1,.view (al (ae base m b))),(2,yR n m a b (i+1) 0)],3⟩:=by
 have:=cd (P:=prog) (B:=Bs) (N:=45) (b:=aF (af f217 2)) (r:=⟨.exit 2,GK n m a b i m,Cy n m a b i m,3⟩) m (GK n m a b i) (Cy n m a b i)
  (λk j _=>jN (l:=Cy n m a b i k) (m:=Cy n m a b i 0) rfl j) (λk hk=>aHO hi hk ha hb h63) (aA [.lt 30 m m false s_]) n_
 have:=bT (id:=2) this;unfold Cy yR at this;rw[aHs hb]at this;exact this
def GL(n m i:Nat):aW:=[(22,vI i),(21,vI n),(20,sl 0 n),(1,sl 1 m),(5,sl 2 (n+m+1)),(6,Sb (n+m+1))]
def Cz(n m a b i:Nat):aH:=[(0,.view (al (ae base n a))),(1,.view (al (ae base m b))),(2,yR n m a b i 0)]
theorem aHQ{i:Nat}(hi:i<n)(ha:a<base^n)(hb:b<base^m)(h63:n+m+1<35184372088832):
  ag prog Bs 45 (aF (af f217 0)) (GL n m i) (Cz n m a b i) 3 ⟨.normal,GL n m (i+1),Cz n m a b (i+1),3⟩:=
 aA [.lt 23 i n true (by simp[hi]),.ix f217 25 0 n i hi k_,.ld f217 26 176 0 i (.view (al (ae base n a))) (aX (a/base^i%base)) rfl (by rw[fG];exact kC (ek hi)) k_,.code 2 _ _ _ _ _ (aHP hi ha hb h63),.sum 42 i 1 (i+1) rfl o_]
theorem aHR(ha:a<base^n)(hb:b<base^m)(h63:n+m+1<35184372088832):
  ag prog Bs 45 (.block 0 (af f217 0)) (GL n m 0) (Cz n m a b 0) 3 ⟨.normal,GL n m n,Cz n m a b n,3⟩:=
 bT (cd (b:=aF (af f217 0)) (r:=⟨.exit 0,GL n m n,Cz n m a b n,3⟩) n (GL n m) (Cz n m a b)
  (λi k _=>jN (l:=Cz n m a b i) (m:=Cz n m a b 0) rfl k) (λi hi=>aHQ hi ha hb h63) (aA [.lt 23 n n false s_]) n_)
end
theorem Sc(B n:Nat):ae B n 0=List.replicate n 0:=by apply wR<;>simp[ae]
theorem aHS{w:World}{va vb:Value}{a b:Nat}(fY:iw w va a)(kX:iw w vb b)(h63:nd base a+nd base b+1<35184372088832):
  Calls prog 217 #[va,vb] w λe w'=>∃ v,e=.returned v/\jD w w' v (a*b)/\Below w.heap.size w w':=by
 have ha:=dS (B:=base) d_ a;have hb:=dS (B:=base) d_ b;have hl:∀ s∈[cA.row va (nd base a) (al (ae base (nd base a) a)),cA.row vb (nd base b) (al (ae base (nd base b) b))],s.OK w:=by
  intro s hs;simp at hs;rcases hs with rfl|rfl
  ·exact⟨fY,fB _⟩
  ·exact⟨kX,fB _⟩
 unfold iw at fY kX;generalize nd base a=n at *;generalize nd base b=m at *;have hs:=Y6 (B:=base) d_ ha hb;have bd:part base a b n 0=a*b:=by rw[Cs,dK ha]
 refine lD (Q:=λe w'=>∃ v,e=.returned v/\jD w w' v (a*b)/\Below w.heap.size w w') mixed func217 [cA.row va n (al (ae base n a)),cA.row vb m (al (ae base m b))] hl 100 (N:=45) k_
  (rs:=[(aY.sum 15 n m (n+m) rfl o_:aY prog (aa.at w) 45),.sum 16 (n+m) 1 (n+m+1) rfl o_,.pM f217 17 2 (n+m+1) 176 4 (aX 0) (yR n m a b 0 0).cells (by show _=al (ae base (n+m+1) (part base a b 0 0));rw[Cs,rL,tf,lC,Sc,EE]) rfl rfl o_ (by simp[maxLen];omega) k_,.code 0 _ _ _ _ _ (aHR (n:=n) (m:=m) ha hb h63),.trim f217 44 2 (n+m+1) (a*b) (yR n m a b n 0) rfl (by rw[<-bd];rfl) hs o_ (y:=.func 175) k_])
  (v:=.slice (some ⟨2,0,some 7⟩) (nd base (a*b)) 0) (ms:=[(2,yR n m a b n 0)]) k_ λau bY v' w' hc bo dy _=>⟨v',rfl,?_,bo.base⟩
 have hk:=dy _ (aV ..);unfold yR at hk;rw[bd]at hk;exact wW bo hk hs hc
section
variable{P:Program}{B:aa}{N:Nat}
def GM(o:Oper):Option BinOp:=match o.op with|.binOp b _ _ _ _=>some b|_=>none
theorem M5{o:Oper}{b:BinOp}(ho:GM o=some b)(hb:b≠.eql/\b≠.neq){x y v:Value}(hx:flat x=true)(hy:flat y=true)(hv:flat v=true)(h:∀ t w,(binOp b t x y).run P w=.ok v w):
  cB P B o [x,y] [] v []:=by
 unfold GM at ho;split at ho
 ·rename_i b' t p q t2 bP;injection ho with ho;subst ho;refine(AA (λu hu=>by simp at hu;rcases hu with rfl|rfl<;>assumption) hv λρ e7 w _=>?_).step;rw[bP]at e7;simp[Op.operands]at e7;have hg:(eqGuard b' t p q (ρ p) (ρ q)).run P w=.ok () w:=by unfold eqGuard;cases b'<;>first|rfl|exact absurd rfl hb.1|exact absurd rfl hb.2
  simp only[execOp,bP,e7.1,e7.2];rw[e7.1,e7.2]at hg;simp[hg,h]
 ·cases ho
def aY.shl(fn:Func)(key:Nat)(k:IntKind)(x r:Int)(n:Nat)(hr:k.wrap (x*2^(min n k.bits))=r)(ho:GM (av fn key)=some .shl):aY P B N:=
 .step key (av fn key) [.int k x,vI n] [] (.int k r) [] (M5 ho ⟨λe=>(by cases e),λe=>(by cases e)⟩ rfl rfl rfl λt w=>by
  have h0:¬((n:Int)<0):=by omega
  simp[binOp,Op.shift,vI,h0,hr])
def aY.shr(fn:Func)(key:Nat)(k:IntKind)(x r:Int)(n:Nat)(hr:x.fdiv (2^(min n k.bits))=r)(ho:GM (av fn key)=some .shr):aY P B N:=
 .step key (av fn key) [.int k x,vI n] [] (.int k r) [] (M5 ho ⟨λe=>(by cases e),λe=>(by cases e)⟩ rfl rfl rfl λt w=>by
  have h0:¬((n:Int)<0):=by omega
  simp[binOp,Op.shift,vI,h0,hr])
def aY.pQ(fn:Func)(key:Nat)(k:IntKind)(x y r:Int)(hy:y≠0)(hr:k.wrap (x.tdiv y)=r)(ho:GM (av fn key)=some .quo):aY P B N:=
 .step key (av fn key) [.int k x,.int k y] [] (.int k r) [] (M5 ho ⟨λe=>(by cases e),λe=>(by cases e)⟩ rfl rfl rfl λt w=>by simp[binOp,Op.intDiv,hy,hr])
def aY.th(fn:Func)(key:Nat)(k:IntKind)(x y r:Int)(hy:y≠0)(hr:x.tmod y=r)(ho:GM (av fn key)=some .rem):aY P B N:=
 .step key (av fn key) [.int k x,.int k y] [] (.int k r) [] (M5 ho ⟨λe=>(by cases e),λe=>(by cases e)⟩ rfl rfl rfl λt w=>by simp[binOp,Op.intDiv,hy,hr])
def GN(P:Program)(o:Oper):Bool:=match o.op with
 |.index t _ _=>match P.underlying t with|some .string=>true|_=>false
 |_=>false
theorem aHT{o:Oper}(ho:GN P o=true){s:ByteArray}{i:Nat}{c:UInt8}(hc:s[i]?=some c):cB P B o [.string s,vI i] [] (.int .u8 (c.toNat:Int)) []:=by
 unfold GN at ho;split at ho
 ·rename_i t p q bP;split at ho
  ·rename_i ht;refine(AA (λu hu=>by simp at hu;rcases hu with rfl|rfl<;>rfl) rfl λρ e7 w _=>?_).step;rw[bP]at e7;simp[Op.operands]at e7;have h0:(0:Int)<=(i:Int):=by omega
   simp[execOp,bP,e7.1,e7.2,Instr.index,vI,asIntOf,iG ht,h0,hc]
  ·cases ho
 ·cases ho
def aY.sx(fn:Func)(key:Nat)(s:ByteArray)(i:Nat)(c:UInt8)(hc:s[i]?=some c)(ho:GN P (av fn key)=true):aY P B N:=
 .step key (av fn key) [.string s,vI i] [] (.int .u8 (c.toNat:Int)) [] (aHT ho hc)
def Sd(P:Program)(o:Oper):Bool:=match o.op with
 |.slice t _ (some _) none none=>match P.underlying t with|some .string=>true|_=>false
 |_=>false
theorem aHU{o:Oper}(ho:Sd P o=true){s:ByteArray}{i:Nat}(hi:i<=s.size):cB P B o [.string s,vI i] [] (.string (s.extract i s.size)) []:=by
 unfold Sd at ho;split at ho
 ·rename_i t p q bP;split at ho
  ·rename_i ht;refine(AA (λu hu=>by simp at hu;rcases hu with rfl|rfl<;>rfl) rfl λρ e7 w _=>?_).step;rw[bP]at e7;simp[Op.operands]at e7;have h0:(0:Int)<=(i:Int):=by omega
   have h1:(i:Int)<=(s.size:Int):=by omega
   simp[execOp,bP,e7.1,e7.2,Instr.sliceAt,Instr.slice,Instr.sliceBounds,Instr.sliceBound,vI,asIntOf,iG ht,h0,hi]
  ·cases ho
 ·cases ho
def aY.sf(fn:Func)(key:Nat)(s:ByteArray)(i:Nat)(hi:i<=s.size)(ho:Sd P (av fn key)=true):aY P B N:=
 .step key (av fn key) [.string s,vI i] [] (.string (s.extract i s.size)) [] (aHU ho hi)
end
def fP(l:List UInt8):Nat:=l.foldl (λa c=>a*256+c.toNat) 0
theorem Se:∀(l:List UInt8) (a:Nat),l.foldl (λa c=>a*256+c.toNat) a=a*256^l.length+fP l
 |[],a=>by simp[fP]
 |c::l,a=>by have e:fP (c::l)=(0*256+c.toNat)*256^l.length+fP l:=Se l (0*256+c.toNat);rw[uu,Se l,e,oA,dx,fA,lC,jY,fF,cP 256];omega
theorem JE(c:UInt8)(l:List UInt8):fP (c::l)=c.toNat*256^l.length+fP l:=by have:=Se l (0*256+c.toNat);have e:fP (c::l)=List.foldl (λa c=>a*256+c.toNat) (0*256+c.toNat) l:=rfl;rw[e,this,lC,jY]
theorem AX:∀(l:List UInt8),fP l<256^l.length
 |[]=>by simp[fP]
 |c::l=>by
  have h1:=AX l;have h2:c.toNat<256:=c.toNat_lt;rw[JE,oA,dx];have:c.toNat*256^l.length+256^l.length<=256^l.length*256:=by rw[<-yH,cP];exact jc _ o_
  omega
theorem Zk:∀(l:List UInt8) (i:Nat),i<l.length->∃ c,l[l.length-1-i]?=some c/\c.toNat=fP l/256^i%256
 |[],i,h=>by simp at h
 |c::l,i,h=>by
  rw[oA]at h;rw[JE];rcases eF i l.length with hi|hi
  ·obtain⟨d,h1,h2⟩:=Zk l i hi;refine⟨d,?_,?_⟩
   ·rw[oA,show l.length+1-1-i=(l.length-1-i)+1 by omega,List.getElem?_cons_succ];exact h1
   ·rw[h2];have e:256^l.length=256^i*(256*256^(l.length-i-1)):=by rw[<-Nat.pow_succ',<-ev];congr 1;omega
    rw[e,show c.toNat*(256^i*(256*256^(l.length-i-1)))=256^i*(256*(c.toNat*256^(l.length-i-1)))by rw[mJ,mJ c.toNat],mI,Jw _ _ (cG d_),ED]
  ·have e:i=l.length:=by omega
   subst e;refine⟨c,by simp,?_⟩;have h1:=AX l;have h2:c.toNat<256:=c.toNat_lt;rw[cP,mI,Jw _ _ (cG d_),l8 h1,jY,dK h2]
def kk(s:ByteArray):Nat:=fP s.data.toList
theorem Zl(s:ByteArray)(i:Nat):s[i]?=s.data.toList[i]?:=by
 by_cases h:i<s.size
 ·rw[getElem?_pos s i h,bf (by simpa using h)];rfl
 ·rw[getElem?_neg s i h,Ay (by simpa using h)]
theorem Zm(s:ByteArray):kk s<256^s.size:=AX _
theorem Sf(s:ByteArray){i:Nat}(h:i<s.size):∃ c,s[s.size-1-i]?=some c/\c.toNat=kk s/256^i%256:=by rw[Zl];exact Zk s.data.toList i (by simpa using h)
theorem aHV{a i:Nat}:(a%256^i/4294967296^(i/4)%4294967296)||| (a/256^i%256*2^(8*(i%4)))=a%256^(i+1)/4294967296^(i/4)%4294967296:=by
 have hB:(4294967296:Nat)=256^4:=by decide
 have e1:(4294967296:Nat)^(i/4)=256^(4*(i/4)):=by rw[hB,<-rM]
 have e2:(2:Nat)^(8*(i%4))=256^(i%4):=by rw[rM]
 have e3:256^i=256^(4*(i/4))*256^(i%4):=by rw[<-ev];congr 1;omega
 have hq:0<256^(4*(i/4)):=cG d_;have hr:256^(i%4)*256<=4294967296:=by rw[hB,<-dx];exact cZ d_ o_
 rw[e1,e2];have m1:a%256^i/256^(4*(i/4))=a/256^(4*(i/4))%256^(i%4):=by rw[e3,AY]
 have m2:a%256^(i+1)/256^(4*(i/4))=a/256^(4*(i/4))%(256^(i%4)*256):=by rw[dx,e3,fF,AY]
 have m3:a/256^i%256=a/256^(4*(i/4))/256^(i%4)%256:=by rw[e3,kA]
 rw[m1,m2,m3];generalize a/256^(4*(i/4))=c;have hp:0<256^(i%4):=cG d_;have h1:=cE c hp;have h2:c/256^(i%4)%256<256:=cE _ d_;have h3:c%(256^(i%4)*256)=c%256^(i%4)+256^(i%4)*(c/256^(i%4)%256):=MO;have h4:c%(256^(i%4)*256)<256^(i%4)*256:=cE _ o_;rw[dK (show c%256^(i%4)<4294967296 by omega),dK (show c%(256^(i%4)*256)<4294967296 by omega),h3];have e4:(256:Nat)^(i%4)=2^(8*(i%4)):=by rw[rM]
 rw[e4]at h1 ⊢;rw[Nat.or_comm,cP,<-M6 h1,mI]
theorem aHW{a i j:Nat}(h:j≠i/4):a%256^i/4294967296^j%4294967296=a%256^(i+1)/4294967296^j%4294967296:=by
 have hB:(4294967296:Nat)=256^4:=by decide
 have e1:(4294967296:Nat)^j=256^(4*j):=by rw[hB,<-rM]
 rw[e1];rcases Ek h with h1|h1
 ·-- lower digits
  have k:∀ i,4*j+4<=i->a%256^i/256^(4*j)%4294967296=a/256^(4*j)%4294967296:=by
   intro i hi;have e3:256^i=256^(4*j)*(4294967296*256^(i-4*j-4)):=by rw[hB,<-ev,<-ev];congr 1;omega
   rw[e3,AY,JF]
  rw[k i o_,k (i+1) o_]
 ·have hp:∀ i,i<=4*j->a%256^i/256^(4*j)=0:=by intro i hi;exact l8 (cv (cE _ (cG d_)) (cZ d_ hi))
  rw[hp i o_,hp (i+1) o_]
theorem aHX{a i n:Nat}(hi:i/4<n):(ae 4294967296 n (a%256^i)).set (i/4) (a%256^(i+1)/4294967296^(i/4)%4294967296)=ae 4294967296 n (a%256^(i+1)):=by
 apply wR
 ·simp[ae]
 ·intro j h1 h2;simp only[ae,eY,yG]at h2;rw[GG];simp only[ae,Cp,Cq];by_cases hj:i/4=j
  ·rw[aw hj,hj]
  ·rw[ao hj];exact aHW (mD hj)
def BA(l:List UInt8):ByteArray:=⟨l.toArray⟩
theorem oG(l:List UInt8):(BA l).size=l.length:=rfl
theorem JG(l:List UInt8)(i:Nat):(BA l)[i]?=l[i]?:=by rw[Zl];rfl
theorem aHY(l:List UInt8)(i:Nat):(BA l).extract i (BA l).size=BA (l.drop i):=by apply ByteArray.ext;rw[ByteArray.data_extract];show(l.toArray).extract i l.length=(l.drop i).toArray;apply Gv;simp[ki]
def jE:List UInt8->Nat
 |[]=>0
 |c::l=>if c=0 then jE l+1 else 0
theorem Zn:∀ l:List UInt8,jE l<=l.length
 |[]=>bj _
 |c::l=>by unfold jE;have:=Zn l;split<;>simp<;>omega
theorem Zo:∀(l:List UInt8) (i:Nat),i<jE l->l[i]?=some 0
 |[],i,h=>by simp[jE]at h
 |c::l,i,h=>by
  unfold jE at h;split at h
  ·rename_i hc;cases i with
   |zero=>rw[hc];rfl
   |succ i=>exact Zo l i o_
  ·omega
theorem Zp:∀(l:List UInt8),jE l<l.length->∃ c,l[jE l]?=some c/\c≠0
 |[],h=>by simp at h
 |c::l,h=>by
  unfold jE at h ⊢;split at h
  ·rename_i hc;rw[aw hc];obtain⟨d,h1,h2⟩:=Zp l (by simpa using h);exact⟨d,h1,h2⟩
  ·rename_i hc;rw[ao hc];exact⟨c,rfl,hc⟩
def JH(l:List UInt8):List UInt8:=l.drop (jE l)
theorem aHZ{x n:Nat}(hn:n<=32)(h:x*2^n<base):IntKind.u32.wrap ((x:Int)*2^(min n IntKind.u32.bits))=((x*2^n:Nat):Int):=by
 have e:(x:Int)*2^n=((x*2^n:Nat):Int):=by simp
 rw[show min n IntKind.u32.bits=n from nX hn,nC,e];unfold base at h;omega
section
variable{Bs:aa}{n N a:Nat}{s:ByteArray}
def GO(s:ByteArray)(n N i:Nat):aW:=[(13,vI i),(12,vI n),(0,.string s),(3,sl 0 N)]
def CA(N a i:Nat):aH:=[(0,.row (al (ae base N (a%256^i))) 176 1)]
theorem aH0{i:Nat}(hn:n=s.size)(hN:N=(n+3)/4)(ha:a=kk s)(hi:i<n)(h63:n<35184372088832):
  ag prog Bs 39 (aF (af f172 0)) (GO s n N i) (CA N a i) 1 ⟨.normal,GO s n N (i+1),CA N a (i+1),1⟩:=by
 obtain⟨c,gj,di⟩:=Sf s (show i<s.size by omega);rw[<-hn]at gj;rw[<-ha]at di;have wX:i/4<N:=by omega
 have hb:=aHV (a:=a) (i:=i);have h1:a%256^i/base^(i/4)%base<base:=gO d_ _ _;have h2:c.toNat*2^(8*(i%4))<base:=by have:c.toNat<256:=c.toNat_lt;have h3:2^(8*(i%4))<=2^24:=cZ d_ o_;have:=wY (show c.toNat<=255 by omega) h3;unfold base;omega
 have bL:eW prog 176 (al (ae base N (a%256^i))) (i/4) (aX (a%256^(i+1)/base^(i/4)%base))=some (al (ae base N (a%256^(i+1)))):=by rw[yK _ _ _ (by simp[al,oE];exact wX),yL,aHX wX]
 have kW:((a%256^i/base^(i/4)%base||| c.toNat*2^(8*(i%4)):Nat):Int)=((a%256^(i+1)/base^(i/4)%base:Nat):Int):=by rw[di];exact cI _ hb
 have hlen:(s.size:Int)=((n:Nat):Int):=by rw[hn]
 exact aA [.lt 14 i n true (by simp[hi]),.rw 17 (.int .i64 (s.size:Int)) (vI n) (by rw[hlen];rfl),.eX 18 n 1 (n-1) o_ o_,.eX 20 (n-1) i (n-1-i) o_ o_,.wr 23 .i64 (Int.tdiv (i:Int) 4) ((i/4:Nat):Int) (by rw[c8,yS o_];omega),.ix f172 24 0 N (i/4) wX k_,.ld f172 25 176 0 (i/4) (.row (al (ae base N (a%256^i))) 176 1) (aX (a%256^i/base^(i/4)%base)) rfl (by rw[fG];exact kC (ek wX)) k_,.sx f172 28 s (n-1-i) c gj k_,.wr 29 .u32 (c.toNat:Int) (c.toNat:Int) (by rw[nC];have:=c.toNat_lt;omega),.quo 31 .i64 (Int.tmod (i:Int) 4) ((i%4:Nat):Int) (by rw[yT o_];omega),.wr 32 .i64 (8*((i%4:Nat):Int)) ((8*(i%4):Nat):Int) (by rw[c8];omega),.shl f172 33 .u32 (c.toNat:Int) ((c.toNat*2^(8*(i%4)):Nat):Int) (8*(i%4)) (aHZ o_ h2) k_,.quo 34 .u32 _ _ ((R6 h1 h2).trans kW),.ix f172 35 0 N (i/4) wX k_,.st f172 100035 176 0 (i/4) (.row (al (ae base N (a%256^i))) 176 1) (aX (a%256^(i+1)/base^(i/4)%base)) (.row (al (ae base N (a%256^(i+1)))) 176 1) rfl bL rfl k_,.sum 36 i 1 (i+1) rfl o_]
theorem aH1(hn:n=s.size)(hN:N=(n+3)/4)(ha:a=kk s)(h63:n<35184372088832):
  ag prog Bs 39 (.block 0 (af f172 0)) (GO s n N 0) (CA N a 0) 1 ⟨.normal,GO s n N n,CA N a n,1⟩:=
 bT (cd (b:=aF (af f172 0)) (r:=⟨.exit 0,GO s n N n,CA N a n,1⟩) n (GO s n N) (CA N a)
  (λi k _=>jN (l:=CA N a i) (m:=CA N a 0) rfl k) (λi hi=>aH0 hn hN ha hi h63) (aA [.lt 14 n n false s_]) n_)
end
theorem aH2{w:World}{s:ByteArray}(h63:s.size<35184372088832):
  Calls prog 172 #[.string s] w λe w'=>∃ v,e=.returned v/\jD w w' v (kk s)/\Below w.heap.size w w':=by
 have ak:=Zm s;have hs:kk s<base^((s.size+3)/4):=by
  have:(base:Nat)=256^4:=by decide
  rw[this,<-rM];exact cv ak (cZ d_ o_)
 have bd:kk s%256^s.size=kk s:=dK ak
 refine lD (Q:=λe w'=>∃ v,e=.returned v/\jD w w' v (kk s)/\Below w.heap.size w w') mixed func172 [cA.plain (.string s)] (λx hx=>by simp at hx;subst hx;rfl) 100 (N:=39) k_
  (rs:=[(aY.sum 8 s.size 3 (s.size+3) rfl o_:aY prog (aa.at w) 39),.wr 9 .i64 (Int.tdiv ((s.size+3:Nat):Int) 4) (((s.size+3)/4:Nat):Int) (by rw[c8,yS o_];omega),.pM f172 10 0 ((s.size+3)/4) 176 4 (aX 0) (al (ae base ((s.size+3)/4) (kk s%256^0))) (by rw[rL,tf,Sc,EE]) rfl rfl o_ (by simp[maxLen];omega) k_,.code 0 _ _ _ _ _ (aH1 (n:=s.size) (N:=(s.size+3)/4) (a:=kk s) rfl rfl rfl h63),.trim f172 38 0 ((s.size+3)/4) (kk s) (.row (al (ae base ((s.size+3)/4) (kk s%256^s.size))) 176 1) rfl (by rw[bd];rfl) hs o_ (y:=.func 175) k_])
  (v:=.slice (some ⟨0,0,some 7⟩) (nd base (kk s)) 0) (ms:=[(0,.row (al (ae base ((s.size+3)/4) (kk s%256^s.size))) 176 1)]) k_ λau bY v' w' hc bo dy _=>⟨v',rfl,?_,bo.base⟩
 have hk:=dy _ (aV ..);rw[bd]at hk;exact wW bo hk hs hc
section
variable{Bs:aa}{l:List UInt8}
def CB(l:List UInt8)(i:Nat):aW:=[(0,.string (BA (l.drop i))),(1,.int .u8 0)]
theorem Sg{i:Nat}:(((BA (l.drop i)).size:Nat):Int)=((l.length-i:Nat):Int):=by rw[oG,vl]
theorem aH3{i:Nat}(hi:i<jE l):ag prog Bs 17 (aF (af f223 0)) (CB l i) [] 0 ⟨.normal,CB l (i+1),[],0⟩:=by
 have hz:=Zo l i hi;have hle:=Zn l;have e:(BA (l.drop i)).extract 1 (BA (l.drop i)).size=BA (l.drop (i+1)):=by rw[aHY,M7]
 have h1:1<=(BA (l.drop i)).size:=by rw[oG,vl];omega
 exact aA [.rw 6 (.int .i64 (((BA (l.drop i)).size:Nat):Int)) (vI (l.length-i)) (by rw[Sg];rfl),.gt 7 (l.length-i) 0 true (by simp;omega),.sx f223 10 (BA (l.drop i)) 0 0 (by rw[JG,D8];exact hz) k_,.sf f223 15 (BA (l.drop i)) 1 h1 k_,.rw 0 (.string ((BA (l.drop i)).extract 1 (BA (l.drop i)).size)) (.string (BA (l.drop (i+1)))) (by rw[e])]
theorem aH4:ag prog Bs 17 (aF (af f223 0)) (CB l (jE l)) [] 0 ⟨.exit 0,CB l (jE l),[],0⟩:=by
 by_cases h:jE l<l.length
 ·obtain⟨c,h1,h2⟩:=Zp l h;have h3:c.toNat≠0:=λe=>h2 (M8.1 (by rw[e];rfl));exact aA [.rw 6 (.int .i64 (((BA (l.drop (jE l))).size:Nat):Int)) (vI (l.length-jE l)) (by rw[Sg];rfl),.gt 7 (l.length-jE l) 0 true (by simp;omega),.sx f223 10 (BA (l.drop (jE l))) 0 c (by rw[JG,D8];exact h1) k_,.fk 12 c.toNat 0 false (by simp[h3])]
 ·exact aA [.rw 6 (.int .i64 (((BA (l.drop (jE l))).size:Nat):Int)) (vI (l.length-jE l)) (by rw[Sg];rfl),.gt 7 (l.length-jE l) 0 false (by simp;omega)]
theorem aH5:ag prog Bs 17 (.block 0 (af f223 0)) (CB l 0) [] 0 ⟨.normal,CB l (jE l),[],0⟩:=
 bT (cd (b:=aF (af f223 0)) (r:=⟨.exit 0,CB l (jE l),[],0⟩) (jE l) (CB l) (λ_=>[]) (λi k _=>Iff.rfl) (λi hi=>aH3 hi) aH4 n_)
end
theorem aH6(l:List UInt8):aE prog 223 [.string (BA l),.int .u8 0] (.string (BA (JH l))):=
 aP func223 (λ_=>[.code 0 _ _ _ _ _ (aH5 (l:=l))])
theorem Zq(l:List UInt8):(BA l).toList=l:=by rw[ByteArray.toList_eq];rfl
theorem EH(l:List UInt8):((BA l).toList==(ByteArray.mk #[]).toList)=decide (l=[]):=by rw[Zq,show(ByteArray.mk #[]).toList=[]from Zq []];cases l<;>rfl
theorem aH7(l:List UInt8):aE prog 206 [.string (BA l),.string ⟨#[0]⟩] (.string (BA (JH l))):=by
 by_cases h:l=[]
 ·subst h;exact aP func206 (λ_=>[.rw 8 (.bool ((BA []).toList==(ByteArray.mk #[]).toList)) (.bool true) (by rw[EH];rfl)])
 ·exact aP func206 (λ_=>[.rw 8 (.bool ((BA l).toList==(ByteArray.mk #[]).toList)) (.bool false) (by rw[EH,aN h]),(aH6 l).at 25])
theorem Sh{x y:Nat}(hx:x<18446744073709551616)(hy:y<18446744073709551616):IntKind.u64.wrap (((BitVec.ofInt IntKind.u64.bits (x:Int))||| (BitVec.ofInt IntKind.u64.bits (y:Int))).toNat:Int)=((x||| y:Nat):Int):=by
 show IntKind.u64.wrap (((BitVec.ofInt 64 (x:Int))||| (BitVec.ofInt 64 (y:Int))).toNat:Int)=_;have e:∀ x:Nat,(BitVec.ofInt 64 (x:Int))=BitVec.ofNat 64 x:=λx=>by simp
 have t:∀ x:Nat,x<18446744073709551616->(BitVec.ofNat 64 x).toNat=x:=λx h=>by rw[BitVec.toNat_ofNat];exact dK h
 rw[e,e,BitVec.toNat_or,t x hx,t y hy,jP];have:x||| y<18446744073709551616:=Zc (n:=64) hx hy
 omega
theorem aH8{hi lo y:Nat}(hh:hi<y)(hl:lo<base)(hy:y<base):
  aE prog 220 [aX hi,aX lo,aX y] (.tuple #[aX ((hi*base+lo)/y),aX ((hi*base+lo)%y)]):=by
 have kW:hi*base||| lo=hi*base+lo:=by have:=M6 (i:=32) hl hi;rw[cP];exact this.symm
 have hs:hi*base+lo<18446744073709551616:=by clear kW;unfold base at *;omega
 have hq:(hi*base+lo)/y<base:=by rw[iv o_];have:=e6 base (show hi+1<=y by omega);rw[cP base y];clear kW;unfold base at *;omega
 have hr:(hi*base+lo)%y<base:=mf (cE _ o_) hy;have wU:(y:Int)≠0:=by omega
 have h64:base=4294967296:=rfl;have hA:hi*base<18446744073709551616:=eL (JI _ _) hs;have GP:IntKind.u64.wrap ((hi:Int)*2^32)=((hi*base:Nat):Int):=by
  have e:(hi:Int)*2^32=((hi*base:Nat):Int):=by rw[nW];rfl
  rw[e,jP];generalize hi*base=H at hA ⊢;omega
 have hB:lo<18446744073709551616:=mf hl d_;have key:∀ H:Nat,H=hi*base->IntKind.u64.wrap (((BitVec.ofInt IntKind.u64.bits (H:Int))||| (BitVec.ofInt IntKind.u64.bits (lo:Int))).toNat:Int)=((hi*base+lo:Nat):Int):=by intro H hH;rw[Sh (by rw[hH];exact hA) hB,hH,kW]
 obtain⟨H,hH⟩:∃ H,H=hi*base:=⟨_,rfl⟩;have h22:=key H hH;rw[<-hH]at GP;generalize hi*base+lo=S at *;have u64:∀{z:Nat},z<base->IntKind.u64.wrap (z:Int)=z:=λ{z} h=>by rw[jP];unfold base at h;omega
 have u32:∀{z:Nat},z<base->IntKind.u32.wrap (z:Int)=z:=λ{z} h=>by rw[nC];unfold base at h;omega
 have nu:IntKind.u64.wrap (Int.tdiv (S:Int) y)=((S/y:Nat):Int):=by rw[yS o_,<-ti];exact u64 hq
 have nD:Int.tmod (S:Int) y=((S%y:Nat):Int):=by rw[yT o_];rfl
 exact aP func220 (λ_=>[
  .rw 10 (.bool ((y:Int)!=0)) (.bool true) (by congr 1;rw[uC];exact wU),
  .rw 14 (.bool (decide ((y:Int)<=(hi:Int)))) (.bool false) (by congr 1;rw[Zr];omega),
  .wr 18 .u64 hi hi (u64 o_),.wr 19 .u64 ((hi:Int)*2^32) (H:Int) GP,.wr 21 .u64 lo lo (u64 hl),
  .quo 22 .u64 _ (S:Int) h22,.wr 25 .u64 y y (u64 hy),
  .pQ f220 26 .u64 (S:Int) y ((S/y:Nat):Int) wU nu k_,.wr 27 .u32 ((S/y:Nat):Int) ((S/y:Nat):Int) (u32 hq),
  .wr 30 .u64 y y (u64 hy),
  .th f220 31 .u64 (S:Int) y ((S%y:Nat):Int) wU nD k_,.wr 32 .u32 ((S%y:Nat):Int) ((S%y:Nat):Int) (u32 hr)])
def dh(i:Nat):Value:=.int .i64 ((i:Int)-1)
theorem dX(j:Nat):dh (j+1)=vI j:=by
 unfold dh vI;have e:((j+1:Nat):Int)-1=(j:Int):=by omega
 rw[e]
theorem oH{j:Nat}(h:j<9223372036854775807):IntKind.i64.wrap ((j:Int)-1)=(j:Int)-1:=by rw[c8];omega
section
variable{Bs:aa}{n a d:Nat}
def rN(n a d i:Nat):aW:=[(8,dh i),(6,sl 1 n),(7,aX (a/base^i%d)),(0,sl 0 n),(1,aX d)]
def CC(n a d i:Nat):aH:=[(0,.view (al (ae base n a))),(1,.row (al (gv base n i (a/d))) 176 1)]
theorem M9{j:Nat}(hj:j<n)(hd:0<d)(mK:d<base)(h63:n<35184372088832):
  ag prog Bs 35 (aF (af f202 0)) (rN n a d (j+1)) (CC n a d (j+1)) 2 ⟨.normal,rN n a d j,CC n a d j,2⟩:=by
 have bL:eW prog 176 (al (gv base n (j+1) (a/d))) j (aX (a/d/base^j%base))=some (al (gv base n j (a/d))):=by rw[yK _ _ _ (by simp[al,MT];exact hj),yL,MV hj rfl]
 have hdiv:=aH8 (hi:=a/base^(j+1)%d) (lo:=a/base^j%base) (y:=d) (cE _ hd) (gO d_ _ _) mK;obtain⟨q1,q2⟩:=Y7 (B:=base) d_ hd (iR mK) a j;rw[q1,q2]at hdiv;exact aA [.rw 15 (dh (j+1)) (vI j) (dX j),.ge 16 j 0 true s_,.rw 21 (dh (j+1)) (vI j) (dX j),.rw 24 (dh (j+1)) (vI j) (dX j),.ix f202 25 0 n j hj k_,.ld f202 26 176 0 j (.view (al (ae base n a))) (aX (a/base^j%base)) rfl (by rw[fG];exact kC (ek hj)) k_,hdiv.at 28,.ix f202 31 1 n j hj k_,.st f202 100031 176 1 j (.row (al (gv base n (j+1) (a/d))) 176 1) (aX (a/d/base^j%base)) (.row (al (gv base n j (a/d))) 176 1) rfl bL rfl k_,.rw 17 (dh (j+1)) (vI j) (dX j),.wr 18 .i64 ((j:Int)-1) ((j:Int)-1) (oH o_)]
theorem aH9(hd:0<d)(mK:d<base)(h63:n<35184372088832):
  ag prog Bs 35 (.block 0 (af f202 0)) (rN n a d n) (CC n a d n) 2 ⟨.normal,rN n a d 0,CC n a d 0,2⟩:=by
 have:=cd (P:=prog) (B:=Bs) (N:=35) (b:=aF (af f202 0)) (next:=2) (r:=⟨.exit 0,rN n a d 0,CC n a d 0,2⟩) n (λi=>rN n a d (n-i)) (λi=>CC n a d (n-i))
  (λi k _=>jN (l:=CC n a d (n-i)) (m:=CC n a d (n-0)) rfl k)
  (λi hi=>by
   have e:n-i=(n-(i+1))+1:=by omega
   simp only[e];exact M9 o_ hd mK h63)
  (by
   have e:n-n=0:=by omega
   simp only[e];exact aA [.rw 16 (.bool (decide (((0:Nat):Int)-1>=0))) (.bool false) rfl]) n_
 exact bT this
end
theorem aIa{w:World}{va:Value}{a d:Nat}(fY:iw w va a)(hd:0<d)(mK:d<base)(h1:nd base a<35184372088832):
  Calls prog 202 #[va,aX d] w λe w'=>∃ v,e=.returned (.tuple #[v,aX (a%d)])/\jD w w' v (a/d)/\Below w.heap.size w w':=by
 have ha:=dS (B:=base) d_ a;have hl:∀ s∈[cA.row va (nd base a) (al (ae base (nd base a) a)),cA.plain (aX d)],s.OK w:=by
  intro s hs;simp at hs;rcases hs with rfl|rfl
  ·exact⟨fY,fB _⟩
  ·rfl
 unfold iw at fY;generalize nd base a=n at *;have hs:a/d<base^n:=eL (tj _ _) ha;have e0:a/base^n%d=0:=by rw[l8 ha];exact Nat.zero_mod _
 have e1:a/base^0%d=a%d:=by simp
 refine lD (Q:=λe w'=>∃ v,e=.returned (.tuple #[v,aX (a%d)])/\jD w w' v (a/d)/\Below w.heap.size w w') mixed func202 [cA.row va n (al (ae base n a)),cA.plain (aX d)] hl 100 (N:=35) k_
  (rs:=[(aY.pM f202 11 1 n 176 4 (aX 0) (al (gv base n n (a/d))) (by rw[MU,EE]) rfl rfl o_ (by simp[maxLen];omega) k_:aY prog (aa.at w) 35),.rw 7 (.int .u32 0) (aX (a/base^n%d)) (by rw[e0];rfl),.wr 14 .i64 ((n:Int)-1) ((n:Int)-1) (oH o_),.code 0 _ _ _ _ _ (aH9 (n:=n) (a:=a) hd mK h1),.trim f202 33 1 n (a/d) (.row (al (gv base n 0 (a/d))) 176 1) rfl (by rw[<-Jy];rfl) hs o_ (y:=.func 175) k_])
  (v:=.tuple #[.slice (some ⟨1,0,some 7⟩) (nd base (a/d)) 0,aX (a/base^0%d)]) (ms:=[(1,.row (al (gv base n 0 (a/d))) 176 1)]) k_ λau bY v' w' hc bo dy _=>?_
 obtain⟨vs,he,bd⟩:=hc.ug;obtain⟨v1,v2,aO,c1,c2⟩:=jx bd;have hk:=dy _ (aV ..);rw[Jy]at hk;refine⟨v1,?_,wW bo hk hs c1,bo.base⟩;rw[he,show vs=#[v1,v2]from vm.1 aO,c2.eU rfl,e1]
def gP(a b:Nat):Int:=if a<b then -1 else if b<a then 1 else 0
section
variable{Bs:aa}{n a b:Nat}
def AZ(n i:Nat):aW:=[(5,dh i),(0,sl 0 n),(1,sl 1 n)]
def rO(n a b:Nat):aH:=[(0,.view (al (ae base n a))),(1,.view (al (ae base n b)))]
noncomputable def Si(n a b j:Nat)(hj:j<n)(t1 t2:Bool)(h1:decide (a/base^j%base<b/base^j%base)=t1)(h2:decide (b/base^j%base<a/base^j%base)=t2)(more:bA prog Bs 43):bA prog Bs 43:=
 .rw 19 (dh (j+1)) (vI j) (dX j)::.ge 20 j 0 true s_::.rw 25 (dh (j+1)) (vI j) (dX j)::.ix f201 26 0 n j hj k_::
  .ld f201 27 176 0 j (.view (al (ae base n a))) (aX (a/base^j%base)) rfl (by rw[fG];exact kC (ek hj)) k_::
  .rw 29 (dh (j+1)) (vI j) (dX j)::.ix f201 30 1 n j hj k_::
  .ld f201 31 176 1 j (.view (al (ae base n b))) (aX (b/base^j%base)) rfl (by rw[fG];exact kC (ek hj)) k_::
  .lt 32 (a/base^j%base) (b/base^j%base) t1 h1::(if t1 then[]else
  .rw 35 (dh (j+1)) (vI j) (dX j)::.ix f201 36 0 n j hj k_::
  .ld f201 37 176 0 j (.view (al (ae base n a))) (aX (a/base^j%base)) rfl (by rw[fG];exact kC (ek hj)) k_::
  .rw 39 (dh (j+1)) (vI j) (dX j)::.ix f201 40 1 n j hj k_::
  .ld f201 41 176 1 j (.view (al (ae base n b))) (aX (b/base^j%base)) rfl (by rw[fG];exact kC (ek hj)) k_::
  .gt 42 (a/base^j%base) (b/base^j%base) t2 h2::more)
theorem aIb{j:Nat}(hj:j<n)(he:a/base^j%base=b/base^j%base)(h63:n<35184372088832):
  ag prog Bs 43 (aF (af f201 0)) (AZ n (j+1)) (rO n a b) 2 ⟨.normal,AZ n j,rO n a b,2⟩:=
 aA (Si n a b j hj false false (by simp[he]) (by simp[he]) [.rw 21 (dh (j+1)) (vI j) (dX j),.wr 22 .i64 ((j:Int)-1) ((j:Int)-1) (oH o_)])
theorem aIc{j:Nat}(hj:j<n)(ak:a/base^j%base<b/base^j%base):
  ag prog Bs 43 (aF (af f201 0)) (AZ n (j+1)) (rO n a b) 2 ⟨.ret,[(4,.int .i64 (-1))],rO n a b,2⟩:=
 aA (Si n a b j hj true false (by simp[ak]) (by simp;omega) [])
theorem aId{j:Nat}(hj:j<n)(ak:b/base^j%base<a/base^j%base):
  ag prog Bs 43 (aF (af f201 0)) (AZ n (j+1)) (rO n a b) 2 ⟨.ret,[(4,.int .i64 1)],rO n a b,2⟩:=
 aA (Si n a b j hj false true (by simp;omega) (by simp[ak]) [])
theorem aIe:ag prog Bs 43 (aF (af f201 0)) (AZ n 0) (rO n a b) 2 ⟨.exit 0,[],rO n a b,2⟩:=
 aA [.rw 20 (.bool (decide (((0:Nat):Int)-1>=0))) (.bool false) rfl]
theorem aIf(ha:a<base^n)(hb:b<base^n)(h63:n<35184372088832):
  ag prog Bs 43 (.block 0 (af f201 0)) (AZ n n) (rO n a b) 2 (if a=b then⟨.normal,[],rO n a b,2⟩else⟨.ret,[(4,.int .i64 (gP a b))],rO n a b,2⟩):=by
 obtain⟨e,h1,h2,h3⟩:=yI (λt=>¬(t<n/\a/base^(n-1-t)%base=b/base^(n-1-t)%base)) n o_;have wZ:=Y8 ha hb e h1 λs hs=>(EI.1 (h3 s hs)).2;have go:∀(r:l5),r.ex≠.normal->ag prog Bs 43 (aF (af f201 0)) (AZ n (n-e)) (rO n a b) 2 r->ag prog Bs 43 (.loop (aF (af f201 0))) (AZ n n) (rO n a b) 2 r:=by
  intro r hr vz
  exact cd (P:=prog) (B:=Bs) (N:=43) (b:=aF (af f201 0)) (next:=2) (r:=r) e (λi=>AZ n (n-i)) (λ_=>rO n a b) (λi k _=>Iff.rfl)
   (λi hi=>by
    have q:=EI.1 (h3 i hi);have e1:n-i=(n-(i+1))+1:=by omega
    have e2:n-1-i=n-(i+1):=by omega
    simp only[e1];exact aIb o_ (by rw[<-e2];exact q.2) h63) vz hr
 by_cases CD:e=n
 ·have b9:a=b:=by rw[CD,vA,rL,EJ,EJ]at wZ;exact wZ
  rw[aw b9];have:=go ⟨.exit 0,[],rO n a b,2⟩ n_ (by rw[CD,vA];exact aIe);exact bT (id:=0) this
 ·have hj:n-e=(n-1-e)+1:=by omega
  have aU:a/base^(n-1-e)%base≠b/base^(n-1-e)%base:=λh=>h2 ⟨by omega,h⟩;rw[hj]at wZ go;have b9:a≠b:=λh=>aU (by rw[h]);rw[ao b9];rcases Ek aU with ak|s8
  ·have hl:=MW wZ ak;have e1:gP a b=-1:=by unfold gP;rw[aw hl]
   rw[e1];exact bT (id:=0) (go _ n_ (aIc o_ ak))
  ·have hl:=MW wZ.symm s8;have e1:gP a b=1:=by unfold gP;rw[ao o_,aw hl]
   rw[e1];exact bT (id:=0) (go _ n_ (aId o_ s8))
end
def nE(a b:Nat):Int:=if nd base a=nd base b then gP a b else(nd base a:Int)-nd base b
theorem JJ{a b:Nat}:0<=nE a b↔b<=a:=by
 unfold nE;by_cases h:nd base a=nd base b
 ·rw[aw h];unfold gP;by_cases h1:a<b
  ·rw[aw h1];omega
  ·rw[ao h1];by_cases h2:b<a
   ·rw[aw h2];omega
   ·rw[ao h2];omega
 ·rw[ao h];rcases eF a b with h1|h1
  ·have:=iJ (B:=base) d_ (iR h1);omega
  ·have:=iJ (B:=base) d_ h1;omega
theorem Na{w:World}{va vb:Value}{a b:Nat}(fY:iw w va a)(kX:iw w vb b)(h1:nd base a<35184372088832)(h2:nd base b<35184372088832):
  Calls prog 201 #[va,vb] w λe w'=>e=.returned (.int .i64 (nE a b))/\Below w.heap.size w w':=by
 have ha:=dS (B:=base) d_ a;have hb:=dS (B:=base) d_ b;have hl:∀ s∈[cA.row va (nd base a) (al (ae base (nd base a) a)),cA.row vb (nd base b) (al (ae base (nd base b) b))],s.OK w:=by
  intro s hs;simp at hs;rcases hs with rfl|rfl
  ·exact⟨fY,fB _⟩
  ·exact⟨kX,fB _⟩
 unfold iw at fY kX;unfold nE;generalize nd base a=n at *;generalize nd base b=m at *;have fin:∀{au:Map} {bY:Nat->Option Obj} {v':Value} {w':World} {z:Int},aG au (.int .i64 z) v'->aQ (aa.at w) au bY w'->Ending.returned v'=.returned (.int .i64 z)/\Below w.heap.size w w':=λhc hm=>⟨by rw[hc.eU rfl],hm.base⟩;have aU:∀ t:Bool,decide (n=m)=!t->(Value.bool (((n:Nat):Int)!=((m:Nat):Int)))=.bool t:=by
  intro t h
  congr 1
  by_cases lA:n=m
  ·subst lA;simp at h;subst h;simp
  ·rw[aN lA]at h;have:t=true:=by cases t<;>simp at h ⊢
   subst this;rw[uC];omega
 by_cases lA:n=m
 ·subst lA;rw[aw rfl];have lo:=aIf (Bs:=aa.at w) ha hb h1;by_cases b9:a=b
  ·rw[aw b9]at lo;have ho:gP a b=0:=by unfold gP;rw[ao o_,ao o_]
   rw[ho]
   exact lD (Q:=λe w'=>e=.returned (.int .i64 0)/\Below w.heap.size w w') mixed func201 [cA.row va n (al (ae base n a)),cA.row vb n (al (ae base n b))] hl 100 (N:=43) k_
    (rs:=[(aY.rw 10 (.bool (((n:Nat):Int)!=((n:Nat):Int))) (.bool false) (aU false s_):aY prog (aa.at w) 43),.wr 18 .i64 ((n:Int)-1) ((n:Int)-1) (oH o_),.code 0 _ _ _ _ _ lo])
    (v:=.int .i64 0) (ms:=[]) k_ λau bY v' w' hc bo _ _=>fin hc bo
  ·rw[ao b9]at lo
   exact lD (Q:=λe w'=>e=.returned (.int .i64 (gP a b))/\Below w.heap.size w w') mixed func201 [cA.row va n (al (ae base n a)),cA.row vb n (al (ae base n b))] hl 100 (N:=43) k_
    (rs:=[(aY.rw 10 (.bool (((n:Nat):Int)!=((n:Nat):Int))) (.bool false) (aU false s_):aY prog (aa.at w) 43),.wr 18 .i64 ((n:Int)-1) ((n:Int)-1) (oH o_),.code 0 _ _ _ _ _ lo])
    (v:=.int .i64 (gP a b)) (ms:=[]) k_ λau bY v' w' hc bo _ _=>fin hc bo
 ·rw[ao lA]
  exact lD (Q:=λe w'=>e=.returned (.int .i64 ((n:Int)-m))/\Below w.heap.size w w') mixed func201 [cA.row va n (al (ae base n a)),cA.row vb m (al (ae base m b))] hl 100 (N:=43) k_
   (rs:=[(aY.rw 10 (.bool (((n:Nat):Int)!=((m:Nat):Int))) (.bool true) (aU true (by simp[lA])):aY prog (aa.at w) 43),.wr 15 .i64 ((n:Int)-(m:Int)) ((n:Int)-m) (by rw[c8];omega)])
   (v:=.int .i64 ((n:Int)-m)) (ms:=[]) k_ λau bY v' w' hc bo _ _=>fin hc bo
section
variable{P:Program}{B:aa}{N:Nat}
def A0(P:Program)(o:Oper):Option (Nat×List Nat×TypeId×Nat×Value):=match o.op with
 |.buildSlice t len parts=>match P.underlying t with
  |some (.slice e)=>(match P.info? e with|some i=>(match i.zero with|some z=>some (len,parts.toList.map (·.1),e,i.size,z)|none=>none)|none=>none)
  |_=>none
 |_=>none
def JK(size len:Nat)(z:Value)(ps:aW):Option (Array Value):=
 Instr.fill (λi=>some (i*size,size)) ((Array.range (len*size)).map (z.cells[·%z.cells.size]!)) ps
theorem Nb{ρ:Operand->Value}:∀(l:List (Nat×Operand)) {vs:aj},(l.map (·.2)).map ρ=vs->(l.map λp=>(p.1,ρ p.2))=(l.map (·.1)).zip vs
 |[],vs,h=>by subst h;rfl
 |p::l,vs,h=>by subst h;simp only[rF,List.zip_cons_cons];rw[Nb l rfl]
theorem aIg{o:Oper}{len e size:Nat}{idx:List Nat}{z:Value}(ho:A0 P o=some (len,idx,e,size,z)){vs:aj}{cells:Array Value}(cN:∀ v∈vs,flat v=true)(Sj:∀ v∈cells.toList,flat v=true)
  (CE:JK size len z (idx.zip vs)=some cells) (bH:cells.size=len*size) (yU:0<len*size) (hle:len*size<=16777216) (k:Nat) :
  cB P B o vs [(k,none)] (.slice (some ⟨k,0,some 7⟩) len 0) [(k,.row cells.toList e size)]:=by
 unfold A0 at ho;split at ho
 ·rename_i t lE parts bP;split at ho
  ·rename_i e' ht;split at ho
   ·rename_i i hi;split at ho
    ·rename_i z' hz;injection ho with ho;injection ho with h1 ho;injection ho with h2 ho;injection ho with h3 ho;injection ho with h4 h5;subst h1;subst h2;subst h3;subst h4;subst h5;refine gW.step λι c ρ w aO hm hn=>?_;have hk:c k=none:=hn _ (aV ..);rw[bP]at aO;have aO:=nr aO cN;have bW:List.map (λx=>(x.fst,ρ x.snd)) parts.toList=(parts.toList.map (·.1)).zip vs:=
      Nb parts.toList (by simpa[Op.operands]using aO)
     have Nc:lE<=maxLen:=by have:lE<=lE*i.size:=EK _ (Nat.pos_of_mul_pos_left yU);simp[maxLen];omega
     have uj:Map.le ι _:=gC (l:=.at w.heap.size 0 lE) (hm.dr k hk);have kS:=Gs (ty:=e') (size:=i.size) (cap:=lE) (rest:=#[]) hm hk (ke Sj:bK (aG ι) cells.toList cells.toList) Nc (by simpa using bH);refine⟨_,.slice (some ⟨w.heap.size,0,none⟩) lE lE,_,uj,.slc (o:=0) (off:=0) (fD _ _ _) (bj _) o_,kS,.inl ?_⟩;have h0:¬(lE*i.size=0):=by omega
     have h1:¬(16777216<lE*i.size):=by omega
     unfold JK at CE;simp only[execOp,bP];simp[Instr.buildSlice,iG ht,sizeOf,typeInfo,hi,zeroValue,hz,h0,h1,newRow];rw[bW,CE];simp[newObj,Sem.run]
    ·cases ho
   ·cases ho
  ·cases ho
 ·cases ho
def EL(P:Program)(o:Oper):Option (TypeId×Nat×Nat×Nat×Bool):=match o.op with
 |.call c=>match c.callee,c.args.toList,c.argTypes.toList with
  |.builtin .append,[_,_],[t,t']=>if Nat.beq t t' then(match P.underlying t with
   |some (.slice e)=>(match P.info? e with|some i=>(match i.zero with|some z=>some (e,i.size,i.bytes,z.cells.size,true)|none=>none)|none=>none)
   |_=>none)else none
  |_,_,_=>none
 |_=>none
theorem Zs{o:Oper}{e size bytes zs:Nat}(ho:EL P o=some (e,size,bytes,zs,true)):∃ s x t i z,o.op=.call { callee:=.builtin .append,args:=#[s,x],argTypes:=#[t,t]}/\P.underlying t=some (.slice e)/\P.info? e=some i/\i.zero=some z/\i.size=size/\i.bytes=bytes/\z.cells.size=zs:=by
 unfold EL at ho;split at ho
 ·rename_i c bP;split at ho
  ·rename_i s x t t' hc ha mE;split at ho
   ·rename_i htt;split at ho
    ·rename_i e' ht;split at ho
     ·rename_i i hi;split at ho
      ·rename_i z hz;injection ho with ho;injection ho with h1 ho;injection ho with h2 ho;injection ho with h3 ho;injection ho with h4 h5;subst h1;have:=jZ htt;subst this;refine⟨s,x,t,i,z,?_,ht,hi,hz,h2,h3,h4⟩;rw[bP];obtain⟨c1,c2,c3⟩:=c;dsimp only at hc ha mE;subst hc
       congr 2
       ·exact vm.1 ha
       ·exact vm.1 mE
      ·cases ho
     ·cases ho
    ·cases ho
   ·cases ho
  ·cases ho
 ·cases ho
theorem Zt{o:Oper}{e size bytes:Nat}(ho:EL P o=some (e,size,bytes,size,true))(bH:0<size){sv:Value}{m:Nat}{news:aj}{need:List (Nat×Option Obj)}(yv:Cb B sv m news need)(hl:news.length=m*size)(Ri:∀ v∈news,v.oneCell'=true)
  {j n:Nat} {cells:aj} (l4:n*size<=cells.length) (h63:n+m<=maxLen) (Ca:(n+m)*bytes<=140737488355328) (k:Nat) :
  cB P B o [.slice (some ⟨j,0,some 7⟩) n 0,sv] ((k,none)::(j,some (.row cells e size))::need) (.slice (some ⟨k,0,some 7⟩) (n+m) 0) [(k,.row (cells.take (n*size)++news) e size),(j,.dead)]:=by
 obtain⟨s,x,t,i,z,bP,ht,hi,hz,h1,h2,h3⟩:=Zs ho;subst h1;subst h2;exact(aGS bP ht hi hz h3 bH yv hl Ri l4 h63 Ca k).step
theorem aIh{o:Oper}{e size bytes:Nat}(ho:EL P o=some (e,size,bytes,size,true))(bH:0<size){sv:Value}{m:Nat}{news:aj}{need:List (Nat×Option Obj)}(yv:Cb B sv m news need)(hl:news.length=m*size)
  (h63:m<=maxLen) (Ca:m*bytes<=140737488355328) (k:Nat) :
  cB P B o [.slice none 0 0,sv] ((k,none)::need) (.slice (some ⟨k,0,some 7⟩) m 0) [(k,.row news e size)]:=by
 obtain⟨s,x,t,i,z,bP,ht,hi,hz,h1,h2,h3⟩:=Zs ho;subst h1;subst h2;exact(aGR bP ht hi hz h3 bH yv hl h63 Ca k).step
def aY.bs(fn:Func)(key k len e size:Nat)(idx:List Nat)(z:Value)(vs:aj)(cells:Array Value)(x:Obj)(hx:Obj.row cells.toList e size=x)(cN:∀ v∈vs,flat v=true)(Sj:∀ v∈cells.toList,flat v=true)
  (CE:JK size len z (idx.zip vs)=some cells) (bH:cells.size=len*size) (yU:0<len*size) (hle:len*size<=16777216) (ho:A0 P (av fn key)=some (len,idx,e,size,z)):aY P B N:=
 .step key (av fn key) vs [(k,none)] (.slice (some ⟨k,0,some 7⟩) len 0) [(k,x)] (by subst hx;exact aIg ho cN Sj CE bH yU hle k)
end
theorem Sk{w:World}{n:Nat}(hn:n<18446744073709551616):
  Calls prog 148 #[.int .u64 n] w λe w'=>∃ v,e=.returned v/\jD w w' v n/\Below w.heap.size w w':=by
 have hs:n<base^2:=by unfold base;omega
 have e0:n/base^0%base=n%base:=by simp
 have e1:n/base^1%base=n/base:=by rw[CF];exact dK (by rw[iv d_];unfold base;omega)
 refine lD (Q:=λe w'=>∃ v,e=.returned v/\jD w w' v n/\Below w.heap.size w w') mixed func148 [cA.plain (.int .u64 n)] (λx hx=>by simp at hx;subst hx;rfl) 100 (N:=10) k_
  (rs:=[(aY.wr 4 .u32 (n:Int) ((n/base^0%base:Nat):Int) (by rw[nC,e0];unfold base;omega):aY prog (aa.at w) 10),.quo 6 .u64 ((n:Int).fdiv (2^32)) ((n/base:Nat):Int) (by rw[rK _ d_];unfold base;omega),.wr 7 .u32 ((n/base:Nat):Int) ((n/base^1%base:Nat):Int) (by rw[nC,e1];unfold base;omega),.bs f148 8 0 2 176 1 [0,1] (aX 0) [aX (n/base^0%base),aX (n/base^1%base)] #[aX (n/base^0%base),aX (n/base^1%base)] (.row (al (ae base 2 n)) 176 1) rfl
    (λv hv=>by simp at hv;rcases hv with rfl|rfl<;>rfl) (λv hv=>by simp at hv;rcases hv with rfl|rfl<;>rfl) k_ rfl o_ o_ k_,
   .trim f148 9 0 2 n (.row (al (ae base 2 n)) 176 1) rfl rfl hs d_ (y:=.func 175) k_])
  (v:=.slice (some ⟨0,0,some 7⟩) (nd base n) 0) (ms:=[(0,.row (al (ae base 2 n)) 176 1)]) k_ λau bY v' w' hc bo dy _=>⟨v',rfl,?_,bo.base⟩
 exact wW bo (dy _ (aV ..)) hs hc
section
variable{Bs:aa}{n a:Nat}
def A1(n a i:Nat):aW:=[(4,dh i),(0,sl 0 n),(3,.int .u64 ((a/base^i:Nat):Int))]
def CG(n a:Nat):aH:=[(0,.view (al (ae base n a)))]
theorem aIi{j:Nat}(hj:j<n)(ha:a<18446744073709551616)(h63:n<35184372088832):
  ag prog Bs 21 (aF (af f174 0)) (A1 n a (j+1)) (CG n a) 1 ⟨.normal,A1 n a j,CG n a,1⟩:=by
 have hd:=gO (B:=base) d_ a j;have he:=wT (B:=base) a j;have hle:a/base^j<18446744073709551616:=eL (tj _ _) ha;generalize hA:a/base^(j+1)=A at *;generalize hx:a/base^j%base=x at *;have Zu:A*base<18446744073709551616:=by omega
 have kW:A*base||| x=a/base^j:=by have:=M6 (i:=32) hd A;rw[he,cP];exact this.symm
 have Zv:IntKind.u64.wrap ((A:Int)*2^32)=((A*base:Nat):Int):=by
  have e:(A:Int)*2^32=((A*base:Nat):Int):=by rw[nW];rfl
  rw[e,jP];generalize A*base=H at Zu ⊢;omega
 have GP:∀ H:Nat,H=A*base->IntKind.u64.wrap (((BitVec.ofInt IntKind.u64.bits (H:Int))||| (BitVec.ofInt IntKind.u64.bits (x:Int))).toNat:Int)=((a/base^j:Nat):Int):=by intro H hH;rw[Sh (by rw[hH];exact Zu) (mf hd d_),hH,kW]
 obtain⟨H,hH⟩:∃ H,H=A*base:=⟨_,rfl⟩;have GP:=GP H hH;rw[<-hH]at Zv
 have:=fj (P:=prog) (B:=Bs) (N:=21) mixed (c:=aF (af f174 0)) (fr:=[(4,dh (j+1)),(0,sl 0 n),(3,.int .u64 (A:Int))]) (M:=CG n a) (next:=1) (r:=⟨.normal,A1 n a j,CG n a,1⟩) 100
  [.rw 8 (dh (j+1)) (vI j) (dX j),.ge 9 j 0 true s_,.wr 13 .u64 ((A:Int)*2^32) (H:Int) Zv,.rw 15 (dh (j+1)) (vI j) (dX j),.ix f174 16 0 n j hj k_,.ld f174 17 176 0 j (.view (al (ae base n a))) (aX x) rfl (by rw[fG,<-hx];exact kC (ek hj)) k_,.wr 18 .u64 (x:Int) (x:Int) (by rw[jP];unfold base at hd;omega),.quo 19 .u64 _ ((a/base^j:Nat):Int) GP,.rw 10 (dh (j+1)) (vI j) (dX j),.wr 11 .i64 ((j:Int)-1) ((j:Int)-1) (oH o_)] k_
 have e:A1 n a (j+1)=[(4,dh (j+1)),(0,sl 0 n),(3,.int .u64 (A:Int))]:=by unfold A1;rw[hA]
 rw[e];exact this
theorem aIj(ha:a<18446744073709551616)(h63:n<35184372088832):
  ag prog Bs 21 (.block 0 (af f174 0)) (A1 n a n) (CG n a) 1 ⟨.normal,A1 n a 0,CG n a,1⟩:=by
 have:=cd (P:=prog) (B:=Bs) (N:=21) (b:=aF (af f174 0)) (next:=1) (r:=⟨.exit 0,A1 n a 0,CG n a,1⟩) n (λi=>A1 n a (n-i)) (λ_=>CG n a) (λi k _=>Iff.rfl)
  (λi hi=>by
   have e:n-i=(n-(i+1))+1:=by omega
   simp only[e];exact aIi o_ ha h63)
  (by
   have e:n-n=0:=by omega
   simp only[e];exact aA [.rw 9 (.bool (decide (((0:Nat):Int)-1>=0))) (.bool false) rfl]) n_
 exact bT this
end
theorem Zw{w:World}{va:Value}{a:Nat}(fY:iw w va a)(ha:a<18446744073709551616)(h1:nd base a<35184372088832):
  Calls prog 174 #[va] w λe w'=>e=.returned (.int .u64 (a:Int))/\Below w.heap.size w w':=by
 have ak:=dS (B:=base) d_ a;have hl:∀ s∈[cA.row va (nd base a) (al (ae base (nd base a) a))],s.OK w:=by intro s hs;simp at hs;subst hs;exact⟨fY,fB _⟩
 unfold iw at fY;generalize nd base a=n at *;have e0:a/base^n=0:=l8 ak;have e1:a/base^0=a:=by simp
 refine lD (Q:=λe w'=>e=.returned (.int .u64 (a:Int))/\Below w.heap.size w w') mixed func174 [cA.row va n (al (ae base n a))] hl 100 (N:=21) k_
  (rs:=[(aY.rw 3 (.int .u64 0) (.int .u64 ((a/base^n:Nat):Int)) (by rw[e0];rfl):aY prog (aa.at w) 21),.wr 7 .i64 ((n:Int)-1) ((n:Int)-1) (oH o_),.code 0 _ _ _ _ _ (aIj (n:=n) (a:=a) ha h1)])
  (v:=.int .u64 ((a/base^0:Nat):Int)) (ms:=[]) k_ λau bY v' w' hc bo _ _=>⟨?_,bo.base⟩
 rw[hc.eU rfl,e1]
end Go.Proofs.YtjjefbkbljlgdaaGreatDoor
